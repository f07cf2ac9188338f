/- What the functions that this law reaches answer, in whatever memory, and the row of the law; no condition. Written by a program of this session (mk.sh). -/
import Derived.Test.YtigpmhicdmjbeaaPWeighNonex0
import Derived.Test.YtigpmhicdmjbeaaPWeighNonex4
namespace Go.Proofs.Ytigpmhicdmjbeaa.PWeighNone
open Go.RowKit Go.Proofs.YtigpmhicdmjbeaaW.PrintWords Go.Proofs.YtigpmhicdmjbeaaW.PrintLast Go.Proofs.YtigpmhicdmjbeaaW.PrintMore
attribute [local go_sem] max2_int min2_int max_two min_two max_three min_three max_four min_four   -- for this text's walks alone
set_option linter.unusedVariables false
set_option linter.unusedSimpArgs false

/-! ### marblerunref09_Best: function 41 -/
def marblerunref09_Best.f (k : Nat) (l0_0 : List (S52)) (l0_1 : List (S64)) (l1 : List Int) : Option (Int) := (marblerunref08_Best.f k l0_0 l0_1 l1).bind fun t164 => (some t164)
theorem marblerunref09_Best.mono : ∀ a0 a1 a2 k, LeO (marblerunref09_Best.f k a0 a1 a2) (marblerunref09_Best.f (k + 1) a0 a1 a2) := by
 intro a0 a1 a2 k
 unfold marblerunref09_Best.f
 repeat' first
  | (with_reducible exact marblerunref08_Best.mono _ _ _ _)
  | (with_reducible exact LeO.refl _)
  | (with_reducible exact LeO.none _)
  | (with_reducible refine LeO.ite ?_ ?_)
  | (with_reducible refine LeO.bind ?_ (fun _ => ?_))
  | exact marblerunref08_Best.mono _ _ _ _
  | exact LeO.none _
  | refine LeO.ite ?_ ?_
  | refine LeO.bind ?_ (fun _ => ?_)
set_option maxHeartbeats 8000000 in
set_option maxRecDepth 100000 in
theorem marblerunref09_Best.calls (k : Nat) (A0_0 : Option Addr) (c0_0 : Nat) (l0_0 : List (S52)) (A0_1 : Option Addr) (c0_1 : Nat) (l0_1 : List (S64)) (A1 : Option Addr) (c1 : Nat) (l1 : List Int) (r : Int) (w : World) (hr0_0 : Kd.C k52 w A0_0 l0_0.length l0_0) (hc0_0 : l0_0.length ≤ c0_0) (hr0_1 : Kd.C k64 w A0_1 l0_1.length l0_1) (hc0_1 : l0_1.length ≤ c0_1) (hr1 : Kd.C (Kd.int .i64) w A1 l1.length l1) (hc1 : l1.length ≤ c1) (h : marblerunref09_Best.f k l0_0 l0_1 l1 = some r) :
 Calls Try.prog 41 #[.agg #[.slice A0_0 l0_0.length c0_0, .slice A0_1 l0_1.length c0_1], .slice A1 l1.length c1] w fun e w' => e = .returned (.int .i64 r) ∧ Below w.heap.size w w' := by
 have hu34 := Try.underlying34; have HR0_0 := Aside0.mk hr0_0; have HC0_0 := Aside0.mk hc0_0; clear hr0_0 hc0_0; have HR0_1 := Aside0.mk hr0_1; have HC0_1 := Aside0.mk hc0_1; clear hr0_1 hc0_1; have HR1 := Aside0.mk hr1; have HC1 := Aside0.mk hc1; clear hr1 hc1; have HB := Aside0.mk (Below.refl w.heap.size w); have H : ((marblerunref08_Best.f k l0_0 l0_1 l1).bind fun t164 => (some t164)) = some r := h; clear h; replace H := Option.bind_eq_some_iff.mp H; obtain ⟨t164, A30, H⟩ := H; replace H : (some t164) = some r := H; have A3 := Aside0.mk A30; clear A30; obtain rfl := Option.some.inj H; go_enter Try.func41, Try.ntmps41; go_wp2_with (first | ((with_reducible refine gate_dst (N := 2) rfl ?_); refine box_event ?hg (N := 2) ?hd (cs := #[.slice A0_0 l0_0.length c0_0, .slice A0_1 l0_1.length c0_1]) (t := 34) ?hr ?_; (case hd => rfl); (case hg => rfl); (case hr => first | (go_simp; done) | (go_simp; rfl)); intro gb163 hg w4 hbox hb; have BK163 := Aside0.mk (hbox); have GW163 := Aside0.mk ((by rw [hg]; exact (below_size (hbq HB.out)) : w.heap.size ≤ gb163)); have GE163 := Aside0.mk ((by rw [hg]; exact (below_size (hbq HB.out)) : w.heap.size ≤ gb163)); replace HB := Aside0.mk (below_step (hbq HB.out) hb); clear hb hbox hg; have hcz5_0 : w4.cell? ⟨gb163, 0, none⟩ = some (.slice A0_0 l0_0.length c0_0) := (blk_cell BK163.out 0).trans rfl; have hcz5_1 : w4.cell? ⟨gb163, 1, none⟩ = some (.slice A0_1 l0_1.length c0_1) := (blk_cell BK163.out 1).trans rfl; have hfz5_0 := blk_frozen BK163.out 0; have hfz5_1 := blk_frozen BK163.out 1) | ((with_reducible refine gate_callee (f := 50) rfl ?_); refine goesL_ (some 7) rfl rfl Try.func50 (by kernel_rfl) rfl #[.agg #[.slice A0_0 l0_0.length c0_0, .slice A0_1 l0_1.length c0_1], .slice A1 l1.length c1] rfl (by (try simp only [List.map_toArray, List.map_cons, List.map_nil]); first | done | rfl | (simp only [List.length_drop, List.length_take]; rfl)) ?_; (with_reducible refine (marblerunref08_Best.calls k _ _ l0_0 _ _ l0_1 _ _ l1 t164 _ ?side1 ?side2 ?side3 ?side4 ?side5 ?side6 A3.out).mono ?_); (case side1 => exact kc (Kd.C_below HR0_0.out HB.out)); (case side2 => exact HC0_0.out); (case side3 => exact kc (Kd.C_below HR0_1.out HB.out)); (case side4 => exact HC0_1.out); (case side5 => exact kc (Kd.C_below HR1.out HB.out)); (case side6 => exact HC1.out); rintro e w6 ⟨rfl, hb⟩; refine ⟨_, rfl, ?_⟩; replace BK163 := Aside0.mk (blk_below (bky BK163.out) hb); replace HB := Aside0.mk (below_step (hbq HB.out) hb); (try clear hb); (try clear hb2); (try clear hk); (try clear hi))); go_ret; exact ⟨by first | rfl | (simp [errW_none, errW_some] <;> rfl) | (simp [*, errW_none, errW_some] <;> rfl), hbq HB.out⟩

/-! ### marblerunref09_Run: function 22 -/
mutual
def marblerunref09_Run.l0 : Nat → Int → Int → List (S52) → List (S64) → List Int → List Int → Int → Option ((List (S48)) × List Int × List Int × Int × Int)
 | 0, _, _, _, _, _, _, _ => none
 | k + 1, x1, x7, x166000, x166001, x168001, x168002, x168003 => if x7 < (x166000.length : Int) then (if 0 ≤ x7 then (if x168001.length < 17592186044416 then (if x168002.length < 17592186044416 then (marblerunref09_Run.l0 k x1 (wrap64 (x7 + 1)) x166000 x166001 (x168001 ++ [(rd_T52 x166000 x7).f1]) (x168002 ++ [0]) x168003) else (none)) else (none)) else (none)) else (marblerunref09_Run.l1 k x1 ([] : List (S88)) 0 x166000 x166001 ([] : List (S48)) x168001 x168002 x168003)
def marblerunref09_Run.l1 : Nat → Int → List (S88) → Int → List (S52) → List (S64) → List (S48) → List Int → List Int → Int → Option ((List (S48)) × List Int × List Int × Int × Int)
 | 0, _, _, _, _, _, _, _, _, _ => none
 | k + 1, x1, x8, x9, x166000, x166001, x168000, x168001, x168002, x168003 => if x9 ≤ x1 then (marblerunref09_Run.l2 k x1 x8 x9 false ([] : List (S88)) 0 x166000 x166001 x168000 x168001 x168002 x9) else (some (x168000, x168001, x168002, x168003, 0))
def marblerunref09_Run.l2 : Nat → Int → List (S88) → Int → Bool → List (S88) → Int → List (S52) → List (S64) → List (S48) → List Int → List Int → Int → Option ((List (S48)) × List Int × List Int × Int × Int)
 | 0, _, _, _, _, _, _, _, _, _, _, _, _ => none
 | k + 1, x1, x8, x9, x10, x11, x12, x166000, x166001, x168000, x168001, x168002, x168003 => if x12 < (x8.length : Int) then (if 0 ≤ x12 then (if ((rd_T88 x8 x12).f0) = x9 then (if 0 ≤ ((rd_T88 x8 x12).f1) then (if ((rd_T88 x8 x12).f1) < (x168002.length : Int) then (if ((rd_T88 x8 x12).f1) < (x168001.length : Int) then (marblerunref09_Run.l2 k x1 x8 x9 x10 x11 (wrap64 (x12 + 1)) x166000 x166001 x168000 (x168001.set (((rd_T88 x8 x12).f1) : Int).toNat (wrap64 ((rd x168001 ((rd_T88 x8 x12).f1)) + ((rd_T88 x8 x12).f2)))) (x168002.set (((rd_T88 x8 x12).f1) : Int).toNat (wrap64 ((rd x168002 ((rd_T88 x8 x12).f1)) - ((rd_T88 x8 x12).f2)))) x168003) else (none)) else (none)) else (none)) else (if x11.length < 5864062014805 then (marblerunref09_Run.l2 k x1 x8 x9 x10 (x11 ++ [(⟨(rd_T88 x8 x12).f0, (rd_T88 x8 x12).f1, (rd_T88 x8 x12).f2⟩ : S88)]) (wrap64 (x12 + 1)) x166000 x166001 x168000 x168001 x168002 x168003) else (none))) else (none)) else (marblerunref09_Run.l3 k x1 x11 x9 x10 0 x166000 x166001 x168000 x168001 x168002 x168003)
def marblerunref09_Run.l3 : Nat → Int → List (S88) → Int → Bool → Int → List (S52) → List (S64) → List (S48) → List Int → List Int → Int → Option ((List (S48)) × List Int × List Int × Int × Int)
 | 0, _, _, _, _, _, _, _, _, _, _, _ => none
 | k + 1, x1, x8, x9, x10, x14, x166000, x166001, x168000, x168001, x168002, x168003 => if x14 < (x168001.length : Int) then (if x10 = true then (marblerunref09_Run.l3 k x1 x8 x9 true (wrap64 (x14 + 1)) x166000 x166001 x168000 x168001 x168002 x168003) else (if 0 ≤ x14 then (marblerunref09_Run.l3 k x1 x8 x9 (decide ((rd x168001 x14) > 1099511627776)) (wrap64 (x14 + 1)) x166000 x166001 x168000 x168001 x168002 x168003) else (none))) else (if x10 = true then (some (x168000, x168001, x168002, x168003, 3)) else (if 0 ≤ (x166001.length : Int) then (if ((x166001.length : Int) : Int).toNat ≤ 35184372088832 then (marblerunref09_Run.l4 k x1 x8 x9 x10 (List.replicate ((x166001.length : Int) : Int).toNat 0) x166000 x166001 x168000 x168001 x168002 x168003) else (none)) else (none)))
def marblerunref09_Run.l4 : Nat → Int → List (S88) → Int → Bool → List Int → List (S52) → List (S64) → List (S48) → List Int → List Int → Int → Option ((List (S48)) × List Int × List Int × Int × Int)
 | 0, _, _, _, _, _, _, _, _, _, _, _ => none
 | k + 1, x1, x8, x9, x10, x15, x166000, x166001, x168000, x168001, x168002, x168003 => (marblerunref09_Best.f k x166000 x166001 x168001).bind fun t188 => (if t188 < 0 then (marblerunref09_Run.l7 k x1 x8 (-1) 0 x166000 x166001 x168000 x168001 x168002 x168003) else (if 0 ≤ t188 then (if t188 < (x166001.length : Int) then (if t188 < (x15.length : Int) then (if (rd x15 t188) = 20 then (some (x168000, x168001, x168002, x168003, 4)) else (if (x168000.length : Int) = 2000 then (some (x168000, x168001, x168002, x168003, 5)) else (if (((rd_T64 x166001 t188).f5).length : Int) > 0 then (marblerunref09_Run.j5 k x1 x8 x9 x10 x15 t188 (decide ((wrap64 (x9 + ((rd_T64 x166001 t188).f1))) > 1099511627776)) x166000 x166001 x168000 x168001 x168002 x168003 ((rd_T64 x166001 t188).f0) ((rd_T64 x166001 t188).f1) ((rd_T64 x166001 t188).f2) ((rd_T64 x166001 t188).f3) ((rd_T64 x166001 t188).f4) ((rd_T64 x166001 t188).f5)) else (marblerunref09_Run.j5 k x1 x8 x9 x10 x15 t188 false x166000 x166001 x168000 x168001 x168002 x168003 ((rd_T64 x166001 t188).f0) ((rd_T64 x166001 t188).f1) ((rd_T64 x166001 t188).f2) ((rd_T64 x166001 t188).f3) ((rd_T64 x166001 t188).f4) ((rd_T64 x166001 t188).f5))))) else (none)) else (none)) else (none)))
def marblerunref09_Run.l7 : Nat → Int → List (S88) → Int → Int → List (S52) → List (S64) → List (S48) → List Int → List Int → Int → Option ((List (S48)) × List Int × List Int × Int × Int)
 | 0, _, _, _, _, _, _, _, _, _, _ => none
 | k + 1, x1, x8, x21, x22, x166000, x166001, x168000, x168001, x168002, x168003 => if x22 < (x8.length : Int) then (if x21 < 0 then (if 0 ≤ x22 then (marblerunref09_Run.l7 k x1 x8 ((rd_T88 x8 x22).f0) (wrap64 (x22 + 1)) x166000 x166001 x168000 x168001 x168002 x168003) else (none)) else (if 0 ≤ x22 then (if ((rd_T88 x8 x22).f0) < x21 then (marblerunref09_Run.l7 k x1 x8 ((rd_T88 x8 x22).f0) (wrap64 (x22 + 1)) x166000 x166001 x168000 x168001 x168002 x168003) else (marblerunref09_Run.l7 k x1 x8 x21 (wrap64 (x22 + 1)) x166000 x166001 x168000 x168001 x168002 x168003)) else (none))) else (if x21 < 0 then (some (x168000, x168001, x168002, x168003, 0)) else (marblerunref09_Run.l1 k x1 x8 x21 x166000 x166001 x168000 x168001 x168002 x168003))
def marblerunref09_Run.j5 : Nat → Int → List (S88) → Int → Bool → List Int → Int → Bool → List (S52) → List (S64) → List (S48) → List Int → List Int → Int → ByteArray → Int → Int → List (S66) → List (S66) → List (S66) → Option ((List (S48)) × List Int × List Int × Int × Int)
 | 0, _, _, _, _, _, _, _, _, _, _, _, _, _, _, _, _, _, _, _ => none
 | k + 1, x1, x8, x9, x10, x15, x16, x144, x166000, x166001, x168000, x168001, x168002, x168003, x191000, x191001, x191002, x191003, x191004, x191005 => if x144 = true then (some (x168000, x168001, x168002, x168003, 3)) else (if 0 ≤ x16 then (if x16 < (x15.length : Int) then (if x168000.length < 8796093022208 then (marblerunref09_Run.l5 k x1 x8 x9 x10 (x15.set (x16 : Int).toNat (wrap64 ((rd x15 x16) + 1))) 0 x166000 x166001 (x168000 ++ [(⟨x9, x16⟩ : S48)]) x168001 x168002 x168003 x191000 x191001 x191002 x191003 x191004 x191005) else (none)) else (none)) else (none))
def marblerunref09_Run.l5 : Nat → Int → List (S88) → Int → Bool → List Int → Int → List (S52) → List (S64) → List (S48) → List Int → List Int → Int → ByteArray → Int → Int → List (S66) → List (S66) → List (S66) → Option ((List (S48)) × List Int × List Int × Int × Int)
 | 0, _, _, _, _, _, _, _, _, _, _, _, _, _, _, _, _, _, _ => none
 | k + 1, x1, x8, x9, x10, x15, x18, x166000, x166001, x168000, x168001, x168002, x168003, x191000, x191001, x191002, x191003, x191004, x191005 => if x18 < (x191003.length : Int) then (if 0 ≤ x18 then (if 0 ≤ ((rd_T66 x191003 x18).f0) then (if ((rd_T66 x191003 x18).f0) < (x168001.length : Int) then (marblerunref09_Run.l5 k x1 x8 x9 x10 x15 (wrap64 (x18 + 1)) x166000 x166001 x168000 (x168001.set (((rd_T66 x191003 x18).f0) : Int).toNat (wrap64 ((rd x168001 ((rd_T66 x191003 x18).f0)) - ((rd_T66 x191003 x18).f1)))) x168002 x168003 x191000 x191001 x191002 x191003 x191004 x191005) else (none)) else (none)) else (none)) else (marblerunref09_Run.l6 k x1 x8 x9 x10 x15 0 x166000 x166001 x168000 x168001 x168002 x168003 x191000 x191001 x191002 x191003 x191004 x191005)
def marblerunref09_Run.l6 : Nat → Int → List (S88) → Int → Bool → List Int → Int → List (S52) → List (S64) → List (S48) → List Int → List Int → Int → ByteArray → Int → Int → List (S66) → List (S66) → List (S66) → Option ((List (S48)) × List Int × List Int × Int × Int)
 | 0, _, _, _, _, _, _, _, _, _, _, _, _, _, _, _, _, _, _ => none
 | k + 1, x1, x8, x9, x10, x15, x19, x166000, x166001, x168000, x168001, x168002, x168003, x191000, x191001, x191002, x191003, x191004, x191005 => if x19 < (x191005.length : Int) then (if 0 ≤ x19 then (if x191001 = 0 then (if 0 ≤ ((rd_T66 x191005 x19).f0) then (if ((rd_T66 x191005 x19).f0) < (x168001.length : Int) then ((some (x168001.set (((rd_T66 x191005 x19).f0) : Int).toNat (wrap64 ((rd x168001 ((rd_T66 x191005 x19).f0)) + ((rd_T66 x191005 x19).f1))) : List Int)).bind fun y204 => (if x10 = true then (marblerunref09_Run.l6 k x1 x8 x9 true x15 (wrap64 (x19 + 1)) x166000 x166001 x168000 y204 x168002 x168003 x191000 x191001 x191002 x191003 x191004 x191005) else (marblerunref09_Run.l6 k x1 x8 x9 (decide ((wrap64 ((rd x168001 ((rd_T66 x191005 x19).f0)) + ((rd_T66 x191005 x19).f1))) > 1099511627776)) x15 (wrap64 (x19 + 1)) x166000 x166001 x168000 y204 x168002 x168003 x191000 x191001 x191002 x191003 x191004 x191005))) else (none)) else (none)) else (if 0 ≤ ((rd_T66 x191005 x19).f0) then (if ((rd_T66 x191005 x19).f0) < (x168002.length : Int) then (if x8.length < 5864062014805 then (marblerunref09_Run.l6 k x1 (x8 ++ [(⟨wrap64 (x9 + x191001), (rd_T66 x191005 x19).f0, (rd_T66 x191005 x19).f1⟩ : S88)]) x9 x10 x15 (wrap64 (x19 + 1)) x166000 x166001 x168000 x168001 (x168002.set (((rd_T66 x191005 x19).f0) : Int).toNat (wrap64 ((rd x168002 ((rd_T66 x191005 x19).f0)) + ((rd_T66 x191005 x19).f1)))) x168003 x191000 x191001 x191002 x191003 x191004 x191005) else (none)) else (none)) else (none))) else (none)) else (if x10 = true then (some (x168000, x168001, x168002, x168003, 3)) else (marblerunref09_Run.l4 k x1 x8 x9 x10 x15 x166000 x166001 x168000 x168001 x168002 x168003))
end
def marblerunref09_Run.f (k : Nat) (l0_0 : List (S52)) (l0_1 : List (S64)) (a1 : Int) : Option ((List (S48)) × List Int × List Int × Int × Int) := marblerunref09_Run.l0 k a1 0 l0_0 l0_1 ([] : List Int) ([] : List Int) 0
theorem marblerunref09_Run.mono_l : ∀ k, (∀ y0 y1 y2 y3 y4 y5 y6, LeO (marblerunref09_Run.l0 k y0 y1 y2 y3 y4 y5 y6) (marblerunref09_Run.l0 (k + 1) y0 y1 y2 y3 y4 y5 y6)) ∧ (∀ y0 y1 y2 y3 y4 y5 y6 y7 y8, LeO (marblerunref09_Run.l1 k y0 y1 y2 y3 y4 y5 y6 y7 y8) (marblerunref09_Run.l1 (k + 1) y0 y1 y2 y3 y4 y5 y6 y7 y8)) ∧ (∀ y0 y1 y2 y3 y4 y5 y6 y7 y8 y9 y10 y11, LeO (marblerunref09_Run.l2 k y0 y1 y2 y3 y4 y5 y6 y7 y8 y9 y10 y11) (marblerunref09_Run.l2 (k + 1) y0 y1 y2 y3 y4 y5 y6 y7 y8 y9 y10 y11)) ∧ (∀ y0 y1 y2 y3 y4 y5 y6 y7 y8 y9 y10, LeO (marblerunref09_Run.l3 k y0 y1 y2 y3 y4 y5 y6 y7 y8 y9 y10) (marblerunref09_Run.l3 (k + 1) y0 y1 y2 y3 y4 y5 y6 y7 y8 y9 y10)) ∧ (∀ y0 y1 y2 y3 y4 y5 y6 y7 y8 y9 y10, LeO (marblerunref09_Run.l4 k y0 y1 y2 y3 y4 y5 y6 y7 y8 y9 y10) (marblerunref09_Run.l4 (k + 1) y0 y1 y2 y3 y4 y5 y6 y7 y8 y9 y10)) ∧ (∀ y0 y1 y2 y3 y4 y5 y6 y7 y8 y9, LeO (marblerunref09_Run.l7 k y0 y1 y2 y3 y4 y5 y6 y7 y8 y9) (marblerunref09_Run.l7 (k + 1) y0 y1 y2 y3 y4 y5 y6 y7 y8 y9)) ∧ (∀ y0 y1 y2 y3 y4 y5 y6 y7 y8 y9 y10 y11 y12 y13 y14 y15 y16 y17 y18, LeO (marblerunref09_Run.j5 k y0 y1 y2 y3 y4 y5 y6 y7 y8 y9 y10 y11 y12 y13 y14 y15 y16 y17 y18) (marblerunref09_Run.j5 (k + 1) y0 y1 y2 y3 y4 y5 y6 y7 y8 y9 y10 y11 y12 y13 y14 y15 y16 y17 y18)) ∧ (∀ y0 y1 y2 y3 y4 y5 y6 y7 y8 y9 y10 y11 y12 y13 y14 y15 y16 y17, LeO (marblerunref09_Run.l5 k y0 y1 y2 y3 y4 y5 y6 y7 y8 y9 y10 y11 y12 y13 y14 y15 y16 y17) (marblerunref09_Run.l5 (k + 1) y0 y1 y2 y3 y4 y5 y6 y7 y8 y9 y10 y11 y12 y13 y14 y15 y16 y17)) ∧ (∀ y0 y1 y2 y3 y4 y5 y6 y7 y8 y9 y10 y11 y12 y13 y14 y15 y16 y17, LeO (marblerunref09_Run.l6 k y0 y1 y2 y3 y4 y5 y6 y7 y8 y9 y10 y11 y12 y13 y14 y15 y16 y17) (marblerunref09_Run.l6 (k + 1) y0 y1 y2 y3 y4 y5 y6 y7 y8 y9 y10 y11 y12 y13 y14 y15 y16 y17))
 | 0 => ⟨fun _ _ _ _ _ _ _ r h => by simp [marblerunref09_Run.l0] at h, fun _ _ _ _ _ _ _ _ _ r h => by simp [marblerunref09_Run.l1] at h, fun _ _ _ _ _ _ _ _ _ _ _ _ r h => by simp [marblerunref09_Run.l2] at h, fun _ _ _ _ _ _ _ _ _ _ _ r h => by simp [marblerunref09_Run.l3] at h, fun _ _ _ _ _ _ _ _ _ _ _ r h => by simp [marblerunref09_Run.l4] at h, fun _ _ _ _ _ _ _ _ _ _ r h => by simp [marblerunref09_Run.l7] at h, fun _ _ _ _ _ _ _ _ _ _ _ _ _ _ _ _ _ _ _ r h => by simp [marblerunref09_Run.j5] at h, fun _ _ _ _ _ _ _ _ _ _ _ _ _ _ _ _ _ _ r h => by simp [marblerunref09_Run.l5] at h, fun _ _ _ _ _ _ _ _ _ _ _ _ _ _ _ _ _ _ r h => by simp [marblerunref09_Run.l6] at h⟩
 | k + 1 => by
  obtain ⟨ih0, ih1, ih2, ih3, ih4, ih5, ih6, ih7, ih8⟩ := marblerunref09_Run.mono_l k
  refine ⟨?_, ?_, ?_, ?_, ?_, ?_, ?_, ?_, ?_⟩
  all_goals
   intros
   first
   | unfold marblerunref09_Run.l0
   | unfold marblerunref09_Run.l1
   | unfold marblerunref09_Run.l2
   | unfold marblerunref09_Run.l3
   | unfold marblerunref09_Run.l4
   | unfold marblerunref09_Run.l7
   | unfold marblerunref09_Run.j5
   | unfold marblerunref09_Run.l5
   | unfold marblerunref09_Run.l6
   repeat' first
   | (with_reducible exact ih0 _ _ _ _ _ _ _)
   | (with_reducible exact ih1 _ _ _ _ _ _ _ _ _)
   | (with_reducible exact ih2 _ _ _ _ _ _ _ _ _ _ _ _)
   | (with_reducible exact ih3 _ _ _ _ _ _ _ _ _ _ _)
   | (with_reducible exact ih4 _ _ _ _ _ _ _ _ _ _ _)
   | (with_reducible exact ih5 _ _ _ _ _ _ _ _ _ _)
   | (with_reducible exact ih6 _ _ _ _ _ _ _ _ _ _ _ _ _ _ _ _ _ _ _)
   | (with_reducible exact ih7 _ _ _ _ _ _ _ _ _ _ _ _ _ _ _ _ _ _)
   | (with_reducible exact ih8 _ _ _ _ _ _ _ _ _ _ _ _ _ _ _ _ _ _)
   | (with_reducible exact marblerunref09_Best.mono _ _ _ _)
   | (with_reducible exact LeO.refl _)
   | (with_reducible exact LeO.none _)
   | (with_reducible refine LeO.ite ?_ ?_)
   | (with_reducible refine LeO.bind ?_ (fun _ => ?_))
   | exact ih0 _ _ _ _ _ _ _
   | exact ih1 _ _ _ _ _ _ _ _ _
   | exact ih2 _ _ _ _ _ _ _ _ _ _ _ _
   | exact ih3 _ _ _ _ _ _ _ _ _ _ _
   | exact ih4 _ _ _ _ _ _ _ _ _ _ _
   | exact ih5 _ _ _ _ _ _ _ _ _ _
   | exact ih6 _ _ _ _ _ _ _ _ _ _ _ _ _ _ _ _ _ _ _
   | exact ih7 _ _ _ _ _ _ _ _ _ _ _ _ _ _ _ _ _ _
   | exact ih8 _ _ _ _ _ _ _ _ _ _ _ _ _ _ _ _ _ _
   | exact marblerunref09_Best.mono _ _ _ _
   | exact LeO.none _
   | refine LeO.ite ?_ ?_
   | refine LeO.bind ?_ (fun _ => ?_)
theorem marblerunref09_Run.mono : ∀ a0 a1 a2 k, LeO (marblerunref09_Run.f k a0 a1 a2) (marblerunref09_Run.f (k + 1) a0 a1 a2) := by
 intro a0 a1 a2 k
 obtain ⟨ih0, ih1, ih2, ih3, ih4, ih5, ih6, ih7, ih8⟩ := marblerunref09_Run.mono_l k
 unfold marblerunref09_Run.f
 repeat' first
  | (with_reducible exact ih0 _ _ _ _ _ _ _)
  | (with_reducible exact ih1 _ _ _ _ _ _ _ _ _)
  | (with_reducible exact ih2 _ _ _ _ _ _ _ _ _ _ _ _)
  | (with_reducible exact ih3 _ _ _ _ _ _ _ _ _ _ _)
  | (with_reducible exact ih4 _ _ _ _ _ _ _ _ _ _ _)
  | (with_reducible exact ih5 _ _ _ _ _ _ _ _ _ _)
  | (with_reducible exact ih6 _ _ _ _ _ _ _ _ _ _ _ _ _ _ _ _ _ _ _)
  | (with_reducible exact ih7 _ _ _ _ _ _ _ _ _ _ _ _ _ _ _ _ _ _)
  | (with_reducible exact ih8 _ _ _ _ _ _ _ _ _ _ _ _ _ _ _ _ _ _)
  | (with_reducible exact marblerunref09_Best.mono _ _ _ _)
  | (with_reducible exact LeO.refl _)
  | (with_reducible exact LeO.none _)
  | (with_reducible refine LeO.ite ?_ ?_)
  | (with_reducible refine LeO.bind ?_ (fun _ => ?_))
  | exact ih0 _ _ _ _ _ _ _
  | exact ih1 _ _ _ _ _ _ _ _ _
  | exact ih2 _ _ _ _ _ _ _ _ _ _ _ _
  | exact ih3 _ _ _ _ _ _ _ _ _ _ _
  | exact ih4 _ _ _ _ _ _ _ _ _ _ _
  | exact ih5 _ _ _ _ _ _ _ _ _ _
  | exact ih6 _ _ _ _ _ _ _ _ _ _ _ _ _ _ _ _ _ _ _
  | exact ih7 _ _ _ _ _ _ _ _ _ _ _ _ _ _ _ _ _ _
  | exact ih8 _ _ _ _ _ _ _ _ _ _ _ _ _ _ _ _ _ _
  | exact marblerunref09_Best.mono _ _ _ _
  | exact LeO.none _
  | refine LeO.ite ?_ ?_
  | refine LeO.bind ?_ (fun _ => ?_)
def marblerunref09_Run.T5 : Bool × List (List Nat × List Nat) := (true, [([], []), ([0], [0]), ([], []), ([2], [2]), ([], []), ([3, 4], [3, 4]), ([5], [5]), ([6], [6]), ([7], [7]), ([1, 8], [1, 8]), ([0, 1, 2, 3, 4, 5, 6, 7, 8, 9], []), ([10, 9, 9, 0, 1, 2, 3, 4, 5, 6, 7, 8, 9], [9, 10])])
def marblerunref09_Run.B5 : List Nat := [0, 1, 0, 4, 0, 28, 60, 124, 252, 511, 1023, 2047]
theorem marblerunref09_Run.tab5 : rtab .any (opsOf Try.f22 5) = marblerunref09_Run.T5 := by kernel_rfl
theorem marblerunref09_Run.bits5 : waitsOk marblerunref09_Run.T5.2 marblerunref09_Run.B5 = true := by kernel_rfl
def marblerunref09_Run.T19 : Bool × List (List Nat × List Nat) := (true, [([], []), ([0], [0]), ([], []), ([2], [2]), ([1, 3], [1, 3]), ([4], [4]), ([], []), ([6], [6]), ([5, 7], [5, 7]), ([1, 3, 0, 1, 2, 3, 4, 5, 6, 7, 8], [1, 3]), ([9, 8, 0, 1, 2, 3, 4, 5, 6, 7, 8], [8, 9])])
def marblerunref09_Run.B19 : List Nat := [0, 1, 0, 4, 15, 31, 0, 64, 255, 511, 1023]
theorem marblerunref09_Run.tab19 : rtab .any (opsOf Try.f22 19) = marblerunref09_Run.T19 := by kernel_rfl
theorem marblerunref09_Run.bits19 : waitsOk marblerunref09_Run.T19.2 marblerunref09_Run.B19 = true := by kernel_rfl
def marblerunref09_Run.T20 : Bool × List (List Nat × List Nat) := (true, [([], []), ([0], [0]), ([], []), ([2], [2]), ([1, 3], [1, 3]), ([4], [4]), ([], []), ([6], [6]), ([5, 7], [5, 7]), ([1, 3, 0, 1, 2, 3, 4, 5, 6, 7, 8], [1, 3]), ([9, 8, 0, 1, 2, 3, 4, 5, 6, 7, 8], [8, 9])])
def marblerunref09_Run.B20 : List Nat := [0, 1, 0, 4, 15, 31, 0, 64, 255, 511, 1023]
theorem marblerunref09_Run.tab20 : rtab .any (opsOf Try.f22 20) = marblerunref09_Run.T20 := by kernel_rfl
theorem marblerunref09_Run.bits20 : waitsOk marblerunref09_Run.T20.2 marblerunref09_Run.B20 = true := by kernel_rfl
def marblerunref09_Run.T43 : Bool × List (List Nat × List Nat) := (true, [([], []), ([0], [0]), ([], []), ([2], [2]), ([], []), ([3, 4], [3, 4]), ([5], [5]), ([6], [6]), ([1, 7], [1, 7]), ([8], [8]), ([], []), ([10], [10]), ([], []), ([11, 12], [11, 12]), ([13], [13]), ([14], [14]), ([9, 15], [9, 15]), ([1, 7, 0, 1, 2, 3, 4, 5, 6, 7, 8, 9, 10, 11, 12, 13, 14, 15, 16], [1, 7]), ([17, 16, 0, 1, 2, 3, 4, 5, 6, 7, 8, 9, 10, 11, 12, 13, 14, 15, 16], [16, 17])])
def marblerunref09_Run.B43 : List Nat := [0, 1, 0, 4, 0, 28, 60, 124, 255, 511, 0, 1024, 0, 7168, 15360, 31744, 65535, 131071, 262143]
theorem marblerunref09_Run.tab43 : rtab .any (opsOf Try.f22 43) = marblerunref09_Run.T43 := by kernel_rfl
theorem marblerunref09_Run.bits43 : waitsOk marblerunref09_Run.T43.2 marblerunref09_Run.B43 = true := by kernel_rfl
def marblerunref09_Run.T49 : Bool × List (List Nat × List Nat) := (true, [([], []), ([0], [0]), ([], []), ([2], [2]), ([1, 3], [1, 3]), ([4], [4]), ([], []), ([6], [6]), ([5, 7], [5, 7]), ([1, 3, 0, 1, 2, 3, 4, 5, 6, 7, 8], [1, 3]), ([9, 8, 0, 1, 2, 3, 4, 5, 6, 7, 8], [8, 9])])
def marblerunref09_Run.B49 : List Nat := [0, 1, 0, 4, 15, 31, 0, 64, 255, 511, 1023]
theorem marblerunref09_Run.tab49 : rtab .any (opsOf Try.f22 49) = marblerunref09_Run.T49 := by kernel_rfl
theorem marblerunref09_Run.bits49 : waitsOk marblerunref09_Run.T49.2 marblerunref09_Run.B49 = true := by kernel_rfl
def marblerunref09_Run.T51 : Bool × List (List Nat × List Nat) := (true, [([], []), ([0], [0]), ([], []), ([2], [2]), ([1, 3], [1, 3]), ([4], [4]), ([], []), ([6], [6]), ([5, 7], [5, 7]), ([1, 3, 0, 1, 2, 3, 4, 5, 6, 7, 8], [1, 3]), ([9, 8, 0, 1, 2, 3, 4, 5, 6, 7, 8], [8, 9])])
def marblerunref09_Run.B51 : List Nat := [0, 1, 0, 4, 15, 31, 0, 64, 255, 511, 1023]
theorem marblerunref09_Run.tab51 : rtab .any (opsOf Try.f22 51) = marblerunref09_Run.T51 := by kernel_rfl
theorem marblerunref09_Run.bits51 : waitsOk marblerunref09_Run.T51.2 marblerunref09_Run.B51 = true := by kernel_rfl

end Go.Proofs.Ytigpmhicdmjbeaa.PWeighNone
