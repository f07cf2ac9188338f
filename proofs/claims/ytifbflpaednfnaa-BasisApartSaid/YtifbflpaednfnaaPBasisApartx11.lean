/- What the functions that this law reaches answer, in whatever memory, and the row of the law; no condition. Written by a program of this session (mk.sh). -/
import Derived.Test.YtifbflpaednfnaaPBasisApartx0
import Derived.Test.YtifbflpaednfnaaPBasisApartx9
import Derived.Test.YtifbflpaednfnaaPBasisApartx10
namespace Go.Proofs.Ytifbflpaednfnaa.PBasisApart
open Go.RowKit Go.Proofs.YtifbflpaednfnaaW.PrintWords Go.Proofs.YtifbflpaednfnaaW.PrintLast Go.Proofs.YtifbflpaednfnaaW.PrintMore
attribute [local go_sem] max2_int min2_int max_two min_two max_three min_three max_four min_four   -- for this text's walks alone
set_option linter.unusedVariables false
set_option linter.unusedSimpArgs false

/-! ### marblerunlaw12_BasisApart: function 3 -/
mutual
def marblerunlaw12_BasisApart.j0 : Nat → Bool → List Int → List (S60) → Option (Bool)
 | 0, _, _, _ => none
 | k + 1, x16, x377000, x377001 => if x16 = true then ((marblerunlaw12_awake.f k).bind fun t379 => (some t379)) else ((marblerunref05_Make.f k x377000 x377001).bind fun bt380 => ((basis_Places.f k bt380.1 bt380.2).bind fun bt387 => (marblerunlaw12_BasisApart.l0 k bt387.1 bt387.2 0 bt380.1 bt380.2)))
def marblerunlaw12_BasisApart.l0 : Nat → List (List Int) → Int → Int → List (S46) → List (S54) → Option (Bool)
 | 0, _, _, _, _, _ => none
 | k + 1, x4, x5, x6, x387000, x387001 => if x6 < (x4.length : Int) then (marblerunlaw12_BasisApart.l1 k x4 x5 x6 0 x387000 x387001) else (if x5 = 0 then (some (decide ((x4.length : Int) ≤ 400))) else (some true))
def marblerunlaw12_BasisApart.l1 : Nat → List (List Int) → Int → Int → Int → List (S46) → List (S54) → Option (Bool)
 | 0, _, _, _, _, _, _ => none
 | k + 1, x4, x5, x6, x7, x387000, x387001 => if x7 < (x4.length : Int) then (marblerunlaw12_BasisApart.l2 k x4 x5 x6 x7 true 0 x387000 x387001) else (marblerunlaw12_BasisApart.l0 k x4 x5 (wrap64 (x6 + 1)) x387000 x387001)
def marblerunlaw12_BasisApart.l2 : Nat → List (List Int) → Int → Int → Int → Bool → Int → List (S46) → List (S54) → Option (Bool)
 | 0, _, _, _, _, _, _, _, _ => none
 | k + 1, x4, x5, x6, x7, x8, x9, x387000, x387001 => if 0 ≤ x6 then (if x6 < (x4.length : Int) then (if x9 < ((rd_L1 x4 x6).length : Int) then (if x8 = true then (if 0 ≤ x9 then (if (rd (rd_L1 x4 x6) x9) = 0 then (marblerunlaw12_BasisApart.l2 k x4 x5 x6 x7 true (wrap64 (x9 + 1)) x387000 x387001) else (if 0 ≤ x7 then (if x7 < (x4.length : Int) then (if x9 < ((rd_L1 x4 x7).length : Int) then (marblerunlaw12_BasisApart.l2 k x4 x5 x6 x7 ((rd (rd_L1 x4 x7) x9) != 0) (wrap64 (x9 + 1)) x387000 x387001) else (none)) else (none)) else (none))) else (none)) else (marblerunlaw12_BasisApart.l2 k x4 x5 x6 x7 false (wrap64 (x9 + 1)) x387000 x387001)) else (if x8 = true then (if x6 = x7 then (marblerunlaw12_BasisApart.l1 k x4 x5 x6 (wrap64 (x7 + 1)) x387000 x387001) else (if (x387001.length : Int) > 0 then (some false) else (marblerunlaw12_BasisApart.l1 k x4 x5 x6 (wrap64 (x7 + 1)) x387000 x387001))) else (marblerunlaw12_BasisApart.l1 k x4 x5 x6 (wrap64 (x7 + 1)) x387000 x387001))) else (none)) else (none)
end
def marblerunlaw12_BasisApart.f (k : Nat) (l0_0 : List Int) (l0_1 : List (S60)) : Option (Bool) := (marblerunlaw12_awake.f k).bind fun t377 => (if t377 = true then ((marblerunlaw12_few.f l0_0 l0_1).bind fun t378 => (marblerunlaw12_BasisApart.j0 k (!t378) l0_0 l0_1)) else (marblerunlaw12_BasisApart.j0 k true l0_0 l0_1))
theorem marblerunlaw12_BasisApart.mono_l : ∀ k, (∀ y0 y1 y2, LeO (marblerunlaw12_BasisApart.j0 k y0 y1 y2) (marblerunlaw12_BasisApart.j0 (k + 1) y0 y1 y2)) ∧ (∀ y0 y1 y2 y3 y4, LeO (marblerunlaw12_BasisApart.l0 k y0 y1 y2 y3 y4) (marblerunlaw12_BasisApart.l0 (k + 1) y0 y1 y2 y3 y4)) ∧ (∀ y0 y1 y2 y3 y4 y5, LeO (marblerunlaw12_BasisApart.l1 k y0 y1 y2 y3 y4 y5) (marblerunlaw12_BasisApart.l1 (k + 1) y0 y1 y2 y3 y4 y5)) ∧ (∀ y0 y1 y2 y3 y4 y5 y6 y7, LeO (marblerunlaw12_BasisApart.l2 k y0 y1 y2 y3 y4 y5 y6 y7) (marblerunlaw12_BasisApart.l2 (k + 1) y0 y1 y2 y3 y4 y5 y6 y7))
 | 0 => ⟨fun _ _ _ r h => by simp [marblerunlaw12_BasisApart.j0] at h, fun _ _ _ _ _ r h => by simp [marblerunlaw12_BasisApart.l0] at h, fun _ _ _ _ _ _ r h => by simp [marblerunlaw12_BasisApart.l1] at h, fun _ _ _ _ _ _ _ _ r h => by simp [marblerunlaw12_BasisApart.l2] at h⟩
 | k + 1 => by
  obtain ⟨ih0, ih1, ih2, ih3⟩ := marblerunlaw12_BasisApart.mono_l k
  refine ⟨?_, ?_, ?_, ?_⟩
  all_goals
   intros
   first
   | unfold marblerunlaw12_BasisApart.j0
   | unfold marblerunlaw12_BasisApart.l0
   | unfold marblerunlaw12_BasisApart.l1
   | unfold marblerunlaw12_BasisApart.l2
   repeat' first
   | (with_reducible exact ih0 _ _ _)
   | (with_reducible exact ih1 _ _ _ _ _)
   | (with_reducible exact ih2 _ _ _ _ _ _)
   | (with_reducible exact ih3 _ _ _ _ _ _ _ _)
   | (with_reducible exact basis_Places.mono _ _ _)
   | (with_reducible exact marblerunlaw12_awake.mono _)
   | (with_reducible exact marblerunref05_Make.mono _ _ _)
   | (with_reducible exact LeO.refl _)
   | (with_reducible exact LeO.none _)
   | (with_reducible refine LeO.ite ?_ ?_)
   | (with_reducible refine LeO.bind ?_ (fun _ => ?_))
   | exact ih0 _ _ _
   | exact ih1 _ _ _ _ _
   | exact ih2 _ _ _ _ _ _
   | exact ih3 _ _ _ _ _ _ _ _
   | exact basis_Places.mono _ _ _
   | exact marblerunlaw12_awake.mono _
   | exact marblerunref05_Make.mono _ _ _
   | exact LeO.none _
   | refine LeO.ite ?_ ?_
   | refine LeO.bind ?_ (fun _ => ?_)
theorem marblerunlaw12_BasisApart.mono : ∀ a0 a1 k, LeO (marblerunlaw12_BasisApart.f k a0 a1) (marblerunlaw12_BasisApart.f (k + 1) a0 a1) := by
 intro a0 a1 k
 obtain ⟨ih0, ih1, ih2, ih3⟩ := marblerunlaw12_BasisApart.mono_l k
 unfold marblerunlaw12_BasisApart.f
 repeat' first
  | (with_reducible exact ih0 _ _ _)
  | (with_reducible exact ih1 _ _ _ _ _)
  | (with_reducible exact ih2 _ _ _ _ _ _)
  | (with_reducible exact ih3 _ _ _ _ _ _ _ _)
  | (with_reducible exact basis_Places.mono _ _ _)
  | (with_reducible exact marblerunlaw12_awake.mono _)
  | (with_reducible exact marblerunref05_Make.mono _ _ _)
  | (with_reducible exact LeO.refl _)
  | (with_reducible exact LeO.none _)
  | (with_reducible refine LeO.ite ?_ ?_)
  | (with_reducible refine LeO.bind ?_ (fun _ => ?_))
  | exact ih0 _ _ _
  | exact ih1 _ _ _ _ _
  | exact ih2 _ _ _ _ _ _
  | exact ih3 _ _ _ _ _ _ _ _
  | exact basis_Places.mono _ _ _
  | exact marblerunlaw12_awake.mono _
  | exact marblerunref05_Make.mono _ _ _
  | exact LeO.none _
  | refine LeO.ite ?_ ?_
  | refine LeO.bind ?_ (fun _ => ?_)
set_option maxHeartbeats 8000000 in
set_option maxRecDepth 100000 in
theorem marblerunlaw12_BasisApart.calls (k : Nat) (A0_0 : Option Addr) (c0_0 : Nat) (l0_0 : List Int) (A0_1 : Option Addr) (c0_1 : Nat) (l0_1 : List (S60)) (r : Bool) (w : World) (hr0_0 : Kd.C (Kd.int .u8) w A0_0 l0_0.length l0_0) (hc0_0 : l0_0.length ≤ c0_0) (hr0_1 : Kd.C k60 w A0_1 l0_1.length l0_1) (hc0_1 : l0_1.length ≤ c0_1) (h : marblerunlaw12_BasisApart.f k l0_0 l0_1 = some r) :
 Calls Try.prog 3 #[.agg #[.slice A0_0 l0_0.length c0_0, .slice A0_1 l0_1.length c0_1]] w fun e w' => e = .returned (.bool r) ∧ Below w.heap.size w w' := by
 have hu25 := Try.underlying25
 have hu31 := Try.underlying31
 have HR0_0 := Aside0.mk hr0_0
 have HC0_0 := Aside0.mk hc0_0
 clear hr0_0 hc0_0
 have HR0_1 := Aside0.mk hr0_1
 have HC0_1 := Aside0.mk hc0_1
 clear hr0_1 hc0_1
 have HB := Aside0.mk (Below.refl w.heap.size w)
 have H : ((marblerunlaw12_awake.f k).bind fun t377 => (if t377 = true then ((marblerunlaw12_few.f l0_0 l0_1).bind fun t378 => (marblerunlaw12_BasisApart.j0 k (!t378) l0_0 l0_1)) else (marblerunlaw12_BasisApart.j0 k true l0_0 l0_1))) = some r := h
 clear h
 have HC2 := Aside0.mk H
 clear H
 go_enter Try.func3, Try.ntmps3
 go_upto_region 1 with (first | ((with_reducible refine gate_dst (N := 1) rfl ?_); (try (refine gate_guard (by rfl) ?_; dsimp only)); refine box_event ?hg (N := 1) ?hd (cs := #[.slice A0_0 l0_0.length c0_0, .slice A0_1 l0_1.length c0_1]) (t := 25) ?hr ?_; (case hd => rfl); (case hg => rfl); (case hr => first | (go_simp; done) | (go_simp; rfl)); intro gb376 hg w3 hbox hb; have n0_ := Aside0.mk (below_step (hbq HB.out) hb); have n1_ := Aside0.mk (hbox); have n2_ := Aside0.mk ((by rw [hg]; exact (below_size (hbq HB.out)) : w.heap.size ≤ gb376)); have n3_ := Aside0.mk ((by rw [hg]; exact (below_size (hbq HB.out)) : w.heap.size ≤ gb376)); clear HB; have HB := n0_; have BK376 := n1_; have GW376 := n2_; have GE376 := n3_; clear n0_ n1_ n2_ n3_; clear hb hbox hg))
 (try simp only [Act.put, List.setIfInBounds_toArray, List.set_cons_zero, List.set_cons_succ])
 go_cut [16] (fun v16 wc => ∃ (kq : Nat) (x16_1 : Bool), v16 = .bool x16_1 ∧ Aside0 (marblerunlaw12_BasisApart.j0 kq x16_1 l0_0 l0_1 = some r) ∧ Aside0 (kq ≤ k) ∧ Aside0 (wc.heap[gb376]? = some (.cells #[(.slice A0_0 l0_0.length c0_0), (.slice A0_1 l0_1.length c0_1)] 25 (0, 0))) ∧ Aside0 (Below w.heap.size w wc))
 case first =>
  have H := HC2.out
  clear HC2
  replace H := Option.bind_eq_some_iff.mp H
  obtain ⟨t377, A40, H⟩ := H
  replace H : (if t377 = true then ((marblerunlaw12_few.f l0_0 l0_1).bind fun t378 => (marblerunlaw12_BasisApart.j0 k (!t378) l0_0 l0_1)) else (marblerunlaw12_BasisApart.j0 k true l0_0 l0_1)) = some r := H
  have A4 := Aside0.mk A40
  clear A40
  by_cases c5 : t377 = true
  ·subst c5
   have H1 : ((marblerunlaw12_few.f l0_0 l0_1).bind fun t378 => (marblerunlaw12_BasisApart.j0 k (!t378) l0_0 l0_1)) = some r := by rw [if_pos rfl] at H; exact H
   clear H
   have H := H1
   clear H1
   replace H := Option.bind_eq_some_iff.mp H
   obtain ⟨t378, A60, H⟩ := H
   replace H : (marblerunlaw12_BasisApart.j0 k (!t378) l0_0 l0_1) = some r := H
   have A6 := Aside0.mk A60
   clear A60
   have H' := Aside0.mk H
   clear H
   go_wp2_with (first | ((with_reducible refine gate_callee (f := 10) rfl ?_); refine goesL_ (some 10) rfl rfl Try.func10 (by kernel_rfl) rfl #[] rfl (by (try simp only [List.map_toArray, List.map_cons, List.map_nil]); first | done | rfl | (simp only [List.length_drop, List.length_take]; rfl)) ?_; (with_reducible refine (marblerunlaw12_awake.calls k  true _ A4.out).mono ?_); rintro e w7 ⟨rfl, hb⟩; refine ⟨_, rfl, ?_⟩; have n0_ := Aside0.mk (blk_below (g := gb376) (o := .cells #[.slice A0_0 l0_0.length c0_0, .slice A0_1 l0_1.length c0_1] 25 (0, 0)) (bkq BK376.out) hb); have n1_ := Aside0.mk (below_step (hbq HB.out) hb); clear BK376; clear HB; have BK376 := n0_; have HB := n1_; clear n0_ n1_; (try clear hb); (try clear hb2); (try clear hk); (try clear hi); have hcz8_0 : w7.cell? ⟨gb376, 0, none⟩ = some (.slice A0_0 l0_0.length c0_0) := (blk_cell BK376.out 0).trans rfl; have hcz8_1 : w7.cell? ⟨gb376, 1, none⟩ = some (.slice A0_1 l0_1.length c0_1) := (blk_cell BK376.out 1).trans rfl; have hfz8_0 := blk_frozen BK376.out 0; have hfz8_1 := blk_frozen BK376.out 1) | (go_at_call 11; (with_reducible refine (marblerunlaw12_few.calls _ _ l0_0 _ _ l0_1 t378 _ ?side1 ?side2 ?side3 ?side4 A6.out).mono ?_); (case side1 => repeat (first | exact (Kd.C_below HR0_0.out HB.out) | (with_reducible refine Kd.C_alloc ?_ _) | (with_reducible refine Kd.C_drewN ?_ _) | (with_reducible refine Kd.C_drew ?_))); (case side2 => exact HC0_0.out); (case side3 => repeat (first | exact (Kd.C_below HR0_1.out HB.out) | (with_reducible refine Kd.C_alloc ?_ _) | (with_reducible refine Kd.C_drewN ?_ _) | (with_reducible refine Kd.C_drew ?_))); (case side4 => exact HC0_1.out); rintro e w9 ⟨rfl, hb⟩; have n0_ := Aside0.mk (blk_below (g := gb376) (o := .cells #[.slice A0_0 l0_0.length c0_0, .slice A0_1 l0_1.length c0_1] 25 (0, 0)) (bkq BK376.out) hb); have n1_ := Aside0.mk (below_step (hbq HB.out) hb); clear BK376; clear HB; have BK376 := n0_; have HB := n1_; clear n0_ n1_; (try clear hb); (try clear hb2); (try clear hk); (try clear hi)))
   go_meet
   case rel => exact ⟨_, (!t378), (by first | rfl | (simp; done) | (simp [*]; done)), H', ⟨by first | omega | exact Nat.le_refl _⟩, ⟨by refine bkq ?_; exact BK376.out⟩, ⟨hbq HB.out⟩⟩
  replace c5 := Bool.eq_false_iff.mpr c5
  subst c5
  have H1 : (marblerunlaw12_BasisApart.j0 k true l0_0 l0_1) = some r := by rw [if_neg (show ¬ (false = true) by decide)] at H; exact H
  clear H
  have H := H1
  clear H1
  have H' := Aside0.mk H
  clear H
  go_wp2_with (first | ((with_reducible refine gate_callee (f := 10) rfl ?_); refine goesL_ (some 10) rfl rfl Try.func10 (by kernel_rfl) rfl #[] rfl (by (try simp only [List.map_toArray, List.map_cons, List.map_nil]); first | done | rfl | (simp only [List.length_drop, List.length_take]; rfl)) ?_; (with_reducible refine (marblerunlaw12_awake.calls k  false _ A4.out).mono ?_); rintro e w10 ⟨rfl, hb⟩; refine ⟨_, rfl, ?_⟩; have n0_ := Aside0.mk (blk_below (g := gb376) (o := .cells #[.slice A0_0 l0_0.length c0_0, .slice A0_1 l0_1.length c0_1] 25 (0, 0)) (bkq BK376.out) hb); have n1_ := Aside0.mk (below_step (hbq HB.out) hb); clear BK376; clear HB; have BK376 := n0_; have HB := n1_; clear n0_ n1_; (try clear hb); (try clear hb2); (try clear hk); (try clear hi)))
  go_meet
  case rel => exact ⟨_, (true), (by first | rfl | (simp; done) | (simp [*]; done)), H', ⟨by first | omega | exact Nat.le_refl _⟩, ⟨by refine bkq ?_; exact BK376.out⟩, ⟨hbq HB.out⟩⟩
 clear HC2
 try clear c1
 try clear p2
 try clear c3
 try clear c5
 try clear c10
 try clear hcz8_0
 try clear hcz8_1
 try clear hfz8_0
 try clear hfz8_1
 obtain ⟨kq, x16_1, rfl, HA, HJ1, BK376, HB⟩ := hcut
 cases kq with
 | zero => exact absurd HA.out (by simp [marblerunlaw12_BasisApart.j0])
 | succ kj1 =>
  have H := HA.out
  clear HA
  simp only [marblerunlaw12_BasisApart.j0] at H
  by_cases c11 : x16_1 = true
  ·subst c11
   have H1 : ((marblerunlaw12_awake.f kj1).bind fun t379 => (some t379)) = some r := by rw [if_pos rfl] at H; exact H
   clear H
   have H := H1
   clear H1
   replace H := Option.bind_eq_some_iff.mp H
   obtain ⟨t379, A120, H⟩ := H
   replace H : (some t379) = some r := H
   have A12 := Aside0.mk A120
   clear A120
   obtain rfl := Option.some.inj H
   go_wp2_with (first | ((with_reducible refine gate_callee (f := 10) rfl ?_); refine goesL_ (some 17) rfl rfl Try.func10 (by kernel_rfl) rfl #[] rfl (by (try simp only [List.map_toArray, List.map_cons, List.map_nil]); first | done | rfl | (simp only [List.length_drop, List.length_take]; rfl)) ?_; (with_reducible refine (marblerunlaw12_awake.calls kj1  t379 _ A12.out).mono ?_); rintro e w13 ⟨rfl, hb⟩; refine ⟨_, rfl, ?_⟩; have n0_ := Aside0.mk (blk_below (g := gb376) (o := .cells #[.slice A0_0 l0_0.length c0_0, .slice A0_1 l0_1.length c0_1] 25 (0, 0)) (bkq BK376.out) hb); have n1_ := Aside0.mk (below_step (hbq HB.out) hb); clear BK376; clear HB; have BK376 := n0_; have HB := n1_; clear n0_ n1_; (try clear hb); (try clear hb2); (try clear hk); (try clear hi)))
   go_ret
   exact ⟨by first | rfl | (simp [errW_none, errW_some] <;> rfl) | (simp [*, errW_none, errW_some] <;> rfl), hbq HB.out⟩
  replace c11 := Bool.eq_false_iff.mpr c11
  subst c11
  have H1 : ((marblerunref05_Make.f kj1 l0_0 l0_1).bind fun bt380 => ((basis_Places.f kj1 bt380.1 bt380.2).bind fun bt387 => (marblerunlaw12_BasisApart.l0 kj1 bt387.1 bt387.2 0 bt380.1 bt380.2))) = some r := by rw [if_neg (show ¬ (false = true) by decide)] at H; exact H
  clear H
  have H := H1
  clear H1
  replace H := Option.bind_eq_some_iff.mp H
  obtain ⟨⟨t380, t383⟩, A140, H⟩ := H
  replace H : ((basis_Places.f kj1 t380 t383).bind fun bt387 => (marblerunlaw12_BasisApart.l0 kj1 bt387.1 bt387.2 0 t380 t383)) = some r := H
  have A14 := Aside0.mk A140
  clear A140
  replace H := Option.bind_eq_some_iff.mp H
  obtain ⟨⟨t387, t390⟩, A150, H⟩ := H
  replace H : (marblerunlaw12_BasisApart.l0 kj1 t387 t390 0 t380 t383) = some r := H
  have A15 := Aside0.mk A150
  clear A150
  have H' := Aside0.mk H
  clear H
  have hcz16_0 : wc.cell? ⟨gb376, 0, none⟩ = some (.slice A0_0 l0_0.length c0_0) := (blk_cell BK376.out 0).trans rfl
  have hcz16_1 : wc.cell? ⟨gb376, 1, none⟩ = some (.slice A0_1 l0_1.length c0_1) := (blk_cell BK376.out 1).trans rfl
  have hfz16_0 := blk_frozen BK376.out 0
  have hfz16_1 := blk_frozen BK376.out 1
  go_wp2_with (first | ((with_reducible refine gate_callee (f := 12) rfl ?_); refine goesL_ (some 19) rfl rfl Try.func12 (by kernel_rfl) rfl #[.agg #[.slice A0_0 l0_0.length c0_0, .slice A0_1 l0_1.length c0_1]] rfl (by (try simp only [List.map_toArray, List.map_cons, List.map_nil]); first | done | rfl | (simp only [List.length_drop, List.length_take]; rfl)) ?_; (with_reducible refine (marblerunref05_Make.calls kj1 _ _ l0_0 _ _ l0_1 t380 t383 _ ?side1 ?side2 ?side3 ?side4 A14.out).mono ?_); (case side1 => repeat (first | exact (Kd.C_below HR0_0.out HB.out) | (with_reducible refine Kd.C_alloc ?_ _) | (with_reducible refine Kd.C_drewN ?_ _) | (with_reducible refine Kd.C_drew ?_))); (case side2 => exact HC0_0.out); (case side3 => repeat (first | exact (Kd.C_below HR0_1.out HB.out) | (with_reducible refine Kd.C_alloc ?_ _) | (with_reducible refine Kd.C_drewN ?_ _) | (with_reducible refine Kd.C_drew ?_))); (case side4 => exact HC0_1.out); rintro e w17 ⟨v381, v384, rfl, ho0, ho1, hb⟩; refine ⟨_, rfl, ?_⟩; have n0_ := Aside0.mk (Kd.R_lower ho0 (below_size (hbq HB.out))); have n1_ := Aside0.mk (Kd.N_lower (Kd.N_mono (ok' := fun k_ => some k_ ≠ (v381 : Value).ownBlock ∧ k_ ≠ gb376) (Kd.S_N (Kd.S_bound (Kd.S_apart' ho1 (Kd.R_typed ho0) (by decide)))) (fun k_ hk_ => ⟨hk_.1.2, (Kd.freshB (g := gb376) (o := .cells #[.slice A0_0 l0_0.length c0_0, .slice A0_1 l0_1.length c0_1] 25 (0, 0)) (bkq BK376.out) k_ hk_.2.1)⟩)) (below_size (hbq HB.out))); have n2_ := Aside0.mk (blk_below (g := gb376) (o := .cells #[.slice A0_0 l0_0.length c0_0, .slice A0_1 l0_1.length c0_1] 25 (0, 0)) (bkq BK376.out) hb); have n3_ := Aside0.mk (below_step (hbq HB.out) hb); clear BK376; clear HB; have HO382 := n0_; have HO385 := n1_; have BK376 := n2_; have HB := n3_; clear n0_ n1_ n2_ n3_; (try clear hb); (try clear hb2); (try clear hk); (try clear hi); (try clear ho0); (try clear ho1)) | ((with_reducible refine gate_dst (N := 3) rfl ?_); (try (refine gate_guard (by rfl) ?_; dsimp only)); refine box_event ?hg (N := 3) ?hd (cs := #[.slice none 0 0, .slice none 0 0]) (t := 31) ?hr ?_; (case hd => rfl); (case hg => rfl); (case hr => first | (go_simp; done) | (go_simp; rfl)); intro gb386 hg w18 hbox hb; have n0_ := Aside0.mk (Kd.R_below (kq_R HO382.out) hb); have n1_ := Aside0.mk (Kd.N_below (Kd.N_elderB (kq_N HO385.out) gb386 (Nat.le_of_eq hg.symm)) hb); have n2_ := Aside0.mk (blk_below (g := gb376) (o := .cells #[.slice A0_0 l0_0.length c0_0, .slice A0_1 l0_1.length c0_1] 25 (0, 0)) (bkq BK376.out) hb); have n3_ := Aside0.mk (below_step (hbq HB.out) hb); have n4_ := Aside0.mk (hbox); have n5_ := Aside0.mk ((by rw [hg]; exact (below_size (hbq HB.out)) : w.heap.size ≤ gb386)); have n6_ := Aside0.mk ((by rw [hg]; exact (below_size (hbq HB.out)) : w.heap.size ≤ gb386)); have n7_ := Aside0.mk ((by rw [hg]; exact Nat.ne_of_lt (blk_lt (g := gb376) (o := .cells #[.slice A0_0 l0_0.length c0_0, .slice A0_1 l0_1.length c0_1] 25 (0, 0)) (bkq BK376.out)) : gb376 ≠ gb386)); have n8_ := Aside0.mk ((by rw [hg]; exact Nat.ne_of_gt (blk_lt (g := gb376) (o := .cells #[.slice A0_0 l0_0.length c0_0, .slice A0_1 l0_1.length c0_1] 25 (0, 0)) (bkq BK376.out)) : gb386 ≠ gb376)); clear HO382; clear HO385; clear BK376; clear HB; have HO382 := n0_; have HO385 := n1_; have BK376 := n2_; have HB := n3_; have BK386 := n4_; have GW386 := n5_; have GE386 := n6_; have NB376_386 := n7_; have NB386_376 := n8_; clear n0_ n1_ n2_ n3_ n4_ n5_ n6_ n7_ n8_; clear hb hbox hg; obtain ⟨Ao19, co19, eo19⟩ := Kd.R_slice HO382.out; subst eo19; have hnb20 := NB386_376.out; have hnc20 := NB376_386.out; have hcz21_0 : w18.cell? ⟨gb386, 0, none⟩ = some (.slice none 0 0) := (blk_cell BK386.out 0).trans rfl; have hcz21_1 : w18.cell? ⟨gb386, 1, none⟩ = some (.slice none 0 0) := (blk_cell BK386.out 1).trans rfl; have hfz21_0 := blk_frozen BK386.out 0; have hfz21_1 := blk_frozen BK386.out 1; obtain ⟨Ao22, co22, eo22⟩ := Kd.N_slice HO385.out; subst eo22) | ((with_reducible refine gate_callee (f := 13) rfl ?_); refine goesL_ (some 22) rfl rfl Try.func13 (by kernel_rfl) rfl #[.agg #[.slice Ao19 t380.length co19, .slice Ao22 t383.length co22]] rfl (by (try simp only [List.map_toArray, List.map_cons, List.map_nil]); first | done | rfl | (simp only [List.length_drop, List.length_take]; rfl)) ?_; (with_reducible refine (basis_Places.calls kj1 _ _ t380 _ _ t383 t387 t390 _ ?side1 ?side2 ?side3 ?side4 A15.out).mono ?_); (case side1 => refine (Kd.R_reads' (e := 46) (base := w.heap.size) (ok := fun k_ => True) (n := t380.length) (c := co19) ?_).2.2; exact (by refine kq_R ?_; exact (Kd.R_mono (Kd.R_far (p := ⟨gb386, 1, none⟩) (Kd.R_far (p := ⟨gb386, 0, none⟩) (Kd.R_types HO382.out BK386.out (by decide)) (fun _ hk => hk.2) (.slice Ao19 t380.length co19)) (fun _ hk => hk.2) (.slice Ao22 t383.length co22)) (fun _ h_ => h_.1)))); (case side2 => exact (Kd.R_reads' HO382.out).2.1); (case side3 => refine (Kd.N_reads' (e := 54) (base := w.heap.size) (ok := fun k_ => ((some k_ ≠ (.slice Ao19 t380.length co19 : Value).ownBlock ∧ k_ ≠ gb376) ∧ k_ ≠ gb386)) (n := t383.length) (c := co22) ?_).2.2; exact (by refine kq_N ?_; exact (Kd.N_mono (Kd.N_far (p := ⟨gb386, 1, none⟩) (Kd.N_far (p := ⟨gb386, 0, none⟩) (Kd.N_mono HO385.out (fun k_ hk => (⟨hk, hk.2⟩ : _ ∧ k_ ≠ gb386))) (fun _ hk => hk.2) (.slice Ao19 t380.length co19)) (fun _ hk => hk.2) (.slice Ao22 t383.length co22)) (fun _ h_ => h_.1)))); (case side4 => exact (Kd.N_reads' HO385.out).2.1); rintro e w23 ⟨v388, rfl, ho0, hb⟩; refine ⟨_, rfl, ?_⟩; have n0_ := Aside0.mk (Kd.R_below (by refine kq_R ?_; exact (Kd.R_mono (Kd.R_far (p := ⟨gb386, 1, none⟩) (Kd.R_far (p := ⟨gb386, 0, none⟩) (Kd.R_types HO382.out BK386.out (by decide)) (fun _ hk => hk.2) (.slice Ao19 t380.length co19)) (fun _ hk => hk.2) (.slice Ao22 t383.length co22)) (fun _ h_ => h_.1))) hb); have n1_ := Aside0.mk (Kd.N_elder' (by refine kq_N ?_; exact (Kd.N_mono (Kd.N_far (p := ⟨gb386, 1, none⟩) (Kd.N_far (p := ⟨gb386, 0, none⟩) (Kd.N_mono HO385.out (fun k_ hk => (⟨hk, hk.2⟩ : _ ∧ k_ ≠ gb386))) (fun _ hk => hk.2) (.slice Ao19 t380.length co19)) (fun _ hk => hk.2) (.slice Ao22 t383.length co22)) (fun _ h_ => h_.1))) (Kd.N_base ho0) hb); have n2_ := Aside0.mk (Kd.N_lower (Kd.N_mono (ok' := fun k_ => some k_ ≠ (.slice Ao19 t380.length co19 : Value).ownBlock ∧ some k_ ≠ (.slice Ao22 t383.length co22 : Value).ownBlock ∧ k_ ≠ gb376 ∧ k_ ≠ gb386) ho0 (fun k_ hk_ => ⟨(Kd.fresh' (Kd.R_lt (by refine kq_R ?_; exact (Kd.R_mono (Kd.R_far (p := ⟨gb386, 1, none⟩) (Kd.R_far (p := ⟨gb386, 0, none⟩) (Kd.R_types HO382.out BK386.out (by decide)) (fun _ hk => hk.2) (.slice Ao19 t380.length co19)) (fun _ hk => hk.2) (.slice Ao22 t383.length co22)) (fun _ h_ => h_.1)))) k_ hk_), (Kd.fresh' (Kd.N_lt (by refine kq_N ?_; exact (Kd.N_mono (Kd.N_far (p := ⟨gb386, 1, none⟩) (Kd.N_far (p := ⟨gb386, 0, none⟩) (Kd.N_mono HO385.out (fun k_ hk => (⟨hk, hk.2⟩ : _ ∧ k_ ≠ gb386))) (fun _ hk => hk.2) (.slice Ao19 t380.length co19)) (fun _ hk => hk.2) (.slice Ao22 t383.length co22)) (fun _ h_ => h_.1)))) k_ hk_), (Kd.freshB (g := gb376) (o := .cells #[.slice A0_0 l0_0.length c0_0, .slice A0_1 l0_1.length c0_1] 25 (0, 0)) (by refine bkq ?_; refine blk_far ?_ NB376_386.out _; refine bkq ?_; refine blk_far ?_ NB376_386.out _; refine bkq ?_; exact BK376.out) k_ hk_), (Kd.freshB (g := gb386) (o := .cells #[.slice Ao19 t380.length co19, .slice Ao22 t383.length co22] 31 (0, 0)) (by refine bkq ?_; refine blk_put (cs := #[.slice Ao19 t380.length co19, .slice none 0 0]) ?_ 1 _ rfl; refine bkq ?_; refine blk_put (cs := #[.slice none 0 0, .slice none 0 0]) ?_ 0 _ rfl; refine bkq ?_; exact BK386.out) k_ hk_)⟩)) (below_size (hbq HB.out))); have n3_ := Aside0.mk (blk_below (g := gb376) (o := .cells #[.slice A0_0 l0_0.length c0_0, .slice A0_1 l0_1.length c0_1] 25 (0, 0)) (by refine bkq ?_; refine blk_far ?_ NB376_386.out _; refine bkq ?_; refine blk_far ?_ NB376_386.out _; refine bkq ?_; exact BK376.out) hb); have n4_ := Aside0.mk (blk_below (g := gb386) (o := .cells #[.slice Ao19 t380.length co19, .slice Ao22 t383.length co22] 31 (0, 0)) (by refine bkq ?_; refine blk_put (cs := #[.slice Ao19 t380.length co19, .slice none 0 0]) ?_ 1 _ rfl; refine bkq ?_; refine blk_put (cs := #[.slice none 0 0, .slice none 0 0]) ?_ 0 _ rfl; refine bkq ?_; exact BK386.out) hb); have n5_ := Aside0.mk (below_step (hbq HB.out) hb); clear HO382; clear HO385; clear BK376; clear BK386; clear HB; have HO382 := n0_; have HO385 := n1_; have HO389 := n2_; have BK376 := n3_; have BK386 := n4_; have HB := n5_; clear n0_ n1_ n2_ n3_ n4_ n5_; (try clear hb); (try clear hb2); (try clear hk); (try clear hi); (try clear ho0)))
  go_loopg [6] kj1 (fun kq v6 w' => ∃ (x6_2 : Int), v6 = .int .i64 x6_2 ∧ Aside0 (marblerunlaw12_BasisApart.l0 kq t387 t390 x6_2 t380 t383 = some r) ∧ Aside0 (kq ≤ kj1) ∧ Aside0 (Kd.N (Kd.slice 3 (Kd.int .i64)) 37 w' w.heap.size (fun k_ => some k_ ≠ ((.slice Ao19 t380.length co19) : Value).ownBlock ∧ some k_ ≠ ((.slice Ao22 t383.length co22) : Value).ownBlock ∧ k_ ≠ gb376 ∧ k_ ≠ gb386) v388 t387) ∧ Aside0 (Kd.R k46 46 w' w.heap.size (fun _ => True) (.slice Ao19 t380.length co19) t380) ∧ Aside0 (Kd.N k54 54 w' w.heap.size (fun k_ => some k_ ≠ (v388 : Value).ownBlock ∧ some k_ ≠ ((.slice Ao19 t380.length co19) : Value).ownBlock ∧ k_ ≠ gb376 ∧ k_ ≠ gb386) (.slice Ao22 t383.length co22) t383) ∧ Aside0 (w'.heap[gb376]? = some (.cells #[(.slice A0_0 l0_0.length c0_0), (.slice A0_1 l0_1.length c0_1)] 25 (0, 0))) ∧ Aside0 (w'.heap[gb386]? = some (.cells #[(.slice Ao19 t380.length co19), (.slice Ao22 t383.length co22)] 31 (0, 0))) ∧ Aside0 (Below w.heap.size w w'))
  case atStart => exact ⟨(0), (by first | rfl | (simp; done) | (simp [*]; done)), H', ⟨Nat.le_refl _⟩, ⟨by refine kq_N ?_; exact HO389.out⟩, ⟨by refine kq_R ?_; exact HO382.out⟩, ⟨by refine kq_N ?_; exact Kd.N_mono HO385.out (fun _ hk => ⟨hk.2, ⟨hk.1.1.1, ⟨hk.1.1.2, hk.1.2⟩⟩⟩)⟩, ⟨by refine bkq ?_; exact BK376.out⟩, ⟨by refine bkq ?_; exact BK386.out⟩, ⟨hbq HB.out⟩⟩
  clear H'
  try clear c1
  try clear c2
  try clear p2
  try clear c3
  try clear c5
  try clear c10
  try clear c11
  try clear c12
  try clear c13
  try clear c20
  try clear hcz16_0
  try clear hcz16_1
  try clear hcz21_0
  try clear hcz21_1
  try clear hcz8_0
  try clear hcz8_1
  try clear hfz16_0
  try clear hfz16_1
  try clear hfz21_0
  try clear hfz21_1
  try clear hfz8_0
  try clear hfz8_1
  try clear p2
  obtain ⟨x6_2, rfl, HA, HK2, HO_4, HO_387000, HO_387001, BK376, BK386, HB⟩ := hrel
  cases gk with
  | zero => exact absurd HA.out (by simp [marblerunlaw12_BasisApart.l0])
  | succ k2 =>
   have H := HA.out
   clear HA
   simp only [marblerunlaw12_BasisApart.l0] at H
   by_cases c24 : x6_2 < (t387.length : Int)
   ·rw [if_pos c24] at H
    have c24b0 : decide (x6_2 < (t387.length : Int)) = true := decide_eq_true c24
    clear c24
    have H' := Aside0.mk H
    clear H
    obtain ⟨Ao25, co25, eo25⟩ := Kd.N_slice HO_4.out
    subst eo25
    go_wp2
    go_loopg [7] k2 (fun kq v7 w' => ∃ (x7_3 : Int), v7 = .int .i64 x7_3 ∧ Aside0 (marblerunlaw12_BasisApart.l1 kq t387 t390 x6_2 x7_3 t380 t383 = some r) ∧ Aside0 (kq ≤ k2) ∧ Aside0 (Kd.N (Kd.slice 3 (Kd.int .i64)) 37 w' w.heap.size (fun k_ => some k_ ≠ ((.slice Ao19 t380.length co19) : Value).ownBlock ∧ some k_ ≠ ((.slice Ao22 t383.length co22) : Value).ownBlock ∧ k_ ≠ gb376 ∧ k_ ≠ gb386) (.slice Ao25 t387.length co25) t387) ∧ Aside0 (Kd.R k46 46 w' w.heap.size (fun _ => True) (.slice Ao19 t380.length co19) t380) ∧ Aside0 (Kd.N k54 54 w' w.heap.size (fun k_ => some k_ ≠ ((.slice Ao25 t387.length co25) : Value).ownBlock ∧ some k_ ≠ ((.slice Ao19 t380.length co19) : Value).ownBlock ∧ k_ ≠ gb376 ∧ k_ ≠ gb386) (.slice Ao22 t383.length co22) t383) ∧ Aside0 (w'.heap[gb376]? = some (.cells #[(.slice A0_0 l0_0.length c0_0), (.slice A0_1 l0_1.length c0_1)] 25 (0, 0))) ∧ Aside0 (w'.heap[gb386]? = some (.cells #[(.slice Ao19 t380.length co19), (.slice Ao22 t383.length co22)] 31 (0, 0))) ∧ Aside0 (Below w.heap.size w w'))
    case atStart => exact ⟨(0), (by first | rfl | (simp; done) | (simp [*]; done)), H', ⟨Nat.le_refl _⟩, ⟨by refine kq_N ?_; exact HO_4.out⟩, ⟨by refine kq_R ?_; exact HO_387000.out⟩, ⟨by refine kq_N ?_; exact HO_387001.out⟩, ⟨by refine bkq ?_; exact BK376.out⟩, ⟨by refine bkq ?_; exact BK386.out⟩, ⟨hbq HB.out⟩⟩
    clear H'
    try clear c1
    try clear c2
    try clear p2
    try clear c3
    try clear c5
    try clear c10
    try clear c11
    try clear c12
    try clear c13
    try clear c20
    try clear c24
    try clear c24b0
    try clear hcz16_0
    try clear hcz16_1
    try clear hcz21_0
    try clear hcz21_1
    try clear hcz8_0
    try clear hcz8_1
    try clear hfz16_0
    try clear hfz16_1
    try clear hfz21_0
    try clear hfz21_1
    try clear hfz8_0
    try clear hfz8_1
    try clear p2
    obtain ⟨x7_3, rfl, HA, HK3, HO_4, HO_387000, HO_387001, BK376, BK386, HB⟩ := hrel
    cases gk with
    | zero => exact absurd HA.out (by simp [marblerunlaw12_BasisApart.l1])
    | succ k3 =>
     have H := HA.out
     clear HA
     simp only [marblerunlaw12_BasisApart.l1] at H
     by_cases c26 : x7_3 < (t387.length : Int)
     ·rw [if_pos c26] at H
      have c26b0 : decide (x7_3 < (t387.length : Int)) = true := decide_eq_true c26
      clear c26
      have H' := Aside0.mk H
      clear H
      go_wp2
      go_loopg [8, 9] k3 (fun kq v8 v9 w' => ∃ (x8_4 : Bool) (x9_4 : Int), v8 = .bool x8_4 ∧ v9 = .int .i64 x9_4 ∧ Aside0 (marblerunlaw12_BasisApart.l2 kq t387 t390 x6_2 x7_3 x8_4 x9_4 t380 t383 = some r) ∧ Aside0 (kq ≤ k3) ∧ Aside0 (Kd.N (Kd.slice 3 (Kd.int .i64)) 37 w' w.heap.size (fun k_ => some k_ ≠ ((.slice Ao19 t380.length co19) : Value).ownBlock ∧ some k_ ≠ ((.slice Ao22 t383.length co22) : Value).ownBlock ∧ k_ ≠ gb376 ∧ k_ ≠ gb386) (.slice Ao25 t387.length co25) t387) ∧ Aside0 (Kd.R k46 46 w' w.heap.size (fun _ => True) (.slice Ao19 t380.length co19) t380) ∧ Aside0 (Kd.N k54 54 w' w.heap.size (fun k_ => some k_ ≠ ((.slice Ao25 t387.length co25) : Value).ownBlock ∧ some k_ ≠ ((.slice Ao19 t380.length co19) : Value).ownBlock ∧ k_ ≠ gb376 ∧ k_ ≠ gb386) (.slice Ao22 t383.length co22) t383) ∧ Aside0 (w'.heap[gb376]? = some (.cells #[(.slice A0_0 l0_0.length c0_0), (.slice A0_1 l0_1.length c0_1)] 25 (0, 0))) ∧ Aside0 (w'.heap[gb386]? = some (.cells #[(.slice Ao19 t380.length co19), (.slice Ao22 t383.length co22)] 31 (0, 0))) ∧ Aside0 (Below w.heap.size w w'))
      case atStart => exact ⟨(true), (0), (by first | rfl | (simp; done) | (simp [*]; done)), (by first | rfl | (simp; done) | (simp [*]; done)), H', ⟨Nat.le_refl _⟩, ⟨by refine kq_N ?_; exact HO_4.out⟩, ⟨by refine kq_R ?_; exact HO_387000.out⟩, ⟨by refine kq_N ?_; exact HO_387001.out⟩, ⟨by refine bkq ?_; exact BK376.out⟩, ⟨by refine bkq ?_; exact BK386.out⟩, ⟨hbq HB.out⟩⟩
      clear H'
      try clear c1
      try clear c2
      try clear p2
      try clear c3
      try clear c5
      try clear c10
      try clear c11
      try clear c12
      try clear c13
      try clear c20
      try clear c24
      try clear c24b0
      try clear c26
      try clear c26b0
      try clear hcz16_0
      try clear hcz16_1
      try clear hcz21_0
      try clear hcz21_1
      try clear hcz8_0
      try clear hcz8_1
      try clear hfz16_0
      try clear hfz16_1
      try clear hfz21_0
      try clear hfz21_1
      try clear hfz8_0
      try clear hfz8_1
      try clear p2
      obtain ⟨x8_4, x9_4, rfl, rfl, HA, HK4, HO_4, HO_387000, HO_387001, BK376, BK386, HB⟩ := hrel
      cases gk with
      | zero => exact absurd HA.out (by simp [marblerunlaw12_BasisApart.l2])
      | succ k4 =>
       have H := HA.out
       clear HA
       simp only [marblerunlaw12_BasisApart.l2] at H
       by_cases c27 : 0 ≤ x6_2
       case neg => rw [if_neg c27] at H; exact absurd H (by simp)
       rw [if_pos c27] at H
       have c27b0 : decide (0 ≤ x6_2) = true := decide_eq_true c27
       clear c27
       by_cases c28 : x6_2 < (t387.length : Int)
       case neg => rw [if_neg c28] at H; exact absurd H (by simp)
       rw [if_pos c28] at H
       have c28b0 : decide (x6_2 < (t387.length : Int)) = true := decide_eq_true c28
       clear c28
       by_cases c29 : x9_4 < ((rd_L1 t387 x6_2).length : Int)
       ·rw [if_pos c29] at H
        have c29b0 : decide (x9_4 < ((rd_L1 t387 x6_2).length : Int)) = true := decide_eq_true c29
        clear c29
        by_cases c30 : x8_4 = true
        ·subst c30
         have H1 : (if 0 ≤ x9_4 then (if (rd (rd_L1 t387 x6_2) x9_4) = 0 then (marblerunlaw12_BasisApart.l2 k4 t387 t390 x6_2 x7_3 true (wrap64 (x9_4 + 1)) t380 t383) else (if 0 ≤ x7_3 then (if x7_3 < (t387.length : Int) then (if x9_4 < ((rd_L1 t387 x7_3).length : Int) then (marblerunlaw12_BasisApart.l2 k4 t387 t390 x6_2 x7_3 ((rd (rd_L1 t387 x7_3) x9_4) != 0) (wrap64 (x9_4 + 1)) t380 t383) else (none)) else (none)) else (none))) else (none)) = some r := by rw [if_pos rfl] at H; exact H
         clear H
         have H := H1
         clear H1
         by_cases c31 : 0 ≤ x9_4
         case neg => rw [if_neg c31] at H; exact absurd H (by simp)
         rw [if_pos c31] at H
         have c31b0 : decide (0 ≤ x9_4) = true := decide_eq_true c31
         clear c31
         by_cases c32 : (rd (rd_L1 t387 x6_2) x9_4) = 0
         ·rw [if_pos c32] at H
          have c32b0 : ((rd (rd_L1 t387 x6_2) x9_4) == 0) = true := beq_iff_eq.mpr c32
          have c32b1 : ((rd (rd_L1 t387 x6_2) x9_4) != 0) = false := bne_eq_false_iff_eq.mpr c32
          clear c32
          have H' := Aside0.mk H
          clear H
          have p391 : 0 ≤ (x6_2 : Int) := of_decide_eq_true (by first | (with_reducible assumption) | assumption)
          have q391 : x6_2 < (t387.length : Int) := of_decide_eq_true (by first | (with_reducible assumption) | assumption)
          obtain ⟨ad391, A391_0, c391_0, e391, hx391_0, hl391_0, hi391_0⟩ := at_L1 (Kd.N_reads' HO_4.out).2.2 x6_2 p391 q391
          cases e391
          obtain ⟨ce391, hce391, hMe391, hcc391⟩ := Kd.N_get HO_4.out [] x6_2 p391 (by first | exact q391 | exact of_decide_eq_true (by first | (with_reducible assumption) | assumption) | (have e_ := (Kd.N_reads' HO_4.out).1; omega))
          obtain ⟨ua391_0, uc391_0, rfl, ul391_0, ge391_0⟩ := Kd.FK_slice_open hMe391
          have hv391_0 := hcc391 0 _ rfl
          rw [Nat.add_zero, show ((Kd.slice 3 (Kd.int .i64))).sz = 1 from rfl, Nat.mul_one] at hv391_0
          replace hv391_0 := Option.some.inj (hv391_0.symm.trans hx391_0)
          injection hv391_0 with hva_ hvn_ hvc_
          rw [hva_] at ge391_0
          rw [hvc_] at ul391_0
          have HL391_0 := Aside0.mk (show Kd.V (Kd.int .i64) 3 _ w.heap.size _ _ (rd_L1 t387 x6_2) from Kd.V_mk ul391_0 ge391_0)
          clear hva_ hvn_ hvc_ ge391_0 ul391_0
          clear hcc391 hce391
          have HR391_0 := Aside0.mk hi391_0
          have HC391_0 := Aside0.mk hl391_0
          clear hi391_0 hl391_0
          replace p391 := eq_true p391
          replace q391 := eq_true q391
          have p392 : 0 ≤ (x6_2 : Int) := of_decide_eq_true (by first | (with_reducible assumption) | assumption)
          have q392 : x6_2 < (t387.length : Int) := of_decide_eq_true (by first | (with_reducible assumption) | assumption)
          obtain ⟨ad392, A392_0, c392_0, e392, hx392_0, hl392_0, hi392_0⟩ := at_L1 (Kd.N_reads' HO_4.out).2.2 x6_2 p392 q392
          obtain rfl : ad391 = ad392 := (by injection e392)
          obtain ⟨ce392, hce392, hMe392, hcc392⟩ := Kd.N_get HO_4.out [] x6_2 p392 (by first | exact q392 | exact of_decide_eq_true (by first | (with_reducible assumption) | assumption) | (have e_ := (Kd.N_reads' HO_4.out).1; omega))
          obtain ⟨ua392_0, uc392_0, rfl, ul392_0, ge392_0⟩ := Kd.FK_slice_open hMe392
          have hv392_0 := hcc392 0 _ rfl
          rw [Nat.add_zero, show ((Kd.slice 3 (Kd.int .i64))).sz = 1 from rfl, Nat.mul_one] at hv392_0
          replace hv392_0 := Option.some.inj (hv392_0.symm.trans hx392_0)
          injection hv392_0 with hva_ hvn_ hvc_
          rw [hva_] at ge392_0
          rw [hvc_] at ul392_0
          have HL392_0 := Aside0.mk (show Kd.V (Kd.int .i64) 3 _ w.heap.size _ _ (rd_L1 t387 x6_2) from Kd.V_mk ul392_0 ge392_0)
          clear hva_ hvn_ hvc_ ge392_0 ul392_0
          clear hcc392 hce392
          have HR392_0 := Aside0.mk hi392_0
          have HC392_0 := Aside0.mk hl392_0
          clear hi392_0 hl392_0
          replace p392 := eq_true p392
          replace q392 := eq_true q392
          have ea_ := Option.some.inj (hx391_0.symm.trans hx392_0)
          injection ea_ with ea_ en_ ec_
          subst ea_
          subst ec_
          clear en_
          have p393 : 0 ≤ (x9_4 : Int) := of_decide_eq_true (by first | (with_reducible assumption) | assumption)
          have q393 : x9_4 < ((rd_L1 t387 x6_2).length : Int) := of_decide_eq_true (by first | (with_reducible assumption) | assumption)
          obtain ⟨ad393, e393, hx393_0⟩ := Kd.at_int (by repeat (first | (with_reducible exact HR392_0.out) | (with_reducible refine Kd.C_alloc ?_ _) | (with_reducible refine Kd.C_drewN ?_ _) | (with_reducible refine Kd.C_drew ?_) | exact HR392_0.out)) x9_4 p393 q393
          cases e393
          replace p393 := eq_true p393
          replace q393 := eq_true q393
          go_wp2
          go_roundg k4
          case measure => have := HJ1.out; have := HK2.out; have := HK3.out; have := HK4.out; omega
          case rel => exact ⟨(true), (wrap64 (x9_4 + 1)), (by first | rfl | (simp; done) | (simp [*]; done)), (by first | rfl | (simp; done) | (simp [*]; done)), H', ⟨by have := HJ1.out; have := HK2.out; have := HK3.out; have := HK4.out; omega⟩, ⟨by refine kq_N ?_; exact HO_4.out⟩, ⟨by refine kq_R ?_; exact HO_387000.out⟩, ⟨by refine kq_N ?_; exact HO_387001.out⟩, ⟨by refine bkq ?_; exact BK376.out⟩, ⟨by refine bkq ?_; exact BK386.out⟩, ⟨hbq HB.out⟩⟩
         rw [if_neg c32] at H
         have c32b0 : ((rd (rd_L1 t387 x6_2) x9_4) == 0) = false := beq_eq_false_iff_ne.mpr c32
         have c32b1 : ((rd (rd_L1 t387 x6_2) x9_4) != 0) = true := bne_iff_ne.mpr c32
         by_cases c33 : 0 ≤ x7_3
         case neg => rw [if_neg c33] at H; exact absurd H (by simp)
         rw [if_pos c33] at H
         have c33b0 : decide (0 ≤ x7_3) = true := decide_eq_true c33
         clear c33
         by_cases c34 : x7_3 < (t387.length : Int)
         case neg => rw [if_neg c34] at H; exact absurd H (by simp)
         rw [if_pos c34] at H
         have c34b0 : decide (x7_3 < (t387.length : Int)) = true := decide_eq_true c34
         clear c34
         by_cases c35 : x9_4 < ((rd_L1 t387 x7_3).length : Int)
         case neg => rw [if_neg c35] at H; exact absurd H (by simp)
         rw [if_pos c35] at H
         have c35b0 : decide (x9_4 < ((rd_L1 t387 x7_3).length : Int)) = true := decide_eq_true c35
         clear c35
         have H' := Aside0.mk H
         clear H
         have p391 : 0 ≤ (x6_2 : Int) := of_decide_eq_true (by first | (with_reducible assumption) | assumption)
         have q391 : x6_2 < (t387.length : Int) := of_decide_eq_true (by first | (with_reducible assumption) | assumption)
         obtain ⟨ad391, A391_0, c391_0, e391, hx391_0, hl391_0, hi391_0⟩ := at_L1 (Kd.N_reads' HO_4.out).2.2 x6_2 p391 q391
         cases e391
         obtain ⟨ce391, hce391, hMe391, hcc391⟩ := Kd.N_get HO_4.out [] x6_2 p391 (by first | exact q391 | exact of_decide_eq_true (by first | (with_reducible assumption) | assumption) | (have e_ := (Kd.N_reads' HO_4.out).1; omega))
         obtain ⟨ua391_0, uc391_0, rfl, ul391_0, ge391_0⟩ := Kd.FK_slice_open hMe391
         have hv391_0 := hcc391 0 _ rfl
         rw [Nat.add_zero, show ((Kd.slice 3 (Kd.int .i64))).sz = 1 from rfl, Nat.mul_one] at hv391_0
         replace hv391_0 := Option.some.inj (hv391_0.symm.trans hx391_0)
         injection hv391_0 with hva_ hvn_ hvc_
         rw [hva_] at ge391_0
         rw [hvc_] at ul391_0
         have HL391_0 := Aside0.mk (show Kd.V (Kd.int .i64) 3 _ w.heap.size _ _ (rd_L1 t387 x6_2) from Kd.V_mk ul391_0 ge391_0)
         clear hva_ hvn_ hvc_ ge391_0 ul391_0
         clear hcc391 hce391
         have HR391_0 := Aside0.mk hi391_0
         have HC391_0 := Aside0.mk hl391_0
         clear hi391_0 hl391_0
         replace p391 := eq_true p391
         replace q391 := eq_true q391
         have p392 : 0 ≤ (x6_2 : Int) := of_decide_eq_true (by first | (with_reducible assumption) | assumption)
         have q392 : x6_2 < (t387.length : Int) := of_decide_eq_true (by first | (with_reducible assumption) | assumption)
         obtain ⟨ad392, A392_0, c392_0, e392, hx392_0, hl392_0, hi392_0⟩ := at_L1 (Kd.N_reads' HO_4.out).2.2 x6_2 p392 q392
         obtain rfl : ad391 = ad392 := (by injection e392)
         obtain ⟨ce392, hce392, hMe392, hcc392⟩ := Kd.N_get HO_4.out [] x6_2 p392 (by first | exact q392 | exact of_decide_eq_true (by first | (with_reducible assumption) | assumption) | (have e_ := (Kd.N_reads' HO_4.out).1; omega))
         obtain ⟨ua392_0, uc392_0, rfl, ul392_0, ge392_0⟩ := Kd.FK_slice_open hMe392
         have hv392_0 := hcc392 0 _ rfl
         rw [Nat.add_zero, show ((Kd.slice 3 (Kd.int .i64))).sz = 1 from rfl, Nat.mul_one] at hv392_0
         replace hv392_0 := Option.some.inj (hv392_0.symm.trans hx392_0)
         injection hv392_0 with hva_ hvn_ hvc_
         rw [hva_] at ge392_0
         rw [hvc_] at ul392_0
         have HL392_0 := Aside0.mk (show Kd.V (Kd.int .i64) 3 _ w.heap.size _ _ (rd_L1 t387 x6_2) from Kd.V_mk ul392_0 ge392_0)
         clear hva_ hvn_ hvc_ ge392_0 ul392_0
         clear hcc392 hce392
         have HR392_0 := Aside0.mk hi392_0
         have HC392_0 := Aside0.mk hl392_0
         clear hi392_0 hl392_0
         replace p392 := eq_true p392
         replace q392 := eq_true q392
         have ea_ := Option.some.inj (hx391_0.symm.trans hx392_0)
         injection ea_ with ea_ en_ ec_
         subst ea_
         subst ec_
         clear en_
         have p393 : 0 ≤ (x9_4 : Int) := of_decide_eq_true (by first | (with_reducible assumption) | assumption)
         have q393 : x9_4 < ((rd_L1 t387 x6_2).length : Int) := of_decide_eq_true (by first | (with_reducible assumption) | assumption)
         obtain ⟨ad393, e393, hx393_0⟩ := Kd.at_int (by repeat (first | (with_reducible exact HR392_0.out) | (with_reducible refine Kd.C_alloc ?_ _) | (with_reducible refine Kd.C_drewN ?_ _) | (with_reducible refine Kd.C_drew ?_) | exact HR392_0.out)) x9_4 p393 q393
         cases e393
         replace p393 := eq_true p393
         replace q393 := eq_true q393
         have p394 : 0 ≤ (x7_3 : Int) := of_decide_eq_true (by first | (with_reducible assumption) | assumption)
         have q394 : x7_3 < (t387.length : Int) := of_decide_eq_true (by first | (with_reducible assumption) | assumption)
         obtain ⟨ad394, A394_0, c394_0, e394, hx394_0, hl394_0, hi394_0⟩ := at_L1 (Kd.N_reads' HO_4.out).2.2 x7_3 p394 q394
         obtain rfl : ad391 = ad394 := (by injection e394)
         obtain ⟨ce394, hce394, hMe394, hcc394⟩ := Kd.N_get HO_4.out [] x7_3 p394 (by first | exact q394 | exact of_decide_eq_true (by first | (with_reducible assumption) | assumption) | (have e_ := (Kd.N_reads' HO_4.out).1; omega))
         obtain ⟨ua394_0, uc394_0, rfl, ul394_0, ge394_0⟩ := Kd.FK_slice_open hMe394
         have hv394_0 := hcc394 0 _ rfl
         rw [Nat.add_zero, show ((Kd.slice 3 (Kd.int .i64))).sz = 1 from rfl, Nat.mul_one] at hv394_0
         replace hv394_0 := Option.some.inj (hv394_0.symm.trans hx394_0)
         injection hv394_0 with hva_ hvn_ hvc_
         rw [hva_] at ge394_0
         rw [hvc_] at ul394_0
         have HL394_0 := Aside0.mk (show Kd.V (Kd.int .i64) 3 _ w.heap.size _ _ (rd_L1 t387 x7_3) from Kd.V_mk ul394_0 ge394_0)
         clear hva_ hvn_ hvc_ ge394_0 ul394_0
         clear hcc394 hce394
         have HR394_0 := Aside0.mk hi394_0
         have HC394_0 := Aside0.mk hl394_0
         clear hi394_0 hl394_0
         replace p394 := eq_true p394
         replace q394 := eq_true q394
         have p395 : 0 ≤ (x9_4 : Int) := of_decide_eq_true (by first | (with_reducible assumption) | assumption)
         have q395 : x9_4 < ((rd_L1 t387 x7_3).length : Int) := of_decide_eq_true (by first | (with_reducible assumption) | assumption)
         obtain ⟨ad395, e395, hx395_0⟩ := Kd.at_int (by repeat (first | (with_reducible exact HR394_0.out) | (with_reducible refine Kd.C_alloc ?_ _) | (with_reducible refine Kd.C_drewN ?_ _) | (with_reducible refine Kd.C_drew ?_) | exact HR394_0.out)) x9_4 p395 q395
         cases e395
         replace p395 := eq_true p395
         replace q395 := eq_true q395
         go_wp2
         go_roundg k4
         case measure => have := HJ1.out; have := HK2.out; have := HK3.out; have := HK4.out; omega
         case rel => exact ⟨(((rd (rd_L1 t387 x7_3) x9_4) != 0)), (wrap64 (x9_4 + 1)), (by first | rfl | (simp; done) | (simp [*]; done)), (by first | rfl | (simp; done) | (simp [*]; done)), H', ⟨by have := HJ1.out; have := HK2.out; have := HK3.out; have := HK4.out; omega⟩, ⟨by refine kq_N ?_; exact HO_4.out⟩, ⟨by refine kq_R ?_; exact HO_387000.out⟩, ⟨by refine kq_N ?_; exact HO_387001.out⟩, ⟨by refine bkq ?_; exact BK376.out⟩, ⟨by refine bkq ?_; exact BK386.out⟩, ⟨hbq HB.out⟩⟩
        replace c30 := Bool.eq_false_iff.mpr c30
        subst c30
        have H1 : (marblerunlaw12_BasisApart.l2 k4 t387 t390 x6_2 x7_3 false (wrap64 (x9_4 + 1)) t380 t383) = some r := by rw [if_neg (show ¬ (false = true) by decide)] at H; exact H
        clear H
        have H := H1
        clear H1
        have H' := Aside0.mk H
        clear H
        have p391 : 0 ≤ (x6_2 : Int) := of_decide_eq_true (by first | (with_reducible assumption) | assumption)
        have q391 : x6_2 < (t387.length : Int) := of_decide_eq_true (by first | (with_reducible assumption) | assumption)
        obtain ⟨ad391, A391_0, c391_0, e391, hx391_0, hl391_0, hi391_0⟩ := at_L1 (Kd.N_reads' HO_4.out).2.2 x6_2 p391 q391
        cases e391
        obtain ⟨ce391, hce391, hMe391, hcc391⟩ := Kd.N_get HO_4.out [] x6_2 p391 (by first | exact q391 | exact of_decide_eq_true (by first | (with_reducible assumption) | assumption) | (have e_ := (Kd.N_reads' HO_4.out).1; omega))
        obtain ⟨ua391_0, uc391_0, rfl, ul391_0, ge391_0⟩ := Kd.FK_slice_open hMe391
        have hv391_0 := hcc391 0 _ rfl
        rw [Nat.add_zero, show ((Kd.slice 3 (Kd.int .i64))).sz = 1 from rfl, Nat.mul_one] at hv391_0
        replace hv391_0 := Option.some.inj (hv391_0.symm.trans hx391_0)
        injection hv391_0 with hva_ hvn_ hvc_
        rw [hva_] at ge391_0
        rw [hvc_] at ul391_0
        have HL391_0 := Aside0.mk (show Kd.V (Kd.int .i64) 3 _ w.heap.size _ _ (rd_L1 t387 x6_2) from Kd.V_mk ul391_0 ge391_0)
        clear hva_ hvn_ hvc_ ge391_0 ul391_0
        clear hcc391 hce391
        have HR391_0 := Aside0.mk hi391_0
        have HC391_0 := Aside0.mk hl391_0
        clear hi391_0 hl391_0
        replace p391 := eq_true p391
        replace q391 := eq_true q391
        go_wp2
        go_roundg k4
        case measure => have := HJ1.out; have := HK2.out; have := HK3.out; have := HK4.out; omega
        case rel => exact ⟨(false), (wrap64 (x9_4 + 1)), (by first | rfl | (simp; done) | (simp [*]; done)), (by first | rfl | (simp; done) | (simp [*]; done)), H', ⟨by have := HJ1.out; have := HK2.out; have := HK3.out; have := HK4.out; omega⟩, ⟨by refine kq_N ?_; exact HO_4.out⟩, ⟨by refine kq_R ?_; exact HO_387000.out⟩, ⟨by refine kq_N ?_; exact HO_387001.out⟩, ⟨by refine bkq ?_; exact BK376.out⟩, ⟨by refine bkq ?_; exact BK386.out⟩, ⟨hbq HB.out⟩⟩
       rw [if_neg c29] at H
       have c29b0 : decide (x9_4 < ((rd_L1 t387 x6_2).length : Int)) = false := decide_eq_false c29
       clear c29
       by_cases c36 : x8_4 = true
       ·subst c36
        have H1 : (if x6_2 = x7_3 then (marblerunlaw12_BasisApart.l1 k4 t387 t390 x6_2 (wrap64 (x7_3 + 1)) t380 t383) else (if (t383.length : Int) > 0 then (some false) else (marblerunlaw12_BasisApart.l1 k4 t387 t390 x6_2 (wrap64 (x7_3 + 1)) t380 t383))) = some r := by rw [if_pos rfl] at H; exact H
        clear H
        have H := H1
        clear H1
        by_cases c37 : x6_2 = x7_3
        ·rw [if_pos c37] at H
         have c37b0 : (x6_2 == x7_3) = true := beq_iff_eq.mpr c37
         have c37b1 : (x6_2 != x7_3) = false := bne_eq_false_iff_eq.mpr c37
         clear c37
         have H' := Aside0.mk H
         clear H
         have p391 : 0 ≤ (x6_2 : Int) := of_decide_eq_true (by first | (with_reducible assumption) | assumption)
         have q391 : x6_2 < (t387.length : Int) := of_decide_eq_true (by first | (with_reducible assumption) | assumption)
         obtain ⟨ad391, A391_0, c391_0, e391, hx391_0, hl391_0, hi391_0⟩ := at_L1 (Kd.N_reads' HO_4.out).2.2 x6_2 p391 q391
         cases e391
         obtain ⟨ce391, hce391, hMe391, hcc391⟩ := Kd.N_get HO_4.out [] x6_2 p391 (by first | exact q391 | exact of_decide_eq_true (by first | (with_reducible assumption) | assumption) | (have e_ := (Kd.N_reads' HO_4.out).1; omega))
         obtain ⟨ua391_0, uc391_0, rfl, ul391_0, ge391_0⟩ := Kd.FK_slice_open hMe391
         have hv391_0 := hcc391 0 _ rfl
         rw [Nat.add_zero, show ((Kd.slice 3 (Kd.int .i64))).sz = 1 from rfl, Nat.mul_one] at hv391_0
         replace hv391_0 := Option.some.inj (hv391_0.symm.trans hx391_0)
         injection hv391_0 with hva_ hvn_ hvc_
         rw [hva_] at ge391_0
         rw [hvc_] at ul391_0
         have HL391_0 := Aside0.mk (show Kd.V (Kd.int .i64) 3 _ w.heap.size _ _ (rd_L1 t387 x6_2) from Kd.V_mk ul391_0 ge391_0)
         clear hva_ hvn_ hvc_ ge391_0 ul391_0
         clear hcc391 hce391
         have HR391_0 := Aside0.mk hi391_0
         have HC391_0 := Aside0.mk hl391_0
         clear hi391_0 hl391_0
         replace p391 := eq_true p391
         replace q391 := eq_true q391
         go_wp2
         go_roundg k4
         case measure => have := HJ1.out; have := HK2.out; have := HK3.out; have := HK4.out; omega
         case rel => exact ⟨(wrap64 (x7_3 + 1)), (by first | rfl | (simp; done) | (simp [*]; done)), H', ⟨by have := HJ1.out; have := HK2.out; have := HK3.out; have := HK4.out; omega⟩, ⟨by refine kq_N ?_; exact HO_4.out⟩, ⟨by refine kq_R ?_; exact HO_387000.out⟩, ⟨by refine kq_N ?_; exact HO_387001.out⟩, ⟨by refine bkq ?_; exact BK376.out⟩, ⟨by refine bkq ?_; exact BK386.out⟩, ⟨hbq HB.out⟩⟩
        rw [if_neg c37] at H
        have c37b0 : (x6_2 == x7_3) = false := beq_eq_false_iff_ne.mpr c37
        have c37b1 : (x6_2 != x7_3) = true := bne_iff_ne.mpr c37
        by_cases c38 : (t383.length : Int) > 0
        ·rw [if_pos c38] at H
         have c38b0 : decide (0 < (t383.length : Int)) = true := decide_eq_true c38
         have c38b1 : decide (0 < t383.length) = true := decide_eq_true (by omega)
         clear c38
         obtain rfl := Option.some.inj H
         have p391 : 0 ≤ (x6_2 : Int) := of_decide_eq_true (by first | (with_reducible assumption) | assumption)
         have q391 : x6_2 < (t387.length : Int) := of_decide_eq_true (by first | (with_reducible assumption) | assumption)
         obtain ⟨ad391, A391_0, c391_0, e391, hx391_0, hl391_0, hi391_0⟩ := at_L1 (Kd.N_reads' HO_4.out).2.2 x6_2 p391 q391
         cases e391
         obtain ⟨ce391, hce391, hMe391, hcc391⟩ := Kd.N_get HO_4.out [] x6_2 p391 (by first | exact q391 | exact of_decide_eq_true (by first | (with_reducible assumption) | assumption) | (have e_ := (Kd.N_reads' HO_4.out).1; omega))
         obtain ⟨ua391_0, uc391_0, rfl, ul391_0, ge391_0⟩ := Kd.FK_slice_open hMe391
         have hv391_0 := hcc391 0 _ rfl
         rw [Nat.add_zero, show ((Kd.slice 3 (Kd.int .i64))).sz = 1 from rfl, Nat.mul_one] at hv391_0
         replace hv391_0 := Option.some.inj (hv391_0.symm.trans hx391_0)
         injection hv391_0 with hva_ hvn_ hvc_
         rw [hva_] at ge391_0
         rw [hvc_] at ul391_0
         have HL391_0 := Aside0.mk (show Kd.V (Kd.int .i64) 3 _ w.heap.size _ _ (rd_L1 t387 x6_2) from Kd.V_mk ul391_0 ge391_0)
         clear hva_ hvn_ hvc_ ge391_0 ul391_0
         clear hcc391 hce391
         have HR391_0 := Aside0.mk hi391_0
         have HC391_0 := Aside0.mk hl391_0
         clear hi391_0 hl391_0
         replace p391 := eq_true p391
         replace q391 := eq_true q391
         have hnb39 := NB386_376.out
         have hnc39 := NB376_386.out
         have hcz40_0 : wr.cell? ⟨gb386, 0, none⟩ = some (.slice Ao19 t380.length co19) := (blk_cell BK386.out 0).trans rfl
         have hcz40_1 : wr.cell? ⟨gb386, 1, none⟩ = some (.slice Ao22 t383.length co22) := (blk_cell BK386.out 1).trans rfl
         have hfz40_0 := blk_frozen BK386.out 0
         have hfz40_1 := blk_frozen BK386.out 1
         go_wp2
         go_ret
         exact ⟨by first | rfl | (simp [errW_none, errW_some] <;> rfl) | (simp [*, errW_none, errW_some] <;> rfl), hbq HB.out⟩
        rw [if_neg c38] at H
        have c38b0 : decide (0 < (t383.length : Int)) = false := decide_eq_false c38
        have c38b1 : decide (0 < t383.length) = false := decide_eq_false (by omega)
        clear c38
        have H' := Aside0.mk H
        clear H
        have p391 : 0 ≤ (x6_2 : Int) := of_decide_eq_true (by first | (with_reducible assumption) | assumption)
        have q391 : x6_2 < (t387.length : Int) := of_decide_eq_true (by first | (with_reducible assumption) | assumption)
        obtain ⟨ad391, A391_0, c391_0, e391, hx391_0, hl391_0, hi391_0⟩ := at_L1 (Kd.N_reads' HO_4.out).2.2 x6_2 p391 q391
        cases e391
        obtain ⟨ce391, hce391, hMe391, hcc391⟩ := Kd.N_get HO_4.out [] x6_2 p391 (by first | exact q391 | exact of_decide_eq_true (by first | (with_reducible assumption) | assumption) | (have e_ := (Kd.N_reads' HO_4.out).1; omega))
        obtain ⟨ua391_0, uc391_0, rfl, ul391_0, ge391_0⟩ := Kd.FK_slice_open hMe391
        have hv391_0 := hcc391 0 _ rfl
        rw [Nat.add_zero, show ((Kd.slice 3 (Kd.int .i64))).sz = 1 from rfl, Nat.mul_one] at hv391_0
        replace hv391_0 := Option.some.inj (hv391_0.symm.trans hx391_0)
        injection hv391_0 with hva_ hvn_ hvc_
        rw [hva_] at ge391_0
        rw [hvc_] at ul391_0
        have HL391_0 := Aside0.mk (show Kd.V (Kd.int .i64) 3 _ w.heap.size _ _ (rd_L1 t387 x6_2) from Kd.V_mk ul391_0 ge391_0)
        clear hva_ hvn_ hvc_ ge391_0 ul391_0
        clear hcc391 hce391
        have HR391_0 := Aside0.mk hi391_0
        have HC391_0 := Aside0.mk hl391_0
        clear hi391_0 hl391_0
        replace p391 := eq_true p391
        replace q391 := eq_true q391
        have hnb41 := NB386_376.out
        have hnc41 := NB376_386.out
        have hcz42_0 : wr.cell? ⟨gb386, 0, none⟩ = some (.slice Ao19 t380.length co19) := (blk_cell BK386.out 0).trans rfl
        have hcz42_1 : wr.cell? ⟨gb386, 1, none⟩ = some (.slice Ao22 t383.length co22) := (blk_cell BK386.out 1).trans rfl
        have hfz42_0 := blk_frozen BK386.out 0
        have hfz42_1 := blk_frozen BK386.out 1
        go_wp2
        go_roundg k4
        case measure => have := HJ1.out; have := HK2.out; have := HK3.out; have := HK4.out; omega
        case rel => exact ⟨(wrap64 (x7_3 + 1)), (by first | rfl | (simp; done) | (simp [*]; done)), H', ⟨by have := HJ1.out; have := HK2.out; have := HK3.out; have := HK4.out; omega⟩, ⟨by refine kq_N ?_; exact HO_4.out⟩, ⟨by refine kq_R ?_; exact HO_387000.out⟩, ⟨by refine kq_N ?_; exact HO_387001.out⟩, ⟨by refine bkq ?_; exact BK376.out⟩, ⟨by refine bkq ?_; exact BK386.out⟩, ⟨hbq HB.out⟩⟩
       replace c36 := Bool.eq_false_iff.mpr c36
       subst c36
       have H1 : (marblerunlaw12_BasisApart.l1 k4 t387 t390 x6_2 (wrap64 (x7_3 + 1)) t380 t383) = some r := by rw [if_neg (show ¬ (false = true) by decide)] at H; exact H
       clear H
       have H := H1
       clear H1
       have H' := Aside0.mk H
       clear H
       have p391 : 0 ≤ (x6_2 : Int) := of_decide_eq_true (by first | (with_reducible assumption) | assumption)
       have q391 : x6_2 < (t387.length : Int) := of_decide_eq_true (by first | (with_reducible assumption) | assumption)
       obtain ⟨ad391, A391_0, c391_0, e391, hx391_0, hl391_0, hi391_0⟩ := at_L1 (Kd.N_reads' HO_4.out).2.2 x6_2 p391 q391
       cases e391
       obtain ⟨ce391, hce391, hMe391, hcc391⟩ := Kd.N_get HO_4.out [] x6_2 p391 (by first | exact q391 | exact of_decide_eq_true (by first | (with_reducible assumption) | assumption) | (have e_ := (Kd.N_reads' HO_4.out).1; omega))
       obtain ⟨ua391_0, uc391_0, rfl, ul391_0, ge391_0⟩ := Kd.FK_slice_open hMe391
       have hv391_0 := hcc391 0 _ rfl
       rw [Nat.add_zero, show ((Kd.slice 3 (Kd.int .i64))).sz = 1 from rfl, Nat.mul_one] at hv391_0
       replace hv391_0 := Option.some.inj (hv391_0.symm.trans hx391_0)
       injection hv391_0 with hva_ hvn_ hvc_
       rw [hva_] at ge391_0
       rw [hvc_] at ul391_0
       have HL391_0 := Aside0.mk (show Kd.V (Kd.int .i64) 3 _ w.heap.size _ _ (rd_L1 t387 x6_2) from Kd.V_mk ul391_0 ge391_0)
       clear hva_ hvn_ hvc_ ge391_0 ul391_0
       clear hcc391 hce391
       have HR391_0 := Aside0.mk hi391_0
       have HC391_0 := Aside0.mk hl391_0
       clear hi391_0 hl391_0
       replace p391 := eq_true p391
       replace q391 := eq_true q391
       go_wp2
       go_roundg k4
       case measure => have := HJ1.out; have := HK2.out; have := HK3.out; have := HK4.out; omega
       case rel => exact ⟨(wrap64 (x7_3 + 1)), (by first | rfl | (simp; done) | (simp [*]; done)), H', ⟨by have := HJ1.out; have := HK2.out; have := HK3.out; have := HK4.out; omega⟩, ⟨by refine kq_N ?_; exact HO_4.out⟩, ⟨by refine kq_R ?_; exact HO_387000.out⟩, ⟨by refine kq_N ?_; exact HO_387001.out⟩, ⟨by refine bkq ?_; exact BK376.out⟩, ⟨by refine bkq ?_; exact BK386.out⟩, ⟨hbq HB.out⟩⟩
     rw [if_neg c26] at H
     have c26b0 : decide (x7_3 < (t387.length : Int)) = false := decide_eq_false c26
     clear c26
     have H' := Aside0.mk H
     clear H
     go_wp2
     go_roundg k3
     case measure => have := HJ1.out; have := HK2.out; have := HK3.out; omega
     case rel => exact ⟨(wrap64 (x6_2 + 1)), (by first | rfl | (simp; done) | (simp [*]; done)), H', ⟨by have := HJ1.out; have := HK2.out; have := HK3.out; omega⟩, ⟨by refine kq_N ?_; exact HO_4.out⟩, ⟨by refine kq_R ?_; exact HO_387000.out⟩, ⟨by refine kq_N ?_; exact HO_387001.out⟩, ⟨by refine bkq ?_; exact BK376.out⟩, ⟨by refine bkq ?_; exact BK386.out⟩, ⟨hbq HB.out⟩⟩
   rw [if_neg c24] at H
   have c24b0 : decide (x6_2 < (t387.length : Int)) = false := decide_eq_false c24
   clear c24
   by_cases c43 : t390 = 0
   ·rw [if_pos c43] at H
    have c43b0 : (t390 == 0) = true := beq_iff_eq.mpr c43
    have c43b1 : (t390 != 0) = false := bne_eq_false_iff_eq.mpr c43
    clear c43
    obtain rfl := Option.some.inj H
    obtain ⟨Ao44, co44, eo44⟩ := Kd.N_slice HO_4.out
    subst eo44
    go_wp2
    go_ret
    exact ⟨by first | rfl | (simp [errW_none, errW_some] <;> rfl) | (simp [*, errW_none, errW_some] <;> rfl), hbq HB.out⟩
   rw [if_neg c43] at H
   have c43b0 : (t390 == 0) = false := beq_eq_false_iff_ne.mpr c43
   have c43b1 : (t390 != 0) = true := bne_iff_ne.mpr c43
   obtain rfl := Option.some.inj H
   obtain ⟨Ao45, co45, eo45⟩ := Kd.N_slice HO_4.out
   subst eo45
   go_wp2
   go_ret
   exact ⟨by first | rfl | (simp [errW_none, errW_some] <;> rfl) | (simp [*, errW_none, errW_some] <;> rfl), hbq HB.out⟩

end Go.Proofs.Ytifbflpaednfnaa.PBasisApart
