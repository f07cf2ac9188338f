/- What the functions that this law reaches answer, in whatever memory, and the row of the law; no condition. Written by a program of this session (mk.sh). -/
import Derived.Test.YtifbflpaednfnaaPBasisMorex0
import Derived.Test.YtifbflpaednfnaaPBasisMorex4
import Derived.Test.YtifbflpaednfnaaPBasisMorex5
namespace Go.Proofs.Ytifbflpaednfnaa.PBasisMore
open Go.RowKit Go.Proofs.YtifbflpaednfnaaW.PrintWords Go.Proofs.YtifbflpaednfnaaW.PrintLast Go.Proofs.YtifbflpaednfnaaW.PrintMore
attribute [local go_sem] max2_int min2_int max_two min_two max_three min_three max_four min_four   -- for this text's walks alone
set_option linter.unusedVariables false
set_option linter.unusedSimpArgs false

/-! ### basis_column: function 27 -/
mutual
def basis_column.l0 : Nat → List (S66) → Int → List (S66) → List (S66) → Int → Int → Option ((List (S66)) × Int)
 | 0, _, _, _, _, _, _ => none
 | k + 1, x0, x1, x6, x15, x16, x17 => if x17 < x16 then (if 0 ≤ x17 then (if x17 < (x15.length : Int) then (if 0 ≤ x1 then (if x1 < (((rd_T66 x15 x17).f1).length : Int) then (if (rd ((rd_T66 x15 x17).f1) x1) = 0 then (if x6.length < 2932031007402 then (basis_column.l0 k x0 x1 (x6 ++ [(⟨(rd_T66 x15 x17).f0, (rd_T66 x15 x17).f1⟩ : S66)]) x15 x16 (wrap64 (x17 + 1))) else (none)) else (basis_column.l0 k x0 x1 x6 x15 x16 (wrap64 (x17 + 1)))) else (none)) else (none)) else (none)) else (none)) else (basis_column.l1 k x0 x1 x6 x0 (x0.length : Int) 0)
def basis_column.l1 : Nat → List (S66) → Int → List (S66) → List (S66) → Int → Int → Option ((List (S66)) × Int)
 | 0, _, _, _, _, _, _ => none
 | k + 1, x0, x1, x6, x32, x33, x34 => if x34 < x33 then (if 0 ≤ x34 then (if x34 < (x32.length : Int) then (if 0 ≤ (wrap64 (x34 + 1)) then (if (wrap64 (x34 + 1)) ≤ (x0.length : Int) then ((some (x0.drop ((wrap64 (x34 + 1)) : Int).toNat : List (S66))).bind fun y195 => (basis_column.l2 k x0 x1 x6 x32 x33 x34 y195 (y195.length : Int) 0 ((rd_T66 x32 x34).f0) ((rd_T66 x32 x34).f1))) else (none)) else (none)) else (none)) else (none)) else ((basis_least.f k x6).bind fun t190 => (some (t190, 0)))
def basis_column.l2 : Nat → List (S66) → Int → List (S66) → List (S66) → Int → Int → List (S66) → Int → Int → List Int → List Int → Option ((List (S66)) × Int)
 | 0, _, _, _, _, _, _, _, _, _, _, _ => none
 | k + 1, x0, x1, x6, x32, x33, x34, x42, x43, x44, x195000, x195001 => if x44 < x43 then (if 0 ≤ x44 then (if x44 < (x42.length : Int) then (if 0 ≤ x1 then (if x1 < (x195001.length : Int) then (if (rd x195001 x1) = 0 then (basis_column.j3 k x0 x1 x6 x32 x33 x34 x42 x43 x44 true x195000 x195001 ((rd_T66 x42 x44).f0) ((rd_T66 x42 x44).f1)) else (if x1 < (((rd_T66 x42 x44).f1).length : Int) then (if (rd ((rd_T66 x42 x44).f1) x1) = 0 then (basis_column.j3 k x0 x1 x6 x32 x33 x34 x42 x43 x44 true x195000 x195001 ((rd_T66 x42 x44).f0) ((rd_T66 x42 x44).f1)) else (basis_column.j3 k x0 x1 x6 x32 x33 x34 x42 x43 x44 ((decide ((rd x195001 x1) < 0)) == (decide ((rd ((rd_T66 x42 x44).f1) x1) < 0))) x195000 x195001 ((rd_T66 x42 x44).f0) ((rd_T66 x42 x44).f1))) else (none))) else (none)) else (none)) else (none)) else (none)) else (basis_column.l1 k x0 x1 x6 x32 x33 (wrap64 (x34 + 1)))
def basis_column.j3 : Nat → List (S66) → Int → List (S66) → List (S66) → Int → Int → List (S66) → Int → Int → Bool → List Int → List Int → List Int → List Int → Option ((List (S66)) × Int)
 | 0, _, _, _, _, _, _, _, _, _, _, _, _, _, _ => none
 | k + 1, x0, x1, x6, x32, x33, x34, x42, x43, x44, x76, x195000, x195001, x202000, x202001 => if x76 = true then (basis_column.l2 k x0 x1 x6 x32 x33 x34 x42 x43 (wrap64 (x44 + 1)) x195000 x195001) else ((basis_join.f k x195000 x195001 x202000 x202001 x1).bind fun bt206 => (if bt206.2.2 = true then (if x6.length < 2932031007402 then ((some (x6 ++ [(⟨bt206.1, bt206.2.1⟩ : S66)] : List (S66))).bind fun y214 => (if (y214.length : Int) > 400 then (some (([] : List (S66)), 5)) else (basis_column.l2 k x0 x1 y214 x32 x33 x34 x42 x43 (wrap64 (x44 + 1)) x195000 x195001))) else (none)) else (some (([] : List (S66)), 3))))
end
def basis_column.f (k : Nat) (l0 : List (S66)) (a1 : Int) : Option ((List (S66)) × Int) := basis_column.l0 k l0 a1 ([] : List (S66)) l0 (l0.length : Int) 0
theorem basis_column.mono_l : ∀ k, (∀ y0 y1 y2 y3 y4 y5, LeO (basis_column.l0 k y0 y1 y2 y3 y4 y5) (basis_column.l0 (k + 1) y0 y1 y2 y3 y4 y5)) ∧ (∀ y0 y1 y2 y3 y4 y5, LeO (basis_column.l1 k y0 y1 y2 y3 y4 y5) (basis_column.l1 (k + 1) y0 y1 y2 y3 y4 y5)) ∧ (∀ y0 y1 y2 y3 y4 y5 y6 y7 y8 y9 y10, LeO (basis_column.l2 k y0 y1 y2 y3 y4 y5 y6 y7 y8 y9 y10) (basis_column.l2 (k + 1) y0 y1 y2 y3 y4 y5 y6 y7 y8 y9 y10)) ∧ (∀ y0 y1 y2 y3 y4 y5 y6 y7 y8 y9 y10 y11 y12 y13, LeO (basis_column.j3 k y0 y1 y2 y3 y4 y5 y6 y7 y8 y9 y10 y11 y12 y13) (basis_column.j3 (k + 1) y0 y1 y2 y3 y4 y5 y6 y7 y8 y9 y10 y11 y12 y13))
 | 0 => ⟨fun _ _ _ _ _ _ r h => by simp [basis_column.l0] at h, fun _ _ _ _ _ _ r h => by simp [basis_column.l1] at h, fun _ _ _ _ _ _ _ _ _ _ _ r h => by simp [basis_column.l2] at h, fun _ _ _ _ _ _ _ _ _ _ _ _ _ _ r h => by simp [basis_column.j3] at h⟩
 | k + 1 => by
  obtain ⟨ih0, ih1, ih2, ih3⟩ := basis_column.mono_l k
  refine ⟨?_, ?_, ?_, ?_⟩
  all_goals
   intros
   first
   | unfold basis_column.l0
   | unfold basis_column.l1
   | unfold basis_column.l2
   | unfold basis_column.j3
   repeat' first
   | (with_reducible exact ih0 _ _ _ _ _ _)
   | (with_reducible exact ih1 _ _ _ _ _ _)
   | (with_reducible exact ih2 _ _ _ _ _ _ _ _ _ _ _)
   | (with_reducible exact ih3 _ _ _ _ _ _ _ _ _ _ _ _ _ _)
   | (with_reducible exact basis_join.mono _ _ _ _ _ _)
   | (with_reducible exact basis_least.mono _ _)
   | (with_reducible exact LeO.refl _)
   | (with_reducible exact LeO.none _)
   | (with_reducible refine LeO.ite ?_ ?_)
   | (with_reducible refine LeO.bind ?_ (fun _ => ?_))
   | exact ih0 _ _ _ _ _ _
   | exact ih1 _ _ _ _ _ _
   | exact ih2 _ _ _ _ _ _ _ _ _ _ _
   | exact ih3 _ _ _ _ _ _ _ _ _ _ _ _ _ _
   | exact basis_join.mono _ _ _ _ _ _
   | exact basis_least.mono _ _
   | exact LeO.none _
   | refine LeO.ite ?_ ?_
   | refine LeO.bind ?_ (fun _ => ?_)
theorem basis_column.mono : ∀ a0 a1 k, LeO (basis_column.f k a0 a1) (basis_column.f (k + 1) a0 a1) := by
 intro a0 a1 k
 obtain ⟨ih0, ih1, ih2, ih3⟩ := basis_column.mono_l k
 unfold basis_column.f
 repeat' first
  | (with_reducible exact ih0 _ _ _ _ _ _)
  | (with_reducible exact ih1 _ _ _ _ _ _)
  | (with_reducible exact ih2 _ _ _ _ _ _ _ _ _ _ _)
  | (with_reducible exact ih3 _ _ _ _ _ _ _ _ _ _ _ _ _ _)
  | (with_reducible exact basis_join.mono _ _ _ _ _ _)
  | (with_reducible exact basis_least.mono _ _)
  | (with_reducible exact LeO.refl _)
  | (with_reducible exact LeO.none _)
  | (with_reducible refine LeO.ite ?_ ?_)
  | (with_reducible refine LeO.bind ?_ (fun _ => ?_))
  | exact ih0 _ _ _ _ _ _
  | exact ih1 _ _ _ _ _ _
  | exact ih2 _ _ _ _ _ _ _ _ _ _ _
  | exact ih3 _ _ _ _ _ _ _ _ _ _ _ _ _ _
  | exact basis_join.mono _ _ _ _ _ _
  | exact basis_least.mono _ _
  | exact LeO.none _
  | refine LeO.ite ?_ ?_
  | refine LeO.bind ?_ (fun _ => ?_)
set_option maxHeartbeats 8000000 in
set_option maxRecDepth 100000 in
theorem basis_column.calls (k : Nat) (P0_ : Nat → Prop) (A0 : Option Addr) (c0 : Nat) (l0 : List (S66)) (a1 : Int) (r1 : List (S66)) (r2 : Int) (w : World) (hs0 : Kd.V k66 66 w w.heap.size (fun k_ => P0_ k_) (.slice A0 l0.length c0) l0) (h : basis_column.f k l0 a1 = some (r1, r2)) :
 Calls Try.prog 27 #[.slice A0 l0.length c0, .int .i64 a1] w fun e w' => ∃ v0_ : Value, e = .returned (.tuple #[v0_, .int .i64 r2]) ∧ Kd.N k66 66 w' w.heap.size (fun k_ => (P0_ k_ ∨ w.heap.size ≤ k_)) v0_ r1 ∧ Below w.heap.size w w' := by
 have hu66 := Try.underlying66
 have HO0 := Aside0.mk (show Kd.V k66 66 w w.heap.size (fun k_ => (P0_ k_ ∨ w.heap.size ≤ k_)) (.slice A0 l0.length c0) l0 from Kd.V_mono hs0 (fun k_ hk => .inl hk))
 have HB := Aside0.mk (Below.refl w.heap.size w)
 have H : (basis_column.l0 k l0 a1 ([] : List (S66)) l0 (l0.length : Int) 0) = some (r1, r2) := h
 clear h
 have H' := Aside0.mk H
 clear H
 go_enter Try.func27, Try.ntmps27
 go_wp2
 repeat (go_quiet (fail); try go_wp2)
 go_loopg [6, 17] k (fun kq v6 v17 w' => ∃ (x6_1 : List (S66)) (x17_1 : Int), v17 = .int .i64 x17_1 ∧ Aside0 (basis_column.l0 kq l0 a1 x6_1 l0 (l0.length : Int) x17_1 = some (r1, r2)) ∧ Aside0 (kq ≤ k) ∧ Aside0 (Kd.V k66 66 w' w.heap.size (fun k_ => (P0_ k_ ∨ w.heap.size ≤ k_) ∧ some k_ ≠ (v6 : Value).ownBlock) (.slice A0 l0.length c0) l0) ∧ Aside0 (Kd.N k66 66 w' w.heap.size (fun k_ => (P0_ k_ ∨ w.heap.size ≤ k_)) v6 x6_1) ∧ Aside0 (Kd.V k66 66 w' w.heap.size (fun k_ => (P0_ k_ ∨ w.heap.size ≤ k_) ∧ some k_ ≠ (v6 : Value).ownBlock) (.slice A0 l0.length c0) l0) ∧ Aside0 (Below w.heap.size w w'))
 case atStart => exact ⟨(([] : List (S66))), (0), (by first | rfl | (simp; done) | (simp [*]; done)), H', ⟨Nat.le_refl _⟩, ⟨by refine kq_V ?_; exact Kd.V_mono HO0.out (fun _ hk => ⟨hk, (by simp [Value.ownBlock])⟩)⟩, ⟨by first | exact Kd.S_nil _ _ _ _ _ | exact Kd.N_nil _ _ _ _ _ | exact Kd.V_nil _ _ _ _ _ | exact Kd.Q_nil _ _ _ _ _ | exact Kd.R_nil _ _ _ _ _⟩, ⟨by refine kq_V ?_; exact Kd.V_mono HO0.out (fun _ hk => ⟨hk, (by simp [Value.ownBlock])⟩)⟩, ⟨hbq HB.out⟩⟩
 clear H'
 try clear c2
 try clear p2
 obtain ⟨x6_1, x17_1, rfl, HA, HK1, HO_0, HO_6, HO_15, HB⟩ := hrel
 cases gk with
 | zero => exact absurd HA.out (by simp [basis_column.l0])
 | succ k1 =>
  have H := HA.out
  clear HA
  simp only [basis_column.l0] at H
  by_cases c3 : x17_1 < (l0.length : Int)
  ·rw [if_pos c3] at H
   have c3b0 : decide (x17_1 < (l0.length : Int)) = true := decide_eq_true c3
   clear c3
   by_cases c4 : 0 ≤ x17_1
   case neg => rw [if_neg c4] at H; exact absurd H (by simp)
   rw [if_pos c4] at H
   have c4b0 : decide (0 ≤ x17_1) = true := decide_eq_true c4
   clear c4
   by_cases c5 : x17_1 < (l0.length : Int)
   case neg => rw [if_neg c5] at H; exact absurd H (by simp)
   rw [if_pos c5] at H
   have c5b0 : decide (x17_1 < (l0.length : Int)) = true := decide_eq_true c5
   clear c5
   by_cases c6 : 0 ≤ a1
   case neg => rw [if_neg c6] at H; exact absurd H (by simp)
   rw [if_pos c6] at H
   have c6b0 : decide (0 ≤ a1) = true := decide_eq_true c6
   clear c6
   by_cases c7 : a1 < (((rd_T66 l0 x17_1).f1).length : Int)
   case neg => rw [if_neg c7] at H; exact absurd H (by simp)
   rw [if_pos c7] at H
   have c7b0 : decide (a1 < (((rd_T66 l0 x17_1).f1).length : Int)) = true := decide_eq_true c7
   clear c7
   by_cases c8 : (rd ((rd_T66 l0 x17_1).f1) a1) = 0
   ·rw [if_pos c8] at H
    have c8b0 : ((rd ((rd_T66 l0 x17_1).f1) a1) == 0) = true := beq_iff_eq.mpr c8
    have c8b1 : ((rd ((rd_T66 l0 x17_1).f1) a1) != 0) = false := bne_eq_false_iff_eq.mpr c8
    clear c8
    by_cases c9 : x6_1.length < 2932031007402
    case neg => rw [if_neg c9] at H; exact absurd H (by simp)
    rw [if_pos c9] at H
    have LMc9 := Aside0.mk c9
    clear c9
    obtain ⟨y187, hy187⟩ : ∃ y_ : List (S66), y_ = (x6_1 ++ [(⟨(rd_T66 l0 x17_1).f0, (rd_T66 l0 x17_1).f1⟩ : S66)]) := ⟨_, rfl⟩
    replace H : (basis_column.l0 k1 l0 a1 y187 l0 (l0.length : Int) (wrap64 (x17_1 + 1))) = some (r1, r2) := by first | (rw [hy187]; with_reducible exact H) | (have H2_ := (Option.bind_some _ _).symm.trans H; rw [hy187]; with_reducible exact H2_) | (have H2_ := (Option.bind_some _ _).symm.trans H; with_reducible exact H2_) | with_reducible exact H | (rw [hy187]; exact H) | exact H
    have Ny187 := Aside0.mk hy187
    clear hy187
    have H' := Aside0.mk H
    clear H
    have p184 : 0 ≤ (x17_1 : Int) := of_decide_eq_true (by first | (with_reducible assumption) | assumption)
    have q184 : x17_1 < (l0.length : Int) := of_decide_eq_true (by first | (with_reducible assumption) | assumption)
    obtain ⟨ad184, A184_0, c184_0, A184_1, c184_1, e184, hx184_0, hx184_1, hl184_0, hi184_0, hl184_1, hi184_1⟩ := at_T66 (Kd.V_reads' HO_15.out).2.2 x17_1 p184 q184
    cases e184
    obtain ⟨ce184, hce184, hMe184, hcc184⟩ := Kd.V_get HO_15.out z66 x17_1 p184 (by first | exact q184 | exact of_decide_eq_true (by first | (with_reducible assumption) | assumption) | (have e_ := (Kd.V_reads' HO_15.out).1; omega))
    obtain ⟨ua184_0, uc184_0, ua184_1, uc184_1, rfl, ul184_0, ge184_0, ul184_1, ge184_1⟩ := k66_openF hMe184
    have hv184_0 := hcc184 0 _ rfl
    rw [Nat.add_zero] at hv184_0
    replace hv184_0 := Option.some.inj (hv184_0.symm.trans hx184_0)
    injection hv184_0 with hva_ hvn_ hvc_
    rw [hva_] at ge184_0
    rw [hvc_] at ul184_0
    have HL184_0 := Aside0.mk (show Kd.V (Kd.int .i64) 3 _ w.heap.size _ _ ((rd_T66 l0 x17_1).f0) from Kd.V_mk ul184_0 ge184_0)
    clear hva_ hvn_ hvc_ ge184_0 ul184_0
    have hv184_1 := hcc184 1 _ rfl
    rw [add_field _ _ 1 (by omega)] at hv184_1
    replace hv184_1 := Option.some.inj (hv184_1.symm.trans hx184_1)
    injection hv184_1 with hva_ hvn_ hvc_
    rw [hva_] at ge184_1
    rw [hvc_] at ul184_1
    have HL184_1 := Aside0.mk (show Kd.V (Kd.int .i64) 3 _ w.heap.size _ _ ((rd_T66 l0 x17_1).f1) from Kd.V_mk ul184_1 ge184_1)
    clear hva_ hvn_ hvc_ ge184_1 ul184_1
    clear hcc184 hce184
    have HR184_0 := Aside0.mk hi184_0
    have HC184_0 := Aside0.mk hl184_0
    clear hi184_0 hl184_0
    have HR184_1 := Aside0.mk hi184_1
    have HC184_1 := Aside0.mk hl184_1
    clear hi184_1 hl184_1
    replace p184 := eq_true p184
    replace q184 := eq_true q184
    iterate 3 ((try go_quiet (fail)); go_wp2_with (first | ((with_reducible refine gate_dst (N := 8) rfl ?_); refine box_event ?hg (N := 8) ?hd (cs := #[.slice none 0 0, .slice none 0 0]) (t := 66) ?hr ?_; (case hd => rfl); (case hg => rfl); (case hr => first | (go_simp; done) | (go_simp; rfl)); intro gb185 hg w10 hbox hb; have n0_ := Aside0.mk (Kd.V_below (Kd.V_elderB (kq_V HO_0.out) gb185 (Nat.le_of_eq hg.symm)) hb); have n1_ := Aside0.mk (Kd.N_below (Kd.N_elderB (kq_N HO_6.out) gb185 (Nat.le_of_eq hg.symm)) hb); have n2_ := Aside0.mk (Kd.V_below (Kd.V_elderB (kq_V HO_15.out) gb185 (Nat.le_of_eq hg.symm)) hb); have n3_ := Aside0.mk (Kd.V_below (Kd.V_elderB (kq_V HL184_0.out) gb185 (Nat.le_of_eq hg.symm)) hb); have n4_ := Aside0.mk (Kd.V_below (Kd.V_elderB (kq_V HL184_1.out) gb185 (Nat.le_of_eq hg.symm)) hb); have n5_ := Aside0.mk (Kd.C_below (by repeat (first | (with_reducible exact HR184_0.out) | (with_reducible refine Kd.C_alloc ?_ _) | (with_reducible refine Kd.C_drewN ?_ _) | (with_reducible refine Kd.C_drew ?_) | exact HR184_0.out)) hb); have n6_ := Aside0.mk (Kd.C_below (by repeat (first | (with_reducible exact HR184_1.out) | (with_reducible refine Kd.C_alloc ?_ _) | (with_reducible refine Kd.C_drewN ?_ _) | (with_reducible refine Kd.C_drew ?_) | exact HR184_1.out)) hb); have n7_ := Aside0.mk (below_step (hbq HB.out) hb); have n8_ := Aside0.mk (hbox); have n9_ := Aside0.mk ((by rw [hg]; exact (below_size (hbq HB.out)) : w.heap.size ≤ gb185)); have n10_ := Aside0.mk ((by rw [hg]; exact (below_size (hbq HB.out)) : w.heap.size ≤ gb185)); clear HO_0; clear HO_6; clear HO_15; clear HL184_0; clear HL184_1; clear HR184_0; clear HR184_1; clear HB; have HO_0 := n0_; have HO_6 := n1_; have HO_15 := n2_; have HL184_0 := n3_; have HL184_1 := n4_; have HR184_0 := n5_; have HR184_1 := n6_; have HB := n7_; have BK185 := n8_; have GW185 := n9_; have GE185 := n10_; clear n0_ n1_ n2_ n3_ n4_ n5_ n6_ n7_ n8_ n9_ n10_; clear hb hbox hg; have hcz11_0 : w10.cell? ⟨gb185, 0, none⟩ = some (.slice none 0 0) := (blk_cell BK185.out 0).trans rfl; have hcz11_1 : w10.cell? ⟨gb185, 1, none⟩ = some (.slice none 0 0) := (blk_cell BK185.out 1).trans rfl; have hfz11_0 := blk_frozen BK185.out 0; have hfz11_1 := blk_frozen BK185.out 1) | ((with_reducible refine gate_store (t := 66) (p := 8) rfl ?_); (try (rw [drewN_self w10]; generalize hq_ : World.drewN w10 _ = w10; have n0_ := Aside0.mk (Kd.V_at hq_ HO_0.out); have n1_ := Aside0.mk (Kd.N_at hq_ HO_6.out); have n2_ := Aside0.mk (Kd.V_at hq_ HO_15.out); have n3_ := Aside0.mk (Kd.V_at hq_ HL184_0.out); have n4_ := Aside0.mk (Kd.V_at hq_ HL184_1.out); have n5_ := Aside0.mk (blk_at hq_ BK185.out); have n6_ := Aside0.mk (Kd.C_at hq_ HR184_0.out); have n7_ := Aside0.mk (Kd.C_at hq_ HR184_1.out); have n8_ := Aside0.mk (below_at hq_ HB.out); clear hq_ HO_0 HO_6 HO_15 HL184_0 HL184_1 BK185 HR184_0 HR184_1 HB; have HO_0 := n0_; have HO_6 := n1_; have HO_15 := n2_; have HL184_0 := n3_; have HL184_1 := n4_; have BK185 := n5_; have HR184_0 := n6_; have HR184_1 := n7_; have HB := n8_; clear n0_ n1_ n2_ n3_ n4_ n5_ n6_ n7_ n8_)); refine store_event (t := 66) (p := 8) (v := ?vo_w12) (w1 := ((w10.setCell ⟨gb185, 0, none⟩ (.slice A184_0 ((rd_T66 l0 x17_1).f0).length c184_0)).setCell ⟨gb185, 1, none⟩ (.slice A184_1 ((rd_T66 l0 x17_1).f1).length c184_1))) ?hg ?ho ?hn ?hr ?_; (case ho => rfl); (case hg => rfl); (case hn => rfl); (case hr => first | (go_simp; done) | (go_simp; rfl)); intro w12 hw; have n0_ : Aside0 (Kd.V k66 66 w12 w.heap.size (fun k_ => (P0_ k_ ∨ w.heap.size ≤ k_) ∧ some k_ ≠ (u6 : Value).ownBlock ∧ k_ ≠ gb185) (.slice (some ad184) l0.length c0) l0) := ⟨(by rw [hw]; exact (by refine kq_V ?_; exact Kd.V_mono (Kd.V_far (p := ⟨gb185, 1, none⟩) (Kd.V_far (p := ⟨gb185, 0, none⟩) (Kd.V_mono HO_0.out (fun k_ hk => (⟨hk, hk.2⟩ : _ ∧ k_ ≠ gb185))) (fun _ hk => hk.2) (.slice A184_0 ((rd_T66 l0 x17_1).f0).length c184_0)) (fun _ hk => hk.2) (.slice A184_1 ((rd_T66 l0 x17_1).f1).length c184_1)) (fun _ hk => ⟨hk.1.1.1, ⟨hk.1.1.2, hk.1.2⟩⟩)))⟩; have n1_ : Aside0 (Kd.N k66 66 w12 w.heap.size (fun k_ => (P0_ k_ ∨ w.heap.size ≤ k_) ∧ k_ ≠ gb185) u6 x6_1) := ⟨(by rw [hw]; exact (by refine kq_N ?_; exact Kd.N_mono (Kd.N_far (p := ⟨gb185, 1, none⟩) (Kd.N_far (p := ⟨gb185, 0, none⟩) (Kd.N_mono HO_6.out (fun k_ hk => (⟨hk, hk.2⟩ : _ ∧ k_ ≠ gb185))) (fun _ hk => hk.2) (.slice A184_0 ((rd_T66 l0 x17_1).f0).length c184_0)) (fun _ hk => hk.2) (.slice A184_1 ((rd_T66 l0 x17_1).f1).length c184_1)) (fun _ hk => ⟨hk.1.1, hk.1.2⟩)))⟩; have n2_ : Aside0 (Kd.V k66 66 w12 w.heap.size (fun k_ => (P0_ k_ ∨ w.heap.size ≤ k_) ∧ some k_ ≠ (u6 : Value).ownBlock ∧ k_ ≠ gb185) (.slice (some ad184) l0.length c0) l0) := ⟨(by rw [hw]; exact (by refine kq_V ?_; exact Kd.V_mono (Kd.V_far (p := ⟨gb185, 1, none⟩) (Kd.V_far (p := ⟨gb185, 0, none⟩) (Kd.V_mono HO_15.out (fun k_ hk => (⟨hk, hk.2⟩ : _ ∧ k_ ≠ gb185))) (fun _ hk => hk.2) (.slice A184_0 ((rd_T66 l0 x17_1).f0).length c184_0)) (fun _ hk => hk.2) (.slice A184_1 ((rd_T66 l0 x17_1).f1).length c184_1)) (fun _ hk => ⟨hk.1.1.1, ⟨hk.1.1.2, hk.1.2⟩⟩)))⟩; have n3_ : Aside0 (Kd.V (Kd.int .i64) 3 w12 w.heap.size (fun k_ => (P0_ k_ ∨ w.heap.size ≤ k_) ∧ some k_ ≠ (u6 : Value).ownBlock ∧ k_ ≠ gb185) (.slice A184_0 ((rd_T66 l0 x17_1).f0).length c184_0) ((rd_T66 l0 x17_1).f0)) := ⟨(by rw [hw]; exact (by refine kq_V ?_; exact Kd.V_mono (Kd.V_far (p := ⟨gb185, 1, none⟩) (Kd.V_far (p := ⟨gb185, 0, none⟩) (Kd.V_mono HL184_0.out (fun k_ hk => (⟨hk, hk.2⟩ : _ ∧ k_ ≠ gb185))) (fun _ hk => hk.2) (.slice A184_0 ((rd_T66 l0 x17_1).f0).length c184_0)) (fun _ hk => hk.2) (.slice A184_1 ((rd_T66 l0 x17_1).f1).length c184_1)) (fun _ hk => ⟨hk.1.1.1, ⟨hk.1.1.2, hk.1.2⟩⟩)))⟩; have n4_ : Aside0 (Kd.V (Kd.int .i64) 3 w12 w.heap.size (fun k_ => (P0_ k_ ∨ w.heap.size ≤ k_) ∧ some k_ ≠ (u6 : Value).ownBlock ∧ k_ ≠ gb185) (.slice A184_1 ((rd_T66 l0 x17_1).f1).length c184_1) ((rd_T66 l0 x17_1).f1)) := ⟨(by rw [hw]; exact (by refine kq_V ?_; exact Kd.V_mono (Kd.V_far (p := ⟨gb185, 1, none⟩) (Kd.V_far (p := ⟨gb185, 0, none⟩) (Kd.V_mono HL184_1.out (fun k_ hk => (⟨hk, hk.2⟩ : _ ∧ k_ ≠ gb185))) (fun _ hk => hk.2) (.slice A184_0 ((rd_T66 l0 x17_1).f0).length c184_0)) (fun _ hk => hk.2) (.slice A184_1 ((rd_T66 l0 x17_1).f1).length c184_1)) (fun _ hk => ⟨hk.1.1.1, ⟨hk.1.1.2, hk.1.2⟩⟩)))⟩; have n5_ : Aside0 (w12.heap[gb185]? = some (.cells #[.slice A184_0 ((rd_T66 l0 x17_1).f0).length c184_0, .slice A184_1 ((rd_T66 l0 x17_1).f1).length c184_1] 66 (0, 0))) := ⟨(by rw [hw]; exact (by refine bkq ?_; refine blk_put (cs := #[.slice A184_0 ((rd_T66 l0 x17_1).f0).length c184_0, .slice none 0 0]) ?_ 1 _ rfl; refine bkq ?_; refine blk_put (cs := #[.slice none 0 0, .slice none 0 0]) ?_ 0 _ rfl; refine bkq ?_; exact BK185.out))⟩; have n6_ : Aside0 (Below w.heap.size w w12) := ⟨(by rw [hw]; exact (hbq HB.out))⟩; clear hw; clear HO_0; clear HO_6; clear HO_15; clear HL184_0; clear HL184_1; clear BK185; clear HB; have HO_0 := n0_; have HO_6 := n1_; have HO_15 := n2_; have HL184_0 := n3_; have HL184_1 := n4_; have BK185 := n5_; have HB := n6_; clear n0_ n1_ n2_ n3_ n4_ n5_ n6_; have hcz13_0 : w12.cell? ⟨gb185, 0, none⟩ = some (.slice A184_0 ((rd_T66 l0 x17_1).f0).length c184_0) := (blk_cell BK185.out 0).trans rfl; have hcz13_1 : w12.cell? ⟨gb185, 1, none⟩ = some (.slice A184_1 ((rd_T66 l0 x17_1).f1).length c184_1) := (blk_cell BK185.out 1).trans rfl; have hfz13_0 := blk_frozen BK185.out 0; have hfz13_1 := blk_frozen BK185.out 1; have p186 : 0 ≤ (a1 : Int) := of_decide_eq_true (by first | (with_reducible assumption) | assumption); have q186 : a1 < (((rd_T66 l0 x17_1).f1).length : Int) := of_decide_eq_true (by first | (with_reducible assumption) | assumption); obtain ⟨ad186, e186, hx186_0⟩ := Kd.at_int (Kd.V_reads' HL184_1.out).2.2 a1 p186 q186; cases e186; replace p186 := eq_true p186; replace q186 := eq_true q186) | ((with_reducible refine gate_builtin (b := .append) (xs := #[.tmp 27, .tmp 29]) rfl ?_); at_builtin; refine Kd.N_append k66 (w0 := w) w.heap.size rfl (.tmp 27) (.tmp 29) 63 66 (.agg #[(.slice none 0 0), (.slice none 0 0)]) 48 rfl Try.underlying63 info66 rfl (by decide) (by omega) u6 x6_1 (⟨(rd_T66 l0 x17_1).f0, (rd_T66 l0 x17_1).f1⟩ : S66) [.slice A184_0 ((rd_T66 l0 x17_1).f0).length c184_0, .slice (some ad186) ((rd_T66 l0 x17_1).f1).length c184_1] (fun k_ => (P0_ k_ ∨ w.heap.size ≤ k_) ∧ k_ ≠ gb185) (fun k_ => ((fun k_ => (P0_ k_ ∨ w.heap.size ≤ k_) ∧ k_ ≠ gb185)) k_ ∧ some k_ ≠ (u6 : Value).ownBlock) rfl rfl ?aP (fun _ hk => hk) ?aF ?aO ?aB ?aS ?aL ?_; (case aP => exact (k66_mkF _ _ (⟨(rd_T66 l0 x17_1).f0, (rd_T66 l0 x17_1).f1⟩ : S66) (Kd.V_reads' (Kd.V_mono (ok' := (fun k_ => ((fun k_ => (P0_ k_ ∨ w.heap.size ≤ k_) ∧ k_ ≠ gb185)) k_ ∧ some k_ ≠ (u6 : Value).ownBlock)) (HL184_0.out) (fun k_ hk => ⟨⟨hk.1, hk.2.2⟩, hk.2.1⟩))).2.1 (Kd.V_F (Kd.V_mono (ok' := (fun k_ => ((fun k_ => (P0_ k_ ∨ w.heap.size ≤ k_) ∧ k_ ≠ gb185)) k_ ∧ some k_ ≠ (u6 : Value).ownBlock)) (HL184_0.out) (fun k_ hk => ⟨⟨hk.1, hk.2.2⟩, hk.2.1⟩))) (Kd.V_reads' (Kd.V_mono (ok' := (fun k_ => ((fun k_ => (P0_ k_ ∨ w.heap.size ≤ k_) ∧ k_ ≠ gb185)) k_ ∧ some k_ ≠ (u6 : Value).ownBlock)) (HL184_1.out) (fun k_ hk => ⟨⟨hk.1, hk.2.2⟩, hk.2.1⟩))).2.1 (Kd.V_F (Kd.V_mono (ok' := (fun k_ => ((fun k_ => (P0_ k_ ∨ w.heap.size ≤ k_) ∧ k_ ≠ gb185)) k_ ∧ some k_ ≠ (u6 : Value).ownBlock)) (HL184_1.out) (fun k_ hk => ⟨⟨hk.1, hk.2.2⟩, hk.2.1⟩))))); (case aB => exact (hbq HB.out)); (case aF => exact (fun k_ hk => ⟨(.inr (Nat.le_trans (below_size (hbq HB.out)) hk)), Kd.freshB (g := gb185) (o := .cells #[.slice A184_0 ((rd_T66 l0 x17_1).f0).length c184_0, .slice (some ad186) ((rd_T66 l0 x17_1).f1).length c184_1] 66 (0, 0)) (bkq BK185.out) k_ hk⟩)); (case aO => exact (kq_N HO_6.out)); (case aS => exact (below_size (hbq HB.out))); (case aL => have := LMc9.out; omega); intro v188 w14 ho hb hg hat; rw [← Ny187.out] at ho; have n0_ := Aside0.mk (Kd.V_afterv (ok := (fun k_ => (P0_ k_ ∨ w.heap.size ≤ k_) ∧ k_ ≠ gb185)) (by refine kq_V ?_; exact Kd.V_mono HO_0.out (fun _ hk => ⟨⟨hk.1, hk.2.2⟩, hk.2.1⟩)) hg hat); have n1_ := Aside0.mk (Kd.V_afterv (ok := (fun k_ => (P0_ k_ ∨ w.heap.size ≤ k_) ∧ k_ ≠ gb185)) (by refine kq_V ?_; exact Kd.V_mono HO_15.out (fun _ hk => ⟨⟨hk.1, hk.2.2⟩, hk.2.1⟩)) hg hat); have n2_ := Aside0.mk (Kd.V_afterv (ok := (fun k_ => (P0_ k_ ∨ w.heap.size ≤ k_) ∧ k_ ≠ gb185)) (by refine kq_V ?_; exact Kd.V_mono HL184_0.out (fun _ hk => ⟨⟨hk.1, hk.2.2⟩, hk.2.1⟩)) hg hat); have n3_ := Aside0.mk (Kd.V_afterv (ok := (fun k_ => (P0_ k_ ∨ w.heap.size ≤ k_) ∧ k_ ≠ gb185)) (by refine kq_V ?_; exact Kd.V_mono HL184_1.out (fun _ hk => ⟨⟨hk.1, hk.2.2⟩, hk.2.1⟩)) hg hat); have n4_ := Aside0.mk (blk_grown (g := gb185) (o := .cells #[.slice A184_0 ((rd_T66 l0 x17_1).f0).length c184_0, .slice (some ad186) ((rd_T66 l0 x17_1).f1).length c184_1] 66 (0, 0)) (bkq BK185.out) hg (Kd.N_away HO_6.out (fun _ hk => hk.2))); have n5_ := Aside0.mk (hb); have n6_ := Aside0.mk (ho); clear HO_0; clear HO_15; clear HL184_0; clear HL184_1; clear BK185; clear HB; clear HO_6; have HO_0 := n0_; have HO_15 := n1_; have HL184_0 := n2_; have HL184_1 := n3_; have BK185 := n4_; have HB := n5_; have HO189 := n6_; clear n0_ n1_ n2_ n3_ n4_ n5_ n6_; clear ho hb hg hat)))
    go_roundg k1
    case measure => have := HK1.out; omega
    case rel => exact ⟨(y187), (wrap64 (x17_1 + 1)), (by first | rfl | (simp; done) | (simp [*]; done)), H', ⟨by have := HK1.out; omega⟩, ⟨by refine kq_V ?_; exact Kd.V_mono HO_0.out (fun _ hk => ⟨hk.1.1, hk.2⟩)⟩, ⟨by refine kq_N ?_; exact Kd.N_mono HO189.out (fun _ hk => hk.1)⟩, ⟨by refine kq_V ?_; exact Kd.V_mono HO_15.out (fun _ hk => ⟨hk.1.1, hk.2⟩)⟩, ⟨hbq HB.out⟩⟩
   rw [if_neg c8] at H
   have c8b0 : ((rd ((rd_T66 l0 x17_1).f1) a1) == 0) = false := beq_eq_false_iff_ne.mpr c8
   have c8b1 : ((rd ((rd_T66 l0 x17_1).f1) a1) != 0) = true := bne_iff_ne.mpr c8
   have H' := Aside0.mk H
   clear H
   have p184 : 0 ≤ (x17_1 : Int) := of_decide_eq_true (by first | (with_reducible assumption) | assumption)
   have q184 : x17_1 < (l0.length : Int) := of_decide_eq_true (by first | (with_reducible assumption) | assumption)
   obtain ⟨ad184, A184_0, c184_0, A184_1, c184_1, e184, hx184_0, hx184_1, hl184_0, hi184_0, hl184_1, hi184_1⟩ := at_T66 (Kd.V_reads' HO_15.out).2.2 x17_1 p184 q184
   cases e184
   obtain ⟨ce184, hce184, hMe184, hcc184⟩ := Kd.V_get HO_15.out z66 x17_1 p184 (by first | exact q184 | exact of_decide_eq_true (by first | (with_reducible assumption) | assumption) | (have e_ := (Kd.V_reads' HO_15.out).1; omega))
   obtain ⟨ua184_0, uc184_0, ua184_1, uc184_1, rfl, ul184_0, ge184_0, ul184_1, ge184_1⟩ := k66_openF hMe184
   have hv184_0 := hcc184 0 _ rfl
   rw [Nat.add_zero] at hv184_0
   replace hv184_0 := Option.some.inj (hv184_0.symm.trans hx184_0)
   injection hv184_0 with hva_ hvn_ hvc_
   rw [hva_] at ge184_0
   rw [hvc_] at ul184_0
   have HL184_0 := Aside0.mk (show Kd.V (Kd.int .i64) 3 _ w.heap.size _ _ ((rd_T66 l0 x17_1).f0) from Kd.V_mk ul184_0 ge184_0)
   clear hva_ hvn_ hvc_ ge184_0 ul184_0
   have hv184_1 := hcc184 1 _ rfl
   rw [add_field _ _ 1 (by omega)] at hv184_1
   replace hv184_1 := Option.some.inj (hv184_1.symm.trans hx184_1)
   injection hv184_1 with hva_ hvn_ hvc_
   rw [hva_] at ge184_1
   rw [hvc_] at ul184_1
   have HL184_1 := Aside0.mk (show Kd.V (Kd.int .i64) 3 _ w.heap.size _ _ ((rd_T66 l0 x17_1).f1) from Kd.V_mk ul184_1 ge184_1)
   clear hva_ hvn_ hvc_ ge184_1 ul184_1
   clear hcc184 hce184
   have HR184_0 := Aside0.mk hi184_0
   have HC184_0 := Aside0.mk hl184_0
   clear hi184_0 hl184_0
   have HR184_1 := Aside0.mk hi184_1
   have HC184_1 := Aside0.mk hl184_1
   clear hi184_1 hl184_1
   replace p184 := eq_true p184
   replace q184 := eq_true q184
   iterate 3 ((try go_quiet (fail)); go_wp2_with (first | ((with_reducible refine gate_dst (N := 8) rfl ?_); refine box_event ?hg (N := 8) ?hd (cs := #[.slice none 0 0, .slice none 0 0]) (t := 66) ?hr ?_; (case hd => rfl); (case hg => rfl); (case hr => first | (go_simp; done) | (go_simp; rfl)); intro gb185 hg w15 hbox hb; have n0_ := Aside0.mk (Kd.V_below (Kd.V_elderB (kq_V HO_0.out) gb185 (Nat.le_of_eq hg.symm)) hb); have n1_ := Aside0.mk (Kd.N_below (Kd.N_elderB (kq_N HO_6.out) gb185 (Nat.le_of_eq hg.symm)) hb); have n2_ := Aside0.mk (Kd.V_below (Kd.V_elderB (kq_V HO_15.out) gb185 (Nat.le_of_eq hg.symm)) hb); have n3_ := Aside0.mk (Kd.V_below (Kd.V_elderB (kq_V HL184_0.out) gb185 (Nat.le_of_eq hg.symm)) hb); have n4_ := Aside0.mk (Kd.V_below (Kd.V_elderB (kq_V HL184_1.out) gb185 (Nat.le_of_eq hg.symm)) hb); have n5_ := Aside0.mk (Kd.C_below (by repeat (first | (with_reducible exact HR184_0.out) | (with_reducible refine Kd.C_alloc ?_ _) | (with_reducible refine Kd.C_drewN ?_ _) | (with_reducible refine Kd.C_drew ?_) | exact HR184_0.out)) hb); have n6_ := Aside0.mk (Kd.C_below (by repeat (first | (with_reducible exact HR184_1.out) | (with_reducible refine Kd.C_alloc ?_ _) | (with_reducible refine Kd.C_drewN ?_ _) | (with_reducible refine Kd.C_drew ?_) | exact HR184_1.out)) hb); have n7_ := Aside0.mk (below_step (hbq HB.out) hb); have n8_ := Aside0.mk (hbox); have n9_ := Aside0.mk ((by rw [hg]; exact (below_size (hbq HB.out)) : w.heap.size ≤ gb185)); have n10_ := Aside0.mk ((by rw [hg]; exact (below_size (hbq HB.out)) : w.heap.size ≤ gb185)); clear HO_0; clear HO_6; clear HO_15; clear HL184_0; clear HL184_1; clear HR184_0; clear HR184_1; clear HB; have HO_0 := n0_; have HO_6 := n1_; have HO_15 := n2_; have HL184_0 := n3_; have HL184_1 := n4_; have HR184_0 := n5_; have HR184_1 := n6_; have HB := n7_; have BK185 := n8_; have GW185 := n9_; have GE185 := n10_; clear n0_ n1_ n2_ n3_ n4_ n5_ n6_ n7_ n8_ n9_ n10_; clear hb hbox hg; have hcz16_0 : w15.cell? ⟨gb185, 0, none⟩ = some (.slice none 0 0) := (blk_cell BK185.out 0).trans rfl; have hcz16_1 : w15.cell? ⟨gb185, 1, none⟩ = some (.slice none 0 0) := (blk_cell BK185.out 1).trans rfl; have hfz16_0 := blk_frozen BK185.out 0; have hfz16_1 := blk_frozen BK185.out 1; have p186 : 0 ≤ (a1 : Int) := of_decide_eq_true (by first | (with_reducible assumption) | assumption); have q186 : a1 < (((rd_T66 l0 x17_1).f1).length : Int) := of_decide_eq_true (by first | (with_reducible assumption) | assumption); obtain ⟨ad186, e186, hx186_0⟩ := Kd.at_int (Kd.V_reads' HL184_1.out).2.2 a1 p186 q186; cases e186; have hn186_0 := int_ne hx186_0 BK185.out (by rfl); have hn186_1 := int_ne hx186_0 BK185.out (by rfl); replace hx186_0 := (cell_far (p := ⟨gb185, 0, none⟩) (by first | (rw [add_block]; exact hn186_0) | (show (Addr.add _ _).block ≠ _; rw [add_block]; exact hn186_0) | exact hn186_0) (.slice A184_0 ((rd_T66 l0 x17_1).f0).length c184_0)).trans hx186_0; replace hx186_0 := (cell_far (p := ⟨gb185, 1, none⟩) (by first | (rw [add_block]; exact hn186_1) | (show (Addr.add _ _).block ≠ _; rw [add_block]; exact hn186_1) | exact hn186_1) (.slice (some ad186) ((rd_T66 l0 x17_1).f1).length c184_1)).trans hx186_0; (try have hy186_0 := fun (n_ : Nat) => (show ((((w15.drewN n_).setCell ⟨gb185, 0, none⟩ (.slice A184_0 ((rd_T66 l0 x17_1).f0).length c184_0)).setCell ⟨gb185, 1, none⟩ (.slice (some ad186) ((rd_T66 l0 x17_1).f1).length c184_1))).cell? _ = some _ from hx186_0)); clear hn186_0; clear hn186_1; replace p186 := eq_true p186; replace q186 := eq_true q186)))
   go_roundg k1
   case measure => have := HK1.out; omega
   case rel => exact ⟨(x6_1), (wrap64 (x17_1 + 1)), (by first | rfl | (simp; done) | (simp [*]; done)), H', ⟨by have := HK1.out; omega⟩, ⟨by refine kq_V ?_; exact Kd.V_mono (Kd.V_far (p := ⟨gb185, 1, none⟩) (Kd.V_far (p := ⟨gb185, 0, none⟩) (Kd.V_mono HO_0.out (fun k_ hk => (⟨hk, hk.2⟩ : _ ∧ k_ ≠ gb185))) (fun _ hk => hk.2) (.slice A184_0 ((rd_T66 l0 x17_1).f0).length c184_0)) (fun _ hk => hk.2) (.slice (some ad186) ((rd_T66 l0 x17_1).f1).length c184_1)) (fun _ hk => ⟨hk.1.1.1, hk.1.1.2⟩)⟩, ⟨by refine kq_N ?_; exact Kd.N_mono (Kd.N_far (p := ⟨gb185, 1, none⟩) (Kd.N_far (p := ⟨gb185, 0, none⟩) (Kd.N_mono HO_6.out (fun k_ hk => (⟨hk, hk.2⟩ : _ ∧ k_ ≠ gb185))) (fun _ hk => hk.2) (.slice A184_0 ((rd_T66 l0 x17_1).f0).length c184_0)) (fun _ hk => hk.2) (.slice (some ad186) ((rd_T66 l0 x17_1).f1).length c184_1)) (fun _ hk => hk.1.1)⟩, ⟨by refine kq_V ?_; exact Kd.V_mono (Kd.V_far (p := ⟨gb185, 1, none⟩) (Kd.V_far (p := ⟨gb185, 0, none⟩) (Kd.V_mono HO_15.out (fun k_ hk => (⟨hk, hk.2⟩ : _ ∧ k_ ≠ gb185))) (fun _ hk => hk.2) (.slice A184_0 ((rd_T66 l0 x17_1).f0).length c184_0)) (fun _ hk => hk.2) (.slice (some ad186) ((rd_T66 l0 x17_1).f1).length c184_1)) (fun _ hk => ⟨hk.1.1.1, hk.1.1.2⟩)⟩, ⟨hbq HB.out⟩⟩
  rw [if_neg c3] at H
  have c3b0 : decide (x17_1 < (l0.length : Int)) = false := decide_eq_false c3
  clear c3
  have H' := Aside0.mk H
  clear H
  go_wp2
  repeat (go_quiet (fail); try go_wp2)
  go_loopg [6, 34] k1 (fun kq v6 v34 w' => ∃ (x6_2 : List (S66)) (x34_2 : Int), v34 = .int .i64 x34_2 ∧ Aside0 (basis_column.l1 kq l0 a1 x6_2 l0 (l0.length : Int) x34_2 = some (r1, r2)) ∧ Aside0 (kq ≤ k1) ∧ Aside0 (Kd.V k66 66 w' w.heap.size (fun k_ => (P0_ k_ ∨ w.heap.size ≤ k_) ∧ some k_ ≠ (v6 : Value).ownBlock) (.slice A0 l0.length c0) l0) ∧ Aside0 (Kd.N k66 66 w' w.heap.size (fun k_ => (P0_ k_ ∨ w.heap.size ≤ k_)) v6 x6_2) ∧ Aside0 (Kd.V k66 66 w' w.heap.size (fun k_ => (P0_ k_ ∨ w.heap.size ≤ k_) ∧ some k_ ≠ (v6 : Value).ownBlock) (.slice A0 l0.length c0) l0) ∧ Aside0 (Below w.heap.size w w'))
  case atStart => exact ⟨(x6_1), (0), (by first | rfl | (simp; done) | (simp [*]; done)), H', ⟨Nat.le_refl _⟩, ⟨by refine kq_V ?_; exact HO_0.out⟩, ⟨by refine kq_N ?_; exact HO_6.out⟩, ⟨by refine kq_V ?_; exact HO_0.out⟩, ⟨hbq HB.out⟩⟩
  clear H'
  try clear c1
  try clear p1
  try clear q1
  try clear hx1
  try clear c2
  try clear p2
  try clear c3
  try clear c3b0
  try clear c4
  try clear c4b0
  try clear c5
  try clear c5b0
  try clear c6
  try clear c6b0
  try clear p6
  try clear c7
  try clear c7b0
  try clear c8
  try clear c8b0
  try clear c8b1
  try clear c9
  try clear hcz11_0
  try clear hcz11_1
  try clear hcz13_0
  try clear hcz13_1
  try clear hcz16_0
  try clear hcz16_1
  try clear hfz11_0
  try clear hfz11_1
  try clear hfz13_0
  try clear hfz13_1
  try clear hfz16_0
  try clear hfz16_1
  try clear hx184_0
  try clear hx184_1
  try clear hx186_0
  try clear p184
  try clear p186
  try clear p2
  try clear q184
  try clear q186
  obtain ⟨x6_2, x34_2, rfl, HA, HK2, HO_0, HO_6, HO_32, HB⟩ := hrel
  cases gk with
  | zero => exact absurd HA.out (by simp [basis_column.l1])
  | succ k2 =>
   have H := HA.out
   clear HA
   simp only [basis_column.l1] at H
   by_cases c17 : x34_2 < (l0.length : Int)
   ·rw [if_pos c17] at H
    have c17b0 : decide (x34_2 < (l0.length : Int)) = true := decide_eq_true c17
    clear c17
    by_cases c18 : 0 ≤ x34_2
    case neg => rw [if_neg c18] at H; exact absurd H (by simp)
    rw [if_pos c18] at H
    have c18b0 : decide (0 ≤ x34_2) = true := decide_eq_true c18
    clear c18
    by_cases c19 : x34_2 < (l0.length : Int)
    case neg => rw [if_neg c19] at H; exact absurd H (by simp)
    rw [if_pos c19] at H
    have c19b0 : decide (x34_2 < (l0.length : Int)) = true := decide_eq_true c19
    clear c19
    obtain ⟨ji20, hji20⟩ : ∃ j_ : Int, (wrap64 (x34_2 + 1)) = j_ := ⟨_, rfl⟩
    replace H : (if 0 ≤ (ji20) then (if (ji20) ≤ (l0.length : Int) then ((some (l0.drop ((ji20) : Int).toNat : List (S66))).bind fun y195 => (basis_column.l2 k2 l0 a1 x6_2 l0 (l0.length : Int) x34_2 y195 (y195.length : Int) 0 ((rd_T66 l0 x34_2).f0) ((rd_T66 l0 x34_2).f1))) else (none)) else (none)) = some (r1, r2) := by first | (rw [hji20] at H; exact H) | (simp only [hji20] at H ⊢; exact H)
    have hji20w : (IntKind.i64.wrap (x34_2 + 1)) = ji20 := (i64_w _).trans hji20
    by_cases c21 : 0 ≤ (ji20)
    case neg => rw [if_neg c21] at H; exact absurd H (by simp)
    rw [if_pos c21] at H
    have c21b0 := eq_true c21
    have c21b1 : decide (0 ≤ (ji20)) = true := decide_eq_true c21
    clear c21
    by_cases c22 : (ji20) ≤ (l0.length : Int)
    case neg => rw [if_neg c22] at H; exact absurd H (by simp)
    rw [if_pos c22] at H
    have c22b0 := eq_true c22
    have c22b1 : decide ((ji20) ≤ (l0.length : Int)) = true := decide_eq_true c22
    clear c22
    obtain ⟨y195, hy195⟩ : ∃ y_ : List (S66), y_ = (l0.drop ((ji20) : Int).toNat) := ⟨_, rfl⟩
    replace H : (basis_column.l2 k2 l0 a1 x6_2 l0 (l0.length : Int) x34_2 y195 (y195.length : Int) 0 ((rd_T66 l0 x34_2).f0) ((rd_T66 l0 x34_2).f1)) = some (r1, r2) := by first | (rw [hy195]; with_reducible exact H) | (have H2_ := (Option.bind_some _ _).symm.trans H; rw [hy195]; with_reducible exact H2_) | (have H2_ := (Option.bind_some _ _).symm.trans H; with_reducible exact H2_) | with_reducible exact H | (rw [hy195]; exact H) | exact H
    have Ny195 := Aside0.mk hy195
    clear hy195
    have H' := Aside0.mk H
    clear H
    have p193 : 0 ≤ (x34_2 : Int) := of_decide_eq_true (by first | (with_reducible assumption) | assumption)
    have q193 : x34_2 < (l0.length : Int) := of_decide_eq_true (by first | (with_reducible assumption) | assumption)
    obtain ⟨ad193, A193_0, c193_0, A193_1, c193_1, e193, hx193_0, hx193_1, hl193_0, hi193_0, hl193_1, hi193_1⟩ := at_T66 (Kd.V_reads' HO_32.out).2.2 x34_2 p193 q193
    cases e193
    obtain ⟨ce193, hce193, hMe193, hcc193⟩ := Kd.V_get HO_32.out z66 x34_2 p193 (by first | exact q193 | exact of_decide_eq_true (by first | (with_reducible assumption) | assumption) | (have e_ := (Kd.V_reads' HO_32.out).1; omega))
    obtain ⟨ua193_0, uc193_0, ua193_1, uc193_1, rfl, ul193_0, ge193_0, ul193_1, ge193_1⟩ := k66_openF hMe193
    have hv193_0 := hcc193 0 _ rfl
    rw [Nat.add_zero] at hv193_0
    replace hv193_0 := Option.some.inj (hv193_0.symm.trans hx193_0)
    injection hv193_0 with hva_ hvn_ hvc_
    rw [hva_] at ge193_0
    rw [hvc_] at ul193_0
    have HL193_0 := Aside0.mk (show Kd.V (Kd.int .i64) 3 _ w.heap.size _ _ ((rd_T66 l0 x34_2).f0) from Kd.V_mk ul193_0 ge193_0)
    clear hva_ hvn_ hvc_ ge193_0 ul193_0
    have hv193_1 := hcc193 1 _ rfl
    rw [add_field _ _ 1 (by omega)] at hv193_1
    replace hv193_1 := Option.some.inj (hv193_1.symm.trans hx193_1)
    injection hv193_1 with hva_ hvn_ hvc_
    rw [hva_] at ge193_1
    rw [hvc_] at ul193_1
    have HL193_1 := Aside0.mk (show Kd.V (Kd.int .i64) 3 _ w.heap.size _ _ ((rd_T66 l0 x34_2).f1) from Kd.V_mk ul193_1 ge193_1)
    clear hva_ hvn_ hvc_ ge193_1 ul193_1
    clear hcc193 hce193
    have HR193_0 := Aside0.mk hi193_0
    have HC193_0 := Aside0.mk hl193_0
    clear hi193_0 hl193_0
    have HR193_1 := Aside0.mk hi193_1
    have HC193_1 := Aside0.mk hl193_1
    clear hi193_1 hl193_1
    replace p193 := eq_true p193
    replace q193 := eq_true q193
    iterate 3 ((try go_quiet (fail)); go_wp2_with (first | ((with_reducible refine gate_dst (N := 10) rfl ?_); refine box_event ?hg (N := 10) ?hd (cs := #[.slice none 0 0, .slice none 0 0]) (t := 66) ?hr ?_; (case hd => rfl); (case hg => rfl); (case hr => first | (go_simp; done) | (go_simp; rfl)); intro gb194 hg w23 hbox hb; have n0_ := Aside0.mk (Kd.V_below (Kd.V_elderB (kq_V HO_0.out) gb194 (Nat.le_of_eq hg.symm)) hb); have n1_ := Aside0.mk (Kd.N_below (Kd.N_elderB (kq_N HO_6.out) gb194 (Nat.le_of_eq hg.symm)) hb); have n2_ := Aside0.mk (Kd.V_below (Kd.V_elderB (kq_V HO_32.out) gb194 (Nat.le_of_eq hg.symm)) hb); have n3_ := Aside0.mk (Kd.V_below (Kd.V_elderB (kq_V HL193_0.out) gb194 (Nat.le_of_eq hg.symm)) hb); have n4_ := Aside0.mk (Kd.V_below (Kd.V_elderB (kq_V HL193_1.out) gb194 (Nat.le_of_eq hg.symm)) hb); have n5_ := Aside0.mk (Kd.C_below (by repeat (first | (with_reducible exact HR193_0.out) | (with_reducible refine Kd.C_alloc ?_ _) | (with_reducible refine Kd.C_drewN ?_ _) | (with_reducible refine Kd.C_drew ?_) | exact HR193_0.out)) hb); have n6_ := Aside0.mk (Kd.C_below (by repeat (first | (with_reducible exact HR193_1.out) | (with_reducible refine Kd.C_alloc ?_ _) | (with_reducible refine Kd.C_drewN ?_ _) | (with_reducible refine Kd.C_drew ?_) | exact HR193_1.out)) hb); have n7_ := Aside0.mk (below_step (hbq HB.out) hb); have n8_ := Aside0.mk (hbox); have n9_ := Aside0.mk ((by rw [hg]; exact (below_size (hbq HB.out)) : w.heap.size ≤ gb194)); have n10_ := Aside0.mk ((by rw [hg]; exact (below_size (hbq HB.out)) : w.heap.size ≤ gb194)); clear HO_0; clear HO_6; clear HO_32; clear HL193_0; clear HL193_1; clear HR193_0; clear HR193_1; clear HB; have HO_0 := n0_; have HO_6 := n1_; have HO_32 := n2_; have HL193_0 := n3_; have HL193_1 := n4_; have HR193_0 := n5_; have HR193_1 := n6_; have HB := n7_; have BK194 := n8_; have GW194 := n9_; have GE194 := n10_; clear n0_ n1_ n2_ n3_ n4_ n5_ n6_ n7_ n8_ n9_ n10_; clear hb hbox hg; have hcz24_0 : w23.cell? ⟨gb194, 0, none⟩ = some (.slice none 0 0) := (blk_cell BK194.out 0).trans rfl; have hcz24_1 : w23.cell? ⟨gb194, 1, none⟩ = some (.slice none 0 0) := (blk_cell BK194.out 1).trans rfl; have hfz24_0 := blk_frozen BK194.out 0; have hfz24_1 := blk_frozen BK194.out 1) | ((with_reducible refine gate_store (t := 66) (p := 10) rfl ?_); (try (rw [drewN_self w23]; generalize hq_ : World.drewN w23 _ = w23; have n0_ := Aside0.mk (Kd.V_at hq_ HO_0.out); have n1_ := Aside0.mk (Kd.N_at hq_ HO_6.out); have n2_ := Aside0.mk (Kd.V_at hq_ HO_32.out); have n3_ := Aside0.mk (Kd.V_at hq_ HL193_0.out); have n4_ := Aside0.mk (Kd.V_at hq_ HL193_1.out); have n5_ := Aside0.mk (blk_at hq_ BK194.out); have n6_ := Aside0.mk (Kd.C_at hq_ HR193_0.out); have n7_ := Aside0.mk (Kd.C_at hq_ HR193_1.out); have n8_ := Aside0.mk (below_at hq_ HB.out); clear hq_ HO_0 HO_6 HO_32 HL193_0 HL193_1 BK194 HR193_0 HR193_1 HB; have HO_0 := n0_; have HO_6 := n1_; have HO_32 := n2_; have HL193_0 := n3_; have HL193_1 := n4_; have BK194 := n5_; have HR193_0 := n6_; have HR193_1 := n7_; have HB := n8_; clear n0_ n1_ n2_ n3_ n4_ n5_ n6_ n7_ n8_)); refine store_event (t := 66) (p := 10) (v := ?vo_w25) (w1 := ((w23.setCell ⟨gb194, 0, none⟩ (.slice A193_0 ((rd_T66 l0 x34_2).f0).length c193_0)).setCell ⟨gb194, 1, none⟩ (.slice A193_1 ((rd_T66 l0 x34_2).f1).length c193_1))) ?hg ?ho ?hn ?hr ?_; (case ho => rfl); (case hg => rfl); (case hn => rfl); (case hr => first | (go_simp; done) | (go_simp; rfl)); intro w25 hw; have n0_ : Aside0 (Kd.V k66 66 w25 w.heap.size (fun k_ => (P0_ k_ ∨ w.heap.size ≤ k_) ∧ some k_ ≠ (u6 : Value).ownBlock ∧ k_ ≠ gb194) (.slice (some ad193) l0.length c0) l0) := ⟨(by rw [hw]; exact (by refine kq_V ?_; exact Kd.V_mono (Kd.V_far (p := ⟨gb194, 1, none⟩) (Kd.V_far (p := ⟨gb194, 0, none⟩) (Kd.V_mono HO_0.out (fun k_ hk => (⟨hk, hk.2⟩ : _ ∧ k_ ≠ gb194))) (fun _ hk => hk.2) (.slice A193_0 ((rd_T66 l0 x34_2).f0).length c193_0)) (fun _ hk => hk.2) (.slice A193_1 ((rd_T66 l0 x34_2).f1).length c193_1)) (fun _ hk => ⟨hk.1.1.1, ⟨hk.1.1.2, hk.1.2⟩⟩)))⟩; have n1_ : Aside0 (Kd.N k66 66 w25 w.heap.size (fun k_ => (P0_ k_ ∨ w.heap.size ≤ k_) ∧ k_ ≠ gb194) u6 x6_2) := ⟨(by rw [hw]; exact (by refine kq_N ?_; exact Kd.N_mono (Kd.N_far (p := ⟨gb194, 1, none⟩) (Kd.N_far (p := ⟨gb194, 0, none⟩) (Kd.N_mono HO_6.out (fun k_ hk => (⟨hk, hk.2⟩ : _ ∧ k_ ≠ gb194))) (fun _ hk => hk.2) (.slice A193_0 ((rd_T66 l0 x34_2).f0).length c193_0)) (fun _ hk => hk.2) (.slice A193_1 ((rd_T66 l0 x34_2).f1).length c193_1)) (fun _ hk => ⟨hk.1.1, hk.1.2⟩)))⟩; have n2_ : Aside0 (Kd.V k66 66 w25 w.heap.size (fun k_ => (P0_ k_ ∨ w.heap.size ≤ k_) ∧ some k_ ≠ (u6 : Value).ownBlock ∧ k_ ≠ gb194) (.slice (some ad193) l0.length c0) l0) := ⟨(by rw [hw]; exact (by refine kq_V ?_; exact Kd.V_mono (Kd.V_far (p := ⟨gb194, 1, none⟩) (Kd.V_far (p := ⟨gb194, 0, none⟩) (Kd.V_mono HO_32.out (fun k_ hk => (⟨hk, hk.2⟩ : _ ∧ k_ ≠ gb194))) (fun _ hk => hk.2) (.slice A193_0 ((rd_T66 l0 x34_2).f0).length c193_0)) (fun _ hk => hk.2) (.slice A193_1 ((rd_T66 l0 x34_2).f1).length c193_1)) (fun _ hk => ⟨hk.1.1.1, ⟨hk.1.1.2, hk.1.2⟩⟩)))⟩; have n3_ : Aside0 (Kd.V (Kd.int .i64) 3 w25 w.heap.size (fun k_ => (P0_ k_ ∨ w.heap.size ≤ k_) ∧ some k_ ≠ (u6 : Value).ownBlock ∧ k_ ≠ gb194) (.slice A193_0 ((rd_T66 l0 x34_2).f0).length c193_0) ((rd_T66 l0 x34_2).f0)) := ⟨(by rw [hw]; exact (by refine kq_V ?_; exact Kd.V_mono (Kd.V_far (p := ⟨gb194, 1, none⟩) (Kd.V_far (p := ⟨gb194, 0, none⟩) (Kd.V_mono HL193_0.out (fun k_ hk => (⟨hk, hk.2⟩ : _ ∧ k_ ≠ gb194))) (fun _ hk => hk.2) (.slice A193_0 ((rd_T66 l0 x34_2).f0).length c193_0)) (fun _ hk => hk.2) (.slice A193_1 ((rd_T66 l0 x34_2).f1).length c193_1)) (fun _ hk => ⟨hk.1.1.1, ⟨hk.1.1.2, hk.1.2⟩⟩)))⟩; have n4_ : Aside0 (Kd.V (Kd.int .i64) 3 w25 w.heap.size (fun k_ => (P0_ k_ ∨ w.heap.size ≤ k_) ∧ some k_ ≠ (u6 : Value).ownBlock ∧ k_ ≠ gb194) (.slice A193_1 ((rd_T66 l0 x34_2).f1).length c193_1) ((rd_T66 l0 x34_2).f1)) := ⟨(by rw [hw]; exact (by refine kq_V ?_; exact Kd.V_mono (Kd.V_far (p := ⟨gb194, 1, none⟩) (Kd.V_far (p := ⟨gb194, 0, none⟩) (Kd.V_mono HL193_1.out (fun k_ hk => (⟨hk, hk.2⟩ : _ ∧ k_ ≠ gb194))) (fun _ hk => hk.2) (.slice A193_0 ((rd_T66 l0 x34_2).f0).length c193_0)) (fun _ hk => hk.2) (.slice A193_1 ((rd_T66 l0 x34_2).f1).length c193_1)) (fun _ hk => ⟨hk.1.1.1, ⟨hk.1.1.2, hk.1.2⟩⟩)))⟩; have n5_ : Aside0 (w25.heap[gb194]? = some (.cells #[.slice A193_0 ((rd_T66 l0 x34_2).f0).length c193_0, .slice A193_1 ((rd_T66 l0 x34_2).f1).length c193_1] 66 (0, 0))) := ⟨(by rw [hw]; exact (by refine bkq ?_; refine blk_put (cs := #[.slice A193_0 ((rd_T66 l0 x34_2).f0).length c193_0, .slice none 0 0]) ?_ 1 _ rfl; refine bkq ?_; refine blk_put (cs := #[.slice none 0 0, .slice none 0 0]) ?_ 0 _ rfl; refine bkq ?_; exact BK194.out))⟩; have n6_ : Aside0 (Below w.heap.size w w25) := ⟨(by rw [hw]; exact (hbq HB.out))⟩; clear hw; clear HO_0; clear HO_6; clear HO_32; clear HL193_0; clear HL193_1; clear BK194; clear HB; have HO_0 := n0_; have HO_6 := n1_; have HO_32 := n2_; have HL193_0 := n3_; have HL193_1 := n4_; have BK194 := n5_; have HB := n6_; clear n0_ n1_ n2_ n3_ n4_ n5_ n6_; have q26 : ((ji20) : Int) ≤ ((l0.length : Int) : Int) := of_decide_eq_true (by first | (with_reducible assumption) | assumption); obtain ⟨i026, hi026, _, hsz26, _⟩ := info_parts info66; have hroom26 : l0.length ≤ c0 := (Kd.V_reads' HO_0.out).2.1; have hC26 : Kd.F k66 _ _ (some ad193) l0.length l0 := (Kd.V_at (base := w.heap.size) HO_0.out).2.2; have q026 : (0 : Int) ≤ ((ji20) : Int) := of_decide_eq_true (by first | (with_reducible assumption) | assumption); have hcut26 := cut_from (P := Try.prog) 63 66 .i64 Try.underlying63 hi026 2 hsz26 (some ad193) l0.length c0 (ji20) q026 q26; have hr26 := Kd.F_cut (m := ((ji20) : Int).toNat) (c := c0) hC26 (by omega) hroom26; obtain ⟨A26, hA26⟩ : ∃ A1, A1 = (if c0 = ((ji20) : Int).toNat then (some ad193) else ((some ad193) : Option Addr).map (·.add (((ji20) : Int).toNat * 2))) := ⟨_, rfl⟩; obtain ⟨c26, hc26⟩ : ∃ c1, c1 = c0 - ((ji20) : Int).toNat := ⟨_, rfl⟩; have hy26 : y195.length = l0.length - ((ji20) : Int).toNat := (by rw [Ny195.out, List.length_drop] <;> omega); rw [show (l0).drop ((ji20) : Int).toNat = y195 from Ny195.out.symm] at hr26; replace hr26 : Kd.F k66 _ _ A26 y195.length y195 := (by rw [hA26]; exact hr26); rw [← hy26, ← hA26, ← hc26] at hcut26; have HO199 := Aside0.mk (show Kd.V k66 66 _ w.heap.size _ (.slice A26 y195.length c26) y195 from Kd.V_mk (by rw [hy26, hc26]; exact Nat.sub_le_sub_right hroom26 _) hr26); have HC199 := Aside0.mk (show y195.length ≤ c26 from by rw [hy26, hc26]; exact Nat.sub_le_sub_right hroom26 _); clear hr26 hC26 hroom26 hi026 hsz26 hc26; have KY26 := Aside0.mk hy26; have KA26 := Aside0.mk hA26; clear hy26 hA26; replace q26 := eq_true q26)))
    go_loopg [6, 44] k2 (fun kq v6 v44 w' => ∃ (x6_3 : List (S66)) (x44_3 : Int), v44 = .int .i64 x44_3 ∧ Aside0 (basis_column.l2 kq l0 a1 x6_3 l0 (l0.length : Int) x34_2 y195 (y195.length : Int) x44_3 ((rd_T66 l0 x34_2).f0) ((rd_T66 l0 x34_2).f1) = some (r1, r2)) ∧ Aside0 (kq ≤ k2) ∧ Aside0 (Kd.V k66 66 w' w.heap.size (fun k_ => (P0_ k_ ∨ w.heap.size ≤ k_) ∧ some k_ ≠ (v6 : Value).ownBlock ∧ k_ ≠ gb194) (.slice (some ad193) l0.length c0) l0) ∧ Aside0 (Kd.N k66 66 w' w.heap.size (fun k_ => (P0_ k_ ∨ w.heap.size ≤ k_) ∧ k_ ≠ gb194) v6 x6_3) ∧ Aside0 (Kd.V k66 66 w' w.heap.size (fun k_ => (P0_ k_ ∨ w.heap.size ≤ k_) ∧ some k_ ≠ (v6 : Value).ownBlock ∧ k_ ≠ gb194) (.slice (some ad193) l0.length c0) l0) ∧ Aside0 (Kd.V k66 66 w' w.heap.size (fun k_ => (P0_ k_ ∨ w.heap.size ≤ k_) ∧ some k_ ≠ (v6 : Value).ownBlock ∧ k_ ≠ gb194) (.slice A26 y195.length c26) y195) ∧ Aside0 (Kd.V (Kd.int .i64) 3 w' w.heap.size (fun k_ => (P0_ k_ ∨ w.heap.size ≤ k_) ∧ some k_ ≠ (v6 : Value).ownBlock ∧ k_ ≠ gb194) (.slice A193_0 ((rd_T66 l0 x34_2).f0).length c193_0) ((rd_T66 l0 x34_2).f0)) ∧ Aside0 (Kd.V (Kd.int .i64) 3 w' w.heap.size (fun k_ => (P0_ k_ ∨ w.heap.size ≤ k_) ∧ some k_ ≠ (v6 : Value).ownBlock ∧ k_ ≠ gb194) (.slice A193_1 ((rd_T66 l0 x34_2).f1).length c193_1) ((rd_T66 l0 x34_2).f1)) ∧ Aside0 (w'.heap[gb194]? = some (.cells #[(.slice A193_0 ((rd_T66 l0 x34_2).f0).length c193_0), (.slice A193_1 ((rd_T66 l0 x34_2).f1).length c193_1)] 66 (0, 0))) ∧ Aside0 (Below w.heap.size w w'))
    case atStart => exact ⟨(x6_2), (0), (by first | rfl | (simp; done) | (simp [*]; done)), H', ⟨Nat.le_refl _⟩, ⟨by refine kq_V ?_; exact HO_0.out⟩, ⟨by refine kq_N ?_; exact HO_6.out⟩, ⟨by refine kq_V ?_; exact HO_32.out⟩, ⟨by refine kq_V ?_; exact HO199.out⟩, ⟨by refine kq_V ?_; exact HL193_0.out⟩, ⟨by refine kq_V ?_; exact HL193_1.out⟩, ⟨by refine bkq ?_; exact BK194.out⟩, ⟨hbq HB.out⟩⟩
    clear H'
    try clear c1
    try clear p1
    try clear q1
    try clear hx1
    try clear c2
    try clear p2
    try clear q2
    try clear c3
    try clear c3b0
    try clear c4
    try clear c4b0
    try clear c5
    try clear c5b0
    try clear c6
    try clear c6b0
    try clear p6
    try clear c7
    try clear c7b0
    try clear c8
    try clear c8b0
    try clear c8b1
    try clear c9
    try clear c17
    try clear c17b0
    try clear c18
    try clear c18b0
    try clear p18
    try clear q18
    try clear hx18
    try clear c19
    try clear c19b0
    try clear p19
    try clear q19
    try clear hx19
    try clear c21
    try clear c21b0
    try clear c21b1
    try clear c22
    try clear c22b0
    try clear c22b1
    try clear c26
    try clear q26
    try clear hcz11_0
    try clear hcz11_1
    try clear hcz13_0
    try clear hcz13_1
    try clear hcz16_0
    try clear hcz16_1
    try clear hcz24_0
    try clear hcz24_1
    try clear hfz11_0
    try clear hfz11_1
    try clear hfz13_0
    try clear hfz13_1
    try clear hfz16_0
    try clear hfz16_1
    try clear hfz24_0
    try clear hfz24_1
    try clear hx184_0
    try clear hx184_1
    try clear hx186_0
    try clear hx193_0
    try clear hx193_1
    try clear p1
    try clear p184
    try clear p186
    try clear p193
    try clear p2
    try clear p6
    try clear q026
    try clear q1
    try clear q184
    try clear q186
    try clear q193
    try clear q26
    obtain ⟨x6_3, x44_3, rfl, HA, HK3, HO_0, HO_6, HO_32, HO_42, HO_195000, HO_195001, BK194, HB⟩ := hrel
    cases gk with
    | zero => exact absurd HA.out (by simp [basis_column.l2])
    | succ k3 =>
     have H := HA.out
     clear HA
     simp only [basis_column.l2] at H
     by_cases c27 : x44_3 < (y195.length : Int)
     ·rw [if_pos c27] at H
      have c27b0 : decide (x44_3 < (y195.length : Int)) = true := decide_eq_true c27
      clear c27
      by_cases c28 : 0 ≤ x44_3
      case neg => rw [if_neg c28] at H; exact absurd H (by simp)
      rw [if_pos c28] at H
      have c28b0 : decide (0 ≤ x44_3) = true := decide_eq_true c28
      clear c28
      by_cases c29 : x44_3 < (y195.length : Int)
      case neg => rw [if_neg c29] at H; exact absurd H (by simp)
      rw [if_pos c29] at H
      have c29b0 : decide (x44_3 < (y195.length : Int)) = true := decide_eq_true c29
      clear c29
      have HC30 := Aside0.mk H
      clear H
      have p200 : 0 ≤ (x44_3 : Int) := of_decide_eq_true (by first | (with_reducible assumption) | assumption)
      have q200 : x44_3 < (y195.length : Int) := of_decide_eq_true (by first | (with_reducible assumption) | assumption)
      obtain ⟨ad200, A200_0, c200_0, A200_1, c200_1, e200, hx200_0, hx200_1, hl200_0, hi200_0, hl200_1, hi200_1⟩ := at_T66 (Kd.V_reads' HO_42.out).2.2 x44_3 p200 q200
      cases e200
      obtain ⟨ce200, hce200, hMe200, hcc200⟩ := Kd.V_get HO_42.out z66 x44_3 p200 (by first | exact q200 | exact of_decide_eq_true (by first | (with_reducible assumption) | assumption) | (have e_ := (Kd.V_reads' HO_42.out).1; omega))
      obtain ⟨ua200_0, uc200_0, ua200_1, uc200_1, rfl, ul200_0, ge200_0, ul200_1, ge200_1⟩ := k66_openF hMe200
      have hv200_0 := hcc200 0 _ rfl
      rw [Nat.add_zero] at hv200_0
      replace hv200_0 := Option.some.inj (hv200_0.symm.trans hx200_0)
      injection hv200_0 with hva_ hvn_ hvc_
      rw [hva_] at ge200_0
      rw [hvc_] at ul200_0
      have HL200_0 := Aside0.mk (show Kd.V (Kd.int .i64) 3 _ w.heap.size _ _ ((rd_T66 y195 x44_3).f0) from Kd.V_mk ul200_0 ge200_0)
      clear hva_ hvn_ hvc_ ge200_0 ul200_0
      have hv200_1 := hcc200 1 _ rfl
      rw [add_field _ _ 1 (by omega)] at hv200_1
      replace hv200_1 := Option.some.inj (hv200_1.symm.trans hx200_1)
      injection hv200_1 with hva_ hvn_ hvc_
      rw [hva_] at ge200_1
      rw [hvc_] at ul200_1
      have HL200_1 := Aside0.mk (show Kd.V (Kd.int .i64) 3 _ w.heap.size _ _ ((rd_T66 y195 x44_3).f1) from Kd.V_mk ul200_1 ge200_1)
      clear hva_ hvn_ hvc_ ge200_1 ul200_1
      clear hcc200 hce200
      have HR200_0 := Aside0.mk hi200_0
      have HC200_0 := Aside0.mk hl200_0
      clear hi200_0 hl200_0
      have HR200_1 := Aside0.mk hi200_1
      have HC200_1 := Aside0.mk hl200_1
      clear hi200_1 hl200_1
      replace p200 := eq_true p200
      replace q200 := eq_true q200
      go_upto_region 14 with (first | ((with_reducible refine gate_dst (N := 12) rfl ?_); refine box_event ?hg (N := 12) ?hd (cs := #[.slice none 0 0, .slice none 0 0]) (t := 66) ?hr ?_; (case hd => rfl); (case hg => rfl); (case hr => first | (go_simp; done) | (go_simp; rfl)); intro gb201 hg w31 hbox hb; have n0_ := Aside0.mk (Kd.V_below (Kd.V_elderB (kq_V HO_0.out) gb201 (Nat.le_of_eq hg.symm)) hb); have n1_ := Aside0.mk (Kd.N_below (Kd.N_elderB (kq_N HO_6.out) gb201 (Nat.le_of_eq hg.symm)) hb); have n2_ := Aside0.mk (Kd.V_below (Kd.V_elderB (kq_V HO_32.out) gb201 (Nat.le_of_eq hg.symm)) hb); have n3_ := Aside0.mk (Kd.V_below (Kd.V_elderB (kq_V HO_42.out) gb201 (Nat.le_of_eq hg.symm)) hb); have n4_ := Aside0.mk (Kd.V_below (Kd.V_elderB (kq_V HO_195000.out) gb201 (Nat.le_of_eq hg.symm)) hb); have n5_ := Aside0.mk (Kd.V_below (Kd.V_elderB (kq_V HO_195001.out) gb201 (Nat.le_of_eq hg.symm)) hb); have n6_ := Aside0.mk (Kd.V_below (Kd.V_elderB (kq_V HL200_0.out) gb201 (Nat.le_of_eq hg.symm)) hb); have n7_ := Aside0.mk (Kd.V_below (Kd.V_elderB (kq_V HL200_1.out) gb201 (Nat.le_of_eq hg.symm)) hb); have n8_ := Aside0.mk (blk_below (g := gb194) (o := .cells #[.slice A193_0 ((rd_T66 l0 x34_2).f0).length c193_0, .slice A193_1 ((rd_T66 l0 x34_2).f1).length c193_1] 66 (0, 0)) (bkq BK194.out) hb); have n9_ := Aside0.mk (Kd.C_below (by repeat (first | (with_reducible exact HR200_0.out) | (with_reducible refine Kd.C_alloc ?_ _) | (with_reducible refine Kd.C_drewN ?_ _) | (with_reducible refine Kd.C_drew ?_) | exact HR200_0.out)) hb); have n10_ := Aside0.mk (Kd.C_below (by repeat (first | (with_reducible exact HR200_1.out) | (with_reducible refine Kd.C_alloc ?_ _) | (with_reducible refine Kd.C_drewN ?_ _) | (with_reducible refine Kd.C_drew ?_) | exact HR200_1.out)) hb); have n11_ := Aside0.mk (below_step (hbq HB.out) hb); have n12_ := Aside0.mk (hbox); have n13_ := Aside0.mk ((by rw [hg]; exact (below_size (hbq HB.out)) : w.heap.size ≤ gb201)); have n14_ := Aside0.mk ((by rw [hg]; exact (below_size (hbq HB.out)) : w.heap.size ≤ gb201)); have n15_ := Aside0.mk ((by rw [hg]; exact Nat.ne_of_lt (blk_lt (g := gb194) (o := .cells #[.slice A193_0 ((rd_T66 l0 x34_2).f0).length c193_0, .slice A193_1 ((rd_T66 l0 x34_2).f1).length c193_1] 66 (0, 0)) (bkq BK194.out)) : gb194 ≠ gb201)); have n16_ := Aside0.mk ((by rw [hg]; exact Nat.ne_of_gt (blk_lt (g := gb194) (o := .cells #[.slice A193_0 ((rd_T66 l0 x34_2).f0).length c193_0, .slice A193_1 ((rd_T66 l0 x34_2).f1).length c193_1] 66 (0, 0)) (bkq BK194.out)) : gb201 ≠ gb194)); clear HO_0; clear HO_6; clear HO_32; clear HO_42; clear HO_195000; clear HO_195001; clear HL200_0; clear HL200_1; clear BK194; clear HR200_0; clear HR200_1; clear HB; have HO_0 := n0_; have HO_6 := n1_; have HO_32 := n2_; have HO_42 := n3_; have HO_195000 := n4_; have HO_195001 := n5_; have HL200_0 := n6_; have HL200_1 := n7_; have BK194 := n8_; have HR200_0 := n9_; have HR200_1 := n10_; have HB := n11_; have BK201 := n12_; have GW201 := n13_; have GE201 := n14_; have NB194_201 := n15_; have NB201_194 := n16_; clear n0_ n1_ n2_ n3_ n4_ n5_ n6_ n7_ n8_ n9_ n10_ n11_ n12_ n13_ n14_ n15_ n16_; clear hb hbox hg; have hnb32 := NB201_194.out; have hnc32 := NB194_201.out; have hcz33_0 : w31.cell? ⟨gb201, 0, none⟩ = some (.slice none 0 0) := (blk_cell BK201.out 0).trans rfl; have hcz33_1 : w31.cell? ⟨gb201, 1, none⟩ = some (.slice none 0 0) := (blk_cell BK201.out 1).trans rfl; have hfz33_0 := blk_frozen BK201.out 0; have hfz33_1 := blk_frozen BK201.out 1))
      repeat (go_quiet (first | ((with_reducible refine gate_dst (N := 12) rfl ?_); refine box_event ?hg (N := 12) ?hd (cs := #[.slice none 0 0, .slice none 0 0]) (t := 66) ?hr ?_; (case hd => rfl); (case hg => rfl); (case hr => first | (go_simp; done) | (go_simp; rfl)); intro gb201 hg w31 hbox hb; have n0_ := Aside0.mk (Kd.V_below (Kd.V_elderB (kq_V HO_0.out) gb201 (Nat.le_of_eq hg.symm)) hb); have n1_ := Aside0.mk (Kd.N_below (Kd.N_elderB (kq_N HO_6.out) gb201 (Nat.le_of_eq hg.symm)) hb); have n2_ := Aside0.mk (Kd.V_below (Kd.V_elderB (kq_V HO_32.out) gb201 (Nat.le_of_eq hg.symm)) hb); have n3_ := Aside0.mk (Kd.V_below (Kd.V_elderB (kq_V HO_42.out) gb201 (Nat.le_of_eq hg.symm)) hb); have n4_ := Aside0.mk (Kd.V_below (Kd.V_elderB (kq_V HO_195000.out) gb201 (Nat.le_of_eq hg.symm)) hb); have n5_ := Aside0.mk (Kd.V_below (Kd.V_elderB (kq_V HO_195001.out) gb201 (Nat.le_of_eq hg.symm)) hb); have n6_ := Aside0.mk (Kd.V_below (Kd.V_elderB (kq_V HL200_0.out) gb201 (Nat.le_of_eq hg.symm)) hb); have n7_ := Aside0.mk (Kd.V_below (Kd.V_elderB (kq_V HL200_1.out) gb201 (Nat.le_of_eq hg.symm)) hb); have n8_ := Aside0.mk (blk_below (g := gb194) (o := .cells #[.slice A193_0 ((rd_T66 l0 x34_2).f0).length c193_0, .slice A193_1 ((rd_T66 l0 x34_2).f1).length c193_1] 66 (0, 0)) (bkq BK194.out) hb); have n9_ := Aside0.mk (Kd.C_below (by repeat (first | (with_reducible exact HR200_0.out) | (with_reducible refine Kd.C_alloc ?_ _) | (with_reducible refine Kd.C_drewN ?_ _) | (with_reducible refine Kd.C_drew ?_) | exact HR200_0.out)) hb); have n10_ := Aside0.mk (Kd.C_below (by repeat (first | (with_reducible exact HR200_1.out) | (with_reducible refine Kd.C_alloc ?_ _) | (with_reducible refine Kd.C_drewN ?_ _) | (with_reducible refine Kd.C_drew ?_) | exact HR200_1.out)) hb); have n11_ := Aside0.mk (below_step (hbq HB.out) hb); have n12_ := Aside0.mk (hbox); have n13_ := Aside0.mk ((by rw [hg]; exact (below_size (hbq HB.out)) : w.heap.size ≤ gb201)); have n14_ := Aside0.mk ((by rw [hg]; exact (below_size (hbq HB.out)) : w.heap.size ≤ gb201)); have n15_ := Aside0.mk ((by rw [hg]; exact Nat.ne_of_lt (blk_lt (g := gb194) (o := .cells #[.slice A193_0 ((rd_T66 l0 x34_2).f0).length c193_0, .slice A193_1 ((rd_T66 l0 x34_2).f1).length c193_1] 66 (0, 0)) (bkq BK194.out)) : gb194 ≠ gb201)); have n16_ := Aside0.mk ((by rw [hg]; exact Nat.ne_of_gt (blk_lt (g := gb194) (o := .cells #[.slice A193_0 ((rd_T66 l0 x34_2).f0).length c193_0, .slice A193_1 ((rd_T66 l0 x34_2).f1).length c193_1] 66 (0, 0)) (bkq BK194.out)) : gb201 ≠ gb194)); clear HO_0; clear HO_6; clear HO_32; clear HO_42; clear HO_195000; clear HO_195001; clear HL200_0; clear HL200_1; clear BK194; clear HR200_0; clear HR200_1; clear HB; have HO_0 := n0_; have HO_6 := n1_; have HO_32 := n2_; have HO_42 := n3_; have HO_195000 := n4_; have HO_195001 := n5_; have HL200_0 := n6_; have HL200_1 := n7_; have BK194 := n8_; have HR200_0 := n9_; have HR200_1 := n10_; have HB := n11_; have BK201 := n12_; have GW201 := n13_; have GE201 := n14_; have NB194_201 := n15_; have NB201_194 := n16_; clear n0_ n1_ n2_ n3_ n4_ n5_ n6_ n7_ n8_ n9_ n10_ n11_ n12_ n13_ n14_ n15_ n16_; clear hb hbox hg; have hnb32 := NB201_194.out; have hnc32 := NB194_201.out; have hcz33_0 : w31.cell? ⟨gb201, 0, none⟩ = some (.slice none 0 0) := (blk_cell BK201.out 0).trans rfl; have hcz33_1 : w31.cell? ⟨gb201, 1, none⟩ = some (.slice none 0 0) := (blk_cell BK201.out 1).trans rfl; have hfz33_0 := blk_frozen BK201.out 0; have hfz33_1 := blk_frozen BK201.out 1)); go_upto_region 14 with (first | ((with_reducible refine gate_dst (N := 12) rfl ?_); refine box_event ?hg (N := 12) ?hd (cs := #[.slice none 0 0, .slice none 0 0]) (t := 66) ?hr ?_; (case hd => rfl); (case hg => rfl); (case hr => first | (go_simp; done) | (go_simp; rfl)); intro gb201 hg w31 hbox hb; have n0_ := Aside0.mk (Kd.V_below (Kd.V_elderB (kq_V HO_0.out) gb201 (Nat.le_of_eq hg.symm)) hb); have n1_ := Aside0.mk (Kd.N_below (Kd.N_elderB (kq_N HO_6.out) gb201 (Nat.le_of_eq hg.symm)) hb); have n2_ := Aside0.mk (Kd.V_below (Kd.V_elderB (kq_V HO_32.out) gb201 (Nat.le_of_eq hg.symm)) hb); have n3_ := Aside0.mk (Kd.V_below (Kd.V_elderB (kq_V HO_42.out) gb201 (Nat.le_of_eq hg.symm)) hb); have n4_ := Aside0.mk (Kd.V_below (Kd.V_elderB (kq_V HO_195000.out) gb201 (Nat.le_of_eq hg.symm)) hb); have n5_ := Aside0.mk (Kd.V_below (Kd.V_elderB (kq_V HO_195001.out) gb201 (Nat.le_of_eq hg.symm)) hb); have n6_ := Aside0.mk (Kd.V_below (Kd.V_elderB (kq_V HL200_0.out) gb201 (Nat.le_of_eq hg.symm)) hb); have n7_ := Aside0.mk (Kd.V_below (Kd.V_elderB (kq_V HL200_1.out) gb201 (Nat.le_of_eq hg.symm)) hb); have n8_ := Aside0.mk (blk_below (g := gb194) (o := .cells #[.slice A193_0 ((rd_T66 l0 x34_2).f0).length c193_0, .slice A193_1 ((rd_T66 l0 x34_2).f1).length c193_1] 66 (0, 0)) (bkq BK194.out) hb); have n9_ := Aside0.mk (Kd.C_below (by repeat (first | (with_reducible exact HR200_0.out) | (with_reducible refine Kd.C_alloc ?_ _) | (with_reducible refine Kd.C_drewN ?_ _) | (with_reducible refine Kd.C_drew ?_) | exact HR200_0.out)) hb); have n10_ := Aside0.mk (Kd.C_below (by repeat (first | (with_reducible exact HR200_1.out) | (with_reducible refine Kd.C_alloc ?_ _) | (with_reducible refine Kd.C_drewN ?_ _) | (with_reducible refine Kd.C_drew ?_) | exact HR200_1.out)) hb); have n11_ := Aside0.mk (below_step (hbq HB.out) hb); have n12_ := Aside0.mk (hbox); have n13_ := Aside0.mk ((by rw [hg]; exact (below_size (hbq HB.out)) : w.heap.size ≤ gb201)); have n14_ := Aside0.mk ((by rw [hg]; exact (below_size (hbq HB.out)) : w.heap.size ≤ gb201)); have n15_ := Aside0.mk ((by rw [hg]; exact Nat.ne_of_lt (blk_lt (g := gb194) (o := .cells #[.slice A193_0 ((rd_T66 l0 x34_2).f0).length c193_0, .slice A193_1 ((rd_T66 l0 x34_2).f1).length c193_1] 66 (0, 0)) (bkq BK194.out)) : gb194 ≠ gb201)); have n16_ := Aside0.mk ((by rw [hg]; exact Nat.ne_of_gt (blk_lt (g := gb194) (o := .cells #[.slice A193_0 ((rd_T66 l0 x34_2).f0).length c193_0, .slice A193_1 ((rd_T66 l0 x34_2).f1).length c193_1] 66 (0, 0)) (bkq BK194.out)) : gb201 ≠ gb194)); clear HO_0; clear HO_6; clear HO_32; clear HO_42; clear HO_195000; clear HO_195001; clear HL200_0; clear HL200_1; clear BK194; clear HR200_0; clear HR200_1; clear HB; have HO_0 := n0_; have HO_6 := n1_; have HO_32 := n2_; have HO_42 := n3_; have HO_195000 := n4_; have HO_195001 := n5_; have HL200_0 := n6_; have HL200_1 := n7_; have BK194 := n8_; have HR200_0 := n9_; have HR200_1 := n10_; have HB := n11_; have BK201 := n12_; have GW201 := n13_; have GE201 := n14_; have NB194_201 := n15_; have NB201_194 := n16_; clear n0_ n1_ n2_ n3_ n4_ n5_ n6_ n7_ n8_ n9_ n10_ n11_ n12_ n13_ n14_ n15_ n16_; clear hb hbox hg; have hnb32 := NB201_194.out; have hnc32 := NB194_201.out; have hcz33_0 : w31.cell? ⟨gb201, 0, none⟩ = some (.slice none 0 0) := (blk_cell BK201.out 0).trans rfl; have hcz33_1 : w31.cell? ⟨gb201, 1, none⟩ = some (.slice none 0 0) := (blk_cell BK201.out 1).trans rfl; have hfz33_0 := blk_frozen BK201.out 0; have hfz33_1 := blk_frozen BK201.out 1)))
      (try simp only [Act.put, List.setIfInBounds_toArray, List.set_cons_zero, List.set_cons_succ])
      go_cut [76] (fun v76 wc => ∃ (kq : Nat) (x76_29 : Bool), v76 = .bool x76_29 ∧ Aside0 (basis_column.j3 kq l0 a1 x6_3 l0 (l0.length : Int) x34_2 y195 (y195.length : Int) x44_3 x76_29 ((rd_T66 l0 x34_2).f0) ((rd_T66 l0 x34_2).f1) ((rd_T66 y195 x44_3).f0) ((rd_T66 y195 x44_3).f1) = some (r1, r2)) ∧ Aside0 (kq ≤ k3) ∧ Aside0 (Kd.V k66 66 wc w.heap.size (fun k_ => (P0_ k_ ∨ w.heap.size ≤ k_) ∧ some k_ ≠ (u6 : Value).ownBlock ∧ k_ ≠ gb194 ∧ k_ ≠ gb201) (.slice (some ad193) l0.length c0) l0) ∧ Aside0 (Kd.N k66 66 wc w.heap.size (fun k_ => (P0_ k_ ∨ w.heap.size ≤ k_) ∧ k_ ≠ gb194 ∧ k_ ≠ gb201) u6 x6_3) ∧ Aside0 (Kd.V k66 66 wc w.heap.size (fun k_ => (P0_ k_ ∨ w.heap.size ≤ k_) ∧ some k_ ≠ (u6 : Value).ownBlock ∧ k_ ≠ gb194 ∧ k_ ≠ gb201) (.slice (some ad193) l0.length c0) l0) ∧ Aside0 (Kd.V k66 66 wc w.heap.size (fun k_ => (P0_ k_ ∨ w.heap.size ≤ k_) ∧ some k_ ≠ (u6 : Value).ownBlock ∧ k_ ≠ gb194 ∧ k_ ≠ gb201) (.slice (some ad200) y195.length c26) y195) ∧ Aside0 (Kd.V (Kd.int .i64) 3 wc w.heap.size (fun k_ => (P0_ k_ ∨ w.heap.size ≤ k_) ∧ some k_ ≠ (u6 : Value).ownBlock ∧ k_ ≠ gb194 ∧ k_ ≠ gb201) (.slice A193_0 ((rd_T66 l0 x34_2).f0).length c193_0) ((rd_T66 l0 x34_2).f0)) ∧ Aside0 (Kd.V (Kd.int .i64) 3 wc w.heap.size (fun k_ => (P0_ k_ ∨ w.heap.size ≤ k_) ∧ some k_ ≠ (u6 : Value).ownBlock ∧ k_ ≠ gb194 ∧ k_ ≠ gb201) (.slice A193_1 ((rd_T66 l0 x34_2).f1).length c193_1) ((rd_T66 l0 x34_2).f1)) ∧ Aside0 (Kd.V (Kd.int .i64) 3 wc w.heap.size (fun k_ => (P0_ k_ ∨ w.heap.size ≤ k_) ∧ some k_ ≠ (u6 : Value).ownBlock ∧ k_ ≠ gb194 ∧ k_ ≠ gb201) (.slice A200_0 ((rd_T66 y195 x44_3).f0).length c200_0) ((rd_T66 y195 x44_3).f0)) ∧ Aside0 (Kd.V (Kd.int .i64) 3 wc w.heap.size (fun k_ => (P0_ k_ ∨ w.heap.size ≤ k_) ∧ some k_ ≠ (u6 : Value).ownBlock ∧ k_ ≠ gb194 ∧ k_ ≠ gb201) (.slice A200_1 ((rd_T66 y195 x44_3).f1).length c200_1) ((rd_T66 y195 x44_3).f1)) ∧ Aside0 (wc.heap[gb194]? = some (.cells #[(.slice A193_0 ((rd_T66 l0 x34_2).f0).length c193_0), (.slice A193_1 ((rd_T66 l0 x34_2).f1).length c193_1)] 66 (0, 0))) ∧ Aside0 (wc.heap[gb201]? = some (.cells #[(.slice A200_0 ((rd_T66 y195 x44_3).f0).length c200_0), (.slice A200_1 ((rd_T66 y195 x44_3).f1).length c200_1)] 66 (0, 0))) ∧ Aside0 (Below w.heap.size w wc))
      case first =>
       have H := HC30.out
       clear HC30
       by_cases c34 : 0 ≤ a1
       case neg => rw [if_neg c34] at H; exact absurd H (by simp)
       rw [if_pos c34] at H
       have c34b0 : decide (0 ≤ a1) = true := decide_eq_true c34
       clear c34
       (first | rw [c34b0] | (simp only [i64_w, i32_w]; rw [c34b0]) | skip)
       by_cases c35 : a1 < (((rd_T66 l0 x34_2).f1).length : Int)
       case neg => rw [if_neg c35] at H; exact absurd H (by simp)
       rw [if_pos c35] at H
       have c35b0 : decide (a1 < (((rd_T66 l0 x34_2).f1).length : Int)) = true := decide_eq_true c35
       clear c35
       by_cases c36 : (rd ((rd_T66 l0 x34_2).f1) a1) = 0
       ·rw [if_pos c36] at H
        have c36b0 : ((rd ((rd_T66 l0 x34_2).f1) a1) == 0) = true := beq_iff_eq.mpr c36
        have c36b1 : ((rd ((rd_T66 l0 x34_2).f1) a1) != 0) = false := bne_eq_false_iff_eq.mpr c36
        clear c36
        have H' := Aside0.mk H
        clear H
        have hnb37 := NB194_201.out
        have hnc37 := NB201_194.out
        have hcz38_0 : w31.cell? ⟨gb194, 0, none⟩ = some (.slice A193_0 ((rd_T66 l0 x34_2).f0).length c193_0) := (blk_cell BK194.out 0).trans rfl
        have hcz38_1 : w31.cell? ⟨gb194, 1, none⟩ = some (.slice A193_1 ((rd_T66 l0 x34_2).f1).length c193_1) := (blk_cell BK194.out 1).trans rfl
        have hfz38_0 := blk_frozen BK194.out 0
        have hfz38_1 := blk_frozen BK194.out 1
        have p202 : 0 ≤ (a1 : Int) := of_decide_eq_true (by first | (with_reducible assumption) | assumption)
        have q202 : a1 < (((rd_T66 l0 x34_2).f1).length : Int) := of_decide_eq_true (by first | (with_reducible assumption) | assumption)
        obtain ⟨ad202, e202, hx202_0⟩ := Kd.at_int (Kd.V_reads' HO_195001.out).2.2 a1 p202 q202
        cases e202
        have hn202_0 := int_ne hx202_0 BK201.out (by rfl)
        have hn202_1 := int_ne hx202_0 BK201.out (by rfl)
        replace hx202_0 := (cell_far (p := ⟨gb201, 0, none⟩) (by first | (rw [add_block]; exact hn202_0) | (show (Addr.add _ _).block ≠ _; rw [add_block]; exact hn202_0) | exact hn202_0) (.slice A200_0 ((rd_T66 y195 x44_3).f0).length c200_0)).trans hx202_0
        replace hx202_0 := (cell_far (p := ⟨gb201, 1, none⟩) (by first | (rw [add_block]; exact hn202_1) | (show (Addr.add _ _).block ≠ _; rw [add_block]; exact hn202_1) | exact hn202_1) (.slice A200_1 ((rd_T66 y195 x44_3).f1).length c200_1)).trans hx202_0
        (try have hy202_0 := fun (n_ : Nat) => (show ((((w31.drewN n_).setCell ⟨gb201, 0, none⟩ (.slice A200_0 ((rd_T66 y195 x44_3).f0).length c200_0)).setCell ⟨gb201, 1, none⟩ (.slice A200_1 ((rd_T66 y195 x44_3).f1).length c200_1))).cell? _ = some _ from hx202_0))
        clear hn202_0
        clear hn202_1
        replace p202 := eq_true p202
        replace q202 := eq_true q202
        go_wp2
        repeat (go_quiet (fail); try go_wp2)
        go_meet
        case rel => exact ⟨_, (true), (by first | rfl | (simp; done) | (simp [*]; done)), H', ⟨by have := HK1.out; have := HK2.out; have := HK3.out; first | omega | exact Nat.le_refl _⟩, ⟨by refine kq_V ?_; exact Kd.V_mono (Kd.V_far (p := ⟨gb201, 1, none⟩) (Kd.V_far (p := ⟨gb201, 0, none⟩) (Kd.V_mono HO_0.out (fun k_ hk => (⟨hk, hk.2⟩ : _ ∧ k_ ≠ gb201))) (fun _ hk => hk.2) (.slice A200_0 ((rd_T66 y195 x44_3).f0).length c200_0)) (fun _ hk => hk.2) (.slice A200_1 ((rd_T66 y195 x44_3).f1).length c200_1)) (fun _ hk => ⟨hk.1.1.1, ⟨hk.1.1.2.1, ⟨hk.1.1.2.2, hk.1.2⟩⟩⟩)⟩, ⟨by refine kq_N ?_; exact Kd.N_mono (Kd.N_far (p := ⟨gb201, 1, none⟩) (Kd.N_far (p := ⟨gb201, 0, none⟩) (Kd.N_mono HO_6.out (fun k_ hk => (⟨hk, hk.2⟩ : _ ∧ k_ ≠ gb201))) (fun _ hk => hk.2) (.slice A200_0 ((rd_T66 y195 x44_3).f0).length c200_0)) (fun _ hk => hk.2) (.slice A200_1 ((rd_T66 y195 x44_3).f1).length c200_1)) (fun _ hk => ⟨hk.1.1.1, ⟨hk.1.1.2, hk.1.2⟩⟩)⟩, ⟨by refine kq_V ?_; exact Kd.V_mono (Kd.V_far (p := ⟨gb201, 1, none⟩) (Kd.V_far (p := ⟨gb201, 0, none⟩) (Kd.V_mono HO_32.out (fun k_ hk => (⟨hk, hk.2⟩ : _ ∧ k_ ≠ gb201))) (fun _ hk => hk.2) (.slice A200_0 ((rd_T66 y195 x44_3).f0).length c200_0)) (fun _ hk => hk.2) (.slice A200_1 ((rd_T66 y195 x44_3).f1).length c200_1)) (fun _ hk => ⟨hk.1.1.1, ⟨hk.1.1.2.1, ⟨hk.1.1.2.2, hk.1.2⟩⟩⟩)⟩, ⟨by refine kq_V ?_; exact Kd.V_mono (Kd.V_far (p := ⟨gb201, 1, none⟩) (Kd.V_far (p := ⟨gb201, 0, none⟩) (Kd.V_mono HO_42.out (fun k_ hk => (⟨hk, hk.2⟩ : _ ∧ k_ ≠ gb201))) (fun _ hk => hk.2) (.slice A200_0 ((rd_T66 y195 x44_3).f0).length c200_0)) (fun _ hk => hk.2) (.slice A200_1 ((rd_T66 y195 x44_3).f1).length c200_1)) (fun _ hk => ⟨hk.1.1.1, ⟨hk.1.1.2.1, ⟨hk.1.1.2.2, hk.1.2⟩⟩⟩)⟩, ⟨by refine kq_V ?_; exact Kd.V_mono (Kd.V_far (p := ⟨gb201, 1, none⟩) (Kd.V_far (p := ⟨gb201, 0, none⟩) (Kd.V_mono HO_195000.out (fun k_ hk => (⟨hk, hk.2⟩ : _ ∧ k_ ≠ gb201))) (fun _ hk => hk.2) (.slice A200_0 ((rd_T66 y195 x44_3).f0).length c200_0)) (fun _ hk => hk.2) (.slice A200_1 ((rd_T66 y195 x44_3).f1).length c200_1)) (fun _ hk => ⟨hk.1.1.1, ⟨hk.1.1.2.1, ⟨hk.1.1.2.2, hk.1.2⟩⟩⟩)⟩, ⟨by refine kq_V ?_; exact Kd.V_mono (Kd.V_far (p := ⟨gb201, 1, none⟩) (Kd.V_far (p := ⟨gb201, 0, none⟩) (Kd.V_mono HO_195001.out (fun k_ hk => (⟨hk, hk.2⟩ : _ ∧ k_ ≠ gb201))) (fun _ hk => hk.2) (.slice A200_0 ((rd_T66 y195 x44_3).f0).length c200_0)) (fun _ hk => hk.2) (.slice A200_1 ((rd_T66 y195 x44_3).f1).length c200_1)) (fun _ hk => ⟨hk.1.1.1, ⟨hk.1.1.2.1, ⟨hk.1.1.2.2, hk.1.2⟩⟩⟩)⟩, ⟨by refine kq_V ?_; exact Kd.V_mono (Kd.V_far (p := ⟨gb201, 1, none⟩) (Kd.V_far (p := ⟨gb201, 0, none⟩) (Kd.V_mono HL200_0.out (fun k_ hk => (⟨hk, hk.2⟩ : _ ∧ k_ ≠ gb201))) (fun _ hk => hk.2) (.slice A200_0 ((rd_T66 y195 x44_3).f0).length c200_0)) (fun _ hk => hk.2) (.slice A200_1 ((rd_T66 y195 x44_3).f1).length c200_1)) (fun _ hk => ⟨hk.1.1.1, ⟨hk.1.1.2.1, ⟨hk.1.1.2.2, hk.1.2⟩⟩⟩)⟩, ⟨by refine kq_V ?_; exact Kd.V_mono (Kd.V_far (p := ⟨gb201, 1, none⟩) (Kd.V_far (p := ⟨gb201, 0, none⟩) (Kd.V_mono HL200_1.out (fun k_ hk => (⟨hk, hk.2⟩ : _ ∧ k_ ≠ gb201))) (fun _ hk => hk.2) (.slice A200_0 ((rd_T66 y195 x44_3).f0).length c200_0)) (fun _ hk => hk.2) (.slice A200_1 ((rd_T66 y195 x44_3).f1).length c200_1)) (fun _ hk => ⟨hk.1.1.1, ⟨hk.1.1.2.1, ⟨hk.1.1.2.2, hk.1.2⟩⟩⟩)⟩, ⟨by refine bkq ?_; refine blk_far ?_ NB194_201.out _; refine bkq ?_; refine blk_far ?_ NB194_201.out _; refine bkq ?_; exact BK194.out⟩, ⟨by refine bkq ?_; refine blk_put (cs := #[.slice A200_0 ((rd_T66 y195 x44_3).f0).length c200_0, .slice none 0 0]) ?_ 1 _ rfl; refine bkq ?_; refine blk_put (cs := #[.slice none 0 0, .slice none 0 0]) ?_ 0 _ rfl; refine bkq ?_; exact BK201.out⟩, ⟨hbq HB.out⟩⟩
       rw [if_neg c36] at H
       have c36b0 : ((rd ((rd_T66 l0 x34_2).f1) a1) == 0) = false := beq_eq_false_iff_ne.mpr c36
       have c36b1 : ((rd ((rd_T66 l0 x34_2).f1) a1) != 0) = true := bne_iff_ne.mpr c36
       by_cases c39 : a1 < (((rd_T66 y195 x44_3).f1).length : Int)
       case neg => rw [if_neg c39] at H; exact absurd H (by simp)
       rw [if_pos c39] at H
       have c39b0 : decide (a1 < (((rd_T66 y195 x44_3).f1).length : Int)) = true := decide_eq_true c39
       clear c39
       by_cases c40 : (rd ((rd_T66 y195 x44_3).f1) a1) = 0
       ·rw [if_pos c40] at H
        have c40b0 : ((rd ((rd_T66 y195 x44_3).f1) a1) == 0) = true := beq_iff_eq.mpr c40
        have c40b1 : ((rd ((rd_T66 y195 x44_3).f1) a1) != 0) = false := bne_eq_false_iff_eq.mpr c40
        clear c40
        have H' := Aside0.mk H
        clear H
        have hnb41 := NB194_201.out
        have hnc41 := NB201_194.out
        have hcz42_0 : w31.cell? ⟨gb194, 0, none⟩ = some (.slice A193_0 ((rd_T66 l0 x34_2).f0).length c193_0) := (blk_cell BK194.out 0).trans rfl
        have hcz42_1 : w31.cell? ⟨gb194, 1, none⟩ = some (.slice A193_1 ((rd_T66 l0 x34_2).f1).length c193_1) := (blk_cell BK194.out 1).trans rfl
        have hfz42_0 := blk_frozen BK194.out 0
        have hfz42_1 := blk_frozen BK194.out 1
        have p202 : 0 ≤ (a1 : Int) := of_decide_eq_true (by first | (with_reducible assumption) | assumption)
        have q202 : a1 < (((rd_T66 l0 x34_2).f1).length : Int) := of_decide_eq_true (by first | (with_reducible assumption) | assumption)
        obtain ⟨ad202, e202, hx202_0⟩ := Kd.at_int (Kd.V_reads' HO_195001.out).2.2 a1 p202 q202
        cases e202
        have hn202_0 := int_ne hx202_0 BK201.out (by rfl)
        have hn202_1 := int_ne hx202_0 BK201.out (by rfl)
        replace hx202_0 := (cell_far (p := ⟨gb201, 0, none⟩) (by first | (rw [add_block]; exact hn202_0) | (show (Addr.add _ _).block ≠ _; rw [add_block]; exact hn202_0) | exact hn202_0) (.slice A200_0 ((rd_T66 y195 x44_3).f0).length c200_0)).trans hx202_0
        replace hx202_0 := (cell_far (p := ⟨gb201, 1, none⟩) (by first | (rw [add_block]; exact hn202_1) | (show (Addr.add _ _).block ≠ _; rw [add_block]; exact hn202_1) | exact hn202_1) (.slice A200_1 ((rd_T66 y195 x44_3).f1).length c200_1)).trans hx202_0
        (try have hy202_0 := fun (n_ : Nat) => (show ((((w31.drewN n_).setCell ⟨gb201, 0, none⟩ (.slice A200_0 ((rd_T66 y195 x44_3).f0).length c200_0)).setCell ⟨gb201, 1, none⟩ (.slice A200_1 ((rd_T66 y195 x44_3).f1).length c200_1))).cell? _ = some _ from hx202_0))
        clear hn202_0
        clear hn202_1
        replace p202 := eq_true p202
        replace q202 := eq_true q202
        have hcz43_0 : w31.cell? ⟨gb201, 0, none⟩ = some (.slice none 0 0) := (blk_cell BK201.out 0).trans rfl
        have hcz43_1 : w31.cell? ⟨gb201, 1, none⟩ = some (.slice none 0 0) := (blk_cell BK201.out 1).trans rfl
        have hfz43_0 := blk_frozen BK201.out 0
        have hfz43_1 := blk_frozen BK201.out 1
        have p203 : 0 ≤ (a1 : Int) := of_decide_eq_true (by first | (with_reducible assumption) | assumption)
        have q203 : a1 < (((rd_T66 y195 x44_3).f1).length : Int) := of_decide_eq_true (by first | (with_reducible assumption) | assumption)
        obtain ⟨ad203, e203, hx203_0⟩ := Kd.at_int (Kd.V_reads' HL200_1.out).2.2 a1 p203 q203
        cases e203
        have hn203_0 := int_ne hx203_0 BK201.out (by rfl)
        have hn203_1 := int_ne hx203_0 BK201.out (by rfl)
        replace hx203_0 := (cell_far (p := ⟨gb201, 0, none⟩) (by first | (rw [add_block]; exact hn203_0) | (show (Addr.add _ _).block ≠ _; rw [add_block]; exact hn203_0) | exact hn203_0) (.slice A200_0 ((rd_T66 y195 x44_3).f0).length c200_0)).trans hx203_0
        replace hx203_0 := (cell_far (p := ⟨gb201, 1, none⟩) (by first | (rw [add_block]; exact hn203_1) | (show (Addr.add _ _).block ≠ _; rw [add_block]; exact hn203_1) | exact hn203_1) (.slice (some ad203) ((rd_T66 y195 x44_3).f1).length c200_1)).trans hx203_0
        (try have hy203_0 := fun (n_ : Nat) => (show ((((w31.drewN n_).setCell ⟨gb201, 0, none⟩ (.slice A200_0 ((rd_T66 y195 x44_3).f0).length c200_0)).setCell ⟨gb201, 1, none⟩ (.slice (some ad203) ((rd_T66 y195 x44_3).f1).length c200_1))).cell? _ = some _ from hx203_0))
        clear hn203_0
        clear hn203_1
        replace p203 := eq_true p203
        replace q203 := eq_true q203
        go_wp2
        repeat (go_quiet (fail); try go_wp2)
        go_meet
        case rel => exact ⟨_, (true), (by first | rfl | (simp; done) | (simp [*]; done)), H', ⟨by have := HK1.out; have := HK2.out; have := HK3.out; first | omega | exact Nat.le_refl _⟩, ⟨by refine kq_V ?_; exact Kd.V_mono (Kd.V_far (p := ⟨gb201, 1, none⟩) (Kd.V_far (p := ⟨gb201, 0, none⟩) (Kd.V_mono HO_0.out (fun k_ hk => (⟨hk, hk.2⟩ : _ ∧ k_ ≠ gb201))) (fun _ hk => hk.2) (.slice A200_0 ((rd_T66 y195 x44_3).f0).length c200_0)) (fun _ hk => hk.2) (.slice (some ad203) ((rd_T66 y195 x44_3).f1).length c200_1)) (fun _ hk => ⟨hk.1.1.1, ⟨hk.1.1.2.1, ⟨hk.1.1.2.2, hk.1.2⟩⟩⟩)⟩, ⟨by refine kq_N ?_; exact Kd.N_mono (Kd.N_far (p := ⟨gb201, 1, none⟩) (Kd.N_far (p := ⟨gb201, 0, none⟩) (Kd.N_mono HO_6.out (fun k_ hk => (⟨hk, hk.2⟩ : _ ∧ k_ ≠ gb201))) (fun _ hk => hk.2) (.slice A200_0 ((rd_T66 y195 x44_3).f0).length c200_0)) (fun _ hk => hk.2) (.slice (some ad203) ((rd_T66 y195 x44_3).f1).length c200_1)) (fun _ hk => ⟨hk.1.1.1, ⟨hk.1.1.2, hk.1.2⟩⟩)⟩, ⟨by refine kq_V ?_; exact Kd.V_mono (Kd.V_far (p := ⟨gb201, 1, none⟩) (Kd.V_far (p := ⟨gb201, 0, none⟩) (Kd.V_mono HO_32.out (fun k_ hk => (⟨hk, hk.2⟩ : _ ∧ k_ ≠ gb201))) (fun _ hk => hk.2) (.slice A200_0 ((rd_T66 y195 x44_3).f0).length c200_0)) (fun _ hk => hk.2) (.slice (some ad203) ((rd_T66 y195 x44_3).f1).length c200_1)) (fun _ hk => ⟨hk.1.1.1, ⟨hk.1.1.2.1, ⟨hk.1.1.2.2, hk.1.2⟩⟩⟩)⟩, ⟨by refine kq_V ?_; exact Kd.V_mono (Kd.V_far (p := ⟨gb201, 1, none⟩) (Kd.V_far (p := ⟨gb201, 0, none⟩) (Kd.V_mono HO_42.out (fun k_ hk => (⟨hk, hk.2⟩ : _ ∧ k_ ≠ gb201))) (fun _ hk => hk.2) (.slice A200_0 ((rd_T66 y195 x44_3).f0).length c200_0)) (fun _ hk => hk.2) (.slice (some ad203) ((rd_T66 y195 x44_3).f1).length c200_1)) (fun _ hk => ⟨hk.1.1.1, ⟨hk.1.1.2.1, ⟨hk.1.1.2.2, hk.1.2⟩⟩⟩)⟩, ⟨by refine kq_V ?_; exact Kd.V_mono (Kd.V_far (p := ⟨gb201, 1, none⟩) (Kd.V_far (p := ⟨gb201, 0, none⟩) (Kd.V_mono HO_195000.out (fun k_ hk => (⟨hk, hk.2⟩ : _ ∧ k_ ≠ gb201))) (fun _ hk => hk.2) (.slice A200_0 ((rd_T66 y195 x44_3).f0).length c200_0)) (fun _ hk => hk.2) (.slice (some ad203) ((rd_T66 y195 x44_3).f1).length c200_1)) (fun _ hk => ⟨hk.1.1.1, ⟨hk.1.1.2.1, ⟨hk.1.1.2.2, hk.1.2⟩⟩⟩)⟩, ⟨by refine kq_V ?_; exact Kd.V_mono (Kd.V_far (p := ⟨gb201, 1, none⟩) (Kd.V_far (p := ⟨gb201, 0, none⟩) (Kd.V_mono HO_195001.out (fun k_ hk => (⟨hk, hk.2⟩ : _ ∧ k_ ≠ gb201))) (fun _ hk => hk.2) (.slice A200_0 ((rd_T66 y195 x44_3).f0).length c200_0)) (fun _ hk => hk.2) (.slice (some ad203) ((rd_T66 y195 x44_3).f1).length c200_1)) (fun _ hk => ⟨hk.1.1.1, ⟨hk.1.1.2.1, ⟨hk.1.1.2.2, hk.1.2⟩⟩⟩)⟩, ⟨by refine kq_V ?_; exact Kd.V_mono (Kd.V_far (p := ⟨gb201, 1, none⟩) (Kd.V_far (p := ⟨gb201, 0, none⟩) (Kd.V_mono HL200_0.out (fun k_ hk => (⟨hk, hk.2⟩ : _ ∧ k_ ≠ gb201))) (fun _ hk => hk.2) (.slice A200_0 ((rd_T66 y195 x44_3).f0).length c200_0)) (fun _ hk => hk.2) (.slice (some ad203) ((rd_T66 y195 x44_3).f1).length c200_1)) (fun _ hk => ⟨hk.1.1.1, ⟨hk.1.1.2.1, ⟨hk.1.1.2.2, hk.1.2⟩⟩⟩)⟩, ⟨by refine kq_V ?_; exact Kd.V_mono (Kd.V_far (p := ⟨gb201, 1, none⟩) (Kd.V_far (p := ⟨gb201, 0, none⟩) (Kd.V_mono HL200_1.out (fun k_ hk => (⟨hk, hk.2⟩ : _ ∧ k_ ≠ gb201))) (fun _ hk => hk.2) (.slice A200_0 ((rd_T66 y195 x44_3).f0).length c200_0)) (fun _ hk => hk.2) (.slice (some ad203) ((rd_T66 y195 x44_3).f1).length c200_1)) (fun _ hk => ⟨hk.1.1.1, ⟨hk.1.1.2.1, ⟨hk.1.1.2.2, hk.1.2⟩⟩⟩)⟩, ⟨by refine bkq ?_; refine blk_far ?_ NB194_201.out _; refine bkq ?_; refine blk_far ?_ NB194_201.out _; refine bkq ?_; exact BK194.out⟩, ⟨by refine bkq ?_; refine blk_put (cs := #[.slice A200_0 ((rd_T66 y195 x44_3).f0).length c200_0, .slice none 0 0]) ?_ 1 _ rfl; refine bkq ?_; refine blk_put (cs := #[.slice none 0 0, .slice none 0 0]) ?_ 0 _ rfl; refine bkq ?_; exact BK201.out⟩, ⟨hbq HB.out⟩⟩
       rw [if_neg c40] at H
       have c40b0 : ((rd ((rd_T66 y195 x44_3).f1) a1) == 0) = false := beq_eq_false_iff_ne.mpr c40
       have c40b1 : ((rd ((rd_T66 y195 x44_3).f1) a1) != 0) = true := bne_iff_ne.mpr c40
       have H' := Aside0.mk H
       clear H
       have hnb44 := NB194_201.out
       have hnc44 := NB201_194.out
       have hcz45_0 : w31.cell? ⟨gb194, 0, none⟩ = some (.slice A193_0 ((rd_T66 l0 x34_2).f0).length c193_0) := (blk_cell BK194.out 0).trans rfl
       have hcz45_1 : w31.cell? ⟨gb194, 1, none⟩ = some (.slice A193_1 ((rd_T66 l0 x34_2).f1).length c193_1) := (blk_cell BK194.out 1).trans rfl
       have hfz45_0 := blk_frozen BK194.out 0
       have hfz45_1 := blk_frozen BK194.out 1
       have p202 : 0 ≤ (a1 : Int) := of_decide_eq_true (by first | (with_reducible assumption) | assumption)
       have q202 : a1 < (((rd_T66 l0 x34_2).f1).length : Int) := of_decide_eq_true (by first | (with_reducible assumption) | assumption)
       obtain ⟨ad202, e202, hx202_0⟩ := Kd.at_int (Kd.V_reads' HO_195001.out).2.2 a1 p202 q202
       cases e202
       have hn202_0 := int_ne hx202_0 BK201.out (by rfl)
       have hn202_1 := int_ne hx202_0 BK201.out (by rfl)
       replace hx202_0 := (cell_far (p := ⟨gb201, 0, none⟩) (by first | (rw [add_block]; exact hn202_0) | (show (Addr.add _ _).block ≠ _; rw [add_block]; exact hn202_0) | exact hn202_0) (.slice A200_0 ((rd_T66 y195 x44_3).f0).length c200_0)).trans hx202_0
       replace hx202_0 := (cell_far (p := ⟨gb201, 1, none⟩) (by first | (rw [add_block]; exact hn202_1) | (show (Addr.add _ _).block ≠ _; rw [add_block]; exact hn202_1) | exact hn202_1) (.slice A200_1 ((rd_T66 y195 x44_3).f1).length c200_1)).trans hx202_0
       (try have hy202_0 := fun (n_ : Nat) => (show ((((w31.drewN n_).setCell ⟨gb201, 0, none⟩ (.slice A200_0 ((rd_T66 y195 x44_3).f0).length c200_0)).setCell ⟨gb201, 1, none⟩ (.slice A200_1 ((rd_T66 y195 x44_3).f1).length c200_1))).cell? _ = some _ from hx202_0))
       clear hn202_0
       clear hn202_1
       replace p202 := eq_true p202
       replace q202 := eq_true q202
       have hcz46_0 : w31.cell? ⟨gb201, 0, none⟩ = some (.slice none 0 0) := (blk_cell BK201.out 0).trans rfl
       have hcz46_1 : w31.cell? ⟨gb201, 1, none⟩ = some (.slice none 0 0) := (blk_cell BK201.out 1).trans rfl
       have hfz46_0 := blk_frozen BK201.out 0
       have hfz46_1 := blk_frozen BK201.out 1
       have p203 : 0 ≤ (a1 : Int) := of_decide_eq_true (by first | (with_reducible assumption) | assumption)
       have q203 : a1 < (((rd_T66 y195 x44_3).f1).length : Int) := of_decide_eq_true (by first | (with_reducible assumption) | assumption)
       obtain ⟨ad203, e203, hx203_0⟩ := Kd.at_int (Kd.V_reads' HL200_1.out).2.2 a1 p203 q203
       cases e203
       have hn203_0 := int_ne hx203_0 BK201.out (by rfl)
       have hn203_1 := int_ne hx203_0 BK201.out (by rfl)
       replace hx203_0 := (cell_far (p := ⟨gb201, 0, none⟩) (by first | (rw [add_block]; exact hn203_0) | (show (Addr.add _ _).block ≠ _; rw [add_block]; exact hn203_0) | exact hn203_0) (.slice A200_0 ((rd_T66 y195 x44_3).f0).length c200_0)).trans hx203_0
       replace hx203_0 := (cell_far (p := ⟨gb201, 1, none⟩) (by first | (rw [add_block]; exact hn203_1) | (show (Addr.add _ _).block ≠ _; rw [add_block]; exact hn203_1) | exact hn203_1) (.slice (some ad203) ((rd_T66 y195 x44_3).f1).length c200_1)).trans hx203_0
       (try have hy203_0 := fun (n_ : Nat) => (show ((((w31.drewN n_).setCell ⟨gb201, 0, none⟩ (.slice A200_0 ((rd_T66 y195 x44_3).f0).length c200_0)).setCell ⟨gb201, 1, none⟩ (.slice (some ad203) ((rd_T66 y195 x44_3).f1).length c200_1))).cell? _ = some _ from hx203_0))
       clear hn203_0
       clear hn203_1
       replace p203 := eq_true p203
       replace q203 := eq_true q203
       have p204 : 0 ≤ (a1 : Int) := of_decide_eq_true (by first | (with_reducible assumption) | assumption)
       have q204 : a1 < (((rd_T66 l0 x34_2).f1).length : Int) := of_decide_eq_true (by first | (with_reducible assumption) | assumption)
       obtain ⟨ad204, e204, hx204_0⟩ := Kd.at_int (Kd.V_reads' HO_195001.out).2.2 a1 p204 q204
       obtain rfl : ad202 = ad204 := (by injection e204)
       have hn204_0 := int_ne hx204_0 BK201.out (by rfl)
       have hn204_1 := int_ne hx204_0 BK201.out (by rfl)
       replace hx204_0 := (cell_far (p := ⟨gb201, 0, none⟩) (by first | (rw [add_block]; exact hn204_0) | (show (Addr.add _ _).block ≠ _; rw [add_block]; exact hn204_0) | exact hn204_0) (.slice A200_0 ((rd_T66 y195 x44_3).f0).length c200_0)).trans hx204_0
       replace hx204_0 := (cell_far (p := ⟨gb201, 1, none⟩) (by first | (rw [add_block]; exact hn204_1) | (show (Addr.add _ _).block ≠ _; rw [add_block]; exact hn204_1) | exact hn204_1) (.slice (some ad203) ((rd_T66 y195 x44_3).f1).length c200_1)).trans hx204_0
       (try have hy204_0 := fun (n_ : Nat) => (show ((((w31.drewN n_).setCell ⟨gb201, 0, none⟩ (.slice A200_0 ((rd_T66 y195 x44_3).f0).length c200_0)).setCell ⟨gb201, 1, none⟩ (.slice (some ad203) ((rd_T66 y195 x44_3).f1).length c200_1))).cell? _ = some _ from hx204_0))
       clear hn204_0
       clear hn204_1
       replace p204 := eq_true p204
       replace q204 := eq_true q204
       have p205 : 0 ≤ (a1 : Int) := of_decide_eq_true (by first | (with_reducible assumption) | assumption)
       have q205 : a1 < (((rd_T66 y195 x44_3).f1).length : Int) := of_decide_eq_true (by first | (with_reducible assumption) | assumption)
       obtain ⟨ad205, e205, hx205_0⟩ := Kd.at_int (Kd.V_reads' HL200_1.out).2.2 a1 p205 q205
       obtain rfl : ad203 = ad205 := (by injection e205)
       have hn205_0 := int_ne hx205_0 BK201.out (by rfl)
       have hn205_1 := int_ne hx205_0 BK201.out (by rfl)
       replace hx205_0 := (cell_far (p := ⟨gb201, 0, none⟩) (by first | (rw [add_block]; exact hn205_0) | (show (Addr.add _ _).block ≠ _; rw [add_block]; exact hn205_0) | exact hn205_0) (.slice A200_0 ((rd_T66 y195 x44_3).f0).length c200_0)).trans hx205_0
       replace hx205_0 := (cell_far (p := ⟨gb201, 1, none⟩) (by first | (rw [add_block]; exact hn205_1) | (show (Addr.add _ _).block ≠ _; rw [add_block]; exact hn205_1) | exact hn205_1) (.slice (some ad203) ((rd_T66 y195 x44_3).f1).length c200_1)).trans hx205_0
       (try have hy205_0 := fun (n_ : Nat) => (show ((((w31.drewN n_).setCell ⟨gb201, 0, none⟩ (.slice A200_0 ((rd_T66 y195 x44_3).f0).length c200_0)).setCell ⟨gb201, 1, none⟩ (.slice (some ad203) ((rd_T66 y195 x44_3).f1).length c200_1))).cell? _ = some _ from hx205_0))
       clear hn205_0
       clear hn205_1
       replace p205 := eq_true p205
       replace q205 := eq_true q205
       go_wp2
       repeat (go_quiet (fail); try go_wp2)
       go_meet
       case rel => exact ⟨_, (((decide ((rd ((rd_T66 l0 x34_2).f1) a1) < 0)) == (decide ((rd ((rd_T66 y195 x44_3).f1) a1) < 0)))), (by first | rfl | (simp; done) | (simp [*]; done)), H', ⟨by have := HK1.out; have := HK2.out; have := HK3.out; first | omega | exact Nat.le_refl _⟩, ⟨by refine kq_V ?_; exact Kd.V_mono (Kd.V_far (p := ⟨gb201, 1, none⟩) (Kd.V_far (p := ⟨gb201, 0, none⟩) (Kd.V_mono HO_0.out (fun k_ hk => (⟨hk, hk.2⟩ : _ ∧ k_ ≠ gb201))) (fun _ hk => hk.2) (.slice A200_0 ((rd_T66 y195 x44_3).f0).length c200_0)) (fun _ hk => hk.2) (.slice (some ad203) ((rd_T66 y195 x44_3).f1).length c200_1)) (fun _ hk => ⟨hk.1.1.1, ⟨hk.1.1.2.1, ⟨hk.1.1.2.2, hk.1.2⟩⟩⟩)⟩, ⟨by refine kq_N ?_; exact Kd.N_mono (Kd.N_far (p := ⟨gb201, 1, none⟩) (Kd.N_far (p := ⟨gb201, 0, none⟩) (Kd.N_mono HO_6.out (fun k_ hk => (⟨hk, hk.2⟩ : _ ∧ k_ ≠ gb201))) (fun _ hk => hk.2) (.slice A200_0 ((rd_T66 y195 x44_3).f0).length c200_0)) (fun _ hk => hk.2) (.slice (some ad203) ((rd_T66 y195 x44_3).f1).length c200_1)) (fun _ hk => ⟨hk.1.1.1, ⟨hk.1.1.2, hk.1.2⟩⟩)⟩, ⟨by refine kq_V ?_; exact Kd.V_mono (Kd.V_far (p := ⟨gb201, 1, none⟩) (Kd.V_far (p := ⟨gb201, 0, none⟩) (Kd.V_mono HO_32.out (fun k_ hk => (⟨hk, hk.2⟩ : _ ∧ k_ ≠ gb201))) (fun _ hk => hk.2) (.slice A200_0 ((rd_T66 y195 x44_3).f0).length c200_0)) (fun _ hk => hk.2) (.slice (some ad203) ((rd_T66 y195 x44_3).f1).length c200_1)) (fun _ hk => ⟨hk.1.1.1, ⟨hk.1.1.2.1, ⟨hk.1.1.2.2, hk.1.2⟩⟩⟩)⟩, ⟨by refine kq_V ?_; exact Kd.V_mono (Kd.V_far (p := ⟨gb201, 1, none⟩) (Kd.V_far (p := ⟨gb201, 0, none⟩) (Kd.V_mono HO_42.out (fun k_ hk => (⟨hk, hk.2⟩ : _ ∧ k_ ≠ gb201))) (fun _ hk => hk.2) (.slice A200_0 ((rd_T66 y195 x44_3).f0).length c200_0)) (fun _ hk => hk.2) (.slice (some ad203) ((rd_T66 y195 x44_3).f1).length c200_1)) (fun _ hk => ⟨hk.1.1.1, ⟨hk.1.1.2.1, ⟨hk.1.1.2.2, hk.1.2⟩⟩⟩)⟩, ⟨by refine kq_V ?_; exact Kd.V_mono (Kd.V_far (p := ⟨gb201, 1, none⟩) (Kd.V_far (p := ⟨gb201, 0, none⟩) (Kd.V_mono HO_195000.out (fun k_ hk => (⟨hk, hk.2⟩ : _ ∧ k_ ≠ gb201))) (fun _ hk => hk.2) (.slice A200_0 ((rd_T66 y195 x44_3).f0).length c200_0)) (fun _ hk => hk.2) (.slice (some ad203) ((rd_T66 y195 x44_3).f1).length c200_1)) (fun _ hk => ⟨hk.1.1.1, ⟨hk.1.1.2.1, ⟨hk.1.1.2.2, hk.1.2⟩⟩⟩)⟩, ⟨by refine kq_V ?_; exact Kd.V_mono (Kd.V_far (p := ⟨gb201, 1, none⟩) (Kd.V_far (p := ⟨gb201, 0, none⟩) (Kd.V_mono HO_195001.out (fun k_ hk => (⟨hk, hk.2⟩ : _ ∧ k_ ≠ gb201))) (fun _ hk => hk.2) (.slice A200_0 ((rd_T66 y195 x44_3).f0).length c200_0)) (fun _ hk => hk.2) (.slice (some ad203) ((rd_T66 y195 x44_3).f1).length c200_1)) (fun _ hk => ⟨hk.1.1.1, ⟨hk.1.1.2.1, ⟨hk.1.1.2.2, hk.1.2⟩⟩⟩)⟩, ⟨by refine kq_V ?_; exact Kd.V_mono (Kd.V_far (p := ⟨gb201, 1, none⟩) (Kd.V_far (p := ⟨gb201, 0, none⟩) (Kd.V_mono HL200_0.out (fun k_ hk => (⟨hk, hk.2⟩ : _ ∧ k_ ≠ gb201))) (fun _ hk => hk.2) (.slice A200_0 ((rd_T66 y195 x44_3).f0).length c200_0)) (fun _ hk => hk.2) (.slice (some ad203) ((rd_T66 y195 x44_3).f1).length c200_1)) (fun _ hk => ⟨hk.1.1.1, ⟨hk.1.1.2.1, ⟨hk.1.1.2.2, hk.1.2⟩⟩⟩)⟩, ⟨by refine kq_V ?_; exact Kd.V_mono (Kd.V_far (p := ⟨gb201, 1, none⟩) (Kd.V_far (p := ⟨gb201, 0, none⟩) (Kd.V_mono HL200_1.out (fun k_ hk => (⟨hk, hk.2⟩ : _ ∧ k_ ≠ gb201))) (fun _ hk => hk.2) (.slice A200_0 ((rd_T66 y195 x44_3).f0).length c200_0)) (fun _ hk => hk.2) (.slice (some ad203) ((rd_T66 y195 x44_3).f1).length c200_1)) (fun _ hk => ⟨hk.1.1.1, ⟨hk.1.1.2.1, ⟨hk.1.1.2.2, hk.1.2⟩⟩⟩)⟩, ⟨by refine bkq ?_; refine blk_far ?_ NB194_201.out _; refine bkq ?_; refine blk_far ?_ NB194_201.out _; refine bkq ?_; exact BK194.out⟩, ⟨by refine bkq ?_; refine blk_put (cs := #[.slice A200_0 ((rd_T66 y195 x44_3).f0).length c200_0, .slice none 0 0]) ?_ 1 _ rfl; refine bkq ?_; refine blk_put (cs := #[.slice none 0 0, .slice none 0 0]) ?_ 0 _ rfl; refine bkq ?_; exact BK201.out⟩, ⟨hbq HB.out⟩⟩
      clear HC30
      try clear c1
      try clear p1
      try clear q1
      try clear hx1
      try clear c2
      try clear p2
      try clear q2
      try clear hx2
      try clear c3
      try clear c3b0
      try clear c4
      try clear c4b0
      try clear c5
      try clear c5b0
      try clear c6
      try clear c6b0
      try clear p6
      try clear c7
      try clear c7b0
      try clear c8
      try clear c8b0
      try clear c8b1
      try clear c9
      try clear c17
      try clear c17b0
      try clear c18
      try clear c18b0
      try clear p18
      try clear q18
      try clear hx18
      try clear c19
      try clear c19b0
      try clear p19
      try clear q19
      try clear hx19
      try clear c20
      try clear p20
      try clear q20
      try clear hx20
      try clear c21
      try clear c21b0
      try clear c21b1
      try clear c22
      try clear c22b0
      try clear c22b1
      try clear c26
      try clear q26
      try clear c27
      try clear c27b0
      try clear c28
      try clear c28b0
      try clear c29
      try clear c29b0
      try clear c32
      try clear c34
      try clear c34b0
      try clear c35
      try clear c35b0
      try clear c36
      try clear c36b0
      try clear c36b1
      try clear c37
      try clear c39
      try clear c39b0
      try clear c40
      try clear c40b0
      try clear c40b1
      try clear c41
      try clear c44
      try clear hcz11_0
      try clear hcz11_1
      try clear hcz13_0
      try clear hcz13_1
      try clear hcz16_0
      try clear hcz16_1
      try clear hcz24_0
      try clear hcz24_1
      try clear hcz33_0
      try clear hcz33_1
      try clear hcz38_0
      try clear hcz38_1
      try clear hcz42_0
      try clear hcz42_1
      try clear hcz43_0
      try clear hcz43_1
      try clear hcz45_0
      try clear hcz45_1
      try clear hcz46_0
      try clear hcz46_1
      try clear hfz11_0
      try clear hfz11_1
      try clear hfz13_0
      try clear hfz13_1
      try clear hfz16_0
      try clear hfz16_1
      try clear hfz24_0
      try clear hfz24_1
      try clear hfz33_0
      try clear hfz33_1
      try clear hfz38_0
      try clear hfz38_1
      try clear hfz42_0
      try clear hfz42_1
      try clear hfz43_0
      try clear hfz43_1
      try clear hfz45_0
      try clear hfz45_1
      try clear hfz46_0
      try clear hfz46_1
      try clear hx184_0
      try clear hx184_1
      try clear hx186_0
      try clear hx193_0
      try clear hx193_1
      try clear hx200_0
      try clear hx200_1
      try clear hx202_0
      try clear hx203_0
      try clear hx204_0
      try clear hx205_0
      try clear p1
      try clear p18
      try clear p184
      try clear p186
      try clear p19
      try clear p193
      try clear p2
      try clear p200
      try clear p202
      try clear p203
      try clear p204
      try clear p205
      try clear p6
      try clear q026
      try clear q1
      try clear q18
      try clear q184
      try clear q186
      try clear q19
      try clear q193
      try clear q2
      try clear q200
      try clear q202
      try clear q203
      try clear q204
      try clear q205
      try clear q26
      obtain ⟨kq, x76_29, rfl, HA, HJ29, HO_0, HO_6, HO_32, HO_42, HO_195000, HO_195001, HO_202000, HO_202001, BK194, BK201, HB⟩ := hcut
      cases kq with
      | zero => exact absurd HA.out (by simp [basis_column.j3])
      | succ kj29 =>
       have H := HA.out
       clear HA
       simp only [basis_column.j3] at H
       by_cases c47 : x76_29 = true
       ·subst c47
        have H1 : (basis_column.l2 kj29 l0 a1 x6_3 l0 (l0.length : Int) x34_2 y195 (y195.length : Int) (wrap64 (x44_3 + 1)) ((rd_T66 l0 x34_2).f0) ((rd_T66 l0 x34_2).f1)) = some (r1, r2) := by rw [if_pos rfl] at H; exact H
        clear H
        have H := H1
        clear H1
        have H' := Aside0.mk H
        clear H
        go_wp2
        repeat (go_quiet (fail); try go_wp2)
        go_roundg kj29
        case measure => have := HK1.out; have := HK2.out; have := HK3.out; have := HJ29.out; omega
        case rel => exact ⟨(x6_3), (wrap64 (x44_3 + 1)), (by first | rfl | (simp; done) | (simp [*]; done)), H', ⟨by have := HK1.out; have := HK2.out; have := HK3.out; have := HJ29.out; omega⟩, ⟨by refine kq_V ?_; exact Kd.V_mono HO_0.out (fun _ hk => ⟨hk.1, ⟨hk.2.1, hk.2.2.1⟩⟩)⟩, ⟨by refine kq_N ?_; exact Kd.N_mono HO_6.out (fun _ hk => ⟨hk.1, hk.2.1⟩)⟩, ⟨by refine kq_V ?_; exact Kd.V_mono HO_32.out (fun _ hk => ⟨hk.1, ⟨hk.2.1, hk.2.2.1⟩⟩)⟩, ⟨by refine kq_V ?_; exact Kd.V_mono HO_42.out (fun _ hk => ⟨hk.1, ⟨hk.2.1, hk.2.2.1⟩⟩)⟩, ⟨by refine kq_V ?_; exact Kd.V_mono HO_195000.out (fun _ hk => ⟨hk.1, ⟨hk.2.1, hk.2.2.1⟩⟩)⟩, ⟨by refine kq_V ?_; exact Kd.V_mono HO_195001.out (fun _ hk => ⟨hk.1, ⟨hk.2.1, hk.2.2.1⟩⟩)⟩, ⟨by refine bkq ?_; exact BK194.out⟩, ⟨hbq HB.out⟩⟩
       replace c47 := Bool.eq_false_iff.mpr c47
       subst c47
       have H1 : ((basis_join.f kj29 ((rd_T66 l0 x34_2).f0) ((rd_T66 l0 x34_2).f1) ((rd_T66 y195 x44_3).f0) ((rd_T66 y195 x44_3).f1) a1).bind fun bt206 => (if bt206.2.2 = true then (if x6_3.length < 2932031007402 then ((some (x6_3 ++ [(⟨bt206.1, bt206.2.1⟩ : S66)] : List (S66))).bind fun y214 => (if (y214.length : Int) > 400 then (some (([] : List (S66)), 5)) else (basis_column.l2 kj29 l0 a1 y214 l0 (l0.length : Int) x34_2 y195 (y195.length : Int) (wrap64 (x44_3 + 1)) ((rd_T66 l0 x34_2).f0) ((rd_T66 l0 x34_2).f1)))) else (none)) else (some (([] : List (S66)), 3)))) = some (r1, r2) := by rw [if_neg (show ¬ (false = true) by decide)] at H; exact H
       clear H
       have H := H1
       clear H1
       replace H := Option.bind_eq_some_iff.mp H
       obtain ⟨⟨t206, t209, t212⟩, A480, H⟩ := H
       replace H : (if t212 = true then (if x6_3.length < 2932031007402 then ((some (x6_3 ++ [(⟨t206, t209⟩ : S66)] : List (S66))).bind fun y214 => (if (y214.length : Int) > 400 then (some (([] : List (S66)), 5)) else (basis_column.l2 kj29 l0 a1 y214 l0 (l0.length : Int) x34_2 y195 (y195.length : Int) (wrap64 (x44_3 + 1)) ((rd_T66 l0 x34_2).f0) ((rd_T66 l0 x34_2).f1)))) else (none)) else (some (([] : List (S66)), 3))) = some (r1, r2) := H
       have A48 := Aside0.mk A480
       clear A480
       by_cases c49 : t212 = true
       ·subst c49
        have H1 : (if x6_3.length < 2932031007402 then ((some (x6_3 ++ [(⟨t206, t209⟩ : S66)] : List (S66))).bind fun y214 => (if (y214.length : Int) > 400 then (some (([] : List (S66)), 5)) else (basis_column.l2 kj29 l0 a1 y214 l0 (l0.length : Int) x34_2 y195 (y195.length : Int) (wrap64 (x44_3 + 1)) ((rd_T66 l0 x34_2).f0) ((rd_T66 l0 x34_2).f1)))) else (none)) = some (r1, r2) := by rw [if_pos rfl] at H; exact H
        clear H
        have H := H1
        clear H1
        by_cases c50 : x6_3.length < 2932031007402
        case neg => rw [if_neg c50] at H; exact absurd H (by simp)
        rw [if_pos c50] at H
        have LMc50 := Aside0.mk c50
        clear c50
        obtain ⟨y214, hy214⟩ : ∃ y_ : List (S66), y_ = (x6_3 ++ [(⟨t206, t209⟩ : S66)]) := ⟨_, rfl⟩
        replace H : (if (y214.length : Int) > 400 then (some (([] : List (S66)), 5)) else (basis_column.l2 kj29 l0 a1 y214 l0 (l0.length : Int) x34_2 y195 (y195.length : Int) (wrap64 (x44_3 + 1)) ((rd_T66 l0 x34_2).f0) ((rd_T66 l0 x34_2).f1))) = some (r1, r2) := by first | (rw [hy214]; with_reducible exact H) | (have H2_ := (Option.bind_some _ _).symm.trans H; rw [hy214]; with_reducible exact H2_) | (have H2_ := (Option.bind_some _ _).symm.trans H; with_reducible exact H2_) | with_reducible exact H | (rw [hy214]; exact H) | exact H
        have Ny214 := Aside0.mk hy214
        clear hy214
        by_cases c51 : (y214.length : Int) > 400
        ·rw [if_pos c51] at H
         have c51b0 : decide (400 < (y214.length : Int)) = true := decide_eq_true c51
         have c51b1 : decide (400 < y214.length) = true := decide_eq_true (by omega)
         clear c51
         simp only [Option.some.injEq, Prod.mk.injEq] at H
         obtain ⟨rfl, rfl⟩ := H
         have hnb52 := NB194_201.out
         have hnc52 := NB201_194.out
         have hcz53_0 : wc.cell? ⟨gb194, 0, none⟩ = some (.slice A193_0 ((rd_T66 l0 x34_2).f0).length c193_0) := (blk_cell BK194.out 0).trans rfl
         have hcz53_1 : wc.cell? ⟨gb194, 1, none⟩ = some (.slice A193_1 ((rd_T66 l0 x34_2).f1).length c193_1) := (blk_cell BK194.out 1).trans rfl
         have hfz53_0 := blk_frozen BK194.out 0
         have hfz53_1 := blk_frozen BK194.out 1
         have hcz54_0 : wc.cell? ⟨gb201, 0, none⟩ = some (.slice A200_0 ((rd_T66 y195 x44_3).f0).length c200_0) := (blk_cell BK201.out 0).trans rfl
         have hcz54_1 : wc.cell? ⟨gb201, 1, none⟩ = some (.slice A200_1 ((rd_T66 y195 x44_3).f1).length c200_1) := (blk_cell BK201.out 1).trans rfl
         have hfz54_0 := blk_frozen BK201.out 0
         have hfz54_1 := blk_frozen BK201.out 1
         iterate 3 ((try go_quiet (first | (go_at_call 34; (with_reducible refine (basis_join.calls kj29 _ _ ((rd_T66 l0 x34_2).f0) _ _ ((rd_T66 l0 x34_2).f1) _ _ ((rd_T66 y195 x44_3).f0) _ _ ((rd_T66 y195 x44_3).f1) a1 t206 t209 true _ ?side1 ?side2 ?side3 ?side4 ?side5 ?side6 ?side7 ?side8 A48.out).mono ?_); (case side1 => repeat (first | exact (Kd.V_reads' HO_195000.out).2.2 | (with_reducible refine Kd.C_alloc ?_ _) | (with_reducible refine Kd.C_drewN ?_ _) | (with_reducible refine Kd.C_drew ?_))); (case side2 => exact (Kd.V_reads' HO_195000.out).2.1); (case side3 => repeat (first | exact (Kd.V_reads' HO_195001.out).2.2 | (with_reducible refine Kd.C_alloc ?_ _) | (with_reducible refine Kd.C_drewN ?_ _) | (with_reducible refine Kd.C_drew ?_))); (case side4 => exact (Kd.V_reads' HO_195001.out).2.1); (case side5 => repeat (first | exact (Kd.V_reads' HO_202000.out).2.2 | (with_reducible refine Kd.C_alloc ?_ _) | (with_reducible refine Kd.C_drewN ?_ _) | (with_reducible refine Kd.C_drew ?_))); (case side6 => exact (Kd.V_reads' HO_202000.out).2.1); (case side7 => repeat (first | exact (Kd.V_reads' HO_202001.out).2.2 | (with_reducible refine Kd.C_alloc ?_ _) | (with_reducible refine Kd.C_drewN ?_ _) | (with_reducible refine Kd.C_drew ?_))); (case side8 => exact (Kd.V_reads' HO_202001.out).2.1); rintro e w55 ⟨v207, v210, rfl, ho0, ho1, hb⟩; have n0_ := Aside0.mk (Kd.V_below (kq_V HO_0.out) hb); have n1_ := Aside0.mk (Kd.N_below (kq_N HO_6.out) hb); have n2_ := Aside0.mk (Kd.V_below (kq_V HO_32.out) hb); have n3_ := Aside0.mk (Kd.V_below (kq_V HO_42.out) hb); have n4_ := Aside0.mk (Kd.V_below (kq_V HO_195000.out) hb); have n5_ := Aside0.mk (Kd.V_below (kq_V HO_195001.out) hb); have n6_ := Aside0.mk (Kd.V_below (kq_V HO_202000.out) hb); have n7_ := Aside0.mk (Kd.V_below (kq_V HO_202001.out) hb); have n8_ := Aside0.mk (Kd.V_lower (Kd.V_mono (ok' := fun k_ => (P0_ k_ ∨ w.heap.size ≤ k_) ∧ some k_ ≠ (u6 : Value).ownBlock ∧ k_ ≠ gb194 ∧ k_ ≠ gb201) ho0 (fun k_ hk_ => ⟨(.inr (Nat.le_trans (below_size (hbq HB.out)) hk_)), (Kd.fresh' (Kd.N_lt (kq_N HO_6.out)) k_ hk_), (Kd.freshB (g := gb194) (o := .cells #[.slice A193_0 ((rd_T66 l0 x34_2).f0).length c193_0, .slice A193_1 ((rd_T66 l0 x34_2).f1).length c193_1] 66 (0, 0)) (bkq BK194.out) k_ hk_), (Kd.freshB (g := gb201) (o := .cells #[.slice A200_0 ((rd_T66 y195 x44_3).f0).length c200_0, .slice A200_1 ((rd_T66 y195 x44_3).f1).length c200_1] 66 (0, 0)) (bkq BK201.out) k_ hk_)⟩)) (below_size (hbq HB.out))); have n9_ := Aside0.mk (Kd.V_lower (Kd.V_mono (ok' := fun k_ => (P0_ k_ ∨ w.heap.size ≤ k_) ∧ some k_ ≠ (u6 : Value).ownBlock ∧ k_ ≠ gb194 ∧ k_ ≠ gb201) ho1 (fun k_ hk_ => ⟨(.inr (Nat.le_trans (below_size (hbq HB.out)) hk_)), (Kd.fresh' (Kd.N_lt (kq_N HO_6.out)) k_ hk_), (Kd.freshB (g := gb194) (o := .cells #[.slice A193_0 ((rd_T66 l0 x34_2).f0).length c193_0, .slice A193_1 ((rd_T66 l0 x34_2).f1).length c193_1] 66 (0, 0)) (bkq BK194.out) k_ hk_), (Kd.freshB (g := gb201) (o := .cells #[.slice A200_0 ((rd_T66 y195 x44_3).f0).length c200_0, .slice A200_1 ((rd_T66 y195 x44_3).f1).length c200_1] 66 (0, 0)) (bkq BK201.out) k_ hk_)⟩)) (below_size (hbq HB.out))); have n10_ := Aside0.mk (blk_below (g := gb194) (o := .cells #[.slice A193_0 ((rd_T66 l0 x34_2).f0).length c193_0, .slice A193_1 ((rd_T66 l0 x34_2).f1).length c193_1] 66 (0, 0)) (bkq BK194.out) hb); have n11_ := Aside0.mk (blk_below (g := gb201) (o := .cells #[.slice A200_0 ((rd_T66 y195 x44_3).f0).length c200_0, .slice A200_1 ((rd_T66 y195 x44_3).f1).length c200_1] 66 (0, 0)) (bkq BK201.out) hb); have n12_ := Aside0.mk (below_step (hbq HB.out) hb); clear HO_0; clear HO_6; clear HO_32; clear HO_42; clear HO_195000; clear HO_195001; clear HO_202000; clear HO_202001; clear BK194; clear BK201; clear HB; have HO_0 := n0_; have HO_6 := n1_; have HO_32 := n2_; have HO_42 := n3_; have HO_195000 := n4_; have HO_195001 := n5_; have HO_202000 := n6_; have HO_202001 := n7_; have HO208 := n8_; have HO211 := n9_; have BK194 := n10_; have BK201 := n11_; have HB := n12_; clear n0_ n1_ n2_ n3_ n4_ n5_ n6_ n7_ n8_ n9_ n10_ n11_ n12_; (try clear hb); (try clear hb2); (try clear hk); (try clear hi); (try clear ho0); (try clear ho1)))); go_wp2_with (first | (go_at_call 34; (with_reducible refine (basis_join.calls kj29 _ _ ((rd_T66 l0 x34_2).f0) _ _ ((rd_T66 l0 x34_2).f1) _ _ ((rd_T66 y195 x44_3).f0) _ _ ((rd_T66 y195 x44_3).f1) a1 t206 t209 true _ ?side1 ?side2 ?side3 ?side4 ?side5 ?side6 ?side7 ?side8 A48.out).mono ?_); (case side1 => repeat (first | exact (Kd.V_reads' HO_195000.out).2.2 | (with_reducible refine Kd.C_alloc ?_ _) | (with_reducible refine Kd.C_drewN ?_ _) | (with_reducible refine Kd.C_drew ?_))); (case side2 => exact (Kd.V_reads' HO_195000.out).2.1); (case side3 => repeat (first | exact (Kd.V_reads' HO_195001.out).2.2 | (with_reducible refine Kd.C_alloc ?_ _) | (with_reducible refine Kd.C_drewN ?_ _) | (with_reducible refine Kd.C_drew ?_))); (case side4 => exact (Kd.V_reads' HO_195001.out).2.1); (case side5 => repeat (first | exact (Kd.V_reads' HO_202000.out).2.2 | (with_reducible refine Kd.C_alloc ?_ _) | (with_reducible refine Kd.C_drewN ?_ _) | (with_reducible refine Kd.C_drew ?_))); (case side6 => exact (Kd.V_reads' HO_202000.out).2.1); (case side7 => repeat (first | exact (Kd.V_reads' HO_202001.out).2.2 | (with_reducible refine Kd.C_alloc ?_ _) | (with_reducible refine Kd.C_drewN ?_ _) | (with_reducible refine Kd.C_drew ?_))); (case side8 => exact (Kd.V_reads' HO_202001.out).2.1); rintro e w55 ⟨v207, v210, rfl, ho0, ho1, hb⟩; have n0_ := Aside0.mk (Kd.V_below (kq_V HO_0.out) hb); have n1_ := Aside0.mk (Kd.N_below (kq_N HO_6.out) hb); have n2_ := Aside0.mk (Kd.V_below (kq_V HO_32.out) hb); have n3_ := Aside0.mk (Kd.V_below (kq_V HO_42.out) hb); have n4_ := Aside0.mk (Kd.V_below (kq_V HO_195000.out) hb); have n5_ := Aside0.mk (Kd.V_below (kq_V HO_195001.out) hb); have n6_ := Aside0.mk (Kd.V_below (kq_V HO_202000.out) hb); have n7_ := Aside0.mk (Kd.V_below (kq_V HO_202001.out) hb); have n8_ := Aside0.mk (Kd.V_lower (Kd.V_mono (ok' := fun k_ => (P0_ k_ ∨ w.heap.size ≤ k_) ∧ some k_ ≠ (u6 : Value).ownBlock ∧ k_ ≠ gb194 ∧ k_ ≠ gb201) ho0 (fun k_ hk_ => ⟨(.inr (Nat.le_trans (below_size (hbq HB.out)) hk_)), (Kd.fresh' (Kd.N_lt (kq_N HO_6.out)) k_ hk_), (Kd.freshB (g := gb194) (o := .cells #[.slice A193_0 ((rd_T66 l0 x34_2).f0).length c193_0, .slice A193_1 ((rd_T66 l0 x34_2).f1).length c193_1] 66 (0, 0)) (bkq BK194.out) k_ hk_), (Kd.freshB (g := gb201) (o := .cells #[.slice A200_0 ((rd_T66 y195 x44_3).f0).length c200_0, .slice A200_1 ((rd_T66 y195 x44_3).f1).length c200_1] 66 (0, 0)) (bkq BK201.out) k_ hk_)⟩)) (below_size (hbq HB.out))); have n9_ := Aside0.mk (Kd.V_lower (Kd.V_mono (ok' := fun k_ => (P0_ k_ ∨ w.heap.size ≤ k_) ∧ some k_ ≠ (u6 : Value).ownBlock ∧ k_ ≠ gb194 ∧ k_ ≠ gb201) ho1 (fun k_ hk_ => ⟨(.inr (Nat.le_trans (below_size (hbq HB.out)) hk_)), (Kd.fresh' (Kd.N_lt (kq_N HO_6.out)) k_ hk_), (Kd.freshB (g := gb194) (o := .cells #[.slice A193_0 ((rd_T66 l0 x34_2).f0).length c193_0, .slice A193_1 ((rd_T66 l0 x34_2).f1).length c193_1] 66 (0, 0)) (bkq BK194.out) k_ hk_), (Kd.freshB (g := gb201) (o := .cells #[.slice A200_0 ((rd_T66 y195 x44_3).f0).length c200_0, .slice A200_1 ((rd_T66 y195 x44_3).f1).length c200_1] 66 (0, 0)) (bkq BK201.out) k_ hk_)⟩)) (below_size (hbq HB.out))); have n10_ := Aside0.mk (blk_below (g := gb194) (o := .cells #[.slice A193_0 ((rd_T66 l0 x34_2).f0).length c193_0, .slice A193_1 ((rd_T66 l0 x34_2).f1).length c193_1] 66 (0, 0)) (bkq BK194.out) hb); have n11_ := Aside0.mk (blk_below (g := gb201) (o := .cells #[.slice A200_0 ((rd_T66 y195 x44_3).f0).length c200_0, .slice A200_1 ((rd_T66 y195 x44_3).f1).length c200_1] 66 (0, 0)) (bkq BK201.out) hb); have n12_ := Aside0.mk (below_step (hbq HB.out) hb); clear HO_0; clear HO_6; clear HO_32; clear HO_42; clear HO_195000; clear HO_195001; clear HO_202000; clear HO_202001; clear BK194; clear BK201; clear HB; have HO_0 := n0_; have HO_6 := n1_; have HO_32 := n2_; have HO_42 := n3_; have HO_195000 := n4_; have HO_195001 := n5_; have HO_202000 := n6_; have HO_202001 := n7_; have HO208 := n8_; have HO211 := n9_; have BK194 := n10_; have BK201 := n11_; have HB := n12_; clear n0_ n1_ n2_ n3_ n4_ n5_ n6_ n7_ n8_ n9_ n10_ n11_ n12_; (try clear hb); (try clear hb2); (try clear hk); (try clear hi); (try clear ho0); (try clear ho1)) | ((with_reducible refine gate_dst (N := 13) rfl ?_); refine box_event ?hg (N := 13) ?hd (cs := #[.slice none 0 0, .slice none 0 0]) (t := 66) ?hr ?_; (case hd => rfl); (case hg => rfl); (case hr => first | (go_simp; done) | (go_simp; rfl)); intro gb213 hg w56 hbox hb; have n0_ := Aside0.mk (Kd.V_below (Kd.V_elderB (kq_V HO_0.out) gb213 (Nat.le_of_eq hg.symm)) hb); have n1_ := Aside0.mk (Kd.N_below (Kd.N_elderB (kq_N HO_6.out) gb213 (Nat.le_of_eq hg.symm)) hb); have n2_ := Aside0.mk (Kd.V_below (Kd.V_elderB (kq_V HO_32.out) gb213 (Nat.le_of_eq hg.symm)) hb); have n3_ := Aside0.mk (Kd.V_below (Kd.V_elderB (kq_V HO_42.out) gb213 (Nat.le_of_eq hg.symm)) hb); have n4_ := Aside0.mk (Kd.V_below (Kd.V_elderB (kq_V HO_195000.out) gb213 (Nat.le_of_eq hg.symm)) hb); have n5_ := Aside0.mk (Kd.V_below (Kd.V_elderB (kq_V HO_195001.out) gb213 (Nat.le_of_eq hg.symm)) hb); have n6_ := Aside0.mk (Kd.V_below (Kd.V_elderB (kq_V HO_202000.out) gb213 (Nat.le_of_eq hg.symm)) hb); have n7_ := Aside0.mk (Kd.V_below (Kd.V_elderB (kq_V HO_202001.out) gb213 (Nat.le_of_eq hg.symm)) hb); have n8_ := Aside0.mk (Kd.V_below (Kd.V_elderB (kq_V HO208.out) gb213 (Nat.le_of_eq hg.symm)) hb); have n9_ := Aside0.mk (Kd.V_below (Kd.V_elderB (kq_V HO211.out) gb213 (Nat.le_of_eq hg.symm)) hb); have n10_ := Aside0.mk (blk_below (g := gb194) (o := .cells #[.slice A193_0 ((rd_T66 l0 x34_2).f0).length c193_0, .slice A193_1 ((rd_T66 l0 x34_2).f1).length c193_1] 66 (0, 0)) (bkq BK194.out) hb); have n11_ := Aside0.mk (blk_below (g := gb201) (o := .cells #[.slice A200_0 ((rd_T66 y195 x44_3).f0).length c200_0, .slice A200_1 ((rd_T66 y195 x44_3).f1).length c200_1] 66 (0, 0)) (bkq BK201.out) hb); have n12_ := Aside0.mk (below_step (hbq HB.out) hb); have n13_ := Aside0.mk (hbox); have n14_ := Aside0.mk ((by rw [hg]; exact (below_size (hbq HB.out)) : w.heap.size ≤ gb213)); have n15_ := Aside0.mk ((by rw [hg]; exact (below_size (hbq HB.out)) : w.heap.size ≤ gb213)); have n16_ := Aside0.mk ((by rw [hg]; exact Nat.ne_of_lt (blk_lt (g := gb194) (o := .cells #[.slice A193_0 ((rd_T66 l0 x34_2).f0).length c193_0, .slice A193_1 ((rd_T66 l0 x34_2).f1).length c193_1] 66 (0, 0)) (bkq BK194.out)) : gb194 ≠ gb213)); have n17_ := Aside0.mk ((by rw [hg]; exact Nat.ne_of_gt (blk_lt (g := gb194) (o := .cells #[.slice A193_0 ((rd_T66 l0 x34_2).f0).length c193_0, .slice A193_1 ((rd_T66 l0 x34_2).f1).length c193_1] 66 (0, 0)) (bkq BK194.out)) : gb213 ≠ gb194)); have n18_ := Aside0.mk ((by rw [hg]; exact Nat.ne_of_lt (blk_lt (g := gb201) (o := .cells #[.slice A200_0 ((rd_T66 y195 x44_3).f0).length c200_0, .slice A200_1 ((rd_T66 y195 x44_3).f1).length c200_1] 66 (0, 0)) (bkq BK201.out)) : gb201 ≠ gb213)); have n19_ := Aside0.mk ((by rw [hg]; exact Nat.ne_of_gt (blk_lt (g := gb201) (o := .cells #[.slice A200_0 ((rd_T66 y195 x44_3).f0).length c200_0, .slice A200_1 ((rd_T66 y195 x44_3).f1).length c200_1] 66 (0, 0)) (bkq BK201.out)) : gb213 ≠ gb201)); clear HO_0; clear HO_6; clear HO_32; clear HO_42; clear HO_195000; clear HO_195001; clear HO_202000; clear HO_202001; clear HO208; clear HO211; clear BK194; clear BK201; clear HB; have HO_0 := n0_; have HO_6 := n1_; have HO_32 := n2_; have HO_42 := n3_; have HO_195000 := n4_; have HO_195001 := n5_; have HO_202000 := n6_; have HO_202001 := n7_; have HO208 := n8_; have HO211 := n9_; have BK194 := n10_; have BK201 := n11_; have HB := n12_; have BK213 := n13_; have GW213 := n14_; have GE213 := n15_; have NB194_213 := n16_; have NB213_194 := n17_; have NB201_213 := n18_; have NB213_201 := n19_; clear n0_ n1_ n2_ n3_ n4_ n5_ n6_ n7_ n8_ n9_ n10_ n11_ n12_ n13_ n14_ n15_ n16_ n17_ n18_ n19_; clear hb hbox hg; obtain ⟨Ao57, co57, eo57⟩ := Kd.V_slice HO208.out; subst eo57; have hnb58 := NB213_194.out; have hnc58 := NB194_213.out; have hnb59 := NB213_201.out; have hnc59 := NB201_213.out; have hcz60_0 : w56.cell? ⟨gb213, 0, none⟩ = some (.slice none 0 0) := (blk_cell BK213.out 0).trans rfl; have hcz60_1 : w56.cell? ⟨gb213, 1, none⟩ = some (.slice none 0 0) := (blk_cell BK213.out 1).trans rfl; have hfz60_0 := blk_frozen BK213.out 0; have hfz60_1 := blk_frozen BK213.out 1; obtain ⟨Ao61, co61, eo61⟩ := Kd.V_slice HO211.out; subst eo61) | ((with_reducible refine gate_store (t := 66) (p := 13) rfl ?_); (try (rw [drewN_self w56]; generalize hq_ : World.drewN w56 _ = w56; have n0_ := Aside0.mk (Kd.V_at hq_ HO_0.out); have n1_ := Aside0.mk (Kd.N_at hq_ HO_6.out); have n2_ := Aside0.mk (Kd.V_at hq_ HO_32.out); have n3_ := Aside0.mk (Kd.V_at hq_ HO_42.out); have n4_ := Aside0.mk (Kd.V_at hq_ HO_195000.out); have n5_ := Aside0.mk (Kd.V_at hq_ HO_195001.out); have n6_ := Aside0.mk (Kd.V_at hq_ HO_202000.out); have n7_ := Aside0.mk (Kd.V_at hq_ HO_202001.out); have n8_ := Aside0.mk (Kd.V_at hq_ HO208.out); have n9_ := Aside0.mk (Kd.V_at hq_ HO211.out); have n10_ := Aside0.mk (blk_at hq_ BK194.out); have n11_ := Aside0.mk (blk_at hq_ BK201.out); have n12_ := Aside0.mk (blk_at hq_ BK213.out); have n13_ := Aside0.mk (below_at hq_ HB.out); clear hq_ HO_0 HO_6 HO_32 HO_42 HO_195000 HO_195001 HO_202000 HO_202001 HO208 HO211 BK194 BK201 BK213 HB; have HO_0 := n0_; have HO_6 := n1_; have HO_32 := n2_; have HO_42 := n3_; have HO_195000 := n4_; have HO_195001 := n5_; have HO_202000 := n6_; have HO_202001 := n7_; have HO208 := n8_; have HO211 := n9_; have BK194 := n10_; have BK201 := n11_; have BK213 := n12_; have HB := n13_; clear n0_ n1_ n2_ n3_ n4_ n5_ n6_ n7_ n8_ n9_ n10_ n11_ n12_ n13_)); refine store_event (t := 66) (p := 13) (v := ?vo_w62) (w1 := ((w56.setCell ⟨gb213, 0, none⟩ (.slice Ao57 t206.length co57)).setCell ⟨gb213, 1, none⟩ (.slice Ao61 t209.length co61))) ?hg ?ho ?hn ?hr ?_; (case ho => rfl); (case hg => rfl); (case hn => rfl); (case hr => first | (go_simp; done) | (go_simp; rfl)); intro w62 hw; have n0_ : Aside0 (Kd.V k66 66 w62 w.heap.size (fun k_ => (P0_ k_ ∨ w.heap.size ≤ k_) ∧ some k_ ≠ (u6 : Value).ownBlock ∧ k_ ≠ gb194 ∧ k_ ≠ gb201 ∧ k_ ≠ gb213) (.slice (some ad193) l0.length c0) l0) := ⟨(by rw [hw]; exact (by refine kq_V ?_; exact Kd.V_mono (Kd.V_far (p := ⟨gb213, 1, none⟩) (Kd.V_far (p := ⟨gb213, 0, none⟩) (Kd.V_mono HO_0.out (fun k_ hk => (⟨hk, hk.2⟩ : _ ∧ k_ ≠ gb213))) (fun _ hk => hk.2) (.slice Ao57 t206.length co57)) (fun _ hk => hk.2) (.slice Ao61 t209.length co61)) (fun _ hk => ⟨hk.1.1.1, ⟨hk.1.1.2.1, ⟨hk.1.1.2.2.1, ⟨hk.1.1.2.2.2, hk.1.2⟩⟩⟩⟩)))⟩; have n1_ : Aside0 (Kd.N k66 66 w62 w.heap.size (fun k_ => (P0_ k_ ∨ w.heap.size ≤ k_) ∧ k_ ≠ gb194 ∧ k_ ≠ gb201 ∧ k_ ≠ gb213) u6 x6_3) := ⟨(by rw [hw]; exact (by refine kq_N ?_; exact Kd.N_mono (Kd.N_far (p := ⟨gb213, 1, none⟩) (Kd.N_far (p := ⟨gb213, 0, none⟩) (Kd.N_mono HO_6.out (fun k_ hk => (⟨hk, hk.2⟩ : _ ∧ k_ ≠ gb213))) (fun _ hk => hk.2) (.slice Ao57 t206.length co57)) (fun _ hk => hk.2) (.slice Ao61 t209.length co61)) (fun _ hk => ⟨hk.1.1.1, ⟨hk.1.1.2.1, ⟨hk.1.1.2.2, hk.1.2⟩⟩⟩)))⟩; have n2_ : Aside0 (Kd.V k66 66 w62 w.heap.size (fun k_ => (P0_ k_ ∨ w.heap.size ≤ k_) ∧ some k_ ≠ (u6 : Value).ownBlock ∧ k_ ≠ gb194 ∧ k_ ≠ gb201 ∧ k_ ≠ gb213) (.slice (some ad193) l0.length c0) l0) := ⟨(by rw [hw]; exact (by refine kq_V ?_; exact Kd.V_mono (Kd.V_far (p := ⟨gb213, 1, none⟩) (Kd.V_far (p := ⟨gb213, 0, none⟩) (Kd.V_mono HO_32.out (fun k_ hk => (⟨hk, hk.2⟩ : _ ∧ k_ ≠ gb213))) (fun _ hk => hk.2) (.slice Ao57 t206.length co57)) (fun _ hk => hk.2) (.slice Ao61 t209.length co61)) (fun _ hk => ⟨hk.1.1.1, ⟨hk.1.1.2.1, ⟨hk.1.1.2.2.1, ⟨hk.1.1.2.2.2, hk.1.2⟩⟩⟩⟩)))⟩; have n3_ : Aside0 (Kd.V k66 66 w62 w.heap.size (fun k_ => (P0_ k_ ∨ w.heap.size ≤ k_) ∧ some k_ ≠ (u6 : Value).ownBlock ∧ k_ ≠ gb194 ∧ k_ ≠ gb201 ∧ k_ ≠ gb213) (.slice (some ad200) y195.length c26) y195) := ⟨(by rw [hw]; exact (by refine kq_V ?_; exact Kd.V_mono (Kd.V_far (p := ⟨gb213, 1, none⟩) (Kd.V_far (p := ⟨gb213, 0, none⟩) (Kd.V_mono HO_42.out (fun k_ hk => (⟨hk, hk.2⟩ : _ ∧ k_ ≠ gb213))) (fun _ hk => hk.2) (.slice Ao57 t206.length co57)) (fun _ hk => hk.2) (.slice Ao61 t209.length co61)) (fun _ hk => ⟨hk.1.1.1, ⟨hk.1.1.2.1, ⟨hk.1.1.2.2.1, ⟨hk.1.1.2.2.2, hk.1.2⟩⟩⟩⟩)))⟩; have n4_ : Aside0 (Kd.V (Kd.int .i64) 3 w62 w.heap.size (fun k_ => (P0_ k_ ∨ w.heap.size ≤ k_) ∧ some k_ ≠ (u6 : Value).ownBlock ∧ k_ ≠ gb194 ∧ k_ ≠ gb201 ∧ k_ ≠ gb213) (.slice A193_0 ((rd_T66 l0 x34_2).f0).length c193_0) ((rd_T66 l0 x34_2).f0)) := ⟨(by rw [hw]; exact (by refine kq_V ?_; exact Kd.V_mono (Kd.V_far (p := ⟨gb213, 1, none⟩) (Kd.V_far (p := ⟨gb213, 0, none⟩) (Kd.V_mono HO_195000.out (fun k_ hk => (⟨hk, hk.2⟩ : _ ∧ k_ ≠ gb213))) (fun _ hk => hk.2) (.slice Ao57 t206.length co57)) (fun _ hk => hk.2) (.slice Ao61 t209.length co61)) (fun _ hk => ⟨hk.1.1.1, ⟨hk.1.1.2.1, ⟨hk.1.1.2.2.1, ⟨hk.1.1.2.2.2, hk.1.2⟩⟩⟩⟩)))⟩; have n5_ : Aside0 (Kd.V (Kd.int .i64) 3 w62 w.heap.size (fun k_ => (P0_ k_ ∨ w.heap.size ≤ k_) ∧ some k_ ≠ (u6 : Value).ownBlock ∧ k_ ≠ gb194 ∧ k_ ≠ gb201 ∧ k_ ≠ gb213) (.slice A193_1 ((rd_T66 l0 x34_2).f1).length c193_1) ((rd_T66 l0 x34_2).f1)) := ⟨(by rw [hw]; exact (by refine kq_V ?_; exact Kd.V_mono (Kd.V_far (p := ⟨gb213, 1, none⟩) (Kd.V_far (p := ⟨gb213, 0, none⟩) (Kd.V_mono HO_195001.out (fun k_ hk => (⟨hk, hk.2⟩ : _ ∧ k_ ≠ gb213))) (fun _ hk => hk.2) (.slice Ao57 t206.length co57)) (fun _ hk => hk.2) (.slice Ao61 t209.length co61)) (fun _ hk => ⟨hk.1.1.1, ⟨hk.1.1.2.1, ⟨hk.1.1.2.2.1, ⟨hk.1.1.2.2.2, hk.1.2⟩⟩⟩⟩)))⟩; have n6_ : Aside0 (Kd.V (Kd.int .i64) 3 w62 w.heap.size (fun k_ => (P0_ k_ ∨ w.heap.size ≤ k_) ∧ some k_ ≠ (u6 : Value).ownBlock ∧ k_ ≠ gb194 ∧ k_ ≠ gb201 ∧ k_ ≠ gb213) (.slice A200_0 ((rd_T66 y195 x44_3).f0).length c200_0) ((rd_T66 y195 x44_3).f0)) := ⟨(by rw [hw]; exact (by refine kq_V ?_; exact Kd.V_mono (Kd.V_far (p := ⟨gb213, 1, none⟩) (Kd.V_far (p := ⟨gb213, 0, none⟩) (Kd.V_mono HO_202000.out (fun k_ hk => (⟨hk, hk.2⟩ : _ ∧ k_ ≠ gb213))) (fun _ hk => hk.2) (.slice Ao57 t206.length co57)) (fun _ hk => hk.2) (.slice Ao61 t209.length co61)) (fun _ hk => ⟨hk.1.1.1, ⟨hk.1.1.2.1, ⟨hk.1.1.2.2.1, ⟨hk.1.1.2.2.2, hk.1.2⟩⟩⟩⟩)))⟩; have n7_ : Aside0 (Kd.V (Kd.int .i64) 3 w62 w.heap.size (fun k_ => (P0_ k_ ∨ w.heap.size ≤ k_) ∧ some k_ ≠ (u6 : Value).ownBlock ∧ k_ ≠ gb194 ∧ k_ ≠ gb201 ∧ k_ ≠ gb213) (.slice A200_1 ((rd_T66 y195 x44_3).f1).length c200_1) ((rd_T66 y195 x44_3).f1)) := ⟨(by rw [hw]; exact (by refine kq_V ?_; exact Kd.V_mono (Kd.V_far (p := ⟨gb213, 1, none⟩) (Kd.V_far (p := ⟨gb213, 0, none⟩) (Kd.V_mono HO_202001.out (fun k_ hk => (⟨hk, hk.2⟩ : _ ∧ k_ ≠ gb213))) (fun _ hk => hk.2) (.slice Ao57 t206.length co57)) (fun _ hk => hk.2) (.slice Ao61 t209.length co61)) (fun _ hk => ⟨hk.1.1.1, ⟨hk.1.1.2.1, ⟨hk.1.1.2.2.1, ⟨hk.1.1.2.2.2, hk.1.2⟩⟩⟩⟩)))⟩; have n8_ : Aside0 (Kd.V (Kd.int .i64) 3 w62 w.heap.size (fun k_ => (P0_ k_ ∨ w.heap.size ≤ k_) ∧ some k_ ≠ (u6 : Value).ownBlock ∧ k_ ≠ gb194 ∧ k_ ≠ gb201 ∧ k_ ≠ gb213) (.slice Ao57 t206.length co57) t206) := ⟨(by rw [hw]; exact (by refine kq_V ?_; exact Kd.V_mono (Kd.V_far (p := ⟨gb213, 1, none⟩) (Kd.V_far (p := ⟨gb213, 0, none⟩) (Kd.V_mono HO208.out (fun k_ hk => (⟨hk, hk.2⟩ : _ ∧ k_ ≠ gb213))) (fun _ hk => hk.2) (.slice Ao57 t206.length co57)) (fun _ hk => hk.2) (.slice Ao61 t209.length co61)) (fun _ hk => ⟨hk.1.1.1, ⟨hk.1.1.2.1, ⟨hk.1.1.2.2.1, ⟨hk.1.1.2.2.2, hk.1.2⟩⟩⟩⟩)))⟩; have n9_ : Aside0 (Kd.V (Kd.int .i64) 3 w62 w.heap.size (fun k_ => (P0_ k_ ∨ w.heap.size ≤ k_) ∧ some k_ ≠ (u6 : Value).ownBlock ∧ k_ ≠ gb194 ∧ k_ ≠ gb201 ∧ k_ ≠ gb213) (.slice Ao61 t209.length co61) t209) := ⟨(by rw [hw]; exact (by refine kq_V ?_; exact Kd.V_mono (Kd.V_far (p := ⟨gb213, 1, none⟩) (Kd.V_far (p := ⟨gb213, 0, none⟩) (Kd.V_mono HO211.out (fun k_ hk => (⟨hk, hk.2⟩ : _ ∧ k_ ≠ gb213))) (fun _ hk => hk.2) (.slice Ao57 t206.length co57)) (fun _ hk => hk.2) (.slice Ao61 t209.length co61)) (fun _ hk => ⟨hk.1.1.1, ⟨hk.1.1.2.1, ⟨hk.1.1.2.2.1, ⟨hk.1.1.2.2.2, hk.1.2⟩⟩⟩⟩)))⟩; have n10_ : Aside0 (w62.heap[gb194]? = some (.cells #[.slice A193_0 ((rd_T66 l0 x34_2).f0).length c193_0, .slice A193_1 ((rd_T66 l0 x34_2).f1).length c193_1] 66 (0, 0))) := ⟨(by rw [hw]; exact (by refine bkq ?_; refine blk_far ?_ NB194_213.out _; refine bkq ?_; refine blk_far ?_ NB194_213.out _; refine bkq ?_; exact BK194.out))⟩; have n11_ : Aside0 (w62.heap[gb201]? = some (.cells #[.slice A200_0 ((rd_T66 y195 x44_3).f0).length c200_0, .slice A200_1 ((rd_T66 y195 x44_3).f1).length c200_1] 66 (0, 0))) := ⟨(by rw [hw]; exact (by refine bkq ?_; refine blk_far ?_ NB201_213.out _; refine bkq ?_; refine blk_far ?_ NB201_213.out _; refine bkq ?_; exact BK201.out))⟩; have n12_ : Aside0 (w62.heap[gb213]? = some (.cells #[.slice Ao57 t206.length co57, .slice Ao61 t209.length co61] 66 (0, 0))) := ⟨(by rw [hw]; exact (by refine bkq ?_; refine blk_put (cs := #[.slice Ao57 t206.length co57, .slice none 0 0]) ?_ 1 _ rfl; refine bkq ?_; refine blk_put (cs := #[.slice none 0 0, .slice none 0 0]) ?_ 0 _ rfl; refine bkq ?_; exact BK213.out))⟩; have n13_ : Aside0 (Below w.heap.size w w62) := ⟨(by rw [hw]; exact (hbq HB.out))⟩; clear hw; clear HO_0; clear HO_6; clear HO_32; clear HO_42; clear HO_195000; clear HO_195001; clear HO_202000; clear HO_202001; clear HO208; clear HO211; clear BK194; clear BK201; clear BK213; clear HB; have HO_0 := n0_; have HO_6 := n1_; have HO_32 := n2_; have HO_42 := n3_; have HO_195000 := n4_; have HO_195001 := n5_; have HO_202000 := n6_; have HO_202001 := n7_; have HO208 := n8_; have HO211 := n9_; have BK194 := n10_; have BK201 := n11_; have BK213 := n12_; have HB := n13_; clear n0_ n1_ n2_ n3_ n4_ n5_ n6_ n7_ n8_ n9_ n10_ n11_ n12_ n13_; have hcz63_0 : w62.cell? ⟨gb213, 0, none⟩ = some (.slice Ao57 t206.length co57) := (blk_cell BK213.out 0).trans rfl; have hcz63_1 : w62.cell? ⟨gb213, 1, none⟩ = some (.slice Ao61 t209.length co61) := (blk_cell BK213.out 1).trans rfl; have hfz63_0 := blk_frozen BK213.out 0; have hfz63_1 := blk_frozen BK213.out 1) | ((with_reducible refine gate_builtin (b := .append) (xs := #[.tmp 86, .tmp 88]) rfl ?_); at_builtin; refine Kd.N_append k66 (w0 := w) w.heap.size rfl (.tmp 86) (.tmp 88) 63 66 (.agg #[(.slice none 0 0), (.slice none 0 0)]) 48 rfl Try.underlying63 info66 rfl (by decide) (by omega) u6 x6_3 (⟨t206, t209⟩ : S66) [.slice Ao57 t206.length co57, .slice Ao61 t209.length co61] (fun k_ => (P0_ k_ ∨ w.heap.size ≤ k_) ∧ k_ ≠ gb194 ∧ k_ ≠ gb201 ∧ k_ ≠ gb213) (fun k_ => ((fun k_ => (P0_ k_ ∨ w.heap.size ≤ k_) ∧ k_ ≠ gb194 ∧ k_ ≠ gb201 ∧ k_ ≠ gb213)) k_ ∧ some k_ ≠ (u6 : Value).ownBlock) rfl rfl ?aP (fun _ hk => hk) ?aF ?aO ?aB ?aS ?aL ?_; (case aP => exact (k66_mkF _ _ (⟨t206, t209⟩ : S66) (Kd.V_reads' (Kd.V_mono (ok' := (fun k_ => ((fun k_ => (P0_ k_ ∨ w.heap.size ≤ k_) ∧ k_ ≠ gb194 ∧ k_ ≠ gb201 ∧ k_ ≠ gb213)) k_ ∧ some k_ ≠ (u6 : Value).ownBlock)) (HO208.out) (fun k_ hk => ⟨⟨hk.1, ⟨hk.2.2.1, ⟨hk.2.2.2.1, hk.2.2.2.2⟩⟩⟩, hk.2.1⟩))).2.1 (Kd.V_F (Kd.V_mono (ok' := (fun k_ => ((fun k_ => (P0_ k_ ∨ w.heap.size ≤ k_) ∧ k_ ≠ gb194 ∧ k_ ≠ gb201 ∧ k_ ≠ gb213)) k_ ∧ some k_ ≠ (u6 : Value).ownBlock)) (HO208.out) (fun k_ hk => ⟨⟨hk.1, ⟨hk.2.2.1, ⟨hk.2.2.2.1, hk.2.2.2.2⟩⟩⟩, hk.2.1⟩))) (Kd.V_reads' (Kd.V_mono (ok' := (fun k_ => ((fun k_ => (P0_ k_ ∨ w.heap.size ≤ k_) ∧ k_ ≠ gb194 ∧ k_ ≠ gb201 ∧ k_ ≠ gb213)) k_ ∧ some k_ ≠ (u6 : Value).ownBlock)) (HO211.out) (fun k_ hk => ⟨⟨hk.1, ⟨hk.2.2.1, ⟨hk.2.2.2.1, hk.2.2.2.2⟩⟩⟩, hk.2.1⟩))).2.1 (Kd.V_F (Kd.V_mono (ok' := (fun k_ => ((fun k_ => (P0_ k_ ∨ w.heap.size ≤ k_) ∧ k_ ≠ gb194 ∧ k_ ≠ gb201 ∧ k_ ≠ gb213)) k_ ∧ some k_ ≠ (u6 : Value).ownBlock)) (HO211.out) (fun k_ hk => ⟨⟨hk.1, ⟨hk.2.2.1, ⟨hk.2.2.2.1, hk.2.2.2.2⟩⟩⟩, hk.2.1⟩))))); (case aB => exact (hbq HB.out)); (case aF => exact (fun k_ hk => ⟨(.inr (Nat.le_trans (below_size (hbq HB.out)) hk)), Kd.freshB (g := gb194) (o := .cells #[.slice A193_0 ((rd_T66 l0 x34_2).f0).length c193_0, .slice A193_1 ((rd_T66 l0 x34_2).f1).length c193_1] 66 (0, 0)) (bkq BK194.out) k_ hk, Kd.freshB (g := gb201) (o := .cells #[.slice A200_0 ((rd_T66 y195 x44_3).f0).length c200_0, .slice A200_1 ((rd_T66 y195 x44_3).f1).length c200_1] 66 (0, 0)) (bkq BK201.out) k_ hk, Kd.freshB (g := gb213) (o := .cells #[.slice Ao57 t206.length co57, .slice Ao61 t209.length co61] 66 (0, 0)) (bkq BK213.out) k_ hk⟩)); (case aO => exact (kq_N HO_6.out)); (case aS => exact (below_size (hbq HB.out))); (case aL => have := LMc50.out; omega); intro v215 w64 ho hb hg hat; rw [← Ny214.out] at ho; have n0_ := Aside0.mk (Kd.V_afterv (ok := (fun k_ => (P0_ k_ ∨ w.heap.size ≤ k_) ∧ k_ ≠ gb194 ∧ k_ ≠ gb201 ∧ k_ ≠ gb213)) (by refine kq_V ?_; exact Kd.V_mono HO_0.out (fun _ hk => ⟨⟨hk.1, ⟨hk.2.2.1, ⟨hk.2.2.2.1, hk.2.2.2.2⟩⟩⟩, hk.2.1⟩)) hg hat); have n1_ := Aside0.mk (Kd.V_afterv (ok := (fun k_ => (P0_ k_ ∨ w.heap.size ≤ k_) ∧ k_ ≠ gb194 ∧ k_ ≠ gb201 ∧ k_ ≠ gb213)) (by refine kq_V ?_; exact Kd.V_mono HO_32.out (fun _ hk => ⟨⟨hk.1, ⟨hk.2.2.1, ⟨hk.2.2.2.1, hk.2.2.2.2⟩⟩⟩, hk.2.1⟩)) hg hat); have n2_ := Aside0.mk (Kd.V_afterv (ok := (fun k_ => (P0_ k_ ∨ w.heap.size ≤ k_) ∧ k_ ≠ gb194 ∧ k_ ≠ gb201 ∧ k_ ≠ gb213)) (by refine kq_V ?_; exact Kd.V_mono HO_42.out (fun _ hk => ⟨⟨hk.1, ⟨hk.2.2.1, ⟨hk.2.2.2.1, hk.2.2.2.2⟩⟩⟩, hk.2.1⟩)) hg hat); have n3_ := Aside0.mk (Kd.V_afterv (ok := (fun k_ => (P0_ k_ ∨ w.heap.size ≤ k_) ∧ k_ ≠ gb194 ∧ k_ ≠ gb201 ∧ k_ ≠ gb213)) (by refine kq_V ?_; exact Kd.V_mono HO_195000.out (fun _ hk => ⟨⟨hk.1, ⟨hk.2.2.1, ⟨hk.2.2.2.1, hk.2.2.2.2⟩⟩⟩, hk.2.1⟩)) hg hat); have n4_ := Aside0.mk (Kd.V_afterv (ok := (fun k_ => (P0_ k_ ∨ w.heap.size ≤ k_) ∧ k_ ≠ gb194 ∧ k_ ≠ gb201 ∧ k_ ≠ gb213)) (by refine kq_V ?_; exact Kd.V_mono HO_195001.out (fun _ hk => ⟨⟨hk.1, ⟨hk.2.2.1, ⟨hk.2.2.2.1, hk.2.2.2.2⟩⟩⟩, hk.2.1⟩)) hg hat); have n5_ := Aside0.mk (Kd.V_afterv (ok := (fun k_ => (P0_ k_ ∨ w.heap.size ≤ k_) ∧ k_ ≠ gb194 ∧ k_ ≠ gb201 ∧ k_ ≠ gb213)) (by refine kq_V ?_; exact Kd.V_mono HO_202000.out (fun _ hk => ⟨⟨hk.1, ⟨hk.2.2.1, ⟨hk.2.2.2.1, hk.2.2.2.2⟩⟩⟩, hk.2.1⟩)) hg hat); have n6_ := Aside0.mk (Kd.V_afterv (ok := (fun k_ => (P0_ k_ ∨ w.heap.size ≤ k_) ∧ k_ ≠ gb194 ∧ k_ ≠ gb201 ∧ k_ ≠ gb213)) (by refine kq_V ?_; exact Kd.V_mono HO_202001.out (fun _ hk => ⟨⟨hk.1, ⟨hk.2.2.1, ⟨hk.2.2.2.1, hk.2.2.2.2⟩⟩⟩, hk.2.1⟩)) hg hat); have n7_ := Aside0.mk (blk_grown (g := gb194) (o := .cells #[.slice A193_0 ((rd_T66 l0 x34_2).f0).length c193_0, .slice A193_1 ((rd_T66 l0 x34_2).f1).length c193_1] 66 (0, 0)) (bkq BK194.out) hg (Kd.N_away HO_6.out (fun _ hk => hk.2.1))); have n8_ := Aside0.mk (blk_grown (g := gb201) (o := .cells #[.slice A200_0 ((rd_T66 y195 x44_3).f0).length c200_0, .slice A200_1 ((rd_T66 y195 x44_3).f1).length c200_1] 66 (0, 0)) (bkq BK201.out) hg (Kd.N_away HO_6.out (fun _ hk => hk.2.2.1))); have n9_ := Aside0.mk (Kd.V_afterv (ok := (fun k_ => (P0_ k_ ∨ w.heap.size ≤ k_) ∧ k_ ≠ gb194 ∧ k_ ≠ gb201 ∧ k_ ≠ gb213)) (by refine kq_V ?_; exact Kd.V_mono HO208.out (fun _ hk => ⟨⟨hk.1, ⟨hk.2.2.1, ⟨hk.2.2.2.1, hk.2.2.2.2⟩⟩⟩, hk.2.1⟩)) hg hat); have n10_ := Aside0.mk (Kd.V_afterv (ok := (fun k_ => (P0_ k_ ∨ w.heap.size ≤ k_) ∧ k_ ≠ gb194 ∧ k_ ≠ gb201 ∧ k_ ≠ gb213)) (by refine kq_V ?_; exact Kd.V_mono HO211.out (fun _ hk => ⟨⟨hk.1, ⟨hk.2.2.1, ⟨hk.2.2.2.1, hk.2.2.2.2⟩⟩⟩, hk.2.1⟩)) hg hat); have n11_ := Aside0.mk (blk_grown (g := gb213) (o := .cells #[.slice Ao57 t206.length co57, .slice Ao61 t209.length co61] 66 (0, 0)) (bkq BK213.out) hg (Kd.N_away HO_6.out (fun _ hk => hk.2.2.2))); have n12_ := Aside0.mk (hb); have n13_ := Aside0.mk (ho); clear HO_0; clear HO_32; clear HO_42; clear HO_195000; clear HO_195001; clear HO_202000; clear HO_202001; clear BK194; clear BK201; clear HO208; clear HO211; clear BK213; clear HB; clear HO_6; have HO_0 := n0_; have HO_32 := n1_; have HO_42 := n2_; have HO_195000 := n3_; have HO_195001 := n4_; have HO_202000 := n5_; have HO_202001 := n6_; have BK194 := n7_; have BK201 := n8_; have HO208 := n9_; have HO211 := n10_; have BK213 := n11_; have HB := n12_; have HO216 := n13_; clear n0_ n1_ n2_ n3_ n4_ n5_ n6_ n7_ n8_ n9_ n10_ n11_ n12_ n13_; clear ho hb hg hat; obtain ⟨Ao65, co65, eo65⟩ := Kd.N_slice HO216.out; subst eo65)))
         go_ret2
         exact ⟨_, by first | rfl | (simp [errW_none, errW_some] <;> rfl) | (simp only [← hji20]; first | rfl | (simp [errW_none, errW_some] <;> rfl)) | (simp [*, errW_none, errW_some] <;> rfl), by first | exact Kd.S_nil _ _ _ _ _ | exact Kd.N_nil _ _ _ _ _ | exact Kd.V_nil _ _ _ _ _ | exact Kd.Q_nil _ _ _ _ _ | exact Kd.R_nil _ _ _ _ _, hbq HB.out⟩
        rw [if_neg c51] at H
        have c51b0 : decide (400 < (y214.length : Int)) = false := decide_eq_false c51
        have c51b1 : decide (400 < y214.length) = false := decide_eq_false (by omega)
        clear c51
        have H' := Aside0.mk H
        clear H
        have hnb66 := NB194_201.out
        have hnc66 := NB201_194.out
        have hcz67_0 : wc.cell? ⟨gb194, 0, none⟩ = some (.slice A193_0 ((rd_T66 l0 x34_2).f0).length c193_0) := (blk_cell BK194.out 0).trans rfl
        have hcz67_1 : wc.cell? ⟨gb194, 1, none⟩ = some (.slice A193_1 ((rd_T66 l0 x34_2).f1).length c193_1) := (blk_cell BK194.out 1).trans rfl
        have hfz67_0 := blk_frozen BK194.out 0
        have hfz67_1 := blk_frozen BK194.out 1
        have hcz68_0 : wc.cell? ⟨gb201, 0, none⟩ = some (.slice A200_0 ((rd_T66 y195 x44_3).f0).length c200_0) := (blk_cell BK201.out 0).trans rfl
        have hcz68_1 : wc.cell? ⟨gb201, 1, none⟩ = some (.slice A200_1 ((rd_T66 y195 x44_3).f1).length c200_1) := (blk_cell BK201.out 1).trans rfl
        have hfz68_0 := blk_frozen BK201.out 0
        have hfz68_1 := blk_frozen BK201.out 1
        iterate 3 ((try go_quiet (first | (go_at_call 34; (with_reducible refine (basis_join.calls kj29 _ _ ((rd_T66 l0 x34_2).f0) _ _ ((rd_T66 l0 x34_2).f1) _ _ ((rd_T66 y195 x44_3).f0) _ _ ((rd_T66 y195 x44_3).f1) a1 t206 t209 true _ ?side1 ?side2 ?side3 ?side4 ?side5 ?side6 ?side7 ?side8 A48.out).mono ?_); (case side1 => repeat (first | exact (Kd.V_reads' HO_195000.out).2.2 | (with_reducible refine Kd.C_alloc ?_ _) | (with_reducible refine Kd.C_drewN ?_ _) | (with_reducible refine Kd.C_drew ?_))); (case side2 => exact (Kd.V_reads' HO_195000.out).2.1); (case side3 => repeat (first | exact (Kd.V_reads' HO_195001.out).2.2 | (with_reducible refine Kd.C_alloc ?_ _) | (with_reducible refine Kd.C_drewN ?_ _) | (with_reducible refine Kd.C_drew ?_))); (case side4 => exact (Kd.V_reads' HO_195001.out).2.1); (case side5 => repeat (first | exact (Kd.V_reads' HO_202000.out).2.2 | (with_reducible refine Kd.C_alloc ?_ _) | (with_reducible refine Kd.C_drewN ?_ _) | (with_reducible refine Kd.C_drew ?_))); (case side6 => exact (Kd.V_reads' HO_202000.out).2.1); (case side7 => repeat (first | exact (Kd.V_reads' HO_202001.out).2.2 | (with_reducible refine Kd.C_alloc ?_ _) | (with_reducible refine Kd.C_drewN ?_ _) | (with_reducible refine Kd.C_drew ?_))); (case side8 => exact (Kd.V_reads' HO_202001.out).2.1); rintro e w69 ⟨v207, v210, rfl, ho0, ho1, hb⟩; have n0_ := Aside0.mk (Kd.V_below (kq_V HO_0.out) hb); have n1_ := Aside0.mk (Kd.N_below (kq_N HO_6.out) hb); have n2_ := Aside0.mk (Kd.V_below (kq_V HO_32.out) hb); have n3_ := Aside0.mk (Kd.V_below (kq_V HO_42.out) hb); have n4_ := Aside0.mk (Kd.V_below (kq_V HO_195000.out) hb); have n5_ := Aside0.mk (Kd.V_below (kq_V HO_195001.out) hb); have n6_ := Aside0.mk (Kd.V_below (kq_V HO_202000.out) hb); have n7_ := Aside0.mk (Kd.V_below (kq_V HO_202001.out) hb); have n8_ := Aside0.mk (Kd.V_lower (Kd.V_mono (ok' := fun k_ => (P0_ k_ ∨ w.heap.size ≤ k_) ∧ some k_ ≠ (u6 : Value).ownBlock ∧ k_ ≠ gb194 ∧ k_ ≠ gb201) ho0 (fun k_ hk_ => ⟨(.inr (Nat.le_trans (below_size (hbq HB.out)) hk_)), (Kd.fresh' (Kd.N_lt (kq_N HO_6.out)) k_ hk_), (Kd.freshB (g := gb194) (o := .cells #[.slice A193_0 ((rd_T66 l0 x34_2).f0).length c193_0, .slice A193_1 ((rd_T66 l0 x34_2).f1).length c193_1] 66 (0, 0)) (bkq BK194.out) k_ hk_), (Kd.freshB (g := gb201) (o := .cells #[.slice A200_0 ((rd_T66 y195 x44_3).f0).length c200_0, .slice A200_1 ((rd_T66 y195 x44_3).f1).length c200_1] 66 (0, 0)) (bkq BK201.out) k_ hk_)⟩)) (below_size (hbq HB.out))); have n9_ := Aside0.mk (Kd.V_lower (Kd.V_mono (ok' := fun k_ => (P0_ k_ ∨ w.heap.size ≤ k_) ∧ some k_ ≠ (u6 : Value).ownBlock ∧ k_ ≠ gb194 ∧ k_ ≠ gb201) ho1 (fun k_ hk_ => ⟨(.inr (Nat.le_trans (below_size (hbq HB.out)) hk_)), (Kd.fresh' (Kd.N_lt (kq_N HO_6.out)) k_ hk_), (Kd.freshB (g := gb194) (o := .cells #[.slice A193_0 ((rd_T66 l0 x34_2).f0).length c193_0, .slice A193_1 ((rd_T66 l0 x34_2).f1).length c193_1] 66 (0, 0)) (bkq BK194.out) k_ hk_), (Kd.freshB (g := gb201) (o := .cells #[.slice A200_0 ((rd_T66 y195 x44_3).f0).length c200_0, .slice A200_1 ((rd_T66 y195 x44_3).f1).length c200_1] 66 (0, 0)) (bkq BK201.out) k_ hk_)⟩)) (below_size (hbq HB.out))); have n10_ := Aside0.mk (blk_below (g := gb194) (o := .cells #[.slice A193_0 ((rd_T66 l0 x34_2).f0).length c193_0, .slice A193_1 ((rd_T66 l0 x34_2).f1).length c193_1] 66 (0, 0)) (bkq BK194.out) hb); have n11_ := Aside0.mk (blk_below (g := gb201) (o := .cells #[.slice A200_0 ((rd_T66 y195 x44_3).f0).length c200_0, .slice A200_1 ((rd_T66 y195 x44_3).f1).length c200_1] 66 (0, 0)) (bkq BK201.out) hb); have n12_ := Aside0.mk (below_step (hbq HB.out) hb); clear HO_0; clear HO_6; clear HO_32; clear HO_42; clear HO_195000; clear HO_195001; clear HO_202000; clear HO_202001; clear BK194; clear BK201; clear HB; have HO_0 := n0_; have HO_6 := n1_; have HO_32 := n2_; have HO_42 := n3_; have HO_195000 := n4_; have HO_195001 := n5_; have HO_202000 := n6_; have HO_202001 := n7_; have HO208 := n8_; have HO211 := n9_; have BK194 := n10_; have BK201 := n11_; have HB := n12_; clear n0_ n1_ n2_ n3_ n4_ n5_ n6_ n7_ n8_ n9_ n10_ n11_ n12_; (try clear hb); (try clear hb2); (try clear hk); (try clear hi); (try clear ho0); (try clear ho1)))); go_wp2_with (first | (go_at_call 34; (with_reducible refine (basis_join.calls kj29 _ _ ((rd_T66 l0 x34_2).f0) _ _ ((rd_T66 l0 x34_2).f1) _ _ ((rd_T66 y195 x44_3).f0) _ _ ((rd_T66 y195 x44_3).f1) a1 t206 t209 true _ ?side1 ?side2 ?side3 ?side4 ?side5 ?side6 ?side7 ?side8 A48.out).mono ?_); (case side1 => repeat (first | exact (Kd.V_reads' HO_195000.out).2.2 | (with_reducible refine Kd.C_alloc ?_ _) | (with_reducible refine Kd.C_drewN ?_ _) | (with_reducible refine Kd.C_drew ?_))); (case side2 => exact (Kd.V_reads' HO_195000.out).2.1); (case side3 => repeat (first | exact (Kd.V_reads' HO_195001.out).2.2 | (with_reducible refine Kd.C_alloc ?_ _) | (with_reducible refine Kd.C_drewN ?_ _) | (with_reducible refine Kd.C_drew ?_))); (case side4 => exact (Kd.V_reads' HO_195001.out).2.1); (case side5 => repeat (first | exact (Kd.V_reads' HO_202000.out).2.2 | (with_reducible refine Kd.C_alloc ?_ _) | (with_reducible refine Kd.C_drewN ?_ _) | (with_reducible refine Kd.C_drew ?_))); (case side6 => exact (Kd.V_reads' HO_202000.out).2.1); (case side7 => repeat (first | exact (Kd.V_reads' HO_202001.out).2.2 | (with_reducible refine Kd.C_alloc ?_ _) | (with_reducible refine Kd.C_drewN ?_ _) | (with_reducible refine Kd.C_drew ?_))); (case side8 => exact (Kd.V_reads' HO_202001.out).2.1); rintro e w69 ⟨v207, v210, rfl, ho0, ho1, hb⟩; have n0_ := Aside0.mk (Kd.V_below (kq_V HO_0.out) hb); have n1_ := Aside0.mk (Kd.N_below (kq_N HO_6.out) hb); have n2_ := Aside0.mk (Kd.V_below (kq_V HO_32.out) hb); have n3_ := Aside0.mk (Kd.V_below (kq_V HO_42.out) hb); have n4_ := Aside0.mk (Kd.V_below (kq_V HO_195000.out) hb); have n5_ := Aside0.mk (Kd.V_below (kq_V HO_195001.out) hb); have n6_ := Aside0.mk (Kd.V_below (kq_V HO_202000.out) hb); have n7_ := Aside0.mk (Kd.V_below (kq_V HO_202001.out) hb); have n8_ := Aside0.mk (Kd.V_lower (Kd.V_mono (ok' := fun k_ => (P0_ k_ ∨ w.heap.size ≤ k_) ∧ some k_ ≠ (u6 : Value).ownBlock ∧ k_ ≠ gb194 ∧ k_ ≠ gb201) ho0 (fun k_ hk_ => ⟨(.inr (Nat.le_trans (below_size (hbq HB.out)) hk_)), (Kd.fresh' (Kd.N_lt (kq_N HO_6.out)) k_ hk_), (Kd.freshB (g := gb194) (o := .cells #[.slice A193_0 ((rd_T66 l0 x34_2).f0).length c193_0, .slice A193_1 ((rd_T66 l0 x34_2).f1).length c193_1] 66 (0, 0)) (bkq BK194.out) k_ hk_), (Kd.freshB (g := gb201) (o := .cells #[.slice A200_0 ((rd_T66 y195 x44_3).f0).length c200_0, .slice A200_1 ((rd_T66 y195 x44_3).f1).length c200_1] 66 (0, 0)) (bkq BK201.out) k_ hk_)⟩)) (below_size (hbq HB.out))); have n9_ := Aside0.mk (Kd.V_lower (Kd.V_mono (ok' := fun k_ => (P0_ k_ ∨ w.heap.size ≤ k_) ∧ some k_ ≠ (u6 : Value).ownBlock ∧ k_ ≠ gb194 ∧ k_ ≠ gb201) ho1 (fun k_ hk_ => ⟨(.inr (Nat.le_trans (below_size (hbq HB.out)) hk_)), (Kd.fresh' (Kd.N_lt (kq_N HO_6.out)) k_ hk_), (Kd.freshB (g := gb194) (o := .cells #[.slice A193_0 ((rd_T66 l0 x34_2).f0).length c193_0, .slice A193_1 ((rd_T66 l0 x34_2).f1).length c193_1] 66 (0, 0)) (bkq BK194.out) k_ hk_), (Kd.freshB (g := gb201) (o := .cells #[.slice A200_0 ((rd_T66 y195 x44_3).f0).length c200_0, .slice A200_1 ((rd_T66 y195 x44_3).f1).length c200_1] 66 (0, 0)) (bkq BK201.out) k_ hk_)⟩)) (below_size (hbq HB.out))); have n10_ := Aside0.mk (blk_below (g := gb194) (o := .cells #[.slice A193_0 ((rd_T66 l0 x34_2).f0).length c193_0, .slice A193_1 ((rd_T66 l0 x34_2).f1).length c193_1] 66 (0, 0)) (bkq BK194.out) hb); have n11_ := Aside0.mk (blk_below (g := gb201) (o := .cells #[.slice A200_0 ((rd_T66 y195 x44_3).f0).length c200_0, .slice A200_1 ((rd_T66 y195 x44_3).f1).length c200_1] 66 (0, 0)) (bkq BK201.out) hb); have n12_ := Aside0.mk (below_step (hbq HB.out) hb); clear HO_0; clear HO_6; clear HO_32; clear HO_42; clear HO_195000; clear HO_195001; clear HO_202000; clear HO_202001; clear BK194; clear BK201; clear HB; have HO_0 := n0_; have HO_6 := n1_; have HO_32 := n2_; have HO_42 := n3_; have HO_195000 := n4_; have HO_195001 := n5_; have HO_202000 := n6_; have HO_202001 := n7_; have HO208 := n8_; have HO211 := n9_; have BK194 := n10_; have BK201 := n11_; have HB := n12_; clear n0_ n1_ n2_ n3_ n4_ n5_ n6_ n7_ n8_ n9_ n10_ n11_ n12_; (try clear hb); (try clear hb2); (try clear hk); (try clear hi); (try clear ho0); (try clear ho1)) | ((with_reducible refine gate_dst (N := 13) rfl ?_); refine box_event ?hg (N := 13) ?hd (cs := #[.slice none 0 0, .slice none 0 0]) (t := 66) ?hr ?_; (case hd => rfl); (case hg => rfl); (case hr => first | (go_simp; done) | (go_simp; rfl)); intro gb213 hg w70 hbox hb; have n0_ := Aside0.mk (Kd.V_below (Kd.V_elderB (kq_V HO_0.out) gb213 (Nat.le_of_eq hg.symm)) hb); have n1_ := Aside0.mk (Kd.N_below (Kd.N_elderB (kq_N HO_6.out) gb213 (Nat.le_of_eq hg.symm)) hb); have n2_ := Aside0.mk (Kd.V_below (Kd.V_elderB (kq_V HO_32.out) gb213 (Nat.le_of_eq hg.symm)) hb); have n3_ := Aside0.mk (Kd.V_below (Kd.V_elderB (kq_V HO_42.out) gb213 (Nat.le_of_eq hg.symm)) hb); have n4_ := Aside0.mk (Kd.V_below (Kd.V_elderB (kq_V HO_195000.out) gb213 (Nat.le_of_eq hg.symm)) hb); have n5_ := Aside0.mk (Kd.V_below (Kd.V_elderB (kq_V HO_195001.out) gb213 (Nat.le_of_eq hg.symm)) hb); have n6_ := Aside0.mk (Kd.V_below (Kd.V_elderB (kq_V HO_202000.out) gb213 (Nat.le_of_eq hg.symm)) hb); have n7_ := Aside0.mk (Kd.V_below (Kd.V_elderB (kq_V HO_202001.out) gb213 (Nat.le_of_eq hg.symm)) hb); have n8_ := Aside0.mk (Kd.V_below (Kd.V_elderB (kq_V HO208.out) gb213 (Nat.le_of_eq hg.symm)) hb); have n9_ := Aside0.mk (Kd.V_below (Kd.V_elderB (kq_V HO211.out) gb213 (Nat.le_of_eq hg.symm)) hb); have n10_ := Aside0.mk (blk_below (g := gb194) (o := .cells #[.slice A193_0 ((rd_T66 l0 x34_2).f0).length c193_0, .slice A193_1 ((rd_T66 l0 x34_2).f1).length c193_1] 66 (0, 0)) (bkq BK194.out) hb); have n11_ := Aside0.mk (blk_below (g := gb201) (o := .cells #[.slice A200_0 ((rd_T66 y195 x44_3).f0).length c200_0, .slice A200_1 ((rd_T66 y195 x44_3).f1).length c200_1] 66 (0, 0)) (bkq BK201.out) hb); have n12_ := Aside0.mk (below_step (hbq HB.out) hb); have n13_ := Aside0.mk (hbox); have n14_ := Aside0.mk ((by rw [hg]; exact (below_size (hbq HB.out)) : w.heap.size ≤ gb213)); have n15_ := Aside0.mk ((by rw [hg]; exact (below_size (hbq HB.out)) : w.heap.size ≤ gb213)); have n16_ := Aside0.mk ((by rw [hg]; exact Nat.ne_of_lt (blk_lt (g := gb194) (o := .cells #[.slice A193_0 ((rd_T66 l0 x34_2).f0).length c193_0, .slice A193_1 ((rd_T66 l0 x34_2).f1).length c193_1] 66 (0, 0)) (bkq BK194.out)) : gb194 ≠ gb213)); have n17_ := Aside0.mk ((by rw [hg]; exact Nat.ne_of_gt (blk_lt (g := gb194) (o := .cells #[.slice A193_0 ((rd_T66 l0 x34_2).f0).length c193_0, .slice A193_1 ((rd_T66 l0 x34_2).f1).length c193_1] 66 (0, 0)) (bkq BK194.out)) : gb213 ≠ gb194)); have n18_ := Aside0.mk ((by rw [hg]; exact Nat.ne_of_lt (blk_lt (g := gb201) (o := .cells #[.slice A200_0 ((rd_T66 y195 x44_3).f0).length c200_0, .slice A200_1 ((rd_T66 y195 x44_3).f1).length c200_1] 66 (0, 0)) (bkq BK201.out)) : gb201 ≠ gb213)); have n19_ := Aside0.mk ((by rw [hg]; exact Nat.ne_of_gt (blk_lt (g := gb201) (o := .cells #[.slice A200_0 ((rd_T66 y195 x44_3).f0).length c200_0, .slice A200_1 ((rd_T66 y195 x44_3).f1).length c200_1] 66 (0, 0)) (bkq BK201.out)) : gb213 ≠ gb201)); clear HO_0; clear HO_6; clear HO_32; clear HO_42; clear HO_195000; clear HO_195001; clear HO_202000; clear HO_202001; clear HO208; clear HO211; clear BK194; clear BK201; clear HB; have HO_0 := n0_; have HO_6 := n1_; have HO_32 := n2_; have HO_42 := n3_; have HO_195000 := n4_; have HO_195001 := n5_; have HO_202000 := n6_; have HO_202001 := n7_; have HO208 := n8_; have HO211 := n9_; have BK194 := n10_; have BK201 := n11_; have HB := n12_; have BK213 := n13_; have GW213 := n14_; have GE213 := n15_; have NB194_213 := n16_; have NB213_194 := n17_; have NB201_213 := n18_; have NB213_201 := n19_; clear n0_ n1_ n2_ n3_ n4_ n5_ n6_ n7_ n8_ n9_ n10_ n11_ n12_ n13_ n14_ n15_ n16_ n17_ n18_ n19_; clear hb hbox hg; obtain ⟨Ao71, co71, eo71⟩ := Kd.V_slice HO208.out; subst eo71; have hnb72 := NB213_194.out; have hnc72 := NB194_213.out; have hnb73 := NB213_201.out; have hnc73 := NB201_213.out; have hcz74_0 : w70.cell? ⟨gb213, 0, none⟩ = some (.slice none 0 0) := (blk_cell BK213.out 0).trans rfl; have hcz74_1 : w70.cell? ⟨gb213, 1, none⟩ = some (.slice none 0 0) := (blk_cell BK213.out 1).trans rfl; have hfz74_0 := blk_frozen BK213.out 0; have hfz74_1 := blk_frozen BK213.out 1; obtain ⟨Ao75, co75, eo75⟩ := Kd.V_slice HO211.out; subst eo75) | ((with_reducible refine gate_store (t := 66) (p := 13) rfl ?_); (try (rw [drewN_self w70]; generalize hq_ : World.drewN w70 _ = w70; have n0_ := Aside0.mk (Kd.V_at hq_ HO_0.out); have n1_ := Aside0.mk (Kd.N_at hq_ HO_6.out); have n2_ := Aside0.mk (Kd.V_at hq_ HO_32.out); have n3_ := Aside0.mk (Kd.V_at hq_ HO_42.out); have n4_ := Aside0.mk (Kd.V_at hq_ HO_195000.out); have n5_ := Aside0.mk (Kd.V_at hq_ HO_195001.out); have n6_ := Aside0.mk (Kd.V_at hq_ HO_202000.out); have n7_ := Aside0.mk (Kd.V_at hq_ HO_202001.out); have n8_ := Aside0.mk (Kd.V_at hq_ HO208.out); have n9_ := Aside0.mk (Kd.V_at hq_ HO211.out); have n10_ := Aside0.mk (blk_at hq_ BK194.out); have n11_ := Aside0.mk (blk_at hq_ BK201.out); have n12_ := Aside0.mk (blk_at hq_ BK213.out); have n13_ := Aside0.mk (below_at hq_ HB.out); clear hq_ HO_0 HO_6 HO_32 HO_42 HO_195000 HO_195001 HO_202000 HO_202001 HO208 HO211 BK194 BK201 BK213 HB; have HO_0 := n0_; have HO_6 := n1_; have HO_32 := n2_; have HO_42 := n3_; have HO_195000 := n4_; have HO_195001 := n5_; have HO_202000 := n6_; have HO_202001 := n7_; have HO208 := n8_; have HO211 := n9_; have BK194 := n10_; have BK201 := n11_; have BK213 := n12_; have HB := n13_; clear n0_ n1_ n2_ n3_ n4_ n5_ n6_ n7_ n8_ n9_ n10_ n11_ n12_ n13_)); refine store_event (t := 66) (p := 13) (v := ?vo_w76) (w1 := ((w70.setCell ⟨gb213, 0, none⟩ (.slice Ao71 t206.length co71)).setCell ⟨gb213, 1, none⟩ (.slice Ao75 t209.length co75))) ?hg ?ho ?hn ?hr ?_; (case ho => rfl); (case hg => rfl); (case hn => rfl); (case hr => first | (go_simp; done) | (go_simp; rfl)); intro w76 hw; have n0_ : Aside0 (Kd.V k66 66 w76 w.heap.size (fun k_ => (P0_ k_ ∨ w.heap.size ≤ k_) ∧ some k_ ≠ (u6 : Value).ownBlock ∧ k_ ≠ gb194 ∧ k_ ≠ gb201 ∧ k_ ≠ gb213) (.slice (some ad193) l0.length c0) l0) := ⟨(by rw [hw]; exact (by refine kq_V ?_; exact Kd.V_mono (Kd.V_far (p := ⟨gb213, 1, none⟩) (Kd.V_far (p := ⟨gb213, 0, none⟩) (Kd.V_mono HO_0.out (fun k_ hk => (⟨hk, hk.2⟩ : _ ∧ k_ ≠ gb213))) (fun _ hk => hk.2) (.slice Ao71 t206.length co71)) (fun _ hk => hk.2) (.slice Ao75 t209.length co75)) (fun _ hk => ⟨hk.1.1.1, ⟨hk.1.1.2.1, ⟨hk.1.1.2.2.1, ⟨hk.1.1.2.2.2, hk.1.2⟩⟩⟩⟩)))⟩; have n1_ : Aside0 (Kd.N k66 66 w76 w.heap.size (fun k_ => (P0_ k_ ∨ w.heap.size ≤ k_) ∧ k_ ≠ gb194 ∧ k_ ≠ gb201 ∧ k_ ≠ gb213) u6 x6_3) := ⟨(by rw [hw]; exact (by refine kq_N ?_; exact Kd.N_mono (Kd.N_far (p := ⟨gb213, 1, none⟩) (Kd.N_far (p := ⟨gb213, 0, none⟩) (Kd.N_mono HO_6.out (fun k_ hk => (⟨hk, hk.2⟩ : _ ∧ k_ ≠ gb213))) (fun _ hk => hk.2) (.slice Ao71 t206.length co71)) (fun _ hk => hk.2) (.slice Ao75 t209.length co75)) (fun _ hk => ⟨hk.1.1.1, ⟨hk.1.1.2.1, ⟨hk.1.1.2.2, hk.1.2⟩⟩⟩)))⟩; have n2_ : Aside0 (Kd.V k66 66 w76 w.heap.size (fun k_ => (P0_ k_ ∨ w.heap.size ≤ k_) ∧ some k_ ≠ (u6 : Value).ownBlock ∧ k_ ≠ gb194 ∧ k_ ≠ gb201 ∧ k_ ≠ gb213) (.slice (some ad193) l0.length c0) l0) := ⟨(by rw [hw]; exact (by refine kq_V ?_; exact Kd.V_mono (Kd.V_far (p := ⟨gb213, 1, none⟩) (Kd.V_far (p := ⟨gb213, 0, none⟩) (Kd.V_mono HO_32.out (fun k_ hk => (⟨hk, hk.2⟩ : _ ∧ k_ ≠ gb213))) (fun _ hk => hk.2) (.slice Ao71 t206.length co71)) (fun _ hk => hk.2) (.slice Ao75 t209.length co75)) (fun _ hk => ⟨hk.1.1.1, ⟨hk.1.1.2.1, ⟨hk.1.1.2.2.1, ⟨hk.1.1.2.2.2, hk.1.2⟩⟩⟩⟩)))⟩; have n3_ : Aside0 (Kd.V k66 66 w76 w.heap.size (fun k_ => (P0_ k_ ∨ w.heap.size ≤ k_) ∧ some k_ ≠ (u6 : Value).ownBlock ∧ k_ ≠ gb194 ∧ k_ ≠ gb201 ∧ k_ ≠ gb213) (.slice (some ad200) y195.length c26) y195) := ⟨(by rw [hw]; exact (by refine kq_V ?_; exact Kd.V_mono (Kd.V_far (p := ⟨gb213, 1, none⟩) (Kd.V_far (p := ⟨gb213, 0, none⟩) (Kd.V_mono HO_42.out (fun k_ hk => (⟨hk, hk.2⟩ : _ ∧ k_ ≠ gb213))) (fun _ hk => hk.2) (.slice Ao71 t206.length co71)) (fun _ hk => hk.2) (.slice Ao75 t209.length co75)) (fun _ hk => ⟨hk.1.1.1, ⟨hk.1.1.2.1, ⟨hk.1.1.2.2.1, ⟨hk.1.1.2.2.2, hk.1.2⟩⟩⟩⟩)))⟩; have n4_ : Aside0 (Kd.V (Kd.int .i64) 3 w76 w.heap.size (fun k_ => (P0_ k_ ∨ w.heap.size ≤ k_) ∧ some k_ ≠ (u6 : Value).ownBlock ∧ k_ ≠ gb194 ∧ k_ ≠ gb201 ∧ k_ ≠ gb213) (.slice A193_0 ((rd_T66 l0 x34_2).f0).length c193_0) ((rd_T66 l0 x34_2).f0)) := ⟨(by rw [hw]; exact (by refine kq_V ?_; exact Kd.V_mono (Kd.V_far (p := ⟨gb213, 1, none⟩) (Kd.V_far (p := ⟨gb213, 0, none⟩) (Kd.V_mono HO_195000.out (fun k_ hk => (⟨hk, hk.2⟩ : _ ∧ k_ ≠ gb213))) (fun _ hk => hk.2) (.slice Ao71 t206.length co71)) (fun _ hk => hk.2) (.slice Ao75 t209.length co75)) (fun _ hk => ⟨hk.1.1.1, ⟨hk.1.1.2.1, ⟨hk.1.1.2.2.1, ⟨hk.1.1.2.2.2, hk.1.2⟩⟩⟩⟩)))⟩; have n5_ : Aside0 (Kd.V (Kd.int .i64) 3 w76 w.heap.size (fun k_ => (P0_ k_ ∨ w.heap.size ≤ k_) ∧ some k_ ≠ (u6 : Value).ownBlock ∧ k_ ≠ gb194 ∧ k_ ≠ gb201 ∧ k_ ≠ gb213) (.slice A193_1 ((rd_T66 l0 x34_2).f1).length c193_1) ((rd_T66 l0 x34_2).f1)) := ⟨(by rw [hw]; exact (by refine kq_V ?_; exact Kd.V_mono (Kd.V_far (p := ⟨gb213, 1, none⟩) (Kd.V_far (p := ⟨gb213, 0, none⟩) (Kd.V_mono HO_195001.out (fun k_ hk => (⟨hk, hk.2⟩ : _ ∧ k_ ≠ gb213))) (fun _ hk => hk.2) (.slice Ao71 t206.length co71)) (fun _ hk => hk.2) (.slice Ao75 t209.length co75)) (fun _ hk => ⟨hk.1.1.1, ⟨hk.1.1.2.1, ⟨hk.1.1.2.2.1, ⟨hk.1.1.2.2.2, hk.1.2⟩⟩⟩⟩)))⟩; have n6_ : Aside0 (Kd.V (Kd.int .i64) 3 w76 w.heap.size (fun k_ => (P0_ k_ ∨ w.heap.size ≤ k_) ∧ some k_ ≠ (u6 : Value).ownBlock ∧ k_ ≠ gb194 ∧ k_ ≠ gb201 ∧ k_ ≠ gb213) (.slice A200_0 ((rd_T66 y195 x44_3).f0).length c200_0) ((rd_T66 y195 x44_3).f0)) := ⟨(by rw [hw]; exact (by refine kq_V ?_; exact Kd.V_mono (Kd.V_far (p := ⟨gb213, 1, none⟩) (Kd.V_far (p := ⟨gb213, 0, none⟩) (Kd.V_mono HO_202000.out (fun k_ hk => (⟨hk, hk.2⟩ : _ ∧ k_ ≠ gb213))) (fun _ hk => hk.2) (.slice Ao71 t206.length co71)) (fun _ hk => hk.2) (.slice Ao75 t209.length co75)) (fun _ hk => ⟨hk.1.1.1, ⟨hk.1.1.2.1, ⟨hk.1.1.2.2.1, ⟨hk.1.1.2.2.2, hk.1.2⟩⟩⟩⟩)))⟩; have n7_ : Aside0 (Kd.V (Kd.int .i64) 3 w76 w.heap.size (fun k_ => (P0_ k_ ∨ w.heap.size ≤ k_) ∧ some k_ ≠ (u6 : Value).ownBlock ∧ k_ ≠ gb194 ∧ k_ ≠ gb201 ∧ k_ ≠ gb213) (.slice A200_1 ((rd_T66 y195 x44_3).f1).length c200_1) ((rd_T66 y195 x44_3).f1)) := ⟨(by rw [hw]; exact (by refine kq_V ?_; exact Kd.V_mono (Kd.V_far (p := ⟨gb213, 1, none⟩) (Kd.V_far (p := ⟨gb213, 0, none⟩) (Kd.V_mono HO_202001.out (fun k_ hk => (⟨hk, hk.2⟩ : _ ∧ k_ ≠ gb213))) (fun _ hk => hk.2) (.slice Ao71 t206.length co71)) (fun _ hk => hk.2) (.slice Ao75 t209.length co75)) (fun _ hk => ⟨hk.1.1.1, ⟨hk.1.1.2.1, ⟨hk.1.1.2.2.1, ⟨hk.1.1.2.2.2, hk.1.2⟩⟩⟩⟩)))⟩; have n8_ : Aside0 (Kd.V (Kd.int .i64) 3 w76 w.heap.size (fun k_ => (P0_ k_ ∨ w.heap.size ≤ k_) ∧ some k_ ≠ (u6 : Value).ownBlock ∧ k_ ≠ gb194 ∧ k_ ≠ gb201 ∧ k_ ≠ gb213) (.slice Ao71 t206.length co71) t206) := ⟨(by rw [hw]; exact (by refine kq_V ?_; exact Kd.V_mono (Kd.V_far (p := ⟨gb213, 1, none⟩) (Kd.V_far (p := ⟨gb213, 0, none⟩) (Kd.V_mono HO208.out (fun k_ hk => (⟨hk, hk.2⟩ : _ ∧ k_ ≠ gb213))) (fun _ hk => hk.2) (.slice Ao71 t206.length co71)) (fun _ hk => hk.2) (.slice Ao75 t209.length co75)) (fun _ hk => ⟨hk.1.1.1, ⟨hk.1.1.2.1, ⟨hk.1.1.2.2.1, ⟨hk.1.1.2.2.2, hk.1.2⟩⟩⟩⟩)))⟩; have n9_ : Aside0 (Kd.V (Kd.int .i64) 3 w76 w.heap.size (fun k_ => (P0_ k_ ∨ w.heap.size ≤ k_) ∧ some k_ ≠ (u6 : Value).ownBlock ∧ k_ ≠ gb194 ∧ k_ ≠ gb201 ∧ k_ ≠ gb213) (.slice Ao75 t209.length co75) t209) := ⟨(by rw [hw]; exact (by refine kq_V ?_; exact Kd.V_mono (Kd.V_far (p := ⟨gb213, 1, none⟩) (Kd.V_far (p := ⟨gb213, 0, none⟩) (Kd.V_mono HO211.out (fun k_ hk => (⟨hk, hk.2⟩ : _ ∧ k_ ≠ gb213))) (fun _ hk => hk.2) (.slice Ao71 t206.length co71)) (fun _ hk => hk.2) (.slice Ao75 t209.length co75)) (fun _ hk => ⟨hk.1.1.1, ⟨hk.1.1.2.1, ⟨hk.1.1.2.2.1, ⟨hk.1.1.2.2.2, hk.1.2⟩⟩⟩⟩)))⟩; have n10_ : Aside0 (w76.heap[gb194]? = some (.cells #[.slice A193_0 ((rd_T66 l0 x34_2).f0).length c193_0, .slice A193_1 ((rd_T66 l0 x34_2).f1).length c193_1] 66 (0, 0))) := ⟨(by rw [hw]; exact (by refine bkq ?_; refine blk_far ?_ NB194_213.out _; refine bkq ?_; refine blk_far ?_ NB194_213.out _; refine bkq ?_; exact BK194.out))⟩; have n11_ : Aside0 (w76.heap[gb201]? = some (.cells #[.slice A200_0 ((rd_T66 y195 x44_3).f0).length c200_0, .slice A200_1 ((rd_T66 y195 x44_3).f1).length c200_1] 66 (0, 0))) := ⟨(by rw [hw]; exact (by refine bkq ?_; refine blk_far ?_ NB201_213.out _; refine bkq ?_; refine blk_far ?_ NB201_213.out _; refine bkq ?_; exact BK201.out))⟩; have n12_ : Aside0 (w76.heap[gb213]? = some (.cells #[.slice Ao71 t206.length co71, .slice Ao75 t209.length co75] 66 (0, 0))) := ⟨(by rw [hw]; exact (by refine bkq ?_; refine blk_put (cs := #[.slice Ao71 t206.length co71, .slice none 0 0]) ?_ 1 _ rfl; refine bkq ?_; refine blk_put (cs := #[.slice none 0 0, .slice none 0 0]) ?_ 0 _ rfl; refine bkq ?_; exact BK213.out))⟩; have n13_ : Aside0 (Below w.heap.size w w76) := ⟨(by rw [hw]; exact (hbq HB.out))⟩; clear hw; clear HO_0; clear HO_6; clear HO_32; clear HO_42; clear HO_195000; clear HO_195001; clear HO_202000; clear HO_202001; clear HO208; clear HO211; clear BK194; clear BK201; clear BK213; clear HB; have HO_0 := n0_; have HO_6 := n1_; have HO_32 := n2_; have HO_42 := n3_; have HO_195000 := n4_; have HO_195001 := n5_; have HO_202000 := n6_; have HO_202001 := n7_; have HO208 := n8_; have HO211 := n9_; have BK194 := n10_; have BK201 := n11_; have BK213 := n12_; have HB := n13_; clear n0_ n1_ n2_ n3_ n4_ n5_ n6_ n7_ n8_ n9_ n10_ n11_ n12_ n13_; have hcz77_0 : w76.cell? ⟨gb213, 0, none⟩ = some (.slice Ao71 t206.length co71) := (blk_cell BK213.out 0).trans rfl; have hcz77_1 : w76.cell? ⟨gb213, 1, none⟩ = some (.slice Ao75 t209.length co75) := (blk_cell BK213.out 1).trans rfl; have hfz77_0 := blk_frozen BK213.out 0; have hfz77_1 := blk_frozen BK213.out 1) | ((with_reducible refine gate_builtin (b := .append) (xs := #[.tmp 86, .tmp 88]) rfl ?_); at_builtin; refine Kd.N_append k66 (w0 := w) w.heap.size rfl (.tmp 86) (.tmp 88) 63 66 (.agg #[(.slice none 0 0), (.slice none 0 0)]) 48 rfl Try.underlying63 info66 rfl (by decide) (by omega) u6 x6_3 (⟨t206, t209⟩ : S66) [.slice Ao71 t206.length co71, .slice Ao75 t209.length co75] (fun k_ => (P0_ k_ ∨ w.heap.size ≤ k_) ∧ k_ ≠ gb194 ∧ k_ ≠ gb201 ∧ k_ ≠ gb213) (fun k_ => ((fun k_ => (P0_ k_ ∨ w.heap.size ≤ k_) ∧ k_ ≠ gb194 ∧ k_ ≠ gb201 ∧ k_ ≠ gb213)) k_ ∧ some k_ ≠ (u6 : Value).ownBlock) rfl rfl ?aP (fun _ hk => hk) ?aF ?aO ?aB ?aS ?aL ?_; (case aP => exact (k66_mkF _ _ (⟨t206, t209⟩ : S66) (Kd.V_reads' (Kd.V_mono (ok' := (fun k_ => ((fun k_ => (P0_ k_ ∨ w.heap.size ≤ k_) ∧ k_ ≠ gb194 ∧ k_ ≠ gb201 ∧ k_ ≠ gb213)) k_ ∧ some k_ ≠ (u6 : Value).ownBlock)) (HO208.out) (fun k_ hk => ⟨⟨hk.1, ⟨hk.2.2.1, ⟨hk.2.2.2.1, hk.2.2.2.2⟩⟩⟩, hk.2.1⟩))).2.1 (Kd.V_F (Kd.V_mono (ok' := (fun k_ => ((fun k_ => (P0_ k_ ∨ w.heap.size ≤ k_) ∧ k_ ≠ gb194 ∧ k_ ≠ gb201 ∧ k_ ≠ gb213)) k_ ∧ some k_ ≠ (u6 : Value).ownBlock)) (HO208.out) (fun k_ hk => ⟨⟨hk.1, ⟨hk.2.2.1, ⟨hk.2.2.2.1, hk.2.2.2.2⟩⟩⟩, hk.2.1⟩))) (Kd.V_reads' (Kd.V_mono (ok' := (fun k_ => ((fun k_ => (P0_ k_ ∨ w.heap.size ≤ k_) ∧ k_ ≠ gb194 ∧ k_ ≠ gb201 ∧ k_ ≠ gb213)) k_ ∧ some k_ ≠ (u6 : Value).ownBlock)) (HO211.out) (fun k_ hk => ⟨⟨hk.1, ⟨hk.2.2.1, ⟨hk.2.2.2.1, hk.2.2.2.2⟩⟩⟩, hk.2.1⟩))).2.1 (Kd.V_F (Kd.V_mono (ok' := (fun k_ => ((fun k_ => (P0_ k_ ∨ w.heap.size ≤ k_) ∧ k_ ≠ gb194 ∧ k_ ≠ gb201 ∧ k_ ≠ gb213)) k_ ∧ some k_ ≠ (u6 : Value).ownBlock)) (HO211.out) (fun k_ hk => ⟨⟨hk.1, ⟨hk.2.2.1, ⟨hk.2.2.2.1, hk.2.2.2.2⟩⟩⟩, hk.2.1⟩))))); (case aB => exact (hbq HB.out)); (case aF => exact (fun k_ hk => ⟨(.inr (Nat.le_trans (below_size (hbq HB.out)) hk)), Kd.freshB (g := gb194) (o := .cells #[.slice A193_0 ((rd_T66 l0 x34_2).f0).length c193_0, .slice A193_1 ((rd_T66 l0 x34_2).f1).length c193_1] 66 (0, 0)) (bkq BK194.out) k_ hk, Kd.freshB (g := gb201) (o := .cells #[.slice A200_0 ((rd_T66 y195 x44_3).f0).length c200_0, .slice A200_1 ((rd_T66 y195 x44_3).f1).length c200_1] 66 (0, 0)) (bkq BK201.out) k_ hk, Kd.freshB (g := gb213) (o := .cells #[.slice Ao71 t206.length co71, .slice Ao75 t209.length co75] 66 (0, 0)) (bkq BK213.out) k_ hk⟩)); (case aO => exact (kq_N HO_6.out)); (case aS => exact (below_size (hbq HB.out))); (case aL => have := LMc50.out; omega); intro v215 w78 ho hb hg hat; rw [← Ny214.out] at ho; have n0_ := Aside0.mk (Kd.V_afterv (ok := (fun k_ => (P0_ k_ ∨ w.heap.size ≤ k_) ∧ k_ ≠ gb194 ∧ k_ ≠ gb201 ∧ k_ ≠ gb213)) (by refine kq_V ?_; exact Kd.V_mono HO_0.out (fun _ hk => ⟨⟨hk.1, ⟨hk.2.2.1, ⟨hk.2.2.2.1, hk.2.2.2.2⟩⟩⟩, hk.2.1⟩)) hg hat); have n1_ := Aside0.mk (Kd.V_afterv (ok := (fun k_ => (P0_ k_ ∨ w.heap.size ≤ k_) ∧ k_ ≠ gb194 ∧ k_ ≠ gb201 ∧ k_ ≠ gb213)) (by refine kq_V ?_; exact Kd.V_mono HO_32.out (fun _ hk => ⟨⟨hk.1, ⟨hk.2.2.1, ⟨hk.2.2.2.1, hk.2.2.2.2⟩⟩⟩, hk.2.1⟩)) hg hat); have n2_ := Aside0.mk (Kd.V_afterv (ok := (fun k_ => (P0_ k_ ∨ w.heap.size ≤ k_) ∧ k_ ≠ gb194 ∧ k_ ≠ gb201 ∧ k_ ≠ gb213)) (by refine kq_V ?_; exact Kd.V_mono HO_42.out (fun _ hk => ⟨⟨hk.1, ⟨hk.2.2.1, ⟨hk.2.2.2.1, hk.2.2.2.2⟩⟩⟩, hk.2.1⟩)) hg hat); have n3_ := Aside0.mk (Kd.V_afterv (ok := (fun k_ => (P0_ k_ ∨ w.heap.size ≤ k_) ∧ k_ ≠ gb194 ∧ k_ ≠ gb201 ∧ k_ ≠ gb213)) (by refine kq_V ?_; exact Kd.V_mono HO_195000.out (fun _ hk => ⟨⟨hk.1, ⟨hk.2.2.1, ⟨hk.2.2.2.1, hk.2.2.2.2⟩⟩⟩, hk.2.1⟩)) hg hat); have n4_ := Aside0.mk (Kd.V_afterv (ok := (fun k_ => (P0_ k_ ∨ w.heap.size ≤ k_) ∧ k_ ≠ gb194 ∧ k_ ≠ gb201 ∧ k_ ≠ gb213)) (by refine kq_V ?_; exact Kd.V_mono HO_195001.out (fun _ hk => ⟨⟨hk.1, ⟨hk.2.2.1, ⟨hk.2.2.2.1, hk.2.2.2.2⟩⟩⟩, hk.2.1⟩)) hg hat); have n5_ := Aside0.mk (Kd.V_afterv (ok := (fun k_ => (P0_ k_ ∨ w.heap.size ≤ k_) ∧ k_ ≠ gb194 ∧ k_ ≠ gb201 ∧ k_ ≠ gb213)) (by refine kq_V ?_; exact Kd.V_mono HO_202000.out (fun _ hk => ⟨⟨hk.1, ⟨hk.2.2.1, ⟨hk.2.2.2.1, hk.2.2.2.2⟩⟩⟩, hk.2.1⟩)) hg hat); have n6_ := Aside0.mk (Kd.V_afterv (ok := (fun k_ => (P0_ k_ ∨ w.heap.size ≤ k_) ∧ k_ ≠ gb194 ∧ k_ ≠ gb201 ∧ k_ ≠ gb213)) (by refine kq_V ?_; exact Kd.V_mono HO_202001.out (fun _ hk => ⟨⟨hk.1, ⟨hk.2.2.1, ⟨hk.2.2.2.1, hk.2.2.2.2⟩⟩⟩, hk.2.1⟩)) hg hat); have n7_ := Aside0.mk (blk_grown (g := gb194) (o := .cells #[.slice A193_0 ((rd_T66 l0 x34_2).f0).length c193_0, .slice A193_1 ((rd_T66 l0 x34_2).f1).length c193_1] 66 (0, 0)) (bkq BK194.out) hg (Kd.N_away HO_6.out (fun _ hk => hk.2.1))); have n8_ := Aside0.mk (blk_grown (g := gb201) (o := .cells #[.slice A200_0 ((rd_T66 y195 x44_3).f0).length c200_0, .slice A200_1 ((rd_T66 y195 x44_3).f1).length c200_1] 66 (0, 0)) (bkq BK201.out) hg (Kd.N_away HO_6.out (fun _ hk => hk.2.2.1))); have n9_ := Aside0.mk (Kd.V_afterv (ok := (fun k_ => (P0_ k_ ∨ w.heap.size ≤ k_) ∧ k_ ≠ gb194 ∧ k_ ≠ gb201 ∧ k_ ≠ gb213)) (by refine kq_V ?_; exact Kd.V_mono HO208.out (fun _ hk => ⟨⟨hk.1, ⟨hk.2.2.1, ⟨hk.2.2.2.1, hk.2.2.2.2⟩⟩⟩, hk.2.1⟩)) hg hat); have n10_ := Aside0.mk (Kd.V_afterv (ok := (fun k_ => (P0_ k_ ∨ w.heap.size ≤ k_) ∧ k_ ≠ gb194 ∧ k_ ≠ gb201 ∧ k_ ≠ gb213)) (by refine kq_V ?_; exact Kd.V_mono HO211.out (fun _ hk => ⟨⟨hk.1, ⟨hk.2.2.1, ⟨hk.2.2.2.1, hk.2.2.2.2⟩⟩⟩, hk.2.1⟩)) hg hat); have n11_ := Aside0.mk (blk_grown (g := gb213) (o := .cells #[.slice Ao71 t206.length co71, .slice Ao75 t209.length co75] 66 (0, 0)) (bkq BK213.out) hg (Kd.N_away HO_6.out (fun _ hk => hk.2.2.2))); have n12_ := Aside0.mk (hb); have n13_ := Aside0.mk (ho); clear HO_0; clear HO_32; clear HO_42; clear HO_195000; clear HO_195001; clear HO_202000; clear HO_202001; clear BK194; clear BK201; clear HO208; clear HO211; clear BK213; clear HB; clear HO_6; have HO_0 := n0_; have HO_32 := n1_; have HO_42 := n2_; have HO_195000 := n3_; have HO_195001 := n4_; have HO_202000 := n5_; have HO_202001 := n6_; have BK194 := n7_; have BK201 := n8_; have HO208 := n9_; have HO211 := n10_; have BK213 := n11_; have HB := n12_; have HO216 := n13_; clear n0_ n1_ n2_ n3_ n4_ n5_ n6_ n7_ n8_ n9_ n10_ n11_ n12_ n13_; clear ho hb hg hat; obtain ⟨Ao79, co79, eo79⟩ := Kd.N_slice HO216.out; subst eo79)))
        go_roundg kj29
        case measure => have := HK1.out; have := HK2.out; have := HK3.out; have := HJ29.out; omega
        case rel => exact ⟨(y214), (wrap64 (x44_3 + 1)), (by first | rfl | (simp; done) | (simp [*]; done)), H', ⟨by have := HK1.out; have := HK2.out; have := HK3.out; have := HJ29.out; omega⟩, ⟨by refine kq_V ?_; exact Kd.V_mono HO_0.out (fun _ hk => ⟨hk.1.1, ⟨hk.2, hk.1.2.1⟩⟩)⟩, ⟨by refine kq_N ?_; exact Kd.N_mono HO216.out (fun _ hk => ⟨hk.1, hk.2.1⟩)⟩, ⟨by refine kq_V ?_; exact Kd.V_mono HO_32.out (fun _ hk => ⟨hk.1.1, ⟨hk.2, hk.1.2.1⟩⟩)⟩, ⟨by refine kq_V ?_; exact Kd.V_mono HO_42.out (fun _ hk => ⟨hk.1.1, ⟨hk.2, hk.1.2.1⟩⟩)⟩, ⟨by refine kq_V ?_; exact Kd.V_mono HO_195000.out (fun _ hk => ⟨hk.1.1, ⟨hk.2, hk.1.2.1⟩⟩)⟩, ⟨by refine kq_V ?_; exact Kd.V_mono HO_195001.out (fun _ hk => ⟨hk.1.1, ⟨hk.2, hk.1.2.1⟩⟩)⟩, ⟨by refine bkq ?_; exact BK194.out⟩, ⟨hbq HB.out⟩⟩
       replace c49 := Bool.eq_false_iff.mpr c49
       subst c49
       have H1 : (some (([] : List (S66)), 3)) = some (r1, r2) := by rw [if_neg (show ¬ (false = true) by decide)] at H; exact H
       clear H
       have H := H1
       clear H1
       simp only [Option.some.injEq, Prod.mk.injEq] at H
       obtain ⟨rfl, rfl⟩ := H
       have hnb80 := NB194_201.out
       have hnc80 := NB201_194.out
       have hcz81_0 : wc.cell? ⟨gb194, 0, none⟩ = some (.slice A193_0 ((rd_T66 l0 x34_2).f0).length c193_0) := (blk_cell BK194.out 0).trans rfl
       have hcz81_1 : wc.cell? ⟨gb194, 1, none⟩ = some (.slice A193_1 ((rd_T66 l0 x34_2).f1).length c193_1) := (blk_cell BK194.out 1).trans rfl
       have hfz81_0 := blk_frozen BK194.out 0
       have hfz81_1 := blk_frozen BK194.out 1
       have hcz82_0 : wc.cell? ⟨gb201, 0, none⟩ = some (.slice A200_0 ((rd_T66 y195 x44_3).f0).length c200_0) := (blk_cell BK201.out 0).trans rfl
       have hcz82_1 : wc.cell? ⟨gb201, 1, none⟩ = some (.slice A200_1 ((rd_T66 y195 x44_3).f1).length c200_1) := (blk_cell BK201.out 1).trans rfl
       have hfz82_0 := blk_frozen BK201.out 0
       have hfz82_1 := blk_frozen BK201.out 1
       iterate 3 ((try go_quiet (first | (go_at_call 34; (with_reducible refine (basis_join.calls kj29 _ _ ((rd_T66 l0 x34_2).f0) _ _ ((rd_T66 l0 x34_2).f1) _ _ ((rd_T66 y195 x44_3).f0) _ _ ((rd_T66 y195 x44_3).f1) a1 t206 t209 false _ ?side1 ?side2 ?side3 ?side4 ?side5 ?side6 ?side7 ?side8 A48.out).mono ?_); (case side1 => repeat (first | exact (Kd.V_reads' HO_195000.out).2.2 | (with_reducible refine Kd.C_alloc ?_ _) | (with_reducible refine Kd.C_drewN ?_ _) | (with_reducible refine Kd.C_drew ?_))); (case side2 => exact (Kd.V_reads' HO_195000.out).2.1); (case side3 => repeat (first | exact (Kd.V_reads' HO_195001.out).2.2 | (with_reducible refine Kd.C_alloc ?_ _) | (with_reducible refine Kd.C_drewN ?_ _) | (with_reducible refine Kd.C_drew ?_))); (case side4 => exact (Kd.V_reads' HO_195001.out).2.1); (case side5 => repeat (first | exact (Kd.V_reads' HO_202000.out).2.2 | (with_reducible refine Kd.C_alloc ?_ _) | (with_reducible refine Kd.C_drewN ?_ _) | (with_reducible refine Kd.C_drew ?_))); (case side6 => exact (Kd.V_reads' HO_202000.out).2.1); (case side7 => repeat (first | exact (Kd.V_reads' HO_202001.out).2.2 | (with_reducible refine Kd.C_alloc ?_ _) | (with_reducible refine Kd.C_drewN ?_ _) | (with_reducible refine Kd.C_drew ?_))); (case side8 => exact (Kd.V_reads' HO_202001.out).2.1); rintro e w83 ⟨v207, v210, rfl, ho0, ho1, hb⟩; have n0_ := Aside0.mk (Kd.V_below (kq_V HO_0.out) hb); have n1_ := Aside0.mk (Kd.N_below (kq_N HO_6.out) hb); have n2_ := Aside0.mk (Kd.V_below (kq_V HO_32.out) hb); have n3_ := Aside0.mk (Kd.V_below (kq_V HO_42.out) hb); have n4_ := Aside0.mk (Kd.V_below (kq_V HO_195000.out) hb); have n5_ := Aside0.mk (Kd.V_below (kq_V HO_195001.out) hb); have n6_ := Aside0.mk (Kd.V_below (kq_V HO_202000.out) hb); have n7_ := Aside0.mk (Kd.V_below (kq_V HO_202001.out) hb); have n8_ := Aside0.mk (Kd.V_lower (Kd.V_mono (ok' := fun k_ => (P0_ k_ ∨ w.heap.size ≤ k_) ∧ some k_ ≠ (u6 : Value).ownBlock ∧ k_ ≠ gb194 ∧ k_ ≠ gb201) ho0 (fun k_ hk_ => ⟨(.inr (Nat.le_trans (below_size (hbq HB.out)) hk_)), (Kd.fresh' (Kd.N_lt (kq_N HO_6.out)) k_ hk_), (Kd.freshB (g := gb194) (o := .cells #[.slice A193_0 ((rd_T66 l0 x34_2).f0).length c193_0, .slice A193_1 ((rd_T66 l0 x34_2).f1).length c193_1] 66 (0, 0)) (bkq BK194.out) k_ hk_), (Kd.freshB (g := gb201) (o := .cells #[.slice A200_0 ((rd_T66 y195 x44_3).f0).length c200_0, .slice A200_1 ((rd_T66 y195 x44_3).f1).length c200_1] 66 (0, 0)) (bkq BK201.out) k_ hk_)⟩)) (below_size (hbq HB.out))); have n9_ := Aside0.mk (Kd.V_lower (Kd.V_mono (ok' := fun k_ => (P0_ k_ ∨ w.heap.size ≤ k_) ∧ some k_ ≠ (u6 : Value).ownBlock ∧ k_ ≠ gb194 ∧ k_ ≠ gb201) ho1 (fun k_ hk_ => ⟨(.inr (Nat.le_trans (below_size (hbq HB.out)) hk_)), (Kd.fresh' (Kd.N_lt (kq_N HO_6.out)) k_ hk_), (Kd.freshB (g := gb194) (o := .cells #[.slice A193_0 ((rd_T66 l0 x34_2).f0).length c193_0, .slice A193_1 ((rd_T66 l0 x34_2).f1).length c193_1] 66 (0, 0)) (bkq BK194.out) k_ hk_), (Kd.freshB (g := gb201) (o := .cells #[.slice A200_0 ((rd_T66 y195 x44_3).f0).length c200_0, .slice A200_1 ((rd_T66 y195 x44_3).f1).length c200_1] 66 (0, 0)) (bkq BK201.out) k_ hk_)⟩)) (below_size (hbq HB.out))); have n10_ := Aside0.mk (blk_below (g := gb194) (o := .cells #[.slice A193_0 ((rd_T66 l0 x34_2).f0).length c193_0, .slice A193_1 ((rd_T66 l0 x34_2).f1).length c193_1] 66 (0, 0)) (bkq BK194.out) hb); have n11_ := Aside0.mk (blk_below (g := gb201) (o := .cells #[.slice A200_0 ((rd_T66 y195 x44_3).f0).length c200_0, .slice A200_1 ((rd_T66 y195 x44_3).f1).length c200_1] 66 (0, 0)) (bkq BK201.out) hb); have n12_ := Aside0.mk (below_step (hbq HB.out) hb); clear HO_0; clear HO_6; clear HO_32; clear HO_42; clear HO_195000; clear HO_195001; clear HO_202000; clear HO_202001; clear BK194; clear BK201; clear HB; have HO_0 := n0_; have HO_6 := n1_; have HO_32 := n2_; have HO_42 := n3_; have HO_195000 := n4_; have HO_195001 := n5_; have HO_202000 := n6_; have HO_202001 := n7_; have HO208 := n8_; have HO211 := n9_; have BK194 := n10_; have BK201 := n11_; have HB := n12_; clear n0_ n1_ n2_ n3_ n4_ n5_ n6_ n7_ n8_ n9_ n10_ n11_ n12_; (try clear hb); (try clear hb2); (try clear hk); (try clear hi); (try clear ho0); (try clear ho1)))); go_wp2_with (first | (go_at_call 34; (with_reducible refine (basis_join.calls kj29 _ _ ((rd_T66 l0 x34_2).f0) _ _ ((rd_T66 l0 x34_2).f1) _ _ ((rd_T66 y195 x44_3).f0) _ _ ((rd_T66 y195 x44_3).f1) a1 t206 t209 false _ ?side1 ?side2 ?side3 ?side4 ?side5 ?side6 ?side7 ?side8 A48.out).mono ?_); (case side1 => repeat (first | exact (Kd.V_reads' HO_195000.out).2.2 | (with_reducible refine Kd.C_alloc ?_ _) | (with_reducible refine Kd.C_drewN ?_ _) | (with_reducible refine Kd.C_drew ?_))); (case side2 => exact (Kd.V_reads' HO_195000.out).2.1); (case side3 => repeat (first | exact (Kd.V_reads' HO_195001.out).2.2 | (with_reducible refine Kd.C_alloc ?_ _) | (with_reducible refine Kd.C_drewN ?_ _) | (with_reducible refine Kd.C_drew ?_))); (case side4 => exact (Kd.V_reads' HO_195001.out).2.1); (case side5 => repeat (first | exact (Kd.V_reads' HO_202000.out).2.2 | (with_reducible refine Kd.C_alloc ?_ _) | (with_reducible refine Kd.C_drewN ?_ _) | (with_reducible refine Kd.C_drew ?_))); (case side6 => exact (Kd.V_reads' HO_202000.out).2.1); (case side7 => repeat (first | exact (Kd.V_reads' HO_202001.out).2.2 | (with_reducible refine Kd.C_alloc ?_ _) | (with_reducible refine Kd.C_drewN ?_ _) | (with_reducible refine Kd.C_drew ?_))); (case side8 => exact (Kd.V_reads' HO_202001.out).2.1); rintro e w83 ⟨v207, v210, rfl, ho0, ho1, hb⟩; have n0_ := Aside0.mk (Kd.V_below (kq_V HO_0.out) hb); have n1_ := Aside0.mk (Kd.N_below (kq_N HO_6.out) hb); have n2_ := Aside0.mk (Kd.V_below (kq_V HO_32.out) hb); have n3_ := Aside0.mk (Kd.V_below (kq_V HO_42.out) hb); have n4_ := Aside0.mk (Kd.V_below (kq_V HO_195000.out) hb); have n5_ := Aside0.mk (Kd.V_below (kq_V HO_195001.out) hb); have n6_ := Aside0.mk (Kd.V_below (kq_V HO_202000.out) hb); have n7_ := Aside0.mk (Kd.V_below (kq_V HO_202001.out) hb); have n8_ := Aside0.mk (Kd.V_lower (Kd.V_mono (ok' := fun k_ => (P0_ k_ ∨ w.heap.size ≤ k_) ∧ some k_ ≠ (u6 : Value).ownBlock ∧ k_ ≠ gb194 ∧ k_ ≠ gb201) ho0 (fun k_ hk_ => ⟨(.inr (Nat.le_trans (below_size (hbq HB.out)) hk_)), (Kd.fresh' (Kd.N_lt (kq_N HO_6.out)) k_ hk_), (Kd.freshB (g := gb194) (o := .cells #[.slice A193_0 ((rd_T66 l0 x34_2).f0).length c193_0, .slice A193_1 ((rd_T66 l0 x34_2).f1).length c193_1] 66 (0, 0)) (bkq BK194.out) k_ hk_), (Kd.freshB (g := gb201) (o := .cells #[.slice A200_0 ((rd_T66 y195 x44_3).f0).length c200_0, .slice A200_1 ((rd_T66 y195 x44_3).f1).length c200_1] 66 (0, 0)) (bkq BK201.out) k_ hk_)⟩)) (below_size (hbq HB.out))); have n9_ := Aside0.mk (Kd.V_lower (Kd.V_mono (ok' := fun k_ => (P0_ k_ ∨ w.heap.size ≤ k_) ∧ some k_ ≠ (u6 : Value).ownBlock ∧ k_ ≠ gb194 ∧ k_ ≠ gb201) ho1 (fun k_ hk_ => ⟨(.inr (Nat.le_trans (below_size (hbq HB.out)) hk_)), (Kd.fresh' (Kd.N_lt (kq_N HO_6.out)) k_ hk_), (Kd.freshB (g := gb194) (o := .cells #[.slice A193_0 ((rd_T66 l0 x34_2).f0).length c193_0, .slice A193_1 ((rd_T66 l0 x34_2).f1).length c193_1] 66 (0, 0)) (bkq BK194.out) k_ hk_), (Kd.freshB (g := gb201) (o := .cells #[.slice A200_0 ((rd_T66 y195 x44_3).f0).length c200_0, .slice A200_1 ((rd_T66 y195 x44_3).f1).length c200_1] 66 (0, 0)) (bkq BK201.out) k_ hk_)⟩)) (below_size (hbq HB.out))); have n10_ := Aside0.mk (blk_below (g := gb194) (o := .cells #[.slice A193_0 ((rd_T66 l0 x34_2).f0).length c193_0, .slice A193_1 ((rd_T66 l0 x34_2).f1).length c193_1] 66 (0, 0)) (bkq BK194.out) hb); have n11_ := Aside0.mk (blk_below (g := gb201) (o := .cells #[.slice A200_0 ((rd_T66 y195 x44_3).f0).length c200_0, .slice A200_1 ((rd_T66 y195 x44_3).f1).length c200_1] 66 (0, 0)) (bkq BK201.out) hb); have n12_ := Aside0.mk (below_step (hbq HB.out) hb); clear HO_0; clear HO_6; clear HO_32; clear HO_42; clear HO_195000; clear HO_195001; clear HO_202000; clear HO_202001; clear BK194; clear BK201; clear HB; have HO_0 := n0_; have HO_6 := n1_; have HO_32 := n2_; have HO_42 := n3_; have HO_195000 := n4_; have HO_195001 := n5_; have HO_202000 := n6_; have HO_202001 := n7_; have HO208 := n8_; have HO211 := n9_; have BK194 := n10_; have BK201 := n11_; have HB := n12_; clear n0_ n1_ n2_ n3_ n4_ n5_ n6_ n7_ n8_ n9_ n10_ n11_ n12_; (try clear hb); (try clear hb2); (try clear hk); (try clear hi); (try clear ho0); (try clear ho1)) | ((with_reducible refine gate_dst (N := 13) rfl ?_); refine box_event ?hg (N := 13) ?hd (cs := #[.slice none 0 0, .slice none 0 0]) (t := 66) ?hr ?_; (case hd => rfl); (case hg => rfl); (case hr => first | (go_simp; done) | (go_simp; rfl)); intro gb213 hg w84 hbox hb; have n0_ := Aside0.mk (Kd.V_below (Kd.V_elderB (kq_V HO_0.out) gb213 (Nat.le_of_eq hg.symm)) hb); have n1_ := Aside0.mk (Kd.N_below (Kd.N_elderB (kq_N HO_6.out) gb213 (Nat.le_of_eq hg.symm)) hb); have n2_ := Aside0.mk (Kd.V_below (Kd.V_elderB (kq_V HO_32.out) gb213 (Nat.le_of_eq hg.symm)) hb); have n3_ := Aside0.mk (Kd.V_below (Kd.V_elderB (kq_V HO_42.out) gb213 (Nat.le_of_eq hg.symm)) hb); have n4_ := Aside0.mk (Kd.V_below (Kd.V_elderB (kq_V HO_195000.out) gb213 (Nat.le_of_eq hg.symm)) hb); have n5_ := Aside0.mk (Kd.V_below (Kd.V_elderB (kq_V HO_195001.out) gb213 (Nat.le_of_eq hg.symm)) hb); have n6_ := Aside0.mk (Kd.V_below (Kd.V_elderB (kq_V HO_202000.out) gb213 (Nat.le_of_eq hg.symm)) hb); have n7_ := Aside0.mk (Kd.V_below (Kd.V_elderB (kq_V HO_202001.out) gb213 (Nat.le_of_eq hg.symm)) hb); have n8_ := Aside0.mk (Kd.V_below (Kd.V_elderB (kq_V HO208.out) gb213 (Nat.le_of_eq hg.symm)) hb); have n9_ := Aside0.mk (Kd.V_below (Kd.V_elderB (kq_V HO211.out) gb213 (Nat.le_of_eq hg.symm)) hb); have n10_ := Aside0.mk (blk_below (g := gb194) (o := .cells #[.slice A193_0 ((rd_T66 l0 x34_2).f0).length c193_0, .slice A193_1 ((rd_T66 l0 x34_2).f1).length c193_1] 66 (0, 0)) (bkq BK194.out) hb); have n11_ := Aside0.mk (blk_below (g := gb201) (o := .cells #[.slice A200_0 ((rd_T66 y195 x44_3).f0).length c200_0, .slice A200_1 ((rd_T66 y195 x44_3).f1).length c200_1] 66 (0, 0)) (bkq BK201.out) hb); have n12_ := Aside0.mk (below_step (hbq HB.out) hb); have n13_ := Aside0.mk (hbox); have n14_ := Aside0.mk ((by rw [hg]; exact (below_size (hbq HB.out)) : w.heap.size ≤ gb213)); have n15_ := Aside0.mk ((by rw [hg]; exact (below_size (hbq HB.out)) : w.heap.size ≤ gb213)); have n16_ := Aside0.mk ((by rw [hg]; exact Nat.ne_of_lt (blk_lt (g := gb194) (o := .cells #[.slice A193_0 ((rd_T66 l0 x34_2).f0).length c193_0, .slice A193_1 ((rd_T66 l0 x34_2).f1).length c193_1] 66 (0, 0)) (bkq BK194.out)) : gb194 ≠ gb213)); have n17_ := Aside0.mk ((by rw [hg]; exact Nat.ne_of_gt (blk_lt (g := gb194) (o := .cells #[.slice A193_0 ((rd_T66 l0 x34_2).f0).length c193_0, .slice A193_1 ((rd_T66 l0 x34_2).f1).length c193_1] 66 (0, 0)) (bkq BK194.out)) : gb213 ≠ gb194)); have n18_ := Aside0.mk ((by rw [hg]; exact Nat.ne_of_lt (blk_lt (g := gb201) (o := .cells #[.slice A200_0 ((rd_T66 y195 x44_3).f0).length c200_0, .slice A200_1 ((rd_T66 y195 x44_3).f1).length c200_1] 66 (0, 0)) (bkq BK201.out)) : gb201 ≠ gb213)); have n19_ := Aside0.mk ((by rw [hg]; exact Nat.ne_of_gt (blk_lt (g := gb201) (o := .cells #[.slice A200_0 ((rd_T66 y195 x44_3).f0).length c200_0, .slice A200_1 ((rd_T66 y195 x44_3).f1).length c200_1] 66 (0, 0)) (bkq BK201.out)) : gb213 ≠ gb201)); clear HO_0; clear HO_6; clear HO_32; clear HO_42; clear HO_195000; clear HO_195001; clear HO_202000; clear HO_202001; clear HO208; clear HO211; clear BK194; clear BK201; clear HB; have HO_0 := n0_; have HO_6 := n1_; have HO_32 := n2_; have HO_42 := n3_; have HO_195000 := n4_; have HO_195001 := n5_; have HO_202000 := n6_; have HO_202001 := n7_; have HO208 := n8_; have HO211 := n9_; have BK194 := n10_; have BK201 := n11_; have HB := n12_; have BK213 := n13_; have GW213 := n14_; have GE213 := n15_; have NB194_213 := n16_; have NB213_194 := n17_; have NB201_213 := n18_; have NB213_201 := n19_; clear n0_ n1_ n2_ n3_ n4_ n5_ n6_ n7_ n8_ n9_ n10_ n11_ n12_ n13_ n14_ n15_ n16_ n17_ n18_ n19_; clear hb hbox hg; obtain ⟨Ao85, co85, eo85⟩ := Kd.V_slice HO208.out; subst eo85; have hnb86 := NB213_194.out; have hnc86 := NB194_213.out; have hnb87 := NB213_201.out; have hnc87 := NB201_213.out; have hcz88_0 : w84.cell? ⟨gb213, 0, none⟩ = some (.slice none 0 0) := (blk_cell BK213.out 0).trans rfl; have hcz88_1 : w84.cell? ⟨gb213, 1, none⟩ = some (.slice none 0 0) := (blk_cell BK213.out 1).trans rfl; have hfz88_0 := blk_frozen BK213.out 0; have hfz88_1 := blk_frozen BK213.out 1; obtain ⟨Ao89, co89, eo89⟩ := Kd.V_slice HO211.out; subst eo89)))
       go_ret2
       exact ⟨_, by first | rfl | (simp [errW_none, errW_some] <;> rfl) | (simp only [← hji20]; first | rfl | (simp [errW_none, errW_some] <;> rfl)) | (simp [*, errW_none, errW_some] <;> rfl), by first | exact Kd.S_nil _ _ _ _ _ | exact Kd.N_nil _ _ _ _ _ | exact Kd.V_nil _ _ _ _ _ | exact Kd.Q_nil _ _ _ _ _ | exact Kd.R_nil _ _ _ _ _, hbq HB.out⟩
     rw [if_neg c27] at H
     have c27b0 : decide (x44_3 < (y195.length : Int)) = false := decide_eq_false c27
     clear c27
     have H' := Aside0.mk H
     clear H
     go_wp2
     repeat (go_quiet (fail); try go_wp2)
     (try simp only [← hji20])
     (try simp only [← hji20] at H')
     go_roundg k3
     case measure => have := HK1.out; have := HK2.out; have := HK3.out; omega
     case rel => exact ⟨(x6_3), (wrap64 (x34_2 + 1)), (by first | rfl | (simp; done) | (simp [*]; done)), H', ⟨by have := HK1.out; have := HK2.out; have := HK3.out; omega⟩, ⟨by refine kq_V ?_; exact Kd.V_mono HO_0.out (fun _ hk => ⟨hk.1, hk.2.1⟩)⟩, ⟨by refine kq_N ?_; exact Kd.N_mono HO_6.out (fun _ hk => hk.1)⟩, ⟨by refine kq_V ?_; exact Kd.V_mono HO_32.out (fun _ hk => ⟨hk.1, hk.2.1⟩)⟩, ⟨hbq HB.out⟩⟩
   rw [if_neg c17] at H
   have c17b0 : decide (x34_2 < (l0.length : Int)) = false := decide_eq_false c17
   clear c17
   replace H := Option.bind_eq_some_iff.mp H
   obtain ⟨t190, A900, H⟩ := H
   replace H : (some (t190, 0)) = some (r1, r2) := H
   have A90 := Aside0.mk A900
   clear A900
   simp only [Option.some.injEq, Prod.mk.injEq] at H
   obtain ⟨rfl, rfl⟩ := H
   obtain ⟨Ao91, co91, eo91⟩ := Kd.N_slice HO_6.out
   subst eo91
   iterate 3 ((try go_quiet (first | (go_at_call 35; (with_reducible refine (basis_least.calls k2 (fun k_ => (P0_ k_ ∨ w.heap.size ≤ k_)) _ _ x6_2 t190 _ ?side1 A90.out).mono ?_); (case side1 => exact Kd.N_V (HO_6.out)); rintro e w92 ⟨v191, rfl, ho0, hb⟩; have n0_ := Aside0.mk (Kd.V_elder' (kq_V HO_0.out) (Kd.N_base ho0) hb); have n1_ := Aside0.mk (Kd.N_elder' (kq_N HO_6.out) (Kd.N_base ho0) hb); have n2_ := Aside0.mk (Kd.V_elder' (kq_V HO_32.out) (Kd.N_base ho0) hb); have n3_ := Aside0.mk (Kd.N_lower (Kd.N_mono (ok' := fun k_ => (P0_ k_ ∨ w.heap.size ≤ k_)) ho0 (fun k_ hk_ => Or.elim hk_ (fun hs_ => hs_) (fun hn_ => (.inr (Nat.le_trans (below_size (hbq HB.out)) hn_))))) (below_size (hbq HB.out))); have n4_ := Aside0.mk (below_step (hbq HB.out) hb); clear HO_0; clear HO_6; clear HO_32; clear HB; have HO_0 := n0_; have HO_6 := n1_; have HO_32 := n2_; have HO192 := n3_; have HB := n4_; clear n0_ n1_ n2_ n3_ n4_; (try clear hb); (try clear hb2); (try clear hk); (try clear hi); (try clear ho0)))); go_wp2_with (first | (go_at_call 35; (with_reducible refine (basis_least.calls k2 (fun k_ => (P0_ k_ ∨ w.heap.size ≤ k_)) _ _ x6_2 t190 _ ?side1 A90.out).mono ?_); (case side1 => exact Kd.N_V (HO_6.out)); rintro e w92 ⟨v191, rfl, ho0, hb⟩; have n0_ := Aside0.mk (Kd.V_elder' (kq_V HO_0.out) (Kd.N_base ho0) hb); have n1_ := Aside0.mk (Kd.N_elder' (kq_N HO_6.out) (Kd.N_base ho0) hb); have n2_ := Aside0.mk (Kd.V_elder' (kq_V HO_32.out) (Kd.N_base ho0) hb); have n3_ := Aside0.mk (Kd.N_lower (Kd.N_mono (ok' := fun k_ => (P0_ k_ ∨ w.heap.size ≤ k_)) ho0 (fun k_ hk_ => Or.elim hk_ (fun hs_ => hs_) (fun hn_ => (.inr (Nat.le_trans (below_size (hbq HB.out)) hn_))))) (below_size (hbq HB.out))); have n4_ := Aside0.mk (below_step (hbq HB.out) hb); clear HO_0; clear HO_6; clear HO_32; clear HB; have HO_0 := n0_; have HO_6 := n1_; have HO_32 := n2_; have HO192 := n3_; have HB := n4_; clear n0_ n1_ n2_ n3_ n4_; (try clear hb); (try clear hb2); (try clear hk); (try clear hi); (try clear ho0))))
   go_ret2
   exact ⟨_, by first | rfl | (simp [errW_none, errW_some] <;> rfl) | (simp [*, errW_none, errW_some] <;> rfl), by refine kq_N ?_; exact HO192.out, hbq HB.out⟩

end Go.Proofs.Ytifbflpaednfnaa.PBasisMore
