/- What the functions that this law reaches answer, in whatever memory, and the row of the law; no condition. Written by a program of this session (mk.sh). -/
import Derived.Test.YtifbflpaednfnaaPBasisMorex0
import Derived.Test.YtifbflpaednfnaaPBasisMorex1
namespace Go.Proofs.Ytifbflpaednfnaa.PBasisMore
open Go.RowKit Go.Proofs.YtifbflpaednfnaaW.PrintWords Go.Proofs.YtifbflpaednfnaaW.PrintLast Go.Proofs.YtifbflpaednfnaaW.PrintMore
attribute [local go_sem] max2_int min2_int max_two min_two max_three min_three max_four min_four   -- for this text's walks alone
set_option linter.unusedVariables false
set_option linter.unusedSimpArgs false

/-! ### whole_Mix: function 40 -/
def whole_Mix.l0 : Nat → Int → List Int → Int → List Int → List Int → Int → Int → Option (List Int × Bool)
 | 0, _, _, _, _, _, _, _ => none
 | k + 1, x0, x1, x2, x3, x10, x21, x22 => if x22 < x21 then (if 0 ≤ x22 then (if x22 < (x1.length : Int) then (if x22 < (x3.length : Int) then ((whole_Dot.f k (([x0, x2] : List Int)) (([rd x1 x22, rd x3 x22] : List Int))).bind fun bt125 => (if bt125.2 = true then (if bt125.1 = (-9223372036854775808) then (some (([] : List Int), false)) else (if x22 < (x10.length : Int) then (whole_Mix.l0 k x0 x1 x2 x3 (x10.set (x22 : Int).toNat bt125.1) x21 (wrap64 (x22 + 1))) else (none))) else (some (([] : List Int), false)))) else (none)) else (none)) else (none)) else (some (x10, true))
def whole_Mix.f (k : Nat) (a0 : Int) (l1 : List Int) (a2 : Int) (l3 : List Int) : Option (List Int × Bool) := if 0 ≤ (mn (l1.length : Int) (l3.length : Int)) then (if (mn (l1.length : Int) (l3.length : Int) : Int).toNat ≤ 35184372088832 then ((some (List.replicate (mn (l1.length : Int) (l3.length : Int) : Int).toNat 0 : List Int)).bind fun y114 => (whole_Mix.l0 k a0 l1 a2 l3 y114 (y114.length : Int) 0)) else (none)) else (none)
theorem whole_Mix.mono_l : ∀ k, (∀ y0 y1 y2 y3 y4 y5 y6, LeO (whole_Mix.l0 k y0 y1 y2 y3 y4 y5 y6) (whole_Mix.l0 (k + 1) y0 y1 y2 y3 y4 y5 y6))
 | 0 => fun _ _ _ _ _ _ _ r h => by simp [whole_Mix.l0] at h
 | k + 1 => by
  have ih0 := whole_Mix.mono_l k
  ·intro y0 y1 y2 y3 y4 y5 y6
   unfold whole_Mix.l0
   repeat' first
   | (with_reducible exact ih0 _ _ _ _ _ _ _)
   | (with_reducible exact whole_Dot.mono _ _ _)
   | (with_reducible exact LeO.refl _)
   | (with_reducible exact LeO.none _)
   | (with_reducible refine LeO.ite ?_ ?_)
   | (with_reducible refine LeO.bind ?_ (fun _ => ?_))
   | exact ih0 _ _ _ _ _ _ _
   | exact whole_Dot.mono _ _ _
   | exact LeO.none _
   | refine LeO.ite ?_ ?_
   | refine LeO.bind ?_ (fun _ => ?_)
theorem whole_Mix.mono : ∀ a0 a1 a2 a3 k, LeO (whole_Mix.f k a0 a1 a2 a3) (whole_Mix.f (k + 1) a0 a1 a2 a3) := by
 intro a0 a1 a2 a3 k
 have ih0 := whole_Mix.mono_l k
 unfold whole_Mix.f
 repeat' first
  | (with_reducible exact ih0 _ _ _ _ _ _ _)
  | (with_reducible exact whole_Dot.mono _ _ _)
  | (with_reducible exact LeO.refl _)
  | (with_reducible exact LeO.none _)
  | (with_reducible refine LeO.ite ?_ ?_)
  | (with_reducible refine LeO.bind ?_ (fun _ => ?_))
  | exact ih0 _ _ _ _ _ _ _
  | exact whole_Dot.mono _ _ _
  | exact LeO.none _
  | refine LeO.ite ?_ ?_
  | refine LeO.bind ?_ (fun _ => ?_)
def whole_Mix.T5 : Bool × List (List Nat × List Nat) := (true, [([], []), ([], []), ([0, 1], [0, 1]), ([], []), ([], []), ([3, 4], [3, 4]), ([5], [5]), ([], []), ([], []), ([7, 8], [7, 8]), ([9], [9]), ([6, 10], [6, 10]), ([2, 11], [2, 11]), ([12], [12]), ([13], [13]), ([13], [13]), ([14, 12, 0, 1, 2, 3, 4, 5, 6, 7, 8, 9, 10, 11, 12, 13, 14], [14]), ([15, 16, 0, 1, 2, 3, 4, 5, 6, 7, 8, 9, 10, 11, 12, 13, 14, 15, 16], [15])])
def whole_Mix.B5 : List Nat := [0, 0, 3, 0, 0, 24, 56, 0, 0, 384, 896, 2040, 4095, 8191, 16383, 16383, 32767, 131071]
theorem whole_Mix.tab5 : rtab .any (opsOf Try.f40 5) = whole_Mix.T5 := by kernel_rfl
theorem whole_Mix.bits5 : waitsOk whole_Mix.T5.2 whole_Mix.B5 = true := by kernel_rfl
set_option maxHeartbeats 8000000 in
set_option maxRecDepth 100000 in
theorem whole_Mix.calls (k : Nat) (a0 : Int) (A1 : Option Addr) (c1 : Nat) (l1 : List Int) (a2 : Int) (A3 : Option Addr) (c3 : Nat) (l3 : List Int) (r1 : List Int) (r2 : Bool) (w : World) (hr1 : Kd.C (Kd.int .i64) w A1 l1.length l1) (hc1 : l1.length ≤ c1) (hr3 : Kd.C (Kd.int .i64) w A3 l3.length l3) (hc3 : l3.length ≤ c3) (h : whole_Mix.f k a0 l1 a2 l3 = some (r1, r2)) :
 Calls Try.prog 40 #[.int .i64 a0, .slice A1 l1.length c1, .int .i64 a2, .slice A3 l3.length c3] w fun e w' => ∃ v0_ : Value, e = .returned (.tuple #[v0_, .bool r2]) ∧ Kd.R (Kd.int .i64) 3 w' w.heap.size (fun _ => True) v0_ r1 ∧ Below w.heap.size w w' := by
 have HR1 := Aside0.mk hr1
 have HC1 := Aside0.mk hc1
 clear hr1 hc1
 have HR3 := Aside0.mk hr3
 have HC3 := Aside0.mk hc3
 clear hr3 hc3
 have HB := Aside0.mk (Below.refl w.heap.size w)
 have H : (if 0 ≤ (mn (l1.length : Int) (l3.length : Int)) then (if (mn (l1.length : Int) (l3.length : Int) : Int).toNat ≤ 35184372088832 then ((some (List.replicate (mn (l1.length : Int) (l3.length : Int) : Int).toNat 0 : List Int)).bind fun y114 => (whole_Mix.l0 k a0 l1 a2 l3 y114 (y114.length : Int) 0)) else (none)) else (none)) = some (r1, r2) := h
 clear h
 obtain ⟨ji5, hji5⟩ : ∃ j_ : Int, (mn (l1.length : Int) (l3.length : Int)) = j_ := ⟨_, rfl⟩
 replace H : (if 0 ≤ (ji5) then (if (ji5 : Int).toNat ≤ 35184372088832 then ((some (List.replicate (ji5 : Int).toNat 0 : List Int)).bind fun y114 => (whole_Mix.l0 k a0 l1 a2 l3 y114 (y114.length : Int) 0)) else (none)) else (none)) = some (r1, r2) := by first | (rw [hji5] at H; exact H) | (simp only [hji5] at H ⊢; exact H)
 (try (have hji5l : 0 ≤ ji5 := by (rw [← hji5]; unfold mn; (repeat' split) <;> omega)))
 (try (have hji5m : 0 ≤ ji5 := by omega))
 have hji5_ : (if (l3.length : Int) < (l1.length : Int) then (l3.length : Int) else (l1.length : Int)) = ji5 := hji5
 have hji5n : (if l3.length < l1.length then (l3.length : Int) else (l1.length : Int)) = ji5 := by simpa only [Int.ofNat_lt] using hji5_
 by_cases c6 : 0 ≤ (ji5)
 case neg => rw [if_neg c6] at H; exact absurd H (by simp)
 rw [if_pos c6] at H
 have c6b0 := eq_true c6
 have c6b1 : decide (0 ≤ (ji5)) = true := decide_eq_true c6
 clear c6
 by_cases c7 : (ji5 : Int).toNat ≤ 35184372088832
 case neg => rw [if_neg c7] at H; exact absurd H (by simp)
 rw [if_pos c7] at H
 have c7b0 := eq_true c7
 have c7b1 : decide ((ji5 : Int).toNat ≤ 35184372088832) = true := decide_eq_true c7
 clear c7
 obtain ⟨y114, hy114⟩ : ∃ y_ : List Int, y_ = (List.replicate (ji5 : Int).toNat 0) := ⟨_, rfl⟩
 replace H : (whole_Mix.l0 k a0 l1 a2 l3 y114 (y114.length : Int) 0) = some (r1, r2) := by first | (rw [hy114]; with_reducible exact H) | (have H2_ := (Option.bind_some _ _).symm.trans H; rw [hy114]; with_reducible exact H2_) | (have H2_ := (Option.bind_some _ _).symm.trans H; with_reducible exact H2_) | with_reducible exact H | (rw [hy114]; exact H) | exact H
 have Ny114 := Aside0.mk hy114
 clear hy114
 have H' := Aside0.mk H
 clear H
 go_enter Try.func40, Try.ntmps40
 go_wp2_with (first | ((with_reducible refine gate_dst (N := 19) rfl ?_); refine Kd.R_make (Kd.int .i64) _ 3 rfl (N := 19) rfl 37 _ _ rfl ji5 (by first | rfl | (simp only [← hji5]; rfl)) (by first | rfl | (simp only [← hji5]; rfl)) Try.underlying37 (.int .i64 0) 8 info3 rfl (by decide) (by omega) 0 (ok := fun _ => True) (okp := fun _ => True) rfl (fun _ hk => hk) trivial (of_decide_eq_true (by first | (with_reducible assumption) | assumption)) (Nat.le_trans (Nat.mul_le_mul_right _ (of_decide_eq_true (by first | (with_reducible assumption) | assumption) : ji5.toNat ≤ 35184372088832)) (by omega)) (Below.refl _ _) (Nat.le_refl _) ?_; intro v115 w8 ho9 hb hg_ hnew_; clear hg_ hnew_; (first | rw [← Ny114.out] at ho9 | (simp only [Int.reduceToNat] at ho9; rw [← Ny114.out] at ho9)); have n0_ := Aside0.mk (Kd.R_lower ho9 (below_size (hbq HB.out))); have n1_ := Aside0.mk (below_step (hbq HB.out) hb); clear HB; have HO116 := n0_; have HB := n1_; clear n0_ n1_; clear hb ho9; obtain ⟨Ao10, co10, eo10⟩ := Kd.R_slice HO116.out; subst eo10))
 go_loopg [22] k (fun kq v22 w' => ∃ (x10_1 : List Int) (x22_1 : Int), v22 = .int .i64 x22_1 ∧ Aside0 (whole_Mix.l0 kq a0 l1 a2 l3 x10_1 (y114.length : Int) x22_1 = some (r1, r2)) ∧ Aside0 (kq ≤ k) ∧ Aside0 (Kd.R (Kd.int .i64) 3 w' w.heap.size (fun _ => True) (.slice Ao10 y114.length co10) x10_1) ∧ Aside0 (Below w.heap.size w w'))
 case atStart => exact ⟨(y114), (0), (by first | rfl | (simp; done) | (simp [*]; done)), H', ⟨Nat.le_refl _⟩, ⟨by refine kq_R ?_; exact HO116.out⟩, ⟨hbq HB.out⟩⟩
 clear H'
 try clear c1
 try clear p2
 try clear c3
 try clear c4
 try clear c6
 try clear c6b0
 try clear c6b1
 try clear c7
 try clear c7b0
 try clear c7b1
 obtain ⟨x10_1, x22_1, rfl, HA, HK1, HO_10, HB⟩ := hrel
 have hl10_1 := (Kd.R_reads' HO_10.out).1
 rw [hl10_1] at HO_10
 (try simp only [hl10_1])
 cases gk with
 | zero => exact absurd HA.out (by simp [whole_Mix.l0])
 | succ k1 =>
  have H := HA.out
  clear HA
  simp only [whole_Mix.l0] at H
  by_cases c11 : x22_1 < (y114.length : Int)
  ·rw [if_pos c11] at H
   have c11b0 : decide (x22_1 < (y114.length : Int)) = true := decide_eq_true c11
   (try (have c11g0 := c11b0; simp only [hl10_1] at c11g0))
   clear c11
   obtain ⟨y117, hy117⟩ : ∃ y_ : List Int, y_ = (([a0, a2] : List Int)) := ⟨_, rfl⟩
   replace H : (if 0 ≤ x22_1 then (if x22_1 < (l1.length : Int) then (if x22_1 < (l3.length : Int) then ((whole_Dot.f k1 y117 (([rd l1 x22_1, rd l3 x22_1] : List Int))).bind fun bt125 => (if bt125.2 = true then (if bt125.1 = (-9223372036854775808) then (some (([] : List Int), false)) else (if x22_1 < (x10_1.length : Int) then (whole_Mix.l0 k1 a0 l1 a2 l3 (x10_1.set (x22_1 : Int).toNat bt125.1) (y114.length : Int) (wrap64 (x22_1 + 1))) else (none))) else (some (([] : List Int), false)))) else (none)) else (none)) else (none)) = some (r1, r2) := by first | (rw [hy117]; with_reducible exact H) | (have H2_ := (Option.bind_some _ _).symm.trans H; rw [hy117]; with_reducible exact H2_) | (have H2_ := (Option.bind_some _ _).symm.trans H; with_reducible exact H2_) | with_reducible exact H | (rw [hy117]; exact H) | exact H
   have Ny117 := Aside0.mk hy117
   clear hy117
   by_cases c12 : 0 ≤ x22_1
   case neg => rw [if_neg c12] at H; exact absurd H (by simp)
   rw [if_pos c12] at H
   have c12b0 : decide (0 ≤ x22_1) = true := decide_eq_true c12
   clear c12
   by_cases c13 : x22_1 < (l1.length : Int)
   case neg => rw [if_neg c13] at H; exact absurd H (by simp)
   rw [if_pos c13] at H
   have c13b0 : decide (x22_1 < (l1.length : Int)) = true := decide_eq_true c13
   (try (have c13g0 := c13b0; simp only [hl10_1] at c13g0))
   clear c13
   by_cases c14 : x22_1 < (l3.length : Int)
   case neg => rw [if_neg c14] at H; exact absurd H (by simp)
   rw [if_pos c14] at H
   have c14b0 : decide (x22_1 < (l3.length : Int)) = true := decide_eq_true c14
   (try (have c14g0 := c14b0; simp only [hl10_1] at c14g0))
   clear c14
   obtain ⟨y122, hy122⟩ : ∃ y_ : List Int, y_ = (([rd l1 x22_1, rd l3 x22_1] : List Int)) := ⟨_, rfl⟩
   replace H : ((whole_Dot.f k1 y117 y122).bind fun bt125 => (if bt125.2 = true then (if bt125.1 = (-9223372036854775808) then (some (([] : List Int), false)) else (if x22_1 < (x10_1.length : Int) then (whole_Mix.l0 k1 a0 l1 a2 l3 (x10_1.set (x22_1 : Int).toNat bt125.1) (y114.length : Int) (wrap64 (x22_1 + 1))) else (none))) else (some (([] : List Int), false)))) = some (r1, r2) := by first | (rw [hy122]; with_reducible exact H) | (have H2_ := (Option.bind_some _ _).symm.trans H; rw [hy122]; with_reducible exact H2_) | (have H2_ := (Option.bind_some _ _).symm.trans H; with_reducible exact H2_) | with_reducible exact H | (rw [hy122]; exact H) | exact H
   have Ny122 := Aside0.mk hy122
   clear hy122
   replace H := Option.bind_eq_some_iff.mp H
   obtain ⟨⟨t125, t126⟩, A150, H⟩ := H
   replace H : (if t126 = true then (if t125 = (-9223372036854775808) then (some (([] : List Int), false)) else (if x22_1 < (x10_1.length : Int) then (whole_Mix.l0 k1 a0 l1 a2 l3 (x10_1.set (x22_1 : Int).toNat t125) (y114.length : Int) (wrap64 (x22_1 + 1))) else (none))) else (some (([] : List Int), false))) = some (r1, r2) := H
   have A15 := Aside0.mk A150
   clear A150
   by_cases c16 : t126 = true
   ·subst c16
    have H1 : (if t125 = (-9223372036854775808) then (some (([] : List Int), false)) else (if x22_1 < (x10_1.length : Int) then (whole_Mix.l0 k1 a0 l1 a2 l3 (x10_1.set (x22_1 : Int).toNat t125) (y114.length : Int) (wrap64 (x22_1 + 1))) else (none))) = some (r1, r2) := by rw [if_pos rfl] at H; exact H
    clear H
    have H := H1
    clear H1
    by_cases c17 : t125 = (-9223372036854775808)
    ·rw [if_pos c17] at H
     have c17b0 : (t125 == (-9223372036854775808)) = true := beq_iff_eq.mpr c17
     have c17b1 : (t125 != (-9223372036854775808)) = false := bne_eq_false_iff_eq.mpr c17
     clear c17
     simp only [Option.some.injEq, Prod.mk.injEq] at H
     obtain ⟨rfl, rfl⟩ := H
     try go_wp2
     have n0_ := Aside0.mk (Kd.R_drew HO_10.out)
     have n1_ := Aside0.mk (below_drew1 HB.out)
     clear HO_10
     clear HB
     have HO_10 := n0_
     have HB := n1_
     clear n0_ n1_
     have p120 : 0 ≤ (x22_1 : Int) := of_decide_eq_true (by first | (with_reducible assumption) | assumption)
     have q120 : x22_1 < (l1.length : Int) := of_decide_eq_true (by first | (with_reducible assumption) | assumption)
     obtain ⟨ad120, e120, hx120_0⟩ := Kd.at_int HR1.out x22_1 p120 q120
     have hw120_0 := hx120_0
     cases e120
     replace hx120_0 := (HB.out.cell (World.block_lt_of_cell? w _ hx120_0)).trans hx120_0
     replace p120 := eq_true p120
     replace q120 := eq_true q120
     have p121 : 0 ≤ (x22_1 : Int) := of_decide_eq_true (by first | (with_reducible assumption) | assumption)
     have q121 : x22_1 < (l3.length : Int) := of_decide_eq_true (by first | (with_reducible assumption) | assumption)
     obtain ⟨ad121, e121, hx121_0⟩ := Kd.at_int HR3.out x22_1 p121 q121
     have hw121_0 := hx121_0
     cases e121
     replace hx121_0 := (HB.out.cell (World.block_lt_of_cell? w _ hx121_0)).trans hx121_0
     replace p121 := eq_true p121
     replace q121 := eq_true q121
     refine start_ (n := 18) (S := fun w' => w'.cell? (ad120.add (x22_1).toNat) = some (.int .i64 (rd l1 x22_1)) ∧ w'.cell? (ad121.add (x22_1).toNat) = some (.int .i64 (rd l3 x22_1))) (ds := []) (az [0, 18]) (by kernel_rfl) rfl rfl ⟨((HB.out.cell (World.block_lt_of_cell? w _ hw120_0)).trans hw120_0), ((HB.out.cell (World.block_lt_of_cell? w _ hw121_0)).trans hw121_0)⟩ (fun hHeld => ?_); refine with_tabW whole_Mix.tab5 whole_Mix.bits5 (fun HT_ HW_ => ?_)
     generalize wr.drew = w18 at HO_10 HB hx120_0 hx121_0 hHeld ⊢
     refine pure_ (i := 0) (N := some 26) (v := ?_) (a' := ?_) (az [1, 17]) rfl rfl (any_of HT_.out (by kernel_rfl)) (fun _ _ _ h => h) (Or.inl ⟨by rfl, ?_⟩) ?_ ?_
     rotate_left
     ·intro w'
      go_simp
      with_reducible rfl
     rotate_left
     ·simp only [Act.put, List.setIfInBounds_toArray, List.set_cons_zero, List.set_cons_succ, i64_w, i32_w]
      rfl
     refine pure_ (i := 1) (N := some 27) (v := ?_) (a' := ?_) (az [2, 16]) rfl rfl (any_of HT_.out (by kernel_rfl)) (fun _ _ _ h => h) (Or.inl ⟨by rfl, ?_⟩) ?_ ?_
     rotate_left
     ·intro w'
      go_simp
      with_reducible rfl
     rotate_left
     ·simp only [Act.put, List.setIfInBounds_toArray, List.set_cons_zero, List.set_cons_succ, i64_w, i32_w]
      rfl
     refine pure_ (i := 3) (N := some 29) (v := ?_) (a' := ?_) (az [2, 1, 1, 14]) rfl rfl (any_of HT_.out (by kernel_rfl)) (fun _ _ _ h => h) (Or.inl ⟨by rfl, ?_⟩) ?_ ?_
     rotate_left
     ·intro w'
      go_simp
      with_reducible rfl
     rotate_left
     ·simp only [Act.put, List.setIfInBounds_toArray, List.set_cons_zero, List.set_cons_succ, i64_w, i32_w]
      rfl
     refine pure_ (i := 4) (N := some 30) (v := ?_) (a' := ?_) (az [2, 1, 2, 13]) rfl rfl (any_of HT_.out (by kernel_rfl)) (fun _ _ _ h => h) (Or.inl ⟨by rfl, ?_⟩) ?_ ?_
     rotate_left
     ·intro w'
      go_simp
      with_reducible rfl
     rotate_left
     ·simp only [Act.put, List.setIfInBounds_toArray, List.set_cons_zero, List.set_cons_succ, i64_w, i32_w]
      rfl
     refine pure_ (i := 5) (N := some 31) (v := ?_) (a' := ?_) (az [2, 1, 3, 12]) rfl rfl (any_of HT_.out (by kernel_rfl)) (fun _ _ _ h => h) (Or.inl ⟨by rfl, ?_⟩) ?_ ?_
     rotate_left
     ·intro w'
      go_simp
      with_reducible rfl
     rotate_left
     ·simp only [Act.put, List.setIfInBounds_toArray, List.set_cons_zero, List.set_cons_succ, i64_w, i32_w]
      rfl
     refine pure_ (i := 7) (N := some 33) (v := ?_) (a' := ?_) (az [2, 1, 3, 1, 1, 10]) rfl rfl (any_of HT_.out (by kernel_rfl)) (fun _ _ _ h => h) (Or.inl ⟨by rfl, ?_⟩) ?_ ?_
     rotate_left
     ·intro w'
      go_simp
      with_reducible rfl
     rotate_left
     ·simp only [Act.put, List.setIfInBounds_toArray, List.set_cons_zero, List.set_cons_succ, i64_w, i32_w]
      rfl
     refine pure_ (i := 8) (N := some 34) (v := ?_) (a' := ?_) (az [2, 1, 3, 1, 2, 9]) rfl rfl (any_of HT_.out (by kernel_rfl)) (fun _ _ _ h => h) (Or.inl ⟨by rfl, ?_⟩) ?_ ?_
     rotate_left
     ·intro w'
      go_simp
      with_reducible rfl
     rotate_left
     ·simp only [Act.put, List.setIfInBounds_toArray, List.set_cons_zero, List.set_cons_succ, i64_w, i32_w]
      rfl
     refine pure_ (i := 9) (N := some 35) (v := ?_) (a' := ?_) (az [2, 1, 3, 1, 3, 8]) rfl rfl (any_of HT_.out (by kernel_rfl)) (fun _ _ _ h => h) (Or.inl ⟨by rfl, ?_⟩) ?_ ?_
     rotate_left
     ·intro w'
      go_simp
      with_reducible rfl
     rotate_left
     ·simp only [Act.put, List.setIfInBounds_toArray, List.set_cons_zero, List.set_cons_succ, i64_w, i32_w]
      rfl
     refine take_ (i := 6) (N := some 32) (v := ?_) (a' := ?_) (az [2, 1, 7, 8]) rfl rfl (take_ofW HT_.out HW_.out (by kernel_rfl)) (fun _ _ _ h => h) (Or.inl ⟨by rfl, ?_⟩) hHeld ?_ ?_
     rotate_left
     ·rintro w' ⟨s0, s1⟩
      go_simp
      with_reducible rfl
     rotate_left
     ·simp only [Act.put, List.setIfInBounds_toArray, List.set_cons_zero, List.set_cons_succ, i64_w, i32_w]
      rfl
     refine take_ (i := 10) (N := some 36) (v := ?_) (a' := ?_) (az [2, 1, 8, 7]) rfl rfl (take_ofW HT_.out HW_.out (by kernel_rfl)) (fun _ _ _ h => h) (Or.inl ⟨by rfl, ?_⟩) hHeld ?_ ?_
     rotate_left
     ·rintro w' ⟨s0, s1⟩
      go_simp
      with_reducible rfl
     rotate_left
     ·simp only [Act.put, List.setIfInBounds_toArray, List.set_cons_zero, List.set_cons_succ, i64_w, i32_w]
      rfl
     refine join_ (σ := Value × Value) 6 (az [12, 6]) (fun s_ => [(28, s_.1), (37, s_.2)]) (fun s_ w' => (w'.cell? (ad120.add (x22_1).toNat) = some (.int .i64 (rd l1 x22_1)) ∧ w'.cell? (ad121.add (x22_1).toNat) = some (.int .i64 (rd l3 x22_1))) ∧ (Kd.R (Kd.int .i64) 3 w' w.heap.size (fun k_ => some k_ ≠ (s_.2 : Value).ownBlock ∧ some k_ ≠ (.slice Ao10 x10_1.length co10 : Value).ownBlock) s_.1 y117) ∧ (Kd.R (Kd.int .i64) 3 w' w.heap.size (fun k_ => some k_ ≠ (s_.1 : Value).ownBlock ∧ some k_ ≠ (.slice Ao10 x10_1.length co10 : Value).ownBlock) s_.2 y122) ∧ (Kd.R (Kd.int .i64) 3 w' w.heap.size (fun k_ => some k_ ≠ (s_.1 : Value).ownBlock ∧ some k_ ≠ (s_.2 : Value).ownBlock) (.slice Ao10 x10_1.length co10) x10_1) ∧ (Below w.heap.size w w')) ?_ ?_
     rotate_left
     ·intro hCont
      refine two_ (i := 2) (j := 11) (Ni := some 28) (Nj := some 37) (az [11, 7]) (az [2, 1, 9, 6]) rfl rfl rfl rfl (two_of HT_.out (by kernel_rfl)) (by decide) (by decide) (fun K hK => ?_) (fun K hK => ?_)
      ·skip
       refine Kd.R_lit_step (Kd.int .i64) _ 3 ?hg (N := 28) ?hd (xs := ([a0, a2] : List Int)) (inner := [.int .i64 a0, .int .i64 a2]) (ok := fun _ => True) (okp := fun _ => True) ?hr ?hp (fun _ hk => hk) trivial (Below.refl _ _) (Nat.le_refl _) (by simp) ?_; (case hd => rfl); (case hg => rfl); (case hr => first | (go_simp; done) | (go_simp; rfl)); (case hp => exact (Reps.one (show Kd.M (Kd.int .i64) _ _ _ a0 [.int .i64 a0] from rfl) (Reps.one (show Kd.M (Kd.int .i64) _ _ _ a2 [.int .i64 a2] from rfl) (Reps.none _ _))))
       intro v118 w19 ho20 hb hg_ hnew_
       clear hg_ hnew_
       (first | rw [← Ny117.out] at ho20 | (simp only [Int.reduceToNat] at ho20; rw [← Ny117.out] at ho20))
       have n0_ := Aside0.mk (Kd.R_elder' (kq_R HO_10.out) (Kd.R_base ho20) hb)
       have n1_ := Aside0.mk (Kd.R_lower (Kd.R_new' ho20 (Kd.R_lt (kq_R HO_10.out))) (below_size (hbq HB.out)))
       have n2_ := Aside0.mk (below_step (hbq HB.out) hb)
       clear HO_10
       clear HB
       have HO_10 := n0_
       have HO119 := n1_
       have HB := n2_
       clear n0_ n1_ n2_
       clear hb ho20
       refine hK.out _ _ ⟨((HB.out.cell (World.block_lt_of_cell? w _ hw120_0)).trans hw120_0), ((HB.out.cell (World.block_lt_of_cell? w _ hw121_0)).trans hw121_0)⟩ (fun hHeld => ?_)
       clear hK K
       refine norm_ (a' := ?_) ?_ ?_
       rotate_left
       ·show Act.put _ (some 28) _ = _
        simp only [Act.put, List.setIfInBounds_toArray, List.set_cons_zero, List.set_cons_succ, i64_w, i32_w]
        rfl
       refine one_ (i := 11) (N := some 37) (az [12, 6]) rfl rfl (one_of HT_.out (by kernel_rfl)) (by decide) (fun K hK => ?_)
       refine Kd.R_lit_step (Kd.int .i64) _ 3 ?hg (N := 37) ?hd (xs := ([rd l1 x22_1, rd l3 x22_1] : List Int)) (inner := [.int .i64 (rd l1 x22_1), .int .i64 (rd l3 x22_1)]) (ok := fun _ => True) (okp := fun _ => True) ?hr ?hp (fun _ hk => hk) trivial (Below.refl _ _) (Nat.le_refl _) (by simp) ?_; (case hd => rfl); (case hg => rfl); (case hr => first | (go_simp; done) | (go_simp; rfl)); (case hp => exact (Reps.one (show Kd.M (Kd.int .i64) _ _ _ (rd l1 x22_1) [.int .i64 (rd l1 x22_1)] from rfl) (Reps.one (show Kd.M (Kd.int .i64) _ _ _ (rd l3 x22_1) [.int .i64 (rd l3 x22_1)] from rfl) (Reps.none _ _))))
       intro v123 w21 ho22 hb hg_ hnew_
       clear hg_ hnew_
       (first | rw [← Ny122.out] at ho22 | (simp only [Int.reduceToNat] at ho22; rw [← Ny122.out] at ho22))
       have n0_ := Aside0.mk (Kd.R_elder' (kq_R HO_10.out) (Kd.R_base ho22) hb)
       have n1_ := Aside0.mk (Kd.R_elder' (kq_R HO119.out) (Kd.R_base ho22) hb)
       have n2_ := Aside0.mk (Kd.R_lower (Kd.R_new' (Kd.R_new' ho22 (Kd.R_lt (kq_R HO_10.out))) (Kd.R_lt (kq_R HO119.out))) (below_size (hbq HB.out)))
       have n3_ := Aside0.mk (below_step (hbq HB.out) hb)
       clear HO_10
       clear HO119
       clear HB
       have HO_10 := n0_
       have HO119 := n1_
       have HO124 := n2_
       have HB := n3_
       clear n0_ n1_ n2_ n3_
       clear hb ho22
       refine hK.out _ _ ⟨((HB.out.cell (World.block_lt_of_cell? w _ hw120_0)).trans hw120_0), ((HB.out.cell (World.block_lt_of_cell? w _ hw121_0)).trans hw121_0)⟩ (fun hHeld => ?_)
       clear hK K
       refine norm_ (a' := ?_) ?_ ?_
       rotate_left
       ·show Act.put _ (some 37) _ = _
        simp only [Act.put, List.setIfInBounds_toArray, List.set_cons_zero, List.set_cons_succ, i64_w, i32_w]
        rfl
       exact norm_ (by simp only [putAll, Act.put, List.setIfInBounds_toArray, List.set_cons_zero, List.set_cons_succ]) (hCont (v118, v123) _ ⟨hHeld, (by refine kq_R ?_; exact Kd.R_mono HO119.out (fun _ hk => ⟨hk.2, hk.1.2⟩)), (by refine kq_R ?_; exact Kd.R_mono HO124.out (fun _ hk => ⟨hk.2, hk.1.2⟩)), (by refine kq_R ?_; exact Kd.R_mono HO_10.out (fun _ hk => ⟨hk.1.2, hk.2⟩)), (hbq HB.out)⟩)
      ·skip
       refine Kd.R_lit_step (Kd.int .i64) _ 3 ?hg (N := 37) ?hd (xs := ([rd l1 x22_1, rd l3 x22_1] : List Int)) (inner := [.int .i64 (rd l1 x22_1), .int .i64 (rd l3 x22_1)]) (ok := fun _ => True) (okp := fun _ => True) ?hr ?hp (fun _ hk => hk) trivial (Below.refl _ _) (Nat.le_refl _) (by simp) ?_; (case hd => rfl); (case hg => rfl); (case hr => first | (go_simp; done) | (go_simp; rfl)); (case hp => exact (Reps.one (show Kd.M (Kd.int .i64) _ _ _ (rd l1 x22_1) [.int .i64 (rd l1 x22_1)] from rfl) (Reps.one (show Kd.M (Kd.int .i64) _ _ _ (rd l3 x22_1) [.int .i64 (rd l3 x22_1)] from rfl) (Reps.none _ _))))
       intro v123 w19 ho20 hb hg_ hnew_
       clear hg_ hnew_
       (first | rw [← Ny122.out] at ho20 | (simp only [Int.reduceToNat] at ho20; rw [← Ny122.out] at ho20))
       have n0_ := Aside0.mk (Kd.R_elder' (kq_R HO_10.out) (Kd.R_base ho20) hb)
       have n1_ := Aside0.mk (Kd.R_lower (Kd.R_new' ho20 (Kd.R_lt (kq_R HO_10.out))) (below_size (hbq HB.out)))
       have n2_ := Aside0.mk (below_step (hbq HB.out) hb)
       clear HO_10
       clear HB
       have HO_10 := n0_
       have HO124 := n1_
       have HB := n2_
       clear n0_ n1_ n2_
       clear hb ho20
       refine hK.out _ _ ⟨((HB.out.cell (World.block_lt_of_cell? w _ hw120_0)).trans hw120_0), ((HB.out.cell (World.block_lt_of_cell? w _ hw121_0)).trans hw121_0)⟩ (fun hHeld => ?_)
       clear hK K
       refine norm_ (a' := ?_) ?_ ?_
       rotate_left
       ·show Act.put _ (some 37) _ = _
        simp only [Act.put, List.setIfInBounds_toArray, List.set_cons_zero, List.set_cons_succ, i64_w, i32_w]
        rfl
       refine one_ (i := 2) (N := some 28) (az [12, 6]) rfl rfl (one_of HT_.out (by kernel_rfl)) (by decide) (fun K hK => ?_)
       refine Kd.R_lit_step (Kd.int .i64) _ 3 ?hg (N := 28) ?hd (xs := ([a0, a2] : List Int)) (inner := [.int .i64 a0, .int .i64 a2]) (ok := fun _ => True) (okp := fun _ => True) ?hr ?hp (fun _ hk => hk) trivial (Below.refl _ _) (Nat.le_refl _) (by simp) ?_; (case hd => rfl); (case hg => rfl); (case hr => first | (go_simp; done) | (go_simp; rfl)); (case hp => exact (Reps.one (show Kd.M (Kd.int .i64) _ _ _ a0 [.int .i64 a0] from rfl) (Reps.one (show Kd.M (Kd.int .i64) _ _ _ a2 [.int .i64 a2] from rfl) (Reps.none _ _))))
       intro v118 w21 ho22 hb hg_ hnew_
       clear hg_ hnew_
       (first | rw [← Ny117.out] at ho22 | (simp only [Int.reduceToNat] at ho22; rw [← Ny117.out] at ho22))
       have n0_ := Aside0.mk (Kd.R_elder' (kq_R HO_10.out) (Kd.R_base ho22) hb)
       have n1_ := Aside0.mk (Kd.R_elder' (kq_R HO124.out) (Kd.R_base ho22) hb)
       have n2_ := Aside0.mk (Kd.R_lower (Kd.R_new' (Kd.R_new' ho22 (Kd.R_lt (kq_R HO_10.out))) (Kd.R_lt (kq_R HO124.out))) (below_size (hbq HB.out)))
       have n3_ := Aside0.mk (below_step (hbq HB.out) hb)
       clear HO_10
       clear HO124
       clear HB
       have HO_10 := n0_
       have HO124 := n1_
       have HO119 := n2_
       have HB := n3_
       clear n0_ n1_ n2_ n3_
       clear hb ho22
       refine hK.out _ _ ⟨((HB.out.cell (World.block_lt_of_cell? w _ hw120_0)).trans hw120_0), ((HB.out.cell (World.block_lt_of_cell? w _ hw121_0)).trans hw121_0)⟩ (fun hHeld => ?_)
       clear hK K
       refine norm_ (a' := ?_) ?_ ?_
       rotate_left
       ·show Act.put _ (some 28) _ = _
        simp only [Act.put, List.setIfInBounds_toArray, List.set_cons_zero, List.set_cons_succ, i64_w, i32_w]
        rfl
       exact norm_ (by simp only [putAll, Act.put, List.setIfInBounds_toArray, List.set_cons_zero, List.set_cons_succ]) (hCont (v118, v123) _ ⟨hHeld, (by refine kq_R ?_; exact Kd.R_mono HO119.out (fun _ hk => ⟨hk.2, hk.1.2⟩)), (by refine kq_R ?_; exact Kd.R_mono HO124.out (fun _ hk => ⟨hk.2, hk.1.2⟩)), (by refine kq_R ?_; exact Kd.R_mono HO_10.out (fun _ hk => ⟨hk.2, hk.1.2⟩)), (hbq HB.out)⟩)
     rintro ⟨v118, v123⟩ w23 ⟨hS_, h0_, h1_, h2_, h3_⟩
     have n0_ : Aside0 (Kd.R (Kd.int .i64) 3 w23 w.heap.size (fun k_ => some k_ ≠ (v123 : Value).ownBlock ∧ some k_ ≠ (.slice Ao10 x10_1.length co10 : Value).ownBlock) v118 y117) := ⟨h0_⟩
     have n1_ : Aside0 (Kd.R (Kd.int .i64) 3 w23 w.heap.size (fun k_ => some k_ ≠ (v118 : Value).ownBlock ∧ some k_ ≠ (.slice Ao10 x10_1.length co10 : Value).ownBlock) v123 y122) := ⟨h1_⟩
     have n2_ : Aside0 (Kd.R (Kd.int .i64) 3 w23 w.heap.size (fun k_ => some k_ ≠ (v118 : Value).ownBlock ∧ some k_ ≠ (v123 : Value).ownBlock) (.slice Ao10 x10_1.length co10) x10_1) := ⟨h2_⟩
     have n3_ : Aside0 (Below w.heap.size w w23) := ⟨h3_⟩
     clear HO_10
     clear HB
     clear h0_ h1_ h2_ h3_
     have HO119 := n0_
     have HO124 := n1_
     have HO_10 := n2_
     have HB := n3_
     clear n0_ n1_ n2_ n3_
     have hHeld : w23.cell? (ad120.add (x22_1).toNat) = some (.int .i64 (rd l1 x22_1)) ∧ w23.cell? (ad121.add (x22_1).toNat) = some (.int .i64 (rd l3 x22_1)) := hS_
     obtain ⟨Ao24, co24, eo24⟩ := Kd.R_slice HO119.out
     (first | subst eo24 | (injection eo24 with f1_ f2_ f3_; have f4_ := f1_.symm; have f5_ := f3_.symm; clear f1_ f2_ f3_; subst f4_; subst f5_))
     obtain ⟨Ao25, co25, eo25⟩ := Kd.R_slice HO124.out
     (first | subst eo25 | (injection eo25 with f1_ f2_ f3_; have f4_ := f1_.symm; have f5_ := f3_.symm; clear f1_ f2_ f3_; subst f4_; subst f5_))
     refine norm_ (a' := ?_) ?_ ?_
     rotate_left
     ·simp only [putAll, Act.put, List.setIfInBounds_toArray, List.set_cons_zero, List.set_cons_succ]
      rfl
     refine one_ (i := 12) (N := some 38) (az [13, 5]) rfl rfl (one_of HT_.out (by kernel_rfl)) (by decide) (fun K hK => ?_)
     refine goes_ Try.func44 (by kernel_rfl) rfl #[.slice Ao24 y117.length co24, .slice Ao25 y122.length co25] (by rfl) rfl rfl (by (try simp only [List.map_toArray, List.map_cons, List.map_nil]); first | done | rfl | (simp only [List.length_drop, List.length_take]; rfl)) ?_
     with_reducible refine (whole_Dot.calls k1 _ _ y117 _ _ y122 t125 true _ ?side1 ?side2 ?side3 ?side4 A15.out).mono ?_
     (case side1 => repeat (first | exact (Kd.R_reads' HO119.out).2.2 | (with_reducible refine Kd.C_alloc ?_ _) | (with_reducible refine Kd.C_drewN ?_ _) | (with_reducible refine Kd.C_drew ?_)))
     (case side2 => exact (Kd.R_reads' HO119.out).2.1)
     (case side3 => repeat (first | exact (Kd.R_reads' HO124.out).2.2 | (with_reducible refine Kd.C_alloc ?_ _) | (with_reducible refine Kd.C_drewN ?_ _) | (with_reducible refine Kd.C_drew ?_)))
     (case side4 => exact (Kd.R_reads' HO124.out).2.1)
     rintro e w26 ⟨rfl, hb⟩
     refine ⟨_, rfl, ?_⟩
     have n0_ := Aside0.mk (Kd.R_below (kq_R HO_10.out) hb)
     have n1_ := Aside0.mk (Kd.R_below (kq_R HO119.out) hb)
     have n2_ := Aside0.mk (Kd.R_below (kq_R HO124.out) hb)
     have n3_ := Aside0.mk (below_step (hbq HB.out) hb)
     clear HO_10
     clear HO119
     clear HO124
     clear HB
     have HO_10 := n0_
     have HO119 := n1_
     have HO124 := n2_
     have HB := n3_
     clear n0_ n1_ n2_ n3_
     (try clear hb)
     (try clear hb2)
     (try clear hk)
     (try clear hi)
     refine hK.out _ _ ⟨((HB.out.cell (World.block_lt_of_cell? w _ hw120_0)).trans hw120_0), ((HB.out.cell (World.block_lt_of_cell? w _ hw121_0)).trans hw121_0)⟩ (fun hHeld => ?_)
     clear hK K
     refine norm_ (a' := ?_) ?_ ?_
     rotate_left
     ·show Act.put _ (some 38) _ = _
      simp only [Act.put, List.setIfInBounds_toArray, List.set_cons_zero, List.set_cons_succ, i64_w, i32_w]
      rfl
     refine pure_ (i := 13) (N := some 25) (v := ?_) (a' := ?_) (az [14, 4]) rfl rfl (any_of HT_.out (by kernel_rfl)) (fun _ _ _ h => h) (Or.inl ⟨by rfl, ?_⟩) ?_ ?_
     rotate_left
     ·intro w'
      go_simp
      with_reducible rfl
     rotate_left
     ·simp only [Act.put, List.setIfInBounds_toArray, List.set_cons_zero, List.set_cons_succ, i64_w, i32_w]
      rfl
     refine pure_ (i := 14) (N := some 39) (v := ?_) (a' := ?_) (az [15, 3]) rfl rfl (any_of HT_.out (by kernel_rfl)) (fun _ _ _ h => h) (Or.inl ⟨by rfl, ?_⟩) ?_ ?_
     rotate_left
     ·intro w'
      go_simp
      with_reducible rfl
     rotate_left
     ·simp only [Act.put, List.setIfInBounds_toArray, List.set_cons_zero, List.set_cons_succ, i64_w, i32_w]
      rfl
     refine pure_ (i := 15) (N := some 40) (v := ?_) (a' := ?_) (az [16, 2]) rfl rfl (any_of HT_.out (by kernel_rfl)) (fun _ _ _ h => h) (Or.inl ⟨by rfl, ?_⟩) ?_ ?_
     rotate_left
     ·intro w'
      go_simp
      with_reducible rfl
     rotate_left
     ·simp only [Act.put, List.setIfInBounds_toArray, List.set_cons_zero, List.set_cons_succ, i64_w, i32_w]
      rfl
     refine pure_ (i := 16) (N := some 12) (v := ?_) (a' := ?_) (az [17, 1]) rfl rfl (any_of HT_.out (by kernel_rfl)) (fun _ _ _ h => h) (Or.inl ⟨by rfl, ?_⟩) ?_ ?_
     rotate_left
     ·intro w'
      go_simp
      with_reducible rfl
     rotate_left
     ·simp only [Act.put, List.setIfInBounds_toArray, List.set_cons_zero, List.set_cons_succ, i64_w, i32_w]
      rfl
     refine pure_ (i := 17) (N := some 13) (v := ?_) (a' := ?_) (az [18]) rfl rfl (any_of HT_.out (by kernel_rfl)) (fun _ _ _ h => h) (Or.inl ⟨by rfl, ?_⟩) ?_ ?_
     rotate_left
     ·intro w'
      go_simp
      with_reducible rfl
     rotate_left
     ·simp only [Act.put, List.setIfInBounds_toArray, List.set_cons_zero, List.set_cons_succ, i64_w, i32_w]
      rfl
     refine done_ (done_of HT_.out (by kernel_rfl)) ?_
     try go_wp2
     go_ret2
     exact ⟨_, by first | rfl | (simp [errW_none, errW_some] <;> rfl) | (simp only [← hji5]; first | rfl | (simp [errW_none, errW_some] <;> rfl)) | (simp [*, errW_none, errW_some] <;> rfl), by first | exact Kd.R_nil _ _ _ _ _ | exact Kd.N_nil _ _ _ _ _ | exact Kd.V_nil _ _ _ _ _ | exact Kd.Q_nil _ _ _ _ _ | exact Kd.S_nil _ _ _ _ _, hbq HB.out⟩
    rw [if_neg c17] at H
    have c17b0 : (t125 == (-9223372036854775808)) = false := beq_eq_false_iff_ne.mpr c17
    have c17b1 : (t125 != (-9223372036854775808)) = true := bne_iff_ne.mpr c17
    by_cases c27 : x22_1 < (x10_1.length : Int)
    case neg => rw [if_neg c27] at H; exact absurd H (by simp)
    rw [if_pos c27] at H
    have c27b0 : decide (x22_1 < (x10_1.length : Int)) = true := decide_eq_true c27
    (try (have c27g0 := c27b0; simp only [hl10_1] at c27g0))
    clear c27
    obtain ⟨y127, hy127⟩ : ∃ y_ : List Int, y_ = (x10_1.set (x22_1 : Int).toNat t125) := ⟨_, rfl⟩
    replace H : (whole_Mix.l0 k1 a0 l1 a2 l3 y127 (y114.length : Int) (wrap64 (x22_1 + 1))) = some (r1, r2) := by first | (rw [hy127]; with_reducible exact H) | (have H2_ := (Option.bind_some _ _).symm.trans H; rw [hy127]; with_reducible exact H2_) | (have H2_ := (Option.bind_some _ _).symm.trans H; with_reducible exact H2_) | with_reducible exact H | (rw [hy127]; exact H) | exact H
    have Ny127 := Aside0.mk hy127
    clear hy127
    have H' := Aside0.mk H
    clear H
    try go_wp2
    have n0_ := Aside0.mk (Kd.R_drew HO_10.out)
    have n1_ := Aside0.mk (below_drew1 HB.out)
    clear HO_10
    clear HB
    have HO_10 := n0_
    have HB := n1_
    clear n0_ n1_
    have p120 : 0 ≤ (x22_1 : Int) := of_decide_eq_true (by first | (with_reducible assumption) | assumption)
    have q120 : x22_1 < (l1.length : Int) := of_decide_eq_true (by first | (with_reducible assumption) | assumption)
    obtain ⟨ad120, e120, hx120_0⟩ := Kd.at_int HR1.out x22_1 p120 q120
    have hw120_0 := hx120_0
    cases e120
    replace hx120_0 := (HB.out.cell (World.block_lt_of_cell? w _ hx120_0)).trans hx120_0
    replace p120 := eq_true p120
    replace q120 := eq_true q120
    have p121 : 0 ≤ (x22_1 : Int) := of_decide_eq_true (by first | (with_reducible assumption) | assumption)
    have q121 : x22_1 < (l3.length : Int) := of_decide_eq_true (by first | (with_reducible assumption) | assumption)
    obtain ⟨ad121, e121, hx121_0⟩ := Kd.at_int HR3.out x22_1 p121 q121
    have hw121_0 := hx121_0
    cases e121
    replace hx121_0 := (HB.out.cell (World.block_lt_of_cell? w _ hx121_0)).trans hx121_0
    replace p121 := eq_true p121
    replace q121 := eq_true q121
    refine start_ (n := 18) (S := fun w' => w'.cell? (ad120.add (x22_1).toNat) = some (.int .i64 (rd l1 x22_1)) ∧ w'.cell? (ad121.add (x22_1).toNat) = some (.int .i64 (rd l3 x22_1))) (ds := []) (az [0, 18]) (by kernel_rfl) rfl rfl ⟨((HB.out.cell (World.block_lt_of_cell? w _ hw120_0)).trans hw120_0), ((HB.out.cell (World.block_lt_of_cell? w _ hw121_0)).trans hw121_0)⟩ (fun hHeld => ?_); refine with_tabW whole_Mix.tab5 whole_Mix.bits5 (fun HT_ HW_ => ?_)
    generalize wr.drew = w29 at HO_10 HB hx120_0 hx121_0 hHeld ⊢
    refine pure_ (i := 0) (N := some 26) (v := ?_) (a' := ?_) (az [1, 17]) rfl rfl (any_of HT_.out (by kernel_rfl)) (fun _ _ _ h => h) (Or.inl ⟨by rfl, ?_⟩) ?_ ?_
    rotate_left
    ·intro w'
     go_simp
     with_reducible rfl
    rotate_left
    ·simp only [Act.put, List.setIfInBounds_toArray, List.set_cons_zero, List.set_cons_succ, i64_w, i32_w]
     rfl
    refine pure_ (i := 1) (N := some 27) (v := ?_) (a' := ?_) (az [2, 16]) rfl rfl (any_of HT_.out (by kernel_rfl)) (fun _ _ _ h => h) (Or.inl ⟨by rfl, ?_⟩) ?_ ?_
    rotate_left
    ·intro w'
     go_simp
     with_reducible rfl
    rotate_left
    ·simp only [Act.put, List.setIfInBounds_toArray, List.set_cons_zero, List.set_cons_succ, i64_w, i32_w]
     rfl
    refine pure_ (i := 3) (N := some 29) (v := ?_) (a' := ?_) (az [2, 1, 1, 14]) rfl rfl (any_of HT_.out (by kernel_rfl)) (fun _ _ _ h => h) (Or.inl ⟨by rfl, ?_⟩) ?_ ?_
    rotate_left
    ·intro w'
     go_simp
     with_reducible rfl
    rotate_left
    ·simp only [Act.put, List.setIfInBounds_toArray, List.set_cons_zero, List.set_cons_succ, i64_w, i32_w]
     rfl
    refine pure_ (i := 4) (N := some 30) (v := ?_) (a' := ?_) (az [2, 1, 2, 13]) rfl rfl (any_of HT_.out (by kernel_rfl)) (fun _ _ _ h => h) (Or.inl ⟨by rfl, ?_⟩) ?_ ?_
    rotate_left
    ·intro w'
     go_simp
     with_reducible rfl
    rotate_left
    ·simp only [Act.put, List.setIfInBounds_toArray, List.set_cons_zero, List.set_cons_succ, i64_w, i32_w]
     rfl
    refine pure_ (i := 5) (N := some 31) (v := ?_) (a' := ?_) (az [2, 1, 3, 12]) rfl rfl (any_of HT_.out (by kernel_rfl)) (fun _ _ _ h => h) (Or.inl ⟨by rfl, ?_⟩) ?_ ?_
    rotate_left
    ·intro w'
     go_simp
     with_reducible rfl
    rotate_left
    ·simp only [Act.put, List.setIfInBounds_toArray, List.set_cons_zero, List.set_cons_succ, i64_w, i32_w]
     rfl
    refine pure_ (i := 7) (N := some 33) (v := ?_) (a' := ?_) (az [2, 1, 3, 1, 1, 10]) rfl rfl (any_of HT_.out (by kernel_rfl)) (fun _ _ _ h => h) (Or.inl ⟨by rfl, ?_⟩) ?_ ?_
    rotate_left
    ·intro w'
     go_simp
     with_reducible rfl
    rotate_left
    ·simp only [Act.put, List.setIfInBounds_toArray, List.set_cons_zero, List.set_cons_succ, i64_w, i32_w]
     rfl
    refine pure_ (i := 8) (N := some 34) (v := ?_) (a' := ?_) (az [2, 1, 3, 1, 2, 9]) rfl rfl (any_of HT_.out (by kernel_rfl)) (fun _ _ _ h => h) (Or.inl ⟨by rfl, ?_⟩) ?_ ?_
    rotate_left
    ·intro w'
     go_simp
     with_reducible rfl
    rotate_left
    ·simp only [Act.put, List.setIfInBounds_toArray, List.set_cons_zero, List.set_cons_succ, i64_w, i32_w]
     rfl
    refine pure_ (i := 9) (N := some 35) (v := ?_) (a' := ?_) (az [2, 1, 3, 1, 3, 8]) rfl rfl (any_of HT_.out (by kernel_rfl)) (fun _ _ _ h => h) (Or.inl ⟨by rfl, ?_⟩) ?_ ?_
    rotate_left
    ·intro w'
     go_simp
     with_reducible rfl
    rotate_left
    ·simp only [Act.put, List.setIfInBounds_toArray, List.set_cons_zero, List.set_cons_succ, i64_w, i32_w]
     rfl
    refine take_ (i := 6) (N := some 32) (v := ?_) (a' := ?_) (az [2, 1, 7, 8]) rfl rfl (take_ofW HT_.out HW_.out (by kernel_rfl)) (fun _ _ _ h => h) (Or.inl ⟨by rfl, ?_⟩) hHeld ?_ ?_
    rotate_left
    ·rintro w' ⟨s0, s1⟩
     go_simp
     with_reducible rfl
    rotate_left
    ·simp only [Act.put, List.setIfInBounds_toArray, List.set_cons_zero, List.set_cons_succ, i64_w, i32_w]
     rfl
    refine take_ (i := 10) (N := some 36) (v := ?_) (a' := ?_) (az [2, 1, 8, 7]) rfl rfl (take_ofW HT_.out HW_.out (by kernel_rfl)) (fun _ _ _ h => h) (Or.inl ⟨by rfl, ?_⟩) hHeld ?_ ?_
    rotate_left
    ·rintro w' ⟨s0, s1⟩
     go_simp
     with_reducible rfl
    rotate_left
    ·simp only [Act.put, List.setIfInBounds_toArray, List.set_cons_zero, List.set_cons_succ, i64_w, i32_w]
     rfl
    refine join_ (σ := Value × Value) 6 (az [12, 6]) (fun s_ => [(28, s_.1), (37, s_.2)]) (fun s_ w' => (w'.cell? (ad120.add (x22_1).toNat) = some (.int .i64 (rd l1 x22_1)) ∧ w'.cell? (ad121.add (x22_1).toNat) = some (.int .i64 (rd l3 x22_1))) ∧ (Kd.R (Kd.int .i64) 3 w' w.heap.size (fun k_ => some k_ ≠ (s_.2 : Value).ownBlock ∧ some k_ ≠ (.slice Ao10 x10_1.length co10 : Value).ownBlock) s_.1 y117) ∧ (Kd.R (Kd.int .i64) 3 w' w.heap.size (fun k_ => some k_ ≠ (s_.1 : Value).ownBlock ∧ some k_ ≠ (.slice Ao10 x10_1.length co10 : Value).ownBlock) s_.2 y122) ∧ (Kd.R (Kd.int .i64) 3 w' w.heap.size (fun k_ => some k_ ≠ (s_.1 : Value).ownBlock ∧ some k_ ≠ (s_.2 : Value).ownBlock) (.slice Ao10 x10_1.length co10) x10_1) ∧ (Below w.heap.size w w')) ?_ ?_
    rotate_left
    ·intro hCont
     refine two_ (i := 2) (j := 11) (Ni := some 28) (Nj := some 37) (az [11, 7]) (az [2, 1, 9, 6]) rfl rfl rfl rfl (two_of HT_.out (by kernel_rfl)) (by decide) (by decide) (fun K hK => ?_) (fun K hK => ?_)
     ·skip
      refine Kd.R_lit_step (Kd.int .i64) _ 3 ?hg (N := 28) ?hd (xs := ([a0, a2] : List Int)) (inner := [.int .i64 a0, .int .i64 a2]) (ok := fun _ => True) (okp := fun _ => True) ?hr ?hp (fun _ hk => hk) trivial (Below.refl _ _) (Nat.le_refl _) (by simp) ?_; (case hd => rfl); (case hg => rfl); (case hr => first | (go_simp; done) | (go_simp; rfl)); (case hp => exact (Reps.one (show Kd.M (Kd.int .i64) _ _ _ a0 [.int .i64 a0] from rfl) (Reps.one (show Kd.M (Kd.int .i64) _ _ _ a2 [.int .i64 a2] from rfl) (Reps.none _ _))))
      intro v118 w30 ho31 hb hg_ hnew_
      clear hg_ hnew_
      (first | rw [← Ny117.out] at ho31 | (simp only [Int.reduceToNat] at ho31; rw [← Ny117.out] at ho31))
      have n0_ := Aside0.mk (Kd.R_elder' (kq_R HO_10.out) (Kd.R_base ho31) hb)
      have n1_ := Aside0.mk (Kd.R_lower (Kd.R_new' ho31 (Kd.R_lt (kq_R HO_10.out))) (below_size (hbq HB.out)))
      have n2_ := Aside0.mk (below_step (hbq HB.out) hb)
      clear HO_10
      clear HB
      have HO_10 := n0_
      have HO119 := n1_
      have HB := n2_
      clear n0_ n1_ n2_
      clear hb ho31
      refine hK.out _ _ ⟨((HB.out.cell (World.block_lt_of_cell? w _ hw120_0)).trans hw120_0), ((HB.out.cell (World.block_lt_of_cell? w _ hw121_0)).trans hw121_0)⟩ (fun hHeld => ?_)
      clear hK K
      refine norm_ (a' := ?_) ?_ ?_
      rotate_left
      ·show Act.put _ (some 28) _ = _
       simp only [Act.put, List.setIfInBounds_toArray, List.set_cons_zero, List.set_cons_succ, i64_w, i32_w]
       rfl
      refine one_ (i := 11) (N := some 37) (az [12, 6]) rfl rfl (one_of HT_.out (by kernel_rfl)) (by decide) (fun K hK => ?_)
      refine Kd.R_lit_step (Kd.int .i64) _ 3 ?hg (N := 37) ?hd (xs := ([rd l1 x22_1, rd l3 x22_1] : List Int)) (inner := [.int .i64 (rd l1 x22_1), .int .i64 (rd l3 x22_1)]) (ok := fun _ => True) (okp := fun _ => True) ?hr ?hp (fun _ hk => hk) trivial (Below.refl _ _) (Nat.le_refl _) (by simp) ?_; (case hd => rfl); (case hg => rfl); (case hr => first | (go_simp; done) | (go_simp; rfl)); (case hp => exact (Reps.one (show Kd.M (Kd.int .i64) _ _ _ (rd l1 x22_1) [.int .i64 (rd l1 x22_1)] from rfl) (Reps.one (show Kd.M (Kd.int .i64) _ _ _ (rd l3 x22_1) [.int .i64 (rd l3 x22_1)] from rfl) (Reps.none _ _))))
      intro v123 w32 ho33 hb hg_ hnew_
      clear hg_ hnew_
      (first | rw [← Ny122.out] at ho33 | (simp only [Int.reduceToNat] at ho33; rw [← Ny122.out] at ho33))
      have n0_ := Aside0.mk (Kd.R_elder' (kq_R HO_10.out) (Kd.R_base ho33) hb)
      have n1_ := Aside0.mk (Kd.R_elder' (kq_R HO119.out) (Kd.R_base ho33) hb)
      have n2_ := Aside0.mk (Kd.R_lower (Kd.R_new' (Kd.R_new' ho33 (Kd.R_lt (kq_R HO_10.out))) (Kd.R_lt (kq_R HO119.out))) (below_size (hbq HB.out)))
      have n3_ := Aside0.mk (below_step (hbq HB.out) hb)
      clear HO_10
      clear HO119
      clear HB
      have HO_10 := n0_
      have HO119 := n1_
      have HO124 := n2_
      have HB := n3_
      clear n0_ n1_ n2_ n3_
      clear hb ho33
      refine hK.out _ _ ⟨((HB.out.cell (World.block_lt_of_cell? w _ hw120_0)).trans hw120_0), ((HB.out.cell (World.block_lt_of_cell? w _ hw121_0)).trans hw121_0)⟩ (fun hHeld => ?_)
      clear hK K
      refine norm_ (a' := ?_) ?_ ?_
      rotate_left
      ·show Act.put _ (some 37) _ = _
       simp only [Act.put, List.setIfInBounds_toArray, List.set_cons_zero, List.set_cons_succ, i64_w, i32_w]
       rfl
      exact norm_ (by simp only [putAll, Act.put, List.setIfInBounds_toArray, List.set_cons_zero, List.set_cons_succ]) (hCont (v118, v123) _ ⟨hHeld, (by refine kq_R ?_; exact Kd.R_mono HO119.out (fun _ hk => ⟨hk.2, hk.1.2⟩)), (by refine kq_R ?_; exact Kd.R_mono HO124.out (fun _ hk => ⟨hk.2, hk.1.2⟩)), (by refine kq_R ?_; exact Kd.R_mono HO_10.out (fun _ hk => ⟨hk.1.2, hk.2⟩)), (hbq HB.out)⟩)
     ·skip
      refine Kd.R_lit_step (Kd.int .i64) _ 3 ?hg (N := 37) ?hd (xs := ([rd l1 x22_1, rd l3 x22_1] : List Int)) (inner := [.int .i64 (rd l1 x22_1), .int .i64 (rd l3 x22_1)]) (ok := fun _ => True) (okp := fun _ => True) ?hr ?hp (fun _ hk => hk) trivial (Below.refl _ _) (Nat.le_refl _) (by simp) ?_; (case hd => rfl); (case hg => rfl); (case hr => first | (go_simp; done) | (go_simp; rfl)); (case hp => exact (Reps.one (show Kd.M (Kd.int .i64) _ _ _ (rd l1 x22_1) [.int .i64 (rd l1 x22_1)] from rfl) (Reps.one (show Kd.M (Kd.int .i64) _ _ _ (rd l3 x22_1) [.int .i64 (rd l3 x22_1)] from rfl) (Reps.none _ _))))
      intro v123 w30 ho31 hb hg_ hnew_
      clear hg_ hnew_
      (first | rw [← Ny122.out] at ho31 | (simp only [Int.reduceToNat] at ho31; rw [← Ny122.out] at ho31))
      have n0_ := Aside0.mk (Kd.R_elder' (kq_R HO_10.out) (Kd.R_base ho31) hb)
      have n1_ := Aside0.mk (Kd.R_lower (Kd.R_new' ho31 (Kd.R_lt (kq_R HO_10.out))) (below_size (hbq HB.out)))
      have n2_ := Aside0.mk (below_step (hbq HB.out) hb)
      clear HO_10
      clear HB
      have HO_10 := n0_
      have HO124 := n1_
      have HB := n2_
      clear n0_ n1_ n2_
      clear hb ho31
      refine hK.out _ _ ⟨((HB.out.cell (World.block_lt_of_cell? w _ hw120_0)).trans hw120_0), ((HB.out.cell (World.block_lt_of_cell? w _ hw121_0)).trans hw121_0)⟩ (fun hHeld => ?_)
      clear hK K
      refine norm_ (a' := ?_) ?_ ?_
      rotate_left
      ·show Act.put _ (some 37) _ = _
       simp only [Act.put, List.setIfInBounds_toArray, List.set_cons_zero, List.set_cons_succ, i64_w, i32_w]
       rfl
      refine one_ (i := 2) (N := some 28) (az [12, 6]) rfl rfl (one_of HT_.out (by kernel_rfl)) (by decide) (fun K hK => ?_)
      refine Kd.R_lit_step (Kd.int .i64) _ 3 ?hg (N := 28) ?hd (xs := ([a0, a2] : List Int)) (inner := [.int .i64 a0, .int .i64 a2]) (ok := fun _ => True) (okp := fun _ => True) ?hr ?hp (fun _ hk => hk) trivial (Below.refl _ _) (Nat.le_refl _) (by simp) ?_; (case hd => rfl); (case hg => rfl); (case hr => first | (go_simp; done) | (go_simp; rfl)); (case hp => exact (Reps.one (show Kd.M (Kd.int .i64) _ _ _ a0 [.int .i64 a0] from rfl) (Reps.one (show Kd.M (Kd.int .i64) _ _ _ a2 [.int .i64 a2] from rfl) (Reps.none _ _))))
      intro v118 w32 ho33 hb hg_ hnew_
      clear hg_ hnew_
      (first | rw [← Ny117.out] at ho33 | (simp only [Int.reduceToNat] at ho33; rw [← Ny117.out] at ho33))
      have n0_ := Aside0.mk (Kd.R_elder' (kq_R HO_10.out) (Kd.R_base ho33) hb)
      have n1_ := Aside0.mk (Kd.R_elder' (kq_R HO124.out) (Kd.R_base ho33) hb)
      have n2_ := Aside0.mk (Kd.R_lower (Kd.R_new' (Kd.R_new' ho33 (Kd.R_lt (kq_R HO_10.out))) (Kd.R_lt (kq_R HO124.out))) (below_size (hbq HB.out)))
      have n3_ := Aside0.mk (below_step (hbq HB.out) hb)
      clear HO_10
      clear HO124
      clear HB
      have HO_10 := n0_
      have HO124 := n1_
      have HO119 := n2_
      have HB := n3_
      clear n0_ n1_ n2_ n3_
      clear hb ho33
      refine hK.out _ _ ⟨((HB.out.cell (World.block_lt_of_cell? w _ hw120_0)).trans hw120_0), ((HB.out.cell (World.block_lt_of_cell? w _ hw121_0)).trans hw121_0)⟩ (fun hHeld => ?_)
      clear hK K
      refine norm_ (a' := ?_) ?_ ?_
      rotate_left
      ·show Act.put _ (some 28) _ = _
       simp only [Act.put, List.setIfInBounds_toArray, List.set_cons_zero, List.set_cons_succ, i64_w, i32_w]
       rfl
      exact norm_ (by simp only [putAll, Act.put, List.setIfInBounds_toArray, List.set_cons_zero, List.set_cons_succ]) (hCont (v118, v123) _ ⟨hHeld, (by refine kq_R ?_; exact Kd.R_mono HO119.out (fun _ hk => ⟨hk.2, hk.1.2⟩)), (by refine kq_R ?_; exact Kd.R_mono HO124.out (fun _ hk => ⟨hk.2, hk.1.2⟩)), (by refine kq_R ?_; exact Kd.R_mono HO_10.out (fun _ hk => ⟨hk.2, hk.1.2⟩)), (hbq HB.out)⟩)
    rintro ⟨v118, v123⟩ w34 ⟨hS_, h0_, h1_, h2_, h3_⟩
    have n0_ : Aside0 (Kd.R (Kd.int .i64) 3 w34 w.heap.size (fun k_ => some k_ ≠ (v123 : Value).ownBlock ∧ some k_ ≠ (.slice Ao10 x10_1.length co10 : Value).ownBlock) v118 y117) := ⟨h0_⟩
    have n1_ : Aside0 (Kd.R (Kd.int .i64) 3 w34 w.heap.size (fun k_ => some k_ ≠ (v118 : Value).ownBlock ∧ some k_ ≠ (.slice Ao10 x10_1.length co10 : Value).ownBlock) v123 y122) := ⟨h1_⟩
    have n2_ : Aside0 (Kd.R (Kd.int .i64) 3 w34 w.heap.size (fun k_ => some k_ ≠ (v118 : Value).ownBlock ∧ some k_ ≠ (v123 : Value).ownBlock) (.slice Ao10 x10_1.length co10) x10_1) := ⟨h2_⟩
    have n3_ : Aside0 (Below w.heap.size w w34) := ⟨h3_⟩
    clear HO_10
    clear HB
    clear h0_ h1_ h2_ h3_
    have HO119 := n0_
    have HO124 := n1_
    have HO_10 := n2_
    have HB := n3_
    clear n0_ n1_ n2_ n3_
    have hHeld : w34.cell? (ad120.add (x22_1).toNat) = some (.int .i64 (rd l1 x22_1)) ∧ w34.cell? (ad121.add (x22_1).toNat) = some (.int .i64 (rd l3 x22_1)) := hS_
    obtain ⟨Ao35, co35, eo35⟩ := Kd.R_slice HO119.out
    (first | subst eo35 | (injection eo35 with f1_ f2_ f3_; have f4_ := f1_.symm; have f5_ := f3_.symm; clear f1_ f2_ f3_; subst f4_; subst f5_))
    obtain ⟨Ao36, co36, eo36⟩ := Kd.R_slice HO124.out
    (first | subst eo36 | (injection eo36 with f1_ f2_ f3_; have f4_ := f1_.symm; have f5_ := f3_.symm; clear f1_ f2_ f3_; subst f4_; subst f5_))
    refine norm_ (a' := ?_) ?_ ?_
    rotate_left
    ·simp only [putAll, Act.put, List.setIfInBounds_toArray, List.set_cons_zero, List.set_cons_succ]
     rfl
    refine one_ (i := 12) (N := some 38) (az [13, 5]) rfl rfl (one_of HT_.out (by kernel_rfl)) (by decide) (fun K hK => ?_)
    refine goes_ Try.func44 (by kernel_rfl) rfl #[.slice Ao35 y117.length co35, .slice Ao36 y122.length co36] (by rfl) rfl rfl (by (try simp only [List.map_toArray, List.map_cons, List.map_nil]); first | done | rfl | (simp only [List.length_drop, List.length_take]; rfl)) ?_
    with_reducible refine (whole_Dot.calls k1 _ _ y117 _ _ y122 t125 true _ ?side1 ?side2 ?side3 ?side4 A15.out).mono ?_
    (case side1 => repeat (first | exact (Kd.R_reads' HO119.out).2.2 | (with_reducible refine Kd.C_alloc ?_ _) | (with_reducible refine Kd.C_drewN ?_ _) | (with_reducible refine Kd.C_drew ?_)))
    (case side2 => exact (Kd.R_reads' HO119.out).2.1)
    (case side3 => repeat (first | exact (Kd.R_reads' HO124.out).2.2 | (with_reducible refine Kd.C_alloc ?_ _) | (with_reducible refine Kd.C_drewN ?_ _) | (with_reducible refine Kd.C_drew ?_)))
    (case side4 => exact (Kd.R_reads' HO124.out).2.1)
    rintro e w37 ⟨rfl, hb⟩
    refine ⟨_, rfl, ?_⟩
    have n0_ := Aside0.mk (Kd.R_below (kq_R HO_10.out) hb)
    have n1_ := Aside0.mk (Kd.R_below (kq_R HO119.out) hb)
    have n2_ := Aside0.mk (Kd.R_below (kq_R HO124.out) hb)
    have n3_ := Aside0.mk (below_step (hbq HB.out) hb)
    clear HO_10
    clear HO119
    clear HO124
    clear HB
    have HO_10 := n0_
    have HO119 := n1_
    have HO124 := n2_
    have HB := n3_
    clear n0_ n1_ n2_ n3_
    (try clear hb)
    (try clear hb2)
    (try clear hk)
    (try clear hi)
    refine hK.out _ _ ⟨((HB.out.cell (World.block_lt_of_cell? w _ hw120_0)).trans hw120_0), ((HB.out.cell (World.block_lt_of_cell? w _ hw121_0)).trans hw121_0)⟩ (fun hHeld => ?_)
    clear hK K
    refine norm_ (a' := ?_) ?_ ?_
    rotate_left
    ·show Act.put _ (some 38) _ = _
     simp only [Act.put, List.setIfInBounds_toArray, List.set_cons_zero, List.set_cons_succ, i64_w, i32_w]
     rfl
    refine pure_ (i := 13) (N := some 25) (v := ?_) (a' := ?_) (az [14, 4]) rfl rfl (any_of HT_.out (by kernel_rfl)) (fun _ _ _ h => h) (Or.inl ⟨by rfl, ?_⟩) ?_ ?_
    rotate_left
    ·intro w'
     go_simp
     with_reducible rfl
    rotate_left
    ·simp only [Act.put, List.setIfInBounds_toArray, List.set_cons_zero, List.set_cons_succ, i64_w, i32_w]
     rfl
    refine pure_ (i := 14) (N := some 39) (v := ?_) (a' := ?_) (az [15, 3]) rfl rfl (any_of HT_.out (by kernel_rfl)) (fun _ _ _ h => h) (Or.inl ⟨by rfl, ?_⟩) ?_ ?_
    rotate_left
    ·intro w'
     go_simp
     with_reducible rfl
    rotate_left
    ·simp only [Act.put, List.setIfInBounds_toArray, List.set_cons_zero, List.set_cons_succ, i64_w, i32_w]
     rfl
    refine pure_ (i := 15) (N := some 40) (v := ?_) (a' := ?_) (az [16, 2]) rfl rfl (any_of HT_.out (by kernel_rfl)) (fun _ _ _ h => h) (Or.inl ⟨by rfl, ?_⟩) ?_ ?_
    rotate_left
    ·intro w'
     go_simp
     with_reducible rfl
    rotate_left
    ·simp only [Act.put, List.setIfInBounds_toArray, List.set_cons_zero, List.set_cons_succ, i64_w, i32_w]
     rfl
    refine pure_ (i := 16) (N := some 12) (v := ?_) (a' := ?_) (az [17, 1]) rfl rfl (any_of HT_.out (by kernel_rfl)) (fun _ _ _ h => h) (Or.inl ⟨by rfl, ?_⟩) ?_ ?_
    rotate_left
    ·intro w'
     go_simp
     with_reducible rfl
    rotate_left
    ·simp only [Act.put, List.setIfInBounds_toArray, List.set_cons_zero, List.set_cons_succ, i64_w, i32_w]
     rfl
    refine pure_ (i := 17) (N := some 13) (v := ?_) (a' := ?_) (az [18]) rfl rfl (any_of HT_.out (by kernel_rfl)) (fun _ _ _ h => h) (Or.inl ⟨by rfl, ?_⟩) ?_ ?_
    rotate_left
    ·intro w'
     go_simp
     with_reducible rfl
    rotate_left
    ·simp only [Act.put, List.setIfInBounds_toArray, List.set_cons_zero, List.set_cons_succ, i64_w, i32_w]
     rfl
    refine done_ (done_of HT_.out (by kernel_rfl)) ?_
    have p28 : 0 ≤ (x22_1 : Int) := of_decide_eq_true (by first | (with_reducible assumption) | assumption)
    have q28 : (x22_1 : Int) < ((x10_1.length : Int) : Int) := of_decide_eq_true (by first | (with_reducible assumption) | assumption)
    obtain ⟨go28, co28, eo28, gb28, gl28, cl28, HG28⟩ := Kd.R_form HO_10.out (by omega)
    (first | cases eo28 | (injection eo28 with ea_ en_ ec_; (first | subst ea_ | (injection ea_ with ea_; subst ea_)); subst ec_; clear en_))
    have GB28 := Aside0.mk gb28
    have GG28 := Aside0.mk HG28
    clear gb28 gl28 HG28
    obtain ⟨hx28_0, hf28_0⟩ := Kd.R_celln 0 HO_10.out (x22_1 : Int) p28 q28
    replace p28 := eq_true p28
    replace q28 := eq_true q28
    obtain ⟨hy38_, hz38_⟩ := Kd.R_celln 0 HO_10.out (x22_1 : Int) (of_decide_eq_true (by first | (with_reducible assumption) | assumption)) (of_decide_eq_true (by first | (with_reducible assumption) | assumption))
    have HP38 := Kd.R_putg HO_10.out (x22_1 : Int) t125
    try go_wp2_with (first | ((with_reducible refine gate_store (t := 3) (p := 50) rfl ?_); refine store_event (t := 3) (p := 50) (v := ?vo_w39) (w1 := (w37.setCell ⟨go28, (x22_1 : Int).toNat, none⟩ (.int .i64 t125))) ?hg ?ho ?hn ?hr ?_; (case ho => rfl); (case hg => rfl); (case hn => rfl); (case hr => first | (go_simp; done) | (go_simp; rfl)); intro w39 hw; have hg : w37.grownBy w39 (some go28) := (by rw [hw]; exact HP38.2); have hp_ : Kd.R (Kd.int .i64) 3 w39 w.heap.size (fun k_ => some k_ ≠ (.slice Ao35 y117.length co35 : Value).ownBlock ∧ some k_ ≠ (.slice Ao36 y122.length co36 : Value).ownBlock) (.slice (some ⟨go28, 0, none⟩) x10_1.length co10) y127 := (by rw [hw, Ny127.out]; exact HP38.1); clear HP38; have n0_ := Aside0.mk (hp_); have n1_ := Aside0.mk (Kd.R_after (v := (.slice (some ⟨go28, 0, none⟩) x10_1.length co10)) (v1 := (.slice (some ⟨go28, 0, none⟩) x10_1.length co10)) (ok := (fun k_ => some k_ ≠ (.slice Ao36 y122.length co36 : Value).ownBlock)) (kq_R HO119.out) hg (.inl rfl)); have n2_ := Aside0.mk (Kd.R_after (v := (.slice (some ⟨go28, 0, none⟩) x10_1.length co10)) (v1 := (.slice (some ⟨go28, 0, none⟩) x10_1.length co10)) (ok := (fun k_ => some k_ ≠ (.slice Ao35 y117.length co35 : Value).ownBlock)) (kq_R HO124.out) hg (.inl rfl)); have n3_ := Aside0.mk ((by rw [hw]; exact below_set (HB.out) GB28.out : Below w.heap.size w w39)); clear HO_10; clear HO119; clear HO124; clear HB; have HO_10 := n0_; have HO119 := n1_; have HO124 := n2_; have HB := n3_; clear n0_ n1_ n2_ n3_; clear hg hw hp_))
    (try simp only [← hl10_1])
    go_roundg k1
    case measure => have := HK1.out; omega
    case rel => exact ⟨(y127), (wrap64 (x22_1 + 1)), (by first | rfl | (simp; done) | (simp [*]; done)), H', ⟨by have := HK1.out; omega⟩, ⟨by (try simp only [hl10_1]); refine kq_R ?_; exact Kd.R_mono HO_10.out (fun _ hk => trivial)⟩, ⟨hbq HB.out⟩⟩
   replace c16 := Bool.eq_false_iff.mpr c16
   subst c16
   have H1 : (some (([] : List Int), false)) = some (r1, r2) := by rw [if_neg (show ¬ (false = true) by decide)] at H; exact H
   clear H
   have H := H1
   clear H1
   simp only [Option.some.injEq, Prod.mk.injEq] at H
   obtain ⟨rfl, rfl⟩ := H
   try go_wp2
   have n0_ := Aside0.mk (Kd.R_drew HO_10.out)
   have n1_ := Aside0.mk (below_drew1 HB.out)
   clear HO_10
   clear HB
   have HO_10 := n0_
   have HB := n1_
   clear n0_ n1_
   have p120 : 0 ≤ (x22_1 : Int) := of_decide_eq_true (by first | (with_reducible assumption) | assumption)
   have q120 : x22_1 < (l1.length : Int) := of_decide_eq_true (by first | (with_reducible assumption) | assumption)
   obtain ⟨ad120, e120, hx120_0⟩ := Kd.at_int HR1.out x22_1 p120 q120
   have hw120_0 := hx120_0
   cases e120
   replace hx120_0 := (HB.out.cell (World.block_lt_of_cell? w _ hx120_0)).trans hx120_0
   replace p120 := eq_true p120
   replace q120 := eq_true q120
   have p121 : 0 ≤ (x22_1 : Int) := of_decide_eq_true (by first | (with_reducible assumption) | assumption)
   have q121 : x22_1 < (l3.length : Int) := of_decide_eq_true (by first | (with_reducible assumption) | assumption)
   obtain ⟨ad121, e121, hx121_0⟩ := Kd.at_int HR3.out x22_1 p121 q121
   have hw121_0 := hx121_0
   cases e121
   replace hx121_0 := (HB.out.cell (World.block_lt_of_cell? w _ hx121_0)).trans hx121_0
   replace p121 := eq_true p121
   replace q121 := eq_true q121
   refine start_ (n := 18) (S := fun w' => w'.cell? (ad120.add (x22_1).toNat) = some (.int .i64 (rd l1 x22_1)) ∧ w'.cell? (ad121.add (x22_1).toNat) = some (.int .i64 (rd l3 x22_1))) (ds := []) (az [0, 18]) (by kernel_rfl) rfl rfl ⟨((HB.out.cell (World.block_lt_of_cell? w _ hw120_0)).trans hw120_0), ((HB.out.cell (World.block_lt_of_cell? w _ hw121_0)).trans hw121_0)⟩ (fun hHeld => ?_); refine with_tabW whole_Mix.tab5 whole_Mix.bits5 (fun HT_ HW_ => ?_)
   generalize wr.drew = w40 at HO_10 HB hx120_0 hx121_0 hHeld ⊢
   refine pure_ (i := 0) (N := some 26) (v := ?_) (a' := ?_) (az [1, 17]) rfl rfl (any_of HT_.out (by kernel_rfl)) (fun _ _ _ h => h) (Or.inl ⟨by rfl, ?_⟩) ?_ ?_
   rotate_left
   ·intro w'
    go_simp
    with_reducible rfl
   rotate_left
   ·simp only [Act.put, List.setIfInBounds_toArray, List.set_cons_zero, List.set_cons_succ, i64_w, i32_w]
    rfl
   refine pure_ (i := 1) (N := some 27) (v := ?_) (a' := ?_) (az [2, 16]) rfl rfl (any_of HT_.out (by kernel_rfl)) (fun _ _ _ h => h) (Or.inl ⟨by rfl, ?_⟩) ?_ ?_
   rotate_left
   ·intro w'
    go_simp
    with_reducible rfl
   rotate_left
   ·simp only [Act.put, List.setIfInBounds_toArray, List.set_cons_zero, List.set_cons_succ, i64_w, i32_w]
    rfl
   refine pure_ (i := 3) (N := some 29) (v := ?_) (a' := ?_) (az [2, 1, 1, 14]) rfl rfl (any_of HT_.out (by kernel_rfl)) (fun _ _ _ h => h) (Or.inl ⟨by rfl, ?_⟩) ?_ ?_
   rotate_left
   ·intro w'
    go_simp
    with_reducible rfl
   rotate_left
   ·simp only [Act.put, List.setIfInBounds_toArray, List.set_cons_zero, List.set_cons_succ, i64_w, i32_w]
    rfl
   refine pure_ (i := 4) (N := some 30) (v := ?_) (a' := ?_) (az [2, 1, 2, 13]) rfl rfl (any_of HT_.out (by kernel_rfl)) (fun _ _ _ h => h) (Or.inl ⟨by rfl, ?_⟩) ?_ ?_
   rotate_left
   ·intro w'
    go_simp
    with_reducible rfl
   rotate_left
   ·simp only [Act.put, List.setIfInBounds_toArray, List.set_cons_zero, List.set_cons_succ, i64_w, i32_w]
    rfl
   refine pure_ (i := 5) (N := some 31) (v := ?_) (a' := ?_) (az [2, 1, 3, 12]) rfl rfl (any_of HT_.out (by kernel_rfl)) (fun _ _ _ h => h) (Or.inl ⟨by rfl, ?_⟩) ?_ ?_
   rotate_left
   ·intro w'
    go_simp
    with_reducible rfl
   rotate_left
   ·simp only [Act.put, List.setIfInBounds_toArray, List.set_cons_zero, List.set_cons_succ, i64_w, i32_w]
    rfl
   refine pure_ (i := 7) (N := some 33) (v := ?_) (a' := ?_) (az [2, 1, 3, 1, 1, 10]) rfl rfl (any_of HT_.out (by kernel_rfl)) (fun _ _ _ h => h) (Or.inl ⟨by rfl, ?_⟩) ?_ ?_
   rotate_left
   ·intro w'
    go_simp
    with_reducible rfl
   rotate_left
   ·simp only [Act.put, List.setIfInBounds_toArray, List.set_cons_zero, List.set_cons_succ, i64_w, i32_w]
    rfl
   refine pure_ (i := 8) (N := some 34) (v := ?_) (a' := ?_) (az [2, 1, 3, 1, 2, 9]) rfl rfl (any_of HT_.out (by kernel_rfl)) (fun _ _ _ h => h) (Or.inl ⟨by rfl, ?_⟩) ?_ ?_
   rotate_left
   ·intro w'
    go_simp
    with_reducible rfl
   rotate_left
   ·simp only [Act.put, List.setIfInBounds_toArray, List.set_cons_zero, List.set_cons_succ, i64_w, i32_w]
    rfl
   refine pure_ (i := 9) (N := some 35) (v := ?_) (a' := ?_) (az [2, 1, 3, 1, 3, 8]) rfl rfl (any_of HT_.out (by kernel_rfl)) (fun _ _ _ h => h) (Or.inl ⟨by rfl, ?_⟩) ?_ ?_
   rotate_left
   ·intro w'
    go_simp
    with_reducible rfl
   rotate_left
   ·simp only [Act.put, List.setIfInBounds_toArray, List.set_cons_zero, List.set_cons_succ, i64_w, i32_w]
    rfl
   refine take_ (i := 6) (N := some 32) (v := ?_) (a' := ?_) (az [2, 1, 7, 8]) rfl rfl (take_ofW HT_.out HW_.out (by kernel_rfl)) (fun _ _ _ h => h) (Or.inl ⟨by rfl, ?_⟩) hHeld ?_ ?_
   rotate_left
   ·rintro w' ⟨s0, s1⟩
    go_simp
    with_reducible rfl
   rotate_left
   ·simp only [Act.put, List.setIfInBounds_toArray, List.set_cons_zero, List.set_cons_succ, i64_w, i32_w]
    rfl
   refine take_ (i := 10) (N := some 36) (v := ?_) (a' := ?_) (az [2, 1, 8, 7]) rfl rfl (take_ofW HT_.out HW_.out (by kernel_rfl)) (fun _ _ _ h => h) (Or.inl ⟨by rfl, ?_⟩) hHeld ?_ ?_
   rotate_left
   ·rintro w' ⟨s0, s1⟩
    go_simp
    with_reducible rfl
   rotate_left
   ·simp only [Act.put, List.setIfInBounds_toArray, List.set_cons_zero, List.set_cons_succ, i64_w, i32_w]
    rfl
   refine join_ (σ := Value × Value) 6 (az [12, 6]) (fun s_ => [(28, s_.1), (37, s_.2)]) (fun s_ w' => (w'.cell? (ad120.add (x22_1).toNat) = some (.int .i64 (rd l1 x22_1)) ∧ w'.cell? (ad121.add (x22_1).toNat) = some (.int .i64 (rd l3 x22_1))) ∧ (Kd.R (Kd.int .i64) 3 w' w.heap.size (fun k_ => some k_ ≠ (s_.2 : Value).ownBlock ∧ some k_ ≠ (.slice Ao10 x10_1.length co10 : Value).ownBlock) s_.1 y117) ∧ (Kd.R (Kd.int .i64) 3 w' w.heap.size (fun k_ => some k_ ≠ (s_.1 : Value).ownBlock ∧ some k_ ≠ (.slice Ao10 x10_1.length co10 : Value).ownBlock) s_.2 y122) ∧ (Kd.R (Kd.int .i64) 3 w' w.heap.size (fun k_ => some k_ ≠ (s_.1 : Value).ownBlock ∧ some k_ ≠ (s_.2 : Value).ownBlock) (.slice Ao10 x10_1.length co10) x10_1) ∧ (Below w.heap.size w w')) ?_ ?_
   rotate_left
   ·intro hCont
    refine two_ (i := 2) (j := 11) (Ni := some 28) (Nj := some 37) (az [11, 7]) (az [2, 1, 9, 6]) rfl rfl rfl rfl (two_of HT_.out (by kernel_rfl)) (by decide) (by decide) (fun K hK => ?_) (fun K hK => ?_)
    ·skip
     refine Kd.R_lit_step (Kd.int .i64) _ 3 ?hg (N := 28) ?hd (xs := ([a0, a2] : List Int)) (inner := [.int .i64 a0, .int .i64 a2]) (ok := fun _ => True) (okp := fun _ => True) ?hr ?hp (fun _ hk => hk) trivial (Below.refl _ _) (Nat.le_refl _) (by simp) ?_; (case hd => rfl); (case hg => rfl); (case hr => first | (go_simp; done) | (go_simp; rfl)); (case hp => exact (Reps.one (show Kd.M (Kd.int .i64) _ _ _ a0 [.int .i64 a0] from rfl) (Reps.one (show Kd.M (Kd.int .i64) _ _ _ a2 [.int .i64 a2] from rfl) (Reps.none _ _))))
     intro v118 w41 ho42 hb hg_ hnew_
     clear hg_ hnew_
     (first | rw [← Ny117.out] at ho42 | (simp only [Int.reduceToNat] at ho42; rw [← Ny117.out] at ho42))
     have n0_ := Aside0.mk (Kd.R_elder' (kq_R HO_10.out) (Kd.R_base ho42) hb)
     have n1_ := Aside0.mk (Kd.R_lower (Kd.R_new' ho42 (Kd.R_lt (kq_R HO_10.out))) (below_size (hbq HB.out)))
     have n2_ := Aside0.mk (below_step (hbq HB.out) hb)
     clear HO_10
     clear HB
     have HO_10 := n0_
     have HO119 := n1_
     have HB := n2_
     clear n0_ n1_ n2_
     clear hb ho42
     refine hK.out _ _ ⟨((HB.out.cell (World.block_lt_of_cell? w _ hw120_0)).trans hw120_0), ((HB.out.cell (World.block_lt_of_cell? w _ hw121_0)).trans hw121_0)⟩ (fun hHeld => ?_)
     clear hK K
     refine norm_ (a' := ?_) ?_ ?_
     rotate_left
     ·show Act.put _ (some 28) _ = _
      simp only [Act.put, List.setIfInBounds_toArray, List.set_cons_zero, List.set_cons_succ, i64_w, i32_w]
      rfl
     refine one_ (i := 11) (N := some 37) (az [12, 6]) rfl rfl (one_of HT_.out (by kernel_rfl)) (by decide) (fun K hK => ?_)
     refine Kd.R_lit_step (Kd.int .i64) _ 3 ?hg (N := 37) ?hd (xs := ([rd l1 x22_1, rd l3 x22_1] : List Int)) (inner := [.int .i64 (rd l1 x22_1), .int .i64 (rd l3 x22_1)]) (ok := fun _ => True) (okp := fun _ => True) ?hr ?hp (fun _ hk => hk) trivial (Below.refl _ _) (Nat.le_refl _) (by simp) ?_; (case hd => rfl); (case hg => rfl); (case hr => first | (go_simp; done) | (go_simp; rfl)); (case hp => exact (Reps.one (show Kd.M (Kd.int .i64) _ _ _ (rd l1 x22_1) [.int .i64 (rd l1 x22_1)] from rfl) (Reps.one (show Kd.M (Kd.int .i64) _ _ _ (rd l3 x22_1) [.int .i64 (rd l3 x22_1)] from rfl) (Reps.none _ _))))
     intro v123 w43 ho44 hb hg_ hnew_
     clear hg_ hnew_
     (first | rw [← Ny122.out] at ho44 | (simp only [Int.reduceToNat] at ho44; rw [← Ny122.out] at ho44))
     have n0_ := Aside0.mk (Kd.R_elder' (kq_R HO_10.out) (Kd.R_base ho44) hb)
     have n1_ := Aside0.mk (Kd.R_elder' (kq_R HO119.out) (Kd.R_base ho44) hb)
     have n2_ := Aside0.mk (Kd.R_lower (Kd.R_new' (Kd.R_new' ho44 (Kd.R_lt (kq_R HO_10.out))) (Kd.R_lt (kq_R HO119.out))) (below_size (hbq HB.out)))
     have n3_ := Aside0.mk (below_step (hbq HB.out) hb)
     clear HO_10
     clear HO119
     clear HB
     have HO_10 := n0_
     have HO119 := n1_
     have HO124 := n2_
     have HB := n3_
     clear n0_ n1_ n2_ n3_
     clear hb ho44
     refine hK.out _ _ ⟨((HB.out.cell (World.block_lt_of_cell? w _ hw120_0)).trans hw120_0), ((HB.out.cell (World.block_lt_of_cell? w _ hw121_0)).trans hw121_0)⟩ (fun hHeld => ?_)
     clear hK K
     refine norm_ (a' := ?_) ?_ ?_
     rotate_left
     ·show Act.put _ (some 37) _ = _
      simp only [Act.put, List.setIfInBounds_toArray, List.set_cons_zero, List.set_cons_succ, i64_w, i32_w]
      rfl
     exact norm_ (by simp only [putAll, Act.put, List.setIfInBounds_toArray, List.set_cons_zero, List.set_cons_succ]) (hCont (v118, v123) _ ⟨hHeld, (by refine kq_R ?_; exact Kd.R_mono HO119.out (fun _ hk => ⟨hk.2, hk.1.2⟩)), (by refine kq_R ?_; exact Kd.R_mono HO124.out (fun _ hk => ⟨hk.2, hk.1.2⟩)), (by refine kq_R ?_; exact Kd.R_mono HO_10.out (fun _ hk => ⟨hk.1.2, hk.2⟩)), (hbq HB.out)⟩)
    ·skip
     refine Kd.R_lit_step (Kd.int .i64) _ 3 ?hg (N := 37) ?hd (xs := ([rd l1 x22_1, rd l3 x22_1] : List Int)) (inner := [.int .i64 (rd l1 x22_1), .int .i64 (rd l3 x22_1)]) (ok := fun _ => True) (okp := fun _ => True) ?hr ?hp (fun _ hk => hk) trivial (Below.refl _ _) (Nat.le_refl _) (by simp) ?_; (case hd => rfl); (case hg => rfl); (case hr => first | (go_simp; done) | (go_simp; rfl)); (case hp => exact (Reps.one (show Kd.M (Kd.int .i64) _ _ _ (rd l1 x22_1) [.int .i64 (rd l1 x22_1)] from rfl) (Reps.one (show Kd.M (Kd.int .i64) _ _ _ (rd l3 x22_1) [.int .i64 (rd l3 x22_1)] from rfl) (Reps.none _ _))))
     intro v123 w41 ho42 hb hg_ hnew_
     clear hg_ hnew_
     (first | rw [← Ny122.out] at ho42 | (simp only [Int.reduceToNat] at ho42; rw [← Ny122.out] at ho42))
     have n0_ := Aside0.mk (Kd.R_elder' (kq_R HO_10.out) (Kd.R_base ho42) hb)
     have n1_ := Aside0.mk (Kd.R_lower (Kd.R_new' ho42 (Kd.R_lt (kq_R HO_10.out))) (below_size (hbq HB.out)))
     have n2_ := Aside0.mk (below_step (hbq HB.out) hb)
     clear HO_10
     clear HB
     have HO_10 := n0_
     have HO124 := n1_
     have HB := n2_
     clear n0_ n1_ n2_
     clear hb ho42
     refine hK.out _ _ ⟨((HB.out.cell (World.block_lt_of_cell? w _ hw120_0)).trans hw120_0), ((HB.out.cell (World.block_lt_of_cell? w _ hw121_0)).trans hw121_0)⟩ (fun hHeld => ?_)
     clear hK K
     refine norm_ (a' := ?_) ?_ ?_
     rotate_left
     ·show Act.put _ (some 37) _ = _
      simp only [Act.put, List.setIfInBounds_toArray, List.set_cons_zero, List.set_cons_succ, i64_w, i32_w]
      rfl
     refine one_ (i := 2) (N := some 28) (az [12, 6]) rfl rfl (one_of HT_.out (by kernel_rfl)) (by decide) (fun K hK => ?_)
     refine Kd.R_lit_step (Kd.int .i64) _ 3 ?hg (N := 28) ?hd (xs := ([a0, a2] : List Int)) (inner := [.int .i64 a0, .int .i64 a2]) (ok := fun _ => True) (okp := fun _ => True) ?hr ?hp (fun _ hk => hk) trivial (Below.refl _ _) (Nat.le_refl _) (by simp) ?_; (case hd => rfl); (case hg => rfl); (case hr => first | (go_simp; done) | (go_simp; rfl)); (case hp => exact (Reps.one (show Kd.M (Kd.int .i64) _ _ _ a0 [.int .i64 a0] from rfl) (Reps.one (show Kd.M (Kd.int .i64) _ _ _ a2 [.int .i64 a2] from rfl) (Reps.none _ _))))
     intro v118 w43 ho44 hb hg_ hnew_
     clear hg_ hnew_
     (first | rw [← Ny117.out] at ho44 | (simp only [Int.reduceToNat] at ho44; rw [← Ny117.out] at ho44))
     have n0_ := Aside0.mk (Kd.R_elder' (kq_R HO_10.out) (Kd.R_base ho44) hb)
     have n1_ := Aside0.mk (Kd.R_elder' (kq_R HO124.out) (Kd.R_base ho44) hb)
     have n2_ := Aside0.mk (Kd.R_lower (Kd.R_new' (Kd.R_new' ho44 (Kd.R_lt (kq_R HO_10.out))) (Kd.R_lt (kq_R HO124.out))) (below_size (hbq HB.out)))
     have n3_ := Aside0.mk (below_step (hbq HB.out) hb)
     clear HO_10
     clear HO124
     clear HB
     have HO_10 := n0_
     have HO124 := n1_
     have HO119 := n2_
     have HB := n3_
     clear n0_ n1_ n2_ n3_
     clear hb ho44
     refine hK.out _ _ ⟨((HB.out.cell (World.block_lt_of_cell? w _ hw120_0)).trans hw120_0), ((HB.out.cell (World.block_lt_of_cell? w _ hw121_0)).trans hw121_0)⟩ (fun hHeld => ?_)
     clear hK K
     refine norm_ (a' := ?_) ?_ ?_
     rotate_left
     ·show Act.put _ (some 28) _ = _
      simp only [Act.put, List.setIfInBounds_toArray, List.set_cons_zero, List.set_cons_succ, i64_w, i32_w]
      rfl
     exact norm_ (by simp only [putAll, Act.put, List.setIfInBounds_toArray, List.set_cons_zero, List.set_cons_succ]) (hCont (v118, v123) _ ⟨hHeld, (by refine kq_R ?_; exact Kd.R_mono HO119.out (fun _ hk => ⟨hk.2, hk.1.2⟩)), (by refine kq_R ?_; exact Kd.R_mono HO124.out (fun _ hk => ⟨hk.2, hk.1.2⟩)), (by refine kq_R ?_; exact Kd.R_mono HO_10.out (fun _ hk => ⟨hk.2, hk.1.2⟩)), (hbq HB.out)⟩)
   rintro ⟨v118, v123⟩ w45 ⟨hS_, h0_, h1_, h2_, h3_⟩
   have n0_ : Aside0 (Kd.R (Kd.int .i64) 3 w45 w.heap.size (fun k_ => some k_ ≠ (v123 : Value).ownBlock ∧ some k_ ≠ (.slice Ao10 x10_1.length co10 : Value).ownBlock) v118 y117) := ⟨h0_⟩
   have n1_ : Aside0 (Kd.R (Kd.int .i64) 3 w45 w.heap.size (fun k_ => some k_ ≠ (v118 : Value).ownBlock ∧ some k_ ≠ (.slice Ao10 x10_1.length co10 : Value).ownBlock) v123 y122) := ⟨h1_⟩
   have n2_ : Aside0 (Kd.R (Kd.int .i64) 3 w45 w.heap.size (fun k_ => some k_ ≠ (v118 : Value).ownBlock ∧ some k_ ≠ (v123 : Value).ownBlock) (.slice Ao10 x10_1.length co10) x10_1) := ⟨h2_⟩
   have n3_ : Aside0 (Below w.heap.size w w45) := ⟨h3_⟩
   clear HO_10
   clear HB
   clear h0_ h1_ h2_ h3_
   have HO119 := n0_
   have HO124 := n1_
   have HO_10 := n2_
   have HB := n3_
   clear n0_ n1_ n2_ n3_
   have hHeld : w45.cell? (ad120.add (x22_1).toNat) = some (.int .i64 (rd l1 x22_1)) ∧ w45.cell? (ad121.add (x22_1).toNat) = some (.int .i64 (rd l3 x22_1)) := hS_
   obtain ⟨Ao46, co46, eo46⟩ := Kd.R_slice HO119.out
   (first | subst eo46 | (injection eo46 with f1_ f2_ f3_; have f4_ := f1_.symm; have f5_ := f3_.symm; clear f1_ f2_ f3_; subst f4_; subst f5_))
   obtain ⟨Ao47, co47, eo47⟩ := Kd.R_slice HO124.out
   (first | subst eo47 | (injection eo47 with f1_ f2_ f3_; have f4_ := f1_.symm; have f5_ := f3_.symm; clear f1_ f2_ f3_; subst f4_; subst f5_))
   refine norm_ (a' := ?_) ?_ ?_
   rotate_left
   ·simp only [putAll, Act.put, List.setIfInBounds_toArray, List.set_cons_zero, List.set_cons_succ]
    rfl
   refine one_ (i := 12) (N := some 38) (az [13, 5]) rfl rfl (one_of HT_.out (by kernel_rfl)) (by decide) (fun K hK => ?_)
   refine goes_ Try.func44 (by kernel_rfl) rfl #[.slice Ao46 y117.length co46, .slice Ao47 y122.length co47] (by rfl) rfl rfl (by (try simp only [List.map_toArray, List.map_cons, List.map_nil]); first | done | rfl | (simp only [List.length_drop, List.length_take]; rfl)) ?_
   with_reducible refine (whole_Dot.calls k1 _ _ y117 _ _ y122 t125 false _ ?side1 ?side2 ?side3 ?side4 A15.out).mono ?_
   (case side1 => repeat (first | exact (Kd.R_reads' HO119.out).2.2 | (with_reducible refine Kd.C_alloc ?_ _) | (with_reducible refine Kd.C_drewN ?_ _) | (with_reducible refine Kd.C_drew ?_)))
   (case side2 => exact (Kd.R_reads' HO119.out).2.1)
   (case side3 => repeat (first | exact (Kd.R_reads' HO124.out).2.2 | (with_reducible refine Kd.C_alloc ?_ _) | (with_reducible refine Kd.C_drewN ?_ _) | (with_reducible refine Kd.C_drew ?_)))
   (case side4 => exact (Kd.R_reads' HO124.out).2.1)
   rintro e w48 ⟨rfl, hb⟩
   refine ⟨_, rfl, ?_⟩
   have n0_ := Aside0.mk (Kd.R_below (kq_R HO_10.out) hb)
   have n1_ := Aside0.mk (Kd.R_below (kq_R HO119.out) hb)
   have n2_ := Aside0.mk (Kd.R_below (kq_R HO124.out) hb)
   have n3_ := Aside0.mk (below_step (hbq HB.out) hb)
   clear HO_10
   clear HO119
   clear HO124
   clear HB
   have HO_10 := n0_
   have HO119 := n1_
   have HO124 := n2_
   have HB := n3_
   clear n0_ n1_ n2_ n3_
   (try clear hb)
   (try clear hb2)
   (try clear hk)
   (try clear hi)
   refine hK.out _ _ ⟨((HB.out.cell (World.block_lt_of_cell? w _ hw120_0)).trans hw120_0), ((HB.out.cell (World.block_lt_of_cell? w _ hw121_0)).trans hw121_0)⟩ (fun hHeld => ?_)
   clear hK K
   refine norm_ (a' := ?_) ?_ ?_
   rotate_left
   ·show Act.put _ (some 38) _ = _
    simp only [Act.put, List.setIfInBounds_toArray, List.set_cons_zero, List.set_cons_succ, i64_w, i32_w]
    rfl
   refine pure_ (i := 13) (N := some 25) (v := ?_) (a' := ?_) (az [14, 4]) rfl rfl (any_of HT_.out (by kernel_rfl)) (fun _ _ _ h => h) (Or.inl ⟨by rfl, ?_⟩) ?_ ?_
   rotate_left
   ·intro w'
    go_simp
    with_reducible rfl
   rotate_left
   ·simp only [Act.put, List.setIfInBounds_toArray, List.set_cons_zero, List.set_cons_succ, i64_w, i32_w]
    rfl
   refine pure_ (i := 14) (N := some 39) (v := ?_) (a' := ?_) (az [15, 3]) rfl rfl (any_of HT_.out (by kernel_rfl)) (fun _ _ _ h => h) (Or.inl ⟨by rfl, ?_⟩) ?_ ?_
   rotate_left
   ·intro w'
    go_simp
    with_reducible rfl
   rotate_left
   ·simp only [Act.put, List.setIfInBounds_toArray, List.set_cons_zero, List.set_cons_succ, i64_w, i32_w]
    rfl
   refine pure_ (i := 15) (N := some 40) (v := ?_) (a' := ?_) (az [16, 2]) rfl rfl (any_of HT_.out (by kernel_rfl)) (fun _ _ _ h => h) (Or.inl ⟨by rfl, ?_⟩) ?_ ?_
   rotate_left
   ·intro w'
    go_simp
    with_reducible rfl
   rotate_left
   ·simp only [Act.put, List.setIfInBounds_toArray, List.set_cons_zero, List.set_cons_succ, i64_w, i32_w]
    rfl
   refine pure_ (i := 16) (N := some 12) (v := ?_) (a' := ?_) (az [17, 1]) rfl rfl (any_of HT_.out (by kernel_rfl)) (fun _ _ _ h => h) (Or.inl ⟨by rfl, ?_⟩) ?_ ?_
   rotate_left
   ·intro w'
    go_simp
    with_reducible rfl
   rotate_left
   ·simp only [Act.put, List.setIfInBounds_toArray, List.set_cons_zero, List.set_cons_succ, i64_w, i32_w]
    rfl
   refine pure_ (i := 17) (N := some 13) (v := ?_) (a' := ?_) (az [18]) rfl rfl (any_of HT_.out (by kernel_rfl)) (fun _ _ _ h => h) (Or.inl ⟨by rfl, ?_⟩) ?_ ?_
   rotate_left
   ·intro w'
    go_simp
    with_reducible rfl
   rotate_left
   ·simp only [Act.put, List.setIfInBounds_toArray, List.set_cons_zero, List.set_cons_succ, i64_w, i32_w]
    rfl
   refine done_ (done_of HT_.out (by kernel_rfl)) ?_
   try go_wp2
   go_ret2
   exact ⟨_, by first | rfl | (simp [errW_none, errW_some] <;> rfl) | (simp only [← hji5]; first | rfl | (simp [errW_none, errW_some] <;> rfl)) | (simp [*, errW_none, errW_some] <;> rfl), by first | exact Kd.R_nil _ _ _ _ _ | exact Kd.N_nil _ _ _ _ _ | exact Kd.V_nil _ _ _ _ _ | exact Kd.Q_nil _ _ _ _ _ | exact Kd.S_nil _ _ _ _ _, hbq HB.out⟩
  rw [if_neg c11] at H
  have c11b0 : decide (x22_1 < (y114.length : Int)) = false := decide_eq_false c11
  (try (have c11g0 := c11b0; simp only [hl10_1] at c11g0))
  clear c11
  simp only [Option.some.injEq, Prod.mk.injEq] at H
  obtain ⟨rfl, rfl⟩ := H
  go_wp2
  go_ret2
  exact ⟨_, by first | rfl | (simp [errW_none, errW_some] <;> rfl) | (simp only [← hji5]; first | rfl | (simp [errW_none, errW_some] <;> rfl)) | (simp [*, errW_none, errW_some] <;> rfl), by refine kq_R ?_; exact HO_10.out, hbq HB.out⟩

end Go.Proofs.Ytifbflpaednfnaa.PBasisMore
