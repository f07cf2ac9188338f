/- What the functions that this law reaches answer, in whatever memory, and the row of the law; no condition. Written by a program of this session (mk.sh). -/
import Derived.Test.YtifbflpaednfnaaPBasisNonex0
import Derived.Test.YtifbflpaednfnaaPBasisNonex7
import Derived.Test.YtifbflpaednfnaaPBasisNonex9
namespace Go.Proofs.Ytifbflpaednfnaa.PBasisNone
open Go.RowKit Go.Proofs.YtifbflpaednfnaaW.PrintWords Go.Proofs.YtifbflpaednfnaaW.PrintLast Go.Proofs.YtifbflpaednfnaaW.PrintMore
attribute [local go_sem] max2_int min2_int max_two min_two max_three min_three max_four min_four   -- for this text's walks alone
set_option linter.unusedVariables false
set_option linter.unusedSimpArgs false

/-! ### marblerunlaw12_BasisNone: function 4 -/
mutual
def marblerunlaw12_BasisNone.l0 : Nat → Int → Int → Int → List (List Int) → List (List Int) → Int → Option (Bool)
  | 0, _, _, _, _, _, _ => none
  | k + 1, x2, x7, x8, x9, x10, x11 => if x11 < x7 then (if 0 ≤ x8 then (if (x8 : Int).toNat ≤ 35184372088832 then (if x9.length < 5864062014805 then (marblerunlaw12_BasisNone.l1 k x2 x7 x8 (x9 ++ [(List.replicate (x8 : Int).toNat 0)]) x10 x11 (List.replicate (x8 : Int).toNat 0) 0) else (none)) else (none)) else (none)) else ((basis_Find.f k x9).bind fun bt338 => ((basis_Find.f k x10).bind fun bt342 => (if bt338.2 = 0 then (if bt342.2 = 0 then (marblerunlaw12_BasisNone.j2 k x7 x8 bt338.1 bt342.1 ((bt338.1.length : Int) != x7)) else (marblerunlaw12_BasisNone.j2 k x7 x8 bt338.1 bt342.1 true)) else (marblerunlaw12_BasisNone.j2 k x7 x8 bt338.1 bt342.1 true))))
def marblerunlaw12_BasisNone.l1 : Nat → Int → Int → Int → List (List Int) → List (List Int) → Int → List Int → Int → Option (Bool)
  | 0, _, _, _, _, _, _, _, _ => none
  | k + 1, x2, x7, x8, x9, x10, x11, x12, x13 => if x13 < x8 then (if 0 ≤ x13 then (if x13 < (x12.length : Int) then (marblerunlaw12_BasisNone.l1 k x2 x7 x8 x9 x10 x11 (x12.set (x13 : Int).toNat (wrap64 ((wrap64 (1 + (wrap64 (x2)))) + x11))) (wrap64 (x13 + 1))) else (none)) else (none)) else (if x10.length < 5864062014805 then (marblerunlaw12_BasisNone.l0 k x2 x7 x8 x9 (x10 ++ [x12]) (wrap64 (x11 + 1))) else (none))
def marblerunlaw12_BasisNone.j2 : Nat → Int → Int → List (List Int) → List (List Int) → Bool → Option (Bool)
  | 0, _, _, _, _, _ => none
  | k + 1, x7, x8, x14, x16, x77 => if x77 = true then (some false) else (marblerunlaw12_BasisNone.l2 k x7 x8 x14 x16 0)
def marblerunlaw12_BasisNone.l2 : Nat → Int → Int → List (List Int) → List (List Int) → Int → Option (Bool)
  | 0, _, _, _, _, _ => none
  | k + 1, x7, x8, x14, x16, x18 => if x18 < x7 then (marblerunlaw12_BasisNone.l3 k x7 x8 x14 x16 x18 0) else ((marblerunlaw12_awake.f k).bind fun t346 => (if t346 = true then (if x8 > 0 then (if (((x16.length : Int) == 0) == true) = true then (some true) else (some false)) else (if (((x16.length : Int) == 0) == (x7 == 0)) = true then (some ((x16.length : Int) == x7)) else (some false))) else (some false)))
def marblerunlaw12_BasisNone.l3 : Nat → Int → Int → List (List Int) → List (List Int) → Int → Int → Option (Bool)
  | 0, _, _, _, _, _, _ => none
  | k + 1, x7, x8, x14, x16, x18, x19 => if x19 < x7 then (if x18 = x19 then (if 0 ≤ x18 then (if x18 < (x14.length : Int) then (if 0 ≤ x19 then (if x19 < ((rd_L1 x14 x18).length : Int) then (if (rd (rd_L1 x14 x18) x19) = 1 then (marblerunlaw12_BasisNone.l3 k x7 x8 x14 x16 x18 (wrap64 (x19 + 1))) else (some false)) else (none)) else (none)) else (none)) else (none)) else (if 0 ≤ x18 then (if x18 < (x14.length : Int) then (if 0 ≤ x19 then (if x19 < ((rd_L1 x14 x18).length : Int) then (if (rd (rd_L1 x14 x18) x19) = 0 then (marblerunlaw12_BasisNone.l3 k x7 x8 x14 x16 x18 (wrap64 (x19 + 1))) else (some false)) else (none)) else (none)) else (none)) else (none))) else (marblerunlaw12_BasisNone.l2 k x7 x8 x14 x16 (wrap64 (x18 + 1)))
end
def marblerunlaw12_BasisNone.f (k : Nat) (a0 : Int) (a1 : Int) (a2 : Int) : Option (Bool) := marblerunlaw12_BasisNone.l0 k a2 (wrap64 (Int.tmod a0 7)) (wrap64 (Int.tmod a1 5)) ([] : List (List Int)) ([] : List (List Int)) 0
theorem marblerunlaw12_BasisNone.mono_l : ∀ k, (∀ y0 y1 y2 y3 y4 y5, LeO (marblerunlaw12_BasisNone.l0 k y0 y1 y2 y3 y4 y5) (marblerunlaw12_BasisNone.l0 (k + 1) y0 y1 y2 y3 y4 y5)) ∧ (∀ y0 y1 y2 y3 y4 y5 y6 y7, LeO (marblerunlaw12_BasisNone.l1 k y0 y1 y2 y3 y4 y5 y6 y7) (marblerunlaw12_BasisNone.l1 (k + 1) y0 y1 y2 y3 y4 y5 y6 y7)) ∧ (∀ y0 y1 y2 y3 y4, LeO (marblerunlaw12_BasisNone.j2 k y0 y1 y2 y3 y4) (marblerunlaw12_BasisNone.j2 (k + 1) y0 y1 y2 y3 y4)) ∧ (∀ y0 y1 y2 y3 y4, LeO (marblerunlaw12_BasisNone.l2 k y0 y1 y2 y3 y4) (marblerunlaw12_BasisNone.l2 (k + 1) y0 y1 y2 y3 y4)) ∧ (∀ y0 y1 y2 y3 y4 y5, LeO (marblerunlaw12_BasisNone.l3 k y0 y1 y2 y3 y4 y5) (marblerunlaw12_BasisNone.l3 (k + 1) y0 y1 y2 y3 y4 y5))
  | 0 => ⟨fun _ _ _ _ _ _ r h => by simp [marblerunlaw12_BasisNone.l0] at h, fun _ _ _ _ _ _ _ _ r h => by simp [marblerunlaw12_BasisNone.l1] at h, fun _ _ _ _ _ r h => by simp [marblerunlaw12_BasisNone.j2] at h, fun _ _ _ _ _ r h => by simp [marblerunlaw12_BasisNone.l2] at h, fun _ _ _ _ _ _ r h => by simp [marblerunlaw12_BasisNone.l3] at h⟩
  | k + 1 => by
    obtain ⟨ih0, ih1, ih2, ih3, ih4⟩ := marblerunlaw12_BasisNone.mono_l k
    refine ⟨?_, ?_, ?_, ?_, ?_⟩
    · intro y0 y1 y2 y3 y4 y5
      unfold marblerunlaw12_BasisNone.l0
      repeat' first
      | (with_reducible exact ih0 _ _ _ _ _ _)
      | (with_reducible exact ih1 _ _ _ _ _ _ _ _)
      | (with_reducible exact ih2 _ _ _ _ _)
      | (with_reducible exact ih3 _ _ _ _ _)
      | (with_reducible exact ih4 _ _ _ _ _ _)
      | (with_reducible exact basis_Find.mono _ _)
      | (with_reducible exact marblerunlaw12_awake.mono _)
      | (with_reducible exact LeO.refl _)
      | (with_reducible exact LeO.none _)
      | (with_reducible refine LeO.ite ?_ ?_)
      | (with_reducible refine LeO.bind ?_ (fun _ => ?_))
      | exact ih0 _ _ _ _ _ _
      | exact ih1 _ _ _ _ _ _ _ _
      | exact ih2 _ _ _ _ _
      | exact ih3 _ _ _ _ _
      | exact ih4 _ _ _ _ _ _
      | exact basis_Find.mono _ _
      | exact marblerunlaw12_awake.mono _
      | exact LeO.none _
      | refine LeO.ite ?_ ?_
      | refine LeO.bind ?_ (fun _ => ?_)
    · intro y0 y1 y2 y3 y4 y5 y6 y7
      unfold marblerunlaw12_BasisNone.l1
      repeat' first
      | (with_reducible exact ih0 _ _ _ _ _ _)
      | (with_reducible exact ih1 _ _ _ _ _ _ _ _)
      | (with_reducible exact ih2 _ _ _ _ _)
      | (with_reducible exact ih3 _ _ _ _ _)
      | (with_reducible exact ih4 _ _ _ _ _ _)
      | (with_reducible exact basis_Find.mono _ _)
      | (with_reducible exact marblerunlaw12_awake.mono _)
      | (with_reducible exact LeO.refl _)
      | (with_reducible exact LeO.none _)
      | (with_reducible refine LeO.ite ?_ ?_)
      | (with_reducible refine LeO.bind ?_ (fun _ => ?_))
      | exact ih0 _ _ _ _ _ _
      | exact ih1 _ _ _ _ _ _ _ _
      | exact ih2 _ _ _ _ _
      | exact ih3 _ _ _ _ _
      | exact ih4 _ _ _ _ _ _
      | exact basis_Find.mono _ _
      | exact marblerunlaw12_awake.mono _
      | exact LeO.none _
      | refine LeO.ite ?_ ?_
      | refine LeO.bind ?_ (fun _ => ?_)
    · intro y0 y1 y2 y3 y4
      unfold marblerunlaw12_BasisNone.j2
      repeat' first
      | (with_reducible exact ih0 _ _ _ _ _ _)
      | (with_reducible exact ih1 _ _ _ _ _ _ _ _)
      | (with_reducible exact ih2 _ _ _ _ _)
      | (with_reducible exact ih3 _ _ _ _ _)
      | (with_reducible exact ih4 _ _ _ _ _ _)
      | (with_reducible exact basis_Find.mono _ _)
      | (with_reducible exact marblerunlaw12_awake.mono _)
      | (with_reducible exact LeO.refl _)
      | (with_reducible exact LeO.none _)
      | (with_reducible refine LeO.ite ?_ ?_)
      | (with_reducible refine LeO.bind ?_ (fun _ => ?_))
      | exact ih0 _ _ _ _ _ _
      | exact ih1 _ _ _ _ _ _ _ _
      | exact ih2 _ _ _ _ _
      | exact ih3 _ _ _ _ _
      | exact ih4 _ _ _ _ _ _
      | exact basis_Find.mono _ _
      | exact marblerunlaw12_awake.mono _
      | exact LeO.none _
      | refine LeO.ite ?_ ?_
      | refine LeO.bind ?_ (fun _ => ?_)
    · intro y0 y1 y2 y3 y4
      unfold marblerunlaw12_BasisNone.l2
      repeat' first
      | (with_reducible exact ih0 _ _ _ _ _ _)
      | (with_reducible exact ih1 _ _ _ _ _ _ _ _)
      | (with_reducible exact ih2 _ _ _ _ _)
      | (with_reducible exact ih3 _ _ _ _ _)
      | (with_reducible exact ih4 _ _ _ _ _ _)
      | (with_reducible exact basis_Find.mono _ _)
      | (with_reducible exact marblerunlaw12_awake.mono _)
      | (with_reducible exact LeO.refl _)
      | (with_reducible exact LeO.none _)
      | (with_reducible refine LeO.ite ?_ ?_)
      | (with_reducible refine LeO.bind ?_ (fun _ => ?_))
      | exact ih0 _ _ _ _ _ _
      | exact ih1 _ _ _ _ _ _ _ _
      | exact ih2 _ _ _ _ _
      | exact ih3 _ _ _ _ _
      | exact ih4 _ _ _ _ _ _
      | exact basis_Find.mono _ _
      | exact marblerunlaw12_awake.mono _
      | exact LeO.none _
      | refine LeO.ite ?_ ?_
      | refine LeO.bind ?_ (fun _ => ?_)
    · intro y0 y1 y2 y3 y4 y5
      unfold marblerunlaw12_BasisNone.l3
      repeat' first
      | (with_reducible exact ih0 _ _ _ _ _ _)
      | (with_reducible exact ih1 _ _ _ _ _ _ _ _)
      | (with_reducible exact ih2 _ _ _ _ _)
      | (with_reducible exact ih3 _ _ _ _ _)
      | (with_reducible exact ih4 _ _ _ _ _ _)
      | (with_reducible exact basis_Find.mono _ _)
      | (with_reducible exact marblerunlaw12_awake.mono _)
      | (with_reducible exact LeO.refl _)
      | (with_reducible exact LeO.none _)
      | (with_reducible refine LeO.ite ?_ ?_)
      | (with_reducible refine LeO.bind ?_ (fun _ => ?_))
      | exact ih0 _ _ _ _ _ _
      | exact ih1 _ _ _ _ _ _ _ _
      | exact ih2 _ _ _ _ _
      | exact ih3 _ _ _ _ _
      | exact ih4 _ _ _ _ _ _
      | exact basis_Find.mono _ _
      | exact marblerunlaw12_awake.mono _
      | exact LeO.none _
      | refine LeO.ite ?_ ?_
      | refine LeO.bind ?_ (fun _ => ?_)
theorem marblerunlaw12_BasisNone.mono : ∀ a0 a1 a2 k, LeO (marblerunlaw12_BasisNone.f k a0 a1 a2) (marblerunlaw12_BasisNone.f (k + 1) a0 a1 a2) := by
  intro a0 a1 a2 k
  obtain ⟨ih0, ih1, ih2, ih3, ih4⟩ := marblerunlaw12_BasisNone.mono_l k
  unfold marblerunlaw12_BasisNone.f
  repeat' first
      | (with_reducible exact ih0 _ _ _ _ _ _)
      | (with_reducible exact ih1 _ _ _ _ _ _ _ _)
      | (with_reducible exact ih2 _ _ _ _ _)
      | (with_reducible exact ih3 _ _ _ _ _)
      | (with_reducible exact ih4 _ _ _ _ _ _)
      | (with_reducible exact basis_Find.mono _ _)
      | (with_reducible exact marblerunlaw12_awake.mono _)
      | (with_reducible exact LeO.refl _)
      | (with_reducible exact LeO.none _)
      | (with_reducible refine LeO.ite ?_ ?_)
      | (with_reducible refine LeO.bind ?_ (fun _ => ?_))
      | exact ih0 _ _ _ _ _ _
      | exact ih1 _ _ _ _ _ _ _ _
      | exact ih2 _ _ _ _ _
      | exact ih3 _ _ _ _ _
      | exact ih4 _ _ _ _ _ _
      | exact basis_Find.mono _ _
      | exact marblerunlaw12_awake.mono _
      | exact LeO.none _
      | refine LeO.ite ?_ ?_
      | refine LeO.bind ?_ (fun _ => ?_)
set_option maxHeartbeats 8000000 in
set_option maxRecDepth 100000 in
theorem marblerunlaw12_BasisNone.calls (k : Nat) (a0 : Int) (a1 : Int) (a2 : Int) (r : Bool) (w : World) (h : marblerunlaw12_BasisNone.f k a0 a1 a2 = some r) :
    Calls Try.prog 4 #[.int .u8 a0, .int .u8 a1, .int .u8 a2] w fun e w' => e = .returned (.bool r) ∧ Below w.heap.size w w' := by
  have HB := Aside0.mk (Below.refl w.heap.size w)
  have H : (marblerunlaw12_BasisNone.l0 k a2 (wrap64 (Int.tmod a0 7)) (wrap64 (Int.tmod a1 5)) ([] : List (List Int)) ([] : List (List Int)) 0) = some r := h
  clear h
  have H' := Aside0.mk H
  clear H
  go_enter Try.func4, Try.ntmps4
  go_wp2
  go_loopg [9, 10, 11] k (fun kq v9 v10 v11 w' => ∃ (x9_1 : List (List Int)) (x10_1 : List (List Int)) (x11_1 : Int), v11 = .int .i64 x11_1 ∧ Aside0 (marblerunlaw12_BasisNone.l0 kq a2 (wrap64 (Int.tmod a0 7)) (wrap64 (Int.tmod a1 5)) x9_1 x10_1 x11_1 = some r) ∧ Aside0 (kq ≤ k) ∧ Aside0 (Kd.N (Kd.slice 3 (Kd.int .i64)) 37 w' w.heap.size (fun k_ => some k_ ≠ (v10 : Value).ownBlock) v9 x9_1) ∧ Aside0 (Kd.N (Kd.slice 3 (Kd.int .i64)) 37 w' w.heap.size (fun k_ => some k_ ≠ (v9 : Value).ownBlock) v10 x10_1) ∧ Aside0 (Below w.heap.size w w'))
  case atStart => exact ⟨(([] : List (List Int))), (([] : List (List Int))), (0), (by first | rfl | (simp; done) | (simp [*]; done)), H', ⟨Nat.le_refl _⟩, ⟨by first | exact Kd.S_nil _ _ _ _ _ | exact Kd.N_nil _ _ _ _ _ | exact Kd.V_nil _ _ _ _ _ | exact Kd.Q_nil _ _ _ _ _ | exact Kd.R_nil _ _ _ _ _⟩, ⟨by first | exact Kd.S_nil _ _ _ _ _ | exact Kd.N_nil _ _ _ _ _ | exact Kd.V_nil _ _ _ _ _ | exact Kd.Q_nil _ _ _ _ _ | exact Kd.R_nil _ _ _ _ _⟩, ⟨by repeat (first | (with_reducible first | exact HB.out | apply below_alloc | apply pw_below_drewN | apply below_drew1) | exact HB.out)⟩⟩
  clear H'
  try clear p2
  obtain ⟨x9_1, x10_1, x11_1, rfl, HA, HK1, HO_9, HO_10, HB⟩ := hrel
  cases gk with
  | zero => exact absurd HA.out (by simp [marblerunlaw12_BasisNone.l0])
  | succ k1 =>
    have H := HA.out
    clear HA
    simp only [marblerunlaw12_BasisNone.l0] at H
    by_cases c4 : x11_1 < (wrap64 (Int.tmod a0 7))
    · rw [if_pos c4] at H
      have c4b0 : decide (x11_1 < (wrap64 (Int.tmod a0 7))) = true := decide_eq_true c4
      clear c4
      obtain ⟨ji5, hji5⟩ : ∃ j_ : Int, (wrap64 (Int.tmod a1 5)) = j_ := ⟨_, rfl⟩
      replace H : (if 0 ≤ (ji5) then (if ((ji5) : Int).toNat ≤ 35184372088832 then (if x9_1.length < 5864062014805 then (marblerunlaw12_BasisNone.l1 k1 a2 (wrap64 (Int.tmod a0 7)) (ji5) (x9_1 ++ [(List.replicate ((ji5) : Int).toNat 0)]) x10_1 x11_1 (List.replicate ((ji5) : Int).toNat 0) 0) else (none)) else (none)) else (none)) = some r := by first | (rw [hji5] at H; exact H) | (simp only [hji5] at H ⊢; exact H)
      have hji5w : (IntKind.i64.wrap (Int.tmod a1 5)) = ji5 := (i64_w _).trans hji5
      by_cases c6 : 0 ≤ (ji5)
      case neg => rw [if_neg c6] at H; exact absurd H (by simp)
      rw [if_pos c6] at H
      have c6b0 := eq_true c6
      have c6b1 : decide (0 ≤ (ji5)) = true := decide_eq_true c6
      clear c6
      by_cases c7 : ((ji5) : Int).toNat ≤ 35184372088832
      case neg => rw [if_neg c7] at H; exact absurd H (by simp)
      rw [if_pos c7] at H
      have c7b0 := eq_true c7
      have c7b1 : decide (((ji5) : Int).toNat ≤ 35184372088832) = true := decide_eq_true c7
      clear c7
      obtain ⟨y325, hy325⟩ : ∃ y_ : List Int, y_ = (List.replicate ((ji5) : Int).toNat 0) := ⟨_, rfl⟩
      replace H : (if x9_1.length < 5864062014805 then (marblerunlaw12_BasisNone.l1 k1 a2 (wrap64 (Int.tmod a0 7)) (ji5) (x9_1 ++ [y325]) x10_1 x11_1 (List.replicate ((ji5) : Int).toNat 0) 0) else (none)) = some r := by first | (rw [hy325]; with_reducible exact H) | (have H2_ := (Option.bind_some _ _).symm.trans H; rw [hy325]; with_reducible exact H2_) | (have H2_ := (Option.bind_some _ _).symm.trans H; with_reducible exact H2_) | with_reducible exact H | (rw [hy325]; exact H) | exact H
      have Ny325 := Aside0.mk hy325
      clear hy325
      by_cases c8 : x9_1.length < 5864062014805
      case neg => rw [if_neg c8] at H; exact absurd H (by simp)
      rw [if_pos c8] at H
      have LMc8 := Aside0.mk c8
      clear c8
      obtain ⟨y328, hy328⟩ : ∃ y_ : List (List Int), y_ = (x9_1 ++ [y325]) := ⟨_, rfl⟩
      replace H : (marblerunlaw12_BasisNone.l1 k1 a2 (wrap64 (Int.tmod a0 7)) (ji5) y328 x10_1 x11_1 (List.replicate ((ji5) : Int).toNat 0) 0) = some r := by first | (rw [hy328]; with_reducible exact H) | (have H2_ := (Option.bind_some _ _).symm.trans H; rw [hy328]; with_reducible exact H2_) | (have H2_ := (Option.bind_some _ _).symm.trans H; with_reducible exact H2_) | with_reducible exact H | (rw [hy328]; exact H) | exact H
      have Ny328 := Aside0.mk hy328
      clear hy328
      obtain ⟨y331, hy331⟩ : ∃ y_ : List Int, y_ = (List.replicate ((ji5) : Int).toNat 0) := ⟨_, rfl⟩
      replace H : (marblerunlaw12_BasisNone.l1 k1 a2 (wrap64 (Int.tmod a0 7)) (ji5) y328 x10_1 x11_1 y331 0) = some r := by first | (rw [hy331]; with_reducible exact H) | (have H2_ := (Option.bind_some _ _).symm.trans H; rw [hy331]; with_reducible exact H2_) | (have H2_ := (Option.bind_some _ _).symm.trans H; with_reducible exact H2_) | with_reducible exact H | (rw [hy331]; exact H) | exact H
      have Ny331 := Aside0.mk hy331
      clear hy331
      have H' := Aside0.mk H
      clear H
      go_wp2_with (first | ((with_reducible refine gate_dst (N := 34) rfl ?_); (try (refine gate_guard (by rfl) ?_; dsimp only)); refine Kd.R_make (Kd.int .i64) _ 3 rfl (N := 34) rfl 37 _ _ rfl (ji5) (by first | rfl | (simp only [← hji5]; rfl)) (by first | rfl | (simp only [← hji5]; rfl)) Try.underlying37 (.int .i64 0) 8 info3 rfl (by decide) (by omega) 0 (ok := fun _ => True) (okp := fun _ => True) rfl (fun _ hk => hk) trivial (of_decide_eq_true (by first | (with_reducible assumption) | assumption)) (Nat.le_trans (Nat.mul_le_mul_right _ (of_decide_eq_true (by first | (with_reducible assumption) | assumption) : (ji5).toNat ≤ 35184372088832)) (by omega)) (Below.refl _ _) (Nat.le_refl _) ?_; intro v326 w9 ho10 hb hg_ hnew_; clear hg_ hnew_; (first | rw [← Ny325.out] at ho10 | (simp only [Int.reduceToNat] at ho10; rw [← Ny325.out] at ho10)); have n0_ := Aside0.mk (Kd.N_elder' (kq_N HO_9.out) (Kd.R_base ho10) hb); have n1_ := Aside0.mk (Kd.N_elder' (kq_N HO_10.out) (Kd.R_base ho10) hb); have n2_ := Aside0.mk (Kd.R_lower ho10 (below_size (by repeat (first | (with_reducible first | exact HB.out | apply below_alloc | apply pw_below_drewN | apply below_drew1) | exact HB.out)))); have n3_ := Aside0.mk (below_step (by repeat (first | (with_reducible first | exact HB.out | apply below_alloc | apply pw_below_drewN | apply below_drew1) | exact HB.out)) hb); clear HO_9; clear HO_10; clear HB; have HO_9 := n0_; have HO_10 := n1_; have HO327 := n2_; have HB := n3_; clear n0_ n1_ n2_ n3_; clear hb ho10; obtain ⟨Ao12, co12, eo12⟩ := Kd.R_slice HO327.out; subst eo12) | ((with_reducible refine gate_builtin (b := .append) (xs := #[.tmp 32, .tmp 35]) rfl ?_); (try (refine gate_guard (by rfl) ?_; dsimp only)); at_builtin; refine Kd.N_append (Kd.slice 3 (Kd.int .i64)) (w0 := w) w.heap.size rfl (.tmp 32) (.tmp 35) 38 37 (.slice none 0 0) 24 rfl Try.underlying38 info37 rfl (by decide) (by omega) u9 x9_1 y325 [.slice Ao12 y325.length co12] (fun k_ => some k_ ≠ (u10 : Value).ownBlock) (fun k_ => ((fun k_ => some k_ ≠ (u10 : Value).ownBlock)) k_ ∧ some k_ ≠ (u9 : Value).ownBlock) rfl rfl ?aP (fun _ hk => hk) ?aF ?aO ?aB ?aS ?aL ?_; (case aP => exact (Kd.FK_slice_mk (Kd.R_reads' (Kd.R_mono (ok' := (fun k_ => ((fun k_ => some k_ ≠ (u10 : Value).ownBlock)) k_ ∧ some k_ ≠ (u9 : Value).ownBlock)) (Kd.R_apart' (Kd.R_apart' (HO327.out) (Kd.N_typed HO_10.out) (by decide)) (Kd.N_typed HO_9.out) (by decide)) (fun k_ hk => ⟨hk.1.2, hk.2⟩))).2.1 (Kd.R_F (Kd.R_mono (ok' := (fun k_ => ((fun k_ => some k_ ≠ (u10 : Value).ownBlock)) k_ ∧ some k_ ≠ (u9 : Value).ownBlock)) (Kd.R_apart' (Kd.R_apart' (HO327.out) (Kd.N_typed HO_10.out) (by decide)) (Kd.N_typed HO_9.out) (by decide)) (fun k_ hk => ⟨hk.1.2, hk.2⟩))))); (case aB => exact (by repeat (first | (with_reducible first | exact HB.out | apply below_alloc | apply pw_below_drewN | apply below_drew1) | exact HB.out))); (case aF => exact (fun k_ hk => Kd.fresh' (Kd.N_lt (kq_N HO_10.out)) k_ hk)); (case aO => exact (by (with_reducible repeat (first | apply Kd.N_alloc | apply Kd.N_drewN | apply Kd.N_drew)); exact Kd.N_mono HO_9.out (fun _ hk => hk.1))); (case aS => exact (below_size (by repeat (first | (with_reducible first | exact HB.out | apply below_alloc | apply pw_below_drewN | apply below_drew1) | exact HB.out)))); (case aL => have := LMc8.out; omega); intro v329 w11 ho hb hg hat; rw [← Ny328.out] at ho; have n0_ := Aside0.mk (Kd.N_afterv (ok := (fun k_ => some k_ ≠ (.slice Ao12 y325.length co12 : Value).ownBlock)) (by (with_reducible repeat (first | apply Kd.N_alloc | apply Kd.N_drewN | apply Kd.N_drew)); exact Kd.N_mono HO_10.out (fun _ hk => ⟨hk.2, hk.1⟩)) hg hat); have n1_ := Aside0.mk (hb); have n2_ := Aside0.mk (ho); clear HO_10; clear HB; clear HO_9; clear HO327; have HO_10 := n0_; have HB := n1_; have HO330 := n2_; clear n0_ n1_ n2_; clear ho hb hg hat) | ((with_reducible refine gate_dst (N := 38) rfl ?_); (try (refine gate_guard (by rfl) ?_; dsimp only)); refine Kd.R_make (Kd.int .i64) _ 3 rfl (N := 38) rfl 37 _ _ rfl (ji5) (by first | rfl | (simp only [← hji5]; rfl)) (by first | rfl | (simp only [← hji5]; rfl)) Try.underlying37 (.int .i64 0) 8 info3 rfl (by decide) (by omega) 0 (ok := fun _ => True) (okp := fun _ => True) rfl (fun _ hk => hk) trivial (of_decide_eq_true (by first | (with_reducible assumption) | assumption)) (Nat.le_trans (Nat.mul_le_mul_right _ (of_decide_eq_true (by first | (with_reducible assumption) | assumption) : (ji5).toNat ≤ 35184372088832)) (by omega)) (Below.refl _ _) (Nat.le_refl _) ?_; intro v332 w13 ho14 hb hg_ hnew_; clear hg_ hnew_; (first | rw [← Ny331.out] at ho14 | (simp only [Int.reduceToNat] at ho14; rw [← Ny331.out] at ho14)); have n0_ := Aside0.mk (Kd.N_elder' (kq_N HO_10.out) (Kd.R_base ho14) hb); have n1_ := Aside0.mk (Kd.N_elder' (kq_N HO330.out) (Kd.R_base ho14) hb); have n2_ := Aside0.mk (Kd.R_lower ho14 (below_size (by repeat (first | (with_reducible first | exact HB.out | apply below_alloc | apply pw_below_drewN | apply below_drew1) | exact HB.out)))); have n3_ := Aside0.mk (below_step (by repeat (first | (with_reducible first | exact HB.out | apply below_alloc | apply pw_below_drewN | apply below_drew1) | exact HB.out)) hb); clear HO_10; clear HO330; clear HB; have HO_10 := n0_; have HO330 := n1_; have HO333 := n2_; have HB := n3_; clear n0_ n1_ n2_ n3_; clear hb ho14))
      go_loopg [13] k1 (fun kq v13 w' => ∃ (x12_2 : List Int) (x13_2 : Int), v13 = .int .i64 x13_2 ∧ Aside0 (marblerunlaw12_BasisNone.l1 kq a2 (wrap64 (Int.tmod a0 7)) (ji5) y328 x10_1 x11_1 x12_2 x13_2 = some r) ∧ Aside0 (kq ≤ k1) ∧ Aside0 (Kd.N (Kd.slice 3 (Kd.int .i64)) 37 w' w.heap.size (fun k_ => some k_ ≠ (u10 : Value).ownBlock ∧ some k_ ≠ (v332 : Value).ownBlock) v329 y328) ∧ Aside0 (Kd.N (Kd.slice 3 (Kd.int .i64)) 37 w' w.heap.size (fun k_ => some k_ ≠ (v329 : Value).ownBlock ∧ some k_ ≠ (v332 : Value).ownBlock) u10 x10_1) ∧ Aside0 (Kd.R (Kd.int .i64) 3 w' w.heap.size (fun _ => True) v332 x12_2) ∧ Aside0 (Below w.heap.size w w'))
      case atStart => exact ⟨(y331), (0), (by first | rfl | (simp; done) | (simp [*]; done)), H', ⟨Nat.le_refl _⟩, ⟨by (with_reducible repeat (first | apply Kd.N_alloc | apply Kd.N_drewN | apply Kd.N_drew)); exact HO330.out⟩, ⟨by (with_reducible repeat (first | apply Kd.N_alloc | apply Kd.N_drewN | apply Kd.N_drew)); exact Kd.N_mono HO_10.out (fun _ hk => ⟨hk.1.2, hk.2⟩)⟩, ⟨by (with_reducible repeat (first | apply Kd.R_alloc | apply Kd.R_drewN | apply Kd.R_drew)); exact HO333.out⟩, ⟨by repeat (first | (with_reducible first | exact HB.out | apply below_alloc | apply pw_below_drewN | apply below_drew1) | exact HB.out)⟩⟩
      clear H'
      try clear p2
      try clear c4
      try clear c4b0
      try clear c6
      try clear c6b0
      try clear c6b1
      try clear p6
      try clear c7
      try clear c7b0
      try clear c7b1
      try clear c8
      try clear p2
      obtain ⟨x12_2, x13_2, rfl, HA, HK2, HO_9, HO_10, HO_12, HB⟩ := hrel
      cases gk with
      | zero => exact absurd HA.out (by simp [marblerunlaw12_BasisNone.l1])
      | succ k2 =>
        have H := HA.out
        clear HA
        simp only [marblerunlaw12_BasisNone.l1] at H
        by_cases c15 : x13_2 < (ji5)
        · rw [if_pos c15] at H
          have c15b0 : decide (x13_2 < (ji5)) = true := decide_eq_true c15
          clear c15
          by_cases c16 : 0 ≤ x13_2
          case neg => rw [if_neg c16] at H; exact absurd H (by simp)
          rw [if_pos c16] at H
          have c16b0 : decide (0 ≤ x13_2) = true := decide_eq_true c16
          clear c16
          by_cases c17 : x13_2 < (x12_2.length : Int)
          case neg => rw [if_neg c17] at H; exact absurd H (by simp)
          rw [if_pos c17] at H
          have c17b0 : decide (x13_2 < (x12_2.length : Int)) = true := decide_eq_true c17
          clear c17
          obtain ⟨y334, hy334⟩ : ∃ y_ : List Int, y_ = (x12_2.set (x13_2 : Int).toNat (wrap64 ((wrap64 (1 + (wrap64 (a2)))) + x11_1))) := ⟨_, rfl⟩
          replace H : (marblerunlaw12_BasisNone.l1 k2 a2 (wrap64 (Int.tmod a0 7)) (ji5) y328 x10_1 x11_1 y334 (wrap64 (x13_2 + 1))) = some r := by first | (rw [hy334]; with_reducible exact H) | (have H2_ := (Option.bind_some _ _).symm.trans H; rw [hy334]; with_reducible exact H2_) | (have H2_ := (Option.bind_some _ _).symm.trans H; with_reducible exact H2_) | with_reducible exact H | (rw [hy334]; exact H) | exact H
          have Ny334 := Aside0.mk hy334
          clear hy334
          have H' := Aside0.mk H
          clear H
          have p18 : 0 ≤ (x13_2 : Int) := of_decide_eq_true (by first | (with_reducible assumption) | assumption)
          have q18 : (x13_2 : Int) < ((x12_2.length : Int) : Int) := of_decide_eq_true (by first | (with_reducible assumption) | assumption)
          obtain ⟨go18, co18, eo18, gb18, gl18, cl18, HG18⟩ := Kd.R_form HO_12.out (by omega)
          (first | cases eo18 | (injection eo18 with ea_ en_ ec_; (first | subst ea_ | (injection ea_ with ea_; subst ea_)); subst ec_; clear en_))
          have GB18 := Aside0.mk gb18
          have GG18 := Aside0.mk HG18
          clear gb18 gl18 HG18
          obtain ⟨hx18_0, hf18_0⟩ := Kd.R_celln 0 HO_12.out (x13_2 : Int) p18 q18
          replace p18 := eq_true p18
          replace q18 := eq_true q18
          have HP19 := Kd.R_putg HO_12.out (x13_2 : Int) (wrap64 ((wrap64 (1 + (wrap64 (a2)))) + x11_1))
          go_wp2_with (first | ((with_reducible refine gate_store (t := 3) (p := 51) rfl ?_); refine store_event (t := 3) (p := 51) (v := ?vo_w20) (w1 := (wr.setCell ⟨go18, (x13_2 : Int).toNat, none⟩ (.int .i64 (wrap64 ((wrap64 (1 + (wrap64 (a2)))) + x11_1))))) ?hg ?ho ?hn ?hr ?_; (case ho => rfl); (case hg => rfl); (case hn => rfl); (case hr => first | (go_simp; done) | (go_simp; rfl)); intro w20 hw; have hg : wr.grownBy w20 (some go18) := (by rw [hw]; exact HP19.2); have hp_ : Kd.R (Kd.int .i64) 3 w20 w.heap.size (fun _ => True) (.slice (some ⟨go18, 0, none⟩) x12_2.length co18) y334 := (by rw [hw, Ny334.out]; exact HP19.1); clear HP19; have n0_ := Aside0.mk (Kd.N_afterv (v := (.slice (some ⟨go18, 0, none⟩) x12_2.length co18)) (v1 := (.slice (some ⟨go18, 0, none⟩) x12_2.length co18)) (ok := (fun k_ => some k_ ≠ (u10 : Value).ownBlock)) (kq_N HO_9.out) hg (.inl rfl)); have n1_ := Aside0.mk (Kd.N_afterv (v := (.slice (some ⟨go18, 0, none⟩) x12_2.length co18)) (v1 := (.slice (some ⟨go18, 0, none⟩) x12_2.length co18)) (ok := (fun k_ => some k_ ≠ (v329 : Value).ownBlock)) (kq_N HO_10.out) hg (.inl rfl)); have n2_ := Aside0.mk (hp_); have n3_ := Aside0.mk ((by rw [hw]; exact below_set (HB.out) GB18.out : Below w.heap.size w w20)); clear HO_9; clear HO_10; clear HO_12; clear HB; have HO_9 := n0_; have HO_10 := n1_; have HO_12 := n2_; have HB := n3_; clear n0_ n1_ n2_ n3_; clear hg hw hp_))
          go_roundg k2
          case measure => have := HK1.out; have := HK2.out; omega
          case rel => exact ⟨(y334), (wrap64 (x13_2 + 1)), (by first | rfl | (simp; done) | (simp [*]; done)), H', ⟨by have := HK1.out; have := HK2.out; omega⟩, ⟨by (with_reducible repeat (first | apply Kd.N_alloc | apply Kd.N_drewN | apply Kd.N_drew)); exact HO_9.out⟩, ⟨by (with_reducible repeat (first | apply Kd.N_alloc | apply Kd.N_drewN | apply Kd.N_drew)); exact HO_10.out⟩, ⟨by (with_reducible repeat (first | apply Kd.R_alloc | apply Kd.R_drewN | apply Kd.R_drew)); exact HO_12.out⟩, ⟨by repeat (first | (with_reducible first | exact HB.out | apply below_alloc | apply pw_below_drewN | apply below_drew1) | exact HB.out)⟩⟩
        rw [if_neg c15] at H
        have c15b0 : decide (x13_2 < (ji5)) = false := decide_eq_false c15
        clear c15
        by_cases c21 : x10_1.length < 5864062014805
        case neg => rw [if_neg c21] at H; exact absurd H (by simp)
        rw [if_pos c21] at H
        have LMc21 := Aside0.mk c21
        clear c21
        obtain ⟨y335, hy335⟩ : ∃ y_ : List (List Int), y_ = (x10_1 ++ [x12_2]) := ⟨_, rfl⟩
        replace H : (marblerunlaw12_BasisNone.l0 k2 a2 (wrap64 (Int.tmod a0 7)) (ji5) y328 y335 (wrap64 (x11_1 + 1))) = some r := by first | (rw [hy335]; with_reducible exact H) | (have H2_ := (Option.bind_some _ _).symm.trans H; rw [hy335]; with_reducible exact H2_) | (have H2_ := (Option.bind_some _ _).symm.trans H; with_reducible exact H2_) | with_reducible exact H | (rw [hy335]; exact H) | exact H
        have Ny335 := Aside0.mk hy335
        clear hy335
        have H' := Aside0.mk H
        clear H
        obtain ⟨Ao23, co23, eo23⟩ := Kd.R_slice HO_12.out
        subst eo23
        go_wp2_with (first | ((with_reducible refine gate_builtin (b := .append) (xs := #[.tmp 52, .tmp 54]) rfl ?_); (try (refine gate_guard (by rfl) ?_; dsimp only)); at_builtin; refine Kd.N_append (Kd.slice 3 (Kd.int .i64)) (w0 := w) w.heap.size rfl (.tmp 52) (.tmp 54) 38 37 (.slice none 0 0) 24 rfl Try.underlying38 info37 rfl (by decide) (by omega) u10 x10_1 x12_2 [.slice Ao23 x12_2.length co23] (fun k_ => some k_ ≠ (v329 : Value).ownBlock) (fun k_ => ((fun k_ => some k_ ≠ (v329 : Value).ownBlock)) k_ ∧ some k_ ≠ (u10 : Value).ownBlock) rfl rfl ?aP (fun _ hk => hk) ?aF ?aO ?aB ?aS ?aL ?_; (case aP => exact (Kd.FK_slice_mk (Kd.R_reads' (Kd.R_mono (ok' := (fun k_ => ((fun k_ => some k_ ≠ (v329 : Value).ownBlock)) k_ ∧ some k_ ≠ (u10 : Value).ownBlock)) (Kd.R_apart' (Kd.R_apart' (HO_12.out) (Kd.N_typed HO_9.out) (by decide)) (Kd.N_typed HO_10.out) (by decide)) (fun k_ hk => ⟨hk.1.2, hk.2⟩))).2.1 (Kd.R_F (Kd.R_mono (ok' := (fun k_ => ((fun k_ => some k_ ≠ (v329 : Value).ownBlock)) k_ ∧ some k_ ≠ (u10 : Value).ownBlock)) (Kd.R_apart' (Kd.R_apart' (HO_12.out) (Kd.N_typed HO_9.out) (by decide)) (Kd.N_typed HO_10.out) (by decide)) (fun k_ hk => ⟨hk.1.2, hk.2⟩))))); (case aB => exact (by repeat (first | (with_reducible first | exact HB.out | apply below_alloc | apply pw_below_drewN | apply below_drew1) | exact HB.out))); (case aF => exact (fun k_ hk => Kd.fresh' (Kd.N_lt (kq_N HO_9.out)) k_ hk)); (case aO => exact (by (with_reducible repeat (first | apply Kd.N_alloc | apply Kd.N_drewN | apply Kd.N_drew)); exact Kd.N_mono HO_10.out (fun _ hk => hk.1))); (case aS => exact (below_size (by repeat (first | (with_reducible first | exact HB.out | apply below_alloc | apply pw_below_drewN | apply below_drew1) | exact HB.out)))); (case aL => have := LMc21.out; omega); intro v336 w22 ho hb hg hat; rw [← Ny335.out] at ho; have n0_ := Aside0.mk (Kd.N_afterv (ok := (fun k_ => some k_ ≠ (.slice Ao23 x12_2.length co23 : Value).ownBlock)) (by (with_reducible repeat (first | apply Kd.N_alloc | apply Kd.N_drewN | apply Kd.N_drew)); exact Kd.N_mono HO_9.out (fun _ hk => ⟨hk.2, hk.1⟩)) hg hat); have n1_ := Aside0.mk (hb); have n2_ := Aside0.mk (ho); clear HO_9; clear HB; clear HO_10; clear HO_12; have HO_9 := n0_; have HB := n1_; have HO337 := n2_; clear n0_ n1_ n2_; clear ho hb hg hat))
        (try simp only [← hji5])
        (try simp only [← hji5] at H')
        go_roundg k2
        case measure => have := HK1.out; have := HK2.out; omega
        case rel => exact ⟨(y328), (y335), (wrap64 (x11_1 + 1)), (by first | rfl | (simp; done) | (simp [*]; done)), H', ⟨by have := HK1.out; have := HK2.out; omega⟩, ⟨by (with_reducible repeat (first | apply Kd.N_alloc | apply Kd.N_drewN | apply Kd.N_drew)); exact Kd.N_mono HO_9.out (fun _ hk => by first | exact hk.2 | exact trivial)⟩, ⟨by (with_reducible repeat (first | apply Kd.N_alloc | apply Kd.N_drewN | apply Kd.N_drew)); exact HO337.out⟩, ⟨by repeat (first | (with_reducible first | exact HB.out | apply below_alloc | apply pw_below_drewN | apply below_drew1) | exact HB.out)⟩⟩
    rw [if_neg c4] at H
    have c4b0 : decide (x11_1 < (wrap64 (Int.tmod a0 7))) = false := decide_eq_false c4
    clear c4
    replace H := Option.bind_eq_some_iff.mp H
    obtain ⟨⟨t338, t341⟩, A240, H⟩ := H
    replace H : ((basis_Find.f k1 x10_1).bind fun bt342 => (if t341 = 0 then (if bt342.2 = 0 then (marblerunlaw12_BasisNone.j2 k1 (wrap64 (Int.tmod a0 7)) (wrap64 (Int.tmod a1 5)) t338 bt342.1 ((t338.length : Int) != (wrap64 (Int.tmod a0 7)))) else (marblerunlaw12_BasisNone.j2 k1 (wrap64 (Int.tmod a0 7)) (wrap64 (Int.tmod a1 5)) t338 bt342.1 true)) else (marblerunlaw12_BasisNone.j2 k1 (wrap64 (Int.tmod a0 7)) (wrap64 (Int.tmod a1 5)) t338 bt342.1 true))) = some r := H
    have A24 := Aside0.mk A240
    clear A240
    replace H := Option.bind_eq_some_iff.mp H
    obtain ⟨⟨t342, t345⟩, A250, H⟩ := H
    replace H : (if t341 = 0 then (if t345 = 0 then (marblerunlaw12_BasisNone.j2 k1 (wrap64 (Int.tmod a0 7)) (wrap64 (Int.tmod a1 5)) t338 t342 ((t338.length : Int) != (wrap64 (Int.tmod a0 7)))) else (marblerunlaw12_BasisNone.j2 k1 (wrap64 (Int.tmod a0 7)) (wrap64 (Int.tmod a1 5)) t338 t342 true)) else (marblerunlaw12_BasisNone.j2 k1 (wrap64 (Int.tmod a0 7)) (wrap64 (Int.tmod a1 5)) t338 t342 true)) = some r := H
    have A25 := Aside0.mk A250
    clear A250
    have HC26 := Aside0.mk H
    clear H
    obtain ⟨Ao27, co27, eo27⟩ := Kd.N_slice HO_9.out
    subst eo27
    go_upto_region 16 with (first | ((with_reducible refine gate_callee (f := 14) rfl ?_); refine goesL_ (some 58) rfl rfl Try.func14 (by kernel_rfl) rfl #[.slice Ao27 x9_1.length co27] rfl (by (try simp only [List.map_toArray, List.map_cons, List.map_nil]); first | done | rfl | (simp only [List.length_drop, List.length_take]; rfl)) ?_; (with_reducible refine (basis_Find.calls k1 _ _ x9_1 t338 t341 _ ?side1 ?side2 A24.out).mono ?_); (case side1 => repeat (first | exact (Kd.N_reads' HO_9.out).2.2 | (with_reducible refine Kd.C_alloc ?_ _) | (with_reducible refine Kd.C_drewN ?_ _) | (with_reducible refine Kd.C_drew ?_))); (case side2 => exact (Kd.N_reads' HO_9.out).2.1); rintro e w28 ⟨v339, rfl, ho0, hb⟩; refine ⟨_, rfl, ?_⟩; have n0_ := Aside0.mk (Kd.N_elder' (kq_N HO_9.out) (Kd.N_base ho0) hb); have n1_ := Aside0.mk (Kd.N_elder' (kq_N HO_10.out) (Kd.N_base ho0) hb); have n2_ := Aside0.mk (Kd.N_lower (Kd.N_mono (ok' := fun k_ => some k_ ≠ (.slice Ao27 x9_1.length co27 : Value).ownBlock ∧ some k_ ≠ (u10 : Value).ownBlock) ho0 (fun k_ hk_ => ⟨(Kd.fresh' (Kd.N_lt (kq_N HO_9.out)) k_ hk_), (Kd.fresh' (Kd.N_lt (kq_N HO_10.out)) k_ hk_)⟩)) (below_size (by repeat (first | (with_reducible first | exact HB.out | apply below_alloc | apply pw_below_drewN | apply below_drew1) | exact HB.out)))); have n3_ := Aside0.mk (below_step (by repeat (first | (with_reducible first | exact HB.out | apply below_alloc | apply pw_below_drewN | apply below_drew1) | exact HB.out)) hb); clear HO_9; clear HO_10; clear HB; have HO_9 := n0_; have HO_10 := n1_; have HO340 := n2_; have HB := n3_; clear n0_ n1_ n2_ n3_; (try clear hb); (try clear hb2); (try clear hk); (try clear hi); (try clear ho0); obtain ⟨Ao29, co29, eo29⟩ := Kd.N_slice HO_10.out; subst eo29) | ((with_reducible refine gate_callee (f := 14) rfl ?_); refine goesL_ (some 63) rfl rfl Try.func14 (by kernel_rfl) rfl #[.slice Ao29 x10_1.length co29] rfl (by (try simp only [List.map_toArray, List.map_cons, List.map_nil]); first | done | rfl | (simp only [List.length_drop, List.length_take]; rfl)) ?_; (with_reducible refine (basis_Find.calls k1 _ _ x10_1 t342 t345 _ ?side1 ?side2 A25.out).mono ?_); (case side1 => repeat (first | exact (Kd.N_reads' HO_10.out).2.2 | (with_reducible refine Kd.C_alloc ?_ _) | (with_reducible refine Kd.C_drewN ?_ _) | (with_reducible refine Kd.C_drew ?_))); (case side2 => exact (Kd.N_reads' HO_10.out).2.1); rintro e w30 ⟨v343, rfl, ho0, hb⟩; refine ⟨_, rfl, ?_⟩; have n0_ := Aside0.mk (Kd.N_elder' (kq_N HO_9.out) (Kd.N_base ho0) hb); have n1_ := Aside0.mk (Kd.N_elder' (kq_N HO_10.out) (Kd.N_base ho0) hb); have n2_ := Aside0.mk (Kd.N_elder' (kq_N HO340.out) (Kd.N_base ho0) hb); have n3_ := Aside0.mk (Kd.N_lower (Kd.N_mono (ok' := fun k_ => some k_ ≠ (.slice Ao27 x9_1.length co27 : Value).ownBlock ∧ some k_ ≠ (.slice Ao29 x10_1.length co29 : Value).ownBlock ∧ some k_ ≠ (v339 : Value).ownBlock) ho0 (fun k_ hk_ => ⟨(Kd.fresh' (Kd.N_lt (kq_N HO_9.out)) k_ hk_), (Kd.fresh' (Kd.N_lt (kq_N HO_10.out)) k_ hk_), (Kd.fresh' (Kd.N_lt (kq_N HO340.out)) k_ hk_)⟩)) (below_size (by repeat (first | (with_reducible first | exact HB.out | apply below_alloc | apply pw_below_drewN | apply below_drew1) | exact HB.out)))); have n4_ := Aside0.mk (below_step (by repeat (first | (with_reducible first | exact HB.out | apply below_alloc | apply pw_below_drewN | apply below_drew1) | exact HB.out)) hb); clear HO_9; clear HO_10; clear HO340; clear HB; have HO_9 := n0_; have HO_10 := n1_; have HO340 := n2_; have HO344 := n3_; have HB := n4_; clear n0_ n1_ n2_ n3_ n4_; (try clear hb); (try clear hb2); (try clear hk); (try clear hi); (try clear ho0)))
    (try simp only [Act.put, List.setIfInBounds_toArray, List.set_cons_zero, List.set_cons_succ])
    go_cut [77] (fun v77 wc => ∃ (kq : Nat) (x77_25 : Bool), v77 = .bool x77_25 ∧ Aside0 (marblerunlaw12_BasisNone.j2 kq (wrap64 (Int.tmod a0 7)) (wrap64 (Int.tmod a1 5)) t338 t342 x77_25 = some r) ∧ Aside0 (kq ≤ k1) ∧ Aside0 (Kd.N (Kd.slice 3 (Kd.int .i64)) 37 wc w.heap.size (fun k_ => some k_ ≠ (v343 : Value).ownBlock) v339 t338) ∧ Aside0 (Kd.N (Kd.slice 3 (Kd.int .i64)) 37 wc w.heap.size (fun k_ => some k_ ≠ (v339 : Value).ownBlock) v343 t342) ∧ Aside0 (Below w.heap.size w wc))
    case first =>
      have H := HC26.out
      clear HC26
      by_cases c31 : t341 = 0
      · rw [if_pos c31] at H
        have c31b0 : (t341 == 0) = true := beq_iff_eq.mpr c31
        have c31b1 : (t341 != 0) = false := bne_eq_false_iff_eq.mpr c31
        clear c31
        (first | rw [c31b0] | (simp only [i64_w, i32_w]; rw [c31b0]) | skip)
        by_cases c32 : t345 = 0
        · rw [if_pos c32] at H
          have c32b0 : (t345 == 0) = true := beq_iff_eq.mpr c32
          have c32b1 : (t345 != 0) = false := bne_eq_false_iff_eq.mpr c32
          clear c32
          have H' := Aside0.mk H
          clear H
          obtain ⟨Ao33, co33, eo33⟩ := Kd.N_slice HO340.out
          subst eo33
          go_wp2
          go_meet
          case rel => exact ⟨_, (((t338.length : Int) != (wrap64 (Int.tmod a0 7)))), (by first | rfl | (simp; done) | (simp [*]; done)), H', ⟨by have := HK1.out; first | omega | exact Nat.le_refl _⟩, ⟨by (with_reducible repeat (first | apply Kd.N_alloc | apply Kd.N_drewN | apply Kd.N_drew)); exact Kd.N_mono HO340.out (fun _ hk => by first | exact hk.2 | exact trivial)⟩, ⟨by (with_reducible repeat (first | apply Kd.N_alloc | apply Kd.N_drewN | apply Kd.N_drew)); exact Kd.N_mono HO344.out (fun _ hk => hk.2.2)⟩, ⟨by repeat (first | (with_reducible first | exact HB.out | apply below_alloc | apply pw_below_drewN | apply below_drew1) | exact HB.out)⟩⟩
        rw [if_neg c32] at H
        have c32b0 : (t345 == 0) = false := beq_eq_false_iff_ne.mpr c32
        have c32b1 : (t345 != 0) = true := bne_iff_ne.mpr c32
        have H' := Aside0.mk H
        clear H
        go_wp2
        go_meet
        case rel => exact ⟨_, (true), (by first | rfl | (simp; done) | (simp [*]; done)), H', ⟨by have := HK1.out; first | omega | exact Nat.le_refl _⟩, ⟨by (with_reducible repeat (first | apply Kd.N_alloc | apply Kd.N_drewN | apply Kd.N_drew)); exact Kd.N_mono HO340.out (fun _ hk => by first | exact hk.2 | exact trivial)⟩, ⟨by (with_reducible repeat (first | apply Kd.N_alloc | apply Kd.N_drewN | apply Kd.N_drew)); exact Kd.N_mono HO344.out (fun _ hk => hk.2.2)⟩, ⟨by repeat (first | (with_reducible first | exact HB.out | apply below_alloc | apply pw_below_drewN | apply below_drew1) | exact HB.out)⟩⟩
      rw [if_neg c31] at H
      have c31b0 : (t341 == 0) = false := beq_eq_false_iff_ne.mpr c31
      have c31b1 : (t341 != 0) = true := bne_iff_ne.mpr c31
      (first | rw [c31b0] | (simp only [i64_w, i32_w]; rw [c31b0]) | skip)
      have H' := Aside0.mk H
      clear H
      go_wp2
      go_meet
      case rel => exact ⟨_, (true), (by first | rfl | (simp; done) | (simp [*]; done)), H', ⟨by have := HK1.out; first | omega | exact Nat.le_refl _⟩, ⟨by (with_reducible repeat (first | apply Kd.N_alloc | apply Kd.N_drewN | apply Kd.N_drew)); exact Kd.N_mono HO340.out (fun _ hk => by first | exact hk.2 | exact trivial)⟩, ⟨by (with_reducible repeat (first | apply Kd.N_alloc | apply Kd.N_drewN | apply Kd.N_drew)); exact Kd.N_mono HO344.out (fun _ hk => hk.2.2)⟩, ⟨by repeat (first | (with_reducible first | exact HB.out | apply below_alloc | apply pw_below_drewN | apply below_drew1) | exact HB.out)⟩⟩
    clear HC26
    try clear c1
    try clear p1
    try clear q1
    try clear hx1
    try clear c2
    try clear p2
    try clear c3
    try clear c4
    try clear c4b0
    try clear c6
    try clear c6b0
    try clear c6b1
    try clear p6
    try clear c7
    try clear c7b0
    try clear c7b1
    try clear c8
    try clear c14
    try clear c15
    try clear c15b0
    try clear c16
    try clear c16b0
    try clear c17
    try clear c17b0
    try clear p18
    try clear q18
    try clear hx18
    try clear hf18
    try clear c21
    try clear c31
    try clear c31b0
    try clear c31b1
    try clear c32
    try clear c32b0
    try clear c32b1
    try clear hx18_0
    try clear p18
    try clear p2
    try clear p6
    try clear q18
    obtain ⟨kq, x77_25, rfl, HA, HJ25, HO_14, HO_16, HB⟩ := hcut
    cases kq with
    | zero => exact absurd HA.out (by simp [marblerunlaw12_BasisNone.j2])
    | succ kj25 =>
      have H := HA.out
      clear HA
      simp only [marblerunlaw12_BasisNone.j2] at H
      by_cases c34 : x77_25 = true
      · subst c34
        have H1 : (some false) = some r := by rw [if_pos rfl] at H; exact H
        clear H
        have H := H1
        clear H1
        obtain rfl := Option.some.inj H
        go_wp2
        go_ret
        exact ⟨by first | rfl | (simp [errW_none, errW_some] <;> rfl) | (simp [*, errW_none, errW_some] <;> rfl), by repeat (first | (with_reducible first | exact HB.out | apply below_alloc | apply pw_below_drewN | apply below_drew1) | exact HB.out)⟩
      replace c34 := Bool.eq_false_iff.mpr c34
      subst c34
      have H1 : (marblerunlaw12_BasisNone.l2 kj25 (wrap64 (Int.tmod a0 7)) (wrap64 (Int.tmod a1 5)) t338 t342 0) = some r := by rw [if_neg (show ¬ (false = true) by decide)] at H; exact H
      clear H
      have H := H1
      clear H1
      have H' := Aside0.mk H
      clear H
      go_wp2
      go_loopg [18] kj25 (fun kq v18 w' => ∃ (x18_3 : Int), v18 = .int .i64 x18_3 ∧ Aside0 (marblerunlaw12_BasisNone.l2 kq (wrap64 (Int.tmod a0 7)) (wrap64 (Int.tmod a1 5)) t338 t342 x18_3 = some r) ∧ Aside0 (kq ≤ kj25) ∧ Aside0 (Kd.N (Kd.slice 3 (Kd.int .i64)) 37 w' w.heap.size (fun k_ => some k_ ≠ (v343 : Value).ownBlock) v339 t338) ∧ Aside0 (Kd.N (Kd.slice 3 (Kd.int .i64)) 37 w' w.heap.size (fun k_ => some k_ ≠ (v339 : Value).ownBlock) v343 t342) ∧ Aside0 (Below w.heap.size w w'))
      case atStart => exact ⟨(0), (by first | rfl | (simp; done) | (simp [*]; done)), H', ⟨Nat.le_refl _⟩, ⟨by (with_reducible repeat (first | apply Kd.N_alloc | apply Kd.N_drewN | apply Kd.N_drew)); exact HO_14.out⟩, ⟨by (with_reducible repeat (first | apply Kd.N_alloc | apply Kd.N_drewN | apply Kd.N_drew)); exact HO_16.out⟩, ⟨by repeat (first | (with_reducible first | exact HB.out | apply below_alloc | apply pw_below_drewN | apply below_drew1) | exact HB.out)⟩⟩
      clear H'
      try clear c1
      try clear p1
      try clear q1
      try clear hx1
      try clear c2
      try clear p2
      try clear c3
      try clear c4
      try clear c4b0
      try clear c6
      try clear c6b0
      try clear c6b1
      try clear p6
      try clear c7
      try clear c7b0
      try clear c7b1
      try clear c8
      try clear c14
      try clear c15
      try clear c15b0
      try clear c16
      try clear c16b0
      try clear c17
      try clear c17b0
      try clear p18
      try clear q18
      try clear hx18
      try clear hf18
      try clear c21
      try clear c31
      try clear c31b0
      try clear c31b1
      try clear c32
      try clear c32b0
      try clear c32b1
      try clear c34
      try clear hx18_0
      try clear p1
      try clear p18
      try clear p2
      try clear p6
      try clear q1
      try clear q18
      obtain ⟨x18_3, rfl, HA, HK3, HO_14, HO_16, HB⟩ := hrel
      cases gk with
      | zero => exact absurd HA.out (by simp [marblerunlaw12_BasisNone.l2])
      | succ k3 =>
        have H := HA.out
        clear HA
        simp only [marblerunlaw12_BasisNone.l2] at H
        by_cases c35 : x18_3 < (wrap64 (Int.tmod a0 7))
        · rw [if_pos c35] at H
          have c35b0 : decide (x18_3 < (wrap64 (Int.tmod a0 7))) = true := decide_eq_true c35
          clear c35
          have H' := Aside0.mk H
          clear H
          go_wp2
          go_loopg [19] k3 (fun kq v19 w' => ∃ (x19_4 : Int), v19 = .int .i64 x19_4 ∧ Aside0 (marblerunlaw12_BasisNone.l3 kq (wrap64 (Int.tmod a0 7)) (wrap64 (Int.tmod a1 5)) t338 t342 x18_3 x19_4 = some r) ∧ Aside0 (kq ≤ k3) ∧ Aside0 (Kd.N (Kd.slice 3 (Kd.int .i64)) 37 w' w.heap.size (fun k_ => some k_ ≠ (v343 : Value).ownBlock) v339 t338) ∧ Aside0 (Kd.N (Kd.slice 3 (Kd.int .i64)) 37 w' w.heap.size (fun k_ => some k_ ≠ (v339 : Value).ownBlock) v343 t342) ∧ Aside0 (Below w.heap.size w w'))
          case atStart => exact ⟨(0), (by first | rfl | (simp; done) | (simp [*]; done)), H', ⟨Nat.le_refl _⟩, ⟨by (with_reducible repeat (first | apply Kd.N_alloc | apply Kd.N_drewN | apply Kd.N_drew)); exact HO_14.out⟩, ⟨by (with_reducible repeat (first | apply Kd.N_alloc | apply Kd.N_drewN | apply Kd.N_drew)); exact HO_16.out⟩, ⟨by repeat (first | (with_reducible first | exact HB.out | apply below_alloc | apply pw_below_drewN | apply below_drew1) | exact HB.out)⟩⟩
          clear H'
          try clear c1
          try clear p1
          try clear q1
          try clear hx1
          try clear c2
          try clear p2
          try clear c3
          try clear c4
          try clear c4b0
          try clear c6
          try clear c6b0
          try clear c6b1
          try clear p6
          try clear c7
          try clear c7b0
          try clear c7b1
          try clear c8
          try clear c14
          try clear c15
          try clear c15b0
          try clear c16
          try clear c16b0
          try clear c17
          try clear c17b0
          try clear p18
          try clear q18
          try clear hx18
          try clear hf18
          try clear c21
          try clear c31
          try clear c31b0
          try clear c31b1
          try clear c32
          try clear c32b0
          try clear c32b1
          try clear c34
          try clear c35
          try clear c35b0
          try clear hx18_0
          try clear p1
          try clear p18
          try clear p2
          try clear p6
          try clear q1
          try clear q18
          obtain ⟨x19_4, rfl, HA, HK4, HO_14, HO_16, HB⟩ := hrel
          cases gk with
          | zero => exact absurd HA.out (by simp [marblerunlaw12_BasisNone.l3])
          | succ k4 =>
            have H := HA.out
            clear HA
            simp only [marblerunlaw12_BasisNone.l3] at H
            by_cases c36 : x19_4 < (wrap64 (Int.tmod a0 7))
            · rw [if_pos c36] at H
              have c36b0 : decide (x19_4 < (wrap64 (Int.tmod a0 7))) = true := decide_eq_true c36
              clear c36
              by_cases c37 : x18_3 = x19_4
              · rw [if_pos c37] at H
                have c37b0 : (x18_3 == x19_4) = true := beq_iff_eq.mpr c37
                have c37b1 : (x18_3 != x19_4) = false := bne_eq_false_iff_eq.mpr c37
                clear c37
                by_cases c38 : 0 ≤ x18_3
                case neg => rw [if_neg c38] at H; exact absurd H (by simp)
                rw [if_pos c38] at H
                have c38b0 : decide (0 ≤ x18_3) = true := decide_eq_true c38
                clear c38
                by_cases c39 : x18_3 < (t338.length : Int)
                case neg => rw [if_neg c39] at H; exact absurd H (by simp)
                rw [if_pos c39] at H
                have c39b0 : decide (x18_3 < (t338.length : Int)) = true := decide_eq_true c39
                clear c39
                by_cases c40 : 0 ≤ x19_4
                case neg => rw [if_neg c40] at H; exact absurd H (by simp)
                rw [if_pos c40] at H
                have c40b0 : decide (0 ≤ x19_4) = true := decide_eq_true c40
                clear c40
                by_cases c41 : x19_4 < ((rd_L1 t338 x18_3).length : Int)
                case neg => rw [if_neg c41] at H; exact absurd H (by simp)
                rw [if_pos c41] at H
                have c41b0 : decide (x19_4 < ((rd_L1 t338 x18_3).length : Int)) = true := decide_eq_true c41
                clear c41
                by_cases c42 : (rd (rd_L1 t338 x18_3) x19_4) = 1
                · rw [if_pos c42] at H
                  have c42b0 : ((rd (rd_L1 t338 x18_3) x19_4) == 1) = true := beq_iff_eq.mpr c42
                  have c42b1 : ((rd (rd_L1 t338 x18_3) x19_4) != 1) = false := bne_eq_false_iff_eq.mpr c42
                  clear c42
                  have H' := Aside0.mk H
                  clear H
                  obtain ⟨Ao43, co43, eo43⟩ := Kd.N_slice HO_14.out
                  subst eo43
                  have p347 : 0 ≤ (x18_3 : Int) := of_decide_eq_true (by first | (with_reducible assumption) | assumption)
                  have q347 : x18_3 < (t338.length : Int) := of_decide_eq_true (by first | (with_reducible assumption) | assumption)
                  obtain ⟨ad347, A347_0, c347_0, e347, hx347_0, hl347_0, hi347_0⟩ := at_L1 (Kd.N_reads' HO_14.out).2.2 x18_3 p347 q347
                  cases e347
                  obtain ⟨ce347, hce347, hMe347, hcc347⟩ := Kd.N_get HO_14.out [] x18_3 p347 (by first | exact q347 | exact of_decide_eq_true (by first | (with_reducible assumption) | assumption) | (have e_ := (Kd.N_reads' HO_14.out).1; omega))
                  obtain ⟨ua347_0, uc347_0, rfl, ul347_0, ge347_0⟩ := Kd.FK_slice_open hMe347
                  have hv347_0 := hcc347 0 _ rfl
                  rw [Nat.add_zero, show ((Kd.slice 3 (Kd.int .i64))).sz = 1 from rfl, Nat.mul_one] at hv347_0
                  replace hv347_0 := Option.some.inj (hv347_0.symm.trans hx347_0)
                  injection hv347_0 with hva_ hvn_ hvc_
                  rw [hva_] at ge347_0
                  rw [hvc_] at ul347_0
                  have HL347_0 := Aside0.mk (show Kd.V (Kd.int .i64) 3 _ w.heap.size _ _ (rd_L1 t338 x18_3) from Kd.V_mk ul347_0 ge347_0)
                  clear hva_ hvn_ hvc_ ge347_0 ul347_0
                  clear hcc347 hce347
                  have HR347_0 := Aside0.mk hi347_0
                  have HC347_0 := Aside0.mk hl347_0
                  clear hi347_0 hl347_0
                  replace p347 := eq_true p347
                  replace q347 := eq_true q347
                  have p348 : 0 ≤ (x19_4 : Int) := of_decide_eq_true (by first | (with_reducible assumption) | assumption)
                  have q348 : x19_4 < ((rd_L1 t338 x18_3).length : Int) := of_decide_eq_true (by first | (with_reducible assumption) | assumption)
                  obtain ⟨ad348, e348, hx348_0⟩ := Kd.at_int (by repeat (first | (with_reducible exact HR347_0.out) | (with_reducible refine Kd.C_alloc ?_ _) | (with_reducible refine Kd.C_drewN ?_ _) | (with_reducible refine Kd.C_drew ?_) | exact HR347_0.out)) x19_4 p348 q348
                  cases e348
                  replace p348 := eq_true p348
                  replace q348 := eq_true q348
                  go_wp2
                  go_roundg k4
                  case measure => have := HK1.out; have := HJ25.out; have := HK3.out; have := HK4.out; omega
                  case rel => exact ⟨(wrap64 (x19_4 + 1)), (by first | rfl | (simp; done) | (simp [*]; done)), H', ⟨by have := HK1.out; have := HJ25.out; have := HK3.out; have := HK4.out; omega⟩, ⟨by (with_reducible repeat (first | apply Kd.N_alloc | apply Kd.N_drewN | apply Kd.N_drew)); exact HO_14.out⟩, ⟨by (with_reducible repeat (first | apply Kd.N_alloc | apply Kd.N_drewN | apply Kd.N_drew)); exact HO_16.out⟩, ⟨by repeat (first | (with_reducible first | exact HB.out | apply below_alloc | apply pw_below_drewN | apply below_drew1) | exact HB.out)⟩⟩
                rw [if_neg c42] at H
                have c42b0 : ((rd (rd_L1 t338 x18_3) x19_4) == 1) = false := beq_eq_false_iff_ne.mpr c42
                have c42b1 : ((rd (rd_L1 t338 x18_3) x19_4) != 1) = true := bne_iff_ne.mpr c42
                obtain rfl := Option.some.inj H
                obtain ⟨Ao44, co44, eo44⟩ := Kd.N_slice HO_14.out
                subst eo44
                have p347 : 0 ≤ (x18_3 : Int) := of_decide_eq_true (by first | (with_reducible assumption) | assumption)
                have q347 : x18_3 < (t338.length : Int) := of_decide_eq_true (by first | (with_reducible assumption) | assumption)
                obtain ⟨ad347, A347_0, c347_0, e347, hx347_0, hl347_0, hi347_0⟩ := at_L1 (Kd.N_reads' HO_14.out).2.2 x18_3 p347 q347
                cases e347
                obtain ⟨ce347, hce347, hMe347, hcc347⟩ := Kd.N_get HO_14.out [] x18_3 p347 (by first | exact q347 | exact of_decide_eq_true (by first | (with_reducible assumption) | assumption) | (have e_ := (Kd.N_reads' HO_14.out).1; omega))
                obtain ⟨ua347_0, uc347_0, rfl, ul347_0, ge347_0⟩ := Kd.FK_slice_open hMe347
                have hv347_0 := hcc347 0 _ rfl
                rw [Nat.add_zero, show ((Kd.slice 3 (Kd.int .i64))).sz = 1 from rfl, Nat.mul_one] at hv347_0
                replace hv347_0 := Option.some.inj (hv347_0.symm.trans hx347_0)
                injection hv347_0 with hva_ hvn_ hvc_
                rw [hva_] at ge347_0
                rw [hvc_] at ul347_0
                have HL347_0 := Aside0.mk (show Kd.V (Kd.int .i64) 3 _ w.heap.size _ _ (rd_L1 t338 x18_3) from Kd.V_mk ul347_0 ge347_0)
                clear hva_ hvn_ hvc_ ge347_0 ul347_0
                clear hcc347 hce347
                have HR347_0 := Aside0.mk hi347_0
                have HC347_0 := Aside0.mk hl347_0
                clear hi347_0 hl347_0
                replace p347 := eq_true p347
                replace q347 := eq_true q347
                have p348 : 0 ≤ (x19_4 : Int) := of_decide_eq_true (by first | (with_reducible assumption) | assumption)
                have q348 : x19_4 < ((rd_L1 t338 x18_3).length : Int) := of_decide_eq_true (by first | (with_reducible assumption) | assumption)
                obtain ⟨ad348, e348, hx348_0⟩ := Kd.at_int (by repeat (first | (with_reducible exact HR347_0.out) | (with_reducible refine Kd.C_alloc ?_ _) | (with_reducible refine Kd.C_drewN ?_ _) | (with_reducible refine Kd.C_drew ?_) | exact HR347_0.out)) x19_4 p348 q348
                cases e348
                replace p348 := eq_true p348
                replace q348 := eq_true q348
                go_wp2
                go_ret
                exact ⟨by first | rfl | (simp [errW_none, errW_some] <;> rfl) | (simp [*, errW_none, errW_some] <;> rfl), by repeat (first | (with_reducible first | exact HB.out | apply below_alloc | apply pw_below_drewN | apply below_drew1) | exact HB.out)⟩
              rw [if_neg c37] at H
              have c37b0 : (x18_3 == x19_4) = false := beq_eq_false_iff_ne.mpr c37
              have c37b1 : (x18_3 != x19_4) = true := bne_iff_ne.mpr c37
              by_cases c45 : 0 ≤ x18_3
              case neg => rw [if_neg c45] at H; exact absurd H (by simp)
              rw [if_pos c45] at H
              have c45b0 : decide (0 ≤ x18_3) = true := decide_eq_true c45
              clear c45
              by_cases c46 : x18_3 < (t338.length : Int)
              case neg => rw [if_neg c46] at H; exact absurd H (by simp)
              rw [if_pos c46] at H
              have c46b0 : decide (x18_3 < (t338.length : Int)) = true := decide_eq_true c46
              clear c46
              by_cases c47 : 0 ≤ x19_4
              case neg => rw [if_neg c47] at H; exact absurd H (by simp)
              rw [if_pos c47] at H
              have c47b0 : decide (0 ≤ x19_4) = true := decide_eq_true c47
              clear c47
              by_cases c48 : x19_4 < ((rd_L1 t338 x18_3).length : Int)
              case neg => rw [if_neg c48] at H; exact absurd H (by simp)
              rw [if_pos c48] at H
              have c48b0 : decide (x19_4 < ((rd_L1 t338 x18_3).length : Int)) = true := decide_eq_true c48
              clear c48
              by_cases c49 : (rd (rd_L1 t338 x18_3) x19_4) = 0
              · rw [if_pos c49] at H
                have c49b0 : ((rd (rd_L1 t338 x18_3) x19_4) == 0) = true := beq_iff_eq.mpr c49
                have c49b1 : ((rd (rd_L1 t338 x18_3) x19_4) != 0) = false := bne_eq_false_iff_eq.mpr c49
                clear c49
                have H' := Aside0.mk H
                clear H
                obtain ⟨Ao50, co50, eo50⟩ := Kd.N_slice HO_14.out
                subst eo50
                have p349 : 0 ≤ (x18_3 : Int) := of_decide_eq_true (by first | (with_reducible assumption) | assumption)
                have q349 : x18_3 < (t338.length : Int) := of_decide_eq_true (by first | (with_reducible assumption) | assumption)
                obtain ⟨ad349, A349_0, c349_0, e349, hx349_0, hl349_0, hi349_0⟩ := at_L1 (Kd.N_reads' HO_14.out).2.2 x18_3 p349 q349
                cases e349
                obtain ⟨ce349, hce349, hMe349, hcc349⟩ := Kd.N_get HO_14.out [] x18_3 p349 (by first | exact q349 | exact of_decide_eq_true (by first | (with_reducible assumption) | assumption) | (have e_ := (Kd.N_reads' HO_14.out).1; omega))
                obtain ⟨ua349_0, uc349_0, rfl, ul349_0, ge349_0⟩ := Kd.FK_slice_open hMe349
                have hv349_0 := hcc349 0 _ rfl
                rw [Nat.add_zero, show ((Kd.slice 3 (Kd.int .i64))).sz = 1 from rfl, Nat.mul_one] at hv349_0
                replace hv349_0 := Option.some.inj (hv349_0.symm.trans hx349_0)
                injection hv349_0 with hva_ hvn_ hvc_
                rw [hva_] at ge349_0
                rw [hvc_] at ul349_0
                have HL349_0 := Aside0.mk (show Kd.V (Kd.int .i64) 3 _ w.heap.size _ _ (rd_L1 t338 x18_3) from Kd.V_mk ul349_0 ge349_0)
                clear hva_ hvn_ hvc_ ge349_0 ul349_0
                clear hcc349 hce349
                have HR349_0 := Aside0.mk hi349_0
                have HC349_0 := Aside0.mk hl349_0
                clear hi349_0 hl349_0
                replace p349 := eq_true p349
                replace q349 := eq_true q349
                have p350 : 0 ≤ (x19_4 : Int) := of_decide_eq_true (by first | (with_reducible assumption) | assumption)
                have q350 : x19_4 < ((rd_L1 t338 x18_3).length : Int) := of_decide_eq_true (by first | (with_reducible assumption) | assumption)
                obtain ⟨ad350, e350, hx350_0⟩ := Kd.at_int (by repeat (first | (with_reducible exact HR349_0.out) | (with_reducible refine Kd.C_alloc ?_ _) | (with_reducible refine Kd.C_drewN ?_ _) | (with_reducible refine Kd.C_drew ?_) | exact HR349_0.out)) x19_4 p350 q350
                cases e350
                replace p350 := eq_true p350
                replace q350 := eq_true q350
                go_wp2
                go_roundg k4
                case measure => have := HK1.out; have := HJ25.out; have := HK3.out; have := HK4.out; omega
                case rel => exact ⟨(wrap64 (x19_4 + 1)), (by first | rfl | (simp; done) | (simp [*]; done)), H', ⟨by have := HK1.out; have := HJ25.out; have := HK3.out; have := HK4.out; omega⟩, ⟨by (with_reducible repeat (first | apply Kd.N_alloc | apply Kd.N_drewN | apply Kd.N_drew)); exact HO_14.out⟩, ⟨by (with_reducible repeat (first | apply Kd.N_alloc | apply Kd.N_drewN | apply Kd.N_drew)); exact HO_16.out⟩, ⟨by repeat (first | (with_reducible first | exact HB.out | apply below_alloc | apply pw_below_drewN | apply below_drew1) | exact HB.out)⟩⟩
              rw [if_neg c49] at H
              have c49b0 : ((rd (rd_L1 t338 x18_3) x19_4) == 0) = false := beq_eq_false_iff_ne.mpr c49
              have c49b1 : ((rd (rd_L1 t338 x18_3) x19_4) != 0) = true := bne_iff_ne.mpr c49
              obtain rfl := Option.some.inj H
              obtain ⟨Ao51, co51, eo51⟩ := Kd.N_slice HO_14.out
              subst eo51
              have p349 : 0 ≤ (x18_3 : Int) := of_decide_eq_true (by first | (with_reducible assumption) | assumption)
              have q349 : x18_3 < (t338.length : Int) := of_decide_eq_true (by first | (with_reducible assumption) | assumption)
              obtain ⟨ad349, A349_0, c349_0, e349, hx349_0, hl349_0, hi349_0⟩ := at_L1 (Kd.N_reads' HO_14.out).2.2 x18_3 p349 q349
              cases e349
              obtain ⟨ce349, hce349, hMe349, hcc349⟩ := Kd.N_get HO_14.out [] x18_3 p349 (by first | exact q349 | exact of_decide_eq_true (by first | (with_reducible assumption) | assumption) | (have e_ := (Kd.N_reads' HO_14.out).1; omega))
              obtain ⟨ua349_0, uc349_0, rfl, ul349_0, ge349_0⟩ := Kd.FK_slice_open hMe349
              have hv349_0 := hcc349 0 _ rfl
              rw [Nat.add_zero, show ((Kd.slice 3 (Kd.int .i64))).sz = 1 from rfl, Nat.mul_one] at hv349_0
              replace hv349_0 := Option.some.inj (hv349_0.symm.trans hx349_0)
              injection hv349_0 with hva_ hvn_ hvc_
              rw [hva_] at ge349_0
              rw [hvc_] at ul349_0
              have HL349_0 := Aside0.mk (show Kd.V (Kd.int .i64) 3 _ w.heap.size _ _ (rd_L1 t338 x18_3) from Kd.V_mk ul349_0 ge349_0)
              clear hva_ hvn_ hvc_ ge349_0 ul349_0
              clear hcc349 hce349
              have HR349_0 := Aside0.mk hi349_0
              have HC349_0 := Aside0.mk hl349_0
              clear hi349_0 hl349_0
              replace p349 := eq_true p349
              replace q349 := eq_true q349
              have p350 : 0 ≤ (x19_4 : Int) := of_decide_eq_true (by first | (with_reducible assumption) | assumption)
              have q350 : x19_4 < ((rd_L1 t338 x18_3).length : Int) := of_decide_eq_true (by first | (with_reducible assumption) | assumption)
              obtain ⟨ad350, e350, hx350_0⟩ := Kd.at_int (by repeat (first | (with_reducible exact HR349_0.out) | (with_reducible refine Kd.C_alloc ?_ _) | (with_reducible refine Kd.C_drewN ?_ _) | (with_reducible refine Kd.C_drew ?_) | exact HR349_0.out)) x19_4 p350 q350
              cases e350
              replace p350 := eq_true p350
              replace q350 := eq_true q350
              go_wp2
              go_ret
              exact ⟨by first | rfl | (simp [errW_none, errW_some] <;> rfl) | (simp [*, errW_none, errW_some] <;> rfl), by repeat (first | (with_reducible first | exact HB.out | apply below_alloc | apply pw_below_drewN | apply below_drew1) | exact HB.out)⟩
            rw [if_neg c36] at H
            have c36b0 : decide (x19_4 < (wrap64 (Int.tmod a0 7))) = false := decide_eq_false c36
            clear c36
            have H' := Aside0.mk H
            clear H
            go_wp2
            go_roundg k4
            case measure => have := HK1.out; have := HJ25.out; have := HK3.out; have := HK4.out; omega
            case rel => exact ⟨(wrap64 (x18_3 + 1)), (by first | rfl | (simp; done) | (simp [*]; done)), H', ⟨by have := HK1.out; have := HJ25.out; have := HK3.out; have := HK4.out; omega⟩, ⟨by (with_reducible repeat (first | apply Kd.N_alloc | apply Kd.N_drewN | apply Kd.N_drew)); exact HO_14.out⟩, ⟨by (with_reducible repeat (first | apply Kd.N_alloc | apply Kd.N_drewN | apply Kd.N_drew)); exact HO_16.out⟩, ⟨by repeat (first | (with_reducible first | exact HB.out | apply below_alloc | apply pw_below_drewN | apply below_drew1) | exact HB.out)⟩⟩
        rw [if_neg c35] at H
        have c35b0 : decide (x18_3 < (wrap64 (Int.tmod a0 7))) = false := decide_eq_false c35
        clear c35
        replace H := Option.bind_eq_some_iff.mp H
        obtain ⟨t346, A520, H⟩ := H
        replace H : (if t346 = true then (if (wrap64 (Int.tmod a1 5)) > 0 then (if (((t342.length : Int) == 0) == true) = true then (some true) else (some false)) else (if (((t342.length : Int) == 0) == ((wrap64 (Int.tmod a0 7)) == 0)) = true then (some ((t342.length : Int) == (wrap64 (Int.tmod a0 7)))) else (some false))) else (some false)) = some r := H
        have A52 := Aside0.mk A520
        clear A520
        by_cases c53 : t346 = true
        · subst c53
          have H1 : (if (wrap64 (Int.tmod a1 5)) > 0 then (if (((t342.length : Int) == 0) == true) = true then (some true) else (some false)) else (if (((t342.length : Int) == 0) == ((wrap64 (Int.tmod a0 7)) == 0)) = true then (some ((t342.length : Int) == (wrap64 (Int.tmod a0 7)))) else (some false))) = some r := by rw [if_pos rfl] at H; exact H
          clear H
          have H := H1
          clear H1
          by_cases c54 : (wrap64 (Int.tmod a1 5)) > 0
          · rw [if_pos c54] at H
            have c54b0 : decide (0 < (wrap64 (Int.tmod a1 5))) = true := decide_eq_true c54
            clear c54
            by_cases c55 : (((t342.length : Int) == 0) == true) = true
            · rw [if_pos c55] at H
              have c55b0 : (((t342.length : Int) == 0) == true) = true := c55
              (try (have c55b1 : decide (((t342.length : Int) == 0) = true) = true := by simpa using c55))
              (try (have c55b2 : (((t342.length : Int) == 0) == true) = true := by simpa using c55))
              clear c55
              obtain rfl := Option.some.inj H
              go_wp2_with (first | ((with_reducible refine gate_callee (f := 10) rfl ?_); refine goesL_ (some 100) rfl rfl Try.func10 (by kernel_rfl) rfl #[] rfl (by (try simp only [List.map_toArray, List.map_cons, List.map_nil]); first | done | rfl | (simp only [List.length_drop, List.length_take]; rfl)) ?_; (with_reducible refine (marblerunlaw12_awake.calls k3  true _ A52.out).mono ?_); rintro e w56 ⟨rfl, hb⟩; refine ⟨_, rfl, ?_⟩; have n0_ := Aside0.mk (Kd.N_below (kq_N HO_14.out) hb); have n1_ := Aside0.mk (Kd.N_below (kq_N HO_16.out) hb); have n2_ := Aside0.mk (below_step (by repeat (first | (with_reducible first | exact HB.out | apply below_alloc | apply pw_below_drewN | apply below_drew1) | exact HB.out)) hb); clear HO_14; clear HO_16; clear HB; have HO_14 := n0_; have HO_16 := n1_; have HB := n2_; clear n0_ n1_ n2_; (try clear hb); (try clear hb2); (try clear hk); (try clear hi); obtain ⟨Ao57, co57, eo57⟩ := Kd.N_slice HO_16.out; subst eo57))
              go_ret
              exact ⟨by first | rfl | (simp [errW_none, errW_some] <;> rfl) | (simp [*, errW_none, errW_some] <;> rfl), by repeat (first | (with_reducible first | exact HB.out | apply below_alloc | apply pw_below_drewN | apply below_drew1) | exact HB.out)⟩
            rw [if_neg c55] at H
            have c55b0 : (((t342.length : Int) == 0) == true) = false := by simpa using c55
            (try (have c55b1 : decide (((t342.length : Int) == 0) = true) = false := by simpa using c55))
            (try (have c55b2 : (((t342.length : Int) == 0) == true) = false := by simpa using c55))
            (try (have c55b3 : ¬ (((t342.length : Int) == 0) = true) := by simpa using c55))
            clear c55
            obtain rfl := Option.some.inj H
            go_wp2_with (first | ((with_reducible refine gate_callee (f := 10) rfl ?_); refine goesL_ (some 100) rfl rfl Try.func10 (by kernel_rfl) rfl #[] rfl (by (try simp only [List.map_toArray, List.map_cons, List.map_nil]); first | done | rfl | (simp only [List.length_drop, List.length_take]; rfl)) ?_; (with_reducible refine (marblerunlaw12_awake.calls k3  true _ A52.out).mono ?_); rintro e w58 ⟨rfl, hb⟩; refine ⟨_, rfl, ?_⟩; have n0_ := Aside0.mk (Kd.N_below (kq_N HO_14.out) hb); have n1_ := Aside0.mk (Kd.N_below (kq_N HO_16.out) hb); have n2_ := Aside0.mk (below_step (by repeat (first | (with_reducible first | exact HB.out | apply below_alloc | apply pw_below_drewN | apply below_drew1) | exact HB.out)) hb); clear HO_14; clear HO_16; clear HB; have HO_14 := n0_; have HO_16 := n1_; have HB := n2_; clear n0_ n1_ n2_; (try clear hb); (try clear hb2); (try clear hk); (try clear hi); obtain ⟨Ao59, co59, eo59⟩ := Kd.N_slice HO_16.out; subst eo59))
            go_ret
            exact ⟨by first | rfl | (simp [errW_none, errW_some] <;> rfl) | (simp [*, errW_none, errW_some] <;> rfl), by repeat (first | (with_reducible first | exact HB.out | apply below_alloc | apply pw_below_drewN | apply below_drew1) | exact HB.out)⟩
          rw [if_neg c54] at H
          have c54b0 : decide (0 < (wrap64 (Int.tmod a1 5))) = false := decide_eq_false c54
          clear c54
          by_cases c60 : (((t342.length : Int) == 0) == ((wrap64 (Int.tmod a0 7)) == 0)) = true
          · rw [if_pos c60] at H
            have c60b0 : (((t342.length : Int) == 0) == ((wrap64 (Int.tmod a0 7)) == 0)) = true := c60
            (try (have c60b1 : decide (((t342.length : Int) == 0) = ((wrap64 (Int.tmod a0 7)) == 0)) = true := by simpa using c60))
            (try (have c60b2 : (((t342.length : Int) == 0) == ((wrap64 (Int.tmod a0 7)) == 0)) = true := by simpa using c60))
            clear c60
            obtain rfl := Option.some.inj H
            go_wp2_with (first | ((with_reducible refine gate_callee (f := 10) rfl ?_); refine goesL_ (some 100) rfl rfl Try.func10 (by kernel_rfl) rfl #[] rfl (by (try simp only [List.map_toArray, List.map_cons, List.map_nil]); first | done | rfl | (simp only [List.length_drop, List.length_take]; rfl)) ?_; (with_reducible refine (marblerunlaw12_awake.calls k3  true _ A52.out).mono ?_); rintro e w61 ⟨rfl, hb⟩; refine ⟨_, rfl, ?_⟩; have n0_ := Aside0.mk (Kd.N_below (kq_N HO_14.out) hb); have n1_ := Aside0.mk (Kd.N_below (kq_N HO_16.out) hb); have n2_ := Aside0.mk (below_step (by repeat (first | (with_reducible first | exact HB.out | apply below_alloc | apply pw_below_drewN | apply below_drew1) | exact HB.out)) hb); clear HO_14; clear HO_16; clear HB; have HO_14 := n0_; have HO_16 := n1_; have HB := n2_; clear n0_ n1_ n2_; (try clear hb); (try clear hb2); (try clear hk); (try clear hi); obtain ⟨Ao62, co62, eo62⟩ := Kd.N_slice HO_16.out; subst eo62))
            go_ret
            exact ⟨by first | rfl | (simp [errW_none, errW_some] <;> rfl) | (simp [*, errW_none, errW_some] <;> rfl), by repeat (first | (with_reducible first | exact HB.out | apply below_alloc | apply pw_below_drewN | apply below_drew1) | exact HB.out)⟩
          rw [if_neg c60] at H
          have c60b0 : (((t342.length : Int) == 0) == ((wrap64 (Int.tmod a0 7)) == 0)) = false := by simpa using c60
          (try (have c60b1 : decide (((t342.length : Int) == 0) = ((wrap64 (Int.tmod a0 7)) == 0)) = false := by simpa using c60))
          (try (have c60b2 : (((t342.length : Int) == 0) == ((wrap64 (Int.tmod a0 7)) == 0)) = false := by simpa using c60))
          (try (have c60b3 : ¬ (((t342.length : Int) == 0) = ((wrap64 (Int.tmod a0 7)) == 0)) := by simpa using c60))
          clear c60
          obtain rfl := Option.some.inj H
          go_wp2_with (first | ((with_reducible refine gate_callee (f := 10) rfl ?_); refine goesL_ (some 100) rfl rfl Try.func10 (by kernel_rfl) rfl #[] rfl (by (try simp only [List.map_toArray, List.map_cons, List.map_nil]); first | done | rfl | (simp only [List.length_drop, List.length_take]; rfl)) ?_; (with_reducible refine (marblerunlaw12_awake.calls k3  true _ A52.out).mono ?_); rintro e w63 ⟨rfl, hb⟩; refine ⟨_, rfl, ?_⟩; have n0_ := Aside0.mk (Kd.N_below (kq_N HO_14.out) hb); have n1_ := Aside0.mk (Kd.N_below (kq_N HO_16.out) hb); have n2_ := Aside0.mk (below_step (by repeat (first | (with_reducible first | exact HB.out | apply below_alloc | apply pw_below_drewN | apply below_drew1) | exact HB.out)) hb); clear HO_14; clear HO_16; clear HB; have HO_14 := n0_; have HO_16 := n1_; have HB := n2_; clear n0_ n1_ n2_; (try clear hb); (try clear hb2); (try clear hk); (try clear hi); obtain ⟨Ao64, co64, eo64⟩ := Kd.N_slice HO_16.out; subst eo64))
          go_ret
          exact ⟨by first | rfl | (simp [errW_none, errW_some] <;> rfl) | (simp [*, errW_none, errW_some] <;> rfl), by repeat (first | (with_reducible first | exact HB.out | apply below_alloc | apply pw_below_drewN | apply below_drew1) | exact HB.out)⟩
        replace c53 := Bool.eq_false_iff.mpr c53
        subst c53
        have H1 : (some false) = some r := by rw [if_neg (show ¬ (false = true) by decide)] at H; exact H
        clear H
        have H := H1
        clear H1
        obtain rfl := Option.some.inj H
        go_wp2_with (first | ((with_reducible refine gate_callee (f := 10) rfl ?_); refine goesL_ (some 100) rfl rfl Try.func10 (by kernel_rfl) rfl #[] rfl (by (try simp only [List.map_toArray, List.map_cons, List.map_nil]); first | done | rfl | (simp only [List.length_drop, List.length_take]; rfl)) ?_; (with_reducible refine (marblerunlaw12_awake.calls k3  false _ A52.out).mono ?_); rintro e w65 ⟨rfl, hb⟩; refine ⟨_, rfl, ?_⟩; have n0_ := Aside0.mk (Kd.N_below (kq_N HO_14.out) hb); have n1_ := Aside0.mk (Kd.N_below (kq_N HO_16.out) hb); have n2_ := Aside0.mk (below_step (by repeat (first | (with_reducible first | exact HB.out | apply below_alloc | apply pw_below_drewN | apply below_drew1) | exact HB.out)) hb); clear HO_14; clear HO_16; clear HB; have HO_14 := n0_; have HO_16 := n1_; have HB := n2_; clear n0_ n1_ n2_; (try clear hb); (try clear hb2); (try clear hk); (try clear hi)))
        go_ret
        exact ⟨by first | rfl | (simp [errW_none, errW_some] <;> rfl) | (simp [*, errW_none, errW_some] <;> rfl), by repeat (first | (with_reducible first | exact HB.out | apply below_alloc | apply pw_below_drewN | apply below_drew1) | exact HB.out)⟩

/-- THE ONE PURE STATEMENT of marblerunlaw12_BasisNone: yours. -/
def marblerunlaw12_BasisNone.Pure : Prop := ∀ (a0 : Int) (a1 : Int) (a2 : Int), (Lit.int .u8 a0).wf = true → (Lit.int .u8 a1).wf = true → (Lit.int .u8 a2).wf = true → ∃ k, marblerunlaw12_BasisNone.f k a0 a1 a2 = some true
theorem marblerunlaw12_BasisNone.walk (P : marblerunlaw12_BasisNone.Pure) (a0 : Int) (a1 : Int) (a2 : Int) (w : World) (w0 : (Lit.int .u8 a0).wf = true) (w1 : (Lit.int .u8 a1).wf = true) (w2 : (Lit.int .u8 a2).wf = true) :
    Calls Try.prog 4 #[.int .u8 a0, .int .u8 a1, .int .u8 a2] w fun e w' => e = .returned (.bool true) ∧ Below w.heap.size w w' := by
  obtain ⟨k, h⟩ := P a0 a1 a2 w0 w1 w2
  refine (marblerunlaw12_BasisNone.calls k a0 a1 a2 true w h).mono ?_
  rintro e w' ⟨rfl, hd⟩
  exact ⟨rfl, hd⟩

end Go.Proofs.Ytifbflpaednfnaa.PBasisNone
