/- What the functions that this law reaches answer, in whatever memory, and the row of the law; no condition. Written by a program of this session (mk.sh). -/
import Derived.Test.YtifbflpaednfnaaPBasisNetsx0
namespace Go.Proofs.Ytifbflpaednfnaa.PBasisNets
open Go.RowKit Go.Proofs.YtifbflpaednfnaaW.PrintWords Go.Proofs.YtifbflpaednfnaaW.PrintLast Go.Proofs.YtifbflpaednfnaaW.PrintMore
attribute [local go_sem] max2_int min2_int max_two min_two   -- for this text's walks alone
set_option linter.unusedVariables false
set_option linter.unusedSimpArgs false

/-! ### matrix_Zero: function 31 -/
def matrix_Zero.l0 : Nat → List Int → Int → Int → Option (Bool)
 | 0, _, _, _ => none
 | k + 1, b, c, a => if a < c then (if 0 ≤ a then (if a < (b.length : Int) then (if (rd b a) = 0 then (matrix_Zero.l0 k b c (wrap64 (a + 1))) else (some false)) else (none)) else (none)) else (some true)
def matrix_Zero.f (k : Nat) (a : List Int) : Option (Bool) := matrix_Zero.l0 k a (a.length : Int) 0
theorem matrix_Zero.mono_l : ∀ k, (∀ y0 y1 y2, LeO (matrix_Zero.l0 k y0 y1 y2) (matrix_Zero.l0 (k + 1) y0 y1 y2))
 | 0 => fun _ _ _ r h => by simp [matrix_Zero.l0] at h
 | k + 1 => by
   have ih0 := matrix_Zero.mono_l k
   intros; unfold matrix_Zero.l0; repeat' with_reducible first | apply ih0 | apply LeO.refl | apply LeO.none | refine LeO.ite ?_ ?_ | refine LeO.bind ?_ fun _ => ?_
theorem matrix_Zero.mono : ∀ a0 k, LeO (matrix_Zero.f k a0) (matrix_Zero.f (k + 1) a0) := by
 intro a0 k
 have ih0 := matrix_Zero.mono_l k
 unfold matrix_Zero.f
 repeat' with_reducible first | apply ih0 | apply LeO.refl | apply LeO.none | refine LeO.ite ?_ ?_ | refine LeO.bind ?_ fun _ => ?_
set_option maxHeartbeats 8000000 in
set_option maxRecDepth 100000 in
theorem matrix_Zero.calls (k : Nat) (A0 : Option Addr) (c0 : Nat) (l0 : List Int) (r : Bool) (w : World) (hr0 : Kd.C (Kd.int .i64) w A0 l0.length l0) (hc0 : l0.length ≤ c0) (h : matrix_Zero.f k l0 = some r) :
 Calls Try.prog 31 #[.slice A0 l0.length c0] w fun e w' => e = .returned (.bool r) ∧ Drawn0 w w' := by
 have a9 := sk hr0; have b3 := sk hc0; clear hr0 hc0; have H : (matrix_Zero.l0 k l0 (l0.length : Int) 0) = some r := h; clear h; have H' := sk H; clear H; go_enter Try.func31, Try.ntmps31; go_wp2; go_loopg [7] k (fun kq v7 w' => ∃ (a0 : Int), v7 = .int .i64 a0 ∧ Aside0 (matrix_Zero.l0 kq l0 (l0.length : Int) a0 = some r) ∧ Aside0 (kq ≤ k) ∧ Drawn0 w w')
 case atStart => exact ⟨(0), (by first | rfl | (simp; done) | (simp [*]; done)), H', ⟨Nat.le_refl _⟩, by repeat (first | exact Drawn0.refl _ | apply Drawn0.step)⟩
 clear H'; obtain ⟨a0, rfl, HA, b0, ⟨m1, rfl⟩⟩ := hrel; cases gk with
 | zero => exact absurd HA.out (by simp [matrix_Zero.l0])
 | succ k1 =>
  have H := HA.out; clear HA; simp only [matrix_Zero.l0] at H
  by_cases c2 : a0 < (l0.length : Int)
  ·rw [if_pos c2] at H; have a6 := decide_eq_true c2; clear c2
   by_cases c3 : 0 ≤ a0
   case neg => rw [if_neg c3] at H; exact nn H
   rw [if_pos c3] at H; have b1 := decide_eq_true c3; clear c3
   by_cases c4 : a0 < (l0.length : Int)
   case neg => rw [if_neg c4] at H; exact nn H
   rw [if_pos c4] at H; have b2 := decide_eq_true c4; clear c4
   by_cases c5 : (rd l0 a0) = 0
   ·rw [if_pos c5] at H; have a7 := beq_iff_eq.mpr c5; have a8 := bne_eq_false_iff_eq.mpr c5; clear c5; have H' := sk H; clear H; have a1 : 0 ≤ (a0 : Int) := oa; have a2 : a0 < (l0.length : Int) := oa; obtain ⟨a5, a4, a3⟩ := Kd.at_int a9.out a0 a1 a2; cases a4; replace a1 := eq_true a1; replace a2 := eq_true a2; go_wp2; go_roundg k1
    case measure => have := b0.out; omega
    case rel => exact ⟨(wrap64 (a0 + 1)), (by first | rfl | (simp; done) | (simp [*]; done)), H', ⟨by have := b0.out; omega⟩, by repeat (first | exact Drawn0.refl _ | apply Drawn0.step)⟩
   rw [if_neg c5] at H; have a7 := beq_eq_false_iff_ne.mpr c5; have a8 := bne_iff_ne.mpr c5; obtain rfl := Option.some.inj H; have a1 : 0 ≤ (a0 : Int) := oa; have a2 : a0 < (l0.length : Int) := oa; obtain ⟨a5, a4, a3⟩ := Kd.at_int a9.out a0 a1 a2; cases a4; replace a1 := eq_true a1; replace a2 := eq_true a2; go_wp2; go_ret; exact f0
  rw [if_neg c2] at H; have a6 := decide_eq_false c2; clear c2; obtain rfl := Option.some.inj H; go_wp2; go_ret; exact f0

end Go.Proofs.Ytifbflpaednfnaa.PBasisNets
