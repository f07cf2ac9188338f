/- What the functions that this law reaches answer, in whatever memory, and the row of the law; no condition. Written by a program of this session (mk.sh). -/
import Derived.Test.YtigpmhicdmjbeaaPWeighErrsx0
import Derived.Test.YtigpmhicdmjbeaaPWeighErrsx5
namespace Go.Proofs.Ytigpmhicdmjbeaa.PWeighErrs
open Go.RowKit Go.Proofs.YtigpmhicdmjbeaaW.PrintWords Go.Proofs.YtigpmhicdmjbeaaW.PrintLast Go.Proofs.YtigpmhicdmjbeaaW.PrintMore
attribute [local go_sem] max2_int min2_int max_two min_two max_three min_three max_four min_four   -- for this text's walks alone
set_option linter.unusedVariables false
set_option linter.unusedSimpArgs false

/-! ### marblerunref01_Mul: function 46 -/
def marblerunref01_Mul.f (a0 : Int) (a1 : Int) : Option (Int × Bool) := if a0 = 0 then (some (0, true)) else (if a1 = 0 then (some (0, true)) else (if a0 = (-9223372036854775808) then (if a0 = 1 then (some ((-9223372036854775808), true)) else (if a1 = 1 then (some ((-9223372036854775808), true)) else (some (0, false)))) else (if a1 = (-9223372036854775808) then (if a0 = 1 then (some ((-9223372036854775808), true)) else (if a1 = 1 then (some ((-9223372036854775808), true)) else (some (0, false)))) else (if a0 < 0 then (if a1 < 0 then (if (wrap64 (-a1)) = 0 then (none) else (if (wrap64 (-a0)) ≤ (wrap64 (Int.tdiv (9223372036854775807 : Int) (wrap64 (-a1)))) then (some (wrap64 ((wrap64 (-a0)) * (wrap64 (-a1))), true)) else (some (0, false)))) else (if (wrap64 (-a0)) ≤ (wrap64 (Int.tdiv (9223372036854775807 : Int) a1)) then (some (wrap64 (-(wrap64 ((wrap64 (-a0)) * a1))), true)) else (if (Int.tmod (wrap64 (-a0)) 2) = 0 then (if (wrap64 (Int.tdiv (wrap64 (-a0)) 2)) ≤ (wrap64 (Int.tdiv (9223372036854775807 : Int) a1)) then (if (wrap64 ((wrap64 (Int.tdiv (wrap64 (-a0)) 2)) * a1)) = 4611686018427387904 then (some ((-9223372036854775808), true)) else (if (Int.tmod a1 2) = 0 then (if (wrap64 (-a0)) = 0 then (none) else (if (wrap64 (Int.tdiv a1 2)) ≤ (wrap64 (Int.tdiv (9223372036854775807 : Int) (wrap64 (-a0)))) then (if (wrap64 ((wrap64 (Int.tdiv a1 2)) * (wrap64 (-a0)))) = 4611686018427387904 then (some ((-9223372036854775808), true)) else (some (0, false))) else (some (0, false)))) else (some (0, false)))) else (if (Int.tmod a1 2) = 0 then (if (wrap64 (-a0)) = 0 then (none) else (if (wrap64 (Int.tdiv a1 2)) ≤ (wrap64 (Int.tdiv (9223372036854775807 : Int) (wrap64 (-a0)))) then (if (wrap64 ((wrap64 (Int.tdiv a1 2)) * (wrap64 (-a0)))) = 4611686018427387904 then (some ((-9223372036854775808), true)) else (some (0, false))) else (some (0, false)))) else (some (0, false)))) else (if (Int.tmod a1 2) = 0 then (if (wrap64 (-a0)) = 0 then (none) else (if (wrap64 (Int.tdiv a1 2)) ≤ (wrap64 (Int.tdiv (9223372036854775807 : Int) (wrap64 (-a0)))) then (if (wrap64 ((wrap64 (Int.tdiv a1 2)) * (wrap64 (-a0)))) = 4611686018427387904 then (some ((-9223372036854775808), true)) else (some (0, false))) else (some (0, false)))) else (some (0, false)))))) else (if a1 < 0 then (if (wrap64 (-a1)) = 0 then (none) else (if a0 ≤ (wrap64 (Int.tdiv (9223372036854775807 : Int) (wrap64 (-a1)))) then (some (wrap64 (-(wrap64 (a0 * (wrap64 (-a1))))), true)) else (if (Int.tmod a0 2) = 0 then (if (wrap64 (Int.tdiv a0 2)) ≤ (wrap64 (Int.tdiv (9223372036854775807 : Int) (wrap64 (-a1)))) then (if (wrap64 ((wrap64 (Int.tdiv a0 2)) * (wrap64 (-a1)))) = 4611686018427387904 then (some ((-9223372036854775808), true)) else (if (Int.tmod (wrap64 (-a1)) 2) = 0 then (if (wrap64 (Int.tdiv (wrap64 (-a1)) 2)) ≤ (wrap64 (Int.tdiv (9223372036854775807 : Int) a0)) then (if (wrap64 ((wrap64 (Int.tdiv (wrap64 (-a1)) 2)) * a0)) = 4611686018427387904 then (some ((-9223372036854775808), true)) else (some (0, false))) else (some (0, false))) else (some (0, false)))) else (if (Int.tmod (wrap64 (-a1)) 2) = 0 then (if (wrap64 (Int.tdiv (wrap64 (-a1)) 2)) ≤ (wrap64 (Int.tdiv (9223372036854775807 : Int) a0)) then (if (wrap64 ((wrap64 (Int.tdiv (wrap64 (-a1)) 2)) * a0)) = 4611686018427387904 then (some ((-9223372036854775808), true)) else (some (0, false))) else (some (0, false))) else (some (0, false)))) else (if (Int.tmod (wrap64 (-a1)) 2) = 0 then (if (wrap64 (Int.tdiv (wrap64 (-a1)) 2)) ≤ (wrap64 (Int.tdiv (9223372036854775807 : Int) a0)) then (if (wrap64 ((wrap64 (Int.tdiv (wrap64 (-a1)) 2)) * a0)) = 4611686018427387904 then (some ((-9223372036854775808), true)) else (some (0, false))) else (some (0, false))) else (some (0, false)))))) else (if a0 ≤ (wrap64 (Int.tdiv (9223372036854775807 : Int) a1)) then (some (wrap64 (a0 * a1), true)) else (some (0, false))))))))
set_option maxHeartbeats 8000000 in
set_option maxRecDepth 100000 in
theorem marblerunref01_Mul.calls (a0 : Int) (a1 : Int) (r1 : Int) (r2 : Bool) (w : World) (h : marblerunref01_Mul.f a0 a1 = some (r1, r2)) :
 Calls Try.prog 46 #[.int .i64 a0, .int .i64 a1] w fun e w' => e = .returned (.tuple #[.int .i64 r1, .bool r2]) ∧ Drawn0 w w' := by
 have H : (if a0 = 0 then (some (0, true)) else (if a1 = 0 then (some (0, true)) else (if a0 = (-9223372036854775808) then (if a0 = 1 then (some ((-9223372036854775808), true)) else (if a1 = 1 then (some ((-9223372036854775808), true)) else (some (0, false)))) else (if a1 = (-9223372036854775808) then (if a0 = 1 then (some ((-9223372036854775808), true)) else (if a1 = 1 then (some ((-9223372036854775808), true)) else (some (0, false)))) else (if a0 < 0 then (if a1 < 0 then (if (wrap64 (-a1)) = 0 then (none) else (if (wrap64 (-a0)) ≤ (wrap64 (Int.tdiv (9223372036854775807 : Int) (wrap64 (-a1)))) then (some (wrap64 ((wrap64 (-a0)) * (wrap64 (-a1))), true)) else (some (0, false)))) else (if (wrap64 (-a0)) ≤ (wrap64 (Int.tdiv (9223372036854775807 : Int) a1)) then (some (wrap64 (-(wrap64 ((wrap64 (-a0)) * a1))), true)) else (if (Int.tmod (wrap64 (-a0)) 2) = 0 then (if (wrap64 (Int.tdiv (wrap64 (-a0)) 2)) ≤ (wrap64 (Int.tdiv (9223372036854775807 : Int) a1)) then (if (wrap64 ((wrap64 (Int.tdiv (wrap64 (-a0)) 2)) * a1)) = 4611686018427387904 then (some ((-9223372036854775808), true)) else (if (Int.tmod a1 2) = 0 then (if (wrap64 (-a0)) = 0 then (none) else (if (wrap64 (Int.tdiv a1 2)) ≤ (wrap64 (Int.tdiv (9223372036854775807 : Int) (wrap64 (-a0)))) then (if (wrap64 ((wrap64 (Int.tdiv a1 2)) * (wrap64 (-a0)))) = 4611686018427387904 then (some ((-9223372036854775808), true)) else (some (0, false))) else (some (0, false)))) else (some (0, false)))) else (if (Int.tmod a1 2) = 0 then (if (wrap64 (-a0)) = 0 then (none) else (if (wrap64 (Int.tdiv a1 2)) ≤ (wrap64 (Int.tdiv (9223372036854775807 : Int) (wrap64 (-a0)))) then (if (wrap64 ((wrap64 (Int.tdiv a1 2)) * (wrap64 (-a0)))) = 4611686018427387904 then (some ((-9223372036854775808), true)) else (some (0, false))) else (some (0, false)))) else (some (0, false)))) else (if (Int.tmod a1 2) = 0 then (if (wrap64 (-a0)) = 0 then (none) else (if (wrap64 (Int.tdiv a1 2)) ≤ (wrap64 (Int.tdiv (9223372036854775807 : Int) (wrap64 (-a0)))) then (if (wrap64 ((wrap64 (Int.tdiv a1 2)) * (wrap64 (-a0)))) = 4611686018427387904 then (some ((-9223372036854775808), true)) else (some (0, false))) else (some (0, false)))) else (some (0, false)))))) else (if a1 < 0 then (if (wrap64 (-a1)) = 0 then (none) else (if a0 ≤ (wrap64 (Int.tdiv (9223372036854775807 : Int) (wrap64 (-a1)))) then (some (wrap64 (-(wrap64 (a0 * (wrap64 (-a1))))), true)) else (if (Int.tmod a0 2) = 0 then (if (wrap64 (Int.tdiv a0 2)) ≤ (wrap64 (Int.tdiv (9223372036854775807 : Int) (wrap64 (-a1)))) then (if (wrap64 ((wrap64 (Int.tdiv a0 2)) * (wrap64 (-a1)))) = 4611686018427387904 then (some ((-9223372036854775808), true)) else (if (Int.tmod (wrap64 (-a1)) 2) = 0 then (if (wrap64 (Int.tdiv (wrap64 (-a1)) 2)) ≤ (wrap64 (Int.tdiv (9223372036854775807 : Int) a0)) then (if (wrap64 ((wrap64 (Int.tdiv (wrap64 (-a1)) 2)) * a0)) = 4611686018427387904 then (some ((-9223372036854775808), true)) else (some (0, false))) else (some (0, false))) else (some (0, false)))) else (if (Int.tmod (wrap64 (-a1)) 2) = 0 then (if (wrap64 (Int.tdiv (wrap64 (-a1)) 2)) ≤ (wrap64 (Int.tdiv (9223372036854775807 : Int) a0)) then (if (wrap64 ((wrap64 (Int.tdiv (wrap64 (-a1)) 2)) * a0)) = 4611686018427387904 then (some ((-9223372036854775808), true)) else (some (0, false))) else (some (0, false))) else (some (0, false)))) else (if (Int.tmod (wrap64 (-a1)) 2) = 0 then (if (wrap64 (Int.tdiv (wrap64 (-a1)) 2)) ≤ (wrap64 (Int.tdiv (9223372036854775807 : Int) a0)) then (if (wrap64 ((wrap64 (Int.tdiv (wrap64 (-a1)) 2)) * a0)) = 4611686018427387904 then (some ((-9223372036854775808), true)) else (some (0, false))) else (some (0, false))) else (some (0, false)))))) else (if a0 ≤ (wrap64 (Int.tdiv (9223372036854775807 : Int) a1)) then (some (wrap64 (a0 * a1), true)) else (some (0, false))))))))) = some (r1, r2) := h; clear h
 by_cases c3 : a0 = 0
 ·rw [if_pos c3] at H; have c3b0 : (a0 == 0) = true := beq_iff_eq.mpr c3; have c3b1 : (a0 != 0) = false := bne_eq_false_iff_eq.mpr c3; clear c3; simp only [Option.some.injEq, Prod.mk.injEq] at H; obtain ⟨rfl, rfl⟩ := H; go_enter Try.func46, Try.ntmps46; go_wp2; go_ret2; exact ⟨by first | rfl | (simp; done) | (simp [*]; done), by repeat (first | exact Drawn0.refl _ | apply Drawn0.step)⟩
 rw [if_neg c3] at H; have c3b0 : (a0 == 0) = false := beq_eq_false_iff_ne.mpr c3; have c3b1 : (a0 != 0) = true := bne_iff_ne.mpr c3
 by_cases c4 : a1 = 0
 ·rw [if_pos c4] at H; have c4b0 : (a1 == 0) = true := beq_iff_eq.mpr c4; have c4b1 : (a1 != 0) = false := bne_eq_false_iff_eq.mpr c4; clear c4; simp only [Option.some.injEq, Prod.mk.injEq] at H; obtain ⟨rfl, rfl⟩ := H; go_enter Try.func46, Try.ntmps46; go_wp2; go_ret2; exact ⟨by first | rfl | (simp; done) | (simp [*]; done), by repeat (first | exact Drawn0.refl _ | apply Drawn0.step)⟩
 rw [if_neg c4] at H; have c4b0 : (a1 == 0) = false := beq_eq_false_iff_ne.mpr c4; have c4b1 : (a1 != 0) = true := bne_iff_ne.mpr c4
 by_cases c5 : a0 = (-9223372036854775808)
 ·rw [if_pos c5] at H; have c5b0 : (a0 == (-9223372036854775808)) = true := beq_iff_eq.mpr c5; have c5b1 : (a0 != (-9223372036854775808)) = false := bne_eq_false_iff_eq.mpr c5; clear c5
  by_cases c6 : a0 = 1
  ·rw [if_pos c6] at H; have c6b0 : (a0 == 1) = true := beq_iff_eq.mpr c6; have c6b1 : (a0 != 1) = false := bne_eq_false_iff_eq.mpr c6; clear c6; simp only [Option.some.injEq, Prod.mk.injEq] at H; obtain ⟨rfl, rfl⟩ := H; go_enter Try.func46, Try.ntmps46; go_wp2; go_ret2; exact ⟨by first | rfl | (simp; done) | (simp [*]; done), by repeat (first | exact Drawn0.refl _ | apply Drawn0.step)⟩
  rw [if_neg c6] at H; have c6b0 : (a0 == 1) = false := beq_eq_false_iff_ne.mpr c6; have c6b1 : (a0 != 1) = true := bne_iff_ne.mpr c6
  by_cases c7 : a1 = 1
  ·rw [if_pos c7] at H; have c7b0 : (a1 == 1) = true := beq_iff_eq.mpr c7; have c7b1 : (a1 != 1) = false := bne_eq_false_iff_eq.mpr c7; clear c7; simp only [Option.some.injEq, Prod.mk.injEq] at H; obtain ⟨rfl, rfl⟩ := H; go_enter Try.func46, Try.ntmps46; go_wp2; go_ret2; exact ⟨by first | rfl | (simp; done) | (simp [*]; done), by repeat (first | exact Drawn0.refl _ | apply Drawn0.step)⟩
  rw [if_neg c7] at H; have c7b0 : (a1 == 1) = false := beq_eq_false_iff_ne.mpr c7; have c7b1 : (a1 != 1) = true := bne_iff_ne.mpr c7; simp only [Option.some.injEq, Prod.mk.injEq] at H; obtain ⟨rfl, rfl⟩ := H; go_enter Try.func46, Try.ntmps46; go_wp2; go_ret2; exact ⟨by first | rfl | (simp; done) | (simp [*]; done), by repeat (first | exact Drawn0.refl _ | apply Drawn0.step)⟩
 rw [if_neg c5] at H; have c5b0 : (a0 == (-9223372036854775808)) = false := beq_eq_false_iff_ne.mpr c5; have c5b1 : (a0 != (-9223372036854775808)) = true := bne_iff_ne.mpr c5
 by_cases c8 : a1 = (-9223372036854775808)
 ·rw [if_pos c8] at H; have c8b0 : (a1 == (-9223372036854775808)) = true := beq_iff_eq.mpr c8; have c8b1 : (a1 != (-9223372036854775808)) = false := bne_eq_false_iff_eq.mpr c8; clear c8
  by_cases c9 : a0 = 1
  ·rw [if_pos c9] at H; have c9b0 : (a0 == 1) = true := beq_iff_eq.mpr c9; have c9b1 : (a0 != 1) = false := bne_eq_false_iff_eq.mpr c9; clear c9; simp only [Option.some.injEq, Prod.mk.injEq] at H; obtain ⟨rfl, rfl⟩ := H; go_enter Try.func46, Try.ntmps46; go_wp2; go_ret2; exact ⟨by first | rfl | (simp; done) | (simp [*]; done), by repeat (first | exact Drawn0.refl _ | apply Drawn0.step)⟩
  rw [if_neg c9] at H; have c9b0 : (a0 == 1) = false := beq_eq_false_iff_ne.mpr c9; have c9b1 : (a0 != 1) = true := bne_iff_ne.mpr c9
  by_cases c10 : a1 = 1
  ·rw [if_pos c10] at H; have c10b0 : (a1 == 1) = true := beq_iff_eq.mpr c10; have c10b1 : (a1 != 1) = false := bne_eq_false_iff_eq.mpr c10; clear c10; simp only [Option.some.injEq, Prod.mk.injEq] at H; obtain ⟨rfl, rfl⟩ := H; go_enter Try.func46, Try.ntmps46; go_wp2; go_ret2; exact ⟨by first | rfl | (simp; done) | (simp [*]; done), by repeat (first | exact Drawn0.refl _ | apply Drawn0.step)⟩
  rw [if_neg c10] at H; have c10b0 : (a1 == 1) = false := beq_eq_false_iff_ne.mpr c10; have c10b1 : (a1 != 1) = true := bne_iff_ne.mpr c10; simp only [Option.some.injEq, Prod.mk.injEq] at H; obtain ⟨rfl, rfl⟩ := H; go_enter Try.func46, Try.ntmps46; go_wp2; go_ret2; exact ⟨by first | rfl | (simp; done) | (simp [*]; done), by repeat (first | exact Drawn0.refl _ | apply Drawn0.step)⟩
 rw [if_neg c8] at H; have c8b0 : (a1 == (-9223372036854775808)) = false := beq_eq_false_iff_ne.mpr c8; have c8b1 : (a1 != (-9223372036854775808)) = true := bne_iff_ne.mpr c8
 by_cases c11 : a0 < 0
 ·rw [if_pos c11] at H; have c11b0 : decide (a0 < 0) = true := decide_eq_true c11; clear c11
  by_cases c12 : a1 < 0
  ·rw [if_pos c12] at H; have c12b0 : decide (a1 < 0) = true := decide_eq_true c12; clear c12
   by_cases c13 : (wrap64 (-a1)) = 0
   case pos => rw [if_pos c13] at H; exact absurd H (by simp)
   rw [if_neg c13] at H; have c13b0 : ((wrap64 (-a1)) == 0) = false := beq_eq_false_iff_ne.mpr c13; have c13b1 : ((wrap64 (-a1)) != 0) = true := bne_iff_ne.mpr c13
   by_cases c14 : (wrap64 (-a0)) ≤ (wrap64 (Int.tdiv (9223372036854775807 : Int) (wrap64 (-a1))))
   ·rw [if_pos c14] at H; have c14b0 : decide ((wrap64 (-a0)) ≤ (wrap64 (Int.tdiv (9223372036854775807 : Int) (wrap64 (-a1))))) = true := decide_eq_true c14; clear c14; simp only [Option.some.injEq, Prod.mk.injEq] at H; obtain ⟨rfl, rfl⟩ := H; go_enter Try.func46, Try.ntmps46; go_wp2; go_ret2; exact ⟨by first | rfl | (simp; done) | (simp [*]; done), by repeat (first | exact Drawn0.refl _ | apply Drawn0.step)⟩
   rw [if_neg c14] at H; have c14b0 : decide ((wrap64 (-a0)) ≤ (wrap64 (Int.tdiv (9223372036854775807 : Int) (wrap64 (-a1))))) = false := decide_eq_false c14; clear c14; simp only [Option.some.injEq, Prod.mk.injEq] at H; obtain ⟨rfl, rfl⟩ := H; go_enter Try.func46, Try.ntmps46; go_wp2; go_ret2; exact ⟨by first | rfl | (simp; done) | (simp [*]; done), by repeat (first | exact Drawn0.refl _ | apply Drawn0.step)⟩
  rw [if_neg c12] at H; have c12b0 : decide (a1 < 0) = false := decide_eq_false c12; clear c12
  by_cases c15 : (wrap64 (-a0)) ≤ (wrap64 (Int.tdiv (9223372036854775807 : Int) a1))
  ·rw [if_pos c15] at H; have c15b0 : decide ((wrap64 (-a0)) ≤ (wrap64 (Int.tdiv (9223372036854775807 : Int) a1))) = true := decide_eq_true c15; clear c15; simp only [Option.some.injEq, Prod.mk.injEq] at H; obtain ⟨rfl, rfl⟩ := H; go_enter Try.func46, Try.ntmps46; go_wp2; go_ret2; exact ⟨by first | rfl | (simp; done) | (simp [*]; done), by repeat (first | exact Drawn0.refl _ | apply Drawn0.step)⟩
  rw [if_neg c15] at H; have c15b0 : decide ((wrap64 (-a0)) ≤ (wrap64 (Int.tdiv (9223372036854775807 : Int) a1))) = false := decide_eq_false c15; clear c15
  by_cases c16 : (Int.tmod (wrap64 (-a0)) 2) = 0
  ·rw [if_pos c16] at H; have c16b0 : ((Int.tmod (wrap64 (-a0)) 2) == 0) = true := beq_iff_eq.mpr c16; have c16b1 : ((Int.tmod (wrap64 (-a0)) 2) != 0) = false := bne_eq_false_iff_eq.mpr c16; clear c16
   by_cases c17 : (wrap64 (Int.tdiv (wrap64 (-a0)) 2)) ≤ (wrap64 (Int.tdiv (9223372036854775807 : Int) a1))
   ·rw [if_pos c17] at H; have c17b0 : decide ((wrap64 (Int.tdiv (wrap64 (-a0)) 2)) ≤ (wrap64 (Int.tdiv (9223372036854775807 : Int) a1))) = true := decide_eq_true c17; clear c17
    by_cases c18 : (wrap64 ((wrap64 (Int.tdiv (wrap64 (-a0)) 2)) * a1)) = 4611686018427387904
    ·rw [if_pos c18] at H; have c18b0 : ((wrap64 ((wrap64 (Int.tdiv (wrap64 (-a0)) 2)) * a1)) == 4611686018427387904) = true := beq_iff_eq.mpr c18; have c18b1 : ((wrap64 ((wrap64 (Int.tdiv (wrap64 (-a0)) 2)) * a1)) != 4611686018427387904) = false := bne_eq_false_iff_eq.mpr c18; clear c18; simp only [Option.some.injEq, Prod.mk.injEq] at H; obtain ⟨rfl, rfl⟩ := H; go_enter Try.func46, Try.ntmps46; go_wp2; go_ret2; exact ⟨by first | rfl | (simp; done) | (simp [*]; done), by repeat (first | exact Drawn0.refl _ | apply Drawn0.step)⟩
    rw [if_neg c18] at H; have c18b0 : ((wrap64 ((wrap64 (Int.tdiv (wrap64 (-a0)) 2)) * a1)) == 4611686018427387904) = false := beq_eq_false_iff_ne.mpr c18; have c18b1 : ((wrap64 ((wrap64 (Int.tdiv (wrap64 (-a0)) 2)) * a1)) != 4611686018427387904) = true := bne_iff_ne.mpr c18
    by_cases c19 : (Int.tmod a1 2) = 0
    ·rw [if_pos c19] at H; have c19b0 : ((Int.tmod a1 2) == 0) = true := beq_iff_eq.mpr c19; have c19b1 : ((Int.tmod a1 2) != 0) = false := bne_eq_false_iff_eq.mpr c19; clear c19
     by_cases c20 : (wrap64 (-a0)) = 0
     case pos => rw [if_pos c20] at H; exact absurd H (by simp)
     rw [if_neg c20] at H; have c20b0 : ((wrap64 (-a0)) == 0) = false := beq_eq_false_iff_ne.mpr c20; have c20b1 : ((wrap64 (-a0)) != 0) = true := bne_iff_ne.mpr c20
     by_cases c21 : (wrap64 (Int.tdiv a1 2)) ≤ (wrap64 (Int.tdiv (9223372036854775807 : Int) (wrap64 (-a0))))
     ·rw [if_pos c21] at H; have c21b0 : decide ((wrap64 (Int.tdiv a1 2)) ≤ (wrap64 (Int.tdiv (9223372036854775807 : Int) (wrap64 (-a0))))) = true := decide_eq_true c21; clear c21
      by_cases c22 : (wrap64 ((wrap64 (Int.tdiv a1 2)) * (wrap64 (-a0)))) = 4611686018427387904
      ·rw [if_pos c22] at H; have c22b0 : ((wrap64 ((wrap64 (Int.tdiv a1 2)) * (wrap64 (-a0)))) == 4611686018427387904) = true := beq_iff_eq.mpr c22; have c22b1 : ((wrap64 ((wrap64 (Int.tdiv a1 2)) * (wrap64 (-a0)))) != 4611686018427387904) = false := bne_eq_false_iff_eq.mpr c22; clear c22; simp only [Option.some.injEq, Prod.mk.injEq] at H; obtain ⟨rfl, rfl⟩ := H; go_enter Try.func46, Try.ntmps46; go_wp2; go_ret2; exact ⟨by first | rfl | (simp; done) | (simp [*]; done), by repeat (first | exact Drawn0.refl _ | apply Drawn0.step)⟩
      rw [if_neg c22] at H; have c22b0 : ((wrap64 ((wrap64 (Int.tdiv a1 2)) * (wrap64 (-a0)))) == 4611686018427387904) = false := beq_eq_false_iff_ne.mpr c22; have c22b1 : ((wrap64 ((wrap64 (Int.tdiv a1 2)) * (wrap64 (-a0)))) != 4611686018427387904) = true := bne_iff_ne.mpr c22; simp only [Option.some.injEq, Prod.mk.injEq] at H; obtain ⟨rfl, rfl⟩ := H; go_enter Try.func46, Try.ntmps46; go_wp2; go_ret2; exact ⟨by first | rfl | (simp; done) | (simp [*]; done), by repeat (first | exact Drawn0.refl _ | apply Drawn0.step)⟩
     rw [if_neg c21] at H; have c21b0 : decide ((wrap64 (Int.tdiv a1 2)) ≤ (wrap64 (Int.tdiv (9223372036854775807 : Int) (wrap64 (-a0))))) = false := decide_eq_false c21; clear c21; simp only [Option.some.injEq, Prod.mk.injEq] at H; obtain ⟨rfl, rfl⟩ := H; go_enter Try.func46, Try.ntmps46; go_wp2; go_ret2; exact ⟨by first | rfl | (simp; done) | (simp [*]; done), by repeat (first | exact Drawn0.refl _ | apply Drawn0.step)⟩
    rw [if_neg c19] at H; have c19b0 : ((Int.tmod a1 2) == 0) = false := beq_eq_false_iff_ne.mpr c19; have c19b1 : ((Int.tmod a1 2) != 0) = true := bne_iff_ne.mpr c19; simp only [Option.some.injEq, Prod.mk.injEq] at H; obtain ⟨rfl, rfl⟩ := H; go_enter Try.func46, Try.ntmps46; go_wp2; go_ret2; exact ⟨by first | rfl | (simp; done) | (simp [*]; done), by repeat (first | exact Drawn0.refl _ | apply Drawn0.step)⟩
   rw [if_neg c17] at H; have c17b0 : decide ((wrap64 (Int.tdiv (wrap64 (-a0)) 2)) ≤ (wrap64 (Int.tdiv (9223372036854775807 : Int) a1))) = false := decide_eq_false c17; clear c17
   by_cases c23 : (Int.tmod a1 2) = 0
   ·rw [if_pos c23] at H; have c23b0 : ((Int.tmod a1 2) == 0) = true := beq_iff_eq.mpr c23; have c23b1 : ((Int.tmod a1 2) != 0) = false := bne_eq_false_iff_eq.mpr c23; clear c23
    by_cases c24 : (wrap64 (-a0)) = 0
    case pos => rw [if_pos c24] at H; exact absurd H (by simp)
    rw [if_neg c24] at H; have c24b0 : ((wrap64 (-a0)) == 0) = false := beq_eq_false_iff_ne.mpr c24; have c24b1 : ((wrap64 (-a0)) != 0) = true := bne_iff_ne.mpr c24
    by_cases c25 : (wrap64 (Int.tdiv a1 2)) ≤ (wrap64 (Int.tdiv (9223372036854775807 : Int) (wrap64 (-a0))))
    ·rw [if_pos c25] at H; have c25b0 : decide ((wrap64 (Int.tdiv a1 2)) ≤ (wrap64 (Int.tdiv (9223372036854775807 : Int) (wrap64 (-a0))))) = true := decide_eq_true c25; clear c25
     by_cases c26 : (wrap64 ((wrap64 (Int.tdiv a1 2)) * (wrap64 (-a0)))) = 4611686018427387904
     ·rw [if_pos c26] at H; have c26b0 : ((wrap64 ((wrap64 (Int.tdiv a1 2)) * (wrap64 (-a0)))) == 4611686018427387904) = true := beq_iff_eq.mpr c26; have c26b1 : ((wrap64 ((wrap64 (Int.tdiv a1 2)) * (wrap64 (-a0)))) != 4611686018427387904) = false := bne_eq_false_iff_eq.mpr c26; clear c26; simp only [Option.some.injEq, Prod.mk.injEq] at H; obtain ⟨rfl, rfl⟩ := H; go_enter Try.func46, Try.ntmps46; go_wp2; go_ret2; exact ⟨by first | rfl | (simp; done) | (simp [*]; done), by repeat (first | exact Drawn0.refl _ | apply Drawn0.step)⟩
     rw [if_neg c26] at H; have c26b0 : ((wrap64 ((wrap64 (Int.tdiv a1 2)) * (wrap64 (-a0)))) == 4611686018427387904) = false := beq_eq_false_iff_ne.mpr c26; have c26b1 : ((wrap64 ((wrap64 (Int.tdiv a1 2)) * (wrap64 (-a0)))) != 4611686018427387904) = true := bne_iff_ne.mpr c26; simp only [Option.some.injEq, Prod.mk.injEq] at H; obtain ⟨rfl, rfl⟩ := H; go_enter Try.func46, Try.ntmps46; go_wp2; go_ret2; exact ⟨by first | rfl | (simp; done) | (simp [*]; done), by repeat (first | exact Drawn0.refl _ | apply Drawn0.step)⟩
    rw [if_neg c25] at H; have c25b0 : decide ((wrap64 (Int.tdiv a1 2)) ≤ (wrap64 (Int.tdiv (9223372036854775807 : Int) (wrap64 (-a0))))) = false := decide_eq_false c25; clear c25; simp only [Option.some.injEq, Prod.mk.injEq] at H; obtain ⟨rfl, rfl⟩ := H; go_enter Try.func46, Try.ntmps46; go_wp2; go_ret2; exact ⟨by first | rfl | (simp; done) | (simp [*]; done), by repeat (first | exact Drawn0.refl _ | apply Drawn0.step)⟩
   rw [if_neg c23] at H; have c23b0 : ((Int.tmod a1 2) == 0) = false := beq_eq_false_iff_ne.mpr c23; have c23b1 : ((Int.tmod a1 2) != 0) = true := bne_iff_ne.mpr c23; simp only [Option.some.injEq, Prod.mk.injEq] at H; obtain ⟨rfl, rfl⟩ := H; go_enter Try.func46, Try.ntmps46; go_wp2; go_ret2; exact ⟨by first | rfl | (simp; done) | (simp [*]; done), by repeat (first | exact Drawn0.refl _ | apply Drawn0.step)⟩
  rw [if_neg c16] at H; have c16b0 : ((Int.tmod (wrap64 (-a0)) 2) == 0) = false := beq_eq_false_iff_ne.mpr c16; have c16b1 : ((Int.tmod (wrap64 (-a0)) 2) != 0) = true := bne_iff_ne.mpr c16
  by_cases c27 : (Int.tmod a1 2) = 0
  ·rw [if_pos c27] at H; have c27b0 : ((Int.tmod a1 2) == 0) = true := beq_iff_eq.mpr c27; have c27b1 : ((Int.tmod a1 2) != 0) = false := bne_eq_false_iff_eq.mpr c27; clear c27
   by_cases c28 : (wrap64 (-a0)) = 0
   case pos => rw [if_pos c28] at H; exact absurd H (by simp)
   rw [if_neg c28] at H; have c28b0 : ((wrap64 (-a0)) == 0) = false := beq_eq_false_iff_ne.mpr c28; have c28b1 : ((wrap64 (-a0)) != 0) = true := bne_iff_ne.mpr c28
   by_cases c29 : (wrap64 (Int.tdiv a1 2)) ≤ (wrap64 (Int.tdiv (9223372036854775807 : Int) (wrap64 (-a0))))
   ·rw [if_pos c29] at H; have c29b0 : decide ((wrap64 (Int.tdiv a1 2)) ≤ (wrap64 (Int.tdiv (9223372036854775807 : Int) (wrap64 (-a0))))) = true := decide_eq_true c29; clear c29
    by_cases c30 : (wrap64 ((wrap64 (Int.tdiv a1 2)) * (wrap64 (-a0)))) = 4611686018427387904
    ·rw [if_pos c30] at H; have c30b0 : ((wrap64 ((wrap64 (Int.tdiv a1 2)) * (wrap64 (-a0)))) == 4611686018427387904) = true := beq_iff_eq.mpr c30; have c30b1 : ((wrap64 ((wrap64 (Int.tdiv a1 2)) * (wrap64 (-a0)))) != 4611686018427387904) = false := bne_eq_false_iff_eq.mpr c30; clear c30; simp only [Option.some.injEq, Prod.mk.injEq] at H; obtain ⟨rfl, rfl⟩ := H; go_enter Try.func46, Try.ntmps46; go_wp2; go_ret2; exact ⟨by first | rfl | (simp; done) | (simp [*]; done), by repeat (first | exact Drawn0.refl _ | apply Drawn0.step)⟩
    rw [if_neg c30] at H; have c30b0 : ((wrap64 ((wrap64 (Int.tdiv a1 2)) * (wrap64 (-a0)))) == 4611686018427387904) = false := beq_eq_false_iff_ne.mpr c30; have c30b1 : ((wrap64 ((wrap64 (Int.tdiv a1 2)) * (wrap64 (-a0)))) != 4611686018427387904) = true := bne_iff_ne.mpr c30; simp only [Option.some.injEq, Prod.mk.injEq] at H; obtain ⟨rfl, rfl⟩ := H; go_enter Try.func46, Try.ntmps46; go_wp2; go_ret2; exact ⟨by first | rfl | (simp; done) | (simp [*]; done), by repeat (first | exact Drawn0.refl _ | apply Drawn0.step)⟩
   rw [if_neg c29] at H; have c29b0 : decide ((wrap64 (Int.tdiv a1 2)) ≤ (wrap64 (Int.tdiv (9223372036854775807 : Int) (wrap64 (-a0))))) = false := decide_eq_false c29; clear c29; simp only [Option.some.injEq, Prod.mk.injEq] at H; obtain ⟨rfl, rfl⟩ := H; go_enter Try.func46, Try.ntmps46; go_wp2; go_ret2; exact ⟨by first | rfl | (simp; done) | (simp [*]; done), by repeat (first | exact Drawn0.refl _ | apply Drawn0.step)⟩
  rw [if_neg c27] at H; have c27b0 : ((Int.tmod a1 2) == 0) = false := beq_eq_false_iff_ne.mpr c27; have c27b1 : ((Int.tmod a1 2) != 0) = true := bne_iff_ne.mpr c27; simp only [Option.some.injEq, Prod.mk.injEq] at H; obtain ⟨rfl, rfl⟩ := H; go_enter Try.func46, Try.ntmps46; go_wp2; go_ret2; exact ⟨by first | rfl | (simp; done) | (simp [*]; done), by repeat (first | exact Drawn0.refl _ | apply Drawn0.step)⟩
 rw [if_neg c11] at H; have c11b0 : decide (a0 < 0) = false := decide_eq_false c11; clear c11
 by_cases c31 : a1 < 0
 ·rw [if_pos c31] at H; have c31b0 : decide (a1 < 0) = true := decide_eq_true c31; clear c31
  by_cases c32 : (wrap64 (-a1)) = 0
  case pos => rw [if_pos c32] at H; exact absurd H (by simp)
  rw [if_neg c32] at H; have c32b0 : ((wrap64 (-a1)) == 0) = false := beq_eq_false_iff_ne.mpr c32; have c32b1 : ((wrap64 (-a1)) != 0) = true := bne_iff_ne.mpr c32
  by_cases c33 : a0 ≤ (wrap64 (Int.tdiv (9223372036854775807 : Int) (wrap64 (-a1))))
  ·rw [if_pos c33] at H; have c33b0 : decide (a0 ≤ (wrap64 (Int.tdiv (9223372036854775807 : Int) (wrap64 (-a1))))) = true := decide_eq_true c33; clear c33; simp only [Option.some.injEq, Prod.mk.injEq] at H; obtain ⟨rfl, rfl⟩ := H; go_enter Try.func46, Try.ntmps46; go_wp2; go_ret2; exact ⟨by first | rfl | (simp; done) | (simp [*]; done), by repeat (first | exact Drawn0.refl _ | apply Drawn0.step)⟩
  rw [if_neg c33] at H; have c33b0 : decide (a0 ≤ (wrap64 (Int.tdiv (9223372036854775807 : Int) (wrap64 (-a1))))) = false := decide_eq_false c33; clear c33
  by_cases c34 : (Int.tmod a0 2) = 0
  ·rw [if_pos c34] at H; have c34b0 : ((Int.tmod a0 2) == 0) = true := beq_iff_eq.mpr c34; have c34b1 : ((Int.tmod a0 2) != 0) = false := bne_eq_false_iff_eq.mpr c34; clear c34
   by_cases c35 : (wrap64 (Int.tdiv a0 2)) ≤ (wrap64 (Int.tdiv (9223372036854775807 : Int) (wrap64 (-a1))))
   ·rw [if_pos c35] at H; have c35b0 : decide ((wrap64 (Int.tdiv a0 2)) ≤ (wrap64 (Int.tdiv (9223372036854775807 : Int) (wrap64 (-a1))))) = true := decide_eq_true c35; clear c35
    by_cases c36 : (wrap64 ((wrap64 (Int.tdiv a0 2)) * (wrap64 (-a1)))) = 4611686018427387904
    ·rw [if_pos c36] at H; have c36b0 : ((wrap64 ((wrap64 (Int.tdiv a0 2)) * (wrap64 (-a1)))) == 4611686018427387904) = true := beq_iff_eq.mpr c36; have c36b1 : ((wrap64 ((wrap64 (Int.tdiv a0 2)) * (wrap64 (-a1)))) != 4611686018427387904) = false := bne_eq_false_iff_eq.mpr c36; clear c36; simp only [Option.some.injEq, Prod.mk.injEq] at H; obtain ⟨rfl, rfl⟩ := H; go_enter Try.func46, Try.ntmps46; go_wp2; go_ret2; exact ⟨by first | rfl | (simp; done) | (simp [*]; done), by repeat (first | exact Drawn0.refl _ | apply Drawn0.step)⟩
    rw [if_neg c36] at H; have c36b0 : ((wrap64 ((wrap64 (Int.tdiv a0 2)) * (wrap64 (-a1)))) == 4611686018427387904) = false := beq_eq_false_iff_ne.mpr c36; have c36b1 : ((wrap64 ((wrap64 (Int.tdiv a0 2)) * (wrap64 (-a1)))) != 4611686018427387904) = true := bne_iff_ne.mpr c36
    by_cases c37 : (Int.tmod (wrap64 (-a1)) 2) = 0
    ·rw [if_pos c37] at H; have c37b0 : ((Int.tmod (wrap64 (-a1)) 2) == 0) = true := beq_iff_eq.mpr c37; have c37b1 : ((Int.tmod (wrap64 (-a1)) 2) != 0) = false := bne_eq_false_iff_eq.mpr c37; clear c37
     by_cases c38 : (wrap64 (Int.tdiv (wrap64 (-a1)) 2)) ≤ (wrap64 (Int.tdiv (9223372036854775807 : Int) a0))
     ·rw [if_pos c38] at H; have c38b0 : decide ((wrap64 (Int.tdiv (wrap64 (-a1)) 2)) ≤ (wrap64 (Int.tdiv (9223372036854775807 : Int) a0))) = true := decide_eq_true c38; clear c38
      by_cases c39 : (wrap64 ((wrap64 (Int.tdiv (wrap64 (-a1)) 2)) * a0)) = 4611686018427387904
      ·rw [if_pos c39] at H; have c39b0 : ((wrap64 ((wrap64 (Int.tdiv (wrap64 (-a1)) 2)) * a0)) == 4611686018427387904) = true := beq_iff_eq.mpr c39; have c39b1 : ((wrap64 ((wrap64 (Int.tdiv (wrap64 (-a1)) 2)) * a0)) != 4611686018427387904) = false := bne_eq_false_iff_eq.mpr c39; clear c39; simp only [Option.some.injEq, Prod.mk.injEq] at H; obtain ⟨rfl, rfl⟩ := H; go_enter Try.func46, Try.ntmps46; go_wp2; go_ret2; exact ⟨by first | rfl | (simp; done) | (simp [*]; done), by repeat (first | exact Drawn0.refl _ | apply Drawn0.step)⟩
      rw [if_neg c39] at H; have c39b0 : ((wrap64 ((wrap64 (Int.tdiv (wrap64 (-a1)) 2)) * a0)) == 4611686018427387904) = false := beq_eq_false_iff_ne.mpr c39; have c39b1 : ((wrap64 ((wrap64 (Int.tdiv (wrap64 (-a1)) 2)) * a0)) != 4611686018427387904) = true := bne_iff_ne.mpr c39; simp only [Option.some.injEq, Prod.mk.injEq] at H; obtain ⟨rfl, rfl⟩ := H; go_enter Try.func46, Try.ntmps46; go_wp2; go_ret2; exact ⟨by first | rfl | (simp; done) | (simp [*]; done), by repeat (first | exact Drawn0.refl _ | apply Drawn0.step)⟩
     rw [if_neg c38] at H; have c38b0 : decide ((wrap64 (Int.tdiv (wrap64 (-a1)) 2)) ≤ (wrap64 (Int.tdiv (9223372036854775807 : Int) a0))) = false := decide_eq_false c38; clear c38; simp only [Option.some.injEq, Prod.mk.injEq] at H; obtain ⟨rfl, rfl⟩ := H; go_enter Try.func46, Try.ntmps46; go_wp2; go_ret2; exact ⟨by first | rfl | (simp; done) | (simp [*]; done), by repeat (first | exact Drawn0.refl _ | apply Drawn0.step)⟩
    rw [if_neg c37] at H; have c37b0 : ((Int.tmod (wrap64 (-a1)) 2) == 0) = false := beq_eq_false_iff_ne.mpr c37; have c37b1 : ((Int.tmod (wrap64 (-a1)) 2) != 0) = true := bne_iff_ne.mpr c37; simp only [Option.some.injEq, Prod.mk.injEq] at H; obtain ⟨rfl, rfl⟩ := H; go_enter Try.func46, Try.ntmps46; go_wp2; go_ret2; exact ⟨by first | rfl | (simp; done) | (simp [*]; done), by repeat (first | exact Drawn0.refl _ | apply Drawn0.step)⟩
   rw [if_neg c35] at H; have c35b0 : decide ((wrap64 (Int.tdiv a0 2)) ≤ (wrap64 (Int.tdiv (9223372036854775807 : Int) (wrap64 (-a1))))) = false := decide_eq_false c35; clear c35
   by_cases c40 : (Int.tmod (wrap64 (-a1)) 2) = 0
   ·rw [if_pos c40] at H; have c40b0 : ((Int.tmod (wrap64 (-a1)) 2) == 0) = true := beq_iff_eq.mpr c40; have c40b1 : ((Int.tmod (wrap64 (-a1)) 2) != 0) = false := bne_eq_false_iff_eq.mpr c40; clear c40
    by_cases c41 : (wrap64 (Int.tdiv (wrap64 (-a1)) 2)) ≤ (wrap64 (Int.tdiv (9223372036854775807 : Int) a0))
    ·rw [if_pos c41] at H; have c41b0 : decide ((wrap64 (Int.tdiv (wrap64 (-a1)) 2)) ≤ (wrap64 (Int.tdiv (9223372036854775807 : Int) a0))) = true := decide_eq_true c41; clear c41
     by_cases c42 : (wrap64 ((wrap64 (Int.tdiv (wrap64 (-a1)) 2)) * a0)) = 4611686018427387904
     ·rw [if_pos c42] at H; have c42b0 : ((wrap64 ((wrap64 (Int.tdiv (wrap64 (-a1)) 2)) * a0)) == 4611686018427387904) = true := beq_iff_eq.mpr c42; have c42b1 : ((wrap64 ((wrap64 (Int.tdiv (wrap64 (-a1)) 2)) * a0)) != 4611686018427387904) = false := bne_eq_false_iff_eq.mpr c42; clear c42; simp only [Option.some.injEq, Prod.mk.injEq] at H; obtain ⟨rfl, rfl⟩ := H; go_enter Try.func46, Try.ntmps46; go_wp2; go_ret2; exact ⟨by first | rfl | (simp; done) | (simp [*]; done), by repeat (first | exact Drawn0.refl _ | apply Drawn0.step)⟩
     rw [if_neg c42] at H; have c42b0 : ((wrap64 ((wrap64 (Int.tdiv (wrap64 (-a1)) 2)) * a0)) == 4611686018427387904) = false := beq_eq_false_iff_ne.mpr c42; have c42b1 : ((wrap64 ((wrap64 (Int.tdiv (wrap64 (-a1)) 2)) * a0)) != 4611686018427387904) = true := bne_iff_ne.mpr c42; simp only [Option.some.injEq, Prod.mk.injEq] at H; obtain ⟨rfl, rfl⟩ := H; go_enter Try.func46, Try.ntmps46; go_wp2; go_ret2; exact ⟨by first | rfl | (simp; done) | (simp [*]; done), by repeat (first | exact Drawn0.refl _ | apply Drawn0.step)⟩
    rw [if_neg c41] at H; have c41b0 : decide ((wrap64 (Int.tdiv (wrap64 (-a1)) 2)) ≤ (wrap64 (Int.tdiv (9223372036854775807 : Int) a0))) = false := decide_eq_false c41; clear c41; simp only [Option.some.injEq, Prod.mk.injEq] at H; obtain ⟨rfl, rfl⟩ := H; go_enter Try.func46, Try.ntmps46; go_wp2; go_ret2; exact ⟨by first | rfl | (simp; done) | (simp [*]; done), by repeat (first | exact Drawn0.refl _ | apply Drawn0.step)⟩
   rw [if_neg c40] at H; have c40b0 : ((Int.tmod (wrap64 (-a1)) 2) == 0) = false := beq_eq_false_iff_ne.mpr c40; have c40b1 : ((Int.tmod (wrap64 (-a1)) 2) != 0) = true := bne_iff_ne.mpr c40; simp only [Option.some.injEq, Prod.mk.injEq] at H; obtain ⟨rfl, rfl⟩ := H; go_enter Try.func46, Try.ntmps46; go_wp2; go_ret2; exact ⟨by first | rfl | (simp; done) | (simp [*]; done), by repeat (first | exact Drawn0.refl _ | apply Drawn0.step)⟩
  rw [if_neg c34] at H; have c34b0 : ((Int.tmod a0 2) == 0) = false := beq_eq_false_iff_ne.mpr c34; have c34b1 : ((Int.tmod a0 2) != 0) = true := bne_iff_ne.mpr c34
  by_cases c43 : (Int.tmod (wrap64 (-a1)) 2) = 0
  ·rw [if_pos c43] at H; have c43b0 : ((Int.tmod (wrap64 (-a1)) 2) == 0) = true := beq_iff_eq.mpr c43; have c43b1 : ((Int.tmod (wrap64 (-a1)) 2) != 0) = false := bne_eq_false_iff_eq.mpr c43; clear c43
   by_cases c44 : (wrap64 (Int.tdiv (wrap64 (-a1)) 2)) ≤ (wrap64 (Int.tdiv (9223372036854775807 : Int) a0))
   ·rw [if_pos c44] at H; have c44b0 : decide ((wrap64 (Int.tdiv (wrap64 (-a1)) 2)) ≤ (wrap64 (Int.tdiv (9223372036854775807 : Int) a0))) = true := decide_eq_true c44; clear c44
    by_cases c45 : (wrap64 ((wrap64 (Int.tdiv (wrap64 (-a1)) 2)) * a0)) = 4611686018427387904
    ·rw [if_pos c45] at H; have c45b0 : ((wrap64 ((wrap64 (Int.tdiv (wrap64 (-a1)) 2)) * a0)) == 4611686018427387904) = true := beq_iff_eq.mpr c45; have c45b1 : ((wrap64 ((wrap64 (Int.tdiv (wrap64 (-a1)) 2)) * a0)) != 4611686018427387904) = false := bne_eq_false_iff_eq.mpr c45; clear c45; simp only [Option.some.injEq, Prod.mk.injEq] at H; obtain ⟨rfl, rfl⟩ := H; go_enter Try.func46, Try.ntmps46; go_wp2; go_ret2; exact ⟨by first | rfl | (simp; done) | (simp [*]; done), by repeat (first | exact Drawn0.refl _ | apply Drawn0.step)⟩
    rw [if_neg c45] at H; have c45b0 : ((wrap64 ((wrap64 (Int.tdiv (wrap64 (-a1)) 2)) * a0)) == 4611686018427387904) = false := beq_eq_false_iff_ne.mpr c45; have c45b1 : ((wrap64 ((wrap64 (Int.tdiv (wrap64 (-a1)) 2)) * a0)) != 4611686018427387904) = true := bne_iff_ne.mpr c45; simp only [Option.some.injEq, Prod.mk.injEq] at H; obtain ⟨rfl, rfl⟩ := H; go_enter Try.func46, Try.ntmps46; go_wp2; go_ret2; exact ⟨by first | rfl | (simp; done) | (simp [*]; done), by repeat (first | exact Drawn0.refl _ | apply Drawn0.step)⟩
   rw [if_neg c44] at H; have c44b0 : decide ((wrap64 (Int.tdiv (wrap64 (-a1)) 2)) ≤ (wrap64 (Int.tdiv (9223372036854775807 : Int) a0))) = false := decide_eq_false c44; clear c44; simp only [Option.some.injEq, Prod.mk.injEq] at H; obtain ⟨rfl, rfl⟩ := H; go_enter Try.func46, Try.ntmps46; go_wp2; go_ret2; exact ⟨by first | rfl | (simp; done) | (simp [*]; done), by repeat (first | exact Drawn0.refl _ | apply Drawn0.step)⟩
  rw [if_neg c43] at H; have c43b0 : ((Int.tmod (wrap64 (-a1)) 2) == 0) = false := beq_eq_false_iff_ne.mpr c43; have c43b1 : ((Int.tmod (wrap64 (-a1)) 2) != 0) = true := bne_iff_ne.mpr c43; simp only [Option.some.injEq, Prod.mk.injEq] at H; obtain ⟨rfl, rfl⟩ := H; go_enter Try.func46, Try.ntmps46; go_wp2; go_ret2; exact ⟨by first | rfl | (simp; done) | (simp [*]; done), by repeat (first | exact Drawn0.refl _ | apply Drawn0.step)⟩
 rw [if_neg c31] at H; have c31b0 : decide (a1 < 0) = false := decide_eq_false c31; clear c31
 by_cases c46 : a0 ≤ (wrap64 (Int.tdiv (9223372036854775807 : Int) a1))
 ·rw [if_pos c46] at H; have c46b0 : decide (a0 ≤ (wrap64 (Int.tdiv (9223372036854775807 : Int) a1))) = true := decide_eq_true c46; clear c46; simp only [Option.some.injEq, Prod.mk.injEq] at H; obtain ⟨rfl, rfl⟩ := H; go_enter Try.func46, Try.ntmps46; go_wp2; go_ret2; exact ⟨by first | rfl | (simp; done) | (simp [*]; done), by repeat (first | exact Drawn0.refl _ | apply Drawn0.step)⟩
 rw [if_neg c46] at H; have c46b0 : decide (a0 ≤ (wrap64 (Int.tdiv (9223372036854775807 : Int) a1))) = false := decide_eq_false c46; clear c46; simp only [Option.some.injEq, Prod.mk.injEq] at H; obtain ⟨rfl, rfl⟩ := H; go_enter Try.func46, Try.ntmps46; go_wp2; go_ret2; exact ⟨by first | rfl | (simp; done) | (simp [*]; done), by repeat (first | exact Drawn0.refl _ | apply Drawn0.step)⟩

/-! ### marblerunref01_Dot: function 33 -/
mutual
def marblerunref01_Dot.l0 : Nat → List Int → List Int → Int → Int → Option (Int × Bool)
 | 0, _, _, _, _ => none
 | k + 1, x0, x1, x6, x7 => if x7 < (x0.length : Int) then (marblerunref01_Dot.j1 k x0 x1 x6 x7 (decide (x7 < (x1.length : Int)))) else (marblerunref01_Dot.j1 k x0 x1 x6 x7 false)
def marblerunref01_Dot.j1 : Nat → List Int → List Int → Int → Int → Bool → Option (Int × Bool)
 | 0, _, _, _, _, _ => none
 | k + 1, x0, x1, x6, x7, x21 => if x21 = true then (if 0 ≤ x7 then (if x7 < (x0.length : Int) then (if x7 < (x1.length : Int) then ((marblerunref01_Mul.f (rd x0 x7) (rd x1 x7)).bind fun bt271 => (if bt271.2 = true then ((marblerunref01_Add.f x6 bt271.1).bind fun bt273 => (if bt273.2 = true then (marblerunref01_Dot.l0 k x0 x1 bt273.1 (wrap64 (x7 + 1))) else (some (0, false)))) else (some (0, false)))) else (none)) else (none)) else (none)) else (some (x6, true))
end
def marblerunref01_Dot.f (k : Nat) (l0 : List Int) (l1 : List Int) : Option (Int × Bool) := marblerunref01_Dot.l0 k l0 l1 0 0
theorem marblerunref01_Dot.mono_l : ∀ k, (∀ y0 y1 y2 y3, LeO (marblerunref01_Dot.l0 k y0 y1 y2 y3) (marblerunref01_Dot.l0 (k + 1) y0 y1 y2 y3)) ∧ (∀ y0 y1 y2 y3 y4, LeO (marblerunref01_Dot.j1 k y0 y1 y2 y3 y4) (marblerunref01_Dot.j1 (k + 1) y0 y1 y2 y3 y4))
 | 0 => ⟨fun _ _ _ _ r h => by simp [marblerunref01_Dot.l0] at h, fun _ _ _ _ _ r h => by simp [marblerunref01_Dot.j1] at h⟩
 | k + 1 => by
  obtain ⟨ih0, ih1⟩ := marblerunref01_Dot.mono_l k
  refine ⟨?_, ?_⟩
  all_goals
   intros
   first
   | unfold marblerunref01_Dot.l0
   | unfold marblerunref01_Dot.j1
   repeat' first
   | (with_reducible exact ih0 _ _ _ _)
   | (with_reducible exact ih1 _ _ _ _ _)
   | (with_reducible exact LeO.refl _)
   | (with_reducible exact LeO.none _)
   | (with_reducible refine LeO.ite ?_ ?_)
   | (with_reducible refine LeO.bind ?_ (fun _ => ?_))
   | exact ih0 _ _ _ _
   | exact ih1 _ _ _ _ _
   | exact LeO.none _
   | refine LeO.ite ?_ ?_
   | refine LeO.bind ?_ (fun _ => ?_)
theorem marblerunref01_Dot.mono : ∀ a0 a1 k, LeO (marblerunref01_Dot.f k a0 a1) (marblerunref01_Dot.f (k + 1) a0 a1) := by
 intro a0 a1 k
 obtain ⟨ih0, ih1⟩ := marblerunref01_Dot.mono_l k
 unfold marblerunref01_Dot.f
 repeat' first
  | (with_reducible exact ih0 _ _ _ _)
  | (with_reducible exact ih1 _ _ _ _ _)
  | (with_reducible exact LeO.refl _)
  | (with_reducible exact LeO.none _)
  | (with_reducible refine LeO.ite ?_ ?_)
  | (with_reducible refine LeO.bind ?_ (fun _ => ?_))
  | exact ih0 _ _ _ _
  | exact ih1 _ _ _ _ _
  | exact LeO.none _
  | refine LeO.ite ?_ ?_
  | refine LeO.bind ?_ (fun _ => ?_)
set_option maxHeartbeats 8000000 in
set_option maxRecDepth 100000 in
theorem marblerunref01_Dot.calls (k : Nat) (A0 : Option Addr) (c0 : Nat) (l0 : List Int) (A1 : Option Addr) (c1 : Nat) (l1 : List Int) (r1 : Int) (r2 : Bool) (w : World) (hr0 : Kd.C (Kd.int .i64) w A0 l0.length l0) (hc0 : l0.length ≤ c0) (hr1 : Kd.C (Kd.int .i64) w A1 l1.length l1) (hc1 : l1.length ≤ c1) (h : marblerunref01_Dot.f k l0 l1 = some (r1, r2)) :
 Calls Try.prog 33 #[.slice A0 l0.length c0, .slice A1 l1.length c1] w fun e w' => e = .returned (.tuple #[.int .i64 r1, .bool r2]) ∧ Drawn0 w w' := by
 have HR0 := Aside0.mk hr0; have HC0 := Aside0.mk hc0; clear hr0 hc0; have HR1 := Aside0.mk hr1; have HC1 := Aside0.mk hc1; clear hr1 hc1; have H : (marblerunref01_Dot.l0 k l0 l1 0 0) = some (r1, r2) := h; clear h; have H' := Aside0.mk H; clear H; go_enter Try.func33, Try.ntmps33; go_wp2
 repeat (go_quiet (fail); try go_wp2)
 go_loopg [6, 7] k (fun kq v6 v7 w' => ∃ (x6_1 : Int) (x7_1 : Int), v6 = .int .i64 x6_1 ∧ v7 = .int .i64 x7_1 ∧ Aside0 (marblerunref01_Dot.l0 kq l0 l1 x6_1 x7_1 = some (r1, r2)) ∧ Aside0 (kq ≤ k) ∧ Drawn0 w w')
 case atStart => exact ⟨(0), (0), (by first | rfl | (simp; done) | (simp [*]; done)), (by first | rfl | (simp; done) | (simp [*]; done)), H', ⟨Nat.le_refl _⟩, by repeat (first | exact Drawn0.refl _ | apply Drawn0.step)⟩
 clear H'; (try clear c1); (try clear p2); obtain ⟨x6_1, x7_1, rfl, rfl, HA, HK1, ⟨m1, rfl⟩⟩ := hrel; cases gk with
 | zero => exact absurd HA.out (by simp [marblerunref01_Dot.l0])
 | succ k1 =>
  have H := HA.out; clear HA; simp only [marblerunref01_Dot.l0] at H; have HC3 := Aside0.mk H; clear H; go_upto_region 3 with (fail)
  repeat (go_quiet (fail); go_upto_region 3 with (fail))
  go_cut [21] (fun v21 wc => ∃ (kq : Nat) (x21_2 : Bool), v21 = .bool x21_2 ∧ Aside0 (marblerunref01_Dot.j1 kq l0 l1 x6_1 x7_1 x21_2 = some (r1, r2)) ∧ Aside0 (kq ≤ k1) ∧ Drawn0 w wc)
  case first =>
   have H := HC3.out; clear HC3
   by_cases c4 : x7_1 < (l0.length : Int)
   ·rw [if_pos c4] at H; have c4b0 : decide (x7_1 < (l0.length : Int)) = true := decide_eq_true c4; clear c4; (first | rw [c4b0] | (simp only [i64_w, i32_w]; rw [c4b0]) | skip); have H' := Aside0.mk H; clear H; go_wp2
    repeat (go_quiet (fail); try go_wp2)
    go_meet
    case rel => exact ⟨_, (decide (x7_1 < (l1.length : Int))), (by first | rfl | (simp; done) | (simp [*]; done)), H', ⟨by have := HK1.out; first | omega | exact Nat.le_refl _⟩, by repeat (first | exact Drawn0.refl _ | apply Drawn0.step)⟩
   rw [if_neg c4] at H; have c4b0 : decide (x7_1 < (l0.length : Int)) = false := decide_eq_false c4; clear c4; (first | rw [c4b0] | (simp only [i64_w, i32_w]; rw [c4b0]) | skip); have H' := Aside0.mk H; clear H; go_wp2
   repeat (go_quiet (fail); try go_wp2)
   go_meet
   case rel => exact ⟨_, (false), (by first | rfl | (simp; done) | (simp [*]; done)), H', ⟨by have := HK1.out; first | omega | exact Nat.le_refl _⟩, by repeat (first | exact Drawn0.refl _ | apply Drawn0.step)⟩
  clear HC3; (try clear c1); (try clear p2); (try clear c3); (try clear c4); (try clear c4b0); (try clear p2); obtain ⟨kq, x21_2, rfl, HA, HJ2, ⟨mc2, rfl⟩⟩ := hcut; cases kq with
  | zero => exact absurd HA.out (by simp [marblerunref01_Dot.j1])
  | succ kj2 =>
   have H := HA.out; clear HA; simp only [marblerunref01_Dot.j1] at H
   by_cases c5 : x21_2 = true
   ·subst c5; have H1 : (if 0 ≤ x7_1 then (if x7_1 < (l0.length : Int) then (if x7_1 < (l1.length : Int) then ((marblerunref01_Mul.f (rd l0 x7_1) (rd l1 x7_1)).bind fun bt271 => (if bt271.2 = true then ((marblerunref01_Add.f x6_1 bt271.1).bind fun bt273 => (if bt273.2 = true then (marblerunref01_Dot.l0 kj2 l0 l1 bt273.1 (wrap64 (x7_1 + 1))) else (some (0, false)))) else (some (0, false)))) else (none)) else (none)) else (none)) = some (r1, r2) := by rw [if_pos rfl] at H; exact H
    clear H; have H := H1; clear H1
    by_cases c6 : 0 ≤ x7_1
    case neg => rw [if_neg c6] at H; exact absurd H (by simp)
    rw [if_pos c6] at H; have c6b0 : decide (0 ≤ x7_1) = true := decide_eq_true c6; clear c6
    by_cases c7 : x7_1 < (l0.length : Int)
    case neg => rw [if_neg c7] at H; exact absurd H (by simp)
    rw [if_pos c7] at H; have c7b0 : decide (x7_1 < (l0.length : Int)) = true := decide_eq_true c7; clear c7
    by_cases c8 : x7_1 < (l1.length : Int)
    case neg => rw [if_neg c8] at H; exact absurd H (by simp)
    rw [if_pos c8] at H; have c8b0 : decide (x7_1 < (l1.length : Int)) = true := decide_eq_true c8; clear c8; replace H := Option.bind_eq_some_iff.mp H; obtain ⟨⟨t271, t272⟩, A90, H⟩ := H; replace H : (if t272 = true then ((marblerunref01_Add.f x6_1 t271).bind fun bt273 => (if bt273.2 = true then (marblerunref01_Dot.l0 kj2 l0 l1 bt273.1 (wrap64 (x7_1 + 1))) else (some (0, false)))) else (some (0, false))) = some (r1, r2) := H; have A9 := Aside0.mk A90; clear A90
    by_cases c10 : t272 = true
    ·subst c10; have H1 : ((marblerunref01_Add.f x6_1 t271).bind fun bt273 => (if bt273.2 = true then (marblerunref01_Dot.l0 kj2 l0 l1 bt273.1 (wrap64 (x7_1 + 1))) else (some (0, false)))) = some (r1, r2) := by rw [if_pos rfl] at H; exact H
     clear H; have H := H1; clear H1; replace H := Option.bind_eq_some_iff.mp H; obtain ⟨⟨t273, t274⟩, A110, H⟩ := H; replace H : (if t274 = true then (marblerunref01_Dot.l0 kj2 l0 l1 t273 (wrap64 (x7_1 + 1))) else (some (0, false))) = some (r1, r2) := H; have A11 := Aside0.mk A110; clear A110
     by_cases c12 : t274 = true
     ·subst c12; have H1 : (marblerunref01_Dot.l0 kj2 l0 l1 t273 (wrap64 (x7_1 + 1))) = some (r1, r2) := by rw [if_pos rfl] at H; exact H
      clear H; have H := H1; clear H1; have H' := Aside0.mk H; clear H; have p269 : 0 ≤ (x7_1 : Int) := oa; have q269 : x7_1 < (l0.length : Int) := oa; obtain ⟨ad269, e269, hx269_0⟩ := Kd.at_int HR0.out x7_1 p269 q269; cases e269; replace p269 := eq_true p269; replace q269 := eq_true q269; have p270 : 0 ≤ (x7_1 : Int) := oa; have q270 : x7_1 < (l1.length : Int) := oa; obtain ⟨ad270, e270, hx270_0⟩ := Kd.at_int HR1.out x7_1 p270 q270; cases e270; replace p270 := eq_true p270; replace q270 := eq_true q270
      iterate 3 ((try go_quiet (first | (go_at_call 46; (with_reducible refine (marblerunref01_Mul.calls (rd l0 x7_1) (rd l1 x7_1) t271 true _ A9.out).mono ?_); rintro e w' ⟨rfl, ⟨nd, rfl⟩⟩; (try first | exact ⟨rfl, _, World.drewN_drewN _ _ _⟩ | exact ⟨rfl, _, Eq.trans (World.drewN_drewN _ _ _) (congrArg (World.drewN _) (Nat.add_assoc _ _ _))⟩)) | (go_at_call 44; (with_reducible refine (marblerunref01_Add.calls x6_1 t271 t273 true _ A11.out).mono ?_); rintro e w' ⟨rfl, ⟨nd, rfl⟩⟩; (try first | exact ⟨rfl, _, World.drewN_drewN _ _ _⟩ | exact ⟨rfl, _, Eq.trans (World.drewN_drewN _ _ _) (congrArg (World.drewN _) (Nat.add_assoc _ _ _))⟩)))); go_wp2_with (first | (go_at_call 46; (with_reducible refine (marblerunref01_Mul.calls (rd l0 x7_1) (rd l1 x7_1) t271 true _ A9.out).mono ?_); rintro e w' ⟨rfl, ⟨nd, rfl⟩⟩; (try first | exact ⟨rfl, _, World.drewN_drewN _ _ _⟩ | exact ⟨rfl, _, Eq.trans (World.drewN_drewN _ _ _) (congrArg (World.drewN _) (Nat.add_assoc _ _ _))⟩)) | (go_at_call 44; (with_reducible refine (marblerunref01_Add.calls x6_1 t271 t273 true _ A11.out).mono ?_); rintro e w' ⟨rfl, ⟨nd, rfl⟩⟩; (try first | exact ⟨rfl, _, World.drewN_drewN _ _ _⟩ | exact ⟨rfl, _, Eq.trans (World.drewN_drewN _ _ _) (congrArg (World.drewN _) (Nat.add_assoc _ _ _))⟩))))
      go_roundg kj2
      case measure => have := HK1.out; have := HJ2.out; omega
      case rel => exact ⟨(t273), (wrap64 (x7_1 + 1)), (by first | rfl | (simp; done) | (simp [*]; done)), (by first | rfl | (simp; done) | (simp [*]; done)), H', ⟨by have := HK1.out; have := HJ2.out; omega⟩, by repeat (first | exact Drawn0.refl _ | apply Drawn0.step)⟩
     replace c12 := Bool.eq_false_iff.mpr c12; subst c12; have H1 : (some (0, false)) = some (r1, r2) := by rw [if_neg (show ¬ (false = true) by decide)] at H; exact H
     clear H; have H := H1; clear H1; simp only [Option.some.injEq, Prod.mk.injEq] at H; obtain ⟨rfl, rfl⟩ := H; have p269 : 0 ≤ (x7_1 : Int) := oa; have q269 : x7_1 < (l0.length : Int) := oa; obtain ⟨ad269, e269, hx269_0⟩ := Kd.at_int HR0.out x7_1 p269 q269; cases e269; replace p269 := eq_true p269; replace q269 := eq_true q269; have p270 : 0 ≤ (x7_1 : Int) := oa; have q270 : x7_1 < (l1.length : Int) := oa; obtain ⟨ad270, e270, hx270_0⟩ := Kd.at_int HR1.out x7_1 p270 q270; cases e270; replace p270 := eq_true p270; replace q270 := eq_true q270
     iterate 3 ((try go_quiet (first | (go_at_call 46; (with_reducible refine (marblerunref01_Mul.calls (rd l0 x7_1) (rd l1 x7_1) t271 true _ A9.out).mono ?_); rintro e w' ⟨rfl, ⟨nd, rfl⟩⟩; (try first | exact ⟨rfl, _, World.drewN_drewN _ _ _⟩ | exact ⟨rfl, _, Eq.trans (World.drewN_drewN _ _ _) (congrArg (World.drewN _) (Nat.add_assoc _ _ _))⟩)) | (go_at_call 44; (with_reducible refine (marblerunref01_Add.calls x6_1 t271 t273 false _ A11.out).mono ?_); rintro e w' ⟨rfl, ⟨nd, rfl⟩⟩; (try first | exact ⟨rfl, _, World.drewN_drewN _ _ _⟩ | exact ⟨rfl, _, Eq.trans (World.drewN_drewN _ _ _) (congrArg (World.drewN _) (Nat.add_assoc _ _ _))⟩)))); go_wp2_with (first | (go_at_call 46; (with_reducible refine (marblerunref01_Mul.calls (rd l0 x7_1) (rd l1 x7_1) t271 true _ A9.out).mono ?_); rintro e w' ⟨rfl, ⟨nd, rfl⟩⟩; (try first | exact ⟨rfl, _, World.drewN_drewN _ _ _⟩ | exact ⟨rfl, _, Eq.trans (World.drewN_drewN _ _ _) (congrArg (World.drewN _) (Nat.add_assoc _ _ _))⟩)) | (go_at_call 44; (with_reducible refine (marblerunref01_Add.calls x6_1 t271 t273 false _ A11.out).mono ?_); rintro e w' ⟨rfl, ⟨nd, rfl⟩⟩; (try first | exact ⟨rfl, _, World.drewN_drewN _ _ _⟩ | exact ⟨rfl, _, Eq.trans (World.drewN_drewN _ _ _) (congrArg (World.drewN _) (Nat.add_assoc _ _ _))⟩))))
     go_ret2; exact ⟨by first | rfl | (simp; done) | (simp [*]; done), by repeat (first | exact Drawn0.refl _ | apply Drawn0.step)⟩
    replace c10 := Bool.eq_false_iff.mpr c10; subst c10; have H1 : (some (0, false)) = some (r1, r2) := by rw [if_neg (show ¬ (false = true) by decide)] at H; exact H
    clear H; have H := H1; clear H1; simp only [Option.some.injEq, Prod.mk.injEq] at H; obtain ⟨rfl, rfl⟩ := H; have p269 : 0 ≤ (x7_1 : Int) := oa; have q269 : x7_1 < (l0.length : Int) := oa; obtain ⟨ad269, e269, hx269_0⟩ := Kd.at_int HR0.out x7_1 p269 q269; cases e269; replace p269 := eq_true p269; replace q269 := eq_true q269; have p270 : 0 ≤ (x7_1 : Int) := oa; have q270 : x7_1 < (l1.length : Int) := oa; obtain ⟨ad270, e270, hx270_0⟩ := Kd.at_int HR1.out x7_1 p270 q270; cases e270; replace p270 := eq_true p270; replace q270 := eq_true q270
    iterate 3 ((try go_quiet (first | (go_at_call 46; (with_reducible refine (marblerunref01_Mul.calls (rd l0 x7_1) (rd l1 x7_1) t271 false _ A9.out).mono ?_); rintro e w' ⟨rfl, ⟨nd, rfl⟩⟩; (try first | exact ⟨rfl, _, World.drewN_drewN _ _ _⟩ | exact ⟨rfl, _, Eq.trans (World.drewN_drewN _ _ _) (congrArg (World.drewN _) (Nat.add_assoc _ _ _))⟩)))); go_wp2_with (first | (go_at_call 46; (with_reducible refine (marblerunref01_Mul.calls (rd l0 x7_1) (rd l1 x7_1) t271 false _ A9.out).mono ?_); rintro e w' ⟨rfl, ⟨nd, rfl⟩⟩; (try first | exact ⟨rfl, _, World.drewN_drewN _ _ _⟩ | exact ⟨rfl, _, Eq.trans (World.drewN_drewN _ _ _) (congrArg (World.drewN _) (Nat.add_assoc _ _ _))⟩))))
    go_ret2; exact ⟨by first | rfl | (simp; done) | (simp [*]; done), by repeat (first | exact Drawn0.refl _ | apply Drawn0.step)⟩
   replace c5 := Bool.eq_false_iff.mpr c5; subst c5; have H1 : (some (x6_1, true)) = some (r1, r2) := by rw [if_neg (show ¬ (false = true) by decide)] at H; exact H
   clear H; have H := H1; clear H1; simp only [Option.some.injEq, Prod.mk.injEq] at H; obtain ⟨rfl, rfl⟩ := H; go_wp2
   repeat (go_quiet (fail); try go_wp2)
   go_ret2; exact ⟨by first | rfl | (simp; done) | (simp [*]; done), by repeat (first | exact Drawn0.refl _ | apply Drawn0.step)⟩

end Go.Proofs.Ytigpmhicdmjbeaa.PWeighErrs
