/- What the functions that this law reaches answer, in whatever memory, and the row of the law; no condition. Written by a program of this session (mk.sh). -/
import Derived.Test.YtigpmhicdmjbeaaPWeighStaysx0
import Derived.Test.YtigpmhicdmjbeaaPWeighStaysx9
namespace Go.Proofs.Ytigpmhicdmjbeaa.PWeighStays
open Go.RowKit Go.Proofs.YtigpmhicdmjbeaaW.PrintWords Go.Proofs.YtigpmhicdmjbeaaW.PrintLast Go.Proofs.YtigpmhicdmjbeaaW.PrintMore
attribute [local go_sem] max2_int min2_int max_two min_two max_three min_three max_four min_four   -- for this text's walks alone
set_option linter.unusedVariables false
set_option linter.unusedSimpArgs false

/-! ### r01Mul: function 46 -/
def r01Mul.f (a0 : Int) (a1 : Int) : Option (Int × Bool) := if a0 = 0 then (some (0, true)) else (if a1 = 0 then (some (0, true)) else (if a0 = (-9223372036854775808) then (if a0 = 1 then (some ((-9223372036854775808), true)) else (if a1 = 1 then (some ((-9223372036854775808), true)) else (some (0, false)))) else (if a1 = (-9223372036854775808) then (if a0 = 1 then (some ((-9223372036854775808), true)) else (if a1 = 1 then (some ((-9223372036854775808), true)) else (some (0, false)))) else (if a0 < 0 then (if a1 < 0 then (if (wrap64 (-a1)) = 0 then (none) else (if (wrap64 (-a0)) ≤ (wrap64 (Int.tdiv (9223372036854775807 : Int) (wrap64 (-a1)))) then (some (wrap64 ((wrap64 (-a0)) * (wrap64 (-a1))), true)) else (some (0, false)))) else (if (wrap64 (-a0)) ≤ (wrap64 (Int.tdiv (9223372036854775807 : Int) a1)) then (some (wrap64 (-(wrap64 ((wrap64 (-a0)) * a1))), true)) else (if (Int.tmod (wrap64 (-a0)) 2) = 0 then (if (wrap64 (Int.tdiv (wrap64 (-a0)) 2)) ≤ (wrap64 (Int.tdiv (9223372036854775807 : Int) a1)) then (if (wrap64 ((wrap64 (Int.tdiv (wrap64 (-a0)) 2)) * a1)) = 4611686018427387904 then (some ((-9223372036854775808), true)) else (if (Int.tmod a1 2) = 0 then (if (wrap64 (-a0)) = 0 then (none) else (if (wrap64 (Int.tdiv a1 2)) ≤ (wrap64 (Int.tdiv (9223372036854775807 : Int) (wrap64 (-a0)))) then (if (wrap64 ((wrap64 (Int.tdiv a1 2)) * (wrap64 (-a0)))) = 4611686018427387904 then (some ((-9223372036854775808), true)) else (some (0, false))) else (some (0, false)))) else (some (0, false)))) else (if (Int.tmod a1 2) = 0 then (if (wrap64 (-a0)) = 0 then (none) else (if (wrap64 (Int.tdiv a1 2)) ≤ (wrap64 (Int.tdiv (9223372036854775807 : Int) (wrap64 (-a0)))) then (if (wrap64 ((wrap64 (Int.tdiv a1 2)) * (wrap64 (-a0)))) = 4611686018427387904 then (some ((-9223372036854775808), true)) else (some (0, false))) else (some (0, false)))) else (some (0, false)))) else (if (Int.tmod a1 2) = 0 then (if (wrap64 (-a0)) = 0 then (none) else (if (wrap64 (Int.tdiv a1 2)) ≤ (wrap64 (Int.tdiv (9223372036854775807 : Int) (wrap64 (-a0)))) then (if (wrap64 ((wrap64 (Int.tdiv a1 2)) * (wrap64 (-a0)))) = 4611686018427387904 then (some ((-9223372036854775808), true)) else (some (0, false))) else (some (0, false)))) else (some (0, false)))))) else (if a1 < 0 then (if (wrap64 (-a1)) = 0 then (none) else (if a0 ≤ (wrap64 (Int.tdiv (9223372036854775807 : Int) (wrap64 (-a1)))) then (some (wrap64 (-(wrap64 (a0 * (wrap64 (-a1))))), true)) else (if (Int.tmod a0 2) = 0 then (if (wrap64 (Int.tdiv a0 2)) ≤ (wrap64 (Int.tdiv (9223372036854775807 : Int) (wrap64 (-a1)))) then (if (wrap64 ((wrap64 (Int.tdiv a0 2)) * (wrap64 (-a1)))) = 4611686018427387904 then (some ((-9223372036854775808), true)) else (if (Int.tmod (wrap64 (-a1)) 2) = 0 then (if (wrap64 (Int.tdiv (wrap64 (-a1)) 2)) ≤ (wrap64 (Int.tdiv (9223372036854775807 : Int) a0)) then (if (wrap64 ((wrap64 (Int.tdiv (wrap64 (-a1)) 2)) * a0)) = 4611686018427387904 then (some ((-9223372036854775808), true)) else (some (0, false))) else (some (0, false))) else (some (0, false)))) else (if (Int.tmod (wrap64 (-a1)) 2) = 0 then (if (wrap64 (Int.tdiv (wrap64 (-a1)) 2)) ≤ (wrap64 (Int.tdiv (9223372036854775807 : Int) a0)) then (if (wrap64 ((wrap64 (Int.tdiv (wrap64 (-a1)) 2)) * a0)) = 4611686018427387904 then (some ((-9223372036854775808), true)) else (some (0, false))) else (some (0, false))) else (some (0, false)))) else (if (Int.tmod (wrap64 (-a1)) 2) = 0 then (if (wrap64 (Int.tdiv (wrap64 (-a1)) 2)) ≤ (wrap64 (Int.tdiv (9223372036854775807 : Int) a0)) then (if (wrap64 ((wrap64 (Int.tdiv (wrap64 (-a1)) 2)) * a0)) = 4611686018427387904 then (some ((-9223372036854775808), true)) else (some (0, false))) else (some (0, false))) else (some (0, false)))))) else (if a0 ≤ (wrap64 (Int.tdiv (9223372036854775807 : Int) a1)) then (some (wrap64 (a0 * a1), true)) else (some (0, false))))))))
set_option maxHeartbeats 8000000 in
set_option maxRecDepth 100000 in
theorem r01Mul.calls (a0 : Int) (a1 : Int) (r1 : Int) (r2 : Bool) (w : World) (h : r01Mul.f a0 a1 = some (r1, r2)) :
 Calls Try.prog 46 #[.int .i64 a0, .int .i64 a1] w fun e w' => e = .returned (.tuple #[.int .i64 r1, .bool r2]) ∧ Drawn0 w w' := by
 have H : (if a0 = 0 then (some (0, true)) else (if a1 = 0 then (some (0, true)) else (if a0 = (-9223372036854775808) then (if a0 = 1 then (some ((-9223372036854775808), true)) else (if a1 = 1 then (some ((-9223372036854775808), true)) else (some (0, false)))) else (if a1 = (-9223372036854775808) then (if a0 = 1 then (some ((-9223372036854775808), true)) else (if a1 = 1 then (some ((-9223372036854775808), true)) else (some (0, false)))) else (if a0 < 0 then (if a1 < 0 then (if (wrap64 (-a1)) = 0 then (none) else (if (wrap64 (-a0)) ≤ (wrap64 (Int.tdiv (9223372036854775807 : Int) (wrap64 (-a1)))) then (some (wrap64 ((wrap64 (-a0)) * (wrap64 (-a1))), true)) else (some (0, false)))) else (if (wrap64 (-a0)) ≤ (wrap64 (Int.tdiv (9223372036854775807 : Int) a1)) then (some (wrap64 (-(wrap64 ((wrap64 (-a0)) * a1))), true)) else (if (Int.tmod (wrap64 (-a0)) 2) = 0 then (if (wrap64 (Int.tdiv (wrap64 (-a0)) 2)) ≤ (wrap64 (Int.tdiv (9223372036854775807 : Int) a1)) then (if (wrap64 ((wrap64 (Int.tdiv (wrap64 (-a0)) 2)) * a1)) = 4611686018427387904 then (some ((-9223372036854775808), true)) else (if (Int.tmod a1 2) = 0 then (if (wrap64 (-a0)) = 0 then (none) else (if (wrap64 (Int.tdiv a1 2)) ≤ (wrap64 (Int.tdiv (9223372036854775807 : Int) (wrap64 (-a0)))) then (if (wrap64 ((wrap64 (Int.tdiv a1 2)) * (wrap64 (-a0)))) = 4611686018427387904 then (some ((-9223372036854775808), true)) else (some (0, false))) else (some (0, false)))) else (some (0, false)))) else (if (Int.tmod a1 2) = 0 then (if (wrap64 (-a0)) = 0 then (none) else (if (wrap64 (Int.tdiv a1 2)) ≤ (wrap64 (Int.tdiv (9223372036854775807 : Int) (wrap64 (-a0)))) then (if (wrap64 ((wrap64 (Int.tdiv a1 2)) * (wrap64 (-a0)))) = 4611686018427387904 then (some ((-9223372036854775808), true)) else (some (0, false))) else (some (0, false)))) else (some (0, false)))) else (if (Int.tmod a1 2) = 0 then (if (wrap64 (-a0)) = 0 then (none) else (if (wrap64 (Int.tdiv a1 2)) ≤ (wrap64 (Int.tdiv (9223372036854775807 : Int) (wrap64 (-a0)))) then (if (wrap64 ((wrap64 (Int.tdiv a1 2)) * (wrap64 (-a0)))) = 4611686018427387904 then (some ((-9223372036854775808), true)) else (some (0, false))) else (some (0, false)))) else (some (0, false)))))) else (if a1 < 0 then (if (wrap64 (-a1)) = 0 then (none) else (if a0 ≤ (wrap64 (Int.tdiv (9223372036854775807 : Int) (wrap64 (-a1)))) then (some (wrap64 (-(wrap64 (a0 * (wrap64 (-a1))))), true)) else (if (Int.tmod a0 2) = 0 then (if (wrap64 (Int.tdiv a0 2)) ≤ (wrap64 (Int.tdiv (9223372036854775807 : Int) (wrap64 (-a1)))) then (if (wrap64 ((wrap64 (Int.tdiv a0 2)) * (wrap64 (-a1)))) = 4611686018427387904 then (some ((-9223372036854775808), true)) else (if (Int.tmod (wrap64 (-a1)) 2) = 0 then (if (wrap64 (Int.tdiv (wrap64 (-a1)) 2)) ≤ (wrap64 (Int.tdiv (9223372036854775807 : Int) a0)) then (if (wrap64 ((wrap64 (Int.tdiv (wrap64 (-a1)) 2)) * a0)) = 4611686018427387904 then (some ((-9223372036854775808), true)) else (some (0, false))) else (some (0, false))) else (some (0, false)))) else (if (Int.tmod (wrap64 (-a1)) 2) = 0 then (if (wrap64 (Int.tdiv (wrap64 (-a1)) 2)) ≤ (wrap64 (Int.tdiv (9223372036854775807 : Int) a0)) then (if (wrap64 ((wrap64 (Int.tdiv (wrap64 (-a1)) 2)) * a0)) = 4611686018427387904 then (some ((-9223372036854775808), true)) else (some (0, false))) else (some (0, false))) else (some (0, false)))) else (if (Int.tmod (wrap64 (-a1)) 2) = 0 then (if (wrap64 (Int.tdiv (wrap64 (-a1)) 2)) ≤ (wrap64 (Int.tdiv (9223372036854775807 : Int) a0)) then (if (wrap64 ((wrap64 (Int.tdiv (wrap64 (-a1)) 2)) * a0)) = 4611686018427387904 then (some ((-9223372036854775808), true)) else (some (0, false))) else (some (0, false))) else (some (0, false)))))) else (if a0 ≤ (wrap64 (Int.tdiv (9223372036854775807 : Int) a1)) then (some (wrap64 (a0 * a1), true)) else (some (0, false))))))))) = some (r1, r2) := h; clear h
 by_cases c3 : a0 = 0
 ·rw [if_pos c3] at H; have j7 := beq_iff_eq.mpr c3; have j8 := bne_eq_false_iff_eq.mpr c3; clear c3; obtain ⟨rfl, rfl⟩ := j2 H; go_enter Try.func46, Try.ntmps46; go_wp2; go_ret2; exact f0
 rw [if_neg c3] at H; have j7 := beq_eq_false_iff_ne.mpr c3; have j8 := bne_iff_ne.mpr c3
 by_cases c4 : a1 = 0
 ·rw [if_pos c4] at H; have j9 := beq_iff_eq.mpr c4; have k0 := bne_eq_false_iff_eq.mpr c4; clear c4; obtain ⟨rfl, rfl⟩ := j2 H; go_enter Try.func46, Try.ntmps46; go_wp2; go_ret2; exact f0
 rw [if_neg c4] at H; have j9 := beq_eq_false_iff_ne.mpr c4; have k0 := bne_iff_ne.mpr c4
 by_cases c5 : a0 = (-9223372036854775808)
 ·rw [if_pos c5] at H; have k1 := beq_iff_eq.mpr c5; have k2 := bne_eq_false_iff_eq.mpr c5; clear c5
  by_cases c6 : a0 = 1
  ·rw [if_pos c6] at H; have k3 := beq_iff_eq.mpr c6; have k4 := bne_eq_false_iff_eq.mpr c6; clear c6; obtain ⟨rfl, rfl⟩ := j2 H; go_enter Try.func46, Try.ntmps46; go_wp2; go_ret2; exact f0
  rw [if_neg c6] at H; have k3 := beq_eq_false_iff_ne.mpr c6; have k4 := bne_iff_ne.mpr c6
  by_cases c7 : a1 = 1
  ·rw [if_pos c7] at H; have k5 := beq_iff_eq.mpr c7; have k6 := bne_eq_false_iff_eq.mpr c7; clear c7; obtain ⟨rfl, rfl⟩ := j2 H; go_enter Try.func46, Try.ntmps46; go_wp2; go_ret2; exact f0
  rw [if_neg c7] at H; have k5 := beq_eq_false_iff_ne.mpr c7; have k6 := bne_iff_ne.mpr c7; obtain ⟨rfl, rfl⟩ := j2 H; go_enter Try.func46, Try.ntmps46; go_wp2; go_ret2; exact f0
 rw [if_neg c5] at H; have k1 := beq_eq_false_iff_ne.mpr c5; have k2 := bne_iff_ne.mpr c5
 by_cases c8 : a1 = (-9223372036854775808)
 ·rw [if_pos c8] at H; have k7 := beq_iff_eq.mpr c8; have k8 := bne_eq_false_iff_eq.mpr c8; clear c8
  by_cases c9 : a0 = 1
  ·rw [if_pos c9] at H; have k9 := beq_iff_eq.mpr c9; have l0 := bne_eq_false_iff_eq.mpr c9; clear c9; obtain ⟨rfl, rfl⟩ := j2 H; go_enter Try.func46, Try.ntmps46; go_wp2; go_ret2; exact f0
  rw [if_neg c9] at H; have k9 := beq_eq_false_iff_ne.mpr c9; have l0 := bne_iff_ne.mpr c9
  by_cases a2 : a1 = 1
  ·rw [if_pos a2] at H; have e1 := beq_iff_eq.mpr a2; have e2 := bne_eq_false_iff_eq.mpr a2; clear a2; obtain ⟨rfl, rfl⟩ := j2 H; go_enter Try.func46, Try.ntmps46; go_wp2; go_ret2; exact f0
  rw [if_neg a2] at H; have e1 := beq_eq_false_iff_ne.mpr a2; have e2 := bne_iff_ne.mpr a2; obtain ⟨rfl, rfl⟩ := j2 H; go_enter Try.func46, Try.ntmps46; go_wp2; go_ret2; exact f0
 rw [if_neg c8] at H; have k7 := beq_eq_false_iff_ne.mpr c8; have k8 := bne_iff_ne.mpr c8
 by_cases b9 : a0 < 0
 ·rw [if_pos b9] at H; have e3 := decide_eq_true b9; clear b9
  by_cases c0 : a1 < 0
  ·rw [if_pos c0] at H; have e4 := decide_eq_true c0; clear c0
   by_cases j1 : (wrap64 (-a1)) = 0
   case pos => rw [if_pos j1] at H; exact nn H
   rw [if_neg j1] at H; have l1 := beq_eq_false_iff_ne.mpr j1; have l2 := bne_iff_ne.mpr j1
   by_cases c1 : (wrap64 (-a0)) ≤ (wrap64 (Int.tdiv (9223372036854775807 : Int) (wrap64 (-a1))))
   ·rw [if_pos c1] at H; have e5 : decide ((wrap64 (-a0)) ≤ (wrap64 (Int.tdiv (9223372036854775807 : Int) (wrap64 (-a1))))) = true := decide_eq_true c1; clear c1; obtain ⟨rfl, rfl⟩ := j2 H; go_enter Try.func46, Try.ntmps46; go_wp2; go_ret2; exact f0
   rw [if_neg c1] at H; have e5 : decide ((wrap64 (-a0)) ≤ (wrap64 (Int.tdiv (9223372036854775807 : Int) (wrap64 (-a1))))) = false := decide_eq_false c1; clear c1; obtain ⟨rfl, rfl⟩ := j2 H; go_enter Try.func46, Try.ntmps46; go_wp2; go_ret2; exact f0
  rw [if_neg c0] at H; have e4 := decide_eq_false c0; clear c0
  by_cases c2 : (wrap64 (-a0)) ≤ (wrap64 (Int.tdiv (9223372036854775807 : Int) a1))
  ·rw [if_pos c2] at H; have e6 := decide_eq_true c2; clear c2; obtain ⟨rfl, rfl⟩ := j2 H; go_enter Try.func46, Try.ntmps46; go_wp2; go_ret2; exact f0
  rw [if_neg c2] at H; have e6 := decide_eq_false c2; clear c2
  by_cases a3 : (Int.tmod (wrap64 (-a0)) 2) = 0
  ·rw [if_pos a3] at H; have e7 := beq_iff_eq.mpr a3; have e8 := bne_eq_false_iff_eq.mpr a3; clear a3
   by_cases d0 : (wrap64 (Int.tdiv (wrap64 (-a0)) 2)) ≤ (wrap64 (Int.tdiv (9223372036854775807 : Int) a1))
   ·rw [if_pos d0] at H; have e9 : decide ((wrap64 (Int.tdiv (wrap64 (-a0)) 2)) ≤ (wrap64 (Int.tdiv (9223372036854775807 : Int) a1))) = true := decide_eq_true d0; clear d0
    by_cases a4 : (wrap64 ((wrap64 (Int.tdiv (wrap64 (-a0)) 2)) * a1)) = 4611686018427387904
    ·rw [if_pos a4] at H; have f1 : ((wrap64 ((wrap64 (Int.tdiv (wrap64 (-a0)) 2)) * a1)) == 4611686018427387904) = true := beq_iff_eq.mpr a4; have f2 : ((wrap64 ((wrap64 (Int.tdiv (wrap64 (-a0)) 2)) * a1)) != 4611686018427387904) = false := bne_eq_false_iff_eq.mpr a4; clear a4; obtain ⟨rfl, rfl⟩ := j2 H; go_enter Try.func46, Try.ntmps46; go_wp2; go_ret2; exact f0
    rw [if_neg a4] at H; have f1 : ((wrap64 ((wrap64 (Int.tdiv (wrap64 (-a0)) 2)) * a1)) == 4611686018427387904) = false := beq_eq_false_iff_ne.mpr a4; have f2 : ((wrap64 ((wrap64 (Int.tdiv (wrap64 (-a0)) 2)) * a1)) != 4611686018427387904) = true := bne_iff_ne.mpr a4
    by_cases a5 : (Int.tmod a1 2) = 0
    ·rw [if_pos a5] at H; have f3 := beq_iff_eq.mpr a5; have f4 := bne_eq_false_iff_eq.mpr a5; clear a5
     by_cases j3 : (wrap64 (-a0)) = 0
     case pos => rw [if_pos j3] at H; exact nn H
     rw [if_neg j3] at H; have l3 := beq_eq_false_iff_ne.mpr j3; have l4 := bne_iff_ne.mpr j3
     by_cases d1 : (wrap64 (Int.tdiv a1 2)) ≤ (wrap64 (Int.tdiv (9223372036854775807 : Int) (wrap64 (-a0))))
     ·rw [if_pos d1] at H; have f5 : decide ((wrap64 (Int.tdiv a1 2)) ≤ (wrap64 (Int.tdiv (9223372036854775807 : Int) (wrap64 (-a0))))) = true := decide_eq_true d1; clear d1
      by_cases a6 : (wrap64 ((wrap64 (Int.tdiv a1 2)) * (wrap64 (-a0)))) = 4611686018427387904
      ·rw [if_pos a6] at H; have f6 : ((wrap64 ((wrap64 (Int.tdiv a1 2)) * (wrap64 (-a0)))) == 4611686018427387904) = true := beq_iff_eq.mpr a6; have f7 : ((wrap64 ((wrap64 (Int.tdiv a1 2)) * (wrap64 (-a0)))) != 4611686018427387904) = false := bne_eq_false_iff_eq.mpr a6; clear a6; obtain ⟨rfl, rfl⟩ := j2 H; go_enter Try.func46, Try.ntmps46; go_wp2; go_ret2; exact f0
      rw [if_neg a6] at H; have f6 : ((wrap64 ((wrap64 (Int.tdiv a1 2)) * (wrap64 (-a0)))) == 4611686018427387904) = false := beq_eq_false_iff_ne.mpr a6; have f7 : ((wrap64 ((wrap64 (Int.tdiv a1 2)) * (wrap64 (-a0)))) != 4611686018427387904) = true := bne_iff_ne.mpr a6; obtain ⟨rfl, rfl⟩ := j2 H; go_enter Try.func46, Try.ntmps46; go_wp2; go_ret2; exact f0
     rw [if_neg d1] at H; have f5 : decide ((wrap64 (Int.tdiv a1 2)) ≤ (wrap64 (Int.tdiv (9223372036854775807 : Int) (wrap64 (-a0))))) = false := decide_eq_false d1; clear d1; obtain ⟨rfl, rfl⟩ := j2 H; go_enter Try.func46, Try.ntmps46; go_wp2; go_ret2; exact f0
    rw [if_neg a5] at H; have f3 := beq_eq_false_iff_ne.mpr a5; have f4 := bne_iff_ne.mpr a5; obtain ⟨rfl, rfl⟩ := j2 H; go_enter Try.func46, Try.ntmps46; go_wp2; go_ret2; exact f0
   rw [if_neg d0] at H; have e9 : decide ((wrap64 (Int.tdiv (wrap64 (-a0)) 2)) ≤ (wrap64 (Int.tdiv (9223372036854775807 : Int) a1))) = false := decide_eq_false d0; clear d0
   by_cases a7 : (Int.tmod a1 2) = 0
   ·rw [if_pos a7] at H; have f8 := beq_iff_eq.mpr a7; have f9 := bne_eq_false_iff_eq.mpr a7; clear a7
    by_cases j4 : (wrap64 (-a0)) = 0
    case pos => rw [if_pos j4] at H; exact nn H
    rw [if_neg j4] at H; have l5 := beq_eq_false_iff_ne.mpr j4; have l6 := bne_iff_ne.mpr j4
    by_cases d2 : (wrap64 (Int.tdiv a1 2)) ≤ (wrap64 (Int.tdiv (9223372036854775807 : Int) (wrap64 (-a0))))
    ·rw [if_pos d2] at H; have g0 : decide ((wrap64 (Int.tdiv a1 2)) ≤ (wrap64 (Int.tdiv (9223372036854775807 : Int) (wrap64 (-a0))))) = true := decide_eq_true d2; clear d2
     by_cases a8 : (wrap64 ((wrap64 (Int.tdiv a1 2)) * (wrap64 (-a0)))) = 4611686018427387904
     ·rw [if_pos a8] at H; have g1 : ((wrap64 ((wrap64 (Int.tdiv a1 2)) * (wrap64 (-a0)))) == 4611686018427387904) = true := beq_iff_eq.mpr a8; have g2 : ((wrap64 ((wrap64 (Int.tdiv a1 2)) * (wrap64 (-a0)))) != 4611686018427387904) = false := bne_eq_false_iff_eq.mpr a8; clear a8; obtain ⟨rfl, rfl⟩ := j2 H; go_enter Try.func46, Try.ntmps46; go_wp2; go_ret2; exact f0
     rw [if_neg a8] at H; have g1 : ((wrap64 ((wrap64 (Int.tdiv a1 2)) * (wrap64 (-a0)))) == 4611686018427387904) = false := beq_eq_false_iff_ne.mpr a8; have g2 : ((wrap64 ((wrap64 (Int.tdiv a1 2)) * (wrap64 (-a0)))) != 4611686018427387904) = true := bne_iff_ne.mpr a8; obtain ⟨rfl, rfl⟩ := j2 H; go_enter Try.func46, Try.ntmps46; go_wp2; go_ret2; exact f0
    rw [if_neg d2] at H; have g0 : decide ((wrap64 (Int.tdiv a1 2)) ≤ (wrap64 (Int.tdiv (9223372036854775807 : Int) (wrap64 (-a0))))) = false := decide_eq_false d2; clear d2; obtain ⟨rfl, rfl⟩ := j2 H; go_enter Try.func46, Try.ntmps46; go_wp2; go_ret2; exact f0
   rw [if_neg a7] at H; have f8 := beq_eq_false_iff_ne.mpr a7; have f9 := bne_iff_ne.mpr a7; obtain ⟨rfl, rfl⟩ := j2 H; go_enter Try.func46, Try.ntmps46; go_wp2; go_ret2; exact f0
  rw [if_neg a3] at H; have e7 := beq_eq_false_iff_ne.mpr a3; have e8 := bne_iff_ne.mpr a3
  by_cases a9 : (Int.tmod a1 2) = 0
  ·rw [if_pos a9] at H; have g3 := beq_iff_eq.mpr a9; have g4 := bne_eq_false_iff_eq.mpr a9; clear a9
   by_cases j5 : (wrap64 (-a0)) = 0
   case pos => rw [if_pos j5] at H; exact nn H
   rw [if_neg j5] at H; have l7 := beq_eq_false_iff_ne.mpr j5; have l8 := bne_iff_ne.mpr j5
   by_cases d3 : (wrap64 (Int.tdiv a1 2)) ≤ (wrap64 (Int.tdiv (9223372036854775807 : Int) (wrap64 (-a0))))
   ·rw [if_pos d3] at H; have g5 : decide ((wrap64 (Int.tdiv a1 2)) ≤ (wrap64 (Int.tdiv (9223372036854775807 : Int) (wrap64 (-a0))))) = true := decide_eq_true d3; clear d3
    by_cases b0 : (wrap64 ((wrap64 (Int.tdiv a1 2)) * (wrap64 (-a0)))) = 4611686018427387904
    ·rw [if_pos b0] at H; have g6 : ((wrap64 ((wrap64 (Int.tdiv a1 2)) * (wrap64 (-a0)))) == 4611686018427387904) = true := beq_iff_eq.mpr b0; have g7 : ((wrap64 ((wrap64 (Int.tdiv a1 2)) * (wrap64 (-a0)))) != 4611686018427387904) = false := bne_eq_false_iff_eq.mpr b0; clear b0; obtain ⟨rfl, rfl⟩ := j2 H; go_enter Try.func46, Try.ntmps46; go_wp2; go_ret2; exact f0
    rw [if_neg b0] at H; have g6 : ((wrap64 ((wrap64 (Int.tdiv a1 2)) * (wrap64 (-a0)))) == 4611686018427387904) = false := beq_eq_false_iff_ne.mpr b0; have g7 : ((wrap64 ((wrap64 (Int.tdiv a1 2)) * (wrap64 (-a0)))) != 4611686018427387904) = true := bne_iff_ne.mpr b0; obtain ⟨rfl, rfl⟩ := j2 H; go_enter Try.func46, Try.ntmps46; go_wp2; go_ret2; exact f0
   rw [if_neg d3] at H; have g5 : decide ((wrap64 (Int.tdiv a1 2)) ≤ (wrap64 (Int.tdiv (9223372036854775807 : Int) (wrap64 (-a0))))) = false := decide_eq_false d3; clear d3; obtain ⟨rfl, rfl⟩ := j2 H; go_enter Try.func46, Try.ntmps46; go_wp2; go_ret2; exact f0
  rw [if_neg a9] at H; have g3 := beq_eq_false_iff_ne.mpr a9; have g4 := bne_iff_ne.mpr a9; obtain ⟨rfl, rfl⟩ := j2 H; go_enter Try.func46, Try.ntmps46; go_wp2; go_ret2; exact f0
 rw [if_neg b9] at H; have e3 := decide_eq_false b9; clear b9
 by_cases d4 : a1 < 0
 ·rw [if_pos d4] at H; have g8 := decide_eq_true d4; clear d4
  by_cases j6 : (wrap64 (-a1)) = 0
  case pos => rw [if_pos j6] at H; exact nn H
  rw [if_neg j6] at H; have l9 := beq_eq_false_iff_ne.mpr j6; have m0 := bne_iff_ne.mpr j6
  by_cases d5 : a0 ≤ (wrap64 (Int.tdiv (9223372036854775807 : Int) (wrap64 (-a1))))
  ·rw [if_pos d5] at H; have g9 : decide (a0 ≤ (wrap64 (Int.tdiv (9223372036854775807 : Int) (wrap64 (-a1))))) = true := decide_eq_true d5; clear d5; obtain ⟨rfl, rfl⟩ := j2 H; go_enter Try.func46, Try.ntmps46; go_wp2; go_ret2; exact f0
  rw [if_neg d5] at H; have g9 : decide (a0 ≤ (wrap64 (Int.tdiv (9223372036854775807 : Int) (wrap64 (-a1))))) = false := decide_eq_false d5; clear d5
  by_cases b1 : (Int.tmod a0 2) = 0
  ·rw [if_pos b1] at H; have h0 := beq_iff_eq.mpr b1; have h1 := bne_eq_false_iff_eq.mpr b1; clear b1
   by_cases d6 : (wrap64 (Int.tdiv a0 2)) ≤ (wrap64 (Int.tdiv (9223372036854775807 : Int) (wrap64 (-a1))))
   ·rw [if_pos d6] at H; have h2 : decide ((wrap64 (Int.tdiv a0 2)) ≤ (wrap64 (Int.tdiv (9223372036854775807 : Int) (wrap64 (-a1))))) = true := decide_eq_true d6; clear d6
    by_cases b2 : (wrap64 ((wrap64 (Int.tdiv a0 2)) * (wrap64 (-a1)))) = 4611686018427387904
    ·rw [if_pos b2] at H; have h3 : ((wrap64 ((wrap64 (Int.tdiv a0 2)) * (wrap64 (-a1)))) == 4611686018427387904) = true := beq_iff_eq.mpr b2; have h4 : ((wrap64 ((wrap64 (Int.tdiv a0 2)) * (wrap64 (-a1)))) != 4611686018427387904) = false := bne_eq_false_iff_eq.mpr b2; clear b2; obtain ⟨rfl, rfl⟩ := j2 H; go_enter Try.func46, Try.ntmps46; go_wp2; go_ret2; exact f0
    rw [if_neg b2] at H; have h3 : ((wrap64 ((wrap64 (Int.tdiv a0 2)) * (wrap64 (-a1)))) == 4611686018427387904) = false := beq_eq_false_iff_ne.mpr b2; have h4 : ((wrap64 ((wrap64 (Int.tdiv a0 2)) * (wrap64 (-a1)))) != 4611686018427387904) = true := bne_iff_ne.mpr b2
    by_cases b3 : (Int.tmod (wrap64 (-a1)) 2) = 0
    ·rw [if_pos b3] at H; have h5 := beq_iff_eq.mpr b3; have h6 := bne_eq_false_iff_eq.mpr b3; clear b3
     by_cases d7 : (wrap64 (Int.tdiv (wrap64 (-a1)) 2)) ≤ (wrap64 (Int.tdiv (9223372036854775807 : Int) a0))
     ·rw [if_pos d7] at H; have h7 : decide ((wrap64 (Int.tdiv (wrap64 (-a1)) 2)) ≤ (wrap64 (Int.tdiv (9223372036854775807 : Int) a0))) = true := decide_eq_true d7; clear d7
      by_cases b4 : (wrap64 ((wrap64 (Int.tdiv (wrap64 (-a1)) 2)) * a0)) = 4611686018427387904
      ·rw [if_pos b4] at H; have h8 : ((wrap64 ((wrap64 (Int.tdiv (wrap64 (-a1)) 2)) * a0)) == 4611686018427387904) = true := beq_iff_eq.mpr b4; have h9 : ((wrap64 ((wrap64 (Int.tdiv (wrap64 (-a1)) 2)) * a0)) != 4611686018427387904) = false := bne_eq_false_iff_eq.mpr b4; clear b4; obtain ⟨rfl, rfl⟩ := j2 H; go_enter Try.func46, Try.ntmps46; go_wp2; go_ret2; exact f0
      rw [if_neg b4] at H; have h8 : ((wrap64 ((wrap64 (Int.tdiv (wrap64 (-a1)) 2)) * a0)) == 4611686018427387904) = false := beq_eq_false_iff_ne.mpr b4; have h9 : ((wrap64 ((wrap64 (Int.tdiv (wrap64 (-a1)) 2)) * a0)) != 4611686018427387904) = true := bne_iff_ne.mpr b4; obtain ⟨rfl, rfl⟩ := j2 H; go_enter Try.func46, Try.ntmps46; go_wp2; go_ret2; exact f0
     rw [if_neg d7] at H; have h7 : decide ((wrap64 (Int.tdiv (wrap64 (-a1)) 2)) ≤ (wrap64 (Int.tdiv (9223372036854775807 : Int) a0))) = false := decide_eq_false d7; clear d7; obtain ⟨rfl, rfl⟩ := j2 H; go_enter Try.func46, Try.ntmps46; go_wp2; go_ret2; exact f0
    rw [if_neg b3] at H; have h5 := beq_eq_false_iff_ne.mpr b3; have h6 := bne_iff_ne.mpr b3; obtain ⟨rfl, rfl⟩ := j2 H; go_enter Try.func46, Try.ntmps46; go_wp2; go_ret2; exact f0
   rw [if_neg d6] at H; have h2 : decide ((wrap64 (Int.tdiv a0 2)) ≤ (wrap64 (Int.tdiv (9223372036854775807 : Int) (wrap64 (-a1))))) = false := decide_eq_false d6; clear d6
   by_cases b5 : (Int.tmod (wrap64 (-a1)) 2) = 0
   ·rw [if_pos b5] at H; have i0 := beq_iff_eq.mpr b5; have i1 := bne_eq_false_iff_eq.mpr b5; clear b5
    by_cases d8 : (wrap64 (Int.tdiv (wrap64 (-a1)) 2)) ≤ (wrap64 (Int.tdiv (9223372036854775807 : Int) a0))
    ·rw [if_pos d8] at H; have i2 : decide ((wrap64 (Int.tdiv (wrap64 (-a1)) 2)) ≤ (wrap64 (Int.tdiv (9223372036854775807 : Int) a0))) = true := decide_eq_true d8; clear d8
     by_cases b6 : (wrap64 ((wrap64 (Int.tdiv (wrap64 (-a1)) 2)) * a0)) = 4611686018427387904
     ·rw [if_pos b6] at H; have i3 : ((wrap64 ((wrap64 (Int.tdiv (wrap64 (-a1)) 2)) * a0)) == 4611686018427387904) = true := beq_iff_eq.mpr b6; have i4 : ((wrap64 ((wrap64 (Int.tdiv (wrap64 (-a1)) 2)) * a0)) != 4611686018427387904) = false := bne_eq_false_iff_eq.mpr b6; clear b6; obtain ⟨rfl, rfl⟩ := j2 H; go_enter Try.func46, Try.ntmps46; go_wp2; go_ret2; exact f0
     rw [if_neg b6] at H; have i3 : ((wrap64 ((wrap64 (Int.tdiv (wrap64 (-a1)) 2)) * a0)) == 4611686018427387904) = false := beq_eq_false_iff_ne.mpr b6; have i4 : ((wrap64 ((wrap64 (Int.tdiv (wrap64 (-a1)) 2)) * a0)) != 4611686018427387904) = true := bne_iff_ne.mpr b6; obtain ⟨rfl, rfl⟩ := j2 H; go_enter Try.func46, Try.ntmps46; go_wp2; go_ret2; exact f0
    rw [if_neg d8] at H; have i2 : decide ((wrap64 (Int.tdiv (wrap64 (-a1)) 2)) ≤ (wrap64 (Int.tdiv (9223372036854775807 : Int) a0))) = false := decide_eq_false d8; clear d8; obtain ⟨rfl, rfl⟩ := j2 H; go_enter Try.func46, Try.ntmps46; go_wp2; go_ret2; exact f0
   rw [if_neg b5] at H; have i0 := beq_eq_false_iff_ne.mpr b5; have i1 := bne_iff_ne.mpr b5; obtain ⟨rfl, rfl⟩ := j2 H; go_enter Try.func46, Try.ntmps46; go_wp2; go_ret2; exact f0
  rw [if_neg b1] at H; have h0 := beq_eq_false_iff_ne.mpr b1; have h1 := bne_iff_ne.mpr b1
  by_cases b7 : (Int.tmod (wrap64 (-a1)) 2) = 0
  ·rw [if_pos b7] at H; have i5 := beq_iff_eq.mpr b7; have i6 := bne_eq_false_iff_eq.mpr b7; clear b7
   by_cases d9 : (wrap64 (Int.tdiv (wrap64 (-a1)) 2)) ≤ (wrap64 (Int.tdiv (9223372036854775807 : Int) a0))
   ·rw [if_pos d9] at H; have i7 : decide ((wrap64 (Int.tdiv (wrap64 (-a1)) 2)) ≤ (wrap64 (Int.tdiv (9223372036854775807 : Int) a0))) = true := decide_eq_true d9; clear d9
    by_cases b8 : (wrap64 ((wrap64 (Int.tdiv (wrap64 (-a1)) 2)) * a0)) = 4611686018427387904
    ·rw [if_pos b8] at H; have i8 : ((wrap64 ((wrap64 (Int.tdiv (wrap64 (-a1)) 2)) * a0)) == 4611686018427387904) = true := beq_iff_eq.mpr b8; have i9 : ((wrap64 ((wrap64 (Int.tdiv (wrap64 (-a1)) 2)) * a0)) != 4611686018427387904) = false := bne_eq_false_iff_eq.mpr b8; clear b8; obtain ⟨rfl, rfl⟩ := j2 H; go_enter Try.func46, Try.ntmps46; go_wp2; go_ret2; exact f0
    rw [if_neg b8] at H; have i8 : ((wrap64 ((wrap64 (Int.tdiv (wrap64 (-a1)) 2)) * a0)) == 4611686018427387904) = false := beq_eq_false_iff_ne.mpr b8; have i9 : ((wrap64 ((wrap64 (Int.tdiv (wrap64 (-a1)) 2)) * a0)) != 4611686018427387904) = true := bne_iff_ne.mpr b8; obtain ⟨rfl, rfl⟩ := j2 H; go_enter Try.func46, Try.ntmps46; go_wp2; go_ret2; exact f0
   rw [if_neg d9] at H; have i7 : decide ((wrap64 (Int.tdiv (wrap64 (-a1)) 2)) ≤ (wrap64 (Int.tdiv (9223372036854775807 : Int) a0))) = false := decide_eq_false d9; clear d9; obtain ⟨rfl, rfl⟩ := j2 H; go_enter Try.func46, Try.ntmps46; go_wp2; go_ret2; exact f0
  rw [if_neg b7] at H; have i5 := beq_eq_false_iff_ne.mpr b7; have i6 := bne_iff_ne.mpr b7; obtain ⟨rfl, rfl⟩ := j2 H; go_enter Try.func46, Try.ntmps46; go_wp2; go_ret2; exact f0
 rw [if_neg d4] at H; have g8 := decide_eq_false d4; clear d4
 by_cases e0 : a0 ≤ (wrap64 (Int.tdiv (9223372036854775807 : Int) a1))
 ·rw [if_pos e0] at H; have j0 := decide_eq_true e0; clear e0; obtain ⟨rfl, rfl⟩ := j2 H; go_enter Try.func46, Try.ntmps46; go_wp2; go_ret2; exact f0
 rw [if_neg e0] at H; have j0 := decide_eq_false e0; clear e0; obtain ⟨rfl, rfl⟩ := j2 H; go_enter Try.func46, Try.ntmps46; go_wp2; go_ret2; exact f0

/-! ### r01Dot: function 33 -/
mutual
def r01Dot.l0 : Nat → List Int → List Int → Int → Int → Option (Int × Bool)
 | 0, _, _, _, _ => none
 | k + 1, x0, x1, x6, x7 => if x7 < (x0.length : Int) then (r01Dot.j1 k x0 x1 x6 x7 (decide (x7 < (x1.length : Int)))) else (r01Dot.j1 k x0 x1 x6 x7 false)
def r01Dot.j1 : Nat → List Int → List Int → Int → Int → Bool → Option (Int × Bool)
 | 0, _, _, _, _, _ => none
 | k + 1, x0, x1, x6, x7, x21 => if x21 = true then (if 0 ≤ x7 then (if x7 < (x0.length : Int) then (if x7 < (x1.length : Int) then ((r01Mul.f (rd x0 x7) (rd x1 x7)).bind fun bt341 => (if bt341.2 = true then ((r01Add.f x6 bt341.1).bind fun bt343 => (if bt343.2 = true then (r01Dot.l0 k x0 x1 bt343.1 (wrap64 (x7 + 1))) else (some (0, false)))) else (some (0, false)))) else (none)) else (none)) else (none)) else (some (x6, true))
end
def r01Dot.f (k : Nat) (l0 : List Int) (l1 : List Int) : Option (Int × Bool) := r01Dot.l0 k l0 l1 0 0
theorem r01Dot.mono_l : ∀ k, (∀ y0 y1 y2 y3, LeO (r01Dot.l0 k y0 y1 y2 y3) (r01Dot.l0 (k + 1) y0 y1 y2 y3)) ∧ (∀ y0 y1 y2 y3 y4, LeO (r01Dot.j1 k y0 y1 y2 y3 y4) (r01Dot.j1 (k + 1) y0 y1 y2 y3 y4))
 | 0 => ⟨fun _ _ _ _ r h => by simp [r01Dot.l0] at h, fun _ _ _ _ _ r h => by simp [r01Dot.j1] at h⟩
 | k + 1 => by
   obtain ⟨ih0, ih1⟩ := r01Dot.mono_l k
   refine ⟨?_, ?_⟩ <;> intros
   unfold r01Dot.l0; rotate_left
   unfold r01Dot.j1; rotate_left
   all_goals (repeat' with_reducible first | apply ih0 | apply ih1 | apply LeO.refl | apply LeO.none | refine LeO.ite ?_ ?_ | refine LeO.bind ?_ fun _ => ?_)
theorem r01Dot.mono : ∀ a0 a1 k, LeO (r01Dot.f k a0 a1) (r01Dot.f (k + 1) a0 a1) := by
 intro a0 a1 k
 obtain ⟨ih0, ih1⟩ := r01Dot.mono_l k
 unfold r01Dot.f
 repeat' with_reducible first | apply ih0 | apply ih1 | apply LeO.refl | apply LeO.none | refine LeO.ite ?_ ?_ | refine LeO.bind ?_ fun _ => ?_
set_option maxHeartbeats 8000000 in
set_option maxRecDepth 100000 in
theorem r01Dot.calls (k : Nat) (A0 : Option Addr) (c0 : Nat) (l0 : List Int) (A1 : Option Addr) (c1 : Nat) (l1 : List Int) (r1 : Int) (r2 : Bool) (w : World) (hr0 : Kd.C (Kd.int .i64) w A0 l0.length l0) (hc0 : l0.length ≤ c0) (hr1 : Kd.C (Kd.int .i64) w A1 l1.length l1) (hc1 : l1.length ≤ c1) (h : r01Dot.f k l0 l1 = some (r1, r2)) :
 Calls Try.prog 33 #[.slice A0 l0.length c0, .slice A1 l1.length c1] w fun e w' => e = .returned (.tuple #[.int .i64 r1, .bool r2]) ∧ Drawn0 w w' := by
 have d3 := sk hr0; have e1 := sk hc0; clear hr0 hc0; have d4 := sk hr1; have e2 := sk hc1; clear hr1 hc1; have H : (r01Dot.l0 k l0 l1 0 0) = some (r1, r2) := h; clear h; have H' := sk H; clear H; go_enter Try.func33, Try.ntmps33; go_wp2
 repeat (go_quiet (fail); try go_wp2)
 go_loopg [6, 7] k (fun kq v6 v7 w' => ∃ (a2 : Int) (a0 : Int), v6 = .int .i64 a2 ∧ v7 = .int .i64 a0 ∧ Aside0 (r01Dot.l0 kq l0 l1 a2 a0 = some (r1, r2)) ∧ Aside0 (kq ≤ k) ∧ Drawn0 w w')
 case atStart => exact ⟨(0), (0), (by first | rfl | (simp; done) | (simp [*]; done)), (by first | rfl | (simp; done) | (simp [*]; done)), H', ⟨Nat.le_refl _⟩, by repeat (first | exact Drawn0.refl _ | apply Drawn0.step)⟩
 clear H'; (try clear c1); (try clear p2); obtain ⟨a2, a0, rfl, rfl, HA, c9, ⟨m1, rfl⟩⟩ := hrel; cases gk with
 | zero => exact absurd HA.out (by simp [r01Dot.l0])
 | succ k1 =>
  have H := HA.out; clear HA; simp only [r01Dot.l0] at H; have d5 := sk H; clear H; go_upto_region 3 with (fail)
  repeat (go_quiet (fail); go_upto_region 3 with (fail))
  go_cut [21] (fun d7 wc => ∃ (kq : Nat) (a9 : Bool), d7 = .bool a9 ∧ Aside0 (r01Dot.j1 kq l0 l1 a2 a0 a9 = some (r1, r2)) ∧ Aside0 (kq ≤ k1) ∧ Drawn0 w wc)
  case first =>
   have H := d5.out; clear d5
   by_cases c4 : a0 < (l0.length : Int)
   ·rw [if_pos c4] at H; have b2 := decide_eq_true c4; clear c4; (first | rw [b2] | (simp only [i64_w, i32_w]; rw [b2]) | skip); have H' := sk H; clear H; go_wp2
    repeat (go_quiet (fail); try go_wp2)
    go_meet
    case rel => exact ⟨_, (decide (a0 < (l1.length : Int))), (by first | rfl | (simp; done) | (simp [*]; done)), H', ⟨by have := c9.out; first | omega | exact Nat.le_refl _⟩, by repeat (first | exact Drawn0.refl _ | apply Drawn0.step)⟩
   rw [if_neg c4] at H; have b2 := decide_eq_false c4; clear c4; (first | rw [b2] | (simp only [i64_w, i32_w]; rw [b2]) | skip); have H' := sk H; clear H; go_wp2
   repeat (go_quiet (fail); try go_wp2)
   go_meet
   case rel => exact ⟨_, (false), (by first | rfl | (simp; done) | (simp [*]; done)), H', ⟨by have := c9.out; first | omega | exact Nat.le_refl _⟩, by repeat (first | exact Drawn0.refl _ | apply Drawn0.step)⟩
  clear d5; (try clear c1); (try clear p2); (try clear c3); (try clear c4); (try clear b2); (try clear p2); obtain ⟨kq, a9, rfl, HA, d6, ⟨e3, rfl⟩⟩ := hcut; cases kq with
  | zero => exact absurd HA.out (by simp [r01Dot.j1])
  | succ b8 =>
   have H := HA.out; clear HA; simp only [r01Dot.j1] at H
   by_cases c5 : a9 = true
   ·subst c5; have H1 : (if 0 ≤ a0 then (if a0 < (l0.length : Int) then (if a0 < (l1.length : Int) then ((r01Mul.f (rd l0 a0) (rd l1 a0)).bind fun b5 => (if b5.2 = true then ((r01Add.f a2 b5.1).bind fun a1 => (if a1.2 = true then (r01Dot.l0 b8 l0 l1 a1.1 (wrap64 (a0 + 1))) else (some (0, false)))) else (some (0, false)))) else (none)) else (none)) else (none)) = some (r1, r2) := by rw [if_pos rfl] at H; exact H
    clear H; have H := H1; clear H1
    by_cases c6 : 0 ≤ a0
    case neg => rw [if_neg c6] at H; exact nn H
    rw [if_pos c6] at H; have d8 := decide_eq_true c6; clear c6
    by_cases c7 : a0 < (l0.length : Int)
    case neg => rw [if_neg c7] at H; exact nn H
    rw [if_pos c7] at H; have d9 := decide_eq_true c7; clear c7
    by_cases c8 : a0 < (l1.length : Int)
    case neg => rw [if_neg c8] at H; exact nn H
    rw [if_pos c8] at H; have e0 := decide_eq_true c8; clear c8; obtain ⟨⟨a3, b9⟩, A9, H⟩ := bi H; replace H : (if b9 = true then ((r01Add.f a2 a3).bind fun a1 => (if a1.2 = true then (r01Dot.l0 b8 l0 l1 a1.1 (wrap64 (a0 + 1))) else (some (0, false)))) else (some (0, false))) = some (r1, r2) := H
    by_cases d0 : b9 = true
    ·subst d0; have H1 : ((r01Add.f a2 a3).bind fun a1 => (if a1.2 = true then (r01Dot.l0 b8 l0 l1 a1.1 (wrap64 (a0 + 1))) else (some (0, false)))) = some (r1, r2) := by rw [if_pos rfl] at H; exact H
     clear H; have H := H1; clear H1; obtain ⟨⟨a8, c2⟩, d1, H⟩ := bi H; replace H : (if c2 = true then (r01Dot.l0 b8 l0 l1 a8 (wrap64 (a0 + 1))) else (some (0, false))) = some (r1, r2) := H
     by_cases d2 : c2 = true
     ·subst d2; have H1 : (r01Dot.l0 b8 l0 l1 a8 (wrap64 (a0 + 1))) = some (r1, r2) := by rw [if_pos rfl] at H; exact H
      clear H; have H := H1; clear H1; have H' := sk H; clear H; have a4 : 0 ≤ (a0 : Int) := oa; have a5 : a0 < (l0.length : Int) := oa; obtain ⟨b6, b3, b0⟩ := Kd.at_int d3.out a0 a4 a5; cases b3; replace a4 := eq_true a4; replace a5 := eq_true a5; have a6 : 0 ≤ (a0 : Int) := oa; have a7 : a0 < (l1.length : Int) := oa; obtain ⟨b7, b4, b1⟩ := Kd.at_int d4.out a0 a6 a7; cases b4; replace a6 := eq_true a6; replace a7 := eq_true a7
      iterate 3 ((try go_quiet (first | (go_at_call 46; (with_reducible refine (r01Mul.calls (rd l0 a0) (rd l1 a0) a3 true _ A9.out).mono ?_); rintro e w' ⟨rfl, ⟨nd, rfl⟩⟩; (try exact dr2)) | (go_at_call 44; (with_reducible refine (r01Add.calls a2 a3 a8 true _ d1.out).mono ?_); rintro e w' ⟨rfl, ⟨nd, rfl⟩⟩; (try exact dr2)))); go_wp2_with (first | (go_at_call 46; (with_reducible refine (r01Mul.calls (rd l0 a0) (rd l1 a0) a3 true _ A9.out).mono ?_); rintro e w' ⟨rfl, ⟨nd, rfl⟩⟩; (try exact dr2)) | (go_at_call 44; (with_reducible refine (r01Add.calls a2 a3 a8 true _ d1.out).mono ?_); rintro e w' ⟨rfl, ⟨nd, rfl⟩⟩; (try exact dr2))))
      go_roundg b8
      case measure => have := c9.out; have := d6.out; omega
      case rel => exact ⟨(a8), (wrap64 (a0 + 1)), (by first | rfl | (simp; done) | (simp [*]; done)), (by first | rfl | (simp; done) | (simp [*]; done)), H', ⟨by have := c9.out; have := d6.out; omega⟩, by repeat (first | exact Drawn0.refl _ | apply Drawn0.step)⟩
     replace d2 := Bool.eq_false_iff.mpr d2; subst d2; have H1 : (some (0, false)) = some (r1, r2) := by rw [if_neg (show ¬ (false = true) by decide)] at H; exact H
     clear H; have H := H1; clear H1; obtain ⟨rfl, rfl⟩ := j2 H; have a4 : 0 ≤ (a0 : Int) := oa; have a5 : a0 < (l0.length : Int) := oa; obtain ⟨b6, b3, b0⟩ := Kd.at_int d3.out a0 a4 a5; cases b3; replace a4 := eq_true a4; replace a5 := eq_true a5; have a6 : 0 ≤ (a0 : Int) := oa; have a7 : a0 < (l1.length : Int) := oa; obtain ⟨b7, b4, b1⟩ := Kd.at_int d4.out a0 a6 a7; cases b4; replace a6 := eq_true a6; replace a7 := eq_true a7
     iterate 3 ((try go_quiet (first | (go_at_call 46; (with_reducible refine (r01Mul.calls (rd l0 a0) (rd l1 a0) a3 true _ A9.out).mono ?_); rintro e w' ⟨rfl, ⟨nd, rfl⟩⟩; (try exact dr2)) | (go_at_call 44; (with_reducible refine (r01Add.calls a2 a3 a8 false _ d1.out).mono ?_); rintro e w' ⟨rfl, ⟨nd, rfl⟩⟩; (try exact dr2)))); go_wp2_with (first | (go_at_call 46; (with_reducible refine (r01Mul.calls (rd l0 a0) (rd l1 a0) a3 true _ A9.out).mono ?_); rintro e w' ⟨rfl, ⟨nd, rfl⟩⟩; (try exact dr2)) | (go_at_call 44; (with_reducible refine (r01Add.calls a2 a3 a8 false _ d1.out).mono ?_); rintro e w' ⟨rfl, ⟨nd, rfl⟩⟩; (try exact dr2))))
     go_ret2; exact f0
    replace d0 := Bool.eq_false_iff.mpr d0; subst d0; have H1 : (some (0, false)) = some (r1, r2) := by rw [if_neg (show ¬ (false = true) by decide)] at H; exact H
    clear H; have H := H1; clear H1; obtain ⟨rfl, rfl⟩ := j2 H; have a4 : 0 ≤ (a0 : Int) := oa; have a5 : a0 < (l0.length : Int) := oa; obtain ⟨b6, b3, b0⟩ := Kd.at_int d3.out a0 a4 a5; cases b3; replace a4 := eq_true a4; replace a5 := eq_true a5; have a6 : 0 ≤ (a0 : Int) := oa; have a7 : a0 < (l1.length : Int) := oa; obtain ⟨b7, b4, b1⟩ := Kd.at_int d4.out a0 a6 a7; cases b4; replace a6 := eq_true a6; replace a7 := eq_true a7
    iterate 3 ((try go_quiet (first | (go_at_call 46; (with_reducible refine (r01Mul.calls (rd l0 a0) (rd l1 a0) a3 false _ A9.out).mono ?_); rintro e w' ⟨rfl, ⟨nd, rfl⟩⟩; (try exact dr2)))); go_wp2_with (first | (go_at_call 46; (with_reducible refine (r01Mul.calls (rd l0 a0) (rd l1 a0) a3 false _ A9.out).mono ?_); rintro e w' ⟨rfl, ⟨nd, rfl⟩⟩; (try exact dr2))))
    go_ret2; exact f0
   replace c5 := Bool.eq_false_iff.mpr c5; subst c5; have H1 : (some (a2, true)) = some (r1, r2) := by rw [if_neg (show ¬ (false = true) by decide)] at H; exact H
   clear H; have H := H1; clear H1; obtain ⟨rfl, rfl⟩ := j2 H; go_wp2
   repeat (go_quiet (fail); try go_wp2)
   go_ret2; exact f0

end Go.Proofs.Ytigpmhicdmjbeaa.PWeighStays
