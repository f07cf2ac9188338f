/- What the functions that this law reaches answer, in whatever memory, and the row of the law; no condition. Written by a program of this session (mk.sh). -/
import Derived.Test.YtifbflpaednfnaaPBasisNetsx0
namespace Go.Proofs.Ytifbflpaednfnaa.PBasisNets
open Go.RowKit Go.Proofs.YtifbflpaednfnaaW.PrintWords Go.Proofs.YtifbflpaednfnaaW.PrintLast Go.Proofs.YtifbflpaednfnaaW.PrintMore
attribute [local go_sem] max2_int min2_int max_two min_two   -- for this text's walks alone
set_option linter.unusedVariables false
set_option linter.unusedSimpArgs false

/-! ### r01Mul: function 36 -/
def r01Mul.f (b : Int) (a : Int) : Option (Int × Bool) := if b = 0 then (some (0, true)) else (if a = 0 then (some (0, true)) else (if b = (-9223372036854775808) then (if b = 1 then (some ((-9223372036854775808), true)) else (if a = 1 then (some ((-9223372036854775808), true)) else (some (0, false)))) else (if a = (-9223372036854775808) then (if b = 1 then (some ((-9223372036854775808), true)) else (if a = 1 then (some ((-9223372036854775808), true)) else (some (0, false)))) else (if b < 0 then (if a < 0 then (if (wrap64 (-a)) = 0 then (none) else (if (wrap64 (-b)) ≤ (wrap64 (Int.tdiv (9223372036854775807 : Int) (wrap64 (-a)))) then (some (wrap64 ((wrap64 (-b)) * (wrap64 (-a))), true)) else (some (0, false)))) else (if (wrap64 (-b)) ≤ (wrap64 (Int.tdiv (9223372036854775807 : Int) a)) then (some (wrap64 (-(wrap64 ((wrap64 (-b)) * a))), true)) else (if (Int.tmod (wrap64 (-b)) 2) = 0 then (if (wrap64 (Int.tdiv (wrap64 (-b)) 2)) ≤ (wrap64 (Int.tdiv (9223372036854775807 : Int) a)) then (if (wrap64 ((wrap64 (Int.tdiv (wrap64 (-b)) 2)) * a)) = 4611686018427387904 then (some ((-9223372036854775808), true)) else (if (Int.tmod a 2) = 0 then (if (wrap64 (-b)) = 0 then (none) else (if (wrap64 (Int.tdiv a 2)) ≤ (wrap64 (Int.tdiv (9223372036854775807 : Int) (wrap64 (-b)))) then (if (wrap64 ((wrap64 (Int.tdiv a 2)) * (wrap64 (-b)))) = 4611686018427387904 then (some ((-9223372036854775808), true)) else (some (0, false))) else (some (0, false)))) else (some (0, false)))) else (if (Int.tmod a 2) = 0 then (if (wrap64 (-b)) = 0 then (none) else (if (wrap64 (Int.tdiv a 2)) ≤ (wrap64 (Int.tdiv (9223372036854775807 : Int) (wrap64 (-b)))) then (if (wrap64 ((wrap64 (Int.tdiv a 2)) * (wrap64 (-b)))) = 4611686018427387904 then (some ((-9223372036854775808), true)) else (some (0, false))) else (some (0, false)))) else (some (0, false)))) else (if (Int.tmod a 2) = 0 then (if (wrap64 (-b)) = 0 then (none) else (if (wrap64 (Int.tdiv a 2)) ≤ (wrap64 (Int.tdiv (9223372036854775807 : Int) (wrap64 (-b)))) then (if (wrap64 ((wrap64 (Int.tdiv a 2)) * (wrap64 (-b)))) = 4611686018427387904 then (some ((-9223372036854775808), true)) else (some (0, false))) else (some (0, false)))) else (some (0, false)))))) else (if a < 0 then (if (wrap64 (-a)) = 0 then (none) else (if b ≤ (wrap64 (Int.tdiv (9223372036854775807 : Int) (wrap64 (-a)))) then (some (wrap64 (-(wrap64 (b * (wrap64 (-a))))), true)) else (if (Int.tmod b 2) = 0 then (if (wrap64 (Int.tdiv b 2)) ≤ (wrap64 (Int.tdiv (9223372036854775807 : Int) (wrap64 (-a)))) then (if (wrap64 ((wrap64 (Int.tdiv b 2)) * (wrap64 (-a)))) = 4611686018427387904 then (some ((-9223372036854775808), true)) else (if (Int.tmod (wrap64 (-a)) 2) = 0 then (if (wrap64 (Int.tdiv (wrap64 (-a)) 2)) ≤ (wrap64 (Int.tdiv (9223372036854775807 : Int) b)) then (if (wrap64 ((wrap64 (Int.tdiv (wrap64 (-a)) 2)) * b)) = 4611686018427387904 then (some ((-9223372036854775808), true)) else (some (0, false))) else (some (0, false))) else (some (0, false)))) else (if (Int.tmod (wrap64 (-a)) 2) = 0 then (if (wrap64 (Int.tdiv (wrap64 (-a)) 2)) ≤ (wrap64 (Int.tdiv (9223372036854775807 : Int) b)) then (if (wrap64 ((wrap64 (Int.tdiv (wrap64 (-a)) 2)) * b)) = 4611686018427387904 then (some ((-9223372036854775808), true)) else (some (0, false))) else (some (0, false))) else (some (0, false)))) else (if (Int.tmod (wrap64 (-a)) 2) = 0 then (if (wrap64 (Int.tdiv (wrap64 (-a)) 2)) ≤ (wrap64 (Int.tdiv (9223372036854775807 : Int) b)) then (if (wrap64 ((wrap64 (Int.tdiv (wrap64 (-a)) 2)) * b)) = 4611686018427387904 then (some ((-9223372036854775808), true)) else (some (0, false))) else (some (0, false))) else (some (0, false)))))) else (if b ≤ (wrap64 (Int.tdiv (9223372036854775807 : Int) a)) then (some (wrap64 (b * a), true)) else (some (0, false))))))))
set_option maxHeartbeats 8000000 in
set_option maxRecDepth 100000 in
theorem r01Mul.calls (a0 : Int) (a1 : Int) (r1 : Int) (r2 : Bool) (w : World) (h : r01Mul.f a0 a1 = some (r1, r2)) :
 Calls Try.prog 36 #[.int .i64 a0, .int .i64 a1] w fun e w' => e = .returned (.tuple #[.int .i64 r1, .bool r2]) ∧ Drawn0 w w' := by
 have H : (if a0 = 0 then (some (0, true)) else (if a1 = 0 then (some (0, true)) else (if a0 = (-9223372036854775808) then (if a0 = 1 then (some ((-9223372036854775808), true)) else (if a1 = 1 then (some ((-9223372036854775808), true)) else (some (0, false)))) else (if a1 = (-9223372036854775808) then (if a0 = 1 then (some ((-9223372036854775808), true)) else (if a1 = 1 then (some ((-9223372036854775808), true)) else (some (0, false)))) else (if a0 < 0 then (if a1 < 0 then (if (wrap64 (-a1)) = 0 then (none) else (if (wrap64 (-a0)) ≤ (wrap64 (Int.tdiv (9223372036854775807 : Int) (wrap64 (-a1)))) then (some (wrap64 ((wrap64 (-a0)) * (wrap64 (-a1))), true)) else (some (0, false)))) else (if (wrap64 (-a0)) ≤ (wrap64 (Int.tdiv (9223372036854775807 : Int) a1)) then (some (wrap64 (-(wrap64 ((wrap64 (-a0)) * a1))), true)) else (if (Int.tmod (wrap64 (-a0)) 2) = 0 then (if (wrap64 (Int.tdiv (wrap64 (-a0)) 2)) ≤ (wrap64 (Int.tdiv (9223372036854775807 : Int) a1)) then (if (wrap64 ((wrap64 (Int.tdiv (wrap64 (-a0)) 2)) * a1)) = 4611686018427387904 then (some ((-9223372036854775808), true)) else (if (Int.tmod a1 2) = 0 then (if (wrap64 (-a0)) = 0 then (none) else (if (wrap64 (Int.tdiv a1 2)) ≤ (wrap64 (Int.tdiv (9223372036854775807 : Int) (wrap64 (-a0)))) then (if (wrap64 ((wrap64 (Int.tdiv a1 2)) * (wrap64 (-a0)))) = 4611686018427387904 then (some ((-9223372036854775808), true)) else (some (0, false))) else (some (0, false)))) else (some (0, false)))) else (if (Int.tmod a1 2) = 0 then (if (wrap64 (-a0)) = 0 then (none) else (if (wrap64 (Int.tdiv a1 2)) ≤ (wrap64 (Int.tdiv (9223372036854775807 : Int) (wrap64 (-a0)))) then (if (wrap64 ((wrap64 (Int.tdiv a1 2)) * (wrap64 (-a0)))) = 4611686018427387904 then (some ((-9223372036854775808), true)) else (some (0, false))) else (some (0, false)))) else (some (0, false)))) else (if (Int.tmod a1 2) = 0 then (if (wrap64 (-a0)) = 0 then (none) else (if (wrap64 (Int.tdiv a1 2)) ≤ (wrap64 (Int.tdiv (9223372036854775807 : Int) (wrap64 (-a0)))) then (if (wrap64 ((wrap64 (Int.tdiv a1 2)) * (wrap64 (-a0)))) = 4611686018427387904 then (some ((-9223372036854775808), true)) else (some (0, false))) else (some (0, false)))) else (some (0, false)))))) else (if a1 < 0 then (if (wrap64 (-a1)) = 0 then (none) else (if a0 ≤ (wrap64 (Int.tdiv (9223372036854775807 : Int) (wrap64 (-a1)))) then (some (wrap64 (-(wrap64 (a0 * (wrap64 (-a1))))), true)) else (if (Int.tmod a0 2) = 0 then (if (wrap64 (Int.tdiv a0 2)) ≤ (wrap64 (Int.tdiv (9223372036854775807 : Int) (wrap64 (-a1)))) then (if (wrap64 ((wrap64 (Int.tdiv a0 2)) * (wrap64 (-a1)))) = 4611686018427387904 then (some ((-9223372036854775808), true)) else (if (Int.tmod (wrap64 (-a1)) 2) = 0 then (if (wrap64 (Int.tdiv (wrap64 (-a1)) 2)) ≤ (wrap64 (Int.tdiv (9223372036854775807 : Int) a0)) then (if (wrap64 ((wrap64 (Int.tdiv (wrap64 (-a1)) 2)) * a0)) = 4611686018427387904 then (some ((-9223372036854775808), true)) else (some (0, false))) else (some (0, false))) else (some (0, false)))) else (if (Int.tmod (wrap64 (-a1)) 2) = 0 then (if (wrap64 (Int.tdiv (wrap64 (-a1)) 2)) ≤ (wrap64 (Int.tdiv (9223372036854775807 : Int) a0)) then (if (wrap64 ((wrap64 (Int.tdiv (wrap64 (-a1)) 2)) * a0)) = 4611686018427387904 then (some ((-9223372036854775808), true)) else (some (0, false))) else (some (0, false))) else (some (0, false)))) else (if (Int.tmod (wrap64 (-a1)) 2) = 0 then (if (wrap64 (Int.tdiv (wrap64 (-a1)) 2)) ≤ (wrap64 (Int.tdiv (9223372036854775807 : Int) a0)) then (if (wrap64 ((wrap64 (Int.tdiv (wrap64 (-a1)) 2)) * a0)) = 4611686018427387904 then (some ((-9223372036854775808), true)) else (some (0, false))) else (some (0, false))) else (some (0, false)))))) else (if a0 ≤ (wrap64 (Int.tdiv (9223372036854775807 : Int) a1)) then (some (wrap64 (a0 * a1), true)) else (some (0, false))))))))) = some (r1, r2) := h; clear h
 by_cases c3 : a0 = 0
 ·rw [if_pos c3] at H; have j6 := beq_iff_eq.mpr c3; have j7 := bne_eq_false_iff_eq.mpr c3; clear c3; obtain ⟨rfl, rfl⟩ := jj2 H; go_enter Try.func36, Try.ntmps36; go_wp2; go_ret2; exact f0
 rw [if_neg c3] at H; have j6 := beq_eq_false_iff_ne.mpr c3; have j7 := bne_iff_ne.mpr c3
 by_cases c4 : a1 = 0
 ·rw [if_pos c4] at H; have j8 := beq_iff_eq.mpr c4; have j9 := bne_eq_false_iff_eq.mpr c4; clear c4; obtain ⟨rfl, rfl⟩ := jj2 H; go_enter Try.func36, Try.ntmps36; go_wp2; go_ret2; exact f0
 rw [if_neg c4] at H; have j8 := beq_eq_false_iff_ne.mpr c4; have j9 := bne_iff_ne.mpr c4
 by_cases c5 : a0 = (-9223372036854775808)
 ·rw [if_pos c5] at H; have k0 := beq_iff_eq.mpr c5; have k1 := bne_eq_false_iff_eq.mpr c5; clear c5
  by_cases c6 : a0 = 1
  ·rw [if_pos c6] at H; have k2 := beq_iff_eq.mpr c6; have k3 := bne_eq_false_iff_eq.mpr c6; clear c6; obtain ⟨rfl, rfl⟩ := jj2 H; go_enter Try.func36, Try.ntmps36; go_wp2; go_ret2; exact f0
  rw [if_neg c6] at H; have k2 := beq_eq_false_iff_ne.mpr c6; have k3 := bne_iff_ne.mpr c6
  by_cases c7 : a1 = 1
  ·rw [if_pos c7] at H; have k4 := beq_iff_eq.mpr c7; have k5 := bne_eq_false_iff_eq.mpr c7; clear c7; obtain ⟨rfl, rfl⟩ := jj2 H; go_enter Try.func36, Try.ntmps36; go_wp2; go_ret2; exact f0
  rw [if_neg c7] at H; have k4 := beq_eq_false_iff_ne.mpr c7; have k5 := bne_iff_ne.mpr c7; obtain ⟨rfl, rfl⟩ := jj2 H; go_enter Try.func36, Try.ntmps36; go_wp2; go_ret2; exact f0
 rw [if_neg c5] at H; have k0 := beq_eq_false_iff_ne.mpr c5; have k1 := bne_iff_ne.mpr c5
 by_cases c8 : a1 = (-9223372036854775808)
 ·rw [if_pos c8] at H; have k6 := beq_iff_eq.mpr c8; have k7 := bne_eq_false_iff_eq.mpr c8; clear c8
  by_cases c9 : a0 = 1
  ·rw [if_pos c9] at H; have k8 := beq_iff_eq.mpr c9; have k9 := bne_eq_false_iff_eq.mpr c9; clear c9; obtain ⟨rfl, rfl⟩ := jj2 H; go_enter Try.func36, Try.ntmps36; go_wp2; go_ret2; exact f0
  rw [if_neg c9] at H; have k8 := beq_eq_false_iff_ne.mpr c9; have k9 := bne_iff_ne.mpr c9
  by_cases a2 : a1 = 1
  ·rw [if_pos a2] at H; have e1 := beq_iff_eq.mpr a2; have e2 := bne_eq_false_iff_eq.mpr a2; clear a2; obtain ⟨rfl, rfl⟩ := jj2 H; go_enter Try.func36, Try.ntmps36; go_wp2; go_ret2; exact f0
  rw [if_neg a2] at H; have e1 := beq_eq_false_iff_ne.mpr a2; have e2 := bne_iff_ne.mpr a2; obtain ⟨rfl, rfl⟩ := jj2 H; go_enter Try.func36, Try.ntmps36; go_wp2; go_ret2; exact f0
 rw [if_neg c8] at H; have k6 := beq_eq_false_iff_ne.mpr c8; have k7 := bne_iff_ne.mpr c8
 by_cases b9 : a0 < 0
 ·rw [if_pos b9] at H; have e3 := decide_eq_true b9; clear b9
  by_cases c0 : a1 < 0
  ·rw [if_pos c0] at H; have e4 := decide_eq_true c0; clear c0
   by_cases j1 : (wrap64 (-a1)) = 0
   case pos => rw [if_pos j1] at H; exact nn H
   rw [if_neg j1] at H; have l0 := beq_eq_false_iff_ne.mpr j1; have l1 := bne_iff_ne.mpr j1
   by_cases c1 : (wrap64 (-a0)) ≤ (wrap64 (Int.tdiv (9223372036854775807 : Int) (wrap64 (-a1))))
   ·rw [if_pos c1] at H; have e5 : decide ((wrap64 (-a0)) ≤ (wrap64 (Int.tdiv (9223372036854775807 : Int) (wrap64 (-a1))))) = true := decide_eq_true c1; clear c1; obtain ⟨rfl, rfl⟩ := jj2 H; go_enter Try.func36, Try.ntmps36; go_wp2; go_ret2; exact f0
   rw [if_neg c1] at H; have e5 : decide ((wrap64 (-a0)) ≤ (wrap64 (Int.tdiv (9223372036854775807 : Int) (wrap64 (-a1))))) = false := decide_eq_false c1; clear c1; obtain ⟨rfl, rfl⟩ := jj2 H; go_enter Try.func36, Try.ntmps36; go_wp2; go_ret2; exact f0
  rw [if_neg c0] at H; have e4 := decide_eq_false c0; clear c0
  by_cases c2 : (wrap64 (-a0)) ≤ (wrap64 (Int.tdiv (9223372036854775807 : Int) a1))
  ·rw [if_pos c2] at H; have e6 := decide_eq_true c2; clear c2; obtain ⟨rfl, rfl⟩ := jj2 H; go_enter Try.func36, Try.ntmps36; go_wp2; go_ret2; exact f0
  rw [if_neg c2] at H; have e6 := decide_eq_false c2; clear c2
  by_cases a3 : (Int.tmod (wrap64 (-a0)) 2) = 0
  ·rw [if_pos a3] at H; have e7 := beq_iff_eq.mpr a3; have e8 := bne_eq_false_iff_eq.mpr a3; clear a3
   by_cases d0 : (wrap64 (Int.tdiv (wrap64 (-a0)) 2)) ≤ (wrap64 (Int.tdiv (9223372036854775807 : Int) a1))
   ·rw [if_pos d0] at H; have e9 : decide ((wrap64 (Int.tdiv (wrap64 (-a0)) 2)) ≤ (wrap64 (Int.tdiv (9223372036854775807 : Int) a1))) = true := decide_eq_true d0; clear d0
    by_cases a4 : (wrap64 ((wrap64 (Int.tdiv (wrap64 (-a0)) 2)) * a1)) = 4611686018427387904
    ·rw [if_pos a4] at H; have f1 : ((wrap64 ((wrap64 (Int.tdiv (wrap64 (-a0)) 2)) * a1)) == 4611686018427387904) = true := beq_iff_eq.mpr a4; have f2 : ((wrap64 ((wrap64 (Int.tdiv (wrap64 (-a0)) 2)) * a1)) != 4611686018427387904) = false := bne_eq_false_iff_eq.mpr a4; clear a4; obtain ⟨rfl, rfl⟩ := jj2 H; go_enter Try.func36, Try.ntmps36; go_wp2; go_ret2; exact f0
    rw [if_neg a4] at H; have f1 : ((wrap64 ((wrap64 (Int.tdiv (wrap64 (-a0)) 2)) * a1)) == 4611686018427387904) = false := beq_eq_false_iff_ne.mpr a4; have f2 : ((wrap64 ((wrap64 (Int.tdiv (wrap64 (-a0)) 2)) * a1)) != 4611686018427387904) = true := bne_iff_ne.mpr a4
    by_cases a5 : (Int.tmod a1 2) = 0
    ·rw [if_pos a5] at H; have f3 := beq_iff_eq.mpr a5; have f4 := bne_eq_false_iff_eq.mpr a5; clear a5
     by_cases j2 : (wrap64 (-a0)) = 0
     case pos => rw [if_pos j2] at H; exact nn H
     rw [if_neg j2] at H; have l2 := beq_eq_false_iff_ne.mpr j2; have l3 := bne_iff_ne.mpr j2
     by_cases d1 : (wrap64 (Int.tdiv a1 2)) ≤ (wrap64 (Int.tdiv (9223372036854775807 : Int) (wrap64 (-a0))))
     ·rw [if_pos d1] at H; have f5 : decide ((wrap64 (Int.tdiv a1 2)) ≤ (wrap64 (Int.tdiv (9223372036854775807 : Int) (wrap64 (-a0))))) = true := decide_eq_true d1; clear d1
      by_cases a6 : (wrap64 ((wrap64 (Int.tdiv a1 2)) * (wrap64 (-a0)))) = 4611686018427387904
      ·rw [if_pos a6] at H; have f6 : ((wrap64 ((wrap64 (Int.tdiv a1 2)) * (wrap64 (-a0)))) == 4611686018427387904) = true := beq_iff_eq.mpr a6; have f7 : ((wrap64 ((wrap64 (Int.tdiv a1 2)) * (wrap64 (-a0)))) != 4611686018427387904) = false := bne_eq_false_iff_eq.mpr a6; clear a6; obtain ⟨rfl, rfl⟩ := jj2 H; go_enter Try.func36, Try.ntmps36; go_wp2; go_ret2; exact f0
      rw [if_neg a6] at H; have f6 : ((wrap64 ((wrap64 (Int.tdiv a1 2)) * (wrap64 (-a0)))) == 4611686018427387904) = false := beq_eq_false_iff_ne.mpr a6; have f7 : ((wrap64 ((wrap64 (Int.tdiv a1 2)) * (wrap64 (-a0)))) != 4611686018427387904) = true := bne_iff_ne.mpr a6; obtain ⟨rfl, rfl⟩ := jj2 H; go_enter Try.func36, Try.ntmps36; go_wp2; go_ret2; exact f0
     rw [if_neg d1] at H; have f5 : decide ((wrap64 (Int.tdiv a1 2)) ≤ (wrap64 (Int.tdiv (9223372036854775807 : Int) (wrap64 (-a0))))) = false := decide_eq_false d1; clear d1; obtain ⟨rfl, rfl⟩ := jj2 H; go_enter Try.func36, Try.ntmps36; go_wp2; go_ret2; exact f0
    rw [if_neg a5] at H; have f3 := beq_eq_false_iff_ne.mpr a5; have f4 := bne_iff_ne.mpr a5; obtain ⟨rfl, rfl⟩ := jj2 H; go_enter Try.func36, Try.ntmps36; go_wp2; go_ret2; exact f0
   rw [if_neg d0] at H; have e9 : decide ((wrap64 (Int.tdiv (wrap64 (-a0)) 2)) ≤ (wrap64 (Int.tdiv (9223372036854775807 : Int) a1))) = false := decide_eq_false d0; clear d0
   by_cases a7 : (Int.tmod a1 2) = 0
   ·rw [if_pos a7] at H; have f8 := beq_iff_eq.mpr a7; have f9 := bne_eq_false_iff_eq.mpr a7; clear a7
    by_cases j3 : (wrap64 (-a0)) = 0
    case pos => rw [if_pos j3] at H; exact nn H
    rw [if_neg j3] at H; have l4 := beq_eq_false_iff_ne.mpr j3; have l5 := bne_iff_ne.mpr j3
    by_cases d2 : (wrap64 (Int.tdiv a1 2)) ≤ (wrap64 (Int.tdiv (9223372036854775807 : Int) (wrap64 (-a0))))
    ·rw [if_pos d2] at H; have g0 : decide ((wrap64 (Int.tdiv a1 2)) ≤ (wrap64 (Int.tdiv (9223372036854775807 : Int) (wrap64 (-a0))))) = true := decide_eq_true d2; clear d2
     by_cases a8 : (wrap64 ((wrap64 (Int.tdiv a1 2)) * (wrap64 (-a0)))) = 4611686018427387904
     ·rw [if_pos a8] at H; have g1 : ((wrap64 ((wrap64 (Int.tdiv a1 2)) * (wrap64 (-a0)))) == 4611686018427387904) = true := beq_iff_eq.mpr a8; have g2 : ((wrap64 ((wrap64 (Int.tdiv a1 2)) * (wrap64 (-a0)))) != 4611686018427387904) = false := bne_eq_false_iff_eq.mpr a8; clear a8; obtain ⟨rfl, rfl⟩ := jj2 H; go_enter Try.func36, Try.ntmps36; go_wp2; go_ret2; exact f0
     rw [if_neg a8] at H; have g1 : ((wrap64 ((wrap64 (Int.tdiv a1 2)) * (wrap64 (-a0)))) == 4611686018427387904) = false := beq_eq_false_iff_ne.mpr a8; have g2 : ((wrap64 ((wrap64 (Int.tdiv a1 2)) * (wrap64 (-a0)))) != 4611686018427387904) = true := bne_iff_ne.mpr a8; obtain ⟨rfl, rfl⟩ := jj2 H; go_enter Try.func36, Try.ntmps36; go_wp2; go_ret2; exact f0
    rw [if_neg d2] at H; have g0 : decide ((wrap64 (Int.tdiv a1 2)) ≤ (wrap64 (Int.tdiv (9223372036854775807 : Int) (wrap64 (-a0))))) = false := decide_eq_false d2; clear d2; obtain ⟨rfl, rfl⟩ := jj2 H; go_enter Try.func36, Try.ntmps36; go_wp2; go_ret2; exact f0
   rw [if_neg a7] at H; have f8 := beq_eq_false_iff_ne.mpr a7; have f9 := bne_iff_ne.mpr a7; obtain ⟨rfl, rfl⟩ := jj2 H; go_enter Try.func36, Try.ntmps36; go_wp2; go_ret2; exact f0
  rw [if_neg a3] at H; have e7 := beq_eq_false_iff_ne.mpr a3; have e8 := bne_iff_ne.mpr a3
  by_cases a9 : (Int.tmod a1 2) = 0
  ·rw [if_pos a9] at H; have g3 := beq_iff_eq.mpr a9; have g4 := bne_eq_false_iff_eq.mpr a9; clear a9
   by_cases j4 : (wrap64 (-a0)) = 0
   case pos => rw [if_pos j4] at H; exact nn H
   rw [if_neg j4] at H; have l6 := beq_eq_false_iff_ne.mpr j4; have l7 := bne_iff_ne.mpr j4
   by_cases d3 : (wrap64 (Int.tdiv a1 2)) ≤ (wrap64 (Int.tdiv (9223372036854775807 : Int) (wrap64 (-a0))))
   ·rw [if_pos d3] at H; have g5 : decide ((wrap64 (Int.tdiv a1 2)) ≤ (wrap64 (Int.tdiv (9223372036854775807 : Int) (wrap64 (-a0))))) = true := decide_eq_true d3; clear d3
    by_cases b0 : (wrap64 ((wrap64 (Int.tdiv a1 2)) * (wrap64 (-a0)))) = 4611686018427387904
    ·rw [if_pos b0] at H; have g6 : ((wrap64 ((wrap64 (Int.tdiv a1 2)) * (wrap64 (-a0)))) == 4611686018427387904) = true := beq_iff_eq.mpr b0; have g7 : ((wrap64 ((wrap64 (Int.tdiv a1 2)) * (wrap64 (-a0)))) != 4611686018427387904) = false := bne_eq_false_iff_eq.mpr b0; clear b0; obtain ⟨rfl, rfl⟩ := jj2 H; go_enter Try.func36, Try.ntmps36; go_wp2; go_ret2; exact f0
    rw [if_neg b0] at H; have g6 : ((wrap64 ((wrap64 (Int.tdiv a1 2)) * (wrap64 (-a0)))) == 4611686018427387904) = false := beq_eq_false_iff_ne.mpr b0; have g7 : ((wrap64 ((wrap64 (Int.tdiv a1 2)) * (wrap64 (-a0)))) != 4611686018427387904) = true := bne_iff_ne.mpr b0; obtain ⟨rfl, rfl⟩ := jj2 H; go_enter Try.func36, Try.ntmps36; go_wp2; go_ret2; exact f0
   rw [if_neg d3] at H; have g5 : decide ((wrap64 (Int.tdiv a1 2)) ≤ (wrap64 (Int.tdiv (9223372036854775807 : Int) (wrap64 (-a0))))) = false := decide_eq_false d3; clear d3; obtain ⟨rfl, rfl⟩ := jj2 H; go_enter Try.func36, Try.ntmps36; go_wp2; go_ret2; exact f0
  rw [if_neg a9] at H; have g3 := beq_eq_false_iff_ne.mpr a9; have g4 := bne_iff_ne.mpr a9; obtain ⟨rfl, rfl⟩ := jj2 H; go_enter Try.func36, Try.ntmps36; go_wp2; go_ret2; exact f0
 rw [if_neg b9] at H; have e3 := decide_eq_false b9; clear b9
 by_cases d4 : a1 < 0
 ·rw [if_pos d4] at H; have g8 := decide_eq_true d4; clear d4
  by_cases j5 : (wrap64 (-a1)) = 0
  case pos => rw [if_pos j5] at H; exact nn H
  rw [if_neg j5] at H; have l8 := beq_eq_false_iff_ne.mpr j5; have l9 := bne_iff_ne.mpr j5
  by_cases d5 : a0 ≤ (wrap64 (Int.tdiv (9223372036854775807 : Int) (wrap64 (-a1))))
  ·rw [if_pos d5] at H; have g9 : decide (a0 ≤ (wrap64 (Int.tdiv (9223372036854775807 : Int) (wrap64 (-a1))))) = true := decide_eq_true d5; clear d5; obtain ⟨rfl, rfl⟩ := jj2 H; go_enter Try.func36, Try.ntmps36; go_wp2; go_ret2; exact f0
  rw [if_neg d5] at H; have g9 : decide (a0 ≤ (wrap64 (Int.tdiv (9223372036854775807 : Int) (wrap64 (-a1))))) = false := decide_eq_false d5; clear d5
  by_cases b1 : (Int.tmod a0 2) = 0
  ·rw [if_pos b1] at H; have h0 := beq_iff_eq.mpr b1; have h1 := bne_eq_false_iff_eq.mpr b1; clear b1
   by_cases d6 : (wrap64 (Int.tdiv a0 2)) ≤ (wrap64 (Int.tdiv (9223372036854775807 : Int) (wrap64 (-a1))))
   ·rw [if_pos d6] at H; have h2 : decide ((wrap64 (Int.tdiv a0 2)) ≤ (wrap64 (Int.tdiv (9223372036854775807 : Int) (wrap64 (-a1))))) = true := decide_eq_true d6; clear d6
    by_cases b2 : (wrap64 ((wrap64 (Int.tdiv a0 2)) * (wrap64 (-a1)))) = 4611686018427387904
    ·rw [if_pos b2] at H; have h3 : ((wrap64 ((wrap64 (Int.tdiv a0 2)) * (wrap64 (-a1)))) == 4611686018427387904) = true := beq_iff_eq.mpr b2; have h4 : ((wrap64 ((wrap64 (Int.tdiv a0 2)) * (wrap64 (-a1)))) != 4611686018427387904) = false := bne_eq_false_iff_eq.mpr b2; clear b2; obtain ⟨rfl, rfl⟩ := jj2 H; go_enter Try.func36, Try.ntmps36; go_wp2; go_ret2; exact f0
    rw [if_neg b2] at H; have h3 : ((wrap64 ((wrap64 (Int.tdiv a0 2)) * (wrap64 (-a1)))) == 4611686018427387904) = false := beq_eq_false_iff_ne.mpr b2; have h4 : ((wrap64 ((wrap64 (Int.tdiv a0 2)) * (wrap64 (-a1)))) != 4611686018427387904) = true := bne_iff_ne.mpr b2
    by_cases b3 : (Int.tmod (wrap64 (-a1)) 2) = 0
    ·rw [if_pos b3] at H; have h5 := beq_iff_eq.mpr b3; have h6 := bne_eq_false_iff_eq.mpr b3; clear b3
     by_cases d7 : (wrap64 (Int.tdiv (wrap64 (-a1)) 2)) ≤ (wrap64 (Int.tdiv (9223372036854775807 : Int) a0))
     ·rw [if_pos d7] at H; have h7 : decide ((wrap64 (Int.tdiv (wrap64 (-a1)) 2)) ≤ (wrap64 (Int.tdiv (9223372036854775807 : Int) a0))) = true := decide_eq_true d7; clear d7
      by_cases b4 : (wrap64 ((wrap64 (Int.tdiv (wrap64 (-a1)) 2)) * a0)) = 4611686018427387904
      ·rw [if_pos b4] at H; have h8 : ((wrap64 ((wrap64 (Int.tdiv (wrap64 (-a1)) 2)) * a0)) == 4611686018427387904) = true := beq_iff_eq.mpr b4; have h9 : ((wrap64 ((wrap64 (Int.tdiv (wrap64 (-a1)) 2)) * a0)) != 4611686018427387904) = false := bne_eq_false_iff_eq.mpr b4; clear b4; obtain ⟨rfl, rfl⟩ := jj2 H; go_enter Try.func36, Try.ntmps36; go_wp2; go_ret2; exact f0
      rw [if_neg b4] at H; have h8 : ((wrap64 ((wrap64 (Int.tdiv (wrap64 (-a1)) 2)) * a0)) == 4611686018427387904) = false := beq_eq_false_iff_ne.mpr b4; have h9 : ((wrap64 ((wrap64 (Int.tdiv (wrap64 (-a1)) 2)) * a0)) != 4611686018427387904) = true := bne_iff_ne.mpr b4; obtain ⟨rfl, rfl⟩ := jj2 H; go_enter Try.func36, Try.ntmps36; go_wp2; go_ret2; exact f0
     rw [if_neg d7] at H; have h7 : decide ((wrap64 (Int.tdiv (wrap64 (-a1)) 2)) ≤ (wrap64 (Int.tdiv (9223372036854775807 : Int) a0))) = false := decide_eq_false d7; clear d7; obtain ⟨rfl, rfl⟩ := jj2 H; go_enter Try.func36, Try.ntmps36; go_wp2; go_ret2; exact f0
    rw [if_neg b3] at H; have h5 := beq_eq_false_iff_ne.mpr b3; have h6 := bne_iff_ne.mpr b3; obtain ⟨rfl, rfl⟩ := jj2 H; go_enter Try.func36, Try.ntmps36; go_wp2; go_ret2; exact f0
   rw [if_neg d6] at H; have h2 : decide ((wrap64 (Int.tdiv a0 2)) ≤ (wrap64 (Int.tdiv (9223372036854775807 : Int) (wrap64 (-a1))))) = false := decide_eq_false d6; clear d6
   by_cases b5 : (Int.tmod (wrap64 (-a1)) 2) = 0
   ·rw [if_pos b5] at H; have i0 := beq_iff_eq.mpr b5; have i1 := bne_eq_false_iff_eq.mpr b5; clear b5
    by_cases d8 : (wrap64 (Int.tdiv (wrap64 (-a1)) 2)) ≤ (wrap64 (Int.tdiv (9223372036854775807 : Int) a0))
    ·rw [if_pos d8] at H; have i2 : decide ((wrap64 (Int.tdiv (wrap64 (-a1)) 2)) ≤ (wrap64 (Int.tdiv (9223372036854775807 : Int) a0))) = true := decide_eq_true d8; clear d8
     by_cases b6 : (wrap64 ((wrap64 (Int.tdiv (wrap64 (-a1)) 2)) * a0)) = 4611686018427387904
     ·rw [if_pos b6] at H; have i3 : ((wrap64 ((wrap64 (Int.tdiv (wrap64 (-a1)) 2)) * a0)) == 4611686018427387904) = true := beq_iff_eq.mpr b6; have i4 : ((wrap64 ((wrap64 (Int.tdiv (wrap64 (-a1)) 2)) * a0)) != 4611686018427387904) = false := bne_eq_false_iff_eq.mpr b6; clear b6; obtain ⟨rfl, rfl⟩ := jj2 H; go_enter Try.func36, Try.ntmps36; go_wp2; go_ret2; exact f0
     rw [if_neg b6] at H; have i3 : ((wrap64 ((wrap64 (Int.tdiv (wrap64 (-a1)) 2)) * a0)) == 4611686018427387904) = false := beq_eq_false_iff_ne.mpr b6; have i4 : ((wrap64 ((wrap64 (Int.tdiv (wrap64 (-a1)) 2)) * a0)) != 4611686018427387904) = true := bne_iff_ne.mpr b6; obtain ⟨rfl, rfl⟩ := jj2 H; go_enter Try.func36, Try.ntmps36; go_wp2; go_ret2; exact f0
    rw [if_neg d8] at H; have i2 : decide ((wrap64 (Int.tdiv (wrap64 (-a1)) 2)) ≤ (wrap64 (Int.tdiv (9223372036854775807 : Int) a0))) = false := decide_eq_false d8; clear d8; obtain ⟨rfl, rfl⟩ := jj2 H; go_enter Try.func36, Try.ntmps36; go_wp2; go_ret2; exact f0
   rw [if_neg b5] at H; have i0 := beq_eq_false_iff_ne.mpr b5; have i1 := bne_iff_ne.mpr b5; obtain ⟨rfl, rfl⟩ := jj2 H; go_enter Try.func36, Try.ntmps36; go_wp2; go_ret2; exact f0
  rw [if_neg b1] at H; have h0 := beq_eq_false_iff_ne.mpr b1; have h1 := bne_iff_ne.mpr b1
  by_cases b7 : (Int.tmod (wrap64 (-a1)) 2) = 0
  ·rw [if_pos b7] at H; have i5 := beq_iff_eq.mpr b7; have i6 := bne_eq_false_iff_eq.mpr b7; clear b7
   by_cases d9 : (wrap64 (Int.tdiv (wrap64 (-a1)) 2)) ≤ (wrap64 (Int.tdiv (9223372036854775807 : Int) a0))
   ·rw [if_pos d9] at H; have i7 : decide ((wrap64 (Int.tdiv (wrap64 (-a1)) 2)) ≤ (wrap64 (Int.tdiv (9223372036854775807 : Int) a0))) = true := decide_eq_true d9; clear d9
    by_cases b8 : (wrap64 ((wrap64 (Int.tdiv (wrap64 (-a1)) 2)) * a0)) = 4611686018427387904
    ·rw [if_pos b8] at H; have i8 : ((wrap64 ((wrap64 (Int.tdiv (wrap64 (-a1)) 2)) * a0)) == 4611686018427387904) = true := beq_iff_eq.mpr b8; have i9 : ((wrap64 ((wrap64 (Int.tdiv (wrap64 (-a1)) 2)) * a0)) != 4611686018427387904) = false := bne_eq_false_iff_eq.mpr b8; clear b8; obtain ⟨rfl, rfl⟩ := jj2 H; go_enter Try.func36, Try.ntmps36; go_wp2; go_ret2; exact f0
    rw [if_neg b8] at H; have i8 : ((wrap64 ((wrap64 (Int.tdiv (wrap64 (-a1)) 2)) * a0)) == 4611686018427387904) = false := beq_eq_false_iff_ne.mpr b8; have i9 : ((wrap64 ((wrap64 (Int.tdiv (wrap64 (-a1)) 2)) * a0)) != 4611686018427387904) = true := bne_iff_ne.mpr b8; obtain ⟨rfl, rfl⟩ := jj2 H; go_enter Try.func36, Try.ntmps36; go_wp2; go_ret2; exact f0
   rw [if_neg d9] at H; have i7 : decide ((wrap64 (Int.tdiv (wrap64 (-a1)) 2)) ≤ (wrap64 (Int.tdiv (9223372036854775807 : Int) a0))) = false := decide_eq_false d9; clear d9; obtain ⟨rfl, rfl⟩ := jj2 H; go_enter Try.func36, Try.ntmps36; go_wp2; go_ret2; exact f0
  rw [if_neg b7] at H; have i5 := beq_eq_false_iff_ne.mpr b7; have i6 := bne_iff_ne.mpr b7; obtain ⟨rfl, rfl⟩ := jj2 H; go_enter Try.func36, Try.ntmps36; go_wp2; go_ret2; exact f0
 rw [if_neg d4] at H; have g8 := decide_eq_false d4; clear d4
 by_cases e0 : a0 ≤ (wrap64 (Int.tdiv (9223372036854775807 : Int) a1))
 ·rw [if_pos e0] at H; have j0 := decide_eq_true e0; clear e0; obtain ⟨rfl, rfl⟩ := jj2 H; go_enter Try.func36, Try.ntmps36; go_wp2; go_ret2; exact f0
 rw [if_neg e0] at H; have j0 := decide_eq_false e0; clear e0; obtain ⟨rfl, rfl⟩ := jj2 H; go_enter Try.func36, Try.ntmps36; go_wp2; go_ret2; exact f0

/-! ### r01Add: function 37 -/
def r01Add.f (b : Int) (a : Int) : Option (Int × Bool) := if a > 0 then (if b > (wrap64 (9223372036854775807 - a)) then (some (0, false)) else (if a < 0 then (if b < (wrap64 ((-9223372036854775808) - a)) then (some (0, false)) else (some (wrap64 (b + a), true))) else (some (wrap64 (b + a), true)))) else (if a < 0 then (if b < (wrap64 ((-9223372036854775808) - a)) then (some (0, false)) else (some (wrap64 (b + a), true))) else (some (wrap64 (b + a), true)))
set_option maxHeartbeats 8000000 in
set_option maxRecDepth 100000 in
theorem r01Add.calls (a0 : Int) (a1 : Int) (r1 : Int) (r2 : Bool) (w : World) (h : r01Add.f a0 a1 = some (r1, r2)) :
 Calls Try.prog 37 #[.int .i64 a0, .int .i64 a1] w fun e w' => e = .returned (.tuple #[.int .i64 r1, .bool r2]) ∧ Drawn0 w w' := by
 have H : (if a1 > 0 then (if a0 > (wrap64 (9223372036854775807 - a1)) then (some (0, false)) else (if a1 < 0 then (if a0 < (wrap64 ((-9223372036854775808) - a1)) then (some (0, false)) else (some (wrap64 (a0 + a1), true))) else (some (wrap64 (a0 + a1), true)))) else (if a1 < 0 then (if a0 < (wrap64 ((-9223372036854775808) - a1)) then (some (0, false)) else (some (wrap64 (a0 + a1), true))) else (some (wrap64 (a0 + a1), true)))) = some (r1, r2) := h; clear h
 by_cases c3 : a1 > 0
 ·rw [if_pos c3] at H; have a2 : decide (0 < a1) = true := decide_eq_true c3; clear c3
  by_cases c4 : a0 > (wrap64 (9223372036854775807 - a1))
  ·rw [if_pos c4] at H; have a3 : decide ((wrap64 (9223372036854775807 - a1)) < a0) = true := decide_eq_true c4; clear c4; obtain ⟨rfl, rfl⟩ := jj2 H; go_enter Try.func37, Try.ntmps37; go_wp2; go_ret2; exact f0
  rw [if_neg c4] at H; have a3 : decide ((wrap64 (9223372036854775807 - a1)) < a0) = false := decide_eq_false c4; clear c4
  by_cases c5 : a1 < 0
  ·rw [if_pos c5] at H; have a4 := decide_eq_true c5; clear c5
   by_cases c6 : a0 < (wrap64 ((-9223372036854775808) - a1))
   ·rw [if_pos c6] at H; have a5 := decide_eq_true c6; clear c6; obtain ⟨rfl, rfl⟩ := jj2 H; go_enter Try.func37, Try.ntmps37; go_wp2; go_ret2; exact f0
   rw [if_neg c6] at H; have a5 := decide_eq_false c6; clear c6; obtain ⟨rfl, rfl⟩ := jj2 H; go_enter Try.func37, Try.ntmps37; go_wp2; go_ret2; exact f0
  rw [if_neg c5] at H; have a4 := decide_eq_false c5; clear c5; obtain ⟨rfl, rfl⟩ := jj2 H; go_enter Try.func37, Try.ntmps37; go_wp2; go_ret2; exact f0
 rw [if_neg c3] at H; have a2 : decide (0 < a1) = false := decide_eq_false c3; clear c3
 by_cases c7 : a1 < 0
 ·rw [if_pos c7] at H; have a6 := decide_eq_true c7; clear c7
  by_cases c8 : a0 < (wrap64 ((-9223372036854775808) - a1))
  ·rw [if_pos c8] at H; have a7 := decide_eq_true c8; clear c8; obtain ⟨rfl, rfl⟩ := jj2 H; go_enter Try.func37, Try.ntmps37; go_wp2; go_ret2; exact f0
  rw [if_neg c8] at H; have a7 := decide_eq_false c8; clear c8; obtain ⟨rfl, rfl⟩ := jj2 H; go_enter Try.func37, Try.ntmps37; go_wp2; go_ret2; exact f0
 rw [if_neg c7] at H; have a6 := decide_eq_false c7; clear c7; obtain ⟨rfl, rfl⟩ := jj2 H; go_enter Try.func37, Try.ntmps37; go_wp2; go_ret2; exact f0

end Go.Proofs.Ytifbflpaednfnaa.PBasisNets
