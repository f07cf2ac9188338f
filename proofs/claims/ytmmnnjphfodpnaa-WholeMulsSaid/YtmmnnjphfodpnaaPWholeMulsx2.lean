/- What the functions that this law reaches answer, in whatever memory, and the row of the law; no condition. Written by a program of this session (mk.sh). -/
import Derived.Test.YtmmnnjphfodpnaaPWholeMulsx0
import Derived.Test.YtmmnnjphfodpnaaPWholeMulsx1
namespace Go.Proofs.Ytmmnnjphfodpnaa.PWholeMuls
open Go.RowKit Go.Proofs.YtmmnnjphfodpnaaW.PrintWords Go.Proofs.YtmmnnjphfodpnaaW.PrintLast Go.Proofs.YtmmnnjphfodpnaaW.PrintMore
attribute [local go_sem] max2_int min2_int max_two min_two max_three min_three max_four min_four   -- for this text's walks alone
set_option linter.unusedVariables false
set_option linter.unusedSimpArgs false

/-! ### marblerunref01_Mul: function 21 -/
def marblerunref01_Mul.f (a0 : Int) (a1 : Int) : Option (Int × Bool) := if a0 = 0 then (some (0, true)) else (if a1 = 0 then (some (0, true)) else (if a0 = (-9223372036854775808) then (if a0 = 1 then (some ((-9223372036854775808), true)) else (if a1 = 1 then (some ((-9223372036854775808), true)) else (some (0, false)))) else (if a1 = (-9223372036854775808) then (if a0 = 1 then (some ((-9223372036854775808), true)) else (if a1 = 1 then (some ((-9223372036854775808), true)) else (some (0, false)))) else (if a0 < 0 then (if a1 < 0 then (if (wrap64 (-a1)) = 0 then (none) else (if (wrap64 (-a0)) ≤ (wrap64 (Int.tdiv (9223372036854775807 : Int) (wrap64 (-a1)))) then (some (wrap64 ((wrap64 (-a0)) * (wrap64 (-a1))), true)) else (some (0, false)))) else (if (wrap64 (-a0)) ≤ (wrap64 (Int.tdiv (9223372036854775807 : Int) a1)) then (some (wrap64 (-(wrap64 ((wrap64 (-a0)) * a1))), true)) else (if (Int.tmod (wrap64 (-a0)) 2) = 0 then (if (wrap64 (Int.tdiv (wrap64 (-a0)) 2)) ≤ (wrap64 (Int.tdiv (9223372036854775807 : Int) a1)) then (if (wrap64 ((wrap64 (Int.tdiv (wrap64 (-a0)) 2)) * a1)) = 4611686018427387904 then (some ((-9223372036854775808), true)) else (if (Int.tmod a1 2) = 0 then (if (wrap64 (-a0)) = 0 then (none) else (if (wrap64 (Int.tdiv a1 2)) ≤ (wrap64 (Int.tdiv (9223372036854775807 : Int) (wrap64 (-a0)))) then (if (wrap64 ((wrap64 (Int.tdiv a1 2)) * (wrap64 (-a0)))) = 4611686018427387904 then (some ((-9223372036854775808), true)) else (some (0, false))) else (some (0, false)))) else (some (0, false)))) else (if (Int.tmod a1 2) = 0 then (if (wrap64 (-a0)) = 0 then (none) else (if (wrap64 (Int.tdiv a1 2)) ≤ (wrap64 (Int.tdiv (9223372036854775807 : Int) (wrap64 (-a0)))) then (if (wrap64 ((wrap64 (Int.tdiv a1 2)) * (wrap64 (-a0)))) = 4611686018427387904 then (some ((-9223372036854775808), true)) else (some (0, false))) else (some (0, false)))) else (some (0, false)))) else (if (Int.tmod a1 2) = 0 then (if (wrap64 (-a0)) = 0 then (none) else (if (wrap64 (Int.tdiv a1 2)) ≤ (wrap64 (Int.tdiv (9223372036854775807 : Int) (wrap64 (-a0)))) then (if (wrap64 ((wrap64 (Int.tdiv a1 2)) * (wrap64 (-a0)))) = 4611686018427387904 then (some ((-9223372036854775808), true)) else (some (0, false))) else (some (0, false)))) else (some (0, false)))))) else (if a1 < 0 then (if (wrap64 (-a1)) = 0 then (none) else (if a0 ≤ (wrap64 (Int.tdiv (9223372036854775807 : Int) (wrap64 (-a1)))) then (some (wrap64 (-(wrap64 (a0 * (wrap64 (-a1))))), true)) else (if (Int.tmod a0 2) = 0 then (if (wrap64 (Int.tdiv a0 2)) ≤ (wrap64 (Int.tdiv (9223372036854775807 : Int) (wrap64 (-a1)))) then (if (wrap64 ((wrap64 (Int.tdiv a0 2)) * (wrap64 (-a1)))) = 4611686018427387904 then (some ((-9223372036854775808), true)) else (if (Int.tmod (wrap64 (-a1)) 2) = 0 then (if (wrap64 (Int.tdiv (wrap64 (-a1)) 2)) ≤ (wrap64 (Int.tdiv (9223372036854775807 : Int) a0)) then (if (wrap64 ((wrap64 (Int.tdiv (wrap64 (-a1)) 2)) * a0)) = 4611686018427387904 then (some ((-9223372036854775808), true)) else (some (0, false))) else (some (0, false))) else (some (0, false)))) else (if (Int.tmod (wrap64 (-a1)) 2) = 0 then (if (wrap64 (Int.tdiv (wrap64 (-a1)) 2)) ≤ (wrap64 (Int.tdiv (9223372036854775807 : Int) a0)) then (if (wrap64 ((wrap64 (Int.tdiv (wrap64 (-a1)) 2)) * a0)) = 4611686018427387904 then (some ((-9223372036854775808), true)) else (some (0, false))) else (some (0, false))) else (some (0, false)))) else (if (Int.tmod (wrap64 (-a1)) 2) = 0 then (if (wrap64 (Int.tdiv (wrap64 (-a1)) 2)) ≤ (wrap64 (Int.tdiv (9223372036854775807 : Int) a0)) then (if (wrap64 ((wrap64 (Int.tdiv (wrap64 (-a1)) 2)) * a0)) = 4611686018427387904 then (some ((-9223372036854775808), true)) else (some (0, false))) else (some (0, false))) else (some (0, false)))))) else (if a0 ≤ (wrap64 (Int.tdiv (9223372036854775807 : Int) a1)) then (some (wrap64 (a0 * a1), true)) else (some (0, false))))))))
set_option maxHeartbeats 8000000 in
set_option maxRecDepth 100000 in
theorem marblerunref01_Mul.calls (a0 : Int) (a1 : Int) (r1 : Int) (r2 : Bool) (w : World) (h : marblerunref01_Mul.f a0 a1 = some (r1, r2)) :
    Calls Try.prog 21 #[.int .i64 a0, .int .i64 a1] w fun e w' => e = .returned (.tuple #[.int .i64 r1, .bool r2]) ∧ Drawn0 w w' := by
  have H : (if a0 = 0 then (some (0, true)) else (if a1 = 0 then (some (0, true)) else (if a0 = (-9223372036854775808) then (if a0 = 1 then (some ((-9223372036854775808), true)) else (if a1 = 1 then (some ((-9223372036854775808), true)) else (some (0, false)))) else (if a1 = (-9223372036854775808) then (if a0 = 1 then (some ((-9223372036854775808), true)) else (if a1 = 1 then (some ((-9223372036854775808), true)) else (some (0, false)))) else (if a0 < 0 then (if a1 < 0 then (if (wrap64 (-a1)) = 0 then (none) else (if (wrap64 (-a0)) ≤ (wrap64 (Int.tdiv (9223372036854775807 : Int) (wrap64 (-a1)))) then (some (wrap64 ((wrap64 (-a0)) * (wrap64 (-a1))), true)) else (some (0, false)))) else (if (wrap64 (-a0)) ≤ (wrap64 (Int.tdiv (9223372036854775807 : Int) a1)) then (some (wrap64 (-(wrap64 ((wrap64 (-a0)) * a1))), true)) else (if (Int.tmod (wrap64 (-a0)) 2) = 0 then (if (wrap64 (Int.tdiv (wrap64 (-a0)) 2)) ≤ (wrap64 (Int.tdiv (9223372036854775807 : Int) a1)) then (if (wrap64 ((wrap64 (Int.tdiv (wrap64 (-a0)) 2)) * a1)) = 4611686018427387904 then (some ((-9223372036854775808), true)) else (if (Int.tmod a1 2) = 0 then (if (wrap64 (-a0)) = 0 then (none) else (if (wrap64 (Int.tdiv a1 2)) ≤ (wrap64 (Int.tdiv (9223372036854775807 : Int) (wrap64 (-a0)))) then (if (wrap64 ((wrap64 (Int.tdiv a1 2)) * (wrap64 (-a0)))) = 4611686018427387904 then (some ((-9223372036854775808), true)) else (some (0, false))) else (some (0, false)))) else (some (0, false)))) else (if (Int.tmod a1 2) = 0 then (if (wrap64 (-a0)) = 0 then (none) else (if (wrap64 (Int.tdiv a1 2)) ≤ (wrap64 (Int.tdiv (9223372036854775807 : Int) (wrap64 (-a0)))) then (if (wrap64 ((wrap64 (Int.tdiv a1 2)) * (wrap64 (-a0)))) = 4611686018427387904 then (some ((-9223372036854775808), true)) else (some (0, false))) else (some (0, false)))) else (some (0, false)))) else (if (Int.tmod a1 2) = 0 then (if (wrap64 (-a0)) = 0 then (none) else (if (wrap64 (Int.tdiv a1 2)) ≤ (wrap64 (Int.tdiv (9223372036854775807 : Int) (wrap64 (-a0)))) then (if (wrap64 ((wrap64 (Int.tdiv a1 2)) * (wrap64 (-a0)))) = 4611686018427387904 then (some ((-9223372036854775808), true)) else (some (0, false))) else (some (0, false)))) else (some (0, false)))))) else (if a1 < 0 then (if (wrap64 (-a1)) = 0 then (none) else (if a0 ≤ (wrap64 (Int.tdiv (9223372036854775807 : Int) (wrap64 (-a1)))) then (some (wrap64 (-(wrap64 (a0 * (wrap64 (-a1))))), true)) else (if (Int.tmod a0 2) = 0 then (if (wrap64 (Int.tdiv a0 2)) ≤ (wrap64 (Int.tdiv (9223372036854775807 : Int) (wrap64 (-a1)))) then (if (wrap64 ((wrap64 (Int.tdiv a0 2)) * (wrap64 (-a1)))) = 4611686018427387904 then (some ((-9223372036854775808), true)) else (if (Int.tmod (wrap64 (-a1)) 2) = 0 then (if (wrap64 (Int.tdiv (wrap64 (-a1)) 2)) ≤ (wrap64 (Int.tdiv (9223372036854775807 : Int) a0)) then (if (wrap64 ((wrap64 (Int.tdiv (wrap64 (-a1)) 2)) * a0)) = 4611686018427387904 then (some ((-9223372036854775808), true)) else (some (0, false))) else (some (0, false))) else (some (0, false)))) else (if (Int.tmod (wrap64 (-a1)) 2) = 0 then (if (wrap64 (Int.tdiv (wrap64 (-a1)) 2)) ≤ (wrap64 (Int.tdiv (9223372036854775807 : Int) a0)) then (if (wrap64 ((wrap64 (Int.tdiv (wrap64 (-a1)) 2)) * a0)) = 4611686018427387904 then (some ((-9223372036854775808), true)) else (some (0, false))) else (some (0, false))) else (some (0, false)))) else (if (Int.tmod (wrap64 (-a1)) 2) = 0 then (if (wrap64 (Int.tdiv (wrap64 (-a1)) 2)) ≤ (wrap64 (Int.tdiv (9223372036854775807 : Int) a0)) then (if (wrap64 ((wrap64 (Int.tdiv (wrap64 (-a1)) 2)) * a0)) = 4611686018427387904 then (some ((-9223372036854775808), true)) else (some (0, false))) else (some (0, false))) else (some (0, false)))))) else (if a0 ≤ (wrap64 (Int.tdiv (9223372036854775807 : Int) a1)) then (some (wrap64 (a0 * a1), true)) else (some (0, false))))))))) = some (r1, r2) := h
  clear h
  by_cases c3 : a0 = 0
  · rw [if_pos c3] at H
    have c3b0 : (a0 == 0) = true := beq_iff_eq.mpr c3
    have c3b1 : (a0 != 0) = false := bne_eq_false_iff_eq.mpr c3
    clear c3
    simp only [Option.some.injEq, Prod.mk.injEq] at H
    obtain ⟨rfl, rfl⟩ := H
    go_enter Try.func21, Try.ntmps21
    go_wp2
    go_ret2
    exact ⟨by first | rfl | (simp; done) | (simp [*]; done), by repeat (first | exact Drawn0.refl _ | apply Drawn0.step)⟩
  · rw [if_neg c3] at H
    have c3b0 : (a0 == 0) = false := beq_eq_false_iff_ne.mpr c3
    have c3b1 : (a0 != 0) = true := bne_iff_ne.mpr c3
    by_cases c4 : a1 = 0
    · rw [if_pos c4] at H
      have c4b0 : (a1 == 0) = true := beq_iff_eq.mpr c4
      have c4b1 : (a1 != 0) = false := bne_eq_false_iff_eq.mpr c4
      clear c4
      simp only [Option.some.injEq, Prod.mk.injEq] at H
      obtain ⟨rfl, rfl⟩ := H
      go_enter Try.func21, Try.ntmps21
      go_wp2
      go_ret2
      exact ⟨by first | rfl | (simp; done) | (simp [*]; done), by repeat (first | exact Drawn0.refl _ | apply Drawn0.step)⟩
    · rw [if_neg c4] at H
      have c4b0 : (a1 == 0) = false := beq_eq_false_iff_ne.mpr c4
      have c4b1 : (a1 != 0) = true := bne_iff_ne.mpr c4
      by_cases c5 : a0 = (-9223372036854775808)
      · rw [if_pos c5] at H
        have c5b0 : (a0 == (-9223372036854775808)) = true := beq_iff_eq.mpr c5
        have c5b1 : (a0 != (-9223372036854775808)) = false := bne_eq_false_iff_eq.mpr c5
        clear c5
        by_cases c6 : a0 = 1
        · rw [if_pos c6] at H
          have c6b0 : (a0 == 1) = true := beq_iff_eq.mpr c6
          have c6b1 : (a0 != 1) = false := bne_eq_false_iff_eq.mpr c6
          clear c6
          simp only [Option.some.injEq, Prod.mk.injEq] at H
          obtain ⟨rfl, rfl⟩ := H
          go_enter Try.func21, Try.ntmps21
          go_wp2
          go_ret2
          exact ⟨by first | rfl | (simp; done) | (simp [*]; done), by repeat (first | exact Drawn0.refl _ | apply Drawn0.step)⟩
        · rw [if_neg c6] at H
          have c6b0 : (a0 == 1) = false := beq_eq_false_iff_ne.mpr c6
          have c6b1 : (a0 != 1) = true := bne_iff_ne.mpr c6
          by_cases c7 : a1 = 1
          · rw [if_pos c7] at H
            have c7b0 : (a1 == 1) = true := beq_iff_eq.mpr c7
            have c7b1 : (a1 != 1) = false := bne_eq_false_iff_eq.mpr c7
            clear c7
            simp only [Option.some.injEq, Prod.mk.injEq] at H
            obtain ⟨rfl, rfl⟩ := H
            go_enter Try.func21, Try.ntmps21
            go_wp2
            go_ret2
            exact ⟨by first | rfl | (simp; done) | (simp [*]; done), by repeat (first | exact Drawn0.refl _ | apply Drawn0.step)⟩
          · rw [if_neg c7] at H
            have c7b0 : (a1 == 1) = false := beq_eq_false_iff_ne.mpr c7
            have c7b1 : (a1 != 1) = true := bne_iff_ne.mpr c7
            simp only [Option.some.injEq, Prod.mk.injEq] at H
            obtain ⟨rfl, rfl⟩ := H
            go_enter Try.func21, Try.ntmps21
            go_wp2
            go_ret2
            exact ⟨by first | rfl | (simp; done) | (simp [*]; done), by repeat (first | exact Drawn0.refl _ | apply Drawn0.step)⟩
      · rw [if_neg c5] at H
        have c5b0 : (a0 == (-9223372036854775808)) = false := beq_eq_false_iff_ne.mpr c5
        have c5b1 : (a0 != (-9223372036854775808)) = true := bne_iff_ne.mpr c5
        by_cases c8 : a1 = (-9223372036854775808)
        · rw [if_pos c8] at H
          have c8b0 : (a1 == (-9223372036854775808)) = true := beq_iff_eq.mpr c8
          have c8b1 : (a1 != (-9223372036854775808)) = false := bne_eq_false_iff_eq.mpr c8
          clear c8
          by_cases c9 : a0 = 1
          · rw [if_pos c9] at H
            have c9b0 : (a0 == 1) = true := beq_iff_eq.mpr c9
            have c9b1 : (a0 != 1) = false := bne_eq_false_iff_eq.mpr c9
            clear c9
            simp only [Option.some.injEq, Prod.mk.injEq] at H
            obtain ⟨rfl, rfl⟩ := H
            go_enter Try.func21, Try.ntmps21
            go_wp2
            go_ret2
            exact ⟨by first | rfl | (simp; done) | (simp [*]; done), by repeat (first | exact Drawn0.refl _ | apply Drawn0.step)⟩
          · rw [if_neg c9] at H
            have c9b0 : (a0 == 1) = false := beq_eq_false_iff_ne.mpr c9
            have c9b1 : (a0 != 1) = true := bne_iff_ne.mpr c9
            by_cases c10 : a1 = 1
            · rw [if_pos c10] at H
              have c10b0 : (a1 == 1) = true := beq_iff_eq.mpr c10
              have c10b1 : (a1 != 1) = false := bne_eq_false_iff_eq.mpr c10
              clear c10
              simp only [Option.some.injEq, Prod.mk.injEq] at H
              obtain ⟨rfl, rfl⟩ := H
              go_enter Try.func21, Try.ntmps21
              go_wp2
              go_ret2
              exact ⟨by first | rfl | (simp; done) | (simp [*]; done), by repeat (first | exact Drawn0.refl _ | apply Drawn0.step)⟩
            · rw [if_neg c10] at H
              have c10b0 : (a1 == 1) = false := beq_eq_false_iff_ne.mpr c10
              have c10b1 : (a1 != 1) = true := bne_iff_ne.mpr c10
              simp only [Option.some.injEq, Prod.mk.injEq] at H
              obtain ⟨rfl, rfl⟩ := H
              go_enter Try.func21, Try.ntmps21
              go_wp2
              go_ret2
              exact ⟨by first | rfl | (simp; done) | (simp [*]; done), by repeat (first | exact Drawn0.refl _ | apply Drawn0.step)⟩
        · rw [if_neg c8] at H
          have c8b0 : (a1 == (-9223372036854775808)) = false := beq_eq_false_iff_ne.mpr c8
          have c8b1 : (a1 != (-9223372036854775808)) = true := bne_iff_ne.mpr c8
          by_cases c11 : a0 < 0
          · rw [if_pos c11] at H
            have c11b0 : decide (a0 < 0) = true := decide_eq_true c11
            clear c11
            by_cases c12 : a1 < 0
            · rw [if_pos c12] at H
              have c12b0 : decide (a1 < 0) = true := decide_eq_true c12
              clear c12
              by_cases c13 : (wrap64 (-a1)) = 0
              · rw [if_pos c13] at H
                exact absurd H (by simp)
              · rw [if_neg c13] at H
                have c13b0 : ((wrap64 (-a1)) == 0) = false := beq_eq_false_iff_ne.mpr c13
                have c13b1 : ((wrap64 (-a1)) != 0) = true := bne_iff_ne.mpr c13
                by_cases c14 : (wrap64 (-a0)) ≤ (wrap64 (Int.tdiv (9223372036854775807 : Int) (wrap64 (-a1))))
                · rw [if_pos c14] at H
                  have c14b0 : decide ((wrap64 (-a0)) ≤ (wrap64 (Int.tdiv (9223372036854775807 : Int) (wrap64 (-a1))))) = true := decide_eq_true c14
                  clear c14
                  simp only [Option.some.injEq, Prod.mk.injEq] at H
                  obtain ⟨rfl, rfl⟩ := H
                  go_enter Try.func21, Try.ntmps21
                  go_wp2
                  go_ret2
                  exact ⟨by first | rfl | (simp; done) | (simp [*]; done), by repeat (first | exact Drawn0.refl _ | apply Drawn0.step)⟩
                · rw [if_neg c14] at H
                  have c14b0 : decide ((wrap64 (-a0)) ≤ (wrap64 (Int.tdiv (9223372036854775807 : Int) (wrap64 (-a1))))) = false := decide_eq_false c14
                  clear c14
                  simp only [Option.some.injEq, Prod.mk.injEq] at H
                  obtain ⟨rfl, rfl⟩ := H
                  go_enter Try.func21, Try.ntmps21
                  go_wp2
                  go_ret2
                  exact ⟨by first | rfl | (simp; done) | (simp [*]; done), by repeat (first | exact Drawn0.refl _ | apply Drawn0.step)⟩
            · rw [if_neg c12] at H
              have c12b0 : decide (a1 < 0) = false := decide_eq_false c12
              clear c12
              by_cases c15 : (wrap64 (-a0)) ≤ (wrap64 (Int.tdiv (9223372036854775807 : Int) a1))
              · rw [if_pos c15] at H
                have c15b0 : decide ((wrap64 (-a0)) ≤ (wrap64 (Int.tdiv (9223372036854775807 : Int) a1))) = true := decide_eq_true c15
                clear c15
                simp only [Option.some.injEq, Prod.mk.injEq] at H
                obtain ⟨rfl, rfl⟩ := H
                go_enter Try.func21, Try.ntmps21
                go_wp2
                go_ret2
                exact ⟨by first | rfl | (simp; done) | (simp [*]; done), by repeat (first | exact Drawn0.refl _ | apply Drawn0.step)⟩
              · rw [if_neg c15] at H
                have c15b0 : decide ((wrap64 (-a0)) ≤ (wrap64 (Int.tdiv (9223372036854775807 : Int) a1))) = false := decide_eq_false c15
                clear c15
                by_cases c16 : (Int.tmod (wrap64 (-a0)) 2) = 0
                · rw [if_pos c16] at H
                  have c16b0 : ((Int.tmod (wrap64 (-a0)) 2) == 0) = true := beq_iff_eq.mpr c16
                  have c16b1 : ((Int.tmod (wrap64 (-a0)) 2) != 0) = false := bne_eq_false_iff_eq.mpr c16
                  clear c16
                  by_cases c17 : (wrap64 (Int.tdiv (wrap64 (-a0)) 2)) ≤ (wrap64 (Int.tdiv (9223372036854775807 : Int) a1))
                  · rw [if_pos c17] at H
                    have c17b0 : decide ((wrap64 (Int.tdiv (wrap64 (-a0)) 2)) ≤ (wrap64 (Int.tdiv (9223372036854775807 : Int) a1))) = true := decide_eq_true c17
                    clear c17
                    by_cases c18 : (wrap64 ((wrap64 (Int.tdiv (wrap64 (-a0)) 2)) * a1)) = 4611686018427387904
                    · rw [if_pos c18] at H
                      have c18b0 : ((wrap64 ((wrap64 (Int.tdiv (wrap64 (-a0)) 2)) * a1)) == 4611686018427387904) = true := beq_iff_eq.mpr c18
                      have c18b1 : ((wrap64 ((wrap64 (Int.tdiv (wrap64 (-a0)) 2)) * a1)) != 4611686018427387904) = false := bne_eq_false_iff_eq.mpr c18
                      clear c18
                      simp only [Option.some.injEq, Prod.mk.injEq] at H
                      obtain ⟨rfl, rfl⟩ := H
                      go_enter Try.func21, Try.ntmps21
                      go_wp2
                      go_ret2
                      exact ⟨by first | rfl | (simp; done) | (simp [*]; done), by repeat (first | exact Drawn0.refl _ | apply Drawn0.step)⟩
                    · rw [if_neg c18] at H
                      have c18b0 : ((wrap64 ((wrap64 (Int.tdiv (wrap64 (-a0)) 2)) * a1)) == 4611686018427387904) = false := beq_eq_false_iff_ne.mpr c18
                      have c18b1 : ((wrap64 ((wrap64 (Int.tdiv (wrap64 (-a0)) 2)) * a1)) != 4611686018427387904) = true := bne_iff_ne.mpr c18
                      by_cases c19 : (Int.tmod a1 2) = 0
                      · rw [if_pos c19] at H
                        have c19b0 : ((Int.tmod a1 2) == 0) = true := beq_iff_eq.mpr c19
                        have c19b1 : ((Int.tmod a1 2) != 0) = false := bne_eq_false_iff_eq.mpr c19
                        clear c19
                        by_cases c20 : (wrap64 (-a0)) = 0
                        · rw [if_pos c20] at H
                          exact absurd H (by simp)
                        · rw [if_neg c20] at H
                          have c20b0 : ((wrap64 (-a0)) == 0) = false := beq_eq_false_iff_ne.mpr c20
                          have c20b1 : ((wrap64 (-a0)) != 0) = true := bne_iff_ne.mpr c20
                          by_cases c21 : (wrap64 (Int.tdiv a1 2)) ≤ (wrap64 (Int.tdiv (9223372036854775807 : Int) (wrap64 (-a0))))
                          · rw [if_pos c21] at H
                            have c21b0 : decide ((wrap64 (Int.tdiv a1 2)) ≤ (wrap64 (Int.tdiv (9223372036854775807 : Int) (wrap64 (-a0))))) = true := decide_eq_true c21
                            clear c21
                            by_cases c22 : (wrap64 ((wrap64 (Int.tdiv a1 2)) * (wrap64 (-a0)))) = 4611686018427387904
                            · rw [if_pos c22] at H
                              have c22b0 : ((wrap64 ((wrap64 (Int.tdiv a1 2)) * (wrap64 (-a0)))) == 4611686018427387904) = true := beq_iff_eq.mpr c22
                              have c22b1 : ((wrap64 ((wrap64 (Int.tdiv a1 2)) * (wrap64 (-a0)))) != 4611686018427387904) = false := bne_eq_false_iff_eq.mpr c22
                              clear c22
                              simp only [Option.some.injEq, Prod.mk.injEq] at H
                              obtain ⟨rfl, rfl⟩ := H
                              go_enter Try.func21, Try.ntmps21
                              go_wp2
                              go_ret2
                              exact ⟨by first | rfl | (simp; done) | (simp [*]; done), by repeat (first | exact Drawn0.refl _ | apply Drawn0.step)⟩
                            · rw [if_neg c22] at H
                              have c22b0 : ((wrap64 ((wrap64 (Int.tdiv a1 2)) * (wrap64 (-a0)))) == 4611686018427387904) = false := beq_eq_false_iff_ne.mpr c22
                              have c22b1 : ((wrap64 ((wrap64 (Int.tdiv a1 2)) * (wrap64 (-a0)))) != 4611686018427387904) = true := bne_iff_ne.mpr c22
                              simp only [Option.some.injEq, Prod.mk.injEq] at H
                              obtain ⟨rfl, rfl⟩ := H
                              go_enter Try.func21, Try.ntmps21
                              go_wp2
                              go_ret2
                              exact ⟨by first | rfl | (simp; done) | (simp [*]; done), by repeat (first | exact Drawn0.refl _ | apply Drawn0.step)⟩
                          · rw [if_neg c21] at H
                            have c21b0 : decide ((wrap64 (Int.tdiv a1 2)) ≤ (wrap64 (Int.tdiv (9223372036854775807 : Int) (wrap64 (-a0))))) = false := decide_eq_false c21
                            clear c21
                            simp only [Option.some.injEq, Prod.mk.injEq] at H
                            obtain ⟨rfl, rfl⟩ := H
                            go_enter Try.func21, Try.ntmps21
                            go_wp2
                            go_ret2
                            exact ⟨by first | rfl | (simp; done) | (simp [*]; done), by repeat (first | exact Drawn0.refl _ | apply Drawn0.step)⟩
                      · rw [if_neg c19] at H
                        have c19b0 : ((Int.tmod a1 2) == 0) = false := beq_eq_false_iff_ne.mpr c19
                        have c19b1 : ((Int.tmod a1 2) != 0) = true := bne_iff_ne.mpr c19
                        simp only [Option.some.injEq, Prod.mk.injEq] at H
                        obtain ⟨rfl, rfl⟩ := H
                        go_enter Try.func21, Try.ntmps21
                        go_wp2
                        go_ret2
                        exact ⟨by first | rfl | (simp; done) | (simp [*]; done), by repeat (first | exact Drawn0.refl _ | apply Drawn0.step)⟩
                  · rw [if_neg c17] at H
                    have c17b0 : decide ((wrap64 (Int.tdiv (wrap64 (-a0)) 2)) ≤ (wrap64 (Int.tdiv (9223372036854775807 : Int) a1))) = false := decide_eq_false c17
                    clear c17
                    by_cases c23 : (Int.tmod a1 2) = 0
                    · rw [if_pos c23] at H
                      have c23b0 : ((Int.tmod a1 2) == 0) = true := beq_iff_eq.mpr c23
                      have c23b1 : ((Int.tmod a1 2) != 0) = false := bne_eq_false_iff_eq.mpr c23
                      clear c23
                      by_cases c24 : (wrap64 (-a0)) = 0
                      · rw [if_pos c24] at H
                        exact absurd H (by simp)
                      · rw [if_neg c24] at H
                        have c24b0 : ((wrap64 (-a0)) == 0) = false := beq_eq_false_iff_ne.mpr c24
                        have c24b1 : ((wrap64 (-a0)) != 0) = true := bne_iff_ne.mpr c24
                        by_cases c25 : (wrap64 (Int.tdiv a1 2)) ≤ (wrap64 (Int.tdiv (9223372036854775807 : Int) (wrap64 (-a0))))
                        · rw [if_pos c25] at H
                          have c25b0 : decide ((wrap64 (Int.tdiv a1 2)) ≤ (wrap64 (Int.tdiv (9223372036854775807 : Int) (wrap64 (-a0))))) = true := decide_eq_true c25
                          clear c25
                          by_cases c26 : (wrap64 ((wrap64 (Int.tdiv a1 2)) * (wrap64 (-a0)))) = 4611686018427387904
                          · rw [if_pos c26] at H
                            have c26b0 : ((wrap64 ((wrap64 (Int.tdiv a1 2)) * (wrap64 (-a0)))) == 4611686018427387904) = true := beq_iff_eq.mpr c26
                            have c26b1 : ((wrap64 ((wrap64 (Int.tdiv a1 2)) * (wrap64 (-a0)))) != 4611686018427387904) = false := bne_eq_false_iff_eq.mpr c26
                            clear c26
                            simp only [Option.some.injEq, Prod.mk.injEq] at H
                            obtain ⟨rfl, rfl⟩ := H
                            go_enter Try.func21, Try.ntmps21
                            go_wp2
                            go_ret2
                            exact ⟨by first | rfl | (simp; done) | (simp [*]; done), by repeat (first | exact Drawn0.refl _ | apply Drawn0.step)⟩
                          · rw [if_neg c26] at H
                            have c26b0 : ((wrap64 ((wrap64 (Int.tdiv a1 2)) * (wrap64 (-a0)))) == 4611686018427387904) = false := beq_eq_false_iff_ne.mpr c26
                            have c26b1 : ((wrap64 ((wrap64 (Int.tdiv a1 2)) * (wrap64 (-a0)))) != 4611686018427387904) = true := bne_iff_ne.mpr c26
                            simp only [Option.some.injEq, Prod.mk.injEq] at H
                            obtain ⟨rfl, rfl⟩ := H
                            go_enter Try.func21, Try.ntmps21
                            go_wp2
                            go_ret2
                            exact ⟨by first | rfl | (simp; done) | (simp [*]; done), by repeat (first | exact Drawn0.refl _ | apply Drawn0.step)⟩
                        · rw [if_neg c25] at H
                          have c25b0 : decide ((wrap64 (Int.tdiv a1 2)) ≤ (wrap64 (Int.tdiv (9223372036854775807 : Int) (wrap64 (-a0))))) = false := decide_eq_false c25
                          clear c25
                          simp only [Option.some.injEq, Prod.mk.injEq] at H
                          obtain ⟨rfl, rfl⟩ := H
                          go_enter Try.func21, Try.ntmps21
                          go_wp2
                          go_ret2
                          exact ⟨by first | rfl | (simp; done) | (simp [*]; done), by repeat (first | exact Drawn0.refl _ | apply Drawn0.step)⟩
                    · rw [if_neg c23] at H
                      have c23b0 : ((Int.tmod a1 2) == 0) = false := beq_eq_false_iff_ne.mpr c23
                      have c23b1 : ((Int.tmod a1 2) != 0) = true := bne_iff_ne.mpr c23
                      simp only [Option.some.injEq, Prod.mk.injEq] at H
                      obtain ⟨rfl, rfl⟩ := H
                      go_enter Try.func21, Try.ntmps21
                      go_wp2
                      go_ret2
                      exact ⟨by first | rfl | (simp; done) | (simp [*]; done), by repeat (first | exact Drawn0.refl _ | apply Drawn0.step)⟩
                · rw [if_neg c16] at H
                  have c16b0 : ((Int.tmod (wrap64 (-a0)) 2) == 0) = false := beq_eq_false_iff_ne.mpr c16
                  have c16b1 : ((Int.tmod (wrap64 (-a0)) 2) != 0) = true := bne_iff_ne.mpr c16
                  by_cases c27 : (Int.tmod a1 2) = 0
                  · rw [if_pos c27] at H
                    have c27b0 : ((Int.tmod a1 2) == 0) = true := beq_iff_eq.mpr c27
                    have c27b1 : ((Int.tmod a1 2) != 0) = false := bne_eq_false_iff_eq.mpr c27
                    clear c27
                    by_cases c28 : (wrap64 (-a0)) = 0
                    · rw [if_pos c28] at H
                      exact absurd H (by simp)
                    · rw [if_neg c28] at H
                      have c28b0 : ((wrap64 (-a0)) == 0) = false := beq_eq_false_iff_ne.mpr c28
                      have c28b1 : ((wrap64 (-a0)) != 0) = true := bne_iff_ne.mpr c28
                      by_cases c29 : (wrap64 (Int.tdiv a1 2)) ≤ (wrap64 (Int.tdiv (9223372036854775807 : Int) (wrap64 (-a0))))
                      · rw [if_pos c29] at H
                        have c29b0 : decide ((wrap64 (Int.tdiv a1 2)) ≤ (wrap64 (Int.tdiv (9223372036854775807 : Int) (wrap64 (-a0))))) = true := decide_eq_true c29
                        clear c29
                        by_cases c30 : (wrap64 ((wrap64 (Int.tdiv a1 2)) * (wrap64 (-a0)))) = 4611686018427387904
                        · rw [if_pos c30] at H
                          have c30b0 : ((wrap64 ((wrap64 (Int.tdiv a1 2)) * (wrap64 (-a0)))) == 4611686018427387904) = true := beq_iff_eq.mpr c30
                          have c30b1 : ((wrap64 ((wrap64 (Int.tdiv a1 2)) * (wrap64 (-a0)))) != 4611686018427387904) = false := bne_eq_false_iff_eq.mpr c30
                          clear c30
                          simp only [Option.some.injEq, Prod.mk.injEq] at H
                          obtain ⟨rfl, rfl⟩ := H
                          go_enter Try.func21, Try.ntmps21
                          go_wp2
                          go_ret2
                          exact ⟨by first | rfl | (simp; done) | (simp [*]; done), by repeat (first | exact Drawn0.refl _ | apply Drawn0.step)⟩
                        · rw [if_neg c30] at H
                          have c30b0 : ((wrap64 ((wrap64 (Int.tdiv a1 2)) * (wrap64 (-a0)))) == 4611686018427387904) = false := beq_eq_false_iff_ne.mpr c30
                          have c30b1 : ((wrap64 ((wrap64 (Int.tdiv a1 2)) * (wrap64 (-a0)))) != 4611686018427387904) = true := bne_iff_ne.mpr c30
                          simp only [Option.some.injEq, Prod.mk.injEq] at H
                          obtain ⟨rfl, rfl⟩ := H
                          go_enter Try.func21, Try.ntmps21
                          go_wp2
                          go_ret2
                          exact ⟨by first | rfl | (simp; done) | (simp [*]; done), by repeat (first | exact Drawn0.refl _ | apply Drawn0.step)⟩
                      · rw [if_neg c29] at H
                        have c29b0 : decide ((wrap64 (Int.tdiv a1 2)) ≤ (wrap64 (Int.tdiv (9223372036854775807 : Int) (wrap64 (-a0))))) = false := decide_eq_false c29
                        clear c29
                        simp only [Option.some.injEq, Prod.mk.injEq] at H
                        obtain ⟨rfl, rfl⟩ := H
                        go_enter Try.func21, Try.ntmps21
                        go_wp2
                        go_ret2
                        exact ⟨by first | rfl | (simp; done) | (simp [*]; done), by repeat (first | exact Drawn0.refl _ | apply Drawn0.step)⟩
                  · rw [if_neg c27] at H
                    have c27b0 : ((Int.tmod a1 2) == 0) = false := beq_eq_false_iff_ne.mpr c27
                    have c27b1 : ((Int.tmod a1 2) != 0) = true := bne_iff_ne.mpr c27
                    simp only [Option.some.injEq, Prod.mk.injEq] at H
                    obtain ⟨rfl, rfl⟩ := H
                    go_enter Try.func21, Try.ntmps21
                    go_wp2
                    go_ret2
                    exact ⟨by first | rfl | (simp; done) | (simp [*]; done), by repeat (first | exact Drawn0.refl _ | apply Drawn0.step)⟩
          · rw [if_neg c11] at H
            have c11b0 : decide (a0 < 0) = false := decide_eq_false c11
            clear c11
            by_cases c31 : a1 < 0
            · rw [if_pos c31] at H
              have c31b0 : decide (a1 < 0) = true := decide_eq_true c31
              clear c31
              by_cases c32 : (wrap64 (-a1)) = 0
              · rw [if_pos c32] at H
                exact absurd H (by simp)
              · rw [if_neg c32] at H
                have c32b0 : ((wrap64 (-a1)) == 0) = false := beq_eq_false_iff_ne.mpr c32
                have c32b1 : ((wrap64 (-a1)) != 0) = true := bne_iff_ne.mpr c32
                by_cases c33 : a0 ≤ (wrap64 (Int.tdiv (9223372036854775807 : Int) (wrap64 (-a1))))
                · rw [if_pos c33] at H
                  have c33b0 : decide (a0 ≤ (wrap64 (Int.tdiv (9223372036854775807 : Int) (wrap64 (-a1))))) = true := decide_eq_true c33
                  clear c33
                  simp only [Option.some.injEq, Prod.mk.injEq] at H
                  obtain ⟨rfl, rfl⟩ := H
                  go_enter Try.func21, Try.ntmps21
                  go_wp2
                  go_ret2
                  exact ⟨by first | rfl | (simp; done) | (simp [*]; done), by repeat (first | exact Drawn0.refl _ | apply Drawn0.step)⟩
                · rw [if_neg c33] at H
                  have c33b0 : decide (a0 ≤ (wrap64 (Int.tdiv (9223372036854775807 : Int) (wrap64 (-a1))))) = false := decide_eq_false c33
                  clear c33
                  by_cases c34 : (Int.tmod a0 2) = 0
                  · rw [if_pos c34] at H
                    have c34b0 : ((Int.tmod a0 2) == 0) = true := beq_iff_eq.mpr c34
                    have c34b1 : ((Int.tmod a0 2) != 0) = false := bne_eq_false_iff_eq.mpr c34
                    clear c34
                    by_cases c35 : (wrap64 (Int.tdiv a0 2)) ≤ (wrap64 (Int.tdiv (9223372036854775807 : Int) (wrap64 (-a1))))
                    · rw [if_pos c35] at H
                      have c35b0 : decide ((wrap64 (Int.tdiv a0 2)) ≤ (wrap64 (Int.tdiv (9223372036854775807 : Int) (wrap64 (-a1))))) = true := decide_eq_true c35
                      clear c35
                      by_cases c36 : (wrap64 ((wrap64 (Int.tdiv a0 2)) * (wrap64 (-a1)))) = 4611686018427387904
                      · rw [if_pos c36] at H
                        have c36b0 : ((wrap64 ((wrap64 (Int.tdiv a0 2)) * (wrap64 (-a1)))) == 4611686018427387904) = true := beq_iff_eq.mpr c36
                        have c36b1 : ((wrap64 ((wrap64 (Int.tdiv a0 2)) * (wrap64 (-a1)))) != 4611686018427387904) = false := bne_eq_false_iff_eq.mpr c36
                        clear c36
                        simp only [Option.some.injEq, Prod.mk.injEq] at H
                        obtain ⟨rfl, rfl⟩ := H
                        go_enter Try.func21, Try.ntmps21
                        go_wp2
                        go_ret2
                        exact ⟨by first | rfl | (simp; done) | (simp [*]; done), by repeat (first | exact Drawn0.refl _ | apply Drawn0.step)⟩
                      · rw [if_neg c36] at H
                        have c36b0 : ((wrap64 ((wrap64 (Int.tdiv a0 2)) * (wrap64 (-a1)))) == 4611686018427387904) = false := beq_eq_false_iff_ne.mpr c36
                        have c36b1 : ((wrap64 ((wrap64 (Int.tdiv a0 2)) * (wrap64 (-a1)))) != 4611686018427387904) = true := bne_iff_ne.mpr c36
                        by_cases c37 : (Int.tmod (wrap64 (-a1)) 2) = 0
                        · rw [if_pos c37] at H
                          have c37b0 : ((Int.tmod (wrap64 (-a1)) 2) == 0) = true := beq_iff_eq.mpr c37
                          have c37b1 : ((Int.tmod (wrap64 (-a1)) 2) != 0) = false := bne_eq_false_iff_eq.mpr c37
                          clear c37
                          by_cases c38 : (wrap64 (Int.tdiv (wrap64 (-a1)) 2)) ≤ (wrap64 (Int.tdiv (9223372036854775807 : Int) a0))
                          · rw [if_pos c38] at H
                            have c38b0 : decide ((wrap64 (Int.tdiv (wrap64 (-a1)) 2)) ≤ (wrap64 (Int.tdiv (9223372036854775807 : Int) a0))) = true := decide_eq_true c38
                            clear c38
                            by_cases c39 : (wrap64 ((wrap64 (Int.tdiv (wrap64 (-a1)) 2)) * a0)) = 4611686018427387904
                            · rw [if_pos c39] at H
                              have c39b0 : ((wrap64 ((wrap64 (Int.tdiv (wrap64 (-a1)) 2)) * a0)) == 4611686018427387904) = true := beq_iff_eq.mpr c39
                              have c39b1 : ((wrap64 ((wrap64 (Int.tdiv (wrap64 (-a1)) 2)) * a0)) != 4611686018427387904) = false := bne_eq_false_iff_eq.mpr c39
                              clear c39
                              simp only [Option.some.injEq, Prod.mk.injEq] at H
                              obtain ⟨rfl, rfl⟩ := H
                              go_enter Try.func21, Try.ntmps21
                              go_wp2
                              go_ret2
                              exact ⟨by first | rfl | (simp; done) | (simp [*]; done), by repeat (first | exact Drawn0.refl _ | apply Drawn0.step)⟩
                            · rw [if_neg c39] at H
                              have c39b0 : ((wrap64 ((wrap64 (Int.tdiv (wrap64 (-a1)) 2)) * a0)) == 4611686018427387904) = false := beq_eq_false_iff_ne.mpr c39
                              have c39b1 : ((wrap64 ((wrap64 (Int.tdiv (wrap64 (-a1)) 2)) * a0)) != 4611686018427387904) = true := bne_iff_ne.mpr c39
                              simp only [Option.some.injEq, Prod.mk.injEq] at H
                              obtain ⟨rfl, rfl⟩ := H
                              go_enter Try.func21, Try.ntmps21
                              go_wp2
                              go_ret2
                              exact ⟨by first | rfl | (simp; done) | (simp [*]; done), by repeat (first | exact Drawn0.refl _ | apply Drawn0.step)⟩
                          · rw [if_neg c38] at H
                            have c38b0 : decide ((wrap64 (Int.tdiv (wrap64 (-a1)) 2)) ≤ (wrap64 (Int.tdiv (9223372036854775807 : Int) a0))) = false := decide_eq_false c38
                            clear c38
                            simp only [Option.some.injEq, Prod.mk.injEq] at H
                            obtain ⟨rfl, rfl⟩ := H
                            go_enter Try.func21, Try.ntmps21
                            go_wp2
                            go_ret2
                            exact ⟨by first | rfl | (simp; done) | (simp [*]; done), by repeat (first | exact Drawn0.refl _ | apply Drawn0.step)⟩
                        · rw [if_neg c37] at H
                          have c37b0 : ((Int.tmod (wrap64 (-a1)) 2) == 0) = false := beq_eq_false_iff_ne.mpr c37
                          have c37b1 : ((Int.tmod (wrap64 (-a1)) 2) != 0) = true := bne_iff_ne.mpr c37
                          simp only [Option.some.injEq, Prod.mk.injEq] at H
                          obtain ⟨rfl, rfl⟩ := H
                          go_enter Try.func21, Try.ntmps21
                          go_wp2
                          go_ret2
                          exact ⟨by first | rfl | (simp; done) | (simp [*]; done), by repeat (first | exact Drawn0.refl _ | apply Drawn0.step)⟩
                    · rw [if_neg c35] at H
                      have c35b0 : decide ((wrap64 (Int.tdiv a0 2)) ≤ (wrap64 (Int.tdiv (9223372036854775807 : Int) (wrap64 (-a1))))) = false := decide_eq_false c35
                      clear c35
                      by_cases c40 : (Int.tmod (wrap64 (-a1)) 2) = 0
                      · rw [if_pos c40] at H
                        have c40b0 : ((Int.tmod (wrap64 (-a1)) 2) == 0) = true := beq_iff_eq.mpr c40
                        have c40b1 : ((Int.tmod (wrap64 (-a1)) 2) != 0) = false := bne_eq_false_iff_eq.mpr c40
                        clear c40
                        by_cases c41 : (wrap64 (Int.tdiv (wrap64 (-a1)) 2)) ≤ (wrap64 (Int.tdiv (9223372036854775807 : Int) a0))
                        · rw [if_pos c41] at H
                          have c41b0 : decide ((wrap64 (Int.tdiv (wrap64 (-a1)) 2)) ≤ (wrap64 (Int.tdiv (9223372036854775807 : Int) a0))) = true := decide_eq_true c41
                          clear c41
                          by_cases c42 : (wrap64 ((wrap64 (Int.tdiv (wrap64 (-a1)) 2)) * a0)) = 4611686018427387904
                          · rw [if_pos c42] at H
                            have c42b0 : ((wrap64 ((wrap64 (Int.tdiv (wrap64 (-a1)) 2)) * a0)) == 4611686018427387904) = true := beq_iff_eq.mpr c42
                            have c42b1 : ((wrap64 ((wrap64 (Int.tdiv (wrap64 (-a1)) 2)) * a0)) != 4611686018427387904) = false := bne_eq_false_iff_eq.mpr c42
                            clear c42
                            simp only [Option.some.injEq, Prod.mk.injEq] at H
                            obtain ⟨rfl, rfl⟩ := H
                            go_enter Try.func21, Try.ntmps21
                            go_wp2
                            go_ret2
                            exact ⟨by first | rfl | (simp; done) | (simp [*]; done), by repeat (first | exact Drawn0.refl _ | apply Drawn0.step)⟩
                          · rw [if_neg c42] at H
                            have c42b0 : ((wrap64 ((wrap64 (Int.tdiv (wrap64 (-a1)) 2)) * a0)) == 4611686018427387904) = false := beq_eq_false_iff_ne.mpr c42
                            have c42b1 : ((wrap64 ((wrap64 (Int.tdiv (wrap64 (-a1)) 2)) * a0)) != 4611686018427387904) = true := bne_iff_ne.mpr c42
                            simp only [Option.some.injEq, Prod.mk.injEq] at H
                            obtain ⟨rfl, rfl⟩ := H
                            go_enter Try.func21, Try.ntmps21
                            go_wp2
                            go_ret2
                            exact ⟨by first | rfl | (simp; done) | (simp [*]; done), by repeat (first | exact Drawn0.refl _ | apply Drawn0.step)⟩
                        · rw [if_neg c41] at H
                          have c41b0 : decide ((wrap64 (Int.tdiv (wrap64 (-a1)) 2)) ≤ (wrap64 (Int.tdiv (9223372036854775807 : Int) a0))) = false := decide_eq_false c41
                          clear c41
                          simp only [Option.some.injEq, Prod.mk.injEq] at H
                          obtain ⟨rfl, rfl⟩ := H
                          go_enter Try.func21, Try.ntmps21
                          go_wp2
                          go_ret2
                          exact ⟨by first | rfl | (simp; done) | (simp [*]; done), by repeat (first | exact Drawn0.refl _ | apply Drawn0.step)⟩
                      · rw [if_neg c40] at H
                        have c40b0 : ((Int.tmod (wrap64 (-a1)) 2) == 0) = false := beq_eq_false_iff_ne.mpr c40
                        have c40b1 : ((Int.tmod (wrap64 (-a1)) 2) != 0) = true := bne_iff_ne.mpr c40
                        simp only [Option.some.injEq, Prod.mk.injEq] at H
                        obtain ⟨rfl, rfl⟩ := H
                        go_enter Try.func21, Try.ntmps21
                        go_wp2
                        go_ret2
                        exact ⟨by first | rfl | (simp; done) | (simp [*]; done), by repeat (first | exact Drawn0.refl _ | apply Drawn0.step)⟩
                  · rw [if_neg c34] at H
                    have c34b0 : ((Int.tmod a0 2) == 0) = false := beq_eq_false_iff_ne.mpr c34
                    have c34b1 : ((Int.tmod a0 2) != 0) = true := bne_iff_ne.mpr c34
                    by_cases c43 : (Int.tmod (wrap64 (-a1)) 2) = 0
                    · rw [if_pos c43] at H
                      have c43b0 : ((Int.tmod (wrap64 (-a1)) 2) == 0) = true := beq_iff_eq.mpr c43
                      have c43b1 : ((Int.tmod (wrap64 (-a1)) 2) != 0) = false := bne_eq_false_iff_eq.mpr c43
                      clear c43
                      by_cases c44 : (wrap64 (Int.tdiv (wrap64 (-a1)) 2)) ≤ (wrap64 (Int.tdiv (9223372036854775807 : Int) a0))
                      · rw [if_pos c44] at H
                        have c44b0 : decide ((wrap64 (Int.tdiv (wrap64 (-a1)) 2)) ≤ (wrap64 (Int.tdiv (9223372036854775807 : Int) a0))) = true := decide_eq_true c44
                        clear c44
                        by_cases c45 : (wrap64 ((wrap64 (Int.tdiv (wrap64 (-a1)) 2)) * a0)) = 4611686018427387904
                        · rw [if_pos c45] at H
                          have c45b0 : ((wrap64 ((wrap64 (Int.tdiv (wrap64 (-a1)) 2)) * a0)) == 4611686018427387904) = true := beq_iff_eq.mpr c45
                          have c45b1 : ((wrap64 ((wrap64 (Int.tdiv (wrap64 (-a1)) 2)) * a0)) != 4611686018427387904) = false := bne_eq_false_iff_eq.mpr c45
                          clear c45
                          simp only [Option.some.injEq, Prod.mk.injEq] at H
                          obtain ⟨rfl, rfl⟩ := H
                          go_enter Try.func21, Try.ntmps21
                          go_wp2
                          go_ret2
                          exact ⟨by first | rfl | (simp; done) | (simp [*]; done), by repeat (first | exact Drawn0.refl _ | apply Drawn0.step)⟩
                        · rw [if_neg c45] at H
                          have c45b0 : ((wrap64 ((wrap64 (Int.tdiv (wrap64 (-a1)) 2)) * a0)) == 4611686018427387904) = false := beq_eq_false_iff_ne.mpr c45
                          have c45b1 : ((wrap64 ((wrap64 (Int.tdiv (wrap64 (-a1)) 2)) * a0)) != 4611686018427387904) = true := bne_iff_ne.mpr c45
                          simp only [Option.some.injEq, Prod.mk.injEq] at H
                          obtain ⟨rfl, rfl⟩ := H
                          go_enter Try.func21, Try.ntmps21
                          go_wp2
                          go_ret2
                          exact ⟨by first | rfl | (simp; done) | (simp [*]; done), by repeat (first | exact Drawn0.refl _ | apply Drawn0.step)⟩
                      · rw [if_neg c44] at H
                        have c44b0 : decide ((wrap64 (Int.tdiv (wrap64 (-a1)) 2)) ≤ (wrap64 (Int.tdiv (9223372036854775807 : Int) a0))) = false := decide_eq_false c44
                        clear c44
                        simp only [Option.some.injEq, Prod.mk.injEq] at H
                        obtain ⟨rfl, rfl⟩ := H
                        go_enter Try.func21, Try.ntmps21
                        go_wp2
                        go_ret2
                        exact ⟨by first | rfl | (simp; done) | (simp [*]; done), by repeat (first | exact Drawn0.refl _ | apply Drawn0.step)⟩
                    · rw [if_neg c43] at H
                      have c43b0 : ((Int.tmod (wrap64 (-a1)) 2) == 0) = false := beq_eq_false_iff_ne.mpr c43
                      have c43b1 : ((Int.tmod (wrap64 (-a1)) 2) != 0) = true := bne_iff_ne.mpr c43
                      simp only [Option.some.injEq, Prod.mk.injEq] at H
                      obtain ⟨rfl, rfl⟩ := H
                      go_enter Try.func21, Try.ntmps21
                      go_wp2
                      go_ret2
                      exact ⟨by first | rfl | (simp; done) | (simp [*]; done), by repeat (first | exact Drawn0.refl _ | apply Drawn0.step)⟩
            · rw [if_neg c31] at H
              have c31b0 : decide (a1 < 0) = false := decide_eq_false c31
              clear c31
              by_cases c46 : a0 ≤ (wrap64 (Int.tdiv (9223372036854775807 : Int) a1))
              · rw [if_pos c46] at H
                have c46b0 : decide (a0 ≤ (wrap64 (Int.tdiv (9223372036854775807 : Int) a1))) = true := decide_eq_true c46
                clear c46
                simp only [Option.some.injEq, Prod.mk.injEq] at H
                obtain ⟨rfl, rfl⟩ := H
                go_enter Try.func21, Try.ntmps21
                go_wp2
                go_ret2
                exact ⟨by first | rfl | (simp; done) | (simp [*]; done), by repeat (first | exact Drawn0.refl _ | apply Drawn0.step)⟩
              · rw [if_neg c46] at H
                have c46b0 : decide (a0 ≤ (wrap64 (Int.tdiv (9223372036854775807 : Int) a1))) = false := decide_eq_false c46
                clear c46
                simp only [Option.some.injEq, Prod.mk.injEq] at H
                obtain ⟨rfl, rfl⟩ := H
                go_enter Try.func21, Try.ntmps21
                go_wp2
                go_ret2
                exact ⟨by first | rfl | (simp; done) | (simp [*]; done), by repeat (first | exact Drawn0.refl _ | apply Drawn0.step)⟩

/-! ### marblerunlaw01_WholeMuls: function 7 -/
def marblerunlaw01_WholeMuls.f (k : Nat) (a0 : Int) (a1 : Int) : Option (Bool) := (whole_Mul.f k a0 a1).bind fun bt123 => ((marblerunref01_Mul.f a0 a1).bind fun bt125 => ((whole_Mul.f k a1 a0).bind fun bt127 => ((marblerunlaw01_awake.f k).bind fun t129 => (if t129 = true then (if bt123.1 = bt125.1 then (if (bt123.2 == bt125.2) = true then (if bt127.1 = bt123.1 then (some (bt127.2 == bt123.2)) else (some false)) else (some false)) else (some false)) else (some false)))))
theorem marblerunlaw01_WholeMuls.mono : ∀ a0 a1 k, LeO (marblerunlaw01_WholeMuls.f k a0 a1) (marblerunlaw01_WholeMuls.f (k + 1) a0 a1) := by
  intro a0 a1 k
  unfold marblerunlaw01_WholeMuls.f
  repeat' first
      | (with_reducible exact marblerunlaw01_awake.mono _)
      | (with_reducible exact whole_Mul.mono _ _ _)
      | (with_reducible exact LeO.refl _)
      | (with_reducible exact LeO.none _)
      | (with_reducible refine LeO.ite ?_ ?_)
      | (with_reducible refine LeO.bind ?_ (fun _ => ?_))
      | exact marblerunlaw01_awake.mono _
      | exact whole_Mul.mono _ _ _
      | exact LeO.none _
      | refine LeO.ite ?_ ?_
      | refine LeO.bind ?_ (fun _ => ?_)
set_option maxHeartbeats 8000000 in
set_option maxRecDepth 100000 in
theorem marblerunlaw01_WholeMuls.calls (k : Nat) (a0 : Int) (a1 : Int) (r : Bool) (w : World) (h : marblerunlaw01_WholeMuls.f k a0 a1 = some r) :
    Calls Try.prog 7 #[.int .i64 a0, .int .i64 a1] w fun e w' => e = .returned (.bool r) ∧ Below w.heap.size w w' := by
  have HB := Aside0.mk (Below.refl w.heap.size w)
  have H : ((whole_Mul.f k a0 a1).bind fun bt123 => ((marblerunref01_Mul.f a0 a1).bind fun bt125 => ((whole_Mul.f k a1 a0).bind fun bt127 => ((marblerunlaw01_awake.f k).bind fun t129 => (if t129 = true then (if bt123.1 = bt125.1 then (if (bt123.2 == bt125.2) = true then (if bt127.1 = bt123.1 then (some (bt127.2 == bt123.2)) else (some false)) else (some false)) else (some false)) else (some false)))))) = some r := h
  clear h
  replace H := Option.bind_eq_some_iff.mp H
  obtain ⟨⟨t123, t124⟩, A30, H⟩ := H
  replace H : ((marblerunref01_Mul.f a0 a1).bind fun bt125 => ((whole_Mul.f k a1 a0).bind fun bt127 => ((marblerunlaw01_awake.f k).bind fun t129 => (if t129 = true then (if t123 = bt125.1 then (if (t124 == bt125.2) = true then (if bt127.1 = t123 then (some (bt127.2 == t124)) else (some false)) else (some false)) else (some false)) else (some false))))) = some r := H
  have A3 := Aside0.mk A30
  clear A30
  replace H := Option.bind_eq_some_iff.mp H
  obtain ⟨⟨t125, t126⟩, A40, H⟩ := H
  replace H : ((whole_Mul.f k a1 a0).bind fun bt127 => ((marblerunlaw01_awake.f k).bind fun t129 => (if t129 = true then (if t123 = t125 then (if (t124 == t126) = true then (if bt127.1 = t123 then (some (bt127.2 == t124)) else (some false)) else (some false)) else (some false)) else (some false)))) = some r := H
  have A4 := Aside0.mk A40
  clear A40
  replace H := Option.bind_eq_some_iff.mp H
  obtain ⟨⟨t127, t128⟩, A50, H⟩ := H
  replace H : ((marblerunlaw01_awake.f k).bind fun t129 => (if t129 = true then (if t123 = t125 then (if (t124 == t126) = true then (if t127 = t123 then (some (t128 == t124)) else (some false)) else (some false)) else (some false)) else (some false))) = some r := H
  have A5 := Aside0.mk A50
  clear A50
  replace H := Option.bind_eq_some_iff.mp H
  obtain ⟨t129, A60, H⟩ := H
  replace H : (if t129 = true then (if t123 = t125 then (if (t124 == t126) = true then (if t127 = t123 then (some (t128 == t124)) else (some false)) else (some false)) else (some false)) else (some false)) = some r := H
  have A6 := Aside0.mk A60
  clear A60
  by_cases c7 : t129 = true
  · subst c7
    have H1 : (if t123 = t125 then (if (t124 == t126) = true then (if t127 = t123 then (some (t128 == t124)) else (some false)) else (some false)) else (some false)) = some r := by rw [if_pos rfl] at H; exact H
    clear H
    have H := H1
    clear H1
    by_cases c8 : t123 = t125
    · rw [if_pos c8] at H
      have c8b0 : (t123 == t125) = true := beq_iff_eq.mpr c8
      have c8b1 : (t123 != t125) = false := bne_eq_false_iff_eq.mpr c8
      clear c8
      by_cases c9 : (t124 == t126) = true
      · rw [if_pos c9] at H
        have c9b0 : (t124 == t126) = true := c9
        (try (have c9b1 : decide (t124 = t126) = true := by simpa using c9))
        (try (have c9b2 : (t124 == t126) = true := by simpa using c9))
        clear c9
        by_cases c10 : t127 = t123
        · rw [if_pos c10] at H
          have c10b0 : (t127 == t123) = true := beq_iff_eq.mpr c10
          have c10b1 : (t127 != t123) = false := bne_eq_false_iff_eq.mpr c10
          clear c10
          obtain rfl := Option.some.inj H
          go_enter Try.func7, Try.ntmps7
          go_wp2_with (first | ((with_reducible refine gate_callee (f := 20) rfl ?_); refine goesL_ (some 14) rfl rfl Try.func20 (by kernel_rfl) rfl #[.int .i64 a0, .int .i64 a1] rfl (by (try simp only [List.map_toArray, List.map_cons, List.map_nil]); first | done | rfl | (simp only [List.length_drop, List.length_take]; rfl)) ?_; (with_reducible refine (whole_Mul.calls k a0 a1 t123 t124 _ A3.out).mono ?_); rintro e w' ⟨rfl, ⟨nd, rfl⟩⟩; refine ⟨_, rfl, ?_⟩) | ((with_reducible refine gate_callee (f := 21) rfl ?_); refine goesL_ (some 20) rfl rfl Try.func21 (by kernel_rfl) rfl #[.int .i64 a0, .int .i64 a1] rfl (by (try simp only [List.map_toArray, List.map_cons, List.map_nil]); first | done | rfl | (simp only [List.length_drop, List.length_take]; rfl)) ?_; (with_reducible refine (marblerunref01_Mul.calls a0 a1 t125 t126 _ A4.out).mono ?_); rintro e w' ⟨rfl, ⟨nd, rfl⟩⟩; refine ⟨_, rfl, ?_⟩) | ((with_reducible refine gate_callee (f := 20) rfl ?_); refine goesL_ (some 26) rfl rfl Try.func20 (by kernel_rfl) rfl #[.int .i64 a1, .int .i64 a0] rfl (by (try simp only [List.map_toArray, List.map_cons, List.map_nil]); first | done | rfl | (simp only [List.length_drop, List.length_take]; rfl)) ?_; (with_reducible refine (whole_Mul.calls k a1 a0 t127 t128 _ A5.out).mono ?_); rintro e w' ⟨rfl, ⟨nd, rfl⟩⟩; refine ⟨_, rfl, ?_⟩) | ((with_reducible refine gate_callee (f := 15) rfl ?_); refine goesL_ (some 29) rfl rfl Try.func15 (by kernel_rfl) rfl #[] rfl (by (try simp only [List.map_toArray, List.map_cons, List.map_nil]); first | done | rfl | (simp only [List.length_drop, List.length_take]; rfl)) ?_; (with_reducible refine (marblerunlaw01_awake.calls k  true _ A6.out).mono ?_); rintro e w11 ⟨rfl, hb⟩; refine ⟨_, rfl, ?_⟩; have n0_ := Aside0.mk (below_step (by repeat (first | (with_reducible first | exact HB.out | apply below_alloc | apply pw_below_drewN | apply below_drew1) | exact HB.out)) hb); clear HB; have HB := n0_; clear n0_; (try clear hb); (try clear hb2); (try clear hk); (try clear hi)))
          go_ret
          exact ⟨by first | rfl | (simp [errW_none, errW_some] <;> rfl) | (simp [*, errW_none, errW_some] <;> rfl), by repeat (first | (with_reducible first | exact HB.out | apply below_alloc | apply pw_below_drewN | apply below_drew1) | exact HB.out)⟩
        · rw [if_neg c10] at H
          have c10b0 : (t127 == t123) = false := beq_eq_false_iff_ne.mpr c10
          have c10b1 : (t127 != t123) = true := bne_iff_ne.mpr c10
          obtain rfl := Option.some.inj H
          go_enter Try.func7, Try.ntmps7
          go_wp2_with (first | ((with_reducible refine gate_callee (f := 20) rfl ?_); refine goesL_ (some 14) rfl rfl Try.func20 (by kernel_rfl) rfl #[.int .i64 a0, .int .i64 a1] rfl (by (try simp only [List.map_toArray, List.map_cons, List.map_nil]); first | done | rfl | (simp only [List.length_drop, List.length_take]; rfl)) ?_; (with_reducible refine (whole_Mul.calls k a0 a1 t123 t124 _ A3.out).mono ?_); rintro e w' ⟨rfl, ⟨nd, rfl⟩⟩; refine ⟨_, rfl, ?_⟩) | ((with_reducible refine gate_callee (f := 21) rfl ?_); refine goesL_ (some 20) rfl rfl Try.func21 (by kernel_rfl) rfl #[.int .i64 a0, .int .i64 a1] rfl (by (try simp only [List.map_toArray, List.map_cons, List.map_nil]); first | done | rfl | (simp only [List.length_drop, List.length_take]; rfl)) ?_; (with_reducible refine (marblerunref01_Mul.calls a0 a1 t125 t126 _ A4.out).mono ?_); rintro e w' ⟨rfl, ⟨nd, rfl⟩⟩; refine ⟨_, rfl, ?_⟩) | ((with_reducible refine gate_callee (f := 20) rfl ?_); refine goesL_ (some 26) rfl rfl Try.func20 (by kernel_rfl) rfl #[.int .i64 a1, .int .i64 a0] rfl (by (try simp only [List.map_toArray, List.map_cons, List.map_nil]); first | done | rfl | (simp only [List.length_drop, List.length_take]; rfl)) ?_; (with_reducible refine (whole_Mul.calls k a1 a0 t127 t128 _ A5.out).mono ?_); rintro e w' ⟨rfl, ⟨nd, rfl⟩⟩; refine ⟨_, rfl, ?_⟩) | ((with_reducible refine gate_callee (f := 15) rfl ?_); refine goesL_ (some 29) rfl rfl Try.func15 (by kernel_rfl) rfl #[] rfl (by (try simp only [List.map_toArray, List.map_cons, List.map_nil]); first | done | rfl | (simp only [List.length_drop, List.length_take]; rfl)) ?_; (with_reducible refine (marblerunlaw01_awake.calls k  true _ A6.out).mono ?_); rintro e w12 ⟨rfl, hb⟩; refine ⟨_, rfl, ?_⟩; have n0_ := Aside0.mk (below_step (by repeat (first | (with_reducible first | exact HB.out | apply below_alloc | apply pw_below_drewN | apply below_drew1) | exact HB.out)) hb); clear HB; have HB := n0_; clear n0_; (try clear hb); (try clear hb2); (try clear hk); (try clear hi)))
          go_ret
          exact ⟨by first | rfl | (simp [errW_none, errW_some] <;> rfl) | (simp [*, errW_none, errW_some] <;> rfl), by repeat (first | (with_reducible first | exact HB.out | apply below_alloc | apply pw_below_drewN | apply below_drew1) | exact HB.out)⟩
      · rw [if_neg c9] at H
        have c9b0 : (t124 == t126) = false := by simpa using c9
        (try (have c9b1 : decide (t124 = t126) = false := by simpa using c9))
        (try (have c9b2 : (t124 == t126) = false := by simpa using c9))
        (try (have c9b3 : ¬ (t124 = t126) := by simpa using c9))
        clear c9
        obtain rfl := Option.some.inj H
        go_enter Try.func7, Try.ntmps7
        go_wp2_with (first | ((with_reducible refine gate_callee (f := 20) rfl ?_); refine goesL_ (some 14) rfl rfl Try.func20 (by kernel_rfl) rfl #[.int .i64 a0, .int .i64 a1] rfl (by (try simp only [List.map_toArray, List.map_cons, List.map_nil]); first | done | rfl | (simp only [List.length_drop, List.length_take]; rfl)) ?_; (with_reducible refine (whole_Mul.calls k a0 a1 t123 t124 _ A3.out).mono ?_); rintro e w' ⟨rfl, ⟨nd, rfl⟩⟩; refine ⟨_, rfl, ?_⟩) | ((with_reducible refine gate_callee (f := 21) rfl ?_); refine goesL_ (some 20) rfl rfl Try.func21 (by kernel_rfl) rfl #[.int .i64 a0, .int .i64 a1] rfl (by (try simp only [List.map_toArray, List.map_cons, List.map_nil]); first | done | rfl | (simp only [List.length_drop, List.length_take]; rfl)) ?_; (with_reducible refine (marblerunref01_Mul.calls a0 a1 t125 t126 _ A4.out).mono ?_); rintro e w' ⟨rfl, ⟨nd, rfl⟩⟩; refine ⟨_, rfl, ?_⟩) | ((with_reducible refine gate_callee (f := 20) rfl ?_); refine goesL_ (some 26) rfl rfl Try.func20 (by kernel_rfl) rfl #[.int .i64 a1, .int .i64 a0] rfl (by (try simp only [List.map_toArray, List.map_cons, List.map_nil]); first | done | rfl | (simp only [List.length_drop, List.length_take]; rfl)) ?_; (with_reducible refine (whole_Mul.calls k a1 a0 t127 t128 _ A5.out).mono ?_); rintro e w' ⟨rfl, ⟨nd, rfl⟩⟩; refine ⟨_, rfl, ?_⟩) | ((with_reducible refine gate_callee (f := 15) rfl ?_); refine goesL_ (some 29) rfl rfl Try.func15 (by kernel_rfl) rfl #[] rfl (by (try simp only [List.map_toArray, List.map_cons, List.map_nil]); first | done | rfl | (simp only [List.length_drop, List.length_take]; rfl)) ?_; (with_reducible refine (marblerunlaw01_awake.calls k  true _ A6.out).mono ?_); rintro e w13 ⟨rfl, hb⟩; refine ⟨_, rfl, ?_⟩; have n0_ := Aside0.mk (below_step (by repeat (first | (with_reducible first | exact HB.out | apply below_alloc | apply pw_below_drewN | apply below_drew1) | exact HB.out)) hb); clear HB; have HB := n0_; clear n0_; (try clear hb); (try clear hb2); (try clear hk); (try clear hi)))
        go_ret
        exact ⟨by first | rfl | (simp [errW_none, errW_some] <;> rfl) | (simp [*, errW_none, errW_some] <;> rfl), by repeat (first | (with_reducible first | exact HB.out | apply below_alloc | apply pw_below_drewN | apply below_drew1) | exact HB.out)⟩
    · rw [if_neg c8] at H
      have c8b0 : (t123 == t125) = false := beq_eq_false_iff_ne.mpr c8
      have c8b1 : (t123 != t125) = true := bne_iff_ne.mpr c8
      obtain rfl := Option.some.inj H
      go_enter Try.func7, Try.ntmps7
      go_wp2_with (first | ((with_reducible refine gate_callee (f := 20) rfl ?_); refine goesL_ (some 14) rfl rfl Try.func20 (by kernel_rfl) rfl #[.int .i64 a0, .int .i64 a1] rfl (by (try simp only [List.map_toArray, List.map_cons, List.map_nil]); first | done | rfl | (simp only [List.length_drop, List.length_take]; rfl)) ?_; (with_reducible refine (whole_Mul.calls k a0 a1 t123 t124 _ A3.out).mono ?_); rintro e w' ⟨rfl, ⟨nd, rfl⟩⟩; refine ⟨_, rfl, ?_⟩) | ((with_reducible refine gate_callee (f := 21) rfl ?_); refine goesL_ (some 20) rfl rfl Try.func21 (by kernel_rfl) rfl #[.int .i64 a0, .int .i64 a1] rfl (by (try simp only [List.map_toArray, List.map_cons, List.map_nil]); first | done | rfl | (simp only [List.length_drop, List.length_take]; rfl)) ?_; (with_reducible refine (marblerunref01_Mul.calls a0 a1 t125 t126 _ A4.out).mono ?_); rintro e w' ⟨rfl, ⟨nd, rfl⟩⟩; refine ⟨_, rfl, ?_⟩) | ((with_reducible refine gate_callee (f := 20) rfl ?_); refine goesL_ (some 26) rfl rfl Try.func20 (by kernel_rfl) rfl #[.int .i64 a1, .int .i64 a0] rfl (by (try simp only [List.map_toArray, List.map_cons, List.map_nil]); first | done | rfl | (simp only [List.length_drop, List.length_take]; rfl)) ?_; (with_reducible refine (whole_Mul.calls k a1 a0 t127 t128 _ A5.out).mono ?_); rintro e w' ⟨rfl, ⟨nd, rfl⟩⟩; refine ⟨_, rfl, ?_⟩) | ((with_reducible refine gate_callee (f := 15) rfl ?_); refine goesL_ (some 29) rfl rfl Try.func15 (by kernel_rfl) rfl #[] rfl (by (try simp only [List.map_toArray, List.map_cons, List.map_nil]); first | done | rfl | (simp only [List.length_drop, List.length_take]; rfl)) ?_; (with_reducible refine (marblerunlaw01_awake.calls k  true _ A6.out).mono ?_); rintro e w14 ⟨rfl, hb⟩; refine ⟨_, rfl, ?_⟩; have n0_ := Aside0.mk (below_step (by repeat (first | (with_reducible first | exact HB.out | apply below_alloc | apply pw_below_drewN | apply below_drew1) | exact HB.out)) hb); clear HB; have HB := n0_; clear n0_; (try clear hb); (try clear hb2); (try clear hk); (try clear hi)))
      go_ret
      exact ⟨by first | rfl | (simp [errW_none, errW_some] <;> rfl) | (simp [*, errW_none, errW_some] <;> rfl), by repeat (first | (with_reducible first | exact HB.out | apply below_alloc | apply pw_below_drewN | apply below_drew1) | exact HB.out)⟩
  · replace c7 := Bool.eq_false_iff.mpr c7
    subst c7
    have H1 : (some false) = some r := by rw [if_neg (show ¬ (false = true) by decide)] at H; exact H
    clear H
    have H := H1
    clear H1
    obtain rfl := Option.some.inj H
    go_enter Try.func7, Try.ntmps7
    go_wp2_with (first | ((with_reducible refine gate_callee (f := 20) rfl ?_); refine goesL_ (some 14) rfl rfl Try.func20 (by kernel_rfl) rfl #[.int .i64 a0, .int .i64 a1] rfl (by (try simp only [List.map_toArray, List.map_cons, List.map_nil]); first | done | rfl | (simp only [List.length_drop, List.length_take]; rfl)) ?_; (with_reducible refine (whole_Mul.calls k a0 a1 t123 t124 _ A3.out).mono ?_); rintro e w' ⟨rfl, ⟨nd, rfl⟩⟩; refine ⟨_, rfl, ?_⟩) | ((with_reducible refine gate_callee (f := 21) rfl ?_); refine goesL_ (some 20) rfl rfl Try.func21 (by kernel_rfl) rfl #[.int .i64 a0, .int .i64 a1] rfl (by (try simp only [List.map_toArray, List.map_cons, List.map_nil]); first | done | rfl | (simp only [List.length_drop, List.length_take]; rfl)) ?_; (with_reducible refine (marblerunref01_Mul.calls a0 a1 t125 t126 _ A4.out).mono ?_); rintro e w' ⟨rfl, ⟨nd, rfl⟩⟩; refine ⟨_, rfl, ?_⟩) | ((with_reducible refine gate_callee (f := 20) rfl ?_); refine goesL_ (some 26) rfl rfl Try.func20 (by kernel_rfl) rfl #[.int .i64 a1, .int .i64 a0] rfl (by (try simp only [List.map_toArray, List.map_cons, List.map_nil]); first | done | rfl | (simp only [List.length_drop, List.length_take]; rfl)) ?_; (with_reducible refine (whole_Mul.calls k a1 a0 t127 t128 _ A5.out).mono ?_); rintro e w' ⟨rfl, ⟨nd, rfl⟩⟩; refine ⟨_, rfl, ?_⟩) | ((with_reducible refine gate_callee (f := 15) rfl ?_); refine goesL_ (some 29) rfl rfl Try.func15 (by kernel_rfl) rfl #[] rfl (by (try simp only [List.map_toArray, List.map_cons, List.map_nil]); first | done | rfl | (simp only [List.length_drop, List.length_take]; rfl)) ?_; (with_reducible refine (marblerunlaw01_awake.calls k  false _ A6.out).mono ?_); rintro e w15 ⟨rfl, hb⟩; refine ⟨_, rfl, ?_⟩; have n0_ := Aside0.mk (below_step (by repeat (first | (with_reducible first | exact HB.out | apply below_alloc | apply pw_below_drewN | apply below_drew1) | exact HB.out)) hb); clear HB; have HB := n0_; clear n0_; (try clear hb); (try clear hb2); (try clear hk); (try clear hi)))
    go_ret
    exact ⟨by first | rfl | (simp [errW_none, errW_some] <;> rfl) | (simp [*, errW_none, errW_some] <;> rfl), by repeat (first | (with_reducible first | exact HB.out | apply below_alloc | apply pw_below_drewN | apply below_drew1) | exact HB.out)⟩

/-- THE ONE PURE STATEMENT of marblerunlaw01_WholeMuls: yours. -/
def marblerunlaw01_WholeMuls.Pure : Prop := ∀ (a0 : Int) (a1 : Int), (Lit.int .i64 a0).wf = true → (Lit.int .i64 a1).wf = true → ∃ k, marblerunlaw01_WholeMuls.f k a0 a1 = some true
theorem marblerunlaw01_WholeMuls.walk (P : marblerunlaw01_WholeMuls.Pure) (a0 : Int) (a1 : Int) (w : World) (w0 : (Lit.int .i64 a0).wf = true) (w1 : (Lit.int .i64 a1).wf = true) :
    Calls Try.prog 7 #[.int .i64 a0, .int .i64 a1] w fun e w' => e = .returned (.bool true) ∧ Below w.heap.size w w' := by
  obtain ⟨k, h⟩ := P a0 a1 w0 w1
  refine (marblerunlaw01_WholeMuls.calls k a0 a1 true w h).mono ?_
  rintro e w' ⟨rfl, hd⟩
  exact ⟨rfl, hd⟩

end Go.Proofs.Ytmmnnjphfodpnaa.PWholeMuls
