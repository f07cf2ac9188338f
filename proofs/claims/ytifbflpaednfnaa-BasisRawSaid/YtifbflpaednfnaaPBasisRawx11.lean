/- What the functions that this law reaches answer, in whatever memory, and the row of the law; no condition. Written by a program of this session (mk.sh). -/
import Derived.Test.YtifbflpaednfnaaPBasisRawx0
import Derived.Test.YtifbflpaednfnaaPBasisRawx10
namespace Go.Proofs.Ytifbflpaednfnaa.PBasisRaw
open Go.RowKit Go.Proofs.YtifbflpaednfnaaW.PrintWords Go.Proofs.YtifbflpaednfnaaW.PrintLast Go.Proofs.YtifbflpaednfnaaW.PrintMore
attribute [local go_sem] max2_int min2_int max_two min_two max_three min_three max_four min_four   -- for this text's walks alone
set_option linter.unusedVariables false
set_option linter.unusedSimpArgs false

/-! ### marblerunref01_Add: function 37 -/
def marblerunref01_Add.f (a0 : Int) (a1 : Int) : Option (Int × Bool) := if a1 > 0 then (if a0 > (wrap64 (9223372036854775807 - a1)) then (some (0, false)) else (if a1 < 0 then (if a0 < (wrap64 ((-9223372036854775808) - a1)) then (some (0, false)) else (some (wrap64 (a0 + a1), true))) else (some (wrap64 (a0 + a1), true)))) else (if a1 < 0 then (if a0 < (wrap64 ((-9223372036854775808) - a1)) then (some (0, false)) else (some (wrap64 (a0 + a1), true))) else (some (wrap64 (a0 + a1), true)))
set_option maxHeartbeats 8000000 in
set_option maxRecDepth 100000 in
theorem marblerunref01_Add.calls (a0 : Int) (a1 : Int) (r1 : Int) (r2 : Bool) (w : World) (h : marblerunref01_Add.f a0 a1 = some (r1, r2)) :
 Calls Try.prog 37 #[.int .i64 a0, .int .i64 a1] w fun e w' => e = .returned (.tuple #[.int .i64 r1, .bool r2]) ∧ Drawn0 w w' := by
 have H : (if a1 > 0 then (if a0 > (wrap64 (9223372036854775807 - a1)) then (some (0, false)) else (if a1 < 0 then (if a0 < (wrap64 ((-9223372036854775808) - a1)) then (some (0, false)) else (some (wrap64 (a0 + a1), true))) else (some (wrap64 (a0 + a1), true)))) else (if a1 < 0 then (if a0 < (wrap64 ((-9223372036854775808) - a1)) then (some (0, false)) else (some (wrap64 (a0 + a1), true))) else (some (wrap64 (a0 + a1), true)))) = some (r1, r2) := h; clear h
 by_cases c3 : a1 > 0
 ·rw [if_pos c3] at H; have c3b0 : decide (0 < a1) = true := decide_eq_true c3; clear c3
  by_cases c4 : a0 > (wrap64 (9223372036854775807 - a1))
  ·rw [if_pos c4] at H; have c4b0 : decide ((wrap64 (9223372036854775807 - a1)) < a0) = true := decide_eq_true c4; clear c4; simp only [Option.some.injEq, Prod.mk.injEq] at H; obtain ⟨rfl, rfl⟩ := H; go_enter Try.func37, Try.ntmps37; go_wp2; go_ret2; exact ⟨by first | rfl | (simp; done) | (simp [*]; done), by repeat (first | exact Drawn0.refl _ | apply Drawn0.step)⟩
  rw [if_neg c4] at H; have c4b0 : decide ((wrap64 (9223372036854775807 - a1)) < a0) = false := decide_eq_false c4; clear c4
  by_cases c5 : a1 < 0
  ·rw [if_pos c5] at H; have c5b0 : decide (a1 < 0) = true := decide_eq_true c5; clear c5
   by_cases c6 : a0 < (wrap64 ((-9223372036854775808) - a1))
   ·rw [if_pos c6] at H; have c6b0 : decide (a0 < (wrap64 ((-9223372036854775808) - a1))) = true := decide_eq_true c6; clear c6; simp only [Option.some.injEq, Prod.mk.injEq] at H; obtain ⟨rfl, rfl⟩ := H; go_enter Try.func37, Try.ntmps37; go_wp2; go_ret2; exact ⟨by first | rfl | (simp; done) | (simp [*]; done), by repeat (first | exact Drawn0.refl _ | apply Drawn0.step)⟩
   rw [if_neg c6] at H; have c6b0 : decide (a0 < (wrap64 ((-9223372036854775808) - a1))) = false := decide_eq_false c6; clear c6; simp only [Option.some.injEq, Prod.mk.injEq] at H; obtain ⟨rfl, rfl⟩ := H; go_enter Try.func37, Try.ntmps37; go_wp2; go_ret2; exact ⟨by first | rfl | (simp; done) | (simp [*]; done), by repeat (first | exact Drawn0.refl _ | apply Drawn0.step)⟩
  rw [if_neg c5] at H; have c5b0 : decide (a1 < 0) = false := decide_eq_false c5; clear c5; simp only [Option.some.injEq, Prod.mk.injEq] at H; obtain ⟨rfl, rfl⟩ := H; go_enter Try.func37, Try.ntmps37; go_wp2; go_ret2; exact ⟨by first | rfl | (simp; done) | (simp [*]; done), by repeat (first | exact Drawn0.refl _ | apply Drawn0.step)⟩
 rw [if_neg c3] at H; have c3b0 : decide (0 < a1) = false := decide_eq_false c3; clear c3
 by_cases c7 : a1 < 0
 ·rw [if_pos c7] at H; have c7b0 : decide (a1 < 0) = true := decide_eq_true c7; clear c7
  by_cases c8 : a0 < (wrap64 ((-9223372036854775808) - a1))
  ·rw [if_pos c8] at H; have c8b0 : decide (a0 < (wrap64 ((-9223372036854775808) - a1))) = true := decide_eq_true c8; clear c8; simp only [Option.some.injEq, Prod.mk.injEq] at H; obtain ⟨rfl, rfl⟩ := H; go_enter Try.func37, Try.ntmps37; go_wp2; go_ret2; exact ⟨by first | rfl | (simp; done) | (simp [*]; done), by repeat (first | exact Drawn0.refl _ | apply Drawn0.step)⟩
  rw [if_neg c8] at H; have c8b0 : decide (a0 < (wrap64 ((-9223372036854775808) - a1))) = false := decide_eq_false c8; clear c8; simp only [Option.some.injEq, Prod.mk.injEq] at H; obtain ⟨rfl, rfl⟩ := H; go_enter Try.func37, Try.ntmps37; go_wp2; go_ret2; exact ⟨by first | rfl | (simp; done) | (simp [*]; done), by repeat (first | exact Drawn0.refl _ | apply Drawn0.step)⟩
 rw [if_neg c7] at H; have c7b0 : decide (a1 < 0) = false := decide_eq_false c7; clear c7; simp only [Option.some.injEq, Prod.mk.injEq] at H; obtain ⟨rfl, rfl⟩ := H; go_enter Try.func37, Try.ntmps37; go_wp2; go_ret2; exact ⟨by first | rfl | (simp; done) | (simp [*]; done), by repeat (first | exact Drawn0.refl _ | apply Drawn0.step)⟩

/-! ### marblerunref01_Dot: function 29 -/
mutual
def marblerunref01_Dot.l0 : Nat → List Int → List Int → Int → Int → Option (Int × Bool)
 | 0, _, _, _, _ => none
 | k + 1, x0, x1, x6, x7 => if x7 < (x0.length : Int) then (marblerunref01_Dot.j1 k x0 x1 x6 x7 (decide (x7 < (x1.length : Int)))) else (marblerunref01_Dot.j1 k x0 x1 x6 x7 false)
def marblerunref01_Dot.j1 : Nat → List Int → List Int → Int → Int → Bool → Option (Int × Bool)
 | 0, _, _, _, _, _ => none
 | k + 1, x0, x1, x6, x7, x21 => if x21 = true then (if 0 ≤ x7 then (if x7 < (x0.length : Int) then (if x7 < (x1.length : Int) then ((marblerunref01_Mul.f (rd x0 x7) (rd x1 x7)).bind fun bt330 => (if bt330.2 = true then ((marblerunref01_Add.f x6 bt330.1).bind fun bt332 => (if bt332.2 = true then (marblerunref01_Dot.l0 k x0 x1 bt332.1 (wrap64 (x7 + 1))) else (some (0, false)))) else (some (0, false)))) else (none)) else (none)) else (none)) else (some (x6, true))
end
def marblerunref01_Dot.f (k : Nat) (l0 : List Int) (l1 : List Int) : Option (Int × Bool) := marblerunref01_Dot.l0 k l0 l1 0 0
theorem marblerunref01_Dot.mono_l : ∀ k, (∀ y0 y1 y2 y3, LeO (marblerunref01_Dot.l0 k y0 y1 y2 y3) (marblerunref01_Dot.l0 (k + 1) y0 y1 y2 y3)) ∧ (∀ y0 y1 y2 y3 y4, LeO (marblerunref01_Dot.j1 k y0 y1 y2 y3 y4) (marblerunref01_Dot.j1 (k + 1) y0 y1 y2 y3 y4))
 | 0 => ⟨fun _ _ _ _ r h => by simp [marblerunref01_Dot.l0] at h, fun _ _ _ _ _ r h => by simp [marblerunref01_Dot.j1] at h⟩
 | k + 1 => by
  obtain ⟨ih0, ih1⟩ := marblerunref01_Dot.mono_l k
  refine ⟨?_, ?_⟩
  all_goals
   intros
   first
   | unfold marblerunref01_Dot.l0
   | unfold marblerunref01_Dot.j1
   repeat' first
   | (with_reducible exact ih0 _ _ _ _)
   | (with_reducible exact ih1 _ _ _ _ _)
   | (with_reducible exact LeO.refl _)
   | (with_reducible exact LeO.none _)
   | (with_reducible refine LeO.ite ?_ ?_)
   | (with_reducible refine LeO.bind ?_ (fun _ => ?_))
   | exact ih0 _ _ _ _
   | exact ih1 _ _ _ _ _
   | exact LeO.none _
   | refine LeO.ite ?_ ?_
   | refine LeO.bind ?_ (fun _ => ?_)
theorem marblerunref01_Dot.mono : ∀ a0 a1 k, LeO (marblerunref01_Dot.f k a0 a1) (marblerunref01_Dot.f (k + 1) a0 a1) := by
 intro a0 a1 k
 obtain ⟨ih0, ih1⟩ := marblerunref01_Dot.mono_l k
 unfold marblerunref01_Dot.f
 repeat' first
  | (with_reducible exact ih0 _ _ _ _)
  | (with_reducible exact ih1 _ _ _ _ _)
  | (with_reducible exact LeO.refl _)
  | (with_reducible exact LeO.none _)
  | (with_reducible refine LeO.ite ?_ ?_)
  | (with_reducible refine LeO.bind ?_ (fun _ => ?_))
  | exact ih0 _ _ _ _
  | exact ih1 _ _ _ _ _
  | exact LeO.none _
  | refine LeO.ite ?_ ?_
  | refine LeO.bind ?_ (fun _ => ?_)
set_option maxHeartbeats 8000000 in
set_option maxRecDepth 100000 in
theorem marblerunref01_Dot.calls (k : Nat) (A0 : Option Addr) (c0 : Nat) (l0 : List Int) (A1 : Option Addr) (c1 : Nat) (l1 : List Int) (r1 : Int) (r2 : Bool) (w : World) (hr0 : Kd.C (Kd.int .i64) w A0 l0.length l0) (hc0 : l0.length ≤ c0) (hr1 : Kd.C (Kd.int .i64) w A1 l1.length l1) (hc1 : l1.length ≤ c1) (h : marblerunref01_Dot.f k l0 l1 = some (r1, r2)) :
 Calls Try.prog 29 #[.slice A0 l0.length c0, .slice A1 l1.length c1] w fun e w' => e = .returned (.tuple #[.int .i64 r1, .bool r2]) ∧ Drawn0 w w' := by
 have HR0 := Aside0.mk hr0; have HC0 := Aside0.mk hc0; clear hr0 hc0; have HR1 := Aside0.mk hr1; have HC1 := Aside0.mk hc1; clear hr1 hc1; have H : (marblerunref01_Dot.l0 k l0 l1 0 0) = some (r1, r2) := h; clear h; have H' := Aside0.mk H; clear H; go_enter Try.func29, Try.ntmps29; go_wp2
 repeat (go_quiet (fail); try go_wp2)
 go_loopg [6, 7] k (fun kq v6 v7 w' => ∃ (x6_1 : Int) (x7_1 : Int), v6 = .int .i64 x6_1 ∧ v7 = .int .i64 x7_1 ∧ Aside0 (marblerunref01_Dot.l0 kq l0 l1 x6_1 x7_1 = some (r1, r2)) ∧ Aside0 (kq ≤ k) ∧ Drawn0 w w')
 case atStart => exact ⟨(0), (0), (by first | rfl | (simp; done) | (simp [*]; done)), (by first | rfl | (simp; done) | (simp [*]; done)), H', ⟨Nat.le_refl _⟩, by repeat (first | exact Drawn0.refl _ | apply Drawn0.step)⟩
 clear H'; (try clear c1); (try clear c2); (try clear p2); obtain ⟨x6_1, x7_1, rfl, rfl, HA, HK1, ⟨m1, rfl⟩⟩ := hrel; cases gk with
 | zero => exact absurd HA.out (by simp [marblerunref01_Dot.l0])
 | succ k1 =>
  have H := HA.out; clear HA; simp only [marblerunref01_Dot.l0] at H; have HC3 := Aside0.mk H; clear H; go_upto_region 3 with (fail)
  repeat (go_quiet (fail); go_upto_region 3 with (fail))
  go_cut [21] (fun v21 wc => ∃ (kq : Nat) (x21_2 : Bool), v21 = .bool x21_2 ∧ Aside0 (marblerunref01_Dot.j1 kq l0 l1 x6_1 x7_1 x21_2 = some (r1, r2)) ∧ Aside0 (kq ≤ k1) ∧ Drawn0 w wc)
  case first =>
   have H := HC3.out; clear HC3
   by_cases c4 : x7_1 < (l0.length : Int)
   ·rw [if_pos c4] at H; have c4b0 : decide (x7_1 < (l0.length : Int)) = true := decide_eq_true c4; clear c4; (first | rw [c4b0] | (simp only [i64_w, i32_w]; rw [c4b0]) | skip); have H' := Aside0.mk H; clear H; go_wp2
    repeat (go_quiet (fail); try go_wp2)
    go_meet
    case rel => exact ⟨_, (decide (x7_1 < (l1.length : Int))), (by first | rfl | (simp; done) | (simp [*]; done)), H', ⟨by have := HK1.out; first | omega | exact Nat.le_refl _⟩, by repeat (first | exact Drawn0.refl _ | apply Drawn0.step)⟩
   rw [if_neg c4] at H; have c4b0 : decide (x7_1 < (l0.length : Int)) = false := decide_eq_false c4; clear c4; (first | rw [c4b0] | (simp only [i64_w, i32_w]; rw [c4b0]) | skip); have H' := Aside0.mk H; clear H; go_wp2
   repeat (go_quiet (fail); try go_wp2)
   go_meet
   case rel => exact ⟨_, (false), (by first | rfl | (simp; done) | (simp [*]; done)), H', ⟨by have := HK1.out; first | omega | exact Nat.le_refl _⟩, by repeat (first | exact Drawn0.refl _ | apply Drawn0.step)⟩
  clear HC3; (try clear c1); (try clear c2); (try clear p2); (try clear c4); (try clear c4b0); (try clear p2); obtain ⟨kq, x21_2, rfl, HA, HJ2, ⟨mc2, rfl⟩⟩ := hcut; cases kq with
  | zero => exact absurd HA.out (by simp [marblerunref01_Dot.j1])
  | succ kj2 =>
   have H := HA.out; clear HA; simp only [marblerunref01_Dot.j1] at H
   by_cases c5 : x21_2 = true
   ·subst c5; have H1 : (if 0 ≤ x7_1 then (if x7_1 < (l0.length : Int) then (if x7_1 < (l1.length : Int) then ((marblerunref01_Mul.f (rd l0 x7_1) (rd l1 x7_1)).bind fun bt330 => (if bt330.2 = true then ((marblerunref01_Add.f x6_1 bt330.1).bind fun bt332 => (if bt332.2 = true then (marblerunref01_Dot.l0 kj2 l0 l1 bt332.1 (wrap64 (x7_1 + 1))) else (some (0, false)))) else (some (0, false)))) else (none)) else (none)) else (none)) = some (r1, r2) := by rw [if_pos rfl] at H; exact H
    clear H; have H := H1; clear H1
    by_cases c6 : 0 ≤ x7_1
    case neg => rw [if_neg c6] at H; exact absurd H (by simp)
    rw [if_pos c6] at H; have c6b0 : decide (0 ≤ x7_1) = true := decide_eq_true c6; clear c6
    by_cases c7 : x7_1 < (l0.length : Int)
    case neg => rw [if_neg c7] at H; exact absurd H (by simp)
    rw [if_pos c7] at H; have c7b0 : decide (x7_1 < (l0.length : Int)) = true := decide_eq_true c7; clear c7
    by_cases c8 : x7_1 < (l1.length : Int)
    case neg => rw [if_neg c8] at H; exact absurd H (by simp)
    rw [if_pos c8] at H; have c8b0 : decide (x7_1 < (l1.length : Int)) = true := decide_eq_true c8; clear c8; replace H := Option.bind_eq_some_iff.mp H; obtain ⟨⟨t330, t331⟩, A90, H⟩ := H; replace H : (if t331 = true then ((marblerunref01_Add.f x6_1 t330).bind fun bt332 => (if bt332.2 = true then (marblerunref01_Dot.l0 kj2 l0 l1 bt332.1 (wrap64 (x7_1 + 1))) else (some (0, false)))) else (some (0, false))) = some (r1, r2) := H; have A9 := Aside0.mk A90; clear A90
    by_cases c10 : t331 = true
    ·subst c10; have H1 : ((marblerunref01_Add.f x6_1 t330).bind fun bt332 => (if bt332.2 = true then (marblerunref01_Dot.l0 kj2 l0 l1 bt332.1 (wrap64 (x7_1 + 1))) else (some (0, false)))) = some (r1, r2) := by rw [if_pos rfl] at H; exact H
     clear H; have H := H1; clear H1; replace H := Option.bind_eq_some_iff.mp H; obtain ⟨⟨t332, t333⟩, A110, H⟩ := H; replace H : (if t333 = true then (marblerunref01_Dot.l0 kj2 l0 l1 t332 (wrap64 (x7_1 + 1))) else (some (0, false))) = some (r1, r2) := H; have A11 := Aside0.mk A110; clear A110
     by_cases c12 : t333 = true
     ·subst c12; have H1 : (marblerunref01_Dot.l0 kj2 l0 l1 t332 (wrap64 (x7_1 + 1))) = some (r1, r2) := by rw [if_pos rfl] at H; exact H
      clear H; have H := H1; clear H1; have H' := Aside0.mk H; clear H; have p328 : 0 ≤ (x7_1 : Int) := oa; have q328 : x7_1 < (l0.length : Int) := oa; obtain ⟨ad328, e328, hx328_0⟩ := Kd.at_int HR0.out x7_1 p328 q328; cases e328; replace p328 := eq_true p328; replace q328 := eq_true q328; have p329 : 0 ≤ (x7_1 : Int) := oa; have q329 : x7_1 < (l1.length : Int) := oa; obtain ⟨ad329, e329, hx329_0⟩ := Kd.at_int HR1.out x7_1 p329 q329; cases e329; replace p329 := eq_true p329; replace q329 := eq_true q329
      iterate 3 ((try go_quiet (first | (go_at_call 36; (with_reducible refine (marblerunref01_Mul.calls (rd l0 x7_1) (rd l1 x7_1) t330 true _ A9.out).mono ?_); rintro e w' ⟨rfl, ⟨nd, rfl⟩⟩; (try first | exact ⟨rfl, _, World.drewN_drewN _ _ _⟩ | exact ⟨rfl, _, Eq.trans (World.drewN_drewN _ _ _) (congrArg (World.drewN _) (Nat.add_assoc _ _ _))⟩)) | (go_at_call 37; (with_reducible refine (marblerunref01_Add.calls x6_1 t330 t332 true _ A11.out).mono ?_); rintro e w' ⟨rfl, ⟨nd, rfl⟩⟩; (try first | exact ⟨rfl, _, World.drewN_drewN _ _ _⟩ | exact ⟨rfl, _, Eq.trans (World.drewN_drewN _ _ _) (congrArg (World.drewN _) (Nat.add_assoc _ _ _))⟩)))); go_wp2_with (first | (go_at_call 36; (with_reducible refine (marblerunref01_Mul.calls (rd l0 x7_1) (rd l1 x7_1) t330 true _ A9.out).mono ?_); rintro e w' ⟨rfl, ⟨nd, rfl⟩⟩; (try first | exact ⟨rfl, _, World.drewN_drewN _ _ _⟩ | exact ⟨rfl, _, Eq.trans (World.drewN_drewN _ _ _) (congrArg (World.drewN _) (Nat.add_assoc _ _ _))⟩)) | (go_at_call 37; (with_reducible refine (marblerunref01_Add.calls x6_1 t330 t332 true _ A11.out).mono ?_); rintro e w' ⟨rfl, ⟨nd, rfl⟩⟩; (try first | exact ⟨rfl, _, World.drewN_drewN _ _ _⟩ | exact ⟨rfl, _, Eq.trans (World.drewN_drewN _ _ _) (congrArg (World.drewN _) (Nat.add_assoc _ _ _))⟩))))
      go_roundg kj2
      case measure => have := HK1.out; have := HJ2.out; omega
      case rel => exact ⟨(t332), (wrap64 (x7_1 + 1)), (by first | rfl | (simp; done) | (simp [*]; done)), (by first | rfl | (simp; done) | (simp [*]; done)), H', ⟨by have := HK1.out; have := HJ2.out; omega⟩, by repeat (first | exact Drawn0.refl _ | apply Drawn0.step)⟩
     replace c12 := Bool.eq_false_iff.mpr c12; subst c12; have H1 : (some (0, false)) = some (r1, r2) := by rw [if_neg (show ¬ (false = true) by decide)] at H; exact H
     clear H; have H := H1; clear H1; simp only [Option.some.injEq, Prod.mk.injEq] at H; obtain ⟨rfl, rfl⟩ := H; have p328 : 0 ≤ (x7_1 : Int) := oa; have q328 : x7_1 < (l0.length : Int) := oa; obtain ⟨ad328, e328, hx328_0⟩ := Kd.at_int HR0.out x7_1 p328 q328; cases e328; replace p328 := eq_true p328; replace q328 := eq_true q328; have p329 : 0 ≤ (x7_1 : Int) := oa; have q329 : x7_1 < (l1.length : Int) := oa; obtain ⟨ad329, e329, hx329_0⟩ := Kd.at_int HR1.out x7_1 p329 q329; cases e329; replace p329 := eq_true p329; replace q329 := eq_true q329
     iterate 3 ((try go_quiet (first | (go_at_call 36; (with_reducible refine (marblerunref01_Mul.calls (rd l0 x7_1) (rd l1 x7_1) t330 true _ A9.out).mono ?_); rintro e w' ⟨rfl, ⟨nd, rfl⟩⟩; (try first | exact ⟨rfl, _, World.drewN_drewN _ _ _⟩ | exact ⟨rfl, _, Eq.trans (World.drewN_drewN _ _ _) (congrArg (World.drewN _) (Nat.add_assoc _ _ _))⟩)) | (go_at_call 37; (with_reducible refine (marblerunref01_Add.calls x6_1 t330 t332 false _ A11.out).mono ?_); rintro e w' ⟨rfl, ⟨nd, rfl⟩⟩; (try first | exact ⟨rfl, _, World.drewN_drewN _ _ _⟩ | exact ⟨rfl, _, Eq.trans (World.drewN_drewN _ _ _) (congrArg (World.drewN _) (Nat.add_assoc _ _ _))⟩)))); go_wp2_with (first | (go_at_call 36; (with_reducible refine (marblerunref01_Mul.calls (rd l0 x7_1) (rd l1 x7_1) t330 true _ A9.out).mono ?_); rintro e w' ⟨rfl, ⟨nd, rfl⟩⟩; (try first | exact ⟨rfl, _, World.drewN_drewN _ _ _⟩ | exact ⟨rfl, _, Eq.trans (World.drewN_drewN _ _ _) (congrArg (World.drewN _) (Nat.add_assoc _ _ _))⟩)) | (go_at_call 37; (with_reducible refine (marblerunref01_Add.calls x6_1 t330 t332 false _ A11.out).mono ?_); rintro e w' ⟨rfl, ⟨nd, rfl⟩⟩; (try first | exact ⟨rfl, _, World.drewN_drewN _ _ _⟩ | exact ⟨rfl, _, Eq.trans (World.drewN_drewN _ _ _) (congrArg (World.drewN _) (Nat.add_assoc _ _ _))⟩))))
     go_ret2; exact ⟨by first | rfl | (simp; done) | (simp [*]; done), by repeat (first | exact Drawn0.refl _ | apply Drawn0.step)⟩
    replace c10 := Bool.eq_false_iff.mpr c10; subst c10; have H1 : (some (0, false)) = some (r1, r2) := by rw [if_neg (show ¬ (false = true) by decide)] at H; exact H
    clear H; have H := H1; clear H1; simp only [Option.some.injEq, Prod.mk.injEq] at H; obtain ⟨rfl, rfl⟩ := H; have p328 : 0 ≤ (x7_1 : Int) := oa; have q328 : x7_1 < (l0.length : Int) := oa; obtain ⟨ad328, e328, hx328_0⟩ := Kd.at_int HR0.out x7_1 p328 q328; cases e328; replace p328 := eq_true p328; replace q328 := eq_true q328; have p329 : 0 ≤ (x7_1 : Int) := oa; have q329 : x7_1 < (l1.length : Int) := oa; obtain ⟨ad329, e329, hx329_0⟩ := Kd.at_int HR1.out x7_1 p329 q329; cases e329; replace p329 := eq_true p329; replace q329 := eq_true q329
    iterate 3 ((try go_quiet (first | (go_at_call 36; (with_reducible refine (marblerunref01_Mul.calls (rd l0 x7_1) (rd l1 x7_1) t330 false _ A9.out).mono ?_); rintro e w' ⟨rfl, ⟨nd, rfl⟩⟩; (try first | exact ⟨rfl, _, World.drewN_drewN _ _ _⟩ | exact ⟨rfl, _, Eq.trans (World.drewN_drewN _ _ _) (congrArg (World.drewN _) (Nat.add_assoc _ _ _))⟩)))); go_wp2_with (first | (go_at_call 36; (with_reducible refine (marblerunref01_Mul.calls (rd l0 x7_1) (rd l1 x7_1) t330 false _ A9.out).mono ?_); rintro e w' ⟨rfl, ⟨nd, rfl⟩⟩; (try first | exact ⟨rfl, _, World.drewN_drewN _ _ _⟩ | exact ⟨rfl, _, Eq.trans (World.drewN_drewN _ _ _) (congrArg (World.drewN _) (Nat.add_assoc _ _ _))⟩))))
    go_ret2; exact ⟨by first | rfl | (simp; done) | (simp [*]; done), by repeat (first | exact Drawn0.refl _ | apply Drawn0.step)⟩
   replace c5 := Bool.eq_false_iff.mpr c5; subst c5; have H1 : (some (x6_1, true)) = some (r1, r2) := by rw [if_neg (show ¬ (false = true) by decide)] at H; exact H
   clear H; have H := H1; clear H1; simp only [Option.some.injEq, Prod.mk.injEq] at H; obtain ⟨rfl, rfl⟩ := H; go_wp2
   repeat (go_quiet (fail); try go_wp2)
   go_ret2; exact ⟨by first | rfl | (simp; done) | (simp [*]; done), by repeat (first | exact Drawn0.refl _ | apply Drawn0.step)⟩

/-! ### marblerunref12_within: function 30 -/
def marblerunref12_within.l0 : Nat → List Int → List Int → Int → Option (Bool)
 | 0, _, _, _ => none
 | k + 1, x0, x1, x5 => if x5 < (x0.length : Int) then (if 0 ≤ x5 then (if (rd x0 x5) = 0 then (marblerunref12_within.l0 k x0 x1 (wrap64 (x5 + 1))) else (if x5 < (x1.length : Int) then (if (rd x1 x5) = 0 then (some false) else (marblerunref12_within.l0 k x0 x1 (wrap64 (x5 + 1)))) else (none))) else (none)) else (some true)
def marblerunref12_within.f (k : Nat) (l0 : List Int) (l1 : List Int) : Option (Bool) := marblerunref12_within.l0 k l0 l1 0
theorem marblerunref12_within.mono_l : ∀ k, (∀ y0 y1 y2, LeO (marblerunref12_within.l0 k y0 y1 y2) (marblerunref12_within.l0 (k + 1) y0 y1 y2))
 | 0 => fun _ _ _ r h => by simp [marblerunref12_within.l0] at h
 | k + 1 => by
  have ih0 := marblerunref12_within.mono_l k
  ·intro y0 y1 y2
   unfold marblerunref12_within.l0
   repeat' first
   | (with_reducible exact ih0 _ _ _)
   | (with_reducible exact LeO.refl _)
   | (with_reducible exact LeO.none _)
   | (with_reducible refine LeO.ite ?_ ?_)
   | (with_reducible refine LeO.bind ?_ (fun _ => ?_))
   | exact ih0 _ _ _
   | exact LeO.none _
   | refine LeO.ite ?_ ?_
   | refine LeO.bind ?_ (fun _ => ?_)
theorem marblerunref12_within.mono : ∀ a0 a1 k, LeO (marblerunref12_within.f k a0 a1) (marblerunref12_within.f (k + 1) a0 a1) := by
 intro a0 a1 k
 have ih0 := marblerunref12_within.mono_l k
 unfold marblerunref12_within.f
 repeat' first
  | (with_reducible exact ih0 _ _ _)
  | (with_reducible exact LeO.refl _)
  | (with_reducible exact LeO.none _)
  | (with_reducible refine LeO.ite ?_ ?_)
  | (with_reducible refine LeO.bind ?_ (fun _ => ?_))
  | exact ih0 _ _ _
  | exact LeO.none _
  | refine LeO.ite ?_ ?_
  | refine LeO.bind ?_ (fun _ => ?_)
set_option maxHeartbeats 8000000 in
set_option maxRecDepth 100000 in
theorem marblerunref12_within.calls (k : Nat) (A0 : Option Addr) (c0 : Nat) (l0 : List Int) (A1 : Option Addr) (c1 : Nat) (l1 : List Int) (r : Bool) (w : World) (hr0 : Kd.C (Kd.int .i64) w A0 l0.length l0) (hc0 : l0.length ≤ c0) (hr1 : Kd.C (Kd.int .i64) w A1 l1.length l1) (hc1 : l1.length ≤ c1) (h : marblerunref12_within.f k l0 l1 = some r) :
 Calls Try.prog 30 #[.slice A0 l0.length c0, .slice A1 l1.length c1] w fun e w' => e = .returned (.bool r) ∧ Drawn0 w w' := by
 have HR0 := Aside0.mk hr0; have HC0 := Aside0.mk hc0; clear hr0 hc0; have HR1 := Aside0.mk hr1; have HC1 := Aside0.mk hc1; clear hr1 hc1; have H : (marblerunref12_within.l0 k l0 l1 0) = some r := h; clear h; have H' := Aside0.mk H; clear H; go_enter Try.func30, Try.ntmps30; go_wp2; go_loopg [5] k (fun kq v5 w' => ∃ (x5_1 : Int), v5 = .int .i64 x5_1 ∧ Aside0 (marblerunref12_within.l0 kq l0 l1 x5_1 = some r) ∧ Aside0 (kq ≤ k) ∧ Drawn0 w w')
 case atStart => exact ⟨(0), (by first | rfl | (simp; done) | (simp [*]; done)), H', ⟨Nat.le_refl _⟩, by repeat (first | exact Drawn0.refl _ | apply Drawn0.step)⟩
 clear H'; (try clear c1); (try clear p2); obtain ⟨x5_1, rfl, HA, HK1, ⟨m1, rfl⟩⟩ := hrel; cases gk with
 | zero => exact absurd HA.out (by simp [marblerunref12_within.l0])
 | succ k1 =>
  have H := HA.out; clear HA; simp only [marblerunref12_within.l0] at H
  by_cases c3 : x5_1 < (l0.length : Int)
  ·rw [if_pos c3] at H; have c3b0 : decide (x5_1 < (l0.length : Int)) = true := decide_eq_true c3; clear c3
   by_cases c4 : 0 ≤ x5_1
   case neg => rw [if_neg c4] at H; exact absurd H (by simp)
   rw [if_pos c4] at H; have c4b0 : decide (0 ≤ x5_1) = true := decide_eq_true c4; clear c4
   by_cases c5 : (rd l0 x5_1) = 0
   ·rw [if_pos c5] at H; have c5b0 : ((rd l0 x5_1) == 0) = true := beq_iff_eq.mpr c5; have c5b1 : ((rd l0 x5_1) != 0) = false := bne_eq_false_iff_eq.mpr c5; clear c5; have H' := Aside0.mk H; clear H; have p334 : 0 ≤ (x5_1 : Int) := oa; have q334 : x5_1 < (l0.length : Int) := oa; obtain ⟨ad334, e334, hx334_0⟩ := Kd.at_int HR0.out x5_1 p334 q334; cases e334; replace p334 := eq_true p334; replace q334 := eq_true q334; go_wp2; go_roundg k1
    case measure => have := HK1.out; omega
    case rel => exact ⟨(wrap64 (x5_1 + 1)), (by first | rfl | (simp; done) | (simp [*]; done)), H', ⟨by have := HK1.out; omega⟩, by repeat (first | exact Drawn0.refl _ | apply Drawn0.step)⟩
   rw [if_neg c5] at H; have c5b0 : ((rd l0 x5_1) == 0) = false := beq_eq_false_iff_ne.mpr c5; have c5b1 : ((rd l0 x5_1) != 0) = true := bne_iff_ne.mpr c5
   by_cases c6 : x5_1 < (l1.length : Int)
   case neg => rw [if_neg c6] at H; exact absurd H (by simp)
   rw [if_pos c6] at H; have c6b0 : decide (x5_1 < (l1.length : Int)) = true := decide_eq_true c6; clear c6
   by_cases c7 : (rd l1 x5_1) = 0
   ·rw [if_pos c7] at H; have c7b0 : ((rd l1 x5_1) == 0) = true := beq_iff_eq.mpr c7; have c7b1 : ((rd l1 x5_1) != 0) = false := bne_eq_false_iff_eq.mpr c7; clear c7; obtain rfl := Option.some.inj H; have p334 : 0 ≤ (x5_1 : Int) := oa; have q334 : x5_1 < (l0.length : Int) := oa; obtain ⟨ad334, e334, hx334_0⟩ := Kd.at_int HR0.out x5_1 p334 q334; cases e334; replace p334 := eq_true p334; replace q334 := eq_true q334; have p335 : 0 ≤ (x5_1 : Int) := oa; have q335 : x5_1 < (l1.length : Int) := oa; obtain ⟨ad335, e335, hx335_0⟩ := Kd.at_int HR1.out x5_1 p335 q335; cases e335; replace p335 := eq_true p335; replace q335 := eq_true q335; go_wp2; go_ret; exact ⟨by first | rfl | (simp; done) | (simp [*]; done), by repeat (first | exact Drawn0.refl _ | apply Drawn0.step)⟩
   rw [if_neg c7] at H; have c7b0 : ((rd l1 x5_1) == 0) = false := beq_eq_false_iff_ne.mpr c7; have c7b1 : ((rd l1 x5_1) != 0) = true := bne_iff_ne.mpr c7; have H' := Aside0.mk H; clear H; have p334 : 0 ≤ (x5_1 : Int) := oa; have q334 : x5_1 < (l0.length : Int) := oa; obtain ⟨ad334, e334, hx334_0⟩ := Kd.at_int HR0.out x5_1 p334 q334; cases e334; replace p334 := eq_true p334; replace q334 := eq_true q334; have p335 : 0 ≤ (x5_1 : Int) := oa; have q335 : x5_1 < (l1.length : Int) := oa; obtain ⟨ad335, e335, hx335_0⟩ := Kd.at_int HR1.out x5_1 p335 q335; cases e335; replace p335 := eq_true p335; replace q335 := eq_true q335; go_wp2; go_roundg k1
   case measure => have := HK1.out; omega
   case rel => exact ⟨(wrap64 (x5_1 + 1)), (by first | rfl | (simp; done) | (simp [*]; done)), H', ⟨by have := HK1.out; omega⟩, by repeat (first | exact Drawn0.refl _ | apply Drawn0.step)⟩
  rw [if_neg c3] at H; have c3b0 : decide (x5_1 < (l0.length : Int)) = false := decide_eq_false c3; clear c3; obtain rfl := Option.some.inj H; go_wp2; go_ret; exact ⟨by first | rfl | (simp; done) | (simp [*]; done), by repeat (first | exact Drawn0.refl _ | apply Drawn0.step)⟩

/-! ### marblerunref12_Find: function 17 -/
mutual
def marblerunref12_Find.l0 : Nat → List (List Int) → List (List Int) → List (List Int) → Int → Int → Option ((List (List Int)) × Int)
 | 0, _, _, _, _, _ => none
 | k + 1, x0, x4, x5, x6, x7 => if x7 < (x0.length : Int) then (if 0 ≤ (x0.length : Int) then (if ((x0.length : Int) : Int).toNat ≤ 35184372088832 then ((some (List.replicate ((x0.length : Int) : Int).toNat 0 : List Int)).bind fun y336 => (if 0 ≤ x7 then (if x7 < (y336.length : Int) then (if x4.length < 5864062014805 then (if ([] : List Int).length + (rd_L1 x0 x7).length < 17592186044416 then (if x5.length < 5864062014805 then (marblerunref12_Find.l0 k x0 (x4 ++ [(y336.set (x7 : Int).toNat 1)]) (x5 ++ [(([] : List Int) ++ (rd_L1 x0 x7))]) ((rd_L1 x0 x7).length : Int) (wrap64 (x7 + 1))) else (none)) else (none)) else (none)) else (none)) else (none))) else (none)) else (none)) else (marblerunref12_Find.l1 k x4 x5 x6 0)
def marblerunref12_Find.l1 : Nat → List (List Int) → List (List Int) → Int → Int → Option ((List (List Int)) × Int)
 | 0, _, _, _, _ => none
 | k + 1, x4, x5, x6, x9 => if x9 < x6 then (marblerunref12_Find.l2 k x4 x5 x6 x9 ([] : List (List Int)) ([] : List (List Int)) 0) else (some (x4, 0))
def marblerunref12_Find.l2 : Nat → List (List Int) → List (List Int) → Int → Int → List (List Int) → List (List Int) → Int → Option ((List (List Int)) × Int)
 | 0, _, _, _, _, _, _, _ => none
 | k + 1, x4, x5, x6, x9, x10, x11, x12 => if x12 < (x4.length : Int) then (if 0 ≤ x12 then (if x12 < (x5.length : Int) then (if 0 ≤ x9 then (if x9 < ((rd_L1 x5 x12).length : Int) then (if (rd (rd_L1 x5 x12) x9) = 0 then (if x10.length < 5864062014805 then (if x11.length < 5864062014805 then (marblerunref12_Find.l2 k x4 x5 x6 x9 (x10 ++ [rd_L1 x4 x12]) (x11 ++ [rd_L1 x5 x12]) (wrap64 (x12 + 1))) else (none)) else (none)) else (marblerunref12_Find.l2 k x4 x5 x6 x9 x10 x11 (wrap64 (x12 + 1)))) else (none)) else (none)) else (none)) else (none)) else (marblerunref12_Find.l3 k x4 x5 x6 x9 x10 x11 0)
def marblerunref12_Find.l3 : Nat → List (List Int) → List (List Int) → Int → Int → List (List Int) → List (List Int) → Int → Option ((List (List Int)) × Int)
 | 0, _, _, _, _, _, _, _ => none
 | k + 1, x4, x5, x6, x9, x10, x11, x13 => if x13 < (x4.length : Int) then (marblerunref12_Find.l4 k x4 x5 x6 x9 x10 x11 x13 (wrap64 (x13 + 1))) else (marblerunref12_Find.l7 k ([] : List (List Int)) ([] : List (List Int)) x6 x9 x10 x11 0)
def marblerunref12_Find.l4 : Nat → List (List Int) → List (List Int) → Int → Int → List (List Int) → List (List Int) → Int → Int → Option ((List (List Int)) × Int)
 | 0, _, _, _, _, _, _, _, _ => none
 | k + 1, x4, x5, x6, x9, x10, x11, x13, x14 => if x14 < (x4.length : Int) then (if 0 ≤ x13 then (if x13 < (x5.length : Int) then (if 0 ≤ x9 then (if x9 < ((rd_L1 x5 x13).length : Int) then (if (rd (rd_L1 x5 x13) x9) < 0 then (if 0 ≤ x14 then (if x14 < (x5.length : Int) then (if x9 < ((rd_L1 x5 x14).length : Int) then (if ((rd (rd_L1 x5 x14) x9) > 0) then (marblerunref12_Find.j5 k x4 x5 x6 x9 x10 x11 x13 x14 false) else (if (rd (rd_L1 x5 x13) x9) > 0 then (marblerunref12_Find.j5 k x4 x5 x6 x9 x10 x11 x13 x14 (!(decide ((rd (rd_L1 x5 x14) x9) < 0)))) else (marblerunref12_Find.j5 k x4 x5 x6 x9 x10 x11 x13 x14 (!false)))) else (none)) else (none)) else (none)) else (if (rd (rd_L1 x5 x13) x9) > 0 then (if 0 ≤ x14 then (if x14 < (x5.length : Int) then (if x9 < ((rd_L1 x5 x14).length : Int) then (marblerunref12_Find.j5 k x4 x5 x6 x9 x10 x11 x13 x14 (!(decide ((rd (rd_L1 x5 x14) x9) < 0)))) else (none)) else (none)) else (none)) else (marblerunref12_Find.j5 k x4 x5 x6 x9 x10 x11 x13 x14 (!false)))) else (none)) else (none)) else (none)) else (none)) else (marblerunref12_Find.l3 k x4 x5 x6 x9 x10 x11 (wrap64 (x13 + 1)))
def marblerunref12_Find.j5 : Nat → List (List Int) → List (List Int) → Int → Int → List (List Int) → List (List Int) → Int → Int → Bool → Option ((List (List Int)) × Int)
 | 0, _, _, _, _, _, _, _, _, _ => none
 | k + 1, x4, x5, x6, x9, x10, x11, x13, x14, x144 => if x144 = true then (marblerunref12_Find.l4 k x4 x5 x6 x9 x10 x11 x13 (wrap64 (x14 + 1))) else (if 0 ≤ x13 then (if x13 < (x5.length : Int) then (if 0 ≤ x9 then (if x9 < ((rd_L1 x5 x13).length : Int) then (if 0 ≤ x14 then (if x14 < (x5.length : Int) then (if x9 < ((rd_L1 x5 x14).length : Int) then ((marblerunref01_Gcd.f k (rd (rd_L1 x5 x13) x9) (rd (rd_L1 x5 x14) x9)).bind fun t377 => ((marblerunref12_size.f (rd (rd_L1 x5 x14) x9)).bind fun t380 => (if t377 = 0 then (none) else ((marblerunref12_size.f (rd (rd_L1 x5 x13) x9)).bind fun t383 => (marblerunref12_Find.l5 k x4 x5 x6 x9 x10 x11 x13 x14 (wrap64 (Int.tdiv t380 t377)) (wrap64 (Int.tdiv t383 t377)) ([] : List Int) 0 0))))) else (none)) else (none)) else (none)) else (none)) else (none)) else (none)) else (none))
def marblerunref12_Find.l5 : Nat → List (List Int) → List (List Int) → Int → Int → List (List Int) → List (List Int) → Int → Int → Int → Int → List Int → Int → Int → Option ((List (List Int)) × Int)
 | 0, _, _, _, _, _, _, _, _, _, _, _, _, _ => none
 | k + 1, x4, x5, x6, x9, x10, x11, x13, x14, x16, x17, x18, x19, x20 => if 0 ≤ x13 then (if x13 < (x4.length : Int) then (if x20 < (wrap64 (((rd_L1 x4 x13).length : Int) + x6)) then (if x20 < ((rd_L1 x4 x13).length : Int) then (if 0 ≤ x20 then (if 0 ≤ x14 then (if x14 < (x4.length : Int) then (if x20 < ((rd_L1 x4 x14).length : Int) then (marblerunref12_Find.j7 k x4 x5 x6 x9 x10 x11 x13 x14 x16 x17 x18 x19 x20 (rd (rd_L1 x4 x13) x20) (rd (rd_L1 x4 x14) x20)) else (none)) else (none)) else (none)) else (none)) else (if x13 < (x5.length : Int) then (if 0 ≤ (wrap64 (x20 - ((rd_L1 x4 x13).length : Int))) then (if (wrap64 (x20 - ((rd_L1 x4 x13).length : Int))) < ((rd_L1 x5 x13).length : Int) then (if 0 ≤ x14 then (if x14 < (x5.length : Int) then (if (wrap64 (x20 - ((rd_L1 x4 x13).length : Int))) < ((rd_L1 x5 x14).length : Int) then (marblerunref12_Find.j7 k x4 x5 x6 x9 x10 x11 x13 x14 x16 x17 x18 x19 x20 (rd (rd_L1 x5 x13) (wrap64 (x20 - ((rd_L1 x4 x13).length : Int)))) (rd (rd_L1 x5 x14) (wrap64 (x20 - ((rd_L1 x4 x13).length : Int))))) else (none)) else (none)) else (none)) else (none)) else (none)) else (none))) else (marblerunref12_Find.l6 k x4 x5 x6 x9 x10 x11 x13 x14 x18 x19 0)) else (none)) else (none)
def marblerunref12_Find.j7 : Nat → List (List Int) → List (List Int) → Int → Int → List (List Int) → List (List Int) → Int → Int → Int → Int → List Int → Int → Int → Int → Int → Option ((List (List Int)) × Int)
 | 0, _, _, _, _, _, _, _, _, _, _, _, _, _, _, _ => none
 | k + 1, x4, x5, x6, x9, x10, x11, x13, x14, x16, x17, x18, x19, x20, x21, x22 => (marblerunref01_Dot.f k (([x16, x17] : List Int)) (([x21, x22] : List Int))).bind fun bt402 => (if bt402.2 = true then (if bt402.1 = (-9223372036854775808) then (some (([] : List (List Int)), 3)) else (if x18.length < 17592186044416 then ((marblerunref01_Gcd.f k x19 bt402.1).bind fun t407 => (marblerunref12_Find.l5 k x4 x5 x6 x9 x10 x11 x13 x14 x16 x17 (x18 ++ [bt402.1]) t407 (wrap64 (x20 + 1)))) else (none))) else (some (([] : List (List Int)), 3)))
def marblerunref12_Find.j9 : Nat → List (List Int) → List (List Int) → Int → Int → List (List Int) → List (List Int) → Int → Int → List Int → Option ((List (List Int)) × Int)
 | 0, _, _, _, _, _, _, _, _, _ => none
 | k + 1, x4, x5, x6, x9, x10, x11, x13, x14, x18 => if 0 ≤ x13 then (if x13 < (x4.length : Int) then (if 0 ≤ ((rd_L1 x4 x13).length : Int) then (if ((rd_L1 x4 x13).length : Int) ≤ (x18.length : Int) then (if x10.length < 5864062014805 then ((some (x10 ++ [(x18.take (((rd_L1 x4 x13).length : Int) : Int).toNat)] : List (List Int))).bind fun y416 => (if x11.length < 5864062014805 then (if (y416.length : Int) > 400 then (some (([] : List (List Int)), 5)) else (marblerunref12_Find.l4 k x4 x5 x6 x9 y416 (x11 ++ [(x18.drop (((rd_L1 x4 x13).length : Int) : Int).toNat)]) x13 (wrap64 (x14 + 1)))) else (none))) else (none)) else (none)) else (none)) else (none)) else (none)
def marblerunref12_Find.l6 : Nat → List (List Int) → List (List Int) → Int → Int → List (List Int) → List (List Int) → Int → Int → List Int → Int → Int → Option ((List (List Int)) × Int)
 | 0, _, _, _, _, _, _, _, _, _, _, _ => none
 | k + 1, x4, x5, x6, x9, x10, x11, x13, x14, x18, x19, x25 => if x25 < (x18.length : Int) then (if x19 > 1 then (if 0 ≤ x25 then (if x19 = 0 then (none) else (marblerunref12_Find.l6 k x4 x5 x6 x9 x10 x11 x13 x14 (x18.set (x25 : Int).toNat (wrap64 (Int.tdiv (rd x18 x25) x19))) x19 (wrap64 (x25 + 1)))) else (none)) else (marblerunref12_Find.j9 k x4 x5 x6 x9 x10 x11 x13 x14 x18)) else (marblerunref12_Find.j9 k x4 x5 x6 x9 x10 x11 x13 x14 x18)
def marblerunref12_Find.l7 : Nat → List (List Int) → List (List Int) → Int → Int → List (List Int) → List (List Int) → Int → Option ((List (List Int)) × Int)
 | 0, _, _, _, _, _, _, _ => none
 | k + 1, x4, x5, x6, x9, x10, x11, x26 => if x26 < (x10.length : Int) then (marblerunref12_Find.l8 k x4 x5 x6 x9 x10 x11 x26 true 0) else (marblerunref12_Find.l1 k x4 x5 x6 (wrap64 (x9 + 1)))
def marblerunref12_Find.l8 : Nat → List (List Int) → List (List Int) → Int → Int → List (List Int) → List (List Int) → Int → Bool → Int → Option ((List (List Int)) × Int)
 | 0, _, _, _, _, _, _, _, _, _ => none
 | k + 1, x4, x5, x6, x9, x10, x11, x26, x27, x28 => if x28 < (x10.length : Int) then (if x28 = x26 then (marblerunref12_Find.j12 k x4 x5 x6 x9 x10 x11 x26 x27 x28 false) else (if 0 ≤ x28 then (if 0 ≤ x26 then (if x26 < (x10.length : Int) then ((marblerunref12_within.f k (rd_L1 x10 x28) (rd_L1 x10 x26)).bind fun t430 => (if t430 = true then ((marblerunref12_within.f k (rd_L1 x10 x26) (rd_L1 x10 x28)).bind fun t433 => (if t433 = true then (marblerunref12_Find.j12 k x4 x5 x6 x9 x10 x11 x26 x27 x28 (decide (x28 < x26))) else (marblerunref12_Find.j12 k x4 x5 x6 x9 x10 x11 x26 x27 x28 true))) else (marblerunref12_Find.j12 k x4 x5 x6 x9 x10 x11 x26 x27 x28 false))) else (none)) else (none)) else (none))) else (if x27 = true then (if 0 ≤ x26 then (if x26 < (x10.length : Int) then (if x4.length < 5864062014805 then (if x26 < (x11.length : Int) then (if x5.length < 5864062014805 then (marblerunref12_Find.l7 k (x4 ++ [rd_L1 x10 x26]) (x5 ++ [rd_L1 x11 x26]) x6 x9 x10 x11 (wrap64 (x26 + 1))) else (none)) else (none)) else (none)) else (none)) else (none)) else (marblerunref12_Find.l7 k x4 x5 x6 x9 x10 x11 (wrap64 (x26 + 1))))
def marblerunref12_Find.j12 : Nat → List (List Int) → List (List Int) → Int → Int → List (List Int) → List (List Int) → Int → Bool → Int → Bool → Option ((List (List Int)) × Int)
 | 0, _, _, _, _, _, _, _, _, _, _ => none
 | k + 1, x4, x5, x6, x9, x10, x11, x26, x27, x28, x345 => if x345 = true then (marblerunref12_Find.l8 k x4 x5 x6 x9 x10 x11 x26 false (wrap64 (x28 + 1))) else (marblerunref12_Find.l8 k x4 x5 x6 x9 x10 x11 x26 x27 (wrap64 (x28 + 1)))
end
def marblerunref12_Find.f (k : Nat) (l0 : List (List Int)) : Option ((List (List Int)) × Int) := marblerunref12_Find.l0 k l0 ([] : List (List Int)) ([] : List (List Int)) 0 0
theorem marblerunref12_Find.mono_l : ∀ k, (∀ y0 y1 y2 y3 y4, LeO (marblerunref12_Find.l0 k y0 y1 y2 y3 y4) (marblerunref12_Find.l0 (k + 1) y0 y1 y2 y3 y4)) ∧ (∀ y0 y1 y2 y3, LeO (marblerunref12_Find.l1 k y0 y1 y2 y3) (marblerunref12_Find.l1 (k + 1) y0 y1 y2 y3)) ∧ (∀ y0 y1 y2 y3 y4 y5 y6, LeO (marblerunref12_Find.l2 k y0 y1 y2 y3 y4 y5 y6) (marblerunref12_Find.l2 (k + 1) y0 y1 y2 y3 y4 y5 y6)) ∧ (∀ y0 y1 y2 y3 y4 y5 y6, LeO (marblerunref12_Find.l3 k y0 y1 y2 y3 y4 y5 y6) (marblerunref12_Find.l3 (k + 1) y0 y1 y2 y3 y4 y5 y6)) ∧ (∀ y0 y1 y2 y3 y4 y5 y6 y7, LeO (marblerunref12_Find.l4 k y0 y1 y2 y3 y4 y5 y6 y7) (marblerunref12_Find.l4 (k + 1) y0 y1 y2 y3 y4 y5 y6 y7)) ∧ (∀ y0 y1 y2 y3 y4 y5 y6 y7 y8, LeO (marblerunref12_Find.j5 k y0 y1 y2 y3 y4 y5 y6 y7 y8) (marblerunref12_Find.j5 (k + 1) y0 y1 y2 y3 y4 y5 y6 y7 y8)) ∧ (∀ y0 y1 y2 y3 y4 y5 y6 y7 y8 y9 y10 y11 y12, LeO (marblerunref12_Find.l5 k y0 y1 y2 y3 y4 y5 y6 y7 y8 y9 y10 y11 y12) (marblerunref12_Find.l5 (k + 1) y0 y1 y2 y3 y4 y5 y6 y7 y8 y9 y10 y11 y12)) ∧ (∀ y0 y1 y2 y3 y4 y5 y6 y7 y8 y9 y10 y11 y12 y13 y14, LeO (marblerunref12_Find.j7 k y0 y1 y2 y3 y4 y5 y6 y7 y8 y9 y10 y11 y12 y13 y14) (marblerunref12_Find.j7 (k + 1) y0 y1 y2 y3 y4 y5 y6 y7 y8 y9 y10 y11 y12 y13 y14)) ∧ (∀ y0 y1 y2 y3 y4 y5 y6 y7 y8, LeO (marblerunref12_Find.j9 k y0 y1 y2 y3 y4 y5 y6 y7 y8) (marblerunref12_Find.j9 (k + 1) y0 y1 y2 y3 y4 y5 y6 y7 y8)) ∧ (∀ y0 y1 y2 y3 y4 y5 y6 y7 y8 y9 y10, LeO (marblerunref12_Find.l6 k y0 y1 y2 y3 y4 y5 y6 y7 y8 y9 y10) (marblerunref12_Find.l6 (k + 1) y0 y1 y2 y3 y4 y5 y6 y7 y8 y9 y10)) ∧ (∀ y0 y1 y2 y3 y4 y5 y6, LeO (marblerunref12_Find.l7 k y0 y1 y2 y3 y4 y5 y6) (marblerunref12_Find.l7 (k + 1) y0 y1 y2 y3 y4 y5 y6)) ∧ (∀ y0 y1 y2 y3 y4 y5 y6 y7 y8, LeO (marblerunref12_Find.l8 k y0 y1 y2 y3 y4 y5 y6 y7 y8) (marblerunref12_Find.l8 (k + 1) y0 y1 y2 y3 y4 y5 y6 y7 y8)) ∧ (∀ y0 y1 y2 y3 y4 y5 y6 y7 y8 y9, LeO (marblerunref12_Find.j12 k y0 y1 y2 y3 y4 y5 y6 y7 y8 y9) (marblerunref12_Find.j12 (k + 1) y0 y1 y2 y3 y4 y5 y6 y7 y8 y9))
 | 0 => ⟨fun _ _ _ _ _ r h => by simp [marblerunref12_Find.l0] at h, fun _ _ _ _ r h => by simp [marblerunref12_Find.l1] at h, fun _ _ _ _ _ _ _ r h => by simp [marblerunref12_Find.l2] at h, fun _ _ _ _ _ _ _ r h => by simp [marblerunref12_Find.l3] at h, fun _ _ _ _ _ _ _ _ r h => by simp [marblerunref12_Find.l4] at h, fun _ _ _ _ _ _ _ _ _ r h => by simp [marblerunref12_Find.j5] at h, fun _ _ _ _ _ _ _ _ _ _ _ _ _ r h => by simp [marblerunref12_Find.l5] at h, fun _ _ _ _ _ _ _ _ _ _ _ _ _ _ _ r h => by simp [marblerunref12_Find.j7] at h, fun _ _ _ _ _ _ _ _ _ r h => by simp [marblerunref12_Find.j9] at h, fun _ _ _ _ _ _ _ _ _ _ _ r h => by simp [marblerunref12_Find.l6] at h, fun _ _ _ _ _ _ _ r h => by simp [marblerunref12_Find.l7] at h, fun _ _ _ _ _ _ _ _ _ r h => by simp [marblerunref12_Find.l8] at h, fun _ _ _ _ _ _ _ _ _ _ r h => by simp [marblerunref12_Find.j12] at h⟩
 | k + 1 => by
  obtain ⟨ih0, ih1, ih2, ih3, ih4, ih5, ih6, ih7, ih8, ih9, ih10, ih11, ih12⟩ := marblerunref12_Find.mono_l k
  refine ⟨?_, ?_, ?_, ?_, ?_, ?_, ?_, ?_, ?_, ?_, ?_, ?_, ?_⟩
  all_goals
   intros
   first
   | unfold marblerunref12_Find.l0
   | unfold marblerunref12_Find.l1
   | unfold marblerunref12_Find.l2
   | unfold marblerunref12_Find.l3
   | unfold marblerunref12_Find.l4
   | unfold marblerunref12_Find.j5
   | unfold marblerunref12_Find.l5
   | unfold marblerunref12_Find.j7
   | unfold marblerunref12_Find.j9
   | unfold marblerunref12_Find.l6
   | unfold marblerunref12_Find.l7
   | unfold marblerunref12_Find.l8
   | unfold marblerunref12_Find.j12
   repeat' first
   | (with_reducible exact ih0 _ _ _ _ _)
   | (with_reducible exact ih1 _ _ _ _)
   | (with_reducible exact ih2 _ _ _ _ _ _ _)
   | (with_reducible exact ih3 _ _ _ _ _ _ _)
   | (with_reducible exact ih4 _ _ _ _ _ _ _ _)
   | (with_reducible exact ih5 _ _ _ _ _ _ _ _ _)
   | (with_reducible exact ih6 _ _ _ _ _ _ _ _ _ _ _ _ _)
   | (with_reducible exact ih7 _ _ _ _ _ _ _ _ _ _ _ _ _ _ _)
   | (with_reducible exact ih8 _ _ _ _ _ _ _ _ _)
   | (with_reducible exact ih9 _ _ _ _ _ _ _ _ _ _ _)
   | (with_reducible exact ih10 _ _ _ _ _ _ _)
   | (with_reducible exact ih11 _ _ _ _ _ _ _ _ _)
   | (with_reducible exact ih12 _ _ _ _ _ _ _ _ _ _)
   | (with_reducible exact marblerunref01_Dot.mono _ _ _)
   | (with_reducible exact marblerunref01_Gcd.mono _ _ _)
   | (with_reducible exact marblerunref12_within.mono _ _ _)
   | (with_reducible exact LeO.refl _)
   | (with_reducible exact LeO.none _)
   | (with_reducible refine LeO.ite ?_ ?_)
   | (with_reducible refine LeO.bind ?_ (fun _ => ?_))
   | exact ih0 _ _ _ _ _
   | exact ih1 _ _ _ _
   | exact ih2 _ _ _ _ _ _ _
   | exact ih3 _ _ _ _ _ _ _
   | exact ih4 _ _ _ _ _ _ _ _
   | exact ih5 _ _ _ _ _ _ _ _ _
   | exact ih6 _ _ _ _ _ _ _ _ _ _ _ _ _
   | exact ih7 _ _ _ _ _ _ _ _ _ _ _ _ _ _ _
   | exact ih8 _ _ _ _ _ _ _ _ _
   | exact ih9 _ _ _ _ _ _ _ _ _ _ _
   | exact ih10 _ _ _ _ _ _ _
   | exact ih11 _ _ _ _ _ _ _ _ _
   | exact ih12 _ _ _ _ _ _ _ _ _ _
   | exact marblerunref01_Dot.mono _ _ _
   | exact marblerunref01_Gcd.mono _ _ _
   | exact marblerunref12_within.mono _ _ _
   | exact LeO.none _
   | refine LeO.ite ?_ ?_
   | refine LeO.bind ?_ (fun _ => ?_)
theorem marblerunref12_Find.mono : ∀ a0 k, LeO (marblerunref12_Find.f k a0) (marblerunref12_Find.f (k + 1) a0) := by
 intro a0 k
 obtain ⟨ih0, ih1, ih2, ih3, ih4, ih5, ih6, ih7, ih8, ih9, ih10, ih11, ih12⟩ := marblerunref12_Find.mono_l k
 unfold marblerunref12_Find.f
 repeat' first
  | (with_reducible exact ih0 _ _ _ _ _)
  | (with_reducible exact ih1 _ _ _ _)
  | (with_reducible exact ih2 _ _ _ _ _ _ _)
  | (with_reducible exact ih3 _ _ _ _ _ _ _)
  | (with_reducible exact ih4 _ _ _ _ _ _ _ _)
  | (with_reducible exact ih5 _ _ _ _ _ _ _ _ _)
  | (with_reducible exact ih6 _ _ _ _ _ _ _ _ _ _ _ _ _)
  | (with_reducible exact ih7 _ _ _ _ _ _ _ _ _ _ _ _ _ _ _)
  | (with_reducible exact ih8 _ _ _ _ _ _ _ _ _)
  | (with_reducible exact ih9 _ _ _ _ _ _ _ _ _ _ _)
  | (with_reducible exact ih10 _ _ _ _ _ _ _)
  | (with_reducible exact ih11 _ _ _ _ _ _ _ _ _)
  | (with_reducible exact ih12 _ _ _ _ _ _ _ _ _ _)
  | (with_reducible exact marblerunref01_Dot.mono _ _ _)
  | (with_reducible exact marblerunref01_Gcd.mono _ _ _)
  | (with_reducible exact marblerunref12_within.mono _ _ _)
  | (with_reducible exact LeO.refl _)
  | (with_reducible exact LeO.none _)
  | (with_reducible refine LeO.ite ?_ ?_)
  | (with_reducible refine LeO.bind ?_ (fun _ => ?_))
  | exact ih0 _ _ _ _ _
  | exact ih1 _ _ _ _
  | exact ih2 _ _ _ _ _ _ _
  | exact ih3 _ _ _ _ _ _ _
  | exact ih4 _ _ _ _ _ _ _ _
  | exact ih5 _ _ _ _ _ _ _ _ _
  | exact ih6 _ _ _ _ _ _ _ _ _ _ _ _ _
  | exact ih7 _ _ _ _ _ _ _ _ _ _ _ _ _ _ _
  | exact ih8 _ _ _ _ _ _ _ _ _
  | exact ih9 _ _ _ _ _ _ _ _ _ _ _
  | exact ih10 _ _ _ _ _ _ _
  | exact ih11 _ _ _ _ _ _ _ _ _
  | exact ih12 _ _ _ _ _ _ _ _ _ _
  | exact marblerunref01_Dot.mono _ _ _
  | exact marblerunref01_Gcd.mono _ _ _
  | exact marblerunref12_within.mono _ _ _
  | exact LeO.none _
  | refine LeO.ite ?_ ?_
  | refine LeO.bind ?_ (fun _ => ?_)
def marblerunref12_Find.T28 : Bool × List (List Nat × List Nat) := (true, [([], []), ([], []), ([0, 1], [0, 1]), ([2], [2]), ([], []), ([3, 4], [3, 4]), ([5], [5]), ([], []), ([], []), ([7, 8], [7, 8]), ([9], [9]), ([], []), ([10, 11], [10, 11]), ([12], [12]), ([6, 13], [6, 13]), ([14, 14, 0, 1, 2, 3, 4, 5, 6, 7, 8, 9, 10, 11, 12, 13, 14], [14])])
def marblerunref12_Find.B28 : List Nat := [0, 0, 3, 7, 0, 31, 63, 0, 0, 384, 896, 0, 3968, 8064, 16383, 32767]
theorem marblerunref12_Find.tab28 : rtab .any (opsOf Try.f17 28) = marblerunref12_Find.T28 := by kernel_rfl
theorem marblerunref12_Find.bits28 : waitsOk marblerunref12_Find.T28.2 marblerunref12_Find.B28 = true := by kernel_rfl
def marblerunref12_Find.T41 : Bool × List (List Nat × List Nat) := (true, [([], []), ([], []), ([0, 1], [0, 1]), ([2], [2]), ([], []), ([], []), ([], []), ([5, 6], [5, 6]), ([7], [7]), ([8], [8]), ([4, 9], [4, 9]), ([3, 10], [3, 10]), ([11], [11]), ([12, 0, 1, 2, 3, 4, 5, 6, 7, 8, 9, 10, 11, 12], [12])])
def marblerunref12_Find.B41 : List Nat := [0, 0, 3, 7, 0, 0, 0, 96, 224, 480, 1008, 2047, 4095, 8191]
theorem marblerunref12_Find.tab41 : rtab .any (opsOf Try.f17 41) = marblerunref12_Find.T41 := by kernel_rfl
theorem marblerunref12_Find.bits41 : waitsOk marblerunref12_Find.T41.2 marblerunref12_Find.B41 = true := by kernel_rfl
def marblerunref12_Find.T42 : Bool × List (List Nat × List Nat) := (true, [([], []), ([], []), ([0, 1], [0, 1]), ([2], [2]), ([], []), ([], []), ([], []), ([5, 6], [5, 6]), ([7], [7]), ([8], [8]), ([4, 9], [4, 9]), ([3, 10], [3, 10]), ([11], [11]), ([12, 0, 1, 2, 3, 4, 5, 6, 7, 8, 9, 10, 11, 12], [12])])
def marblerunref12_Find.B42 : List Nat := [0, 0, 3, 7, 0, 0, 0, 96, 224, 480, 1008, 2047, 4095, 8191]
theorem marblerunref12_Find.tab42 : rtab .any (opsOf Try.f17 42) = marblerunref12_Find.T42 := by kernel_rfl
theorem marblerunref12_Find.bits42 : waitsOk marblerunref12_Find.T42.2 marblerunref12_Find.B42 = true := by kernel_rfl
def marblerunref12_Find.T65 : Bool × List (List Nat × List Nat) := (true, [([], []), ([], []), ([0, 1], [0, 1]), ([2], [2]), ([3], [3]), ([3], [3]), ([4, 5, 3], [3, 4, 5]), ([6, 3], [3, 6]), ([3], [3]), ([3], [3]), ([8, 9, 3], [3, 8, 9]), ([10, 3], [3, 10]), ([7, 11, 3, 3], [3, 7, 11]), ([3, 12], [3, 12]), ([13, 12], [13]), ([14], [14]), ([14], [14]), ([15, 16, 14], [14, 15, 16]), ([17, 14], [14, 17]), ([14], [14]), ([14], [14]), ([19, 20, 14], [14, 19, 20]), ([21, 14], [14, 21]), ([18, 22, 14, 14], [14, 18, 22]), ([23, 14], [14, 23]), ([24, 23, 14], [14, 24]), ([25], [25]), ([25], [25]), ([26, 27, 25], [25, 26, 27]), ([25, 28, 14], [14, 25, 28]), ([14, 29], [14, 29])])
def marblerunref12_Find.B65 : List Nat := [0, 0, 3, 7, 15, 15, 63, 127, 15, 15, 783, 1807, 4095, 8191, 16383, 32767, 32767, 131071, 262143, 32767, 32767, 1605631, 3702783, 8388607, 16777215, 33554431, 67108863, 67108863, 268435455, 536870911, 1073741823]
theorem marblerunref12_Find.tab65 : rtab .any (opsOf Try.f17 65) = marblerunref12_Find.T65 := by kernel_rfl
theorem marblerunref12_Find.bits65 : waitsOk marblerunref12_Find.T65.2 marblerunref12_Find.B65 = true := by kernel_rfl

end Go.Proofs.Ytifbflpaednfnaa.PBasisRaw
