/- What the functions that this law reaches answer, in whatever memory, and the row of the law; no condition. Written by a program of this session (mk.sh). -/
import Derived.Test.YtigpmhicdmjbeaaPWeighStaysx0
namespace Go.Proofs.Ytigpmhicdmjbeaa.PWeighStays
open Go.RowKit Go.Proofs.YtigpmhicdmjbeaaW.PrintWords Go.Proofs.YtigpmhicdmjbeaaW.PrintLast Go.Proofs.YtigpmhicdmjbeaaW.PrintMore
attribute [local go_sem] max2_int min2_int max_two min_two max_three min_three max_four min_four   -- for this text's walks alone
set_option linter.unusedVariables false
set_option linter.unusedSimpArgs false

/-! ### whole_Add: function 43 -/
def whole_Add.f (a0 : Int) (a1 : Int) : Option (Int × Bool) := if ((decide (a0 < 0)) == (decide (a1 < 0))) = true then (if ((decide ((wrap64 (a0 + a1)) < 0)) != (decide (a0 < 0))) = true then (some (0, false)) else (some (wrap64 (a0 + a1), true))) else (some (wrap64 (a0 + a1), true))
set_option maxHeartbeats 8000000 in
set_option maxRecDepth 100000 in
theorem whole_Add.calls (a0 : Int) (a1 : Int) (r1 : Int) (r2 : Bool) (w : World) (h : whole_Add.f a0 a1 = some (r1, r2)) :
 Calls Try.prog 43 #[.int .i64 a0, .int .i64 a1] w fun e w' => e = .returned (.tuple #[.int .i64 r1, .bool r2]) ∧ Drawn0 w w' := by
 have H : (if ((decide (a0 < 0)) == (decide (a1 < 0))) = true then (if ((decide ((wrap64 (a0 + a1)) < 0)) != (decide (a0 < 0))) = true then (some (0, false)) else (some (wrap64 (a0 + a1), true))) else (some (wrap64 (a0 + a1), true))) = some (r1, r2) := h; clear h
 by_cases c3 : ((decide (a0 < 0)) == (decide (a1 < 0))) = true
 ·rw [if_pos c3] at H; have a2 : ((decide (a0 < 0)) == (decide (a1 < 0))) = true := c3; (try (have a3 : decide ((decide (a0 < 0)) = (decide (a1 < 0))) = true := by simpa using c3)); (try (have a4 : ((decide (a0 < 0)) == (decide (a1 < 0))) = true := by simpa using c3)); clear c3
  by_cases c4 : ((decide ((wrap64 (a0 + a1)) < 0)) != (decide (a0 < 0))) = true
  ·rw [if_pos c4] at H; have a5 : ((decide ((wrap64 (a0 + a1)) < 0)) != (decide (a0 < 0))) = true := c4; (try (have a6 : decide ((decide ((wrap64 (a0 + a1)) < 0)) = (decide (a0 < 0))) = false := by simpa using c4)); (try (have a7 : ((decide ((wrap64 (a0 + a1)) < 0)) == (decide (a0 < 0))) = false := by simpa using c4)); (try (have a8 : ¬ ((decide ((wrap64 (a0 + a1)) < 0)) = (decide (a0 < 0))) := by simpa using c4)); clear c4; obtain ⟨rfl, rfl⟩ := j2 H; go_enter Try.func43, Try.ntmps43; go_wp2; go_ret2; exact f0
  rw [if_neg c4] at H; have a5 : ((decide ((wrap64 (a0 + a1)) < 0)) != (decide (a0 < 0))) = false := by simpa using c4
  (try (have a6 : decide ((decide ((wrap64 (a0 + a1)) < 0)) = (decide (a0 < 0))) = true := by simpa using c4)); (try (have a7 : ((decide ((wrap64 (a0 + a1)) < 0)) == (decide (a0 < 0))) = true := by simpa using c4)); clear c4; obtain ⟨rfl, rfl⟩ := j2 H; go_enter Try.func43, Try.ntmps43; go_wp2; go_ret2; exact f0
 rw [if_neg c3] at H; have a2 : ((decide (a0 < 0)) == (decide (a1 < 0))) = false := by simpa using c3
 (try (have a3 : decide ((decide (a0 < 0)) = (decide (a1 < 0))) = false := by simpa using c3)); (try (have a4 : ((decide (a0 < 0)) == (decide (a1 < 0))) = false := by simpa using c3)); (try (have a9 : ¬ ((decide (a0 < 0)) = (decide (a1 < 0))) := by simpa using c3)); clear c3; obtain ⟨rfl, rfl⟩ := j2 H; go_enter Try.func43, Try.ntmps43; go_wp2; go_ret2; exact f0

/-! ### bits_Mul64: function 53 -/
def bits_Mul64.f (a0 : Int) (a1 : Int) : Option (Int × Int) := some (IntKind.u64.wrap ((IntKind.u64.wrap ((IntKind.u64.wrap ((a0 / 4294967296) * (a1 / 4294967296))) + ((IntKind.u64.wrap ((IntKind.u64.wrap ((a0 / 4294967296) * (Go.bits .and .u64 a1 4294967295))) + ((IntKind.u64.wrap ((Go.bits .and .u64 a0 4294967295) * (Go.bits .and .u64 a1 4294967295))) / 4294967296))) / 4294967296))) + ((IntKind.u64.wrap ((Go.bits .and .u64 (IntKind.u64.wrap ((IntKind.u64.wrap ((a0 / 4294967296) * (Go.bits .and .u64 a1 4294967295))) + ((IntKind.u64.wrap ((Go.bits .and .u64 a0 4294967295) * (Go.bits .and .u64 a1 4294967295))) / 4294967296))) 4294967295) + (IntKind.u64.wrap ((Go.bits .and .u64 a0 4294967295) * (a1 / 4294967296))))) / 4294967296)), IntKind.u64.wrap (a0 * a1))
set_option maxHeartbeats 8000000 in
set_option maxRecDepth 100000 in
theorem bits_Mul64.calls (a0 : Int) (a1 : Int) (r1 : Int) (r2 : Int) (w : World) (h : bits_Mul64.f a0 a1 = some (r1, r2)) :
 Calls Try.prog 53 #[.int .u64 a0, .int .u64 a1] w fun e w' => e = .returned (.tuple #[.int .u64 r1, .int .u64 r2]) ∧ Drawn0 w w' := by
 have H : (some (IntKind.u64.wrap ((IntKind.u64.wrap ((IntKind.u64.wrap ((a0 / 4294967296) * (a1 / 4294967296))) + ((IntKind.u64.wrap ((IntKind.u64.wrap ((a0 / 4294967296) * (Go.bits .and .u64 a1 4294967295))) + ((IntKind.u64.wrap ((Go.bits .and .u64 a0 4294967295) * (Go.bits .and .u64 a1 4294967295))) / 4294967296))) / 4294967296))) + ((IntKind.u64.wrap ((Go.bits .and .u64 (IntKind.u64.wrap ((IntKind.u64.wrap ((a0 / 4294967296) * (Go.bits .and .u64 a1 4294967295))) + ((IntKind.u64.wrap ((Go.bits .and .u64 a0 4294967295) * (Go.bits .and .u64 a1 4294967295))) / 4294967296))) 4294967295) + (IntKind.u64.wrap ((Go.bits .and .u64 a0 4294967295) * (a1 / 4294967296))))) / 4294967296)), IntKind.u64.wrap (a0 * a1))) = some (r1, r2) := h; clear h; obtain ⟨rfl, rfl⟩ := j2 H; go_enter Try.func53, Try.ntmps53; go_wp2; go_ret2; exact f0

/-! ### whole_size: function 54 -/
def whole_size.f (a0 : Int) : Option (Int) := if a0 < 0 then (some (IntKind.u64.wrap (-(IntKind.u64.wrap (a0))))) else (some (IntKind.u64.wrap (a0)))
set_option maxHeartbeats 8000000 in
set_option maxRecDepth 100000 in
theorem whole_size.calls (a0 : Int) (r : Int) (w : World) (h : whole_size.f a0 = some r) :
 Calls Try.prog 54 #[.int .i64 a0] w fun e w' => e = .returned (.int .u64 r) ∧ Drawn0 w w' := by
 have H : (if a0 < 0 then (some (IntKind.u64.wrap (-(IntKind.u64.wrap (a0))))) else (some (IntKind.u64.wrap (a0)))) = some r := h; clear h
 by_cases c2 : a0 < 0
 ·rw [if_pos c2] at H; have a1 := decide_eq_true c2; clear c2; obtain rfl := Option.some.inj H; go_enter Try.func54, Try.ntmps54; go_wp2; go_ret; exact f0
 rw [if_neg c2] at H; have a1 := decide_eq_false c2; clear c2; obtain rfl := Option.some.inj H; go_enter Try.func54, Try.ntmps54; go_wp2; go_ret; exact f0

/-! ### whole_Mul: function 51 -/
mutual
def whole_Mul.j0 : Nat → Int → Int → Bool → Option (Int × Bool)
 | 0, _, _, _ => none
 | k + 1, x6, x7, x8 => if x6 > 0 then (whole_Mul.j1 k x7 x8 true) else (if x7 > 9223372036854775808 then (whole_Mul.j1 k x7 x8 true) else (if x7 = 9223372036854775808 then (whole_Mul.j1 k x7 x8 (!x8)) else (whole_Mul.j1 k x7 x8 false)))
def whole_Mul.j1 : Nat → Int → Bool → Bool → Option (Int × Bool)
 | 0, _, _, _ => none
 | k + 1, x7, x8, x30 => if x30 = true then (some (0, false)) else (if x8 = true then (some (wrap64 (IntKind.u64.wrap (-x7)), true)) else (some (wrap64 (x7), true)))
end
def whole_Mul.f (k : Nat) (a0 : Int) (a1 : Int) : Option (Int × Bool) := (whole_size.f a0).bind fun t214 => ((whole_size.f a1).bind fun t215 => ((bits_Mul64.f t214 t215).bind fun bt216 => (if ((decide (a0 < 0)) != (decide (a1 < 0))) = true then (if a0 = 0 then (whole_Mul.j0 k bt216.1 bt216.2 false) else (whole_Mul.j0 k bt216.1 bt216.2 (a1 != 0))) else (whole_Mul.j0 k bt216.1 bt216.2 false))))
theorem whole_Mul.mono_l : ∀ k, (∀ y0 y1 y2, LeO (whole_Mul.j0 k y0 y1 y2) (whole_Mul.j0 (k + 1) y0 y1 y2)) ∧ (∀ y0 y1 y2, LeO (whole_Mul.j1 k y0 y1 y2) (whole_Mul.j1 (k + 1) y0 y1 y2))
 | 0 => ⟨fun _ _ _ r h => by simp [whole_Mul.j0] at h, fun _ _ _ r h => by simp [whole_Mul.j1] at h⟩
 | k + 1 => by
   obtain ⟨ih0, ih1⟩ := whole_Mul.mono_l k
   refine ⟨?_, ?_⟩ <;> intros
   unfold whole_Mul.j0; rotate_left
   unfold whole_Mul.j1; rotate_left
   all_goals (repeat' with_reducible first | apply ih0 | apply ih1 | apply LeO.refl | apply LeO.none | refine LeO.ite ?_ ?_ | refine LeO.bind ?_ fun _ => ?_)
theorem whole_Mul.mono : ∀ a0 a1 k, LeO (whole_Mul.f k a0 a1) (whole_Mul.f (k + 1) a0 a1) := by
 intro a0 a1 k
 obtain ⟨ih0, ih1⟩ := whole_Mul.mono_l k
 unfold whole_Mul.f
 repeat' with_reducible first | apply ih0 | apply ih1 | apply LeO.refl | apply LeO.none | refine LeO.ite ?_ ?_ | refine LeO.bind ?_ fun _ => ?_
set_option maxHeartbeats 8000000 in
set_option maxRecDepth 100000 in
theorem whole_Mul.calls (k : Nat) (a0 : Int) (a1 : Int) (r1 : Int) (r2 : Bool) (w : World) (h : whole_Mul.f k a0 a1 = some (r1, r2)) :
 Calls Try.prog 51 #[.int .i64 a0, .int .i64 a1] w fun e w' => e = .returned (.tuple #[.int .i64 r1, .bool r2]) ∧ Drawn0 w w' := by
 have H : ((whole_size.f a0).bind fun a7 => ((whole_size.f a1).bind fun a5 => ((bits_Mul64.f a7 a5).bind fun a2 => (if ((decide (a0 < 0)) != (decide (a1 < 0))) = true then (if a0 = 0 then (whole_Mul.j0 k a2.1 a2.2 false) else (whole_Mul.j0 k a2.1 a2.2 (a1 != 0))) else (whole_Mul.j0 k a2.1 a2.2 false))))) = some (r1, r2) := h; clear h; obtain ⟨a7, A3, H⟩ := bi H; replace H : ((whole_size.f a1).bind fun a5 => ((bits_Mul64.f a7 a5).bind fun a2 => (if ((decide (a0 < 0)) != (decide (a1 < 0))) = true then (if a0 = 0 then (whole_Mul.j0 k a2.1 a2.2 false) else (whole_Mul.j0 k a2.1 a2.2 (a1 != 0))) else (whole_Mul.j0 k a2.1 a2.2 false)))) = some (r1, r2) := H; obtain ⟨a5, A4, H⟩ := bi H; replace H : ((bits_Mul64.f a7 a5).bind fun a2 => (if ((decide (a0 < 0)) != (decide (a1 < 0))) = true then (if a0 = 0 then (whole_Mul.j0 k a2.1 a2.2 false) else (whole_Mul.j0 k a2.1 a2.2 (a1 != 0))) else (whole_Mul.j0 k a2.1 a2.2 false))) = some (r1, r2) := H; obtain ⟨⟨a6, a3⟩, A5, H⟩ := bi H; replace H : (if ((decide (a0 < 0)) != (decide (a1 < 0))) = true then (if a0 = 0 then (whole_Mul.j0 k a6 a3 false) else (whole_Mul.j0 k a6 a3 (a1 != 0))) else (whole_Mul.j0 k a6 a3 false)) = some (r1, r2) := H; have c6 := sk H; clear H; go_enter Try.func51, Try.ntmps51; go_upto_region 2 with (first | ((with_reducible refine gate_callee (f := 54) rfl ?_); refine goesD (some 11) rfl rfl Try.func54 rfl #[.int .i64 a0] rfl ?_; (with_reducible refine (whole_size.calls a0 a7 _ A3.out).mono ?_); rintro e w' ⟨rfl, ⟨nd, rfl⟩⟩; refine ⟨_, rfl, ?_⟩) | ((with_reducible refine gate_callee (f := 54) rfl ?_); refine goesD (some 13) rfl rfl Try.func54 rfl #[.int .i64 a1] rfl ?_; (with_reducible refine (whole_size.calls a1 a5 _ A4.out).mono ?_); rintro e w' ⟨rfl, ⟨nd, rfl⟩⟩; refine ⟨_, rfl, ?_⟩) | ((with_reducible refine gate_callee (f := 53) rfl ?_); refine goesD (some 14) rfl rfl Try.func53 rfl #[.int .u64 a7, .int .u64 a5] rfl ?_; (with_reducible refine (bits_Mul64.calls a7 a5 a6 a3 _ A5.out).mono ?_); rintro e w' ⟨rfl, ⟨nd, rfl⟩⟩; refine ⟨_, rfl, ?_⟩)); (try simp only [Act.put, List.setIfInBounds_toArray, List.set_cons_zero, List.set_cons_succ]); go_cut [8] (fun v8 wc => ∃ (kq : Nat) (a8 : Bool), v8 = .bool a8 ∧ Aside0 (whole_Mul.j0 kq a6 a3 a8 = some (r1, r2)) ∧ Aside0 (kq ≤ k) ∧ Drawn0 w wc)
 case first =>
  have H := c6.out; clear c6
  by_cases c7 : ((decide (a0 < 0)) != (decide (a1 < 0))) = true
  ·rw [if_pos c7] at H; have a9 : ((decide (a0 < 0)) != (decide (a1 < 0))) = true := c7; (try (have b5 : decide ((decide (a0 < 0)) = (decide (a1 < 0))) = false := by simpa using c7)); (try (have b6 : ((decide (a0 < 0)) == (decide (a1 < 0))) = false := by simpa using c7)); (try (have d0 : ¬ ((decide (a0 < 0)) = (decide (a1 < 0))) := by simpa using c7)); clear c7; (first | rw [a9] | (simp only [i64_w, i32_w]; rw [a9]) | skip)
   by_cases c8 : a0 = 0
   ·rw [if_pos c8] at H; have b7 := beq_iff_eq.mpr c8; have b8 := bne_eq_false_iff_eq.mpr c8; clear c8; have H' := sk H; clear H; go_wp2; go_meet
    case rel => exact ⟨_, (false), (by first | rfl | (simp; done) | (simp [*]; done)), H', ⟨by first | omega | exact Nat.le_refl _⟩, by repeat (first | exact Drawn0.refl _ | apply Drawn0.step)⟩
   rw [if_neg c8] at H; have b7 := beq_eq_false_iff_ne.mpr c8; have b8 := bne_iff_ne.mpr c8; have H' := sk H; clear H; go_wp2; go_meet
   case rel => exact ⟨_, ((a1 != 0)), (by first | rfl | (simp; done) | (simp [*]; done)), H', ⟨by first | omega | exact Nat.le_refl _⟩, by repeat (first | exact Drawn0.refl _ | apply Drawn0.step)⟩
  rw [if_neg c7] at H; have a9 : ((decide (a0 < 0)) != (decide (a1 < 0))) = false := by simpa using c7
  (try (have b5 : decide ((decide (a0 < 0)) = (decide (a1 < 0))) = true := by simpa using c7)); (try (have b6 : ((decide (a0 < 0)) == (decide (a1 < 0))) = true := by simpa using c7)); clear c7; (first | rw [a9] | (simp only [i64_w, i32_w]; rw [a9]) | skip); have H' := sk H; clear H; go_wp2; go_meet
  case rel => exact ⟨_, (false), (by first | rfl | (simp; done) | (simp [*]; done)), H', ⟨by first | omega | exact Nat.le_refl _⟩, by repeat (first | exact Drawn0.refl _ | apply Drawn0.step)⟩
 clear c6; (try clear p2); (try clear c5); (try clear c7); (try clear a9); (try clear b5); (try clear b6); (try clear c8); (try clear b7); (try clear b8); obtain ⟨kq, a8, rfl, HA, c2, ⟨d3, rfl⟩⟩ := hcut; cases kq with
 | zero => exact absurd HA.out (by simp [whole_Mul.j0])
 | succ d1 =>
  have H := HA.out; clear HA; simp only [whole_Mul.j0] at H; have c9 := sk H; clear H; go_upto_region 3 with (fail); go_cut [30] (fun d2 wc => ∃ (kq : Nat) (b0 : Bool), d2 = .bool b0 ∧ Aside0 (whole_Mul.j1 kq a3 a8 b0 = some (r1, r2)) ∧ Aside0 (kq ≤ d1) ∧ Drawn0 w wc)
  case first =>
   have H := c9.out; clear c9
   by_cases b9 : a6 > 0
   ·rw [if_pos b9] at H; have a4 : decide (0 < a6) = true := decide_eq_true b9; clear b9; (first | rw [a4] | (simp only [i64_w, i32_w]; rw [a4]) | skip); have H' := sk H; clear H; go_wp2; go_meet
    case rel => exact ⟨_, (true), (by first | rfl | (simp; done) | (simp [*]; done)), H', ⟨by have := c2.out; first | omega | exact Nat.le_refl _⟩, by repeat (first | exact Drawn0.refl _ | apply Drawn0.step)⟩
   rw [if_neg b9] at H; have a4 : decide (0 < a6) = false := decide_eq_false b9; clear b9; (first | rw [a4] | (simp only [i64_w, i32_w]; rw [a4]) | skip)
   by_cases c0 : a3 > 9223372036854775808
   ·rw [if_pos c0] at H; have b1 : decide (9223372036854775808 < a3) = true := decide_eq_true c0; clear c0; have H' := sk H; clear H; go_wp2; go_meet
    case rel => exact ⟨_, (true), (by first | rfl | (simp; done) | (simp [*]; done)), H', ⟨by have := c2.out; first | omega | exact Nat.le_refl _⟩, by repeat (first | exact Drawn0.refl _ | apply Drawn0.step)⟩
   rw [if_neg c0] at H; have b1 : decide (9223372036854775808 < a3) = false := decide_eq_false c0; clear c0
   by_cases b2 : a3 = 9223372036854775808
   ·rw [if_pos b2] at H; have b3 := beq_iff_eq.mpr b2; have b4 := bne_eq_false_iff_eq.mpr b2; clear b2; have H' := sk H; clear H; go_wp2; go_meet
    case rel => exact ⟨_, (!a8), (by first | rfl | (simp; done) | (simp [*]; done)), H', ⟨by have := c2.out; first | omega | exact Nat.le_refl _⟩, by repeat (first | exact Drawn0.refl _ | apply Drawn0.step)⟩
   rw [if_neg b2] at H; have b3 := beq_eq_false_iff_ne.mpr b2; have b4 := bne_iff_ne.mpr b2; have H' := sk H; clear H; go_wp2; go_meet
   case rel => exact ⟨_, (false), (by first | rfl | (simp; done) | (simp [*]; done)), H', ⟨by have := c2.out; first | omega | exact Nat.le_refl _⟩, by repeat (first | exact Drawn0.refl _ | apply Drawn0.step)⟩
  clear c9; (try clear c1); (try clear p2); (try clear c5); (try clear c7); (try clear a9); (try clear b5); (try clear b6); (try clear c8); (try clear b7); (try clear b8); (try clear b9); (try clear a4); (try clear c0); (try clear b1); (try clear b2); (try clear b3); (try clear b4); (try clear p2); obtain ⟨kq, b0, rfl, HA, d4, ⟨d5, rfl⟩⟩ := hcut; cases kq with
  | zero => exact absurd HA.out (by simp [whole_Mul.j1])
  | succ d6 =>
   have H := HA.out; clear HA; simp only [whole_Mul.j1] at H
   by_cases c3 : b0 = true
   ·subst c3; have H1 : (some (0, false)) = some (r1, r2) := by rw [if_pos rfl] at H; exact H
    clear H; have H := H1; clear H1; obtain ⟨rfl, rfl⟩ := j2 H; go_wp2; go_ret2; exact f0
   replace c3 := Bool.eq_false_iff.mpr c3; subst c3; have H1 : (if a8 = true then (some (wrap64 (IntKind.u64.wrap (-a3)), true)) else (some (wrap64 (a3), true))) = some (r1, r2) := by rw [if_neg (show ¬ (false = true) by decide)] at H; exact H
   clear H; have H := H1; clear H1
   by_cases c4 : a8 = true
   ·subst c4; have H1 : (some (wrap64 (IntKind.u64.wrap (-a3)), true)) = some (r1, r2) := by rw [if_pos rfl] at H; exact H
    clear H; have H := H1; clear H1; obtain ⟨rfl, rfl⟩ := j2 H; go_wp2; go_ret2; exact f0
   replace c4 := Bool.eq_false_iff.mpr c4; subst c4; have H1 : (some (wrap64 (a3), true)) = some (r1, r2) := by rw [if_neg (show ¬ (false = true) by decide)] at H; exact H
   clear H; have H := H1; clear H1; obtain ⟨rfl, rfl⟩ := j2 H; go_wp2; go_ret2; exact f0

/-! ### whole_Dot: function 42 -/
def whole_Dot.l0 : Nat → List Int → List Int → Int → Int → Int → Option (Int × Bool)
 | 0, _, _, _, _, _ => none
 | k + 1, x0, x1, x6, x16, x17 => if x17 < x16 then (if 0 ≤ x17 then (if x17 < (x0.length : Int) then (if x17 < (x1.length : Int) then ((whole_Mul.f k (rd x0 x17) (rd x1 x17)).bind fun bt220 => ((whole_Add.f x6 bt220.1).bind fun bt222 => (if bt220.2 = true then (if bt222.2 = true then (whole_Dot.l0 k x0 x1 bt222.1 x16 (wrap64 (x17 + 1))) else (some (0, false))) else (some (0, false))))) else (none)) else (none)) else (none)) else (some (x6, true))
def whole_Dot.f (k : Nat) (l0 : List Int) (l1 : List Int) : Option (Int × Bool) := whole_Dot.l0 k l0 l1 0 (mn (l0.length : Int) (l1.length : Int)) 0
theorem whole_Dot.mono_l : ∀ k, (∀ y0 y1 y2 y3 y4, LeO (whole_Dot.l0 k y0 y1 y2 y3 y4) (whole_Dot.l0 (k + 1) y0 y1 y2 y3 y4))
 | 0 => fun _ _ _ _ _ r h => by simp [whole_Dot.l0] at h
 | k + 1 => by
   have ih0 := whole_Dot.mono_l k
   intros; unfold whole_Dot.l0; repeat' with_reducible first | apply ih0 | apply whole_Mul.mono | apply LeO.refl | apply LeO.none | refine LeO.ite ?_ ?_ | refine LeO.bind ?_ fun _ => ?_
theorem whole_Dot.mono : ∀ a0 a1 k, LeO (whole_Dot.f k a0 a1) (whole_Dot.f (k + 1) a0 a1) := by
 intro a0 a1 k
 have ih0 := whole_Dot.mono_l k
 unfold whole_Dot.f
 repeat' with_reducible first | apply ih0 | apply whole_Mul.mono | apply LeO.refl | apply LeO.none | refine LeO.ite ?_ ?_ | refine LeO.bind ?_ fun _ => ?_
set_option maxHeartbeats 8000000 in
set_option maxRecDepth 100000 in
theorem whole_Dot.calls (k : Nat) (A0 : Option Addr) (c0 : Nat) (l0 : List Int) (A1 : Option Addr) (c1 : Nat) (l1 : List Int) (r1 : Int) (r2 : Bool) (w : World) (hr0 : Kd.C (Kd.int .i64) w A0 l0.length l0) (hc0 : l0.length ≤ c0) (hr1 : Kd.C (Kd.int .i64) w A1 l1.length l1) (hc1 : l1.length ≤ c1) (h : whole_Dot.f k l0 l1 = some (r1, r2)) :
 Calls Try.prog 42 #[.slice A0 l0.length c0, .slice A1 l1.length c1] w fun e w' => e = .returned (.tuple #[.int .i64 r1, .bool r2]) ∧ Below w.heap.size w w' := by
 have c8 := sk hr0; have d9 := sk hc0; clear hr0 hc0; have c9 := sk hr1; have e0 := sk hc1; clear hr1 hc1; have HB := sk (Below.refl w.heap.size w); have H : (whole_Dot.l0 k l0 l1 0 (mn (l0.length : Int) (l1.length : Int)) 0) = some (r1, r2) := h; clear h; obtain ⟨b1, b0⟩ : ∃ j_ : Int, (mn (l0.length : Int) (l1.length : Int)) = j_ := ⟨_, rfl⟩; replace H : (whole_Dot.l0 k l0 l1 0 b1 0) = some (r1, r2) := by first | (rw [b0] at H; exact H) | (simp only [b0] at H ⊢; exact H)
 (try (have d1 : 0 ≤ b1 := by (rw [← b0]; unfold mn; (repeat' split) <;> omega))); (try (have d2 : 0 ≤ b1 := by omega)); have b9 : (if (l1.length : Int) < (l0.length : Int) then (l1.length : Int) else (l0.length : Int)) = b1 := b0; have d3 : (if l1.length < l0.length then (l1.length : Int) else (l0.length : Int)) = b1 := by simpa only [Int.ofNat_lt] using b9
 have H' := sk H; clear H; go_enter Try.func42, Try.ntmps42; go_wp2
 repeat (go_quiet (fail); try go_wp2)
 go_loopg [6, 17] k (fun kq v6 d5 w' => ∃ (a8 : Int) (a0 : Int), v6 = .int .i64 a8 ∧ d5 = .int .i64 a0 ∧ Aside0 (whole_Dot.l0 kq l0 l1 a8 b1 a0 = some (r1, r2)) ∧ Aside0 (kq ≤ k) ∧ Aside0 (Below w.heap.size w w'))
 case atStart => exact ⟨(0), (0), (by first | rfl | (simp; done) | (simp [*]; done)), (by first | rfl | (simp; done) | (simp [*]; done)), H', ⟨Nat.le_refl _⟩, ⟨hbq HB.out⟩⟩
 clear H'; (try clear c1); (try clear p2); obtain ⟨a8, a0, rfl, rfl, HA, d4, HB⟩ := hrel; cases gk with
 | zero => exact absurd HA.out (by simp [whole_Dot.l0])
 | succ k1 =>
  have H := HA.out; clear HA; simp only [whole_Dot.l0] at H
  by_cases c4 : a0 < b1
  ·rw [if_pos c4] at H; have d0 := decide_eq_true c4; clear c4
   by_cases c5 : 0 ≤ a0
   case neg => rw [if_neg c5] at H; exact nn H
   rw [if_pos c5] at H; have d6 := decide_eq_true c5; clear c5
   by_cases c6 : a0 < (l0.length : Int)
   case neg => rw [if_neg c6] at H; exact nn H
   rw [if_pos c6] at H; have d7 := decide_eq_true c6; clear c6
   by_cases c7 : a0 < (l1.length : Int)
   case neg => rw [if_neg c7] at H; exact nn H
   rw [if_pos c7] at H; have d8 := decide_eq_true c7; clear c7; obtain ⟨⟨a3, b8⟩, A8, H⟩ := bi H; replace H : ((whole_Add.f a8 a3).bind fun b5 => (if b8 = true then (if b5.2 = true then (whole_Dot.l0 k1 l0 l1 b5.1 b1 (wrap64 (a0 + 1))) else (some (0, false))) else (some (0, false)))) = some (r1, r2) := H; obtain ⟨⟨a9, b2⟩, A9, H⟩ := bi H; replace H : (if b8 = true then (if b2 = true then (whole_Dot.l0 k1 l0 l1 a9 b1 (wrap64 (a0 + 1))) else (some (0, false))) else (some (0, false))) = some (r1, r2) := H
   by_cases c2 : b8 = true
   ·subst c2; have H1 : (if b2 = true then (whole_Dot.l0 k1 l0 l1 a9 b1 (wrap64 (a0 + 1))) else (some (0, false))) = some (r1, r2) := by rw [if_pos rfl] at H; exact H
    clear H; have H := H1; clear H1
    by_cases c3 : b2 = true
    ·subst c3; have H1 : (whole_Dot.l0 k1 l0 l1 a9 b1 (wrap64 (a0 + 1))) = some (r1, r2) := by rw [if_pos rfl] at H; exact H
     clear H; have H := H1; clear H1; have H' := sk H; clear H; have a4 : 0 ≤ (a0 : Int) := oa; have a5 : a0 < (l0.length : Int) := oa; obtain ⟨b6, b3, a1⟩ := Kd.at_int c8.out a0 a4 a5; cases b3; replace a1 := hbc HB.out a1; replace a4 := eq_true a4; replace a5 := eq_true a5; have a6 : 0 ≤ (a0 : Int) := oa; have a7 : a0 < (l1.length : Int) := oa; obtain ⟨b7, b4, a2⟩ := Kd.at_int c9.out a0 a6 a7; cases b4; replace a2 := hbc HB.out a2; replace a6 := eq_true a6; replace a7 := eq_true a7
     iterate 3 ((try go_quiet (first | (go_at_call 51; (with_reducible refine (whole_Mul.calls k1 (rd l0 a0) (rd l1 a0) a3 true _ A8.out).mono ?_); rintro e w' ⟨rfl, ⟨nd, rfl⟩⟩; (try exact dr2)) | (go_at_call 43; (with_reducible refine (whole_Add.calls a8 a3 a9 true _ A9.out).mono ?_); rintro e w' ⟨rfl, ⟨nd, rfl⟩⟩; (try exact dr2)))); go_wp2_with (first | (go_at_call 51; (with_reducible refine (whole_Mul.calls k1 (rd l0 a0) (rd l1 a0) a3 true _ A8.out).mono ?_); rintro e w' ⟨rfl, ⟨nd, rfl⟩⟩; (try exact dr2)) | (go_at_call 43; (with_reducible refine (whole_Add.calls a8 a3 a9 true _ A9.out).mono ?_); rintro e w' ⟨rfl, ⟨nd, rfl⟩⟩; (try exact dr2))))
     go_roundg k1
     case measure => have := d4.out; omega
     case rel => exact ⟨(a9), (wrap64 (a0 + 1)), (by first | rfl | (simp; done) | (simp [*]; done)), (by first | rfl | (simp; done) | (simp [*]; done)), H', ⟨by have := d4.out; omega⟩, ⟨hbq HB.out⟩⟩
    replace c3 := Bool.eq_false_iff.mpr c3; subst c3; have H1 : (some (0, false)) = some (r1, r2) := by rw [if_neg (show ¬ (false = true) by decide)] at H; exact H
    clear H; have H := H1; clear H1; obtain ⟨rfl, rfl⟩ := j2 H; have a4 : 0 ≤ (a0 : Int) := oa; have a5 : a0 < (l0.length : Int) := oa; obtain ⟨b6, b3, a1⟩ := Kd.at_int c8.out a0 a4 a5; cases b3; replace a1 := hbc HB.out a1; replace a4 := eq_true a4; replace a5 := eq_true a5; have a6 : 0 ≤ (a0 : Int) := oa; have a7 : a0 < (l1.length : Int) := oa; obtain ⟨b7, b4, a2⟩ := Kd.at_int c9.out a0 a6 a7; cases b4; replace a2 := hbc HB.out a2; replace a6 := eq_true a6; replace a7 := eq_true a7
    iterate 3 ((try go_quiet (first | (go_at_call 51; (with_reducible refine (whole_Mul.calls k1 (rd l0 a0) (rd l1 a0) a3 true _ A8.out).mono ?_); rintro e w' ⟨rfl, ⟨nd, rfl⟩⟩; (try exact dr2)) | (go_at_call 43; (with_reducible refine (whole_Add.calls a8 a3 a9 false _ A9.out).mono ?_); rintro e w' ⟨rfl, ⟨nd, rfl⟩⟩; (try exact dr2)))); go_wp2_with (first | (go_at_call 51; (with_reducible refine (whole_Mul.calls k1 (rd l0 a0) (rd l1 a0) a3 true _ A8.out).mono ?_); rintro e w' ⟨rfl, ⟨nd, rfl⟩⟩; (try exact dr2)) | (go_at_call 43; (with_reducible refine (whole_Add.calls a8 a3 a9 false _ A9.out).mono ?_); rintro e w' ⟨rfl, ⟨nd, rfl⟩⟩; (try exact dr2))))
    go_ret2; exact ⟨by first | rfl | (simp [errW_none, errW_some] <;> rfl) | (simp only [← b0]; first | rfl | (simp [errW_none, errW_some] <;> rfl)) | (simp [*, errW_none, errW_some] <;> rfl), hbq HB.out⟩
   replace c2 := Bool.eq_false_iff.mpr c2; subst c2; have H1 : (some (0, false)) = some (r1, r2) := by rw [if_neg (show ¬ (false = true) by decide)] at H; exact H
   clear H; have H := H1; clear H1; obtain ⟨rfl, rfl⟩ := j2 H; have a4 : 0 ≤ (a0 : Int) := oa; have a5 : a0 < (l0.length : Int) := oa; obtain ⟨b6, b3, a1⟩ := Kd.at_int c8.out a0 a4 a5; cases b3; replace a1 := hbc HB.out a1; replace a4 := eq_true a4; replace a5 := eq_true a5; have a6 : 0 ≤ (a0 : Int) := oa; have a7 : a0 < (l1.length : Int) := oa; obtain ⟨b7, b4, a2⟩ := Kd.at_int c9.out a0 a6 a7; cases b4; replace a2 := hbc HB.out a2; replace a6 := eq_true a6; replace a7 := eq_true a7
   iterate 3 ((try go_quiet (first | (go_at_call 51; (with_reducible refine (whole_Mul.calls k1 (rd l0 a0) (rd l1 a0) a3 false _ A8.out).mono ?_); rintro e w' ⟨rfl, ⟨nd, rfl⟩⟩; (try exact dr2)) | (go_at_call 43; (with_reducible refine (whole_Add.calls a8 a3 a9 b2 _ A9.out).mono ?_); rintro e w' ⟨rfl, ⟨nd, rfl⟩⟩; (try exact dr2)))); go_wp2_with (first | (go_at_call 51; (with_reducible refine (whole_Mul.calls k1 (rd l0 a0) (rd l1 a0) a3 false _ A8.out).mono ?_); rintro e w' ⟨rfl, ⟨nd, rfl⟩⟩; (try exact dr2)) | (go_at_call 43; (with_reducible refine (whole_Add.calls a8 a3 a9 b2 _ A9.out).mono ?_); rintro e w' ⟨rfl, ⟨nd, rfl⟩⟩; (try exact dr2))))
   go_ret2; exact ⟨by first | rfl | (simp [errW_none, errW_some] <;> rfl) | (simp only [← b0]; first | rfl | (simp [errW_none, errW_some] <;> rfl)) | (simp [*, errW_none, errW_some] <;> rfl), hbq HB.out⟩
  rw [if_neg c4] at H; have d0 := decide_eq_false c4; clear c4; obtain ⟨rfl, rfl⟩ := j2 H; go_wp2
  repeat (go_quiet (fail); try go_wp2)
  go_ret2; exact ⟨by first | rfl | (simp [errW_none, errW_some] <;> rfl) | (simp only [← b0]; first | rfl | (simp [errW_none, errW_some] <;> rfl)) | (simp [*, errW_none, errW_some] <;> rfl), hbq HB.out⟩

/-- A state of type 92 at block g of W; what its slices lead to came in by w0. -/
def IsS92 (w0 W : World) (g : Nat) (f0 : List (S52)) (f1 : List (S64)) (f2 : List Int) (f3 : Int) (f4 : Int) (f5 : Bool) : Prop := ∃ A0 c0, ∃ A1 c1, ∃ A2 c2, W.heap[g]? = some (.cells #[.slice A0 f0.length c0, .slice A1 f1.length c1, .slice A2 f2.length c2, .int .i64 f3, .int .i64 f4, .bool f5] 92 (0, 0)) ∧ w0.heap.size ≤ g ∧ Kd.C k52 w0 A0 f0.length f0 ∧ Kd.C k64 w0 A1 f1.length f1 ∧ Kd.C (Kd.int .i64) w0 A2 f2.length f2
theorem IsS92.grown {w0 W : World} {g : Nat} {f0 : List (S52)} {f1 : List (S64)} {f2 : List Int} {f3 : Int} {f4 : Int} {f5 : Bool} {W1 : World} {row : Option Nat} (h : IsS92 w0 W g f0 f1 f2 f3 f4 f5) (hw : W.grownBy W1 row) (hne : some g ≠ row) : IsS92 w0 W1 g f0 f1 f2 f3 f4 f5 := by
 obtain ⟨A0, c0, A1, c1, A2, c2, hb, hg, hr0, hr1, hr2⟩ := h
 exact ⟨A0, c0, A1, c1, A2, c2, blk_grown hb hw hne, hg, hr0, hr1, hr2⟩
theorem IsS92.own_neN {w0 W : World} {g : Nat} {f0 : List (S52)} {f1 : List (S64)} {f2 : List Int} {f3 : Int} {f4 : Int} {f5 : Bool} {α : Type} {d : Kd α} {e : Nat} {base : Nat} {ok : Nat → Prop} {v : Value} {xs : List α} (h : IsS92 w0 W g f0 f1 f2 f3 f4 f5) (ho : Kd.N d e W base ok v xs) (ht : e ≠ 92) : some g ≠ v.ownBlock := by
 obtain ⟨A0, c0, A1, c1, A2, c2, hb, hg, hr0, hr1, hr2⟩ := h
 exact Kd.N_ne ho hb ht
theorem IsS92.fresh {w0 W : World} {g : Nat} {f0 : List (S52)} {f1 : List (S64)} {f2 : List Int} {f3 : Int} {f4 : Int} {f5 : Bool} (h : IsS92 w0 W g f0 f1 f2 f3 f4 f5) : ∀ k, W.heap.size ≤ k → k ≠ g := by
 obtain ⟨A0, c0, A1, c1, A2, c2, hb, hg, hr0, hr1, hr2⟩ := h
 exact Kd.freshB hb
theorem IsS92.kept {w0 W : World} {g : Nat} {f0 : List (S52)} {f1 : List (S64)} {f2 : List Int} {f3 : Int} {f4 : Int} {f5 : Bool} {W1 : World} {S : Nat → Prop} (h : IsS92 w0 W g f0 f1 f2 f3 f4 f5) (hk : Kept W W1 S) (hne : ¬ S g) : IsS92 w0 W1 g f0 f1 f2 f3 f4 f5 := by
 obtain ⟨A0, c0, A1, c1, A2, c2, hb, hg, hr0, hr1, hr2⟩ := h
 exact ⟨A0, c0, A1, c1, A2, c2, blk_kept hb hk hne, hg, hr0, hr1, hr2⟩
theorem IsS92.below {w0 W : World} {g : Nat} {f0 : List (S52)} {f1 : List (S64)} {f2 : List Int} {f3 : Int} {f4 : Int} {f5 : Bool} {W1 : World} (h : IsS92 w0 W g f0 f1 f2 f3 f4 f5) (hw : Below W.heap.size W W1) : IsS92 w0 W1 g f0 f1 f2 f3 f4 f5 := h.grown (grown_of_below hw none) (by simp)
theorem IsS92.alloc {w0 W : World} {g : Nat} {f0 : List (S52)} {f1 : List (S64)} {f2 : List Int} {f3 : Int} {f4 : Int} {f5 : Bool} (h : IsS92 w0 W g f0 f1 f2 f3 f4 f5) (o : Obj) : IsS92 w0 (W.alloc o) g f0 f1 f2 f3 f4 f5 := h.below (below_alloc (Below.refl _ _) o)
theorem IsS92.drewN {w0 W : World} {g : Nat} {f0 : List (S52)} {f1 : List (S64)} {f2 : List Int} {f3 : Int} {f4 : Int} {f5 : Bool} (h : IsS92 w0 W g f0 f1 f2 f3 f4 f5) (m : Nat) : IsS92 w0 (W.drewN m) g f0 f1 f2 f3 f4 f5 := h
theorem IsS92.drew {w0 W : World} {g : Nat} {f0 : List (S52)} {f1 : List (S64)} {f2 : List Int} {f3 : Int} {f4 : Int} {f5 : Bool} (h : IsS92 w0 W g f0 f1 f2 f3 f4 f5) : IsS92 w0 W.drew g f0 f1 f2 f3 f4 f5 := h
theorem IsS92.at_ {w0 W : World} {g : Nat} {f0 : List (S52)} {f1 : List (S64)} {f2 : List Int} {f3 : Int} {f4 : Int} {f5 : Bool} {w' : World} {m : Nat} (hq : W.drewN m = w') (h : IsS92 w0 W g f0 f1 f2 f3 f4 f5) : IsS92 w0 w' g f0 f1 f2 f3 f4 f5 := by subst hq; exact IsS92.drewN h m
theorem IsS92.apart {w0 W : World} {g : Nat} {f0 : List (S52)} {f1 : List (S64)} {f2 : List Int} {f3 : Int} {f4 : Int} {f5 : Bool} {α : Type} {d : Kd α} {e : Nat} {base : Nat} {ok : Nat → Prop} {v : Value} {xs : List α} (h : IsS92 w0 W g f0 f1 f2 f3 f4 f5) (ho : d.R e W base ok v xs) (ht : ∀ q, q ∈ e :: d.E → q ≠ 92) : d.R e W base (fun k => ok k ∧ k ≠ g) v xs := by
 obtain ⟨A0, c0, A1, c1, A2, c2, hb, hg, hr0, hr1, hr2⟩ := h
 exact Kd.R_types ho hb ht
theorem IsS92.own_ne {w0 W : World} {g : Nat} {f0 : List (S52)} {f1 : List (S64)} {f2 : List Int} {f3 : Int} {f4 : Int} {f5 : Bool} {α : Type} {d : Kd α} {e : Nat} {base : Nat} {ok : Nat → Prop} {v : Value} {xs : List α} (h : IsS92 w0 W g f0 f1 f2 f3 f4 f5) (ho : d.R e W base ok v xs) (ht : e ≠ 92) : some g ≠ v.ownBlock := by
 obtain ⟨A0, c0, A1, c1, A2, c2, hb, hg, hr0, hr1, hr2⟩ := h
 exact Kd.R_ne ho hb ht
theorem IsS92.apartQ {w0 W : World} {g : Nat} {f0 : List (S52)} {f1 : List (S64)} {f2 : List Int} {f3 : Int} {f4 : Int} {f5 : Bool} {α : Type} {d : Kd α} {e : Nat} {base : Nat} {ok : Nat → Prop} {v : Value} {xs : List α} (h : IsS92 w0 W g f0 f1 f2 f3 f4 f5) (ho : d.Q e W base ok v xs) (ht : ∀ q, q ∈ e :: d.E → q ≠ 92) : d.Q e W base (fun k => ok k ∧ k ≠ g) v xs := by
 obtain ⟨A0, c0, A1, c1, A2, c2, hb, hg, hr0, hr1, hr2⟩ := h
 exact Kd.Q_types ho hb ht
theorem IsS92.own_neQ {w0 W : World} {g : Nat} {f0 : List (S52)} {f1 : List (S64)} {f2 : List Int} {f3 : Int} {f4 : Int} {f5 : Bool} {α : Type} {d : Kd α} {e : Nat} {base : Nat} {ok : Nat → Prop} {v : Value} {xs : List α} (h : IsS92 w0 W g f0 f1 f2 f3 f4 f5) (ho : d.Q e W base ok v xs) (ht : e ≠ 92) : some g ≠ v.ownBlock := by
 obtain ⟨A0, c0, A1, c1, A2, c2, hb, hg, hr0, hr1, hr2⟩ := h
 exact Kd.Q_ne ho hb ht
theorem IsS92.apartS {w0 W : World} {g : Nat} {f0 : List (S52)} {f1 : List (S64)} {f2 : List Int} {f3 : Int} {f4 : Int} {f5 : Bool} {α : Type} {d : Kd α} {e : Nat} {base : Nat} {ok : Nat → Prop} {v : Value} {xs : List α} (h : IsS92 w0 W g f0 f1 f2 f3 f4 f5) (ho : d.S e W base ok v xs) (ht : ∀ q, q ∈ e :: d.E → q ≠ 92) : d.S e W base (fun k => ok k ∧ k ≠ g) v xs := by
 obtain ⟨A0, c0, A1, c1, A2, c2, hb, hg, hr0, hr1, hr2⟩ := h
 exact Kd.S_types ho hb ht
theorem IsS92.own_neS {w0 W : World} {g : Nat} {f0 : List (S52)} {f1 : List (S64)} {f2 : List Int} {f3 : Int} {f4 : Int} {f5 : Bool} {α : Type} {d : Kd α} {e : Nat} {base : Nat} {ok : Nat → Prop} {v : Value} {xs : List α} (h : IsS92 w0 W g f0 f1 f2 f3 f4 f5) (ho : d.S e W base ok v xs) (ht : e ≠ 92) : some g ≠ v.ownBlock := by
 obtain ⟨A0, c0, A1, c1, A2, c2, hb, hg, hr0, hr1, hr2⟩ := h
 exact Kd.S_ne ho hb ht
theorem IsS92.lt {w0 W : World} {g : Nat} {f0 : List (S52)} {f1 : List (S64)} {f2 : List Int} {f3 : Int} {f4 : Int} {f5 : Bool} (h : IsS92 w0 W g f0 f1 f2 f3 f4 f5) : g < W.heap.size := by
 obtain ⟨A0, c0, A1, c1, A2, c2, hb, hg, hr0, hr1, hr2⟩ := h
 exact blk_lt hb
theorem IsS92.ge {w0 W : World} {g : Nat} {f0 : List (S52)} {f1 : List (S64)} {f2 : List Int} {f3 : Int} {f4 : Int} {f5 : Bool} (h : IsS92 w0 W g f0 f1 f2 f3 f4 f5) : w0.heap.size ≤ g := by
 obtain ⟨A0, c0, A1, c1, A2, c2, hb, hg, hr0, hr1, hr2⟩ := h
 exact hg
theorem IsS92.ne_blk {w0 W : World} {g : Nat} {f0 : List (S52)} {f1 : List (S64)} {f2 : List Int} {f3 : Int} {f4 : Int} {f5 : Bool} {a : Nat} {cs : Array Value} {t : TypeId} {fr : Nat × Nat} (h : IsS92 w0 W g f0 f1 f2 f3 f4 f5) (hb2 : W.heap[a]? = some (.cells cs t fr)) (ht : t ≠ 92) : g ≠ a := by
 obtain ⟨A0, c0, A1, c1, A2, c2, hb, hg, hr0, hr1, hr2⟩ := h
 rintro rfl
 rw [hb] at hb2
 injection hb2 with hb2
 injection hb2 with _ ht2
 exact ht ht2.symm
theorem IsS92.far {w0 W : World} {g : Nat} {f0 : List (S52)} {f1 : List (S64)} {f2 : List Int} {f3 : Int} {f4 : Int} {f5 : Bool} {p : Addr} (h : IsS92 w0 W g f0 f1 f2 f3 f4 f5) (hne : g ≠ p.block) (u : Value) : IsS92 w0 (W.setCell p u) g f0 f1 f2 f3 f4 f5 := by
 obtain ⟨A0, c0, A1, c1, A2, c2, hb, hg, hr0, hr1, hr2⟩ := h
 exact ⟨A0, c0, A1, c1, A2, c2, blk_far hb hne u, hg, hr0, hr1, hr2⟩
theorem cellS92_0 {W : World} {g : Nat} {A0 : Option Addr} {c0 : Nat} {A1 : Option Addr} {c1 : Nat} {A2 : Option Addr} {c2 : Nat} {f0 : List (S52)} {f1 : List (S64)} {f2 : List Int} {f3 : Int} {f4 : Int} {f5 : Bool} (h : W.heap[g]? = some (.cells #[.slice A0 f0.length c0, .slice A1 f1.length c1, .slice A2 f2.length c2, .int .i64 f3, .int .i64 f4, .bool f5] 92 (0, 0))) : W.cell? ⟨g, 0, none⟩ = some (.slice A0 f0.length c0) := (blk_cell h 0).trans rfl
theorem cellS92_1 {W : World} {g : Nat} {A0 : Option Addr} {c0 : Nat} {A1 : Option Addr} {c1 : Nat} {A2 : Option Addr} {c2 : Nat} {f0 : List (S52)} {f1 : List (S64)} {f2 : List Int} {f3 : Int} {f4 : Int} {f5 : Bool} (h : W.heap[g]? = some (.cells #[.slice A0 f0.length c0, .slice A1 f1.length c1, .slice A2 f2.length c2, .int .i64 f3, .int .i64 f4, .bool f5] 92 (0, 0))) : W.cell? ⟨g, 1, none⟩ = some (.slice A1 f1.length c1) := (blk_cell h 1).trans rfl
theorem cellS92_2 {W : World} {g : Nat} {A0 : Option Addr} {c0 : Nat} {A1 : Option Addr} {c1 : Nat} {A2 : Option Addr} {c2 : Nat} {f0 : List (S52)} {f1 : List (S64)} {f2 : List Int} {f3 : Int} {f4 : Int} {f5 : Bool} (h : W.heap[g]? = some (.cells #[.slice A0 f0.length c0, .slice A1 f1.length c1, .slice A2 f2.length c2, .int .i64 f3, .int .i64 f4, .bool f5] 92 (0, 0))) : W.cell? ⟨g, 2, none⟩ = some (.slice A2 f2.length c2) := (blk_cell h 2).trans rfl
theorem cellS92_3 {W : World} {g : Nat} {A0 : Option Addr} {c0 : Nat} {A1 : Option Addr} {c1 : Nat} {A2 : Option Addr} {c2 : Nat} {f0 : List (S52)} {f1 : List (S64)} {f2 : List Int} {f3 : Int} {f4 : Int} {f5 : Bool} (h : W.heap[g]? = some (.cells #[.slice A0 f0.length c0, .slice A1 f1.length c1, .slice A2 f2.length c2, .int .i64 f3, .int .i64 f4, .bool f5] 92 (0, 0))) : W.cell? ⟨g, 3, none⟩ = some (.int .i64 f3) := (blk_cell h 3).trans rfl
theorem IsS92.set_3 {w0 W : World} {g : Nat} {f0 : List (S52)} {f1 : List (S64)} {f2 : List Int} {f3 : Int} {f4 : Int} {f5 : Bool} (h : IsS92 w0 W g f0 f1 f2 f3 f4 f5) (x : Int) : IsS92 w0 (W.setCell ⟨g, 3, none⟩ (.int .i64 x)) g f0 f1 f2 x f4 f5 := by
 obtain ⟨A0, c0, A1, c1, A2, c2, hb, hg, hr0, hr1, hr2⟩ := h
 exact ⟨A0, c0, A1, c1, A2, c2, by simpa using blk_set hb 3 (.int .i64 x), hg, hr0, hr1, hr2⟩
theorem cellS92_4 {W : World} {g : Nat} {A0 : Option Addr} {c0 : Nat} {A1 : Option Addr} {c1 : Nat} {A2 : Option Addr} {c2 : Nat} {f0 : List (S52)} {f1 : List (S64)} {f2 : List Int} {f3 : Int} {f4 : Int} {f5 : Bool} (h : W.heap[g]? = some (.cells #[.slice A0 f0.length c0, .slice A1 f1.length c1, .slice A2 f2.length c2, .int .i64 f3, .int .i64 f4, .bool f5] 92 (0, 0))) : W.cell? ⟨g, 4, none⟩ = some (.int .i64 f4) := (blk_cell h 4).trans rfl
theorem IsS92.set_4 {w0 W : World} {g : Nat} {f0 : List (S52)} {f1 : List (S64)} {f2 : List Int} {f3 : Int} {f4 : Int} {f5 : Bool} (h : IsS92 w0 W g f0 f1 f2 f3 f4 f5) (x : Int) : IsS92 w0 (W.setCell ⟨g, 4, none⟩ (.int .i64 x)) g f0 f1 f2 f3 x f5 := by
 obtain ⟨A0, c0, A1, c1, A2, c2, hb, hg, hr0, hr1, hr2⟩ := h
 exact ⟨A0, c0, A1, c1, A2, c2, by simpa using blk_set hb 4 (.int .i64 x), hg, hr0, hr1, hr2⟩
theorem cellS92_5 {W : World} {g : Nat} {A0 : Option Addr} {c0 : Nat} {A1 : Option Addr} {c1 : Nat} {A2 : Option Addr} {c2 : Nat} {f0 : List (S52)} {f1 : List (S64)} {f2 : List Int} {f3 : Int} {f4 : Int} {f5 : Bool} (h : W.heap[g]? = some (.cells #[.slice A0 f0.length c0, .slice A1 f1.length c1, .slice A2 f2.length c2, .int .i64 f3, .int .i64 f4, .bool f5] 92 (0, 0))) : W.cell? ⟨g, 5, none⟩ = some (.bool f5) := (blk_cell h 5).trans rfl
theorem IsS92.set_5 {w0 W : World} {g : Nat} {f0 : List (S52)} {f1 : List (S64)} {f2 : List Int} {f3 : Int} {f4 : Int} {f5 : Bool} (h : IsS92 w0 W g f0 f1 f2 f3 f4 f5) (x : Bool) : IsS92 w0 (W.setCell ⟨g, 5, none⟩ (.bool x)) g f0 f1 f2 f3 f4 x := by
 obtain ⟨A0, c0, A1, c1, A2, c2, hb, hg, hr0, hr1, hr2⟩ := h
 exact ⟨A0, c0, A1, c1, A2, c2, by simpa using blk_set hb 5 (.bool x), hg, hr0, hr1, hr2⟩
theorem IsS92.new (w0 W : World) (A0 : Option Addr) (c0 : Nat) (A1 : Option Addr) (c1 : Nat) (A2 : Option Addr) (c2 : Nat) (f0 : List (S52)) (f1 : List (S64)) (f2 : List Int) (f3 : Int) (f4 : Int) (f5 : Bool) (hB : Below w0.heap.size w0 W) (hr0 : Kd.C k52 w0 A0 f0.length f0) (hr1 : Kd.C k64 w0 A1 f1.length f1) (hr2 : Kd.C (Kd.int .i64) w0 A2 f2.length f2) : IsS92 w0 (W.alloc (.cells #[.slice A0 f0.length c0, .slice A1 f1.length c1, .slice A2 f2.length c2, .int .i64 f3, .int .i64 f4, .bool f5] 92)) W.heap.size f0 f1 f2 f3 f4 f5 := ⟨A0, c0, A1, c1, A2, c2, by simpa using heap_alloc_new W _, hB.size, hr0, hr1, hr2⟩

/-! ### weigh_New: function 29 -/
def weigh_New.l0 : Nat → List Int → List Int → List (S52) → Int → Int → List (S52) → List (S64) → Option ((List (S52)) × (List (S64)) × List Int × Int × Int × Bool × Int)
 | 0, _, _, _, _, _, _, _ => none
 | k + 1, x1, x6, x18, x19, x20, x225000, x225001 => if x20 < x19 then (if 0 ≤ x20 then (if x20 < (x18.length : Int) then (if x6.length < 17592186044416 then (weigh_New.l0 k x1 (x6 ++ [(rd_T52 x18 x20).f1]) x18 x19 (wrap64 (x20 + 1)) x225000 x225001) else (none)) else (none)) else (none)) else ((whole_Dot.f k x1 x6).bind fun bt230 => (if bt230.2 = true then (some (x225000, x225001, x1, bt230.1, bt230.1, true, 0)) else (some (([] : List (S52)), ([] : List (S64)), ([] : List Int), 0, 0, false, 3))))
def weigh_New.f (k : Nat) (l0_0 : List (S52)) (l0_1 : List (S64)) (l1 : List Int) : Option ((List (S52)) × (List (S64)) × List Int × Int × Int × Bool × Int) := if (l1.length : Int) = (l0_0.length : Int) then (weigh_New.l0 k l1 ([] : List Int) l0_0 (l0_0.length : Int) 0 l0_0 l0_1) else (some (([] : List (S52)), ([] : List (S64)), ([] : List Int), 0, 0, false, 1))
theorem weigh_New.mono_l : ∀ k, (∀ y0 y1 y2 y3 y4 y5 y6, LeO (weigh_New.l0 k y0 y1 y2 y3 y4 y5 y6) (weigh_New.l0 (k + 1) y0 y1 y2 y3 y4 y5 y6))
 | 0 => fun _ _ _ _ _ _ _ r h => by simp [weigh_New.l0] at h
 | k + 1 => by
   have ih0 := weigh_New.mono_l k
   intros; unfold weigh_New.l0; repeat' with_reducible first | apply ih0 | apply whole_Dot.mono | apply LeO.refl | apply LeO.none | refine LeO.ite ?_ ?_ | refine LeO.bind ?_ fun _ => ?_
theorem weigh_New.mono : ∀ a0 a1 a2 k, LeO (weigh_New.f k a0 a1 a2) (weigh_New.f (k + 1) a0 a1 a2) := by
 intro a0 a1 a2 k
 have ih0 := weigh_New.mono_l k
 unfold weigh_New.f
 repeat' with_reducible first | apply ih0 | apply whole_Dot.mono | apply LeO.refl | apply LeO.none | refine LeO.ite ?_ ?_ | refine LeO.bind ?_ fun _ => ?_
set_option maxHeartbeats 8000000 in
set_option maxRecDepth 100000 in
theorem weigh_New.calls (k : Nat) (b4 : Option Addr) (a9 : Nat) (a1 : List (S52)) (b0 : Option Addr) (b1 : Nat) (a4 : List (S64)) (A1 : Option Addr) (c1 : Nat) (l1 : List Int) (r1 : List (S52)) (r2 : List (S64)) (r3 : List Int) (r4 : Int) (r5 : Int) (r6 : Bool) (r7 : Int) (w : World) (hr0_0 : Kd.C k52 w b4 a1.length a1) (hc0_0 : a1.length ≤ a9) (hr0_1 : Kd.C k64 w b0 a4.length a4) (hc0_1 : a4.length ≤ b1) (hr1 : Kd.C (Kd.int .i64) w A1 l1.length l1) (hc1 : l1.length ≤ c1) (h : weigh_New.f k a1 a4 l1 = some (r1, r2, r3, r4, r5, r6, r7)) :
 Calls Try.prog 29 #[.agg #[.slice b4 a1.length a9, .slice b0 a4.length b1], .slice A1 l1.length c1] w fun e w' => ((r7 = 0 → ∃ g_ : Nat, e = .returned (.tuple #[.pointer (some ⟨g_, 0, none⟩), .int .i64 r7]) ∧ IsS92 w w' g_ r1 r2 r3 r4 r5 r6) ∧ (r7 ≠ 0 → e = .returned (.tuple #[.pointer none, .int .i64 r7]))) ∧ Below w.heap.size w w' := by
 have i2 := Try.underlying34; have i3 := Try.underlying52; have i4 := Try.underlying92; have b9 := sk hr0_0; have h4 := sk hc0_0; clear hr0_0 hc0_0; have d5 := sk hr0_1; have h5 := sk hc0_1; clear hr0_1 hc0_1; have g4 := sk hr1; have h6 := sk hc1; clear hr1 hc1; have HB := sk (Below.refl w.heap.size w); have H : (if (l1.length : Int) = (a1.length : Int) then (weigh_New.l0 k l1 ([] : List Int) a1 (a1.length : Int) 0 a1 a4) else (some (([] : List (S52)), ([] : List (S64)), ([] : List Int), 0, 0, false, 1))) = some (r1, r2, r3, r4, r5, r6, r7) := h; clear h
 by_cases c3 : (l1.length : Int) = (a1.length : Int)
 ·rw [if_pos c3] at H; have d6 := beq_iff_eq.mpr c3; have d7 := bne_eq_false_iff_eq.mpr c3; have d8 : (l1.length == a1.length) = true := by first | simpa using c3 | (simp at c3 ⊢; omega)
  clear c3; have H' := sk H; clear H; go_enter Try.func29, Try.ntmps29; go_wp2_with (first | ((with_reducible refine gate_dst (N := 2) rfl ?_); refine bev 2 #[.slice b4 a1.length a9, .slice b0 a4.length b1] 34 ?_; intro b6 hg w4 hbox hb; have a0 := sk (hbox); have b7 := sk (gw (w := w) hg HB.out); have d9 := b7; replace HB := sk (below_step (hbq HB.out) hb); clear hb hbox hg; have c0 := bc0 a0.out; have c4 := bc1 a0.out; have c5 := bz a0.out 0; have d0 := bz a0.out 1)); go_loopg [6, 20] k (fun kq v6 i5 w' => ∃ (a6 : List Int) (a2 : Int), i5 = .int .i64 a2 ∧ Aside0 (weigh_New.l0 kq l1 a6 a1 (a1.length : Int) a2 a1 a4 = some (r1, r2, r3, r4, r5, r6, r7)) ∧ Aside0 (kq ≤ k) ∧ Aside0 (Kd.R (Kd.int .i64) 3 w' w.heap.size (fun _ => True) v6 a6) ∧ Aside0 (w'.heap[b6]? = some (.cells #[(.slice b4 a1.length a9), (.slice b0 a4.length b1)] 34 (0, 0))) ∧ Aside0 (Below w.heap.size w w'))
  case atStart => exact ⟨(([] : List Int)), (0), (by first | rfl | (simp; done) | (simp [*]; done)), H', ⟨Nat.le_refl _⟩, ⟨by first | exact Kd.R_nil _ _ _ _ _ | exact Kd.N_nil _ _ _ _ _ | exact Kd.V_nil _ _ _ _ _ | exact Kd.Q_nil _ _ _ _ _ | exact Kd.S_nil _ _ _ _ _⟩, ⟨by refine bkq ?_; exact a0.out⟩, ⟨hbq HB.out⟩⟩
  clear H'; (try clear c1); (try clear c2); (try clear p2); (try clear c3); (try clear d6); (try clear d7); (try clear d8); (try clear c0); (try clear c4); (try clear c5); (try clear d0); obtain ⟨a6, a2, rfl, HA, h7, a3, a0, HB⟩ := hrel; cases gk with
  | zero => exact absurd HA.out (by simp [weigh_New.l0])
  | succ k1 =>
   have H := HA.out; clear HA; simp only [weigh_New.l0] at H
   by_cases c6 : a2 < (a1.length : Int)
   ·rw [if_pos c6] at H; have g5 := decide_eq_true c6; clear c6
    by_cases c7 : 0 ≤ a2
    case neg => rw [if_neg c7] at H; exact nn H
    rw [if_pos c7] at H; have i6 := decide_eq_true c7; clear c7
    by_cases c8 : a2 < (a1.length : Int)
    case neg => rw [if_neg c8] at H; exact nn H
    rw [if_pos c8] at H; have i7 := decide_eq_true c8; clear c8
    by_cases c9 : a6.length < 17592186044416
    case neg => rw [if_neg c9] at H; exact nn H
    rw [if_pos c9] at H; have g6 := sk c9; clear c9; obtain ⟨e0, b8⟩ : ∃ y_ : List Int, y_ = (a6 ++ [(rd_T52 a1 a2).f1]) := ⟨_, rfl⟩; replace H : (weigh_New.l0 k1 l1 e0 a1 (a1.length : Int) (wrap64 (a2 + 1)) a1 a4) = some (r1, r2, r3, r4, r5, r6, r7) := rh b8 H
    have e1 := sk b8; clear b8; have H' := sk H; clear H; have d1 : 0 ≤ (a2 : Int) := oa; have d2 : a2 < (a1.length : Int) := oa; obtain ⟨e2, g7, b2, b3⟩ := at_T52 b9.out a2 d1 d2; cases g7; replace b2 := hbc HB.out b2; replace b3 := hbc HB.out b3; replace d1 := eq_true d1; replace d2 := eq_true d2; go_wp2_with (first | ((with_reducible refine gate_dst (N := 8) rfl ?_); refine bev 8 #[.string (⟨#[]⟩ : ByteArray), .int .i64 0] 52 ?_; intro e3 hg i9 hbox hb; replace a3 := sk (Kd.R_below (kq_R a3.out) hb); have a5 := sk (hbox); have e4 := sk (gw (w := w) hg HB.out); have h8 := e4; replace HB := sk (below_step (hbq HB.out) hb); have a8 := sk (nbl hg a0.out); have b5 := sk (nbl hg a0.out).symm; replace a0 := sk (blk_below (bky a0.out) hb); clear hb hbox hg; have h9 := b5.out; have i0 := a8.out; have f1 := bc0 a5.out; have f2 := bc1 a5.out; have f3 := bz a5.out 0; have f4 := bz a5.out 1) | ((with_reducible refine gate_builtin (b := .append) (xs := #[.tmp 24, .tmp 27]) rfl ?_); at_builtin; refine Kd.R_append (Kd.int .i64) (w0 := w) w.heap.size rfl (.tmp 24) (.tmp 27) 22 3 (.int .i64 0) 8 rfl Try.underlying22 info3 rfl (by decide) (by omega) u6 a6 ((rd_T52 a1 a2).f1) [.int .i64 ((rd_T52 a1 a2).f1)] (fun _ => True) (fun _ => False) rfl (by first | (go_simp; done) | (go_simp; rfl)) ?aP (fun _ hk => hk.elim) ?aF ?aO ?aB ?aS ?aL ?_; (case aP => exact rfl); (case aB => exact (hbq HB.out)); (case aF => exact (fun _ _ => trivial)); (case aO => exact (by refine kq_R ?_; exact Kd.R_mono (Kd.R_far (Kd.R_far (Kd.R_types a3.out a5.out (by decide)) hk2 _) hk2 _) (fun _ hk => trivial))); (case aS => exact (below_size (hbq HB.out))); (case aL => have := g6.out; omega); intro i8 j0 ho hb hg hat; rw [← e1.out] at ho; replace a0 := sk (blk_grown (g := b6) (o := .cells #[.slice (some e2) a1.length a9, .slice b0 a4.length b1] 34 (0, 0)) (by exact bkf a0.out a8.out) hg (Kd.R_ne a3.out a0.out (by decide))); replace a5 := sk (blk_grown (g := e3) (o := .cells #[.string ((rd_T52 a1 a2).f0), .int .i64 ((rd_T52 a1 a2).f1)] 52 (0, 0)) (by refine bkq ?_; refine blk_put (cs := #[.string ((rd_T52 a1 a2).f0), .int .i64 0]) ?_ 1 _ rfl; refine bkq ?_; refine blk_put (cs := #[.string (⟨#[]⟩ : ByteArray), .int .i64 0]) ?_ 0 _ rfl; refine bkq ?_; exact a5.out) hg (Kd.R_ne a3.out a5.out (by decide))); replace HB := sk (hb); have e5 := sk (ho); clear a3; clear ho hb hg hat)); go_roundg k1
    case measure => have := h7.out; omega
    case rel => exact ⟨(e0), (wrap64 (a2 + 1)), (by first | rfl | (simp; done) | (simp [*]; done)), H', ⟨by have := h7.out; omega⟩, ⟨by refine kq_R ?_; exact e5.out⟩, ⟨by refine bkq ?_; exact a0.out⟩, ⟨hbq HB.out⟩⟩
   rw [if_neg c6] at H; have g5 := decide_eq_false c6; clear c6; obtain ⟨⟨a7, e6⟩, i1, H⟩ := bi H; replace H : (if e6 = true then (some (a1, a4, l1, a7, a7, true, 0)) else (some (([] : List (S52)), ([] : List (S64)), ([] : List Int), 0, 0, false, 3))) = some (r1, r2, r3, r4, r5, r6, r7) := H
   by_cases f5 : e6 = true
   ·subst f5; have H1 : (some (a1, a4, l1, a7, a7, true, 0)) = some (r1, r2, r3, r4, r5, r6, r7) := by rw [if_pos rfl] at H; exact H
    clear H; have H := H1; clear H1; simp only [Option.some.injEq, Prod.mk.injEq] at H; obtain ⟨rfl, rfl, rfl, rfl, rfl, rfl, rfl⟩ := H; obtain ⟨g8, g9, h0⟩ := Kd.R_slice a3.out; subst h0; go_wp2_with (first | ((with_reducible refine gate_callee (f := 42) rfl ?_); refine goesD (some 33) rfl rfl Try.func42 rfl #[.slice A1 l1.length c1, .slice g8 a6.length g9] rfl ?_; (with_reducible refine (whole_Dot.calls k1 _ _ l1 _ _ a6 a7 true _ ?side1 ?side2 ?side3 ?side4 i1.out).mono ?_); (case side1 => exact kc (Kd.C_below g4.out HB.out)); (case side2 => exact h6.out); (case side3 => exact kc (Kd.R_reads' a3.out).2.2); (case side4 => exact (Kd.R_reads' a3.out).2.1); rintro e j1 ⟨rfl, hb⟩; refine ⟨_, rfl, ?_⟩; replace a3 := sk (Kd.R_below (kq_R a3.out) hb); replace a0 := sk (blk_below (bky a0.out) hb); replace HB := sk (below_step (hbq HB.out) hb); (try clear hb); (try clear hb2); (try clear hk); (try clear hi); have f6 := bc0 a0.out; have f7 := bc1 a0.out; have f8 := bz a0.out 0; have f9 := bz a0.out 1) | ((with_reducible refine gate_dst (N := 43) rfl ?_); refine bev 43 #[.slice b4 a1.length a9, .slice b0 a4.length b1, .slice A1 l1.length c1, .int .i64 a7, .int .i64 a7, .bool true] 92 ?_; intro e7 hg j2 hbox hb; replace a3 := sk (Kd.R_below (kq_R a3.out) hb); have e8 := sk (hbox); have e9 := sk (gw (w := w) hg HB.out); have f0 := e9; replace HB := sk (below_step (hbq HB.out) hb); have d3 := sk (nbl hg a0.out); have d4 := sk (nbl hg a0.out).symm; replace a0 := sk (blk_below (bky a0.out) hb); clear hb hbox hg)); go_ret2; exact ⟨⟨_, rfl, (show IsS92 w _ e7 a1 a4 l1 a7 a7 true from ⟨_, _, _, _, _, _, by refine bkq ?_; exact e8.out, f0.out, b9.out, d5.out, g4.out⟩)⟩, hbq HB.out⟩
   replace f5 := Bool.eq_false_iff.mpr f5; subst f5; have H1 : (some (([] : List (S52)), ([] : List (S64)), ([] : List Int), 0, 0, false, 3)) = some (r1, r2, r3, r4, r5, r6, r7) := by rw [if_neg (show ¬ (false = true) by decide)] at H; exact H
   clear H; have H := H1; clear H1; simp only [Option.some.injEq, Prod.mk.injEq] at H; obtain ⟨rfl, rfl, rfl, rfl, rfl, rfl, rfl⟩ := H; obtain ⟨h1, h2, h3⟩ := Kd.R_slice a3.out; subst h3; go_wp2_with (first | ((with_reducible refine gate_callee (f := 42) rfl ?_); refine goesD (some 33) rfl rfl Try.func42 rfl #[.slice A1 l1.length c1, .slice h1 a6.length h2] rfl ?_; (with_reducible refine (whole_Dot.calls k1 _ _ l1 _ _ a6 a7 false _ ?side1 ?side2 ?side3 ?side4 i1.out).mono ?_); (case side1 => exact kc (Kd.C_below g4.out HB.out)); (case side2 => exact h6.out); (case side3 => exact kc (Kd.R_reads' a3.out).2.2); (case side4 => exact (Kd.R_reads' a3.out).2.1); rintro e j3 ⟨rfl, hb⟩; refine ⟨_, rfl, ?_⟩; replace a3 := sk (Kd.R_below (kq_R a3.out) hb); replace a0 := sk (blk_below (bky a0.out) hb); replace HB := sk (below_step (hbq HB.out) hb); (try clear hb); (try clear hb2); (try clear hk); (try clear hi))); go_ret2; exact ⟨⟨fun h_ => absurd h_ (by decide), fun _ => rfl⟩, hbq HB.out⟩
 rw [if_neg c3] at H; have d6 := beq_eq_false_iff_ne.mpr c3; have d7 := bne_iff_ne.mpr c3; have d8 : (l1.length == a1.length) = false := by first | simpa using c3 | (simp at c3 ⊢; omega)
 simp only [Option.some.injEq, Prod.mk.injEq] at H; obtain ⟨rfl, rfl, rfl, rfl, rfl, rfl, rfl⟩ := H; go_enter Try.func29, Try.ntmps29; go_wp2_with (first | ((with_reducible refine gate_dst (N := 2) rfl ?_); refine bev 2 #[.slice b4 a1.length a9, .slice b0 a4.length b1] 34 ?_; intro b6 hg j4 hbox hb; have a0 := sk (hbox); have b7 := sk (gw (w := w) hg HB.out); have d9 := b7; replace HB := sk (below_step (hbq HB.out) hb); clear hb hbox hg; have g0 := bc0 a0.out; have g1 := bc1 a0.out; have g2 := bz a0.out 0; have g3 := bz a0.out 1)); go_ret2; exact ⟨⟨fun h_ => absurd h_ (by decide), fun _ => rfl⟩, hbq HB.out⟩

/-! ### weigh_Watch_Same: function 30 -/
def weigh_Watch_Same.f (s0_0 : List (S52)) (s0_1 : List (S64)) (s0_2 : List Int) (s0_3 : Int) (s0_4 : Int) (s0_5 : Bool) : Option (Bool × Int × Int × Bool) := if s0_5 = true then (some ((s0_4 == s0_3), s0_3, s0_4, s0_5)) else (some (false, s0_3, s0_4, s0_5))
set_option maxHeartbeats 8000000 in
set_option maxRecDepth 100000 in
theorem weigh_Watch_Same.calls (g : Nat) (s0_0 : List (S52)) (s0_1 : List (S64)) (s0_2 : List Int) (s0_3 : Int) (s0_4 : Int) (s0_5 : Bool) (r1 : Bool) (r2 : Int) (r3 : Int) (r4 : Bool) (w0 w : World) (hI : IsS92 w0 w g s0_0 s0_1 s0_2 s0_3 s0_4 s0_5) (hB : Below w0.heap.size w0 w) (h : weigh_Watch_Same.f s0_0 s0_1 s0_2 s0_3 s0_4 s0_5 = some (r1, r2, r3, r4)) :
 Calls Try.prog 30 #[.pointer (some ⟨g, 0, none⟩)] w fun e w' => e = .returned (.bool r1) ∧ IsS92 w0 w' g s0_0 s0_1 s0_2 r2 r3 r4 ∧ Below w0.heap.size w0 w' ∧ KeepBut w w' g none := by
 have a2 := sk hI; have HK := sk (KeepBut.refl w g none); have HL := sk hB.size; clear hI; have e2 := sk hB.size; have HB := sk hB; clear hB; have H : (if s0_5 = true then (some ((s0_4 == s0_3), s0_3, s0_4, s0_5)) else (some (false, s0_3, s0_4, s0_5))) = some (r1, r2, r3, r4) := h; clear h
 by_cases c2 : s0_5 = true
 ·subst c2; have H1 : (some ((s0_4 == s0_3), s0_3, s0_4, true)) = some (r1, r2, r3, r4) := by rw [if_pos rfl] at H; exact H
  clear H; have H := H1; clear H1; simp only [Option.some.injEq, Prod.mk.injEq] at H; obtain ⟨rfl, rfl, rfl, rfl⟩ := H; obtain ⟨a3, a4, a5, a6, a7, a8, a0, a9, b0, b1, b2⟩ := a2.out; have b3 := cellS92_0 a0; have b4 := cellS92_1 a0; have b5 := cellS92_2 a0; have b6 := cellS92_3 a0; have b7 := cellS92_4 a0; have b8 := cellS92_5 a0; have b9 := bz a0 3; have c0 := bz a0 4; have c1 := bz a0 5; clear a0 a9; go_enter Try.func30, Try.ntmps30; go_wp2
  repeat (go_quiet (fail); try go_wp2)
  go_ret; exact f1 (⟨by repeat (first | (with_reducible first | exact a2.out | apply IsS92.alloc | apply IsS92.drewN | apply IsS92.drew | apply IsS92.set_3 | apply IsS92.set_4 | apply IsS92.set_5) | exact a2.out), by repeat (first | (with_reducible first | exact HB.out | apply below_alloc | apply pw_below_drewN | apply below_drew1 | refine below_set ?_ (IsS92.ge a2.out)) | exact HB.out), by repeat (first | (with_reducible first | exact HK.out | apply KeepBut.set_ | apply keep_drewN | apply keep_drew | apply keep_alloc) | exact HK.out)⟩)
 replace c2 := Bool.eq_false_iff.mpr c2; subst c2; have H1 : (some (false, s0_3, s0_4, false)) = some (r1, r2, r3, r4) := by rw [if_neg (show ¬ (false = true) by decide)] at H; exact H
 clear H; have H := H1; clear H1; simp only [Option.some.injEq, Prod.mk.injEq] at H; obtain ⟨rfl, rfl, rfl, rfl⟩ := H; obtain ⟨c3, c4, c5, c6, c7, c8, a1, c9, d0, d1, d2⟩ := a2.out; have d3 := cellS92_0 a1; have d4 := cellS92_1 a1; have d5 := cellS92_2 a1; have d6 := cellS92_3 a1; have d7 := cellS92_4 a1; have d8 := cellS92_5 a1; have d9 := bz a1 3; have e0 := bz a1 4; have e1 := bz a1 5; clear a1 c9; go_enter Try.func30, Try.ntmps30; go_wp2
 repeat (go_quiet (fail); try go_wp2)
 go_ret; exact f1 (⟨by repeat (first | (with_reducible first | exact a2.out | apply IsS92.alloc | apply IsS92.drewN | apply IsS92.drew | apply IsS92.set_3 | apply IsS92.set_4 | apply IsS92.set_5) | exact a2.out), by repeat (first | (with_reducible first | exact HB.out | apply below_alloc | apply pw_below_drewN | apply below_drew1 | refine below_set ?_ (IsS92.ge a2.out)) | exact HB.out), by repeat (first | (with_reducible first | exact HK.out | apply KeepBut.set_ | apply keep_drewN | apply keep_drew | apply keep_alloc) | exact HK.out)⟩)

end Go.Proofs.Ytigpmhicdmjbeaa.PWeighStays
