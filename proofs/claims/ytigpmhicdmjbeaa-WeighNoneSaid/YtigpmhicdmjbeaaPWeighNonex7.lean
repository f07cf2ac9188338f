/- What the functions that this law reaches answer, in whatever memory, and the row of the law; no condition. Written by a program of this session (mk.sh). -/
import Derived.Test.YtigpmhicdmjbeaaPWeighNonex0
namespace Go.Proofs.Ytigpmhicdmjbeaa.PWeighNone
open Go.RowKit Go.Proofs.YtigpmhicdmjbeaaW.PrintWords Go.Proofs.YtigpmhicdmjbeaaW.PrintLast Go.Proofs.YtigpmhicdmjbeaaW.PrintMore
attribute [local go_sem] max2_int min2_int max_two min_two max_three min_three max_four min_four   -- for this text's walks alone
set_option linter.unusedVariables false
set_option linter.unusedSimpArgs false

/-! ### whole_Add: function 43 -/
def whole_Add.f (a0 : Int) (a1 : Int) : Option (Int × Bool) := if ((decide (a0 < 0)) == (decide (a1 < 0))) = true then (if ((decide ((wrap64 (a0 + a1)) < 0)) != (decide (a0 < 0))) = true then (some (0, false)) else (some (wrap64 (a0 + a1), true))) else (some (wrap64 (a0 + a1), true))
set_option maxHeartbeats 8000000 in
set_option maxRecDepth 100000 in
theorem whole_Add.calls (a0 : Int) (a1 : Int) (r1 : Int) (r2 : Bool) (w : World) (h : whole_Add.f a0 a1 = some (r1, r2)) :
 Calls Try.prog 43 #[.int .i64 a0, .int .i64 a1] w fun e w' => e = .returned (.tuple #[.int .i64 r1, .bool r2]) ∧ Drawn0 w w' := by
 have H : (if ((decide (a0 < 0)) == (decide (a1 < 0))) = true then (if ((decide ((wrap64 (a0 + a1)) < 0)) != (decide (a0 < 0))) = true then (some (0, false)) else (some (wrap64 (a0 + a1), true))) else (some (wrap64 (a0 + a1), true))) = some (r1, r2) := h; clear h
 by_cases c3 : ((decide (a0 < 0)) == (decide (a1 < 0))) = true
 ·rw [if_pos c3] at H; have c3b0 : ((decide (a0 < 0)) == (decide (a1 < 0))) = true := c3; (try (have c3b1 : decide ((decide (a0 < 0)) = (decide (a1 < 0))) = true := by simpa using c3)); (try (have c3b2 : ((decide (a0 < 0)) == (decide (a1 < 0))) = true := by simpa using c3)); clear c3
  by_cases c4 : ((decide ((wrap64 (a0 + a1)) < 0)) != (decide (a0 < 0))) = true
  ·rw [if_pos c4] at H; have c4b0 : ((decide ((wrap64 (a0 + a1)) < 0)) != (decide (a0 < 0))) = true := c4; (try (have c4b1 : decide ((decide ((wrap64 (a0 + a1)) < 0)) = (decide (a0 < 0))) = false := by simpa using c4)); (try (have c4b2 : ((decide ((wrap64 (a0 + a1)) < 0)) == (decide (a0 < 0))) = false := by simpa using c4)); (try (have c4b3 : ¬ ((decide ((wrap64 (a0 + a1)) < 0)) = (decide (a0 < 0))) := by simpa using c4)); clear c4; simp only [Option.some.injEq, Prod.mk.injEq] at H; obtain ⟨rfl, rfl⟩ := H; go_enter Try.func43, Try.ntmps43; go_wp2; go_ret2; exact ⟨by first | rfl | (simp; done) | (simp [*]; done), by repeat (first | exact Drawn0.refl _ | apply Drawn0.step)⟩
  rw [if_neg c4] at H; have c4b0 : ((decide ((wrap64 (a0 + a1)) < 0)) != (decide (a0 < 0))) = false := by simpa using c4
  (try (have c4b1 : decide ((decide ((wrap64 (a0 + a1)) < 0)) = (decide (a0 < 0))) = true := by simpa using c4)); (try (have c4b2 : ((decide ((wrap64 (a0 + a1)) < 0)) == (decide (a0 < 0))) = true := by simpa using c4)); clear c4; simp only [Option.some.injEq, Prod.mk.injEq] at H; obtain ⟨rfl, rfl⟩ := H; go_enter Try.func43, Try.ntmps43; go_wp2; go_ret2; exact ⟨by first | rfl | (simp; done) | (simp [*]; done), by repeat (first | exact Drawn0.refl _ | apply Drawn0.step)⟩
 rw [if_neg c3] at H; have c3b0 : ((decide (a0 < 0)) == (decide (a1 < 0))) = false := by simpa using c3
 (try (have c3b1 : decide ((decide (a0 < 0)) = (decide (a1 < 0))) = false := by simpa using c3)); (try (have c3b2 : ((decide (a0 < 0)) == (decide (a1 < 0))) = false := by simpa using c3)); (try (have c3b3 : ¬ ((decide (a0 < 0)) = (decide (a1 < 0))) := by simpa using c3)); clear c3; simp only [Option.some.injEq, Prod.mk.injEq] at H; obtain ⟨rfl, rfl⟩ := H; go_enter Try.func43, Try.ntmps43; go_wp2; go_ret2; exact ⟨by first | rfl | (simp; done) | (simp [*]; done), by repeat (first | exact Drawn0.refl _ | apply Drawn0.step)⟩

/-! ### bits_Mul64: function 53 -/
def bits_Mul64.f (a0 : Int) (a1 : Int) : Option (Int × Int) := some (IntKind.u64.wrap ((IntKind.u64.wrap ((IntKind.u64.wrap ((a0 / 4294967296) * (a1 / 4294967296))) + ((IntKind.u64.wrap ((IntKind.u64.wrap ((a0 / 4294967296) * (Go.bits .and .u64 a1 4294967295))) + ((IntKind.u64.wrap ((Go.bits .and .u64 a0 4294967295) * (Go.bits .and .u64 a1 4294967295))) / 4294967296))) / 4294967296))) + ((IntKind.u64.wrap ((Go.bits .and .u64 (IntKind.u64.wrap ((IntKind.u64.wrap ((a0 / 4294967296) * (Go.bits .and .u64 a1 4294967295))) + ((IntKind.u64.wrap ((Go.bits .and .u64 a0 4294967295) * (Go.bits .and .u64 a1 4294967295))) / 4294967296))) 4294967295) + (IntKind.u64.wrap ((Go.bits .and .u64 a0 4294967295) * (a1 / 4294967296))))) / 4294967296)), IntKind.u64.wrap (a0 * a1))
set_option maxHeartbeats 8000000 in
set_option maxRecDepth 100000 in
theorem bits_Mul64.calls (a0 : Int) (a1 : Int) (r1 : Int) (r2 : Int) (w : World) (h : bits_Mul64.f a0 a1 = some (r1, r2)) :
 Calls Try.prog 53 #[.int .u64 a0, .int .u64 a1] w fun e w' => e = .returned (.tuple #[.int .u64 r1, .int .u64 r2]) ∧ Drawn0 w w' := by
 have H : (some (IntKind.u64.wrap ((IntKind.u64.wrap ((IntKind.u64.wrap ((a0 / 4294967296) * (a1 / 4294967296))) + ((IntKind.u64.wrap ((IntKind.u64.wrap ((a0 / 4294967296) * (Go.bits .and .u64 a1 4294967295))) + ((IntKind.u64.wrap ((Go.bits .and .u64 a0 4294967295) * (Go.bits .and .u64 a1 4294967295))) / 4294967296))) / 4294967296))) + ((IntKind.u64.wrap ((Go.bits .and .u64 (IntKind.u64.wrap ((IntKind.u64.wrap ((a0 / 4294967296) * (Go.bits .and .u64 a1 4294967295))) + ((IntKind.u64.wrap ((Go.bits .and .u64 a0 4294967295) * (Go.bits .and .u64 a1 4294967295))) / 4294967296))) 4294967295) + (IntKind.u64.wrap ((Go.bits .and .u64 a0 4294967295) * (a1 / 4294967296))))) / 4294967296)), IntKind.u64.wrap (a0 * a1))) = some (r1, r2) := h; clear h; simp only [Option.some.injEq, Prod.mk.injEq] at H; obtain ⟨rfl, rfl⟩ := H; go_enter Try.func53, Try.ntmps53; go_wp2; go_ret2; exact ⟨by first | rfl | (simp; done) | (simp [*]; done), by repeat (first | exact Drawn0.refl _ | apply Drawn0.step)⟩

/-! ### whole_size: function 54 -/
def whole_size.f (a0 : Int) : Option (Int) := if a0 < 0 then (some (IntKind.u64.wrap (-(IntKind.u64.wrap (a0))))) else (some (IntKind.u64.wrap (a0)))
set_option maxHeartbeats 8000000 in
set_option maxRecDepth 100000 in
theorem whole_size.calls (a0 : Int) (r : Int) (w : World) (h : whole_size.f a0 = some r) :
 Calls Try.prog 54 #[.int .i64 a0] w fun e w' => e = .returned (.int .u64 r) ∧ Drawn0 w w' := by
 have H : (if a0 < 0 then (some (IntKind.u64.wrap (-(IntKind.u64.wrap (a0))))) else (some (IntKind.u64.wrap (a0)))) = some r := h; clear h
 by_cases c2 : a0 < 0
 ·rw [if_pos c2] at H; have c2b0 : decide (a0 < 0) = true := decide_eq_true c2; clear c2; obtain rfl := Option.some.inj H; go_enter Try.func54, Try.ntmps54; go_wp2; go_ret; exact ⟨by first | rfl | (simp; done) | (simp [*]; done), by repeat (first | exact Drawn0.refl _ | apply Drawn0.step)⟩
 rw [if_neg c2] at H; have c2b0 : decide (a0 < 0) = false := decide_eq_false c2; clear c2; obtain rfl := Option.some.inj H; go_enter Try.func54, Try.ntmps54; go_wp2; go_ret; exact ⟨by first | rfl | (simp; done) | (simp [*]; done), by repeat (first | exact Drawn0.refl _ | apply Drawn0.step)⟩

/-! ### whole_Mul: function 51 -/
mutual
def whole_Mul.j0 : Nat → Int → Int → Bool → Option (Int × Bool)
 | 0, _, _, _ => none
 | k + 1, x6, x7, x8 => if x6 > 0 then (whole_Mul.j1 k x7 x8 true) else (if x7 > 9223372036854775808 then (whole_Mul.j1 k x7 x8 true) else (if x7 = 9223372036854775808 then (whole_Mul.j1 k x7 x8 (!x8)) else (whole_Mul.j1 k x7 x8 false)))
def whole_Mul.j1 : Nat → Int → Bool → Bool → Option (Int × Bool)
 | 0, _, _, _ => none
 | k + 1, x7, x8, x30 => if x30 = true then (some (0, false)) else (if x8 = true then (some (wrap64 (IntKind.u64.wrap (-x7)), true)) else (some (wrap64 (x7), true)))
end
def whole_Mul.f (k : Nat) (a0 : Int) (a1 : Int) : Option (Int × Bool) := (whole_size.f a0).bind fun t214 => ((whole_size.f a1).bind fun t215 => ((bits_Mul64.f t214 t215).bind fun bt216 => (if ((decide (a0 < 0)) != (decide (a1 < 0))) = true then (if a0 = 0 then (whole_Mul.j0 k bt216.1 bt216.2 false) else (whole_Mul.j0 k bt216.1 bt216.2 (a1 != 0))) else (whole_Mul.j0 k bt216.1 bt216.2 false))))
theorem whole_Mul.mono_l : ∀ k, (∀ y0 y1 y2, LeO (whole_Mul.j0 k y0 y1 y2) (whole_Mul.j0 (k + 1) y0 y1 y2)) ∧ (∀ y0 y1 y2, LeO (whole_Mul.j1 k y0 y1 y2) (whole_Mul.j1 (k + 1) y0 y1 y2))
 | 0 => ⟨fun _ _ _ r h => by simp [whole_Mul.j0] at h, fun _ _ _ r h => by simp [whole_Mul.j1] at h⟩
 | k + 1 => by
  obtain ⟨ih0, ih1⟩ := whole_Mul.mono_l k
  refine ⟨?_, ?_⟩
  all_goals
   intros
   first
   | unfold whole_Mul.j0
   | unfold whole_Mul.j1
   repeat' first
   | (with_reducible exact ih0 _ _ _)
   | (with_reducible exact ih1 _ _ _)
   | (with_reducible exact LeO.refl _)
   | (with_reducible exact LeO.none _)
   | (with_reducible refine LeO.ite ?_ ?_)
   | (with_reducible refine LeO.bind ?_ (fun _ => ?_))
   | exact ih0 _ _ _
   | exact ih1 _ _ _
   | exact LeO.none _
   | refine LeO.ite ?_ ?_
   | refine LeO.bind ?_ (fun _ => ?_)
theorem whole_Mul.mono : ∀ a0 a1 k, LeO (whole_Mul.f k a0 a1) (whole_Mul.f (k + 1) a0 a1) := by
 intro a0 a1 k
 obtain ⟨ih0, ih1⟩ := whole_Mul.mono_l k
 unfold whole_Mul.f
 repeat' first
  | (with_reducible exact ih0 _ _ _)
  | (with_reducible exact ih1 _ _ _)
  | (with_reducible exact LeO.refl _)
  | (with_reducible exact LeO.none _)
  | (with_reducible refine LeO.ite ?_ ?_)
  | (with_reducible refine LeO.bind ?_ (fun _ => ?_))
  | exact ih0 _ _ _
  | exact ih1 _ _ _
  | exact LeO.none _
  | refine LeO.ite ?_ ?_
  | refine LeO.bind ?_ (fun _ => ?_)
set_option maxHeartbeats 8000000 in
set_option maxRecDepth 100000 in
theorem whole_Mul.calls (k : Nat) (a0 : Int) (a1 : Int) (r1 : Int) (r2 : Bool) (w : World) (h : whole_Mul.f k a0 a1 = some (r1, r2)) :
 Calls Try.prog 51 #[.int .i64 a0, .int .i64 a1] w fun e w' => e = .returned (.tuple #[.int .i64 r1, .bool r2]) ∧ Drawn0 w w' := by
 have H : ((whole_size.f a0).bind fun t214 => ((whole_size.f a1).bind fun t215 => ((bits_Mul64.f t214 t215).bind fun bt216 => (if ((decide (a0 < 0)) != (decide (a1 < 0))) = true then (if a0 = 0 then (whole_Mul.j0 k bt216.1 bt216.2 false) else (whole_Mul.j0 k bt216.1 bt216.2 (a1 != 0))) else (whole_Mul.j0 k bt216.1 bt216.2 false))))) = some (r1, r2) := h; clear h; replace H := Option.bind_eq_some_iff.mp H; obtain ⟨t214, A30, H⟩ := H; replace H : ((whole_size.f a1).bind fun t215 => ((bits_Mul64.f t214 t215).bind fun bt216 => (if ((decide (a0 < 0)) != (decide (a1 < 0))) = true then (if a0 = 0 then (whole_Mul.j0 k bt216.1 bt216.2 false) else (whole_Mul.j0 k bt216.1 bt216.2 (a1 != 0))) else (whole_Mul.j0 k bt216.1 bt216.2 false)))) = some (r1, r2) := H; have A3 := Aside0.mk A30; clear A30; replace H := Option.bind_eq_some_iff.mp H; obtain ⟨t215, A40, H⟩ := H; replace H : ((bits_Mul64.f t214 t215).bind fun bt216 => (if ((decide (a0 < 0)) != (decide (a1 < 0))) = true then (if a0 = 0 then (whole_Mul.j0 k bt216.1 bt216.2 false) else (whole_Mul.j0 k bt216.1 bt216.2 (a1 != 0))) else (whole_Mul.j0 k bt216.1 bt216.2 false))) = some (r1, r2) := H; have A4 := Aside0.mk A40; clear A40; replace H := Option.bind_eq_some_iff.mp H; obtain ⟨⟨t216, t217⟩, A50, H⟩ := H; replace H : (if ((decide (a0 < 0)) != (decide (a1 < 0))) = true then (if a0 = 0 then (whole_Mul.j0 k t216 t217 false) else (whole_Mul.j0 k t216 t217 (a1 != 0))) else (whole_Mul.j0 k t216 t217 false)) = some (r1, r2) := H; have A5 := Aside0.mk A50; clear A50; have HC6 := Aside0.mk H; clear H; go_enter Try.func51, Try.ntmps51; go_upto_region 2 with (first | ((with_reducible refine gate_callee (f := 54) rfl ?_); refine goesL_ (some 11) rfl rfl Try.func54 (by kernel_rfl) rfl #[.int .i64 a0] rfl (by (try simp only [List.map_toArray, List.map_cons, List.map_nil]); first | done | rfl | (simp only [List.length_drop, List.length_take]; rfl)) ?_; (with_reducible refine (whole_size.calls a0 t214 _ A3.out).mono ?_); rintro e w' ⟨rfl, ⟨nd, rfl⟩⟩; refine ⟨_, rfl, ?_⟩) | ((with_reducible refine gate_callee (f := 54) rfl ?_); refine goesL_ (some 13) rfl rfl Try.func54 (by kernel_rfl) rfl #[.int .i64 a1] rfl (by (try simp only [List.map_toArray, List.map_cons, List.map_nil]); first | done | rfl | (simp only [List.length_drop, List.length_take]; rfl)) ?_; (with_reducible refine (whole_size.calls a1 t215 _ A4.out).mono ?_); rintro e w' ⟨rfl, ⟨nd, rfl⟩⟩; refine ⟨_, rfl, ?_⟩) | ((with_reducible refine gate_callee (f := 53) rfl ?_); refine goesL_ (some 14) rfl rfl Try.func53 (by kernel_rfl) rfl #[.int .u64 t214, .int .u64 t215] rfl (by (try simp only [List.map_toArray, List.map_cons, List.map_nil]); first | done | rfl | (simp only [List.length_drop, List.length_take]; rfl)) ?_; (with_reducible refine (bits_Mul64.calls t214 t215 t216 t217 _ A5.out).mono ?_); rintro e w' ⟨rfl, ⟨nd, rfl⟩⟩; refine ⟨_, rfl, ?_⟩)); (try simp only [Act.put, List.setIfInBounds_toArray, List.set_cons_zero, List.set_cons_succ]); go_cut [8] (fun v8 wc => ∃ (kq : Nat) (x8_5 : Bool), v8 = .bool x8_5 ∧ Aside0 (whole_Mul.j0 kq t216 t217 x8_5 = some (r1, r2)) ∧ Aside0 (kq ≤ k) ∧ Drawn0 w wc)
 case first =>
  have H := HC6.out; clear HC6
  by_cases c7 : ((decide (a0 < 0)) != (decide (a1 < 0))) = true
  ·rw [if_pos c7] at H; have c7b0 : ((decide (a0 < 0)) != (decide (a1 < 0))) = true := c7; (try (have c7b1 : decide ((decide (a0 < 0)) = (decide (a1 < 0))) = false := by simpa using c7)); (try (have c7b2 : ((decide (a0 < 0)) == (decide (a1 < 0))) = false := by simpa using c7)); (try (have c7b3 : ¬ ((decide (a0 < 0)) = (decide (a1 < 0))) := by simpa using c7)); clear c7; (first | rw [c7b0] | (simp only [i64_w, i32_w]; rw [c7b0]) | skip)
   by_cases c8 : a0 = 0
   ·rw [if_pos c8] at H; have c8b0 : (a0 == 0) = true := beq_iff_eq.mpr c8; have c8b1 : (a0 != 0) = false := bne_eq_false_iff_eq.mpr c8; clear c8; have H' := Aside0.mk H; clear H; go_wp2; go_meet
    case rel => exact ⟨_, (false), (by first | rfl | (simp; done) | (simp [*]; done)), H', ⟨by first | omega | exact Nat.le_refl _⟩, by repeat (first | exact Drawn0.refl _ | apply Drawn0.step)⟩
   rw [if_neg c8] at H; have c8b0 : (a0 == 0) = false := beq_eq_false_iff_ne.mpr c8; have c8b1 : (a0 != 0) = true := bne_iff_ne.mpr c8; have H' := Aside0.mk H; clear H; go_wp2; go_meet
   case rel => exact ⟨_, ((a1 != 0)), (by first | rfl | (simp; done) | (simp [*]; done)), H', ⟨by first | omega | exact Nat.le_refl _⟩, by repeat (first | exact Drawn0.refl _ | apply Drawn0.step)⟩
  rw [if_neg c7] at H; have c7b0 : ((decide (a0 < 0)) != (decide (a1 < 0))) = false := by simpa using c7
  (try (have c7b1 : decide ((decide (a0 < 0)) = (decide (a1 < 0))) = true := by simpa using c7)); (try (have c7b2 : ((decide (a0 < 0)) == (decide (a1 < 0))) = true := by simpa using c7)); clear c7; (first | rw [c7b0] | (simp only [i64_w, i32_w]; rw [c7b0]) | skip); have H' := Aside0.mk H; clear H; go_wp2; go_meet
  case rel => exact ⟨_, (false), (by first | rfl | (simp; done) | (simp [*]; done)), H', ⟨by first | omega | exact Nat.le_refl _⟩, by repeat (first | exact Drawn0.refl _ | apply Drawn0.step)⟩
 clear HC6; (try clear p2); (try clear c5); (try clear c7); (try clear c7b0); (try clear c7b1); (try clear c7b2); (try clear c8); (try clear c8b0); (try clear c8b1); obtain ⟨kq, x8_5, rfl, HA, HJ5, ⟨mc5, rfl⟩⟩ := hcut; cases kq with
 | zero => exact absurd HA.out (by simp [whole_Mul.j0])
 | succ kj5 =>
  have H := HA.out; clear HA; simp only [whole_Mul.j0] at H; have HC9 := Aside0.mk H; clear H; go_upto_region 3 with (fail); go_cut [30] (fun v30 wc => ∃ (kq : Nat) (x30_8 : Bool), v30 = .bool x30_8 ∧ Aside0 (whole_Mul.j1 kq t217 x8_5 x30_8 = some (r1, r2)) ∧ Aside0 (kq ≤ kj5) ∧ Drawn0 w wc)
  case first =>
   have H := HC9.out; clear HC9
   by_cases c10 : t216 > 0
   ·rw [if_pos c10] at H; have c10b0 : decide (0 < t216) = true := decide_eq_true c10; clear c10; (first | rw [c10b0] | (simp only [i64_w, i32_w]; rw [c10b0]) | skip); have H' := Aside0.mk H; clear H; go_wp2; go_meet
    case rel => exact ⟨_, (true), (by first | rfl | (simp; done) | (simp [*]; done)), H', ⟨by have := HJ5.out; first | omega | exact Nat.le_refl _⟩, by repeat (first | exact Drawn0.refl _ | apply Drawn0.step)⟩
   rw [if_neg c10] at H; have c10b0 : decide (0 < t216) = false := decide_eq_false c10; clear c10; (first | rw [c10b0] | (simp only [i64_w, i32_w]; rw [c10b0]) | skip)
   by_cases c11 : t217 > 9223372036854775808
   ·rw [if_pos c11] at H; have c11b0 : decide (9223372036854775808 < t217) = true := decide_eq_true c11; clear c11; have H' := Aside0.mk H; clear H; go_wp2; go_meet
    case rel => exact ⟨_, (true), (by first | rfl | (simp; done) | (simp [*]; done)), H', ⟨by have := HJ5.out; first | omega | exact Nat.le_refl _⟩, by repeat (first | exact Drawn0.refl _ | apply Drawn0.step)⟩
   rw [if_neg c11] at H; have c11b0 : decide (9223372036854775808 < t217) = false := decide_eq_false c11; clear c11
   by_cases c12 : t217 = 9223372036854775808
   ·rw [if_pos c12] at H; have c12b0 : (t217 == 9223372036854775808) = true := beq_iff_eq.mpr c12; have c12b1 : (t217 != 9223372036854775808) = false := bne_eq_false_iff_eq.mpr c12; clear c12; have H' := Aside0.mk H; clear H; go_wp2; go_meet
    case rel => exact ⟨_, (!x8_5), (by first | rfl | (simp; done) | (simp [*]; done)), H', ⟨by have := HJ5.out; first | omega | exact Nat.le_refl _⟩, by repeat (first | exact Drawn0.refl _ | apply Drawn0.step)⟩
   rw [if_neg c12] at H; have c12b0 : (t217 == 9223372036854775808) = false := beq_eq_false_iff_ne.mpr c12; have c12b1 : (t217 != 9223372036854775808) = true := bne_iff_ne.mpr c12; have H' := Aside0.mk H; clear H; go_wp2; go_meet
   case rel => exact ⟨_, (false), (by first | rfl | (simp; done) | (simp [*]; done)), H', ⟨by have := HJ5.out; first | omega | exact Nat.le_refl _⟩, by repeat (first | exact Drawn0.refl _ | apply Drawn0.step)⟩
  clear HC9; (try clear c1); (try clear p2); (try clear c5); (try clear c7); (try clear c7b0); (try clear c7b1); (try clear c7b2); (try clear c8); (try clear c8b0); (try clear c8b1); (try clear c10); (try clear c10b0); (try clear c11); (try clear c11b0); (try clear c12); (try clear c12b0); (try clear c12b1); (try clear p2); obtain ⟨kq, x30_8, rfl, HA, HJ8, ⟨mc8, rfl⟩⟩ := hcut; cases kq with
  | zero => exact absurd HA.out (by simp [whole_Mul.j1])
  | succ kj8 =>
   have H := HA.out; clear HA; simp only [whole_Mul.j1] at H
   by_cases c13 : x30_8 = true
   ·subst c13; have H1 : (some (0, false)) = some (r1, r2) := by rw [if_pos rfl] at H; exact H
    clear H; have H := H1; clear H1; simp only [Option.some.injEq, Prod.mk.injEq] at H; obtain ⟨rfl, rfl⟩ := H; go_wp2; go_ret2; exact ⟨by first | rfl | (simp; done) | (simp [*]; done), by repeat (first | exact Drawn0.refl _ | apply Drawn0.step)⟩
   replace c13 := Bool.eq_false_iff.mpr c13; subst c13; have H1 : (if x8_5 = true then (some (wrap64 (IntKind.u64.wrap (-t217)), true)) else (some (wrap64 (t217), true))) = some (r1, r2) := by rw [if_neg (show ¬ (false = true) by decide)] at H; exact H
   clear H; have H := H1; clear H1
   by_cases c14 : x8_5 = true
   ·subst c14; have H1 : (some (wrap64 (IntKind.u64.wrap (-t217)), true)) = some (r1, r2) := by rw [if_pos rfl] at H; exact H
    clear H; have H := H1; clear H1; simp only [Option.some.injEq, Prod.mk.injEq] at H; obtain ⟨rfl, rfl⟩ := H; go_wp2; go_ret2; exact ⟨by first | rfl | (simp; done) | (simp [*]; done), by repeat (first | exact Drawn0.refl _ | apply Drawn0.step)⟩
   replace c14 := Bool.eq_false_iff.mpr c14; subst c14; have H1 : (some (wrap64 (t217), true)) = some (r1, r2) := by rw [if_neg (show ¬ (false = true) by decide)] at H; exact H
   clear H; have H := H1; clear H1; simp only [Option.some.injEq, Prod.mk.injEq] at H; obtain ⟨rfl, rfl⟩ := H; go_wp2; go_ret2; exact ⟨by first | rfl | (simp; done) | (simp [*]; done), by repeat (first | exact Drawn0.refl _ | apply Drawn0.step)⟩

/-! ### whole_Dot: function 42 -/
def whole_Dot.l0 : Nat → List Int → List Int → Int → Int → Int → Option (Int × Bool)
 | 0, _, _, _, _, _ => none
 | k + 1, x0, x1, x6, x16, x17 => if x17 < x16 then (if 0 ≤ x17 then (if x17 < (x0.length : Int) then (if x17 < (x1.length : Int) then ((whole_Mul.f k (rd x0 x17) (rd x1 x17)).bind fun bt220 => ((whole_Add.f x6 bt220.1).bind fun bt222 => (if bt220.2 = true then (if bt222.2 = true then (whole_Dot.l0 k x0 x1 bt222.1 x16 (wrap64 (x17 + 1))) else (some (0, false))) else (some (0, false))))) else (none)) else (none)) else (none)) else (some (x6, true))
def whole_Dot.f (k : Nat) (l0 : List Int) (l1 : List Int) : Option (Int × Bool) := whole_Dot.l0 k l0 l1 0 (mn (l0.length : Int) (l1.length : Int)) 0
theorem whole_Dot.mono_l : ∀ k, (∀ y0 y1 y2 y3 y4, LeO (whole_Dot.l0 k y0 y1 y2 y3 y4) (whole_Dot.l0 (k + 1) y0 y1 y2 y3 y4))
 | 0 => fun _ _ _ _ _ r h => by simp [whole_Dot.l0] at h
 | k + 1 => by
  have ih0 := whole_Dot.mono_l k
  ·intro y0 y1 y2 y3 y4
   unfold whole_Dot.l0
   repeat' first
   | (with_reducible exact ih0 _ _ _ _ _)
   | (with_reducible exact whole_Mul.mono _ _ _)
   | (with_reducible exact LeO.refl _)
   | (with_reducible exact LeO.none _)
   | (with_reducible refine LeO.ite ?_ ?_)
   | (with_reducible refine LeO.bind ?_ (fun _ => ?_))
   | exact ih0 _ _ _ _ _
   | exact whole_Mul.mono _ _ _
   | exact LeO.none _
   | refine LeO.ite ?_ ?_
   | refine LeO.bind ?_ (fun _ => ?_)
theorem whole_Dot.mono : ∀ a0 a1 k, LeO (whole_Dot.f k a0 a1) (whole_Dot.f (k + 1) a0 a1) := by
 intro a0 a1 k
 have ih0 := whole_Dot.mono_l k
 unfold whole_Dot.f
 repeat' first
  | (with_reducible exact ih0 _ _ _ _ _)
  | (with_reducible exact whole_Mul.mono _ _ _)
  | (with_reducible exact LeO.refl _)
  | (with_reducible exact LeO.none _)
  | (with_reducible refine LeO.ite ?_ ?_)
  | (with_reducible refine LeO.bind ?_ (fun _ => ?_))
  | exact ih0 _ _ _ _ _
  | exact whole_Mul.mono _ _ _
  | exact LeO.none _
  | refine LeO.ite ?_ ?_
  | refine LeO.bind ?_ (fun _ => ?_)
set_option maxHeartbeats 8000000 in
set_option maxRecDepth 100000 in
theorem whole_Dot.calls (k : Nat) (A0 : Option Addr) (c0 : Nat) (l0 : List Int) (A1 : Option Addr) (c1 : Nat) (l1 : List Int) (r1 : Int) (r2 : Bool) (w : World) (hr0 : Kd.C (Kd.int .i64) w A0 l0.length l0) (hc0 : l0.length ≤ c0) (hr1 : Kd.C (Kd.int .i64) w A1 l1.length l1) (hc1 : l1.length ≤ c1) (h : whole_Dot.f k l0 l1 = some (r1, r2)) :
 Calls Try.prog 42 #[.slice A0 l0.length c0, .slice A1 l1.length c1] w fun e w' => e = .returned (.tuple #[.int .i64 r1, .bool r2]) ∧ Below w.heap.size w w' := by
 have HR0 := Aside0.mk hr0; have HC0 := Aside0.mk hc0; clear hr0 hc0; have HR1 := Aside0.mk hr1; have HC1 := Aside0.mk hc1; clear hr1 hc1; have HB := Aside0.mk (Below.refl w.heap.size w); have H : (whole_Dot.l0 k l0 l1 0 (mn (l0.length : Int) (l1.length : Int)) 0) = some (r1, r2) := h; clear h; obtain ⟨ji3, hji3⟩ : ∃ j_ : Int, (mn (l0.length : Int) (l1.length : Int)) = j_ := ⟨_, rfl⟩; replace H : (whole_Dot.l0 k l0 l1 0 ji3 0) = some (r1, r2) := by first | (rw [hji3] at H; exact H) | (simp only [hji3] at H ⊢; exact H)
 (try (have hji3l : 0 ≤ ji3 := by (rw [← hji3]; unfold mn; (repeat' split) <;> omega))); (try (have hji3m : 0 ≤ ji3 := by omega)); have hji3_ : (if (l1.length : Int) < (l0.length : Int) then (l1.length : Int) else (l0.length : Int)) = ji3 := hji3; have hji3n : (if l1.length < l0.length then (l1.length : Int) else (l0.length : Int)) = ji3 := by simpa only [Int.ofNat_lt] using hji3_
 have H' := Aside0.mk H; clear H; go_enter Try.func42, Try.ntmps42; go_wp2
 repeat (go_quiet (fail); try go_wp2)
 go_loopg [6, 17] k (fun kq v6 v17 w' => ∃ (x6_1 : Int) (x17_1 : Int), v6 = .int .i64 x6_1 ∧ v17 = .int .i64 x17_1 ∧ Aside0 (whole_Dot.l0 kq l0 l1 x6_1 ji3 x17_1 = some (r1, r2)) ∧ Aside0 (kq ≤ k) ∧ Aside0 (Below w.heap.size w w'))
 case atStart => exact ⟨(0), (0), (by first | rfl | (simp; done) | (simp [*]; done)), (by first | rfl | (simp; done) | (simp [*]; done)), H', ⟨Nat.le_refl _⟩, ⟨hbq HB.out⟩⟩
 clear H'; (try clear c1); (try clear p2); obtain ⟨x6_1, x17_1, rfl, rfl, HA, HK1, HB⟩ := hrel; cases gk with
 | zero => exact absurd HA.out (by simp [whole_Dot.l0])
 | succ k1 =>
  have H := HA.out; clear HA; simp only [whole_Dot.l0] at H
  by_cases c4 : x17_1 < ji3
  ·rw [if_pos c4] at H; have c4b0 : decide (x17_1 < ji3) = true := decide_eq_true c4; clear c4
   by_cases c5 : 0 ≤ x17_1
   case neg => rw [if_neg c5] at H; exact absurd H (by simp)
   rw [if_pos c5] at H; have c5b0 : decide (0 ≤ x17_1) = true := decide_eq_true c5; clear c5
   by_cases c6 : x17_1 < (l0.length : Int)
   case neg => rw [if_neg c6] at H; exact absurd H (by simp)
   rw [if_pos c6] at H; have c6b0 : decide (x17_1 < (l0.length : Int)) = true := decide_eq_true c6; clear c6
   by_cases c7 : x17_1 < (l1.length : Int)
   case neg => rw [if_neg c7] at H; exact absurd H (by simp)
   rw [if_pos c7] at H; have c7b0 : decide (x17_1 < (l1.length : Int)) = true := decide_eq_true c7; clear c7; replace H := Option.bind_eq_some_iff.mp H; obtain ⟨⟨t220, t221⟩, A80, H⟩ := H; replace H : ((whole_Add.f x6_1 t220).bind fun bt222 => (if t221 = true then (if bt222.2 = true then (whole_Dot.l0 k1 l0 l1 bt222.1 ji3 (wrap64 (x17_1 + 1))) else (some (0, false))) else (some (0, false)))) = some (r1, r2) := H; have A8 := Aside0.mk A80; clear A80; replace H := Option.bind_eq_some_iff.mp H; obtain ⟨⟨t222, t223⟩, A90, H⟩ := H; replace H : (if t221 = true then (if t223 = true then (whole_Dot.l0 k1 l0 l1 t222 ji3 (wrap64 (x17_1 + 1))) else (some (0, false))) else (some (0, false))) = some (r1, r2) := H; have A9 := Aside0.mk A90; clear A90
   by_cases c10 : t221 = true
   ·subst c10; have H1 : (if t223 = true then (whole_Dot.l0 k1 l0 l1 t222 ji3 (wrap64 (x17_1 + 1))) else (some (0, false))) = some (r1, r2) := by rw [if_pos rfl] at H; exact H
    clear H; have H := H1; clear H1
    by_cases c11 : t223 = true
    ·subst c11; have H1 : (whole_Dot.l0 k1 l0 l1 t222 ji3 (wrap64 (x17_1 + 1))) = some (r1, r2) := by rw [if_pos rfl] at H; exact H
     clear H; have H := H1; clear H1; have H' := Aside0.mk H; clear H; have p218 : 0 ≤ (x17_1 : Int) := oa; have q218 : x17_1 < (l0.length : Int) := oa; obtain ⟨ad218, e218, hx218_0⟩ := Kd.at_int HR0.out x17_1 p218 q218; cases e218; replace hx218_0 := (HB.out.cell (World.block_lt_of_cell? w _ hx218_0)).trans hx218_0; replace p218 := eq_true p218; replace q218 := eq_true q218; have p219 : 0 ≤ (x17_1 : Int) := oa; have q219 : x17_1 < (l1.length : Int) := oa; obtain ⟨ad219, e219, hx219_0⟩ := Kd.at_int HR1.out x17_1 p219 q219; cases e219; replace hx219_0 := (HB.out.cell (World.block_lt_of_cell? w _ hx219_0)).trans hx219_0; replace p219 := eq_true p219; replace q219 := eq_true q219
     iterate 3 ((try go_quiet (first | (go_at_call 51; (with_reducible refine (whole_Mul.calls k1 (rd l0 x17_1) (rd l1 x17_1) t220 true _ A8.out).mono ?_); rintro e w' ⟨rfl, ⟨nd, rfl⟩⟩; (try first | exact ⟨rfl, _, World.drewN_drewN _ _ _⟩ | exact ⟨rfl, _, Eq.trans (World.drewN_drewN _ _ _) (congrArg (World.drewN _) (Nat.add_assoc _ _ _))⟩)) | (go_at_call 43; (with_reducible refine (whole_Add.calls x6_1 t220 t222 true _ A9.out).mono ?_); rintro e w' ⟨rfl, ⟨nd, rfl⟩⟩; (try first | exact ⟨rfl, _, World.drewN_drewN _ _ _⟩ | exact ⟨rfl, _, Eq.trans (World.drewN_drewN _ _ _) (congrArg (World.drewN _) (Nat.add_assoc _ _ _))⟩)))); go_wp2_with (first | (go_at_call 51; (with_reducible refine (whole_Mul.calls k1 (rd l0 x17_1) (rd l1 x17_1) t220 true _ A8.out).mono ?_); rintro e w' ⟨rfl, ⟨nd, rfl⟩⟩; (try first | exact ⟨rfl, _, World.drewN_drewN _ _ _⟩ | exact ⟨rfl, _, Eq.trans (World.drewN_drewN _ _ _) (congrArg (World.drewN _) (Nat.add_assoc _ _ _))⟩)) | (go_at_call 43; (with_reducible refine (whole_Add.calls x6_1 t220 t222 true _ A9.out).mono ?_); rintro e w' ⟨rfl, ⟨nd, rfl⟩⟩; (try first | exact ⟨rfl, _, World.drewN_drewN _ _ _⟩ | exact ⟨rfl, _, Eq.trans (World.drewN_drewN _ _ _) (congrArg (World.drewN _) (Nat.add_assoc _ _ _))⟩))))
     go_roundg k1
     case measure => have := HK1.out; omega
     case rel => exact ⟨(t222), (wrap64 (x17_1 + 1)), (by first | rfl | (simp; done) | (simp [*]; done)), (by first | rfl | (simp; done) | (simp [*]; done)), H', ⟨by have := HK1.out; omega⟩, ⟨hbq HB.out⟩⟩
    replace c11 := Bool.eq_false_iff.mpr c11; subst c11; have H1 : (some (0, false)) = some (r1, r2) := by rw [if_neg (show ¬ (false = true) by decide)] at H; exact H
    clear H; have H := H1; clear H1; simp only [Option.some.injEq, Prod.mk.injEq] at H; obtain ⟨rfl, rfl⟩ := H; have p218 : 0 ≤ (x17_1 : Int) := oa; have q218 : x17_1 < (l0.length : Int) := oa; obtain ⟨ad218, e218, hx218_0⟩ := Kd.at_int HR0.out x17_1 p218 q218; cases e218; replace hx218_0 := (HB.out.cell (World.block_lt_of_cell? w _ hx218_0)).trans hx218_0; replace p218 := eq_true p218; replace q218 := eq_true q218; have p219 : 0 ≤ (x17_1 : Int) := oa; have q219 : x17_1 < (l1.length : Int) := oa; obtain ⟨ad219, e219, hx219_0⟩ := Kd.at_int HR1.out x17_1 p219 q219; cases e219; replace hx219_0 := (HB.out.cell (World.block_lt_of_cell? w _ hx219_0)).trans hx219_0; replace p219 := eq_true p219; replace q219 := eq_true q219
    iterate 3 ((try go_quiet (first | (go_at_call 51; (with_reducible refine (whole_Mul.calls k1 (rd l0 x17_1) (rd l1 x17_1) t220 true _ A8.out).mono ?_); rintro e w' ⟨rfl, ⟨nd, rfl⟩⟩; (try first | exact ⟨rfl, _, World.drewN_drewN _ _ _⟩ | exact ⟨rfl, _, Eq.trans (World.drewN_drewN _ _ _) (congrArg (World.drewN _) (Nat.add_assoc _ _ _))⟩)) | (go_at_call 43; (with_reducible refine (whole_Add.calls x6_1 t220 t222 false _ A9.out).mono ?_); rintro e w' ⟨rfl, ⟨nd, rfl⟩⟩; (try first | exact ⟨rfl, _, World.drewN_drewN _ _ _⟩ | exact ⟨rfl, _, Eq.trans (World.drewN_drewN _ _ _) (congrArg (World.drewN _) (Nat.add_assoc _ _ _))⟩)))); go_wp2_with (first | (go_at_call 51; (with_reducible refine (whole_Mul.calls k1 (rd l0 x17_1) (rd l1 x17_1) t220 true _ A8.out).mono ?_); rintro e w' ⟨rfl, ⟨nd, rfl⟩⟩; (try first | exact ⟨rfl, _, World.drewN_drewN _ _ _⟩ | exact ⟨rfl, _, Eq.trans (World.drewN_drewN _ _ _) (congrArg (World.drewN _) (Nat.add_assoc _ _ _))⟩)) | (go_at_call 43; (with_reducible refine (whole_Add.calls x6_1 t220 t222 false _ A9.out).mono ?_); rintro e w' ⟨rfl, ⟨nd, rfl⟩⟩; (try first | exact ⟨rfl, _, World.drewN_drewN _ _ _⟩ | exact ⟨rfl, _, Eq.trans (World.drewN_drewN _ _ _) (congrArg (World.drewN _) (Nat.add_assoc _ _ _))⟩))))
    go_ret2; exact ⟨by first | rfl | (simp [errW_none, errW_some] <;> rfl) | (simp only [← hji3]; first | rfl | (simp [errW_none, errW_some] <;> rfl)) | (simp [*, errW_none, errW_some] <;> rfl), hbq HB.out⟩
   replace c10 := Bool.eq_false_iff.mpr c10; subst c10; have H1 : (some (0, false)) = some (r1, r2) := by rw [if_neg (show ¬ (false = true) by decide)] at H; exact H
   clear H; have H := H1; clear H1; simp only [Option.some.injEq, Prod.mk.injEq] at H; obtain ⟨rfl, rfl⟩ := H; have p218 : 0 ≤ (x17_1 : Int) := oa; have q218 : x17_1 < (l0.length : Int) := oa; obtain ⟨ad218, e218, hx218_0⟩ := Kd.at_int HR0.out x17_1 p218 q218; cases e218; replace hx218_0 := (HB.out.cell (World.block_lt_of_cell? w _ hx218_0)).trans hx218_0; replace p218 := eq_true p218; replace q218 := eq_true q218; have p219 : 0 ≤ (x17_1 : Int) := oa; have q219 : x17_1 < (l1.length : Int) := oa; obtain ⟨ad219, e219, hx219_0⟩ := Kd.at_int HR1.out x17_1 p219 q219; cases e219; replace hx219_0 := (HB.out.cell (World.block_lt_of_cell? w _ hx219_0)).trans hx219_0; replace p219 := eq_true p219; replace q219 := eq_true q219
   iterate 3 ((try go_quiet (first | (go_at_call 51; (with_reducible refine (whole_Mul.calls k1 (rd l0 x17_1) (rd l1 x17_1) t220 false _ A8.out).mono ?_); rintro e w' ⟨rfl, ⟨nd, rfl⟩⟩; (try first | exact ⟨rfl, _, World.drewN_drewN _ _ _⟩ | exact ⟨rfl, _, Eq.trans (World.drewN_drewN _ _ _) (congrArg (World.drewN _) (Nat.add_assoc _ _ _))⟩)) | (go_at_call 43; (with_reducible refine (whole_Add.calls x6_1 t220 t222 t223 _ A9.out).mono ?_); rintro e w' ⟨rfl, ⟨nd, rfl⟩⟩; (try first | exact ⟨rfl, _, World.drewN_drewN _ _ _⟩ | exact ⟨rfl, _, Eq.trans (World.drewN_drewN _ _ _) (congrArg (World.drewN _) (Nat.add_assoc _ _ _))⟩)))); go_wp2_with (first | (go_at_call 51; (with_reducible refine (whole_Mul.calls k1 (rd l0 x17_1) (rd l1 x17_1) t220 false _ A8.out).mono ?_); rintro e w' ⟨rfl, ⟨nd, rfl⟩⟩; (try first | exact ⟨rfl, _, World.drewN_drewN _ _ _⟩ | exact ⟨rfl, _, Eq.trans (World.drewN_drewN _ _ _) (congrArg (World.drewN _) (Nat.add_assoc _ _ _))⟩)) | (go_at_call 43; (with_reducible refine (whole_Add.calls x6_1 t220 t222 t223 _ A9.out).mono ?_); rintro e w' ⟨rfl, ⟨nd, rfl⟩⟩; (try first | exact ⟨rfl, _, World.drewN_drewN _ _ _⟩ | exact ⟨rfl, _, Eq.trans (World.drewN_drewN _ _ _) (congrArg (World.drewN _) (Nat.add_assoc _ _ _))⟩))))
   go_ret2; exact ⟨by first | rfl | (simp [errW_none, errW_some] <;> rfl) | (simp only [← hji3]; first | rfl | (simp [errW_none, errW_some] <;> rfl)) | (simp [*, errW_none, errW_some] <;> rfl), hbq HB.out⟩
  rw [if_neg c4] at H; have c4b0 : decide (x17_1 < ji3) = false := decide_eq_false c4; clear c4; simp only [Option.some.injEq, Prod.mk.injEq] at H; obtain ⟨rfl, rfl⟩ := H; go_wp2
  repeat (go_quiet (fail); try go_wp2)
  go_ret2; exact ⟨by first | rfl | (simp [errW_none, errW_some] <;> rfl) | (simp only [← hji3]; first | rfl | (simp [errW_none, errW_some] <;> rfl)) | (simp [*, errW_none, errW_some] <;> rfl), hbq HB.out⟩

/-- A state of type 92 at block g of W; what its slices lead to came in by w0. -/
def IsS92 (w0 W : World) (g : Nat) (f0 : List (S52)) (f1 : List (S64)) (f2 : List Int) (f3 : Int) (f4 : Int) (f5 : Bool) : Prop := ∃ A0 c0, ∃ A1 c1, ∃ A2 c2, W.heap[g]? = some (.cells #[.slice A0 f0.length c0, .slice A1 f1.length c1, .slice A2 f2.length c2, .int .i64 f3, .int .i64 f4, .bool f5] 92 (0, 0)) ∧ w0.heap.size ≤ g ∧ Kd.C k52 w0 A0 f0.length f0 ∧ Kd.C k64 w0 A1 f1.length f1 ∧ Kd.C (Kd.int .i64) w0 A2 f2.length f2
theorem IsS92.grown {w0 W : World} {g : Nat} {f0 : List (S52)} {f1 : List (S64)} {f2 : List Int} {f3 : Int} {f4 : Int} {f5 : Bool} {W1 : World} {row : Option Nat} (h : IsS92 w0 W g f0 f1 f2 f3 f4 f5) (hw : W.grownBy W1 row) (hne : some g ≠ row) : IsS92 w0 W1 g f0 f1 f2 f3 f4 f5 := by
 obtain ⟨A0, c0, A1, c1, A2, c2, hb, hg, hr0, hr1, hr2⟩ := h
 exact ⟨A0, c0, A1, c1, A2, c2, blk_grown hb hw hne, hg, hr0, hr1, hr2⟩
theorem IsS92.own_neN {w0 W : World} {g : Nat} {f0 : List (S52)} {f1 : List (S64)} {f2 : List Int} {f3 : Int} {f4 : Int} {f5 : Bool} {α : Type} {d : Kd α} {e : Nat} {base : Nat} {ok : Nat → Prop} {v : Value} {xs : List α} (h : IsS92 w0 W g f0 f1 f2 f3 f4 f5) (ho : Kd.N d e W base ok v xs) (ht : e ≠ 92) : some g ≠ v.ownBlock := by
 obtain ⟨A0, c0, A1, c1, A2, c2, hb, hg, hr0, hr1, hr2⟩ := h
 exact Kd.N_ne ho hb ht
theorem IsS92.fresh {w0 W : World} {g : Nat} {f0 : List (S52)} {f1 : List (S64)} {f2 : List Int} {f3 : Int} {f4 : Int} {f5 : Bool} (h : IsS92 w0 W g f0 f1 f2 f3 f4 f5) : ∀ k, W.heap.size ≤ k → k ≠ g := by
 obtain ⟨A0, c0, A1, c1, A2, c2, hb, hg, hr0, hr1, hr2⟩ := h
 exact Kd.freshB hb
theorem IsS92.kept {w0 W : World} {g : Nat} {f0 : List (S52)} {f1 : List (S64)} {f2 : List Int} {f3 : Int} {f4 : Int} {f5 : Bool} {W1 : World} {S : Nat → Prop} (h : IsS92 w0 W g f0 f1 f2 f3 f4 f5) (hk : Kept W W1 S) (hne : ¬ S g) : IsS92 w0 W1 g f0 f1 f2 f3 f4 f5 := by
 obtain ⟨A0, c0, A1, c1, A2, c2, hb, hg, hr0, hr1, hr2⟩ := h
 exact ⟨A0, c0, A1, c1, A2, c2, blk_kept hb hk hne, hg, hr0, hr1, hr2⟩
theorem IsS92.below {w0 W : World} {g : Nat} {f0 : List (S52)} {f1 : List (S64)} {f2 : List Int} {f3 : Int} {f4 : Int} {f5 : Bool} {W1 : World} (h : IsS92 w0 W g f0 f1 f2 f3 f4 f5) (hw : Below W.heap.size W W1) : IsS92 w0 W1 g f0 f1 f2 f3 f4 f5 := h.grown (grown_of_below hw none) (by simp)
theorem IsS92.alloc {w0 W : World} {g : Nat} {f0 : List (S52)} {f1 : List (S64)} {f2 : List Int} {f3 : Int} {f4 : Int} {f5 : Bool} (h : IsS92 w0 W g f0 f1 f2 f3 f4 f5) (o : Obj) : IsS92 w0 (W.alloc o) g f0 f1 f2 f3 f4 f5 := h.below (below_alloc (Below.refl _ _) o)
theorem IsS92.drewN {w0 W : World} {g : Nat} {f0 : List (S52)} {f1 : List (S64)} {f2 : List Int} {f3 : Int} {f4 : Int} {f5 : Bool} (h : IsS92 w0 W g f0 f1 f2 f3 f4 f5) (m : Nat) : IsS92 w0 (W.drewN m) g f0 f1 f2 f3 f4 f5 := h
theorem IsS92.drew {w0 W : World} {g : Nat} {f0 : List (S52)} {f1 : List (S64)} {f2 : List Int} {f3 : Int} {f4 : Int} {f5 : Bool} (h : IsS92 w0 W g f0 f1 f2 f3 f4 f5) : IsS92 w0 W.drew g f0 f1 f2 f3 f4 f5 := h
theorem IsS92.at_ {w0 W : World} {g : Nat} {f0 : List (S52)} {f1 : List (S64)} {f2 : List Int} {f3 : Int} {f4 : Int} {f5 : Bool} {w' : World} {m : Nat} (hq : W.drewN m = w') (h : IsS92 w0 W g f0 f1 f2 f3 f4 f5) : IsS92 w0 w' g f0 f1 f2 f3 f4 f5 := by subst hq; exact IsS92.drewN h m
theorem IsS92.apart {w0 W : World} {g : Nat} {f0 : List (S52)} {f1 : List (S64)} {f2 : List Int} {f3 : Int} {f4 : Int} {f5 : Bool} {α : Type} {d : Kd α} {e : Nat} {base : Nat} {ok : Nat → Prop} {v : Value} {xs : List α} (h : IsS92 w0 W g f0 f1 f2 f3 f4 f5) (ho : d.R e W base ok v xs) (ht : ∀ q, q ∈ e :: d.E → q ≠ 92) : d.R e W base (fun k => ok k ∧ k ≠ g) v xs := by
 obtain ⟨A0, c0, A1, c1, A2, c2, hb, hg, hr0, hr1, hr2⟩ := h
 exact Kd.R_types ho hb ht
theorem IsS92.own_ne {w0 W : World} {g : Nat} {f0 : List (S52)} {f1 : List (S64)} {f2 : List Int} {f3 : Int} {f4 : Int} {f5 : Bool} {α : Type} {d : Kd α} {e : Nat} {base : Nat} {ok : Nat → Prop} {v : Value} {xs : List α} (h : IsS92 w0 W g f0 f1 f2 f3 f4 f5) (ho : d.R e W base ok v xs) (ht : e ≠ 92) : some g ≠ v.ownBlock := by
 obtain ⟨A0, c0, A1, c1, A2, c2, hb, hg, hr0, hr1, hr2⟩ := h
 exact Kd.R_ne ho hb ht
theorem IsS92.apartQ {w0 W : World} {g : Nat} {f0 : List (S52)} {f1 : List (S64)} {f2 : List Int} {f3 : Int} {f4 : Int} {f5 : Bool} {α : Type} {d : Kd α} {e : Nat} {base : Nat} {ok : Nat → Prop} {v : Value} {xs : List α} (h : IsS92 w0 W g f0 f1 f2 f3 f4 f5) (ho : d.Q e W base ok v xs) (ht : ∀ q, q ∈ e :: d.E → q ≠ 92) : d.Q e W base (fun k => ok k ∧ k ≠ g) v xs := by
 obtain ⟨A0, c0, A1, c1, A2, c2, hb, hg, hr0, hr1, hr2⟩ := h
 exact Kd.Q_types ho hb ht
theorem IsS92.own_neQ {w0 W : World} {g : Nat} {f0 : List (S52)} {f1 : List (S64)} {f2 : List Int} {f3 : Int} {f4 : Int} {f5 : Bool} {α : Type} {d : Kd α} {e : Nat} {base : Nat} {ok : Nat → Prop} {v : Value} {xs : List α} (h : IsS92 w0 W g f0 f1 f2 f3 f4 f5) (ho : d.Q e W base ok v xs) (ht : e ≠ 92) : some g ≠ v.ownBlock := by
 obtain ⟨A0, c0, A1, c1, A2, c2, hb, hg, hr0, hr1, hr2⟩ := h
 exact Kd.Q_ne ho hb ht
theorem IsS92.apartS {w0 W : World} {g : Nat} {f0 : List (S52)} {f1 : List (S64)} {f2 : List Int} {f3 : Int} {f4 : Int} {f5 : Bool} {α : Type} {d : Kd α} {e : Nat} {base : Nat} {ok : Nat → Prop} {v : Value} {xs : List α} (h : IsS92 w0 W g f0 f1 f2 f3 f4 f5) (ho : d.S e W base ok v xs) (ht : ∀ q, q ∈ e :: d.E → q ≠ 92) : d.S e W base (fun k => ok k ∧ k ≠ g) v xs := by
 obtain ⟨A0, c0, A1, c1, A2, c2, hb, hg, hr0, hr1, hr2⟩ := h
 exact Kd.S_types ho hb ht
theorem IsS92.own_neS {w0 W : World} {g : Nat} {f0 : List (S52)} {f1 : List (S64)} {f2 : List Int} {f3 : Int} {f4 : Int} {f5 : Bool} {α : Type} {d : Kd α} {e : Nat} {base : Nat} {ok : Nat → Prop} {v : Value} {xs : List α} (h : IsS92 w0 W g f0 f1 f2 f3 f4 f5) (ho : d.S e W base ok v xs) (ht : e ≠ 92) : some g ≠ v.ownBlock := by
 obtain ⟨A0, c0, A1, c1, A2, c2, hb, hg, hr0, hr1, hr2⟩ := h
 exact Kd.S_ne ho hb ht
theorem IsS92.lt {w0 W : World} {g : Nat} {f0 : List (S52)} {f1 : List (S64)} {f2 : List Int} {f3 : Int} {f4 : Int} {f5 : Bool} (h : IsS92 w0 W g f0 f1 f2 f3 f4 f5) : g < W.heap.size := by
 obtain ⟨A0, c0, A1, c1, A2, c2, hb, hg, hr0, hr1, hr2⟩ := h
 exact blk_lt hb
theorem IsS92.ge {w0 W : World} {g : Nat} {f0 : List (S52)} {f1 : List (S64)} {f2 : List Int} {f3 : Int} {f4 : Int} {f5 : Bool} (h : IsS92 w0 W g f0 f1 f2 f3 f4 f5) : w0.heap.size ≤ g := by
 obtain ⟨A0, c0, A1, c1, A2, c2, hb, hg, hr0, hr1, hr2⟩ := h
 exact hg
theorem IsS92.ne_blk {w0 W : World} {g : Nat} {f0 : List (S52)} {f1 : List (S64)} {f2 : List Int} {f3 : Int} {f4 : Int} {f5 : Bool} {a : Nat} {cs : Array Value} {t : TypeId} {fr : Nat × Nat} (h : IsS92 w0 W g f0 f1 f2 f3 f4 f5) (hb2 : W.heap[a]? = some (.cells cs t fr)) (ht : t ≠ 92) : g ≠ a := by
 obtain ⟨A0, c0, A1, c1, A2, c2, hb, hg, hr0, hr1, hr2⟩ := h
 rintro rfl
 rw [hb] at hb2
 injection hb2 with hb2
 injection hb2 with _ ht2
 exact ht ht2.symm
theorem IsS92.far {w0 W : World} {g : Nat} {f0 : List (S52)} {f1 : List (S64)} {f2 : List Int} {f3 : Int} {f4 : Int} {f5 : Bool} {p : Addr} (h : IsS92 w0 W g f0 f1 f2 f3 f4 f5) (hne : g ≠ p.block) (u : Value) : IsS92 w0 (W.setCell p u) g f0 f1 f2 f3 f4 f5 := by
 obtain ⟨A0, c0, A1, c1, A2, c2, hb, hg, hr0, hr1, hr2⟩ := h
 exact ⟨A0, c0, A1, c1, A2, c2, blk_far hb hne u, hg, hr0, hr1, hr2⟩
theorem cellS92_0 {W : World} {g : Nat} {A0 : Option Addr} {c0 : Nat} {A1 : Option Addr} {c1 : Nat} {A2 : Option Addr} {c2 : Nat} {f0 : List (S52)} {f1 : List (S64)} {f2 : List Int} {f3 : Int} {f4 : Int} {f5 : Bool} (h : W.heap[g]? = some (.cells #[.slice A0 f0.length c0, .slice A1 f1.length c1, .slice A2 f2.length c2, .int .i64 f3, .int .i64 f4, .bool f5] 92 (0, 0))) : W.cell? ⟨g, 0, none⟩ = some (.slice A0 f0.length c0) := (blk_cell h 0).trans rfl
theorem cellS92_1 {W : World} {g : Nat} {A0 : Option Addr} {c0 : Nat} {A1 : Option Addr} {c1 : Nat} {A2 : Option Addr} {c2 : Nat} {f0 : List (S52)} {f1 : List (S64)} {f2 : List Int} {f3 : Int} {f4 : Int} {f5 : Bool} (h : W.heap[g]? = some (.cells #[.slice A0 f0.length c0, .slice A1 f1.length c1, .slice A2 f2.length c2, .int .i64 f3, .int .i64 f4, .bool f5] 92 (0, 0))) : W.cell? ⟨g, 1, none⟩ = some (.slice A1 f1.length c1) := (blk_cell h 1).trans rfl
theorem cellS92_2 {W : World} {g : Nat} {A0 : Option Addr} {c0 : Nat} {A1 : Option Addr} {c1 : Nat} {A2 : Option Addr} {c2 : Nat} {f0 : List (S52)} {f1 : List (S64)} {f2 : List Int} {f3 : Int} {f4 : Int} {f5 : Bool} (h : W.heap[g]? = some (.cells #[.slice A0 f0.length c0, .slice A1 f1.length c1, .slice A2 f2.length c2, .int .i64 f3, .int .i64 f4, .bool f5] 92 (0, 0))) : W.cell? ⟨g, 2, none⟩ = some (.slice A2 f2.length c2) := (blk_cell h 2).trans rfl
theorem cellS92_3 {W : World} {g : Nat} {A0 : Option Addr} {c0 : Nat} {A1 : Option Addr} {c1 : Nat} {A2 : Option Addr} {c2 : Nat} {f0 : List (S52)} {f1 : List (S64)} {f2 : List Int} {f3 : Int} {f4 : Int} {f5 : Bool} (h : W.heap[g]? = some (.cells #[.slice A0 f0.length c0, .slice A1 f1.length c1, .slice A2 f2.length c2, .int .i64 f3, .int .i64 f4, .bool f5] 92 (0, 0))) : W.cell? ⟨g, 3, none⟩ = some (.int .i64 f3) := (blk_cell h 3).trans rfl
theorem IsS92.set_3 {w0 W : World} {g : Nat} {f0 : List (S52)} {f1 : List (S64)} {f2 : List Int} {f3 : Int} {f4 : Int} {f5 : Bool} (h : IsS92 w0 W g f0 f1 f2 f3 f4 f5) (x : Int) : IsS92 w0 (W.setCell ⟨g, 3, none⟩ (.int .i64 x)) g f0 f1 f2 x f4 f5 := by
 obtain ⟨A0, c0, A1, c1, A2, c2, hb, hg, hr0, hr1, hr2⟩ := h
 exact ⟨A0, c0, A1, c1, A2, c2, by simpa using blk_set hb 3 (.int .i64 x), hg, hr0, hr1, hr2⟩
theorem cellS92_4 {W : World} {g : Nat} {A0 : Option Addr} {c0 : Nat} {A1 : Option Addr} {c1 : Nat} {A2 : Option Addr} {c2 : Nat} {f0 : List (S52)} {f1 : List (S64)} {f2 : List Int} {f3 : Int} {f4 : Int} {f5 : Bool} (h : W.heap[g]? = some (.cells #[.slice A0 f0.length c0, .slice A1 f1.length c1, .slice A2 f2.length c2, .int .i64 f3, .int .i64 f4, .bool f5] 92 (0, 0))) : W.cell? ⟨g, 4, none⟩ = some (.int .i64 f4) := (blk_cell h 4).trans rfl
theorem IsS92.set_4 {w0 W : World} {g : Nat} {f0 : List (S52)} {f1 : List (S64)} {f2 : List Int} {f3 : Int} {f4 : Int} {f5 : Bool} (h : IsS92 w0 W g f0 f1 f2 f3 f4 f5) (x : Int) : IsS92 w0 (W.setCell ⟨g, 4, none⟩ (.int .i64 x)) g f0 f1 f2 f3 x f5 := by
 obtain ⟨A0, c0, A1, c1, A2, c2, hb, hg, hr0, hr1, hr2⟩ := h
 exact ⟨A0, c0, A1, c1, A2, c2, by simpa using blk_set hb 4 (.int .i64 x), hg, hr0, hr1, hr2⟩
theorem cellS92_5 {W : World} {g : Nat} {A0 : Option Addr} {c0 : Nat} {A1 : Option Addr} {c1 : Nat} {A2 : Option Addr} {c2 : Nat} {f0 : List (S52)} {f1 : List (S64)} {f2 : List Int} {f3 : Int} {f4 : Int} {f5 : Bool} (h : W.heap[g]? = some (.cells #[.slice A0 f0.length c0, .slice A1 f1.length c1, .slice A2 f2.length c2, .int .i64 f3, .int .i64 f4, .bool f5] 92 (0, 0))) : W.cell? ⟨g, 5, none⟩ = some (.bool f5) := (blk_cell h 5).trans rfl
theorem IsS92.set_5 {w0 W : World} {g : Nat} {f0 : List (S52)} {f1 : List (S64)} {f2 : List Int} {f3 : Int} {f4 : Int} {f5 : Bool} (h : IsS92 w0 W g f0 f1 f2 f3 f4 f5) (x : Bool) : IsS92 w0 (W.setCell ⟨g, 5, none⟩ (.bool x)) g f0 f1 f2 f3 f4 x := by
 obtain ⟨A0, c0, A1, c1, A2, c2, hb, hg, hr0, hr1, hr2⟩ := h
 exact ⟨A0, c0, A1, c1, A2, c2, by simpa using blk_set hb 5 (.bool x), hg, hr0, hr1, hr2⟩
theorem IsS92.new (w0 W : World) (A0 : Option Addr) (c0 : Nat) (A1 : Option Addr) (c1 : Nat) (A2 : Option Addr) (c2 : Nat) (f0 : List (S52)) (f1 : List (S64)) (f2 : List Int) (f3 : Int) (f4 : Int) (f5 : Bool) (hB : Below w0.heap.size w0 W) (hr0 : Kd.C k52 w0 A0 f0.length f0) (hr1 : Kd.C k64 w0 A1 f1.length f1) (hr2 : Kd.C (Kd.int .i64) w0 A2 f2.length f2) : IsS92 w0 (W.alloc (.cells #[.slice A0 f0.length c0, .slice A1 f1.length c1, .slice A2 f2.length c2, .int .i64 f3, .int .i64 f4, .bool f5] 92)) W.heap.size f0 f1 f2 f3 f4 f5 := ⟨A0, c0, A1, c1, A2, c2, by simpa using heap_alloc_new W _, hB.size, hr0, hr1, hr2⟩

/-! ### weigh_New: function 29 -/
def weigh_New.l0 : Nat → List Int → List Int → List (S52) → Int → Int → List (S52) → List (S64) → Option ((List (S52)) × (List (S64)) × List Int × Int × Int × Bool × Int)
 | 0, _, _, _, _, _, _, _ => none
 | k + 1, x1, x6, x18, x19, x20, x225000, x225001 => if x20 < x19 then (if 0 ≤ x20 then (if x20 < (x18.length : Int) then (if x6.length < 17592186044416 then (weigh_New.l0 k x1 (x6 ++ [(rd_T52 x18 x20).f1]) x18 x19 (wrap64 (x20 + 1)) x225000 x225001) else (none)) else (none)) else (none)) else ((whole_Dot.f k x1 x6).bind fun bt230 => (if bt230.2 = true then (some (x225000, x225001, x1, bt230.1, bt230.1, true, 0)) else (some (([] : List (S52)), ([] : List (S64)), ([] : List Int), 0, 0, false, 3))))
def weigh_New.f (k : Nat) (l0_0 : List (S52)) (l0_1 : List (S64)) (l1 : List Int) : Option ((List (S52)) × (List (S64)) × List Int × Int × Int × Bool × Int) := if (l1.length : Int) = (l0_0.length : Int) then (weigh_New.l0 k l1 ([] : List Int) l0_0 (l0_0.length : Int) 0 l0_0 l0_1) else (some (([] : List (S52)), ([] : List (S64)), ([] : List Int), 0, 0, false, 1))
theorem weigh_New.mono_l : ∀ k, (∀ y0 y1 y2 y3 y4 y5 y6, LeO (weigh_New.l0 k y0 y1 y2 y3 y4 y5 y6) (weigh_New.l0 (k + 1) y0 y1 y2 y3 y4 y5 y6))
 | 0 => fun _ _ _ _ _ _ _ r h => by simp [weigh_New.l0] at h
 | k + 1 => by
  have ih0 := weigh_New.mono_l k
  ·intro y0 y1 y2 y3 y4 y5 y6
   unfold weigh_New.l0
   repeat' first
   | (with_reducible exact ih0 _ _ _ _ _ _ _)
   | (with_reducible exact whole_Dot.mono _ _ _)
   | (with_reducible exact LeO.refl _)
   | (with_reducible exact LeO.none _)
   | (with_reducible refine LeO.ite ?_ ?_)
   | (with_reducible refine LeO.bind ?_ (fun _ => ?_))
   | exact ih0 _ _ _ _ _ _ _
   | exact whole_Dot.mono _ _ _
   | exact LeO.none _
   | refine LeO.ite ?_ ?_
   | refine LeO.bind ?_ (fun _ => ?_)
theorem weigh_New.mono : ∀ a0 a1 a2 k, LeO (weigh_New.f k a0 a1 a2) (weigh_New.f (k + 1) a0 a1 a2) := by
 intro a0 a1 a2 k
 have ih0 := weigh_New.mono_l k
 unfold weigh_New.f
 repeat' first
  | (with_reducible exact ih0 _ _ _ _ _ _ _)
  | (with_reducible exact whole_Dot.mono _ _ _)
  | (with_reducible exact LeO.refl _)
  | (with_reducible exact LeO.none _)
  | (with_reducible refine LeO.ite ?_ ?_)
  | (with_reducible refine LeO.bind ?_ (fun _ => ?_))
  | exact ih0 _ _ _ _ _ _ _
  | exact whole_Dot.mono _ _ _
  | exact LeO.none _
  | refine LeO.ite ?_ ?_
  | refine LeO.bind ?_ (fun _ => ?_)
set_option maxHeartbeats 8000000 in
set_option maxRecDepth 100000 in
theorem weigh_New.calls (k : Nat) (A0_0 : Option Addr) (c0_0 : Nat) (l0_0 : List (S52)) (A0_1 : Option Addr) (c0_1 : Nat) (l0_1 : List (S64)) (A1 : Option Addr) (c1 : Nat) (l1 : List Int) (r1 : List (S52)) (r2 : List (S64)) (r3 : List Int) (r4 : Int) (r5 : Int) (r6 : Bool) (r7 : Int) (w : World) (hr0_0 : Kd.C k52 w A0_0 l0_0.length l0_0) (hc0_0 : l0_0.length ≤ c0_0) (hr0_1 : Kd.C k64 w A0_1 l0_1.length l0_1) (hc0_1 : l0_1.length ≤ c0_1) (hr1 : Kd.C (Kd.int .i64) w A1 l1.length l1) (hc1 : l1.length ≤ c1) (h : weigh_New.f k l0_0 l0_1 l1 = some (r1, r2, r3, r4, r5, r6, r7)) :
 Calls Try.prog 29 #[.agg #[.slice A0_0 l0_0.length c0_0, .slice A0_1 l0_1.length c0_1], .slice A1 l1.length c1] w fun e w' => ((r7 = 0 → ∃ g_ : Nat, e = .returned (.tuple #[.pointer (some ⟨g_, 0, none⟩), .int .i64 r7]) ∧ IsS92 w w' g_ r1 r2 r3 r4 r5 r6) ∧ (r7 ≠ 0 → e = .returned (.tuple #[.pointer none, .int .i64 r7]))) ∧ Below w.heap.size w w' := by
 have hu34 := Try.underlying34; have hu52 := Try.underlying52; have hu92 := Try.underlying92; have HR0_0 := Aside0.mk hr0_0; have HC0_0 := Aside0.mk hc0_0; clear hr0_0 hc0_0; have HR0_1 := Aside0.mk hr0_1; have HC0_1 := Aside0.mk hc0_1; clear hr0_1 hc0_1; have HR1 := Aside0.mk hr1; have HC1 := Aside0.mk hc1; clear hr1 hc1; have HB := Aside0.mk (Below.refl w.heap.size w); have H : (if (l1.length : Int) = (l0_0.length : Int) then (weigh_New.l0 k l1 ([] : List Int) l0_0 (l0_0.length : Int) 0 l0_0 l0_1) else (some (([] : List (S52)), ([] : List (S64)), ([] : List Int), 0, 0, false, 1))) = some (r1, r2, r3, r4, r5, r6, r7) := h; clear h
 by_cases c3 : (l1.length : Int) = (l0_0.length : Int)
 ·rw [if_pos c3] at H; have c3b0 : ((l1.length : Int) == (l0_0.length : Int)) = true := beq_iff_eq.mpr c3; have c3b1 : ((l1.length : Int) != (l0_0.length : Int)) = false := bne_eq_false_iff_eq.mpr c3; have c3b2 : (l1.length == l0_0.length) = true := by first | simpa using c3 | (simp at c3 ⊢; omega)
  clear c3; have H' := Aside0.mk H; clear H; go_enter Try.func29, Try.ntmps29; go_wp2_with (first | ((with_reducible refine gate_dst (N := 2) rfl ?_); refine box_event ?hg (N := 2) ?hd (cs := #[.slice A0_0 l0_0.length c0_0, .slice A0_1 l0_1.length c0_1]) (t := 34) ?hr ?_; (case hd => rfl); (case hg => rfl); (case hr => first | (go_simp; done) | (go_simp; rfl)); intro gb224 hg w4 hbox hb; have BK224 := Aside0.mk (hbox); have GW224 := Aside0.mk ((by rw [hg]; exact (below_size (hbq HB.out)) : w.heap.size ≤ gb224)); have GE224 := Aside0.mk ((by rw [hg]; exact (below_size (hbq HB.out)) : w.heap.size ≤ gb224)); replace HB := Aside0.mk (below_step (hbq HB.out) hb); clear hb hbox hg; have hcz5_0 : w4.cell? ⟨gb224, 0, none⟩ = some (.slice A0_0 l0_0.length c0_0) := (blk_cell BK224.out 0).trans rfl; have hcz5_1 : w4.cell? ⟨gb224, 1, none⟩ = some (.slice A0_1 l0_1.length c0_1) := (blk_cell BK224.out 1).trans rfl; have hfz5_0 := blk_frozen BK224.out 0; have hfz5_1 := blk_frozen BK224.out 1)); go_loopg [6, 20] k (fun kq v6 v20 w' => ∃ (x6_1 : List Int) (x20_1 : Int), v20 = .int .i64 x20_1 ∧ Aside0 (weigh_New.l0 kq l1 x6_1 l0_0 (l0_0.length : Int) x20_1 l0_0 l0_1 = some (r1, r2, r3, r4, r5, r6, r7)) ∧ Aside0 (kq ≤ k) ∧ Aside0 (Kd.R (Kd.int .i64) 3 w' w.heap.size (fun _ => True) v6 x6_1) ∧ Aside0 (w'.heap[gb224]? = some (.cells #[(.slice A0_0 l0_0.length c0_0), (.slice A0_1 l0_1.length c0_1)] 34 (0, 0))) ∧ Aside0 (Below w.heap.size w w'))
  case atStart => exact ⟨(([] : List Int)), (0), (by first | rfl | (simp; done) | (simp [*]; done)), H', ⟨Nat.le_refl _⟩, ⟨by first | exact Kd.R_nil _ _ _ _ _ | exact Kd.N_nil _ _ _ _ _ | exact Kd.V_nil _ _ _ _ _ | exact Kd.Q_nil _ _ _ _ _ | exact Kd.S_nil _ _ _ _ _⟩, ⟨by refine bkq ?_; exact BK224.out⟩, ⟨hbq HB.out⟩⟩
  clear H'; (try clear c1); (try clear c2); (try clear p2); (try clear c3); (try clear c3b0); (try clear c3b1); (try clear c3b2); (try clear hcz5_0); (try clear hcz5_1); (try clear hfz5_0); (try clear hfz5_1); obtain ⟨x6_1, x20_1, rfl, HA, HK1, HO_6, BK224, HB⟩ := hrel; cases gk with
  | zero => exact absurd HA.out (by simp [weigh_New.l0])
  | succ k1 =>
   have H := HA.out; clear HA; simp only [weigh_New.l0] at H
   by_cases c6 : x20_1 < (l0_0.length : Int)
   ·rw [if_pos c6] at H; have c6b0 : decide (x20_1 < (l0_0.length : Int)) = true := decide_eq_true c6; clear c6
    by_cases c7 : 0 ≤ x20_1
    case neg => rw [if_neg c7] at H; exact absurd H (by simp)
    rw [if_pos c7] at H; have c7b0 : decide (0 ≤ x20_1) = true := decide_eq_true c7; clear c7
    by_cases c8 : x20_1 < (l0_0.length : Int)
    case neg => rw [if_neg c8] at H; exact absurd H (by simp)
    rw [if_pos c8] at H; have c8b0 : decide (x20_1 < (l0_0.length : Int)) = true := decide_eq_true c8; clear c8
    by_cases c9 : x6_1.length < 17592186044416
    case neg => rw [if_neg c9] at H; exact absurd H (by simp)
    rw [if_pos c9] at H; have LMc9 := Aside0.mk c9; clear c9; obtain ⟨y227, hy227⟩ : ∃ y_ : List Int, y_ = (x6_1 ++ [(rd_T52 l0_0 x20_1).f1]) := ⟨_, rfl⟩; replace H : (weigh_New.l0 k1 l1 y227 l0_0 (l0_0.length : Int) (wrap64 (x20_1 + 1)) l0_0 l0_1) = some (r1, r2, r3, r4, r5, r6, r7) := by first | (rw [hy227]; with_reducible exact H) | (have H2_ := (Option.bind_some _ _).symm.trans H; rw [hy227]; with_reducible exact H2_) | (have H2_ := (Option.bind_some _ _).symm.trans H; with_reducible exact H2_) | with_reducible exact H | (rw [hy227]; exact H) | exact H
    have Ny227 := Aside0.mk hy227; clear hy227; have H' := Aside0.mk H; clear H; have p225 : 0 ≤ (x20_1 : Int) := oa; have q225 : x20_1 < (l0_0.length : Int) := oa; obtain ⟨ad225, e225, hx225_0, hx225_1⟩ := at_T52 HR0_0.out x20_1 p225 q225; cases e225; replace hx225_0 := (HB.out.cell (World.block_lt_of_cell? w _ hx225_0)).trans hx225_0; replace hx225_1 := (HB.out.cell (World.block_lt_of_cell? w _ hx225_1)).trans hx225_1; replace p225 := eq_true p225; replace q225 := eq_true q225; go_wp2_with (first | ((with_reducible refine gate_dst (N := 8) rfl ?_); refine box_event ?hg (N := 8) ?hd (cs := #[.string (⟨#[]⟩ : ByteArray), .int .i64 0]) (t := 52) ?hr ?_; (case hd => rfl); (case hg => rfl); (case hr => first | (go_simp; done) | (go_simp; rfl)); intro gb226 hg w10 hbox hb; replace HO_6 := Aside0.mk (Kd.R_below (kq_R HO_6.out) hb); have BK226 := Aside0.mk (hbox); have GW226 := Aside0.mk ((by rw [hg]; exact (below_size (hbq HB.out)) : w.heap.size ≤ gb226)); have GE226 := Aside0.mk ((by rw [hg]; exact (below_size (hbq HB.out)) : w.heap.size ≤ gb226)); replace HB := Aside0.mk (below_step (hbq HB.out) hb); have NB224_226 := Aside0.mk ((by rw [hg]; exact Nat.ne_of_lt (blk_lt (bky BK224.out)) : gb224 ≠ gb226)); have NB226_224 := Aside0.mk ((by rw [hg]; exact Nat.ne_of_gt (blk_lt (bky BK224.out)) : gb226 ≠ gb224)); replace BK224 := Aside0.mk (blk_below (bky BK224.out) hb); clear hb hbox hg; have hnb11 := NB226_224.out; have hnc11 := NB224_226.out; have hcz12_0 : w10.cell? ⟨gb226, 0, none⟩ = some (.string (⟨#[]⟩ : ByteArray)) := (blk_cell BK226.out 0).trans rfl; have hcz12_1 : w10.cell? ⟨gb226, 1, none⟩ = some (.int .i64 0) := (blk_cell BK226.out 1).trans rfl; have hfz12_0 := blk_frozen BK226.out 0; have hfz12_1 := blk_frozen BK226.out 1) | ((with_reducible refine gate_builtin (b := .append) (xs := #[.tmp 24, .tmp 27]) rfl ?_); at_builtin; refine Kd.R_append (Kd.int .i64) (w0 := w) w.heap.size rfl (.tmp 24) (.tmp 27) 22 3 (.int .i64 0) 8 rfl Try.underlying22 info3 rfl (by decide) (by omega) u6 x6_1 ((rd_T52 l0_0 x20_1).f1) [.int .i64 ((rd_T52 l0_0 x20_1).f1)] (fun _ => True) (fun _ => False) rfl (by first | (go_simp; done) | (go_simp; rfl)) ?aP (fun _ hk => hk.elim) ?aF ?aO ?aB ?aS ?aL ?_; (case aP => exact rfl); (case aB => exact (hbq HB.out)); (case aF => exact (fun _ _ => trivial)); (case aO => exact (by refine kq_R ?_; exact Kd.R_mono (Kd.R_far (Kd.R_far (Kd.R_types HO_6.out BK226.out (by decide)) hk2 _) hk2 _) (fun _ hk => trivial))); (case aS => exact (below_size (hbq HB.out))); (case aL => have := LMc9.out; omega); intro v228 w13 ho hb hg hat; rw [← Ny227.out] at ho; replace BK224 := Aside0.mk (blk_grown (g := gb224) (o := .cells #[.slice (some ad225) l0_0.length c0_0, .slice A0_1 l0_1.length c0_1] 34 (0, 0)) (by exact bkf BK224.out NB224_226.out) hg (Kd.R_ne HO_6.out BK224.out (by decide))); replace BK226 := Aside0.mk (blk_grown (g := gb226) (o := .cells #[.string ((rd_T52 l0_0 x20_1).f0), .int .i64 ((rd_T52 l0_0 x20_1).f1)] 52 (0, 0)) (by refine bkq ?_; refine blk_put (cs := #[.string ((rd_T52 l0_0 x20_1).f0), .int .i64 0]) ?_ 1 _ rfl; refine bkq ?_; refine blk_put (cs := #[.string (⟨#[]⟩ : ByteArray), .int .i64 0]) ?_ 0 _ rfl; refine bkq ?_; exact BK226.out) hg (Kd.R_ne HO_6.out BK226.out (by decide))); replace HB := Aside0.mk (hb); have HO229 := Aside0.mk (ho); clear HO_6; clear ho hb hg hat)); go_roundg k1
    case measure => have := HK1.out; omega
    case rel => exact ⟨(y227), (wrap64 (x20_1 + 1)), (by first | rfl | (simp; done) | (simp [*]; done)), H', ⟨by have := HK1.out; omega⟩, ⟨by refine kq_R ?_; exact HO229.out⟩, ⟨by refine bkq ?_; exact BK224.out⟩, ⟨hbq HB.out⟩⟩
   rw [if_neg c6] at H; have c6b0 : decide (x20_1 < (l0_0.length : Int)) = false := decide_eq_false c6; clear c6; replace H := Option.bind_eq_some_iff.mp H; obtain ⟨⟨t230, t231⟩, A140, H⟩ := H; replace H : (if t231 = true then (some (l0_0, l0_1, l1, t230, t230, true, 0)) else (some (([] : List (S52)), ([] : List (S64)), ([] : List Int), 0, 0, false, 3))) = some (r1, r2, r3, r4, r5, r6, r7) := H; have A14 := Aside0.mk A140; clear A140
   by_cases c15 : t231 = true
   ·subst c15; have H1 : (some (l0_0, l0_1, l1, t230, t230, true, 0)) = some (r1, r2, r3, r4, r5, r6, r7) := by rw [if_pos rfl] at H; exact H
    clear H; have H := H1; clear H1; simp only [Option.some.injEq, Prod.mk.injEq] at H; obtain ⟨rfl, rfl, rfl, rfl, rfl, rfl, rfl⟩ := H; obtain ⟨Ao16, co16, eo16⟩ := Kd.R_slice HO_6.out; subst eo16; go_wp2_with (first | ((with_reducible refine gate_callee (f := 42) rfl ?_); refine goesL_ (some 33) rfl rfl Try.func42 (by kernel_rfl) rfl #[.slice A1 l1.length c1, .slice Ao16 x6_1.length co16] rfl (by (try simp only [List.map_toArray, List.map_cons, List.map_nil]); first | done | rfl | (simp only [List.length_drop, List.length_take]; rfl)) ?_; (with_reducible refine (whole_Dot.calls k1 _ _ l1 _ _ x6_1 t230 true _ ?side1 ?side2 ?side3 ?side4 A14.out).mono ?_); (case side1 => exact kc (Kd.C_below HR1.out HB.out)); (case side2 => exact HC1.out); (case side3 => exact kc (Kd.R_reads' HO_6.out).2.2); (case side4 => exact (Kd.R_reads' HO_6.out).2.1); rintro e w17 ⟨rfl, hb⟩; refine ⟨_, rfl, ?_⟩; replace HO_6 := Aside0.mk (Kd.R_below (kq_R HO_6.out) hb); replace BK224 := Aside0.mk (blk_below (bky BK224.out) hb); replace HB := Aside0.mk (below_step (hbq HB.out) hb); (try clear hb); (try clear hb2); (try clear hk); (try clear hi); have hcz18_0 : w17.cell? ⟨gb224, 0, none⟩ = some (.slice A0_0 l0_0.length c0_0) := (blk_cell BK224.out 0).trans rfl; have hcz18_1 : w17.cell? ⟨gb224, 1, none⟩ = some (.slice A0_1 l0_1.length c0_1) := (blk_cell BK224.out 1).trans rfl; have hfz18_0 := blk_frozen BK224.out 0; have hfz18_1 := blk_frozen BK224.out 1) | ((with_reducible refine gate_dst (N := 43) rfl ?_); refine box_event ?hg (N := 43) ?hd (cs := #[.slice A0_0 l0_0.length c0_0, .slice A0_1 l0_1.length c0_1, .slice A1 l1.length c1, .int .i64 t230, .int .i64 t230, .bool true]) (t := 92) ?hr ?_; (case hd => rfl); (case hg => rfl); (case hr => first | (go_simp; done) | (go_simp; rfl)); intro gb232 hg w19 hbox hb; replace HO_6 := Aside0.mk (Kd.R_below (kq_R HO_6.out) hb); have BK232 := Aside0.mk (hbox); have GW232 := Aside0.mk ((by rw [hg]; exact (below_size (hbq HB.out)) : w.heap.size ≤ gb232)); have GE232 := Aside0.mk ((by rw [hg]; exact (below_size (hbq HB.out)) : w.heap.size ≤ gb232)); replace HB := Aside0.mk (below_step (hbq HB.out) hb); have NB224_232 := Aside0.mk ((by rw [hg]; exact Nat.ne_of_lt (blk_lt (bky BK224.out)) : gb224 ≠ gb232)); have NB232_224 := Aside0.mk ((by rw [hg]; exact Nat.ne_of_gt (blk_lt (bky BK224.out)) : gb232 ≠ gb224)); replace BK224 := Aside0.mk (blk_below (bky BK224.out) hb); clear hb hbox hg)); go_ret2; exact ⟨⟨_, rfl, (show IsS92 w _ gb232 l0_0 l0_1 l1 t230 t230 true from ⟨_, _, _, _, _, _, by refine bkq ?_; exact BK232.out, GE232.out, HR0_0.out, HR0_1.out, HR1.out⟩)⟩, hbq HB.out⟩
   replace c15 := Bool.eq_false_iff.mpr c15; subst c15; have H1 : (some (([] : List (S52)), ([] : List (S64)), ([] : List Int), 0, 0, false, 3)) = some (r1, r2, r3, r4, r5, r6, r7) := by rw [if_neg (show ¬ (false = true) by decide)] at H; exact H
   clear H; have H := H1; clear H1; simp only [Option.some.injEq, Prod.mk.injEq] at H; obtain ⟨rfl, rfl, rfl, rfl, rfl, rfl, rfl⟩ := H; obtain ⟨Ao20, co20, eo20⟩ := Kd.R_slice HO_6.out; subst eo20; go_wp2_with (first | ((with_reducible refine gate_callee (f := 42) rfl ?_); refine goesL_ (some 33) rfl rfl Try.func42 (by kernel_rfl) rfl #[.slice A1 l1.length c1, .slice Ao20 x6_1.length co20] rfl (by (try simp only [List.map_toArray, List.map_cons, List.map_nil]); first | done | rfl | (simp only [List.length_drop, List.length_take]; rfl)) ?_; (with_reducible refine (whole_Dot.calls k1 _ _ l1 _ _ x6_1 t230 false _ ?side1 ?side2 ?side3 ?side4 A14.out).mono ?_); (case side1 => exact kc (Kd.C_below HR1.out HB.out)); (case side2 => exact HC1.out); (case side3 => exact kc (Kd.R_reads' HO_6.out).2.2); (case side4 => exact (Kd.R_reads' HO_6.out).2.1); rintro e w21 ⟨rfl, hb⟩; refine ⟨_, rfl, ?_⟩; replace HO_6 := Aside0.mk (Kd.R_below (kq_R HO_6.out) hb); replace BK224 := Aside0.mk (blk_below (bky BK224.out) hb); replace HB := Aside0.mk (below_step (hbq HB.out) hb); (try clear hb); (try clear hb2); (try clear hk); (try clear hi))); go_ret2; exact ⟨⟨fun h_ => absurd h_ (by decide), fun _ => rfl⟩, hbq HB.out⟩
 rw [if_neg c3] at H; have c3b0 : ((l1.length : Int) == (l0_0.length : Int)) = false := beq_eq_false_iff_ne.mpr c3; have c3b1 : ((l1.length : Int) != (l0_0.length : Int)) = true := bne_iff_ne.mpr c3; have c3b2 : (l1.length == l0_0.length) = false := by first | simpa using c3 | (simp at c3 ⊢; omega)
 simp only [Option.some.injEq, Prod.mk.injEq] at H; obtain ⟨rfl, rfl, rfl, rfl, rfl, rfl, rfl⟩ := H; go_enter Try.func29, Try.ntmps29; go_wp2_with (first | ((with_reducible refine gate_dst (N := 2) rfl ?_); refine box_event ?hg (N := 2) ?hd (cs := #[.slice A0_0 l0_0.length c0_0, .slice A0_1 l0_1.length c0_1]) (t := 34) ?hr ?_; (case hd => rfl); (case hg => rfl); (case hr => first | (go_simp; done) | (go_simp; rfl)); intro gb224 hg w22 hbox hb; have BK224 := Aside0.mk (hbox); have GW224 := Aside0.mk ((by rw [hg]; exact (below_size (hbq HB.out)) : w.heap.size ≤ gb224)); have GE224 := Aside0.mk ((by rw [hg]; exact (below_size (hbq HB.out)) : w.heap.size ≤ gb224)); replace HB := Aside0.mk (below_step (hbq HB.out) hb); clear hb hbox hg; have hcz23_0 : w22.cell? ⟨gb224, 0, none⟩ = some (.slice A0_0 l0_0.length c0_0) := (blk_cell BK224.out 0).trans rfl; have hcz23_1 : w22.cell? ⟨gb224, 1, none⟩ = some (.slice A0_1 l0_1.length c0_1) := (blk_cell BK224.out 1).trans rfl; have hfz23_0 := blk_frozen BK224.out 0; have hfz23_1 := blk_frozen BK224.out 1)); go_ret2; exact ⟨⟨fun h_ => absurd h_ (by decide), fun _ => rfl⟩, hbq HB.out⟩

/-! ### weigh_Watch_Same: function 30 -/
def weigh_Watch_Same.f (s0_0 : List (S52)) (s0_1 : List (S64)) (s0_2 : List Int) (s0_3 : Int) (s0_4 : Int) (s0_5 : Bool) : Option (Bool × Int × Int × Bool) := if s0_5 = true then (some ((s0_4 == s0_3), s0_3, s0_4, s0_5)) else (some (false, s0_3, s0_4, s0_5))
set_option maxHeartbeats 8000000 in
set_option maxRecDepth 100000 in
theorem weigh_Watch_Same.calls (g : Nat) (s0_0 : List (S52)) (s0_1 : List (S64)) (s0_2 : List Int) (s0_3 : Int) (s0_4 : Int) (s0_5 : Bool) (r1 : Bool) (r2 : Int) (r3 : Int) (r4 : Bool) (w0 w : World) (hI : IsS92 w0 w g s0_0 s0_1 s0_2 s0_3 s0_4 s0_5) (hB : Below w0.heap.size w0 w) (h : weigh_Watch_Same.f s0_0 s0_1 s0_2 s0_3 s0_4 s0_5 = some (r1, r2, r3, r4)) :
 Calls Try.prog 30 #[.pointer (some ⟨g, 0, none⟩)] w fun e w' => e = .returned (.bool r1) ∧ IsS92 w0 w' g s0_0 s0_1 s0_2 r2 r3 r4 ∧ Below w0.heap.size w0 w' ∧ KeepBut w w' g none := by
 have HI0 := Aside0.mk hI; have HK := Aside0.mk (KeepBut.refl w g none); have HL := Aside0.mk hB.size; clear hI; have HW0 := Aside0.mk hB.size; have HB := Aside0.mk hB; clear hB; have H : (if s0_5 = true then (some ((s0_4 == s0_3), s0_3, s0_4, s0_5)) else (some (false, s0_3, s0_4, s0_5))) = some (r1, r2, r3, r4) := h; clear h
 by_cases c2 : s0_5 = true
 ·subst c2; have H1 : (some ((s0_4 == s0_3), s0_3, s0_4, true)) = some (r1, r2, r3, r4) := by rw [if_pos rfl] at H; exact H
  clear H; have H := H1; clear H1; simp only [Option.some.injEq, Prod.mk.injEq] at H; obtain ⟨rfl, rfl, rfl, rfl⟩ := H; obtain ⟨ASz3_0, cSz3_0, ASz3_1, cSz3_1, ASz3_2, cSz3_2, HGz3, hgz3, HSz3_0, HSz3_1, HSz3_2⟩ := HI0.out; have hcz3_0 := cellS92_0 HGz3; have hcz3_1 := cellS92_1 HGz3; have hcz3_2 := cellS92_2 HGz3; have hcz3_3 := cellS92_3 HGz3; have hcz3_4 := cellS92_4 HGz3; have hcz3_5 := cellS92_5 HGz3; have hfz3_3 := blk_frozen HGz3 3; have hfz3_4 := blk_frozen HGz3 4; have hfz3_5 := blk_frozen HGz3 5; clear HGz3 hgz3; go_enter Try.func30, Try.ntmps30; go_wp2
  repeat (go_quiet (fail); try go_wp2)
  go_ret; exact ⟨by first | rfl | (simp [errW_none, errW_some] <;> rfl) | (simp [*, errW_none, errW_some] <;> rfl), by repeat (first | (with_reducible first | exact HI0.out | apply IsS92.alloc | apply IsS92.drewN | apply IsS92.drew | apply IsS92.set_3 | apply IsS92.set_4 | apply IsS92.set_5) | exact HI0.out), by repeat (first | (with_reducible first | exact HB.out | apply below_alloc | apply pw_below_drewN | apply below_drew1 | refine below_set ?_ (IsS92.ge HI0.out)) | exact HB.out), by repeat (first | (with_reducible first | exact HK.out | apply KeepBut.set_ | apply keep_drewN | apply keep_drew | apply keep_alloc) | exact HK.out)⟩
 replace c2 := Bool.eq_false_iff.mpr c2; subst c2; have H1 : (some (false, s0_3, s0_4, false)) = some (r1, r2, r3, r4) := by rw [if_neg (show ¬ (false = true) by decide)] at H; exact H
 clear H; have H := H1; clear H1; simp only [Option.some.injEq, Prod.mk.injEq] at H; obtain ⟨rfl, rfl, rfl, rfl⟩ := H; obtain ⟨ASz4_0, cSz4_0, ASz4_1, cSz4_1, ASz4_2, cSz4_2, HGz4, hgz4, HSz4_0, HSz4_1, HSz4_2⟩ := HI0.out; have hcz4_0 := cellS92_0 HGz4; have hcz4_1 := cellS92_1 HGz4; have hcz4_2 := cellS92_2 HGz4; have hcz4_3 := cellS92_3 HGz4; have hcz4_4 := cellS92_4 HGz4; have hcz4_5 := cellS92_5 HGz4; have hfz4_3 := blk_frozen HGz4 3; have hfz4_4 := blk_frozen HGz4 4; have hfz4_5 := blk_frozen HGz4 5; clear HGz4 hgz4; go_enter Try.func30, Try.ntmps30; go_wp2
 repeat (go_quiet (fail); try go_wp2)
 go_ret; exact ⟨by first | rfl | (simp [errW_none, errW_some] <;> rfl) | (simp [*, errW_none, errW_some] <;> rfl), by repeat (first | (with_reducible first | exact HI0.out | apply IsS92.alloc | apply IsS92.drewN | apply IsS92.drew | apply IsS92.set_3 | apply IsS92.set_4 | apply IsS92.set_5) | exact HI0.out), by repeat (first | (with_reducible first | exact HB.out | apply below_alloc | apply pw_below_drewN | apply below_drew1 | refine below_set ?_ (IsS92.ge HI0.out)) | exact HB.out), by repeat (first | (with_reducible first | exact HK.out | apply KeepBut.set_ | apply keep_drewN | apply keep_drew | apply keep_alloc) | exact HK.out)⟩

end Go.Proofs.Ytigpmhicdmjbeaa.PWeighNone
