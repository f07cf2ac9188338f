/- What the functions that this law reaches answer, in whatever memory, and the row of the law; no condition. Written by a program of this session (mk.sh). -/
import Derived.Test.YtigpmhicdmjbeaaPWeighStaysx10
import Derived.Test.YtigpmhicdmjbeaaPWeighStaysx0
namespace Go.Proofs.Ytigpmhicdmjbeaa.PWeighStays
open Go.RowKit Go.Proofs.YtigpmhicdmjbeaaW.PrintWords Go.Proofs.YtigpmhicdmjbeaaW.PrintLast Go.Proofs.YtigpmhicdmjbeaaW.PrintMore
attribute [local go_sem] max2_int min2_int max_two min_two max_three min_three max_four min_four   -- for this text's walks alone
set_option linter.unusedVariables false
set_option linter.unusedSimpArgs false

/-! ### r01Gcd: function 47 -/
mutual
def r01Gcd.j0 : Nat → Int → Int → Option (Int)
 | 0, _, _ => none
 | k + 1, x0, x1 => if x1 < 0 then (r01Gcd.j1 k x0 (wrap64 (-x1))) else (r01Gcd.j1 k x0 x1)
def r01Gcd.j1 : Nat → Int → Int → Option (Int)
 | 0, _, _ => none
 | k + 1, x0, x1 => r01Gcd.l0 k x0 x1
def r01Gcd.l0 : Nat → Int → Int → Option (Int)
 | 0, _, _ => none
 | k + 1, x0, x1 => if x1 = 0 then (some x0) else (r01Gcd.l0 k x1 (Int.tmod x0 x1))
end
def r01Gcd.f (k : Nat) (a0 : Int) (a1 : Int) : Option (Int) := if a0 < 0 then (r01Gcd.j0 k (wrap64 (-a0)) a1) else (r01Gcd.j0 k a0 a1)
theorem r01Gcd.mono_l : ∀ k, (∀ y0 y1, LeO (r01Gcd.j0 k y0 y1) (r01Gcd.j0 (k + 1) y0 y1)) ∧ (∀ y0 y1, LeO (r01Gcd.j1 k y0 y1) (r01Gcd.j1 (k + 1) y0 y1)) ∧ (∀ y0 y1, LeO (r01Gcd.l0 k y0 y1) (r01Gcd.l0 (k + 1) y0 y1))
 | 0 => ⟨fun _ _ r h => by simp [r01Gcd.j0] at h, fun _ _ r h => by simp [r01Gcd.j1] at h, fun _ _ r h => by simp [r01Gcd.l0] at h⟩
 | k + 1 => by
   obtain ⟨ih0, ih1, ih2⟩ := r01Gcd.mono_l k
   refine ⟨?_, ?_, ?_⟩ <;> intros
   unfold r01Gcd.j0; rotate_left
   unfold r01Gcd.j1; rotate_left
   unfold r01Gcd.l0; rotate_left
   all_goals (repeat' with_reducible first | apply ih0 | apply ih1 | apply ih2 | apply LeO.refl | apply LeO.none | refine LeO.ite ?_ ?_ | refine LeO.bind ?_ fun _ => ?_)
theorem r01Gcd.mono : ∀ a0 a1 k, LeO (r01Gcd.f k a0 a1) (r01Gcd.f (k + 1) a0 a1) := by
 intro a0 a1 k
 obtain ⟨ih0, ih1, ih2⟩ := r01Gcd.mono_l k
 unfold r01Gcd.f
 repeat' with_reducible first | apply ih0 | apply ih1 | apply ih2 | apply LeO.refl | apply LeO.none | refine LeO.ite ?_ ?_ | refine LeO.bind ?_ fun _ => ?_
set_option maxHeartbeats 8000000 in
set_option maxRecDepth 100000 in
theorem r01Gcd.calls (k : Nat) (a0 : Int) (a1 : Int) (r : Int) (w : World) (h : r01Gcd.f k a0 a1 = some r) :
 Calls Try.prog 47 #[.int .i64 a0, .int .i64 a1] w fun e w' => e = .returned (.int .i64 r) ∧ Drawn0 w w' := by
 have H : (if a0 < 0 then (r01Gcd.j0 k (wrap64 (-a0)) a1) else (r01Gcd.j0 k a0 a1)) = some r := h; clear h; have a9 := sk H; clear H; go_enter Try.func47, Try.ntmps47; go_upto_if 7 with (fail); go_cut [0] (fun v0 wc => ∃ (kq : Nat) (a5 : Int), v0 = .int .i64 a5 ∧ Aside0 (r01Gcd.j0 kq a5 a1 = some r) ∧ Aside0 (kq ≤ k) ∧ Drawn0 w wc)
 case first =>
  have H := a9.out; clear a9
  by_cases c4 : a0 < 0
  ·rw [if_pos c4] at H; have a2 := decide_eq_true c4; clear c4; (first | rw [a2] | (simp only [i64_w, i32_w]; rw [a2]) | skip); have H' := sk H; clear H; go_wp2; go_meet
   case rel => exact ⟨_, (wrap64 (-a0)), (by first | rfl | (simp; done) | (simp [*]; done)), H', ⟨by first | omega | exact Nat.le_refl _⟩, by repeat (first | exact Drawn0.refl _ | apply Drawn0.step)⟩
  rw [if_neg c4] at H; have a2 := decide_eq_false c4; clear c4; (first | rw [a2] | (simp only [i64_w, i32_w]; rw [a2]) | skip); have H' := sk H; clear H; go_wp2; go_meet
  case rel => exact ⟨_, (a0), (by first | rfl | (simp; done) | (simp [*]; done)), H', ⟨by first | omega | exact Nat.le_refl _⟩, by repeat (first | exact Drawn0.refl _ | apply Drawn0.step)⟩
 clear a9; (try clear p2); (try clear c4); (try clear a2); obtain ⟨kq, a5, rfl, HA, a8, ⟨b7, rfl⟩⟩ := hcut; cases kq with
 | zero => exact absurd HA.out (by simp [r01Gcd.j0])
 | succ b6 =>
  have H := HA.out; clear HA; simp only [r01Gcd.j0] at H; have b0 := sk H; clear H; go_upto_if 11 with (fail); go_cut [1] (fun v1 wc => ∃ (kq : Nat) (a6 : Int), v1 = .int .i64 a6 ∧ Aside0 (r01Gcd.j1 kq a5 a6 = some r) ∧ Aside0 (kq ≤ b6) ∧ Drawn0 w wc)
  case first =>
   have H := b0.out; clear b0
   by_cases c6 : a1 < 0
   ·rw [if_pos c6] at H; have a3 := decide_eq_true c6; clear c6; (first | rw [a3] | (simp only [i64_w, i32_w]; rw [a3]) | skip); have H' := sk H; clear H; go_wp2; go_meet
    case rel => exact ⟨_, (wrap64 (-a1)), (by first | rfl | (simp; done) | (simp [*]; done)), H', ⟨by have := a8.out; first | omega | exact Nat.le_refl _⟩, by repeat (first | exact Drawn0.refl _ | apply Drawn0.step)⟩
   rw [if_neg c6] at H; have a3 := decide_eq_false c6; clear c6; (first | rw [a3] | (simp only [i64_w, i32_w]; rw [a3]) | skip); have H' := sk H; clear H; go_wp2; go_meet
   case rel => exact ⟨_, (a1), (by first | rfl | (simp; done) | (simp [*]; done)), H', ⟨by have := a8.out; first | omega | exact Nat.le_refl _⟩, by repeat (first | exact Drawn0.refl _ | apply Drawn0.step)⟩
  clear b0; (try clear c2); (try clear p2); (try clear c4); (try clear a2); (try clear c6); (try clear a3); (try clear p6); (try clear p2); obtain ⟨kq, a6, rfl, HA, b3, ⟨b8, rfl⟩⟩ := hcut; cases kq with
  | zero => exact absurd HA.out (by simp [r01Gcd.j1])
  | succ b4 =>
   have H := HA.out; clear HA; simp only [r01Gcd.j1] at H; have H' := sk H; clear H; go_wp2; go_loopg [0, 1] b4 (fun kq v0 v1 w' => ∃ (a7 : Int) (a4 : Int), v0 = .int .i64 a7 ∧ v1 = .int .i64 a4 ∧ Aside0 (r01Gcd.l0 kq a7 a4 = some r) ∧ Aside0 (kq ≤ b4) ∧ Drawn0 w w')
   case atStart => exact ⟨(a5), (a6), (by first | rfl | (simp; done) | (simp [*]; done)), (by first | rfl | (simp; done) | (simp [*]; done)), H', ⟨Nat.le_refl _⟩, by repeat (first | exact Drawn0.refl _ | apply Drawn0.step)⟩
   clear H'; (try clear c2); (try clear p2); (try clear c4); (try clear a2); (try clear c6); (try clear a3); (try clear p6); (try clear p2); (try clear p6); obtain ⟨a7, a4, rfl, rfl, HA, b5, ⟨m3, rfl⟩⟩ := hrel; cases gk with
   | zero => exact absurd HA.out (by simp [r01Gcd.l0])
   | succ k3 =>
    have H := HA.out; clear HA; simp only [r01Gcd.l0] at H
    by_cases c7 : a4 = 0
    ·rw [if_pos c7] at H; have b1 := beq_iff_eq.mpr c7; have b2 := bne_eq_false_iff_eq.mpr c7; clear c7; obtain rfl := Option.some.inj H; go_wp2; go_ret; exact f0
    rw [if_neg c7] at H; have b1 := beq_eq_false_iff_ne.mpr c7; have b2 := bne_iff_ne.mpr c7; have H' := sk H; clear H; go_wp2; go_roundg k3
    case measure => have := a8.out; have := b3.out; have := b5.out; omega
    case rel => exact ⟨(a4), (Int.tmod a7 a4), (by first | rfl | (simp; done) | (simp [*]; done)), (by first | rfl | (simp; done) | (simp [*]; done)), H', ⟨by have := a8.out; have := b3.out; have := b5.out; omega⟩, by repeat (first | exact Drawn0.refl _ | apply Drawn0.step)⟩

/-! ### r12size: function 48 -/
def r12size.f (a0 : Int) : Option (Int) := if a0 < 0 then (some (wrap64 (-a0))) else (some a0)
set_option maxHeartbeats 8000000 in
set_option maxRecDepth 100000 in
theorem r12size.calls (a0 : Int) (r : Int) (w : World) (h : r12size.f a0 = some r) :
 Calls Try.prog 48 #[.int .i64 a0] w fun e w' => e = .returned (.int .i64 r) ∧ Drawn0 w w' := by
 have H : (if a0 < 0 then (some (wrap64 (-a0))) else (some a0)) = some r := h; clear h
 by_cases c2 : a0 < 0
 ·rw [if_pos c2] at H; have a1 := decide_eq_true c2; clear c2; obtain rfl := Option.some.inj H; go_enter Try.func48, Try.ntmps48; go_wp2; go_ret; exact f0
 rw [if_neg c2] at H; have a1 := decide_eq_false c2; clear c2; obtain rfl := Option.some.inj H; go_enter Try.func48, Try.ntmps48; go_wp2; go_ret; exact f0

/-! ### r12within: function 49 -/
def r12within.l0 : Nat → List Int → List Int → Int → Option (Bool)
 | 0, _, _, _ => none
 | k + 1, x0, x1, x5 => if x5 < (x0.length : Int) then (if 0 ≤ x5 then (if (rd x0 x5) = 0 then (r12within.l0 k x0 x1 (wrap64 (x5 + 1))) else (if x5 < (x1.length : Int) then (if (rd x1 x5) = 0 then (some false) else (r12within.l0 k x0 x1 (wrap64 (x5 + 1)))) else (none))) else (none)) else (some true)
def r12within.f (k : Nat) (l0 : List Int) (l1 : List Int) : Option (Bool) := r12within.l0 k l0 l1 0
theorem r12within.mono_l : ∀ k, (∀ y0 y1 y2, LeO (r12within.l0 k y0 y1 y2) (r12within.l0 (k + 1) y0 y1 y2))
 | 0 => fun _ _ _ r h => by simp [r12within.l0] at h
 | k + 1 => by
   have ih0 := r12within.mono_l k
   intros; unfold r12within.l0; repeat' with_reducible first | apply ih0 | apply LeO.refl | apply LeO.none | refine LeO.ite ?_ ?_ | refine LeO.bind ?_ fun _ => ?_
theorem r12within.mono : ∀ a0 a1 k, LeO (r12within.f k a0 a1) (r12within.f (k + 1) a0 a1) := by
 intro a0 a1 k
 have ih0 := r12within.mono_l k
 unfold r12within.f
 repeat' with_reducible first | apply ih0 | apply LeO.refl | apply LeO.none | refine LeO.ite ?_ ?_ | refine LeO.bind ?_ fun _ => ?_
set_option maxHeartbeats 8000000 in
set_option maxRecDepth 100000 in
theorem r12within.calls (k : Nat) (A0 : Option Addr) (c0 : Nat) (l0 : List Int) (A1 : Option Addr) (c1 : Nat) (l1 : List Int) (r : Bool) (w : World) (hr0 : Kd.C (Kd.int .i64) w A0 l0.length l0) (hc0 : l0.length ≤ c0) (hr1 : Kd.C (Kd.int .i64) w A1 l1.length l1) (hc1 : l1.length ≤ c1) (h : r12within.f k l0 l1 = some r) :
 Calls Try.prog 49 #[.slice A0 l0.length c0, .slice A1 l1.length c1] w fun e w' => e = .returned (.bool r) ∧ Drawn0 w w' := by
 have b2 := sk hr0; have c8 := sk hc0; clear hr0 hc0; have b8 := sk hr1; have c9 := sk hc1; clear hr1 hc1; have H : (r12within.l0 k l0 l1 0) = some r := h; clear h; have H' := sk H; clear H; go_enter Try.func49, Try.ntmps49; go_wp2; go_loopg [5] k (fun kq v5 w' => ∃ (a0 : Int), v5 = .int .i64 a0 ∧ Aside0 (r12within.l0 kq l0 l1 a0 = some r) ∧ Aside0 (kq ≤ k) ∧ Drawn0 w w')
 case atStart => exact ⟨(0), (by first | rfl | (simp; done) | (simp [*]; done)), H', ⟨Nat.le_refl _⟩, by repeat (first | exact Drawn0.refl _ | apply Drawn0.step)⟩
 clear H'; (try clear c1); (try clear p2); obtain ⟨a0, rfl, HA, b1, ⟨m1, rfl⟩⟩ := hrel; cases gk with
 | zero => exact absurd HA.out (by simp [r12within.l0])
 | succ k1 =>
  have H := HA.out; clear HA; simp only [r12within.l0] at H
  by_cases c3 : a0 < (l0.length : Int)
  ·rw [if_pos c3] at H; have b3 := decide_eq_true c3; clear c3
   by_cases c4 : 0 ≤ a0
   case neg => rw [if_neg c4] at H; exact nn H
   rw [if_pos c4] at H; have b9 := decide_eq_true c4; clear c4
   by_cases c5 : (rd l0 a0) = 0
   ·rw [if_pos c5] at H; have b4 := beq_iff_eq.mpr c5; have b5 := bne_eq_false_iff_eq.mpr c5; clear c5; have H' := sk H; clear H; have a1 : 0 ≤ (a0 : Int) := oa; have a2 : a0 < (l0.length : Int) := oa; obtain ⟨a8, a6, a5⟩ := Kd.at_int b2.out a0 a1 a2; cases a6; replace a1 := eq_true a1; replace a2 := eq_true a2; go_wp2; go_roundg k1
    case measure => have := b1.out; omega
    case rel => exact ⟨(wrap64 (a0 + 1)), (by first | rfl | (simp; done) | (simp [*]; done)), H', ⟨by have := b1.out; omega⟩, by repeat (first | exact Drawn0.refl _ | apply Drawn0.step)⟩
   rw [if_neg c5] at H; have b4 := beq_eq_false_iff_ne.mpr c5; have b5 := bne_iff_ne.mpr c5
   by_cases c6 : a0 < (l1.length : Int)
   case neg => rw [if_neg c6] at H; exact nn H
   rw [if_pos c6] at H; have c2 := decide_eq_true c6; clear c6
   by_cases c7 : (rd l1 a0) = 0
   ·rw [if_pos c7] at H; have b6 := beq_iff_eq.mpr c7; have b7 := bne_eq_false_iff_eq.mpr c7; clear c7; obtain rfl := Option.some.inj H; have a1 : 0 ≤ (a0 : Int) := oa; have a2 : a0 < (l0.length : Int) := oa; obtain ⟨a8, a6, a5⟩ := Kd.at_int b2.out a0 a1 a2; cases a6; replace a1 := eq_true a1; replace a2 := eq_true a2; have a3 : 0 ≤ (a0 : Int) := oa; have a4 : a0 < (l1.length : Int) := oa; obtain ⟨b0, a9, a7⟩ := Kd.at_int b8.out a0 a3 a4; cases a9; replace a3 := eq_true a3; replace a4 := eq_true a4; go_wp2; go_ret; exact f0
   rw [if_neg c7] at H; have b6 := beq_eq_false_iff_ne.mpr c7; have b7 := bne_iff_ne.mpr c7; have H' := sk H; clear H; have a1 : 0 ≤ (a0 : Int) := oa; have a2 : a0 < (l0.length : Int) := oa; obtain ⟨a8, a6, a5⟩ := Kd.at_int b2.out a0 a1 a2; cases a6; replace a1 := eq_true a1; replace a2 := eq_true a2; have a3 : 0 ≤ (a0 : Int) := oa; have a4 : a0 < (l1.length : Int) := oa; obtain ⟨b0, a9, a7⟩ := Kd.at_int b8.out a0 a3 a4; cases a9; replace a3 := eq_true a3; replace a4 := eq_true a4; go_wp2; go_roundg k1
   case measure => have := b1.out; omega
   case rel => exact ⟨(wrap64 (a0 + 1)), (by first | rfl | (simp; done) | (simp [*]; done)), H', ⟨by have := b1.out; omega⟩, by repeat (first | exact Drawn0.refl _ | apply Drawn0.step)⟩
  rw [if_neg c3] at H; have b3 := decide_eq_false c3; clear c3; obtain rfl := Option.some.inj H; go_wp2; go_ret; exact f0

/-! ### r12Find: function 36 -/
mutual
def r12Find.l0 : Nat → List (List Int) → List (List Int) → List (List Int) → Int → Int → Option ((List (List Int)) × Int)
 | 0, _, _, _, _, _ => none
 | k + 1, x0, x4, x5, x6, x7 => if x7 < (x0.length : Int) then (if 0 ≤ (x0.length : Int) then (if ((x0.length : Int) : Int).toNat ≤ 35184372088832 then ((some (List.replicate ((x0.length : Int) : Int).toNat 0 : List Int)).bind fun y347 => (if 0 ≤ x7 then (if x7 < (y347.length : Int) then (if x4.length < 5864062014805 then (if ([] : List Int).length + (rd_L10 x0 x7).length < 17592186044416 then (if x5.length < 5864062014805 then (r12Find.l0 k x0 (x4 ++ [(y347.set (x7 : Int).toNat 1)]) (x5 ++ [(([] : List Int) ++ (rd_L10 x0 x7))]) ((rd_L10 x0 x7).length : Int) (wrap64 (x7 + 1))) else (none)) else (none)) else (none)) else (none)) else (none))) else (none)) else (none)) else (r12Find.l1 k x4 x5 x6 0)
def r12Find.l1 : Nat → List (List Int) → List (List Int) → Int → Int → Option ((List (List Int)) × Int)
 | 0, _, _, _, _ => none
 | k + 1, x4, x5, x6, x9 => if x9 < x6 then (r12Find.l2 k x4 x5 x6 x9 ([] : List (List Int)) ([] : List (List Int)) 0) else (some (x4, 0))
def r12Find.l2 : Nat → List (List Int) → List (List Int) → Int → Int → List (List Int) → List (List Int) → Int → Option ((List (List Int)) × Int)
 | 0, _, _, _, _, _, _, _ => none
 | k + 1, x4, x5, x6, x9, x10, x11, x12 => if x12 < (x4.length : Int) then (if 0 ≤ x12 then (if x12 < (x5.length : Int) then (if 0 ≤ x9 then (if x9 < ((rd_L10 x5 x12).length : Int) then (if (rd (rd_L10 x5 x12) x9) = 0 then (if x10.length < 5864062014805 then (if x11.length < 5864062014805 then (r12Find.l2 k x4 x5 x6 x9 (x10 ++ [rd_L10 x4 x12]) (x11 ++ [rd_L10 x5 x12]) (wrap64 (x12 + 1))) else (none)) else (none)) else (r12Find.l2 k x4 x5 x6 x9 x10 x11 (wrap64 (x12 + 1)))) else (none)) else (none)) else (none)) else (none)) else (r12Find.l3 k x4 x5 x6 x9 x10 x11 0)
def r12Find.l3 : Nat → List (List Int) → List (List Int) → Int → Int → List (List Int) → List (List Int) → Int → Option ((List (List Int)) × Int)
 | 0, _, _, _, _, _, _, _ => none
 | k + 1, x4, x5, x6, x9, x10, x11, x13 => if x13 < (x4.length : Int) then (r12Find.l4 k x4 x5 x6 x9 x10 x11 x13 (wrap64 (x13 + 1))) else (r12Find.l7 k ([] : List (List Int)) ([] : List (List Int)) x6 x9 x10 x11 0)
def r12Find.l4 : Nat → List (List Int) → List (List Int) → Int → Int → List (List Int) → List (List Int) → Int → Int → Option ((List (List Int)) × Int)
 | 0, _, _, _, _, _, _, _, _ => none
 | k + 1, x4, x5, x6, x9, x10, x11, x13, x14 => if x14 < (x4.length : Int) then (if 0 ≤ x13 then (if x13 < (x5.length : Int) then (if 0 ≤ x9 then (if x9 < ((rd_L10 x5 x13).length : Int) then (if (rd (rd_L10 x5 x13) x9) < 0 then (if 0 ≤ x14 then (if x14 < (x5.length : Int) then (if x9 < ((rd_L10 x5 x14).length : Int) then (if ((rd (rd_L10 x5 x14) x9) > 0) then (r12Find.j5 k x4 x5 x6 x9 x10 x11 x13 x14 false) else (if (rd (rd_L10 x5 x13) x9) > 0 then (r12Find.j5 k x4 x5 x6 x9 x10 x11 x13 x14 (!(decide ((rd (rd_L10 x5 x14) x9) < 0)))) else (r12Find.j5 k x4 x5 x6 x9 x10 x11 x13 x14 (!false)))) else (none)) else (none)) else (none)) else (if (rd (rd_L10 x5 x13) x9) > 0 then (if 0 ≤ x14 then (if x14 < (x5.length : Int) then (if x9 < ((rd_L10 x5 x14).length : Int) then (r12Find.j5 k x4 x5 x6 x9 x10 x11 x13 x14 (!(decide ((rd (rd_L10 x5 x14) x9) < 0)))) else (none)) else (none)) else (none)) else (r12Find.j5 k x4 x5 x6 x9 x10 x11 x13 x14 (!false)))) else (none)) else (none)) else (none)) else (none)) else (r12Find.l3 k x4 x5 x6 x9 x10 x11 (wrap64 (x13 + 1)))
def r12Find.j5 : Nat → List (List Int) → List (List Int) → Int → Int → List (List Int) → List (List Int) → Int → Int → Bool → Option ((List (List Int)) × Int)
 | 0, _, _, _, _, _, _, _, _, _ => none
 | k + 1, x4, x5, x6, x9, x10, x11, x13, x14, x144 => if x144 = true then (r12Find.l4 k x4 x5 x6 x9 x10 x11 x13 (wrap64 (x14 + 1))) else (if 0 ≤ x13 then (if x13 < (x5.length : Int) then (if 0 ≤ x9 then (if x9 < ((rd_L10 x5 x13).length : Int) then (if 0 ≤ x14 then (if x14 < (x5.length : Int) then (if x9 < ((rd_L10 x5 x14).length : Int) then ((r01Gcd.f k (rd (rd_L10 x5 x13) x9) (rd (rd_L10 x5 x14) x9)).bind fun t388 => ((r12size.f (rd (rd_L10 x5 x14) x9)).bind fun t391 => (if t388 = 0 then (none) else ((r12size.f (rd (rd_L10 x5 x13) x9)).bind fun t394 => (r12Find.l5 k x4 x5 x6 x9 x10 x11 x13 x14 (wrap64 (Int.tdiv t391 t388)) (wrap64 (Int.tdiv t394 t388)) ([] : List Int) 0 0))))) else (none)) else (none)) else (none)) else (none)) else (none)) else (none)) else (none))
def r12Find.l5 : Nat → List (List Int) → List (List Int) → Int → Int → List (List Int) → List (List Int) → Int → Int → Int → Int → List Int → Int → Int → Option ((List (List Int)) × Int)
 | 0, _, _, _, _, _, _, _, _, _, _, _, _, _ => none
 | k + 1, x4, x5, x6, x9, x10, x11, x13, x14, x16, x17, x18, x19, x20 => if 0 ≤ x13 then (if x13 < (x4.length : Int) then (if x20 < (wrap64 (((rd_L10 x4 x13).length : Int) + x6)) then (if x20 < ((rd_L10 x4 x13).length : Int) then (if 0 ≤ x20 then (if 0 ≤ x14 then (if x14 < (x4.length : Int) then (if x20 < ((rd_L10 x4 x14).length : Int) then (r12Find.j7 k x4 x5 x6 x9 x10 x11 x13 x14 x16 x17 x18 x19 x20 (rd (rd_L10 x4 x13) x20) (rd (rd_L10 x4 x14) x20)) else (none)) else (none)) else (none)) else (none)) else (if x13 < (x5.length : Int) then (if 0 ≤ (wrap64 (x20 - ((rd_L10 x4 x13).length : Int))) then (if (wrap64 (x20 - ((rd_L10 x4 x13).length : Int))) < ((rd_L10 x5 x13).length : Int) then (if 0 ≤ x14 then (if x14 < (x5.length : Int) then (if (wrap64 (x20 - ((rd_L10 x4 x13).length : Int))) < ((rd_L10 x5 x14).length : Int) then (r12Find.j7 k x4 x5 x6 x9 x10 x11 x13 x14 x16 x17 x18 x19 x20 (rd (rd_L10 x5 x13) (wrap64 (x20 - ((rd_L10 x4 x13).length : Int)))) (rd (rd_L10 x5 x14) (wrap64 (x20 - ((rd_L10 x4 x13).length : Int))))) else (none)) else (none)) else (none)) else (none)) else (none)) else (none))) else (r12Find.l6 k x4 x5 x6 x9 x10 x11 x13 x14 x18 x19 0)) else (none)) else (none)
def r12Find.j7 : Nat → List (List Int) → List (List Int) → Int → Int → List (List Int) → List (List Int) → Int → Int → Int → Int → List Int → Int → Int → Int → Int → Option ((List (List Int)) × Int)
 | 0, _, _, _, _, _, _, _, _, _, _, _, _, _, _, _ => none
 | k + 1, x4, x5, x6, x9, x10, x11, x13, x14, x16, x17, x18, x19, x20, x21, x22 => (r01Dot.f k (([x16, x17] : List Int)) (([x21, x22] : List Int))).bind fun bt413 => (if bt413.2 = true then (if bt413.1 = (-9223372036854775808) then (some (([] : List (List Int)), 3)) else (if x18.length < 17592186044416 then ((r01Gcd.f k x19 bt413.1).bind fun t418 => (r12Find.l5 k x4 x5 x6 x9 x10 x11 x13 x14 x16 x17 (x18 ++ [bt413.1]) t418 (wrap64 (x20 + 1)))) else (none))) else (some (([] : List (List Int)), 3)))
def r12Find.j9 : Nat → List (List Int) → List (List Int) → Int → Int → List (List Int) → List (List Int) → Int → Int → List Int → Option ((List (List Int)) × Int)
 | 0, _, _, _, _, _, _, _, _, _ => none
 | k + 1, x4, x5, x6, x9, x10, x11, x13, x14, x18 => if 0 ≤ x13 then (if x13 < (x4.length : Int) then (if 0 ≤ ((rd_L10 x4 x13).length : Int) then (if ((rd_L10 x4 x13).length : Int) ≤ (x18.length : Int) then (if x10.length < 5864062014805 then ((some (x10 ++ [(x18.take (((rd_L10 x4 x13).length : Int) : Int).toNat)] : List (List Int))).bind fun y427 => (if x11.length < 5864062014805 then (if (y427.length : Int) > 400 then (some (([] : List (List Int)), 5)) else (r12Find.l4 k x4 x5 x6 x9 y427 (x11 ++ [(x18.drop (((rd_L10 x4 x13).length : Int) : Int).toNat)]) x13 (wrap64 (x14 + 1)))) else (none))) else (none)) else (none)) else (none)) else (none)) else (none)
def r12Find.l6 : Nat → List (List Int) → List (List Int) → Int → Int → List (List Int) → List (List Int) → Int → Int → List Int → Int → Int → Option ((List (List Int)) × Int)
 | 0, _, _, _, _, _, _, _, _, _, _, _ => none
 | k + 1, x4, x5, x6, x9, x10, x11, x13, x14, x18, x19, x25 => if x25 < (x18.length : Int) then (if x19 > 1 then (if 0 ≤ x25 then (if x19 = 0 then (none) else (r12Find.l6 k x4 x5 x6 x9 x10 x11 x13 x14 (x18.set (x25 : Int).toNat (wrap64 (Int.tdiv (rd x18 x25) x19))) x19 (wrap64 (x25 + 1)))) else (none)) else (r12Find.j9 k x4 x5 x6 x9 x10 x11 x13 x14 x18)) else (r12Find.j9 k x4 x5 x6 x9 x10 x11 x13 x14 x18)
def r12Find.l7 : Nat → List (List Int) → List (List Int) → Int → Int → List (List Int) → List (List Int) → Int → Option ((List (List Int)) × Int)
 | 0, _, _, _, _, _, _, _ => none
 | k + 1, x4, x5, x6, x9, x10, x11, x26 => if x26 < (x10.length : Int) then (r12Find.l8 k x4 x5 x6 x9 x10 x11 x26 true 0) else (r12Find.l1 k x4 x5 x6 (wrap64 (x9 + 1)))
def r12Find.l8 : Nat → List (List Int) → List (List Int) → Int → Int → List (List Int) → List (List Int) → Int → Bool → Int → Option ((List (List Int)) × Int)
 | 0, _, _, _, _, _, _, _, _, _ => none
 | k + 1, x4, x5, x6, x9, x10, x11, x26, x27, x28 => if x28 < (x10.length : Int) then (if x28 = x26 then (r12Find.j12 k x4 x5 x6 x9 x10 x11 x26 x27 x28 false) else (if 0 ≤ x28 then (if 0 ≤ x26 then (if x26 < (x10.length : Int) then ((r12within.f k (rd_L10 x10 x28) (rd_L10 x10 x26)).bind fun t441 => (if t441 = true then ((r12within.f k (rd_L10 x10 x26) (rd_L10 x10 x28)).bind fun t444 => (if t444 = true then (r12Find.j12 k x4 x5 x6 x9 x10 x11 x26 x27 x28 (decide (x28 < x26))) else (r12Find.j12 k x4 x5 x6 x9 x10 x11 x26 x27 x28 true))) else (r12Find.j12 k x4 x5 x6 x9 x10 x11 x26 x27 x28 false))) else (none)) else (none)) else (none))) else (if x27 = true then (if 0 ≤ x26 then (if x26 < (x10.length : Int) then (if x4.length < 5864062014805 then (if x26 < (x11.length : Int) then (if x5.length < 5864062014805 then (r12Find.l7 k (x4 ++ [rd_L10 x10 x26]) (x5 ++ [rd_L10 x11 x26]) x6 x9 x10 x11 (wrap64 (x26 + 1))) else (none)) else (none)) else (none)) else (none)) else (none)) else (r12Find.l7 k x4 x5 x6 x9 x10 x11 (wrap64 (x26 + 1))))
def r12Find.j12 : Nat → List (List Int) → List (List Int) → Int → Int → List (List Int) → List (List Int) → Int → Bool → Int → Bool → Option ((List (List Int)) × Int)
 | 0, _, _, _, _, _, _, _, _, _, _ => none
 | k + 1, x4, x5, x6, x9, x10, x11, x26, x27, x28, x345 => if x345 = true then (r12Find.l8 k x4 x5 x6 x9 x10 x11 x26 false (wrap64 (x28 + 1))) else (r12Find.l8 k x4 x5 x6 x9 x10 x11 x26 x27 (wrap64 (x28 + 1)))
end
def r12Find.f (k : Nat) (l0 : List (List Int)) : Option ((List (List Int)) × Int) := r12Find.l0 k l0 ([] : List (List Int)) ([] : List (List Int)) 0 0
theorem r12Find.mono_l : ∀ k, (∀ y0 y1 y2 y3 y4, LeO (r12Find.l0 k y0 y1 y2 y3 y4) (r12Find.l0 (k + 1) y0 y1 y2 y3 y4)) ∧ (∀ y0 y1 y2 y3, LeO (r12Find.l1 k y0 y1 y2 y3) (r12Find.l1 (k + 1) y0 y1 y2 y3)) ∧ (∀ y0 y1 y2 y3 y4 y5 y6, LeO (r12Find.l2 k y0 y1 y2 y3 y4 y5 y6) (r12Find.l2 (k + 1) y0 y1 y2 y3 y4 y5 y6)) ∧ (∀ y0 y1 y2 y3 y4 y5 y6, LeO (r12Find.l3 k y0 y1 y2 y3 y4 y5 y6) (r12Find.l3 (k + 1) y0 y1 y2 y3 y4 y5 y6)) ∧ (∀ y0 y1 y2 y3 y4 y5 y6 y7, LeO (r12Find.l4 k y0 y1 y2 y3 y4 y5 y6 y7) (r12Find.l4 (k + 1) y0 y1 y2 y3 y4 y5 y6 y7)) ∧ (∀ y0 y1 y2 y3 y4 y5 y6 y7 y8, LeO (r12Find.j5 k y0 y1 y2 y3 y4 y5 y6 y7 y8) (r12Find.j5 (k + 1) y0 y1 y2 y3 y4 y5 y6 y7 y8)) ∧ (∀ y0 y1 y2 y3 y4 y5 y6 y7 y8 y9 y10 y11 y12, LeO (r12Find.l5 k y0 y1 y2 y3 y4 y5 y6 y7 y8 y9 y10 y11 y12) (r12Find.l5 (k + 1) y0 y1 y2 y3 y4 y5 y6 y7 y8 y9 y10 y11 y12)) ∧ (∀ y0 y1 y2 y3 y4 y5 y6 y7 y8 y9 y10 y11 y12 y13 y14, LeO (r12Find.j7 k y0 y1 y2 y3 y4 y5 y6 y7 y8 y9 y10 y11 y12 y13 y14) (r12Find.j7 (k + 1) y0 y1 y2 y3 y4 y5 y6 y7 y8 y9 y10 y11 y12 y13 y14)) ∧ (∀ y0 y1 y2 y3 y4 y5 y6 y7 y8, LeO (r12Find.j9 k y0 y1 y2 y3 y4 y5 y6 y7 y8) (r12Find.j9 (k + 1) y0 y1 y2 y3 y4 y5 y6 y7 y8)) ∧ (∀ y0 y1 y2 y3 y4 y5 y6 y7 y8 y9 y10, LeO (r12Find.l6 k y0 y1 y2 y3 y4 y5 y6 y7 y8 y9 y10) (r12Find.l6 (k + 1) y0 y1 y2 y3 y4 y5 y6 y7 y8 y9 y10)) ∧ (∀ y0 y1 y2 y3 y4 y5 y6, LeO (r12Find.l7 k y0 y1 y2 y3 y4 y5 y6) (r12Find.l7 (k + 1) y0 y1 y2 y3 y4 y5 y6)) ∧ (∀ y0 y1 y2 y3 y4 y5 y6 y7 y8, LeO (r12Find.l8 k y0 y1 y2 y3 y4 y5 y6 y7 y8) (r12Find.l8 (k + 1) y0 y1 y2 y3 y4 y5 y6 y7 y8)) ∧ (∀ y0 y1 y2 y3 y4 y5 y6 y7 y8 y9, LeO (r12Find.j12 k y0 y1 y2 y3 y4 y5 y6 y7 y8 y9) (r12Find.j12 (k + 1) y0 y1 y2 y3 y4 y5 y6 y7 y8 y9))
 | 0 => ⟨fun _ _ _ _ _ r h => by simp [r12Find.l0] at h, fun _ _ _ _ r h => by simp [r12Find.l1] at h, fun _ _ _ _ _ _ _ r h => by simp [r12Find.l2] at h, fun _ _ _ _ _ _ _ r h => by simp [r12Find.l3] at h, fun _ _ _ _ _ _ _ _ r h => by simp [r12Find.l4] at h, fun _ _ _ _ _ _ _ _ _ r h => by simp [r12Find.j5] at h, fun _ _ _ _ _ _ _ _ _ _ _ _ _ r h => by simp [r12Find.l5] at h, fun _ _ _ _ _ _ _ _ _ _ _ _ _ _ _ r h => by simp [r12Find.j7] at h, fun _ _ _ _ _ _ _ _ _ r h => by simp [r12Find.j9] at h, fun _ _ _ _ _ _ _ _ _ _ _ r h => by simp [r12Find.l6] at h, fun _ _ _ _ _ _ _ r h => by simp [r12Find.l7] at h, fun _ _ _ _ _ _ _ _ _ r h => by simp [r12Find.l8] at h, fun _ _ _ _ _ _ _ _ _ _ r h => by simp [r12Find.j12] at h⟩
 | k + 1 => by
   obtain ⟨ih0, ih1, ih2, ih3, ih4, ih5, ih6, ih7, ih8, ih9, ih10, ih11, ih12⟩ := r12Find.mono_l k
   refine ⟨?_, ?_, ?_, ?_, ?_, ?_, ?_, ?_, ?_, ?_, ?_, ?_, ?_⟩ <;> intros
   unfold r12Find.l0; rotate_left
   unfold r12Find.l1; rotate_left
   unfold r12Find.l2; rotate_left
   unfold r12Find.l3; rotate_left
   unfold r12Find.l4; rotate_left
   unfold r12Find.j5; rotate_left
   unfold r12Find.l5; rotate_left
   unfold r12Find.j7; rotate_left
   unfold r12Find.j9; rotate_left
   unfold r12Find.l6; rotate_left
   unfold r12Find.l7; rotate_left
   unfold r12Find.l8; rotate_left
   unfold r12Find.j12; rotate_left
   all_goals (repeat' with_reducible first | apply ih0 | apply ih1 | apply ih2 | apply ih3 | apply ih4 | apply ih5 | apply ih6 | apply ih7 | apply ih8 | apply ih9 | apply ih10 | apply ih11 | apply ih12 | apply r01Dot.mono | apply r01Gcd.mono | apply r12within.mono | apply LeO.refl | apply LeO.none | refine LeO.ite ?_ ?_ | refine LeO.bind ?_ fun _ => ?_)
theorem r12Find.mono : ∀ a0 k, LeO (r12Find.f k a0) (r12Find.f (k + 1) a0) := by
 intro a0 k
 obtain ⟨ih0, ih1, ih2, ih3, ih4, ih5, ih6, ih7, ih8, ih9, ih10, ih11, ih12⟩ := r12Find.mono_l k
 unfold r12Find.f
 repeat' with_reducible first | apply ih0 | apply ih1 | apply ih2 | apply ih3 | apply ih4 | apply ih5 | apply ih6 | apply ih7 | apply ih8 | apply ih9 | apply ih10 | apply ih11 | apply ih12 | apply r01Dot.mono | apply r01Gcd.mono | apply r12within.mono | apply LeO.refl | apply LeO.none | refine LeO.ite ?_ ?_ | refine LeO.bind ?_ fun _ => ?_
def r12Find.T28 : Bool × List (List Nat × List Nat) := (true, [([], []), ([], []), ([0, 1], [0, 1]), ([2], [2]), ([], []), ([3, 4], [3, 4]), ([5], [5]), ([], []), ([], []), ([7, 8], [7, 8]), ([9], [9]), ([], []), ([10, 11], [10, 11]), ([12], [12]), ([6, 13], [6, 13]), ([14, 14, 0, 1, 2, 3, 4, 5, 6, 7, 8, 9, 10, 11, 12, 13, 14], [14])])
def r12Find.B28 : List Nat := [0, 0, 3, 7, 0, 31, 63, 0, 0, 384, 896, 0, 3968, 8064, 16383, 32767]
theorem r12Find.tab28 : rtab .any (opsOf Try.f36 28) = r12Find.T28 := by kernel_rfl
theorem r12Find.bits28 : waitsOk r12Find.T28.2 r12Find.B28 = true := by kernel_rfl
def r12Find.T41 : Bool × List (List Nat × List Nat) := (true, [([], []), ([], []), ([0, 1], [0, 1]), ([2], [2]), ([], []), ([], []), ([], []), ([5, 6], [5, 6]), ([7], [7]), ([8], [8]), ([4, 9], [4, 9]), ([3, 10], [3, 10]), ([11], [11]), ([12, 0, 1, 2, 3, 4, 5, 6, 7, 8, 9, 10, 11, 12], [12])])
def r12Find.B41 : List Nat := [0, 0, 3, 7, 0, 0, 0, 96, 224, 480, 1008, 2047, 4095, 8191]
theorem r12Find.tab41 : rtab .any (opsOf Try.f36 41) = r12Find.T41 := by kernel_rfl
theorem r12Find.bits41 : waitsOk r12Find.T41.2 r12Find.B41 = true := by kernel_rfl
def r12Find.T42 : Bool × List (List Nat × List Nat) := (true, [([], []), ([], []), ([0, 1], [0, 1]), ([2], [2]), ([], []), ([], []), ([], []), ([5, 6], [5, 6]), ([7], [7]), ([8], [8]), ([4, 9], [4, 9]), ([3, 10], [3, 10]), ([11], [11]), ([12, 0, 1, 2, 3, 4, 5, 6, 7, 8, 9, 10, 11, 12], [12])])
def r12Find.B42 : List Nat := [0, 0, 3, 7, 0, 0, 0, 96, 224, 480, 1008, 2047, 4095, 8191]
theorem r12Find.tab42 : rtab .any (opsOf Try.f36 42) = r12Find.T42 := by kernel_rfl
theorem r12Find.bits42 : waitsOk r12Find.T42.2 r12Find.B42 = true := by kernel_rfl
def r12Find.T65 : Bool × List (List Nat × List Nat) := (true, [([], []), ([], []), ([0, 1], [0, 1]), ([2], [2]), ([3], [3]), ([3], [3]), ([4, 5, 3], [3, 4, 5]), ([6, 3], [3, 6]), ([3], [3]), ([3], [3]), ([8, 9, 3], [3, 8, 9]), ([10, 3], [3, 10]), ([7, 11, 3, 3], [3, 7, 11]), ([3, 12], [3, 12]), ([13, 12], [13]), ([14], [14]), ([14], [14]), ([15, 16, 14], [14, 15, 16]), ([17, 14], [14, 17]), ([14], [14]), ([14], [14]), ([19, 20, 14], [14, 19, 20]), ([21, 14], [14, 21]), ([18, 22, 14, 14], [14, 18, 22]), ([23, 14], [14, 23]), ([24, 23, 14], [14, 24]), ([25], [25]), ([25], [25]), ([26, 27, 25], [25, 26, 27]), ([25, 28, 14], [14, 25, 28]), ([14, 29], [14, 29])])
def r12Find.B65 : List Nat := [0, 0, 3, 7, 15, 15, 63, 127, 15, 15, 783, 1807, 4095, 8191, 16383, 32767, 32767, 131071, 262143, 32767, 32767, 1605631, 3702783, 8388607, 16777215, 33554431, 67108863, 67108863, 268435455, 536870911, 1073741823]
theorem r12Find.tab65 : rtab .any (opsOf Try.f36 65) = r12Find.T65 := by kernel_rfl
theorem r12Find.bits65 : waitsOk r12Find.T65.2 r12Find.B65 = true := by kernel_rfl

end Go.Proofs.Ytigpmhicdmjbeaa.PWeighStays
