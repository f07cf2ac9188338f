/- What the functions that this law reaches answer, in whatever memory, and the row of the law; no condition. Written by a program of this session (mk.sh). -/
import Derived.Test.YtifbflpaednfnaaPBasisNetsx11
import Derived.Test.YtifbflpaednfnaaPBasisNetsx0
import Derived.Test.YtifbflpaednfnaaPBasisNetsx12
namespace Go.Proofs.Ytifbflpaednfnaa.PBasisNets
open Go.RowKit Go.Proofs.YtifbflpaednfnaaW.PrintWords Go.Proofs.YtifbflpaednfnaaW.PrintLast Go.Proofs.YtifbflpaednfnaaW.PrintMore
attribute [local go_sem] max2_int min2_int max_two min_two   -- for this text's walks alone
set_option linter.unusedVariables false
set_option linter.unusedSimpArgs false

/-! ### r01Dot: function 29 -/
mutual
def r01Dot.l0 : Nat → List Int → List Int → Int → Int → Option (Int × Bool)
 | 0, _, _, _, _ => none
 | k + 1, b, c, f, a => if a < (b.length : Int) then (r01Dot.j1 k b c f a (decide (a < (c.length : Int)))) else (r01Dot.j1 k b c f a false)
def r01Dot.j1 : Nat → List Int → List Int → Int → Int → Bool → Option (Int × Bool)
 | 0, _, _, _, _, _ => none
 | k + 1, b, c, f, a, g => if g = true then (if 0 ≤ a then (if a < (b.length : Int) then (if a < (c.length : Int) then ((r01Mul.f (rd b a) (rd c a)).bind fun d => (if d.2 = true then ((r01Add.f f d.1).bind fun e => (if e.2 = true then (r01Dot.l0 k b c e.1 (wrap64 (a + 1))) else (some (0, false)))) else (some (0, false)))) else (none)) else (none)) else (none)) else (some (f, true))
end
def r01Dot.f (k : Nat) (a : List Int) (b : List Int) : Option (Int × Bool) := r01Dot.l0 k a b 0 0
theorem r01Dot.mono_l : ∀ k, (∀ y0 y1 y2 y3, LeO (r01Dot.l0 k y0 y1 y2 y3) (r01Dot.l0 (k + 1) y0 y1 y2 y3)) ∧ (∀ y0 y1 y2 y3 y4, LeO (r01Dot.j1 k y0 y1 y2 y3 y4) (r01Dot.j1 (k + 1) y0 y1 y2 y3 y4))
 | 0 => ⟨fun _ _ _ _ r h => by simp [r01Dot.l0] at h, fun _ _ _ _ _ r h => by simp [r01Dot.j1] at h⟩
 | k + 1 => by
   obtain ⟨ih0, ih1⟩ := r01Dot.mono_l k
   refine ⟨?_, ?_⟩ <;> intros
   unfold r01Dot.l0; rotate_left
   unfold r01Dot.j1; rotate_left
   all_goals (repeat' with_reducible first | apply ih0 | apply ih1 | apply LeO.refl | apply LeO.none | refine LeO.ite ?_ ?_ | refine LeO.bind ?_ fun _ => ?_)
theorem r01Dot.mono : ∀ a0 a1 k, LeO (r01Dot.f k a0 a1) (r01Dot.f (k + 1) a0 a1) := by
 intro a0 a1 k
 obtain ⟨ih0, ih1⟩ := r01Dot.mono_l k
 unfold r01Dot.f
 repeat' with_reducible first | apply ih0 | apply ih1 | apply LeO.refl | apply LeO.none | refine LeO.ite ?_ ?_ | refine LeO.bind ?_ fun _ => ?_
set_option maxHeartbeats 8000000 in
set_option maxRecDepth 100000 in
theorem r01Dot.calls (k : Nat) (A0 : Option Addr) (c0 : Nat) (l0 : List Int) (A1 : Option Addr) (c1 : Nat) (l1 : List Int) (r1 : Int) (r2 : Bool) (w : World) (hr0 : Kd.C (Kd.int .i64) w A0 l0.length l0) (hc0 : l0.length ≤ c0) (hr1 : Kd.C (Kd.int .i64) w A1 l1.length l1) (hc1 : l1.length ≤ c1) (h : r01Dot.f k l0 l1 = some (r1, r2)) :
 Calls Try.prog 29 #[.slice A0 l0.length c0, .slice A1 l1.length c1] w fun e w' => e = .returned (.tuple #[.int .i64 r1, .bool r2]) ∧ Drawn0 w w' := by
 have d3 := sk hr0; have e1 := sk hc0; clear hr0 hc0; have d4 := sk hr1; have e2 := sk hc1; clear hr1 hc1; have H : (r01Dot.l0 k l0 l1 0 0) = some (r1, r2) := h; clear h; have H' := sk H; clear H; go_enter Try.func29, Try.ntmps29; go_wp2
 repeat (go_quiet (fail); try go_wp2)
 go_loopg [6, 7] k (fun kq v6 v7 w' => ∃ (a2 : Int) (a0 : Int), v6 = .int .i64 a2 ∧ v7 = .int .i64 a0 ∧ Aside0 (r01Dot.l0 kq l0 l1 a2 a0 = some (r1, r2)) ∧ Aside0 (kq ≤ k) ∧ Drawn0 w w')
 case atStart => exact ⟨(0), (0), (by first | rfl | (simp; done) | (simp [*]; done)), (by first | rfl | (simp; done) | (simp [*]; done)), H', ⟨Nat.le_refl _⟩, by repeat (first | exact Drawn0.refl _ | apply Drawn0.step)⟩
 clear H'; (try clear c1); (try clear c2); (try clear p2); obtain ⟨a2, a0, rfl, rfl, HA, c9, ⟨m1, rfl⟩⟩ := hrel; cases gk with
 | zero => exact absurd HA.out (by simp [r01Dot.l0])
 | succ k1 =>
  have H := HA.out; clear HA; simp only [r01Dot.l0] at H; have d5 := sk H; clear H; go_upto_region 3 with (fail)
  repeat (go_quiet (fail); go_upto_region 3 with (fail))
  go_cut [21] (fun d7 wc => ∃ (kq : Nat) (a9 : Bool), d7 = .bool a9 ∧ Aside0 (r01Dot.j1 kq l0 l1 a2 a0 a9 = some (r1, r2)) ∧ Aside0 (kq ≤ k1) ∧ Drawn0 w wc)
  case first =>
   have H := d5.out; clear d5
   by_cases c4 : a0 < (l0.length : Int)
   ·rw [if_pos c4] at H; have b2 := decide_eq_true c4; clear c4; (first | rw [b2] | (simp only [i64_w, i32_w]; rw [b2]) | skip); have H' := sk H; clear H; go_wp2
    repeat (go_quiet (fail); try go_wp2)
    go_meet
    case rel => exact ⟨_, (decide (a0 < (l1.length : Int))), (by first | rfl | (simp; done) | (simp [*]; done)), H', ⟨by have := c9.out; first | omega | exact Nat.le_refl _⟩, by repeat (first | exact Drawn0.refl _ | apply Drawn0.step)⟩
   rw [if_neg c4] at H; have b2 := decide_eq_false c4; clear c4; (first | rw [b2] | (simp only [i64_w, i32_w]; rw [b2]) | skip); have H' := sk H; clear H; go_wp2
   repeat (go_quiet (fail); try go_wp2)
   go_meet
   case rel => exact ⟨_, (false), (by first | rfl | (simp; done) | (simp [*]; done)), H', ⟨by have := c9.out; first | omega | exact Nat.le_refl _⟩, by repeat (first | exact Drawn0.refl _ | apply Drawn0.step)⟩
  clear d5; (try clear c1); (try clear c2); (try clear p2); (try clear c4); (try clear b2); (try clear p2); obtain ⟨kq, a9, rfl, HA, d6, ⟨e3, rfl⟩⟩ := hcut; cases kq with
  | zero => exact absurd HA.out (by simp [r01Dot.j1])
  | succ b8 =>
   have H := HA.out; clear HA; simp only [r01Dot.j1] at H
   by_cases c5 : a9 = true
   ·subst c5; have H1 : (if 0 ≤ a0 then (if a0 < (l0.length : Int) then (if a0 < (l1.length : Int) then ((r01Mul.f (rd l0 a0) (rd l1 a0)).bind fun b5 => (if b5.2 = true then ((r01Add.f a2 b5.1).bind fun a1 => (if a1.2 = true then (r01Dot.l0 b8 l0 l1 a1.1 (wrap64 (a0 + 1))) else (some (0, false)))) else (some (0, false)))) else (none)) else (none)) else (none)) = some (r1, r2) := by rw [if_pos rfl] at H; exact H
    clear H; have H := H1; clear H1
    by_cases c6 : 0 ≤ a0
    case neg => rw [if_neg c6] at H; exact nn H
    rw [if_pos c6] at H; have d8 := decide_eq_true c6; clear c6
    by_cases c7 : a0 < (l0.length : Int)
    case neg => rw [if_neg c7] at H; exact nn H
    rw [if_pos c7] at H; have d9 := decide_eq_true c7; clear c7
    by_cases c8 : a0 < (l1.length : Int)
    case neg => rw [if_neg c8] at H; exact nn H
    rw [if_pos c8] at H; have e0 := decide_eq_true c8; clear c8; obtain ⟨⟨a3, b9⟩, A9, H⟩ := bi H; replace H : (if b9 = true then ((r01Add.f a2 a3).bind fun a1 => (if a1.2 = true then (r01Dot.l0 b8 l0 l1 a1.1 (wrap64 (a0 + 1))) else (some (0, false)))) else (some (0, false))) = some (r1, r2) := H
    by_cases d0 : b9 = true
    ·subst d0; have H1 : ((r01Add.f a2 a3).bind fun a1 => (if a1.2 = true then (r01Dot.l0 b8 l0 l1 a1.1 (wrap64 (a0 + 1))) else (some (0, false)))) = some (r1, r2) := by rw [if_pos rfl] at H; exact H
     clear H; have H := H1; clear H1; obtain ⟨⟨a8, c3⟩, d1, H⟩ := bi H; replace H : (if c3 = true then (r01Dot.l0 b8 l0 l1 a8 (wrap64 (a0 + 1))) else (some (0, false))) = some (r1, r2) := H
     by_cases d2 : c3 = true
     ·subst d2; have H1 : (r01Dot.l0 b8 l0 l1 a8 (wrap64 (a0 + 1))) = some (r1, r2) := by rw [if_pos rfl] at H; exact H
      clear H; have H := H1; clear H1; have H' := sk H; clear H; have a4 : 0 ≤ (a0 : Int) := oa; have a5 : a0 < (l0.length : Int) := oa; obtain ⟨b6, b3, b0⟩ := Kd.at_int d3.out a0 a4 a5; cases b3; replace a4 := eq_true a4; replace a5 := eq_true a5; have a6 : 0 ≤ (a0 : Int) := oa; have a7 : a0 < (l1.length : Int) := oa; obtain ⟨b7, b4, b1⟩ := Kd.at_int d4.out a0 a6 a7; cases b4; replace a6 := eq_true a6; replace a7 := eq_true a7
      iterate 3 ((try go_quiet (first | (go_at_call 36; (with_reducible refine (r01Mul.calls (rd l0 a0) (rd l1 a0) a3 true _ A9.out).mono ?_); rintro e w' ⟨rfl, ⟨nd, rfl⟩⟩; (try exact dr2)) | (go_at_call 37; (with_reducible refine (r01Add.calls a2 a3 a8 true _ d1.out).mono ?_); rintro e w' ⟨rfl, ⟨nd, rfl⟩⟩; (try exact dr2)))); go_wp2_with (first | (go_at_call 36; (with_reducible refine (r01Mul.calls (rd l0 a0) (rd l1 a0) a3 true _ A9.out).mono ?_); rintro e w' ⟨rfl, ⟨nd, rfl⟩⟩; (try exact dr2)) | (go_at_call 37; (with_reducible refine (r01Add.calls a2 a3 a8 true _ d1.out).mono ?_); rintro e w' ⟨rfl, ⟨nd, rfl⟩⟩; (try exact dr2))))
      go_roundg b8
      case measure => have := c9.out; have := d6.out; omega
      case rel => exact ⟨(a8), (wrap64 (a0 + 1)), (by first | rfl | (simp; done) | (simp [*]; done)), (by first | rfl | (simp; done) | (simp [*]; done)), H', ⟨by have := c9.out; have := d6.out; omega⟩, by repeat (first | exact Drawn0.refl _ | apply Drawn0.step)⟩
     replace d2 := Bool.eq_false_iff.mpr d2; subst d2; have H1 : (some (0, false)) = some (r1, r2) := by rw [if_neg (show ¬ (false = true) by decide)] at H; exact H
     clear H; have H := H1; clear H1; obtain ⟨rfl, rfl⟩ := jj2 H; have a4 : 0 ≤ (a0 : Int) := oa; have a5 : a0 < (l0.length : Int) := oa; obtain ⟨b6, b3, b0⟩ := Kd.at_int d3.out a0 a4 a5; cases b3; replace a4 := eq_true a4; replace a5 := eq_true a5; have a6 : 0 ≤ (a0 : Int) := oa; have a7 : a0 < (l1.length : Int) := oa; obtain ⟨b7, b4, b1⟩ := Kd.at_int d4.out a0 a6 a7; cases b4; replace a6 := eq_true a6; replace a7 := eq_true a7
     iterate 3 ((try go_quiet (first | (go_at_call 36; (with_reducible refine (r01Mul.calls (rd l0 a0) (rd l1 a0) a3 true _ A9.out).mono ?_); rintro e w' ⟨rfl, ⟨nd, rfl⟩⟩; (try exact dr2)) | (go_at_call 37; (with_reducible refine (r01Add.calls a2 a3 a8 false _ d1.out).mono ?_); rintro e w' ⟨rfl, ⟨nd, rfl⟩⟩; (try exact dr2)))); go_wp2_with (first | (go_at_call 36; (with_reducible refine (r01Mul.calls (rd l0 a0) (rd l1 a0) a3 true _ A9.out).mono ?_); rintro e w' ⟨rfl, ⟨nd, rfl⟩⟩; (try exact dr2)) | (go_at_call 37; (with_reducible refine (r01Add.calls a2 a3 a8 false _ d1.out).mono ?_); rintro e w' ⟨rfl, ⟨nd, rfl⟩⟩; (try exact dr2))))
     go_ret2; exact f0
    replace d0 := Bool.eq_false_iff.mpr d0; subst d0; have H1 : (some (0, false)) = some (r1, r2) := by rw [if_neg (show ¬ (false = true) by decide)] at H; exact H
    clear H; have H := H1; clear H1; obtain ⟨rfl, rfl⟩ := jj2 H; have a4 : 0 ≤ (a0 : Int) := oa; have a5 : a0 < (l0.length : Int) := oa; obtain ⟨b6, b3, b0⟩ := Kd.at_int d3.out a0 a4 a5; cases b3; replace a4 := eq_true a4; replace a5 := eq_true a5; have a6 : 0 ≤ (a0 : Int) := oa; have a7 : a0 < (l1.length : Int) := oa; obtain ⟨b7, b4, b1⟩ := Kd.at_int d4.out a0 a6 a7; cases b4; replace a6 := eq_true a6; replace a7 := eq_true a7
    iterate 3 ((try go_quiet (first | (go_at_call 36; (with_reducible refine (r01Mul.calls (rd l0 a0) (rd l1 a0) a3 false _ A9.out).mono ?_); rintro e w' ⟨rfl, ⟨nd, rfl⟩⟩; (try exact dr2)))); go_wp2_with (first | (go_at_call 36; (with_reducible refine (r01Mul.calls (rd l0 a0) (rd l1 a0) a3 false _ A9.out).mono ?_); rintro e w' ⟨rfl, ⟨nd, rfl⟩⟩; (try exact dr2))))
    go_ret2; exact f0
   replace c5 := Bool.eq_false_iff.mpr c5; subst c5; have H1 : (some (a2, true)) = some (r1, r2) := by rw [if_neg (show ¬ (false = true) by decide)] at H; exact H
   clear H; have H := H1; clear H1; obtain ⟨rfl, rfl⟩ := jj2 H; go_wp2
   repeat (go_quiet (fail); try go_wp2)
   go_ret2; exact f0

/-! ### r12within: function 30 -/
def r12within.l0 : Nat → List Int → List Int → Int → Option (Bool)
 | 0, _, _, _ => none
 | k + 1, b, c, a => if a < (b.length : Int) then (if 0 ≤ a then (if (rd b a) = 0 then (r12within.l0 k b c (wrap64 (a + 1))) else (if a < (c.length : Int) then (if (rd c a) = 0 then (some false) else (r12within.l0 k b c (wrap64 (a + 1)))) else (none))) else (none)) else (some true)
def r12within.f (k : Nat) (a : List Int) (b : List Int) : Option (Bool) := r12within.l0 k a b 0
theorem r12within.mono_l : ∀ k, (∀ y0 y1 y2, LeO (r12within.l0 k y0 y1 y2) (r12within.l0 (k + 1) y0 y1 y2))
 | 0 => fun _ _ _ r h => by simp [r12within.l0] at h
 | k + 1 => by
   have ih0 := r12within.mono_l k
   intros; unfold r12within.l0; repeat' with_reducible first | apply ih0 | apply LeO.refl | apply LeO.none | refine LeO.ite ?_ ?_ | refine LeO.bind ?_ fun _ => ?_
theorem r12within.mono : ∀ a0 a1 k, LeO (r12within.f k a0 a1) (r12within.f (k + 1) a0 a1) := by
 intro a0 a1 k
 have ih0 := r12within.mono_l k
 unfold r12within.f
 repeat' with_reducible first | apply ih0 | apply LeO.refl | apply LeO.none | refine LeO.ite ?_ ?_ | refine LeO.bind ?_ fun _ => ?_
set_option maxHeartbeats 8000000 in
set_option maxRecDepth 100000 in
theorem r12within.calls (k : Nat) (A0 : Option Addr) (c0 : Nat) (l0 : List Int) (A1 : Option Addr) (c1 : Nat) (l1 : List Int) (r : Bool) (w : World) (hr0 : Kd.C (Kd.int .i64) w A0 l0.length l0) (hc0 : l0.length ≤ c0) (hr1 : Kd.C (Kd.int .i64) w A1 l1.length l1) (hc1 : l1.length ≤ c1) (h : r12within.f k l0 l1 = some r) :
 Calls Try.prog 30 #[.slice A0 l0.length c0, .slice A1 l1.length c1] w fun e w' => e = .returned (.bool r) ∧ Drawn0 w w' := by
 have b2 := sk hr0; have c8 := sk hc0; clear hr0 hc0; have b8 := sk hr1; have c9 := sk hc1; clear hr1 hc1; have H : (r12within.l0 k l0 l1 0) = some r := h; clear h; have H' := sk H; clear H; go_enter Try.func30, Try.ntmps30; go_wp2; go_loopg [5] k (fun kq v5 w' => ∃ (a0 : Int), v5 = .int .i64 a0 ∧ Aside0 (r12within.l0 kq l0 l1 a0 = some r) ∧ Aside0 (kq ≤ k) ∧ Drawn0 w w')
 case atStart => exact ⟨(0), (by first | rfl | (simp; done) | (simp [*]; done)), H', ⟨Nat.le_refl _⟩, by repeat (first | exact Drawn0.refl _ | apply Drawn0.step)⟩
 clear H'; (try clear c1); (try clear p2); obtain ⟨a0, rfl, HA, b1, ⟨m1, rfl⟩⟩ := hrel; cases gk with
 | zero => exact absurd HA.out (by simp [r12within.l0])
 | succ k1 =>
  have H := HA.out; clear HA; simp only [r12within.l0] at H
  by_cases c3 : a0 < (l0.length : Int)
  ·rw [if_pos c3] at H; have b3 := decide_eq_true c3; clear c3
   by_cases c4 : 0 ≤ a0
   case neg => rw [if_neg c4] at H; exact nn H
   rw [if_pos c4] at H; have b9 := decide_eq_true c4; clear c4
   by_cases c5 : (rd l0 a0) = 0
   ·rw [if_pos c5] at H; have b4 := beq_iff_eq.mpr c5; have b5 := bne_eq_false_iff_eq.mpr c5; clear c5; have H' := sk H; clear H; have a1 : 0 ≤ (a0 : Int) := oa; have a2 : a0 < (l0.length : Int) := oa; obtain ⟨a8, a6, a5⟩ := Kd.at_int b2.out a0 a1 a2; cases a6; replace a1 := eq_true a1; replace a2 := eq_true a2; go_wp2; go_roundg k1
    case measure => have := b1.out; omega
    case rel => exact ⟨(wrap64 (a0 + 1)), (by first | rfl | (simp; done) | (simp [*]; done)), H', ⟨by have := b1.out; omega⟩, by repeat (first | exact Drawn0.refl _ | apply Drawn0.step)⟩
   rw [if_neg c5] at H; have b4 := beq_eq_false_iff_ne.mpr c5; have b5 := bne_iff_ne.mpr c5
   by_cases c6 : a0 < (l1.length : Int)
   case neg => rw [if_neg c6] at H; exact nn H
   rw [if_pos c6] at H; have c2 := decide_eq_true c6; clear c6
   by_cases c7 : (rd l1 a0) = 0
   ·rw [if_pos c7] at H; have b6 := beq_iff_eq.mpr c7; have b7 := bne_eq_false_iff_eq.mpr c7; clear c7; obtain rfl := Option.some.inj H; have a1 : 0 ≤ (a0 : Int) := oa; have a2 : a0 < (l0.length : Int) := oa; obtain ⟨a8, a6, a5⟩ := Kd.at_int b2.out a0 a1 a2; cases a6; replace a1 := eq_true a1; replace a2 := eq_true a2; have a3 : 0 ≤ (a0 : Int) := oa; have a4 : a0 < (l1.length : Int) := oa; obtain ⟨b0, a9, a7⟩ := Kd.at_int b8.out a0 a3 a4; cases a9; replace a3 := eq_true a3; replace a4 := eq_true a4; go_wp2; go_ret; exact f0
   rw [if_neg c7] at H; have b6 := beq_eq_false_iff_ne.mpr c7; have b7 := bne_iff_ne.mpr c7; have H' := sk H; clear H; have a1 : 0 ≤ (a0 : Int) := oa; have a2 : a0 < (l0.length : Int) := oa; obtain ⟨a8, a6, a5⟩ := Kd.at_int b2.out a0 a1 a2; cases a6; replace a1 := eq_true a1; replace a2 := eq_true a2; have a3 : 0 ≤ (a0 : Int) := oa; have a4 : a0 < (l1.length : Int) := oa; obtain ⟨b0, a9, a7⟩ := Kd.at_int b8.out a0 a3 a4; cases a9; replace a3 := eq_true a3; replace a4 := eq_true a4; go_wp2; go_roundg k1
   case measure => have := b1.out; omega
   case rel => exact ⟨(wrap64 (a0 + 1)), (by first | rfl | (simp; done) | (simp [*]; done)), H', ⟨by have := b1.out; omega⟩, by repeat (first | exact Drawn0.refl _ | apply Drawn0.step)⟩
  rw [if_neg c3] at H; have b3 := decide_eq_false c3; clear c3; obtain rfl := Option.some.inj H; go_wp2; go_ret; exact f0

/-! ### r12Find: function 17 -/
mutual
def r12Find.l0 : Nat → List (List Int) → List (List Int) → List (List Int) → Int → Int → Option ((List (List Int)) × Int)
 | 0, _, _, _, _, _ => none
 | k + 1, s, d, b, h, t => if t < (s.length : Int) then (if 0 ≤ (s.length : Int) then (if ((s.length : Int) : Int).toNat ≤ 35184372088832 then ((some (List.replicate ((s.length : Int) : Int).toNat 0 : List Int)).bind fun y => (if 0 ≤ t then (if t < (y.length : Int) then (if d.length < 5864062014805 then (if ([] : List Int).length + (rd_L1 s t).length < 17592186044416 then (if b.length < 5864062014805 then (r12Find.l0 k s (d ++ [(y.set (t : Int).toNat 1)]) (b ++ [(([] : List Int) ++ (rd_L1 s t))]) ((rd_L1 s t).length : Int) (wrap64 (t + 1))) else (none)) else (none)) else (none)) else (none)) else (none))) else (none)) else (none)) else (r12Find.l1 k d b h 0)
def r12Find.l1 : Nat → List (List Int) → List (List Int) → Int → Int → Option ((List (List Int)) × Int)
 | 0, _, _, _, _ => none
 | k + 1, d, b, h, g => if g < h then (r12Find.l2 k d b h g ([] : List (List Int)) ([] : List (List Int)) 0) else (some (d, 0))
def r12Find.l2 : Nat → List (List Int) → List (List Int) → Int → Int → List (List Int) → List (List Int) → Int → Option ((List (List Int)) × Int)
 | 0, _, _, _, _, _, _, _ => none
 | k + 1, d, b, h, g, c, e, o => if o < (d.length : Int) then (if 0 ≤ o then (if o < (b.length : Int) then (if 0 ≤ g then (if g < ((rd_L1 b o).length : Int) then (if (rd (rd_L1 b o) g) = 0 then (if c.length < 5864062014805 then (if e.length < 5864062014805 then (r12Find.l2 k d b h g (c ++ [rd_L1 d o]) (e ++ [rd_L1 b o]) (wrap64 (o + 1))) else (none)) else (none)) else (r12Find.l2 k d b h g c e (wrap64 (o + 1)))) else (none)) else (none)) else (none)) else (none)) else (r12Find.l3 k d b h g c e 0)
def r12Find.l3 : Nat → List (List Int) → List (List Int) → Int → Int → List (List Int) → List (List Int) → Int → Option ((List (List Int)) × Int)
 | 0, _, _, _, _, _, _, _ => none
 | k + 1, d, b, h, g, c, e, a => if a < (d.length : Int) then (r12Find.l4 k d b h g c e a (wrap64 (a + 1))) else (r12Find.l7 k ([] : List (List Int)) ([] : List (List Int)) h g c e 0)
def r12Find.l4 : Nat → List (List Int) → List (List Int) → Int → Int → List (List Int) → List (List Int) → Int → Int → Option ((List (List Int)) × Int)
 | 0, _, _, _, _, _, _, _, _ => none
 | k + 1, d, b, h, g, c, e, a, f => if f < (d.length : Int) then (if 0 ≤ a then (if a < (b.length : Int) then (if 0 ≤ g then (if g < ((rd_L1 b a).length : Int) then (if (rd (rd_L1 b a) g) < 0 then (if 0 ≤ f then (if f < (b.length : Int) then (if g < ((rd_L1 b f).length : Int) then (if ((rd (rd_L1 b f) g) > 0) then (r12Find.j5 k d b h g c e a f false) else (if (rd (rd_L1 b a) g) > 0 then (r12Find.j5 k d b h g c e a f (!(decide ((rd (rd_L1 b f) g) < 0)))) else (r12Find.j5 k d b h g c e a f (!false)))) else (none)) else (none)) else (none)) else (if (rd (rd_L1 b a) g) > 0 then (if 0 ≤ f then (if f < (b.length : Int) then (if g < ((rd_L1 b f).length : Int) then (r12Find.j5 k d b h g c e a f (!(decide ((rd (rd_L1 b f) g) < 0)))) else (none)) else (none)) else (none)) else (r12Find.j5 k d b h g c e a f (!false)))) else (none)) else (none)) else (none)) else (none)) else (r12Find.l3 k d b h g c e (wrap64 (a + 1)))
def r12Find.j5 : Nat → List (List Int) → List (List Int) → Int → Int → List (List Int) → List (List Int) → Int → Int → Bool → Option ((List (List Int)) × Int)
 | 0, _, _, _, _, _, _, _, _, _ => none
 | k + 1, d, b, h, g, c, e, a, f, a0 => if a0 = true then (r12Find.l4 k d b h g c e a (wrap64 (f + 1))) else (if 0 ≤ a then (if a < (b.length : Int) then (if 0 ≤ g then (if g < ((rd_L1 b a).length : Int) then (if 0 ≤ f then (if f < (b.length : Int) then (if g < ((rd_L1 b f).length : Int) then ((r01Gcd.f k (rd (rd_L1 b a) g) (rd (rd_L1 b f) g)).bind fun x => ((r12size.f (rd (rd_L1 b f) g)).bind fun a1 => (if x = 0 then (none) else ((r12size.f (rd (rd_L1 b a) g)).bind fun a2 => (r12Find.l5 k d b h g c e a f (wrap64 (Int.tdiv a1 x)) (wrap64 (Int.tdiv a2 x)) ([] : List Int) 0 0))))) else (none)) else (none)) else (none)) else (none)) else (none)) else (none)) else (none))
def r12Find.l5 : Nat → List (List Int) → List (List Int) → Int → Int → List (List Int) → List (List Int) → Int → Int → Int → Int → List Int → Int → Int → Option ((List (List Int)) × Int)
 | 0, _, _, _, _, _, _, _, _, _, _, _, _, _ => none
 | k + 1, d, b, h, g, c, e, a, f, u, v, j, n, l => if 0 ≤ a then (if a < (d.length : Int) then (if l < (wrap64 (((rd_L1 d a).length : Int) + h)) then (if l < ((rd_L1 d a).length : Int) then (if 0 ≤ l then (if 0 ≤ f then (if f < (d.length : Int) then (if l < ((rd_L1 d f).length : Int) then (r12Find.j7 k d b h g c e a f u v j n l (rd (rd_L1 d a) l) (rd (rd_L1 d f) l)) else (none)) else (none)) else (none)) else (none)) else (if a < (b.length : Int) then (if 0 ≤ (wrap64 (l - ((rd_L1 d a).length : Int))) then (if (wrap64 (l - ((rd_L1 d a).length : Int))) < ((rd_L1 b a).length : Int) then (if 0 ≤ f then (if f < (b.length : Int) then (if (wrap64 (l - ((rd_L1 d a).length : Int))) < ((rd_L1 b f).length : Int) then (r12Find.j7 k d b h g c e a f u v j n l (rd (rd_L1 b a) (wrap64 (l - ((rd_L1 d a).length : Int)))) (rd (rd_L1 b f) (wrap64 (l - ((rd_L1 d a).length : Int))))) else (none)) else (none)) else (none)) else (none)) else (none)) else (none))) else (r12Find.l6 k d b h g c e a f j n 0)) else (none)) else (none)
def r12Find.j7 : Nat → List (List Int) → List (List Int) → Int → Int → List (List Int) → List (List Int) → Int → Int → Int → Int → List Int → Int → Int → Int → Int → Option ((List (List Int)) × Int)
 | 0, _, _, _, _, _, _, _, _, _, _, _, _, _, _, _ => none
 | k + 1, d, b, h, g, c, e, a, f, u, v, j, n, l, a7, a8 => (r01Dot.f k (([u, v] : List Int)) (([a7, a8] : List Int))).bind fun p => (if p.2 = true then (if p.1 = (-9223372036854775808) then (some (([] : List (List Int)), 3)) else (if j.length < 17592186044416 then ((r01Gcd.f k n p.1).bind fun a3 => (r12Find.l5 k d b h g c e a f u v (j ++ [p.1]) a3 (wrap64 (l + 1)))) else (none))) else (some (([] : List (List Int)), 3)))
def r12Find.j9 : Nat → List (List Int) → List (List Int) → Int → Int → List (List Int) → List (List Int) → Int → Int → List Int → Option ((List (List Int)) × Int)
 | 0, _, _, _, _, _, _, _, _, _ => none
 | k + 1, d, b, h, g, c, e, a, f, j => if 0 ≤ a then (if a < (d.length : Int) then (if 0 ≤ ((rd_L1 d a).length : Int) then (if ((rd_L1 d a).length : Int) ≤ (j.length : Int) then (if c.length < 5864062014805 then ((some (c ++ [(j.take (((rd_L1 d a).length : Int) : Int).toNat)] : List (List Int))).bind fun z => (if e.length < 5864062014805 then (if (z.length : Int) > 400 then (some (([] : List (List Int)), 5)) else (r12Find.l4 k d b h g z (e ++ [(j.drop (((rd_L1 d a).length : Int) : Int).toNat)]) a (wrap64 (f + 1)))) else (none))) else (none)) else (none)) else (none)) else (none)) else (none)
def r12Find.l6 : Nat → List (List Int) → List (List Int) → Int → Int → List (List Int) → List (List Int) → Int → Int → List Int → Int → Int → Option ((List (List Int)) × Int)
 | 0, _, _, _, _, _, _, _, _, _, _, _ => none
 | k + 1, d, b, h, g, c, e, a, f, j, n, w => if w < (j.length : Int) then (if n > 1 then (if 0 ≤ w then (if n = 0 then (none) else (r12Find.l6 k d b h g c e a f (j.set (w : Int).toNat (wrap64 (Int.tdiv (rd j w) n))) n (wrap64 (w + 1)))) else (none)) else (r12Find.j9 k d b h g c e a f j)) else (r12Find.j9 k d b h g c e a f j)
def r12Find.l7 : Nat → List (List Int) → List (List Int) → Int → Int → List (List Int) → List (List Int) → Int → Option ((List (List Int)) × Int)
 | 0, _, _, _, _, _, _, _ => none
 | k + 1, d, b, h, g, c, e, i => if i < (c.length : Int) then (r12Find.l8 k d b h g c e i true 0) else (r12Find.l1 k d b h (wrap64 (g + 1)))
def r12Find.l8 : Nat → List (List Int) → List (List Int) → Int → Int → List (List Int) → List (List Int) → Int → Bool → Int → Option ((List (List Int)) × Int)
 | 0, _, _, _, _, _, _, _, _, _ => none
 | k + 1, d, b, h, g, c, e, i, q, m => if m < (c.length : Int) then (if m = i then (r12Find.j12 k d b h g c e i q m false) else (if 0 ≤ m then (if 0 ≤ i then (if i < (c.length : Int) then ((r12within.f k (rd_L1 c m) (rd_L1 c i)).bind fun a4 => (if a4 = true then ((r12within.f k (rd_L1 c i) (rd_L1 c m)).bind fun a5 => (if a5 = true then (r12Find.j12 k d b h g c e i q m (decide (m < i))) else (r12Find.j12 k d b h g c e i q m true))) else (r12Find.j12 k d b h g c e i q m false))) else (none)) else (none)) else (none))) else (if q = true then (if 0 ≤ i then (if i < (c.length : Int) then (if d.length < 5864062014805 then (if i < (e.length : Int) then (if b.length < 5864062014805 then (r12Find.l7 k (d ++ [rd_L1 c i]) (b ++ [rd_L1 e i]) h g c e (wrap64 (i + 1))) else (none)) else (none)) else (none)) else (none)) else (none)) else (r12Find.l7 k d b h g c e (wrap64 (i + 1))))
def r12Find.j12 : Nat → List (List Int) → List (List Int) → Int → Int → List (List Int) → List (List Int) → Int → Bool → Int → Bool → Option ((List (List Int)) × Int)
 | 0, _, _, _, _, _, _, _, _, _, _ => none
 | k + 1, d, b, h, g, c, e, i, q, m, a6 => if a6 = true then (r12Find.l8 k d b h g c e i false (wrap64 (m + 1))) else (r12Find.l8 k d b h g c e i q (wrap64 (m + 1)))
end
def r12Find.f (k : Nat) (a : List (List Int)) : Option ((List (List Int)) × Int) := r12Find.l0 k a ([] : List (List Int)) ([] : List (List Int)) 0 0
theorem r12Find.mono_l : ∀ k, (∀ y0 y1 y2 y3 y4, LeO (r12Find.l0 k y0 y1 y2 y3 y4) (r12Find.l0 (k + 1) y0 y1 y2 y3 y4)) ∧ (∀ y0 y1 y2 y3, LeO (r12Find.l1 k y0 y1 y2 y3) (r12Find.l1 (k + 1) y0 y1 y2 y3)) ∧ (∀ y0 y1 y2 y3 y4 y5 y6, LeO (r12Find.l2 k y0 y1 y2 y3 y4 y5 y6) (r12Find.l2 (k + 1) y0 y1 y2 y3 y4 y5 y6)) ∧ (∀ y0 y1 y2 y3 y4 y5 y6, LeO (r12Find.l3 k y0 y1 y2 y3 y4 y5 y6) (r12Find.l3 (k + 1) y0 y1 y2 y3 y4 y5 y6)) ∧ (∀ y0 y1 y2 y3 y4 y5 y6 y7, LeO (r12Find.l4 k y0 y1 y2 y3 y4 y5 y6 y7) (r12Find.l4 (k + 1) y0 y1 y2 y3 y4 y5 y6 y7)) ∧ (∀ y0 y1 y2 y3 y4 y5 y6 y7 y8, LeO (r12Find.j5 k y0 y1 y2 y3 y4 y5 y6 y7 y8) (r12Find.j5 (k + 1) y0 y1 y2 y3 y4 y5 y6 y7 y8)) ∧ (∀ y0 y1 y2 y3 y4 y5 y6 y7 y8 y9 y10 y11 y12, LeO (r12Find.l5 k y0 y1 y2 y3 y4 y5 y6 y7 y8 y9 y10 y11 y12) (r12Find.l5 (k + 1) y0 y1 y2 y3 y4 y5 y6 y7 y8 y9 y10 y11 y12)) ∧ (∀ y0 y1 y2 y3 y4 y5 y6 y7 y8 y9 y10 y11 y12 y13 y14, LeO (r12Find.j7 k y0 y1 y2 y3 y4 y5 y6 y7 y8 y9 y10 y11 y12 y13 y14) (r12Find.j7 (k + 1) y0 y1 y2 y3 y4 y5 y6 y7 y8 y9 y10 y11 y12 y13 y14)) ∧ (∀ y0 y1 y2 y3 y4 y5 y6 y7 y8, LeO (r12Find.j9 k y0 y1 y2 y3 y4 y5 y6 y7 y8) (r12Find.j9 (k + 1) y0 y1 y2 y3 y4 y5 y6 y7 y8)) ∧ (∀ y0 y1 y2 y3 y4 y5 y6 y7 y8 y9 y10, LeO (r12Find.l6 k y0 y1 y2 y3 y4 y5 y6 y7 y8 y9 y10) (r12Find.l6 (k + 1) y0 y1 y2 y3 y4 y5 y6 y7 y8 y9 y10)) ∧ (∀ y0 y1 y2 y3 y4 y5 y6, LeO (r12Find.l7 k y0 y1 y2 y3 y4 y5 y6) (r12Find.l7 (k + 1) y0 y1 y2 y3 y4 y5 y6)) ∧ (∀ y0 y1 y2 y3 y4 y5 y6 y7 y8, LeO (r12Find.l8 k y0 y1 y2 y3 y4 y5 y6 y7 y8) (r12Find.l8 (k + 1) y0 y1 y2 y3 y4 y5 y6 y7 y8)) ∧ (∀ y0 y1 y2 y3 y4 y5 y6 y7 y8 y9, LeO (r12Find.j12 k y0 y1 y2 y3 y4 y5 y6 y7 y8 y9) (r12Find.j12 (k + 1) y0 y1 y2 y3 y4 y5 y6 y7 y8 y9))
 | 0 => ⟨fun _ _ _ _ _ r h => by simp [r12Find.l0] at h, fun _ _ _ _ r h => by simp [r12Find.l1] at h, fun _ _ _ _ _ _ _ r h => by simp [r12Find.l2] at h, fun _ _ _ _ _ _ _ r h => by simp [r12Find.l3] at h, fun _ _ _ _ _ _ _ _ r h => by simp [r12Find.l4] at h, fun _ _ _ _ _ _ _ _ _ r h => by simp [r12Find.j5] at h, fun _ _ _ _ _ _ _ _ _ _ _ _ _ r h => by simp [r12Find.l5] at h, fun _ _ _ _ _ _ _ _ _ _ _ _ _ _ _ r h => by simp [r12Find.j7] at h, fun _ _ _ _ _ _ _ _ _ r h => by simp [r12Find.j9] at h, fun _ _ _ _ _ _ _ _ _ _ _ r h => by simp [r12Find.l6] at h, fun _ _ _ _ _ _ _ r h => by simp [r12Find.l7] at h, fun _ _ _ _ _ _ _ _ _ r h => by simp [r12Find.l8] at h, fun _ _ _ _ _ _ _ _ _ _ r h => by simp [r12Find.j12] at h⟩
 | k + 1 => by
   obtain ⟨ih0, ih1, ih2, ih3, ih4, ih5, ih6, ih7, ih8, ih9, ih10, ih11, ih12⟩ := r12Find.mono_l k
   refine ⟨?_, ?_, ?_, ?_, ?_, ?_, ?_, ?_, ?_, ?_, ?_, ?_, ?_⟩ <;> intros
   unfold r12Find.l0; rotate_left
   unfold r12Find.l1; rotate_left
   unfold r12Find.l2; rotate_left
   unfold r12Find.l3; rotate_left
   unfold r12Find.l4; rotate_left
   unfold r12Find.j5; rotate_left
   unfold r12Find.l5; rotate_left
   unfold r12Find.j7; rotate_left
   unfold r12Find.j9; rotate_left
   unfold r12Find.l6; rotate_left
   unfold r12Find.l7; rotate_left
   unfold r12Find.l8; rotate_left
   unfold r12Find.j12; rotate_left
   all_goals (repeat' with_reducible first | apply ih0 | apply ih1 | apply ih2 | apply ih3 | apply ih4 | apply ih5 | apply ih6 | apply ih7 | apply ih8 | apply ih9 | apply ih10 | apply ih11 | apply ih12 | apply r01Dot.mono | apply r01Gcd.mono | apply r12within.mono | apply LeO.refl | apply LeO.none | refine LeO.ite ?_ ?_ | refine LeO.bind ?_ fun _ => ?_)
theorem r12Find.mono : ∀ a0 k, LeO (r12Find.f k a0) (r12Find.f (k + 1) a0) := by
 intro a0 k
 obtain ⟨ih0, ih1, ih2, ih3, ih4, ih5, ih6, ih7, ih8, ih9, ih10, ih11, ih12⟩ := r12Find.mono_l k
 unfold r12Find.f
 repeat' with_reducible first | apply ih0 | apply ih1 | apply ih2 | apply ih3 | apply ih4 | apply ih5 | apply ih6 | apply ih7 | apply ih8 | apply ih9 | apply ih10 | apply ih11 | apply ih12 | apply r01Dot.mono | apply r01Gcd.mono | apply r12within.mono | apply LeO.refl | apply LeO.none | refine LeO.ite ?_ ?_ | refine LeO.bind ?_ fun _ => ?_
def r12Find.T28 : Bool × List (List Nat × List Nat) := (true, [([], []), ([], []), ([0, 1], [0, 1]), ([2], [2]), ([], []), ([3, 4], [3, 4]), ([5], [5]), ([], []), ([], []), ([7, 8], [7, 8]), ([9], [9]), ([], []), ([10, 11], [10, 11]), ([12], [12]), ([6, 13], [6, 13]), ([14, 14, 0, 1, 2, 3, 4, 5, 6, 7, 8, 9, 10, 11, 12, 13, 14], [14])])
def r12Find.B28 : List Nat := [0, 0, 3, 7, 0, 31, 63, 0, 0, 384, 896, 0, 3968, 8064, 16383, 32767]
theorem r12Find.tab28 : rtab .any (opsOf Try.f17 28) = r12Find.T28 := by kernel_rfl
theorem r12Find.bits28 : waitsOk r12Find.T28.2 r12Find.B28 = true := by kernel_rfl
def r12Find.T41 : Bool × List (List Nat × List Nat) := (true, [([], []), ([], []), ([0, 1], [0, 1]), ([2], [2]), ([], []), ([], []), ([], []), ([5, 6], [5, 6]), ([7], [7]), ([8], [8]), ([4, 9], [4, 9]), ([3, 10], [3, 10]), ([11], [11]), ([12, 0, 1, 2, 3, 4, 5, 6, 7, 8, 9, 10, 11, 12], [12])])
def r12Find.B41 : List Nat := [0, 0, 3, 7, 0, 0, 0, 96, 224, 480, 1008, 2047, 4095, 8191]
theorem r12Find.tab41 : rtab .any (opsOf Try.f17 41) = r12Find.T41 := by kernel_rfl
theorem r12Find.bits41 : waitsOk r12Find.T41.2 r12Find.B41 = true := by kernel_rfl
def r12Find.T42 : Bool × List (List Nat × List Nat) := (true, [([], []), ([], []), ([0, 1], [0, 1]), ([2], [2]), ([], []), ([], []), ([], []), ([5, 6], [5, 6]), ([7], [7]), ([8], [8]), ([4, 9], [4, 9]), ([3, 10], [3, 10]), ([11], [11]), ([12, 0, 1, 2, 3, 4, 5, 6, 7, 8, 9, 10, 11, 12], [12])])
def r12Find.B42 : List Nat := [0, 0, 3, 7, 0, 0, 0, 96, 224, 480, 1008, 2047, 4095, 8191]
theorem r12Find.tab42 : rtab .any (opsOf Try.f17 42) = r12Find.T42 := by kernel_rfl
theorem r12Find.bits42 : waitsOk r12Find.T42.2 r12Find.B42 = true := by kernel_rfl
def r12Find.T65 : Bool × List (List Nat × List Nat) := (true, [([], []), ([], []), ([0, 1], [0, 1]), ([2], [2]), ([3], [3]), ([3], [3]), ([4, 5, 3], [3, 4, 5]), ([6, 3], [3, 6]), ([3], [3]), ([3], [3]), ([8, 9, 3], [3, 8, 9]), ([10, 3], [3, 10]), ([7, 11, 3, 3], [3, 7, 11]), ([3, 12], [3, 12]), ([13, 12], [13]), ([14], [14]), ([14], [14]), ([15, 16, 14], [14, 15, 16]), ([17, 14], [14, 17]), ([14], [14]), ([14], [14]), ([19, 20, 14], [14, 19, 20]), ([21, 14], [14, 21]), ([18, 22, 14, 14], [14, 18, 22]), ([23, 14], [14, 23]), ([24, 23, 14], [14, 24]), ([25], [25]), ([25], [25]), ([26, 27, 25], [25, 26, 27]), ([25, 28, 14], [14, 25, 28]), ([14, 29], [14, 29])])
def r12Find.B65 : List Nat := [0, 0, 3, 7, 15, 15, 63, 127, 15, 15, 783, 1807, 4095, 8191, 16383, 32767, 32767, 131071, 262143, 32767, 32767, 1605631, 3702783, 8388607, 16777215, 33554431, 67108863, 67108863, 268435455, 536870911, 1073741823]
theorem r12Find.tab65 : rtab .any (opsOf Try.f17 65) = r12Find.T65 := by kernel_rfl
theorem r12Find.bits65 : waitsOk r12Find.T65.2 r12Find.B65 = true := by kernel_rfl

end Go.Proofs.Ytifbflpaednfnaa.PBasisNets
