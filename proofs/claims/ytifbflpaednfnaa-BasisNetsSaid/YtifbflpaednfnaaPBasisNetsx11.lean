/- What the functions that this law reaches answer, in whatever memory, and the row of the law; no condition. Written by a program of this session (mk.sh). -/
import Derived.Test.YtifbflpaednfnaaPBasisNetsx0
import Derived.Test.YtifbflpaednfnaaPBasisNetsx9
namespace Go.Proofs.Ytifbflpaednfnaa.PBasisNets
open Go.RowKit Go.Proofs.YtifbflpaednfnaaW.PrintWords Go.Proofs.YtifbflpaednfnaaW.PrintLast Go.Proofs.YtifbflpaednfnaaW.PrintMore
attribute [local go_sem] max2_int min2_int max_two min_two   -- for this text's walks alone
set_option linter.unusedVariables false
set_option linter.unusedSimpArgs false

/-! ### r01Same: function 15 -/
def r01Same.l0 : Nat → List (List Int) → List (List Int) → Int → Option (Bool)
 | 0, _, _, _ => none
 | k + 1, b, c, a => if a < (b.length : Int) then (if 0 ≤ a then (if a < (c.length : Int) then ((r01SameInts.f k (rd_L1 b a) (rd_L1 c a)).bind fun d => (if d = true then (r01Same.l0 k b c (wrap64 (a + 1))) else (some false))) else (none)) else (none)) else (some true)
def r01Same.f (k : Nat) (a : List (List Int)) (b : List (List Int)) : Option (Bool) := if (a.length : Int) = (b.length : Int) then (r01Same.l0 k a b 0) else (some false)
theorem r01Same.mono_l : ∀ k, (∀ y0 y1 y2, LeO (r01Same.l0 k y0 y1 y2) (r01Same.l0 (k + 1) y0 y1 y2))
 | 0 => fun _ _ _ r h => by simp [r01Same.l0] at h
 | k + 1 => by
   have ih0 := r01Same.mono_l k
   intros; unfold r01Same.l0; repeat' with_reducible first | apply ih0 | apply r01SameInts.mono | apply LeO.refl | apply LeO.none | refine LeO.ite ?_ ?_ | refine LeO.bind ?_ fun _ => ?_
theorem r01Same.mono : ∀ a0 a1 k, LeO (r01Same.f k a0 a1) (r01Same.f (k + 1) a0 a1) := by
 intro a0 a1 k
 have ih0 := r01Same.mono_l k
 unfold r01Same.f
 repeat' with_reducible first | apply ih0 | apply r01SameInts.mono | apply LeO.refl | apply LeO.none | refine LeO.ite ?_ ?_ | refine LeO.bind ?_ fun _ => ?_
set_option maxHeartbeats 8000000 in
set_option maxRecDepth 100000 in
theorem r01Same.calls (k : Nat) (A0 : Option Addr) (c0 : Nat) (l0 : List (List Int)) (A1 : Option Addr) (c1 : Nat) (l1 : List (List Int)) (r : Bool) (w : World) (hr0 : Kd.C (Kd.slice 3 (Kd.int .i64)) w A0 l0.length l0) (hc0 : l0.length ≤ c0) (hr1 : Kd.C (Kd.slice 3 (Kd.int .i64)) w A1 l1.length l1) (hc1 : l1.length ≤ c1) (h : r01Same.f k l0 l1 = some r) :
 Calls Try.prog 15 #[.slice A0 l0.length c0, .slice A1 l1.length c1] w fun e w' => e = .returned (.bool r) ∧ Drawn0 w w' := by
 have d5 := sk hr0; have e0 := sk hc0; clear hr0 hc0; have d6 := sk hr1; have e1 := sk hc1; clear hr1 hc1; have H : (if (l0.length : Int) = (l1.length : Int) then (r01Same.l0 k l0 l1 0) else (some false)) = some r := h; clear h
 by_cases c3 : (l0.length : Int) = (l1.length : Int)
 ·rw [if_pos c3] at H; have c7 := beq_iff_eq.mpr c3; have c9 := bne_eq_false_iff_eq.mpr c3; have d0 : (l0.length == l1.length) = true := by first | simpa using c3 | (simp at c3 ⊢; omega)
  clear c3; have H' := sk H; clear H; go_enter Try.func15, Try.ntmps15; go_wp2
  repeat (go_quiet (fail); try go_wp2)
  go_loopg [5] k (fun kq v5 w' => ∃ (a0 : Int), v5 = .int .i64 a0 ∧ Aside0 (r01Same.l0 kq l0 l1 a0 = some r) ∧ Aside0 (kq ≤ k) ∧ Drawn0 w w')
  case atStart => exact ⟨(0), (by first | rfl | (simp; done) | (simp [*]; done)), H', ⟨Nat.le_refl _⟩, by repeat (first | exact Drawn0.refl _ | apply Drawn0.step)⟩
  clear H'; (try clear c1); (try clear p2); (try clear c3); (try clear c7); (try clear c9); (try clear d0); obtain ⟨a0, rfl, HA, d7, ⟨m1, rfl⟩⟩ := hrel; cases gk with
  | zero => exact absurd HA.out (by simp [r01Same.l0])
  | succ k1 =>
   have H := HA.out; clear HA; simp only [r01Same.l0] at H
   by_cases c4 : a0 < (l0.length : Int)
   ·rw [if_pos c4] at H; have d4 := decide_eq_true c4; clear c4
    by_cases c5 : 0 ≤ a0
    case neg => rw [if_neg c5] at H; exact nn H
    rw [if_pos c5] at H; have d8 := decide_eq_true c5; clear c5
    by_cases c6 : a0 < (l1.length : Int)
    case neg => rw [if_neg c6] at H; exact nn H
    rw [if_pos c6] at H; have d9 := decide_eq_true c6; clear c6; obtain ⟨d1, A7, H⟩ := bi H; replace H : (if d1 = true then (r01Same.l0 k1 l0 l1 (wrap64 (a0 + 1))) else (some false)) = some r := H
    by_cases c8 : d1 = true
    ·subst c8; have H1 : (r01Same.l0 k1 l0 l1 (wrap64 (a0 + 1))) = some r := by rw [if_pos rfl] at H; exact H
     clear H; have H := H1; clear H1; have H' := sk H; clear H; have a9 : 0 ≤ (a0 : Int) := oa; have b0 : a0 < (l0.length : Int) := oa; obtain ⟨d2, b5, b6, b7, b3, a1, a2⟩ := at_L1 d5.out a0 a9 b0; cases b7; have a3 := sk a2; have a4 := sk a1; clear a2 a1; replace a9 := eq_true a9; replace b0 := eq_true b0; have b1 : 0 ≤ (a0 : Int) := oa; have b2 : a0 < (l1.length : Int) := oa; obtain ⟨d3, b8, b9, c2, b4, a5, a6⟩ := at_L1 d6.out a0 b1 b2; cases c2; have a7 := sk a6; have a8 := sk a5; clear a6 a5; replace b1 := eq_true b1; replace b2 := eq_true b2
     iterate 3 ((try go_quiet (first | (go_at_call 22; (with_reducible refine (r01SameInts.calls k1 _ _ (rd_L1 l0 a0) _ _ (rd_L1 l1 a0) true _ ?side1 ?side2 ?side3 ?side4 A7.out).mono ?_); (case side1 => exact kc a3.out); (case side2 => exact a4.out); (case side3 => exact kc a7.out); (case side4 => exact a8.out); rintro e w' ⟨rfl, ⟨nd, rfl⟩⟩; (try exact dr2)))); go_wp2_with (first | (go_at_call 22; (with_reducible refine (r01SameInts.calls k1 _ _ (rd_L1 l0 a0) _ _ (rd_L1 l1 a0) true _ ?side1 ?side2 ?side3 ?side4 A7.out).mono ?_); (case side1 => exact kc a3.out); (case side2 => exact a4.out); (case side3 => exact kc a7.out); (case side4 => exact a8.out); rintro e w' ⟨rfl, ⟨nd, rfl⟩⟩; (try exact dr2))))
     go_roundg k1
     case measure => have := d7.out; omega
     case rel => exact ⟨(wrap64 (a0 + 1)), (by first | rfl | (simp; done) | (simp [*]; done)), H', ⟨by have := d7.out; omega⟩, by repeat (first | exact Drawn0.refl _ | apply Drawn0.step)⟩
    replace c8 := Bool.eq_false_iff.mpr c8; subst c8; have H1 : (some false) = some r := by rw [if_neg (show ¬ (false = true) by decide)] at H; exact H
    clear H; have H := H1; clear H1; obtain rfl := Option.some.inj H; have a9 : 0 ≤ (a0 : Int) := oa; have b0 : a0 < (l0.length : Int) := oa; obtain ⟨d2, b5, b6, b7, b3, a1, a2⟩ := at_L1 d5.out a0 a9 b0; cases b7; have a3 := sk a2; have a4 := sk a1; clear a2 a1; replace a9 := eq_true a9; replace b0 := eq_true b0; have b1 : 0 ≤ (a0 : Int) := oa; have b2 : a0 < (l1.length : Int) := oa; obtain ⟨d3, b8, b9, c2, b4, a5, a6⟩ := at_L1 d6.out a0 b1 b2; cases c2; have a7 := sk a6; have a8 := sk a5; clear a6 a5; replace b1 := eq_true b1; replace b2 := eq_true b2
    iterate 3 ((try go_quiet (first | (go_at_call 22; (with_reducible refine (r01SameInts.calls k1 _ _ (rd_L1 l0 a0) _ _ (rd_L1 l1 a0) false _ ?side1 ?side2 ?side3 ?side4 A7.out).mono ?_); (case side1 => exact kc a3.out); (case side2 => exact a4.out); (case side3 => exact kc a7.out); (case side4 => exact a8.out); rintro e w' ⟨rfl, ⟨nd, rfl⟩⟩; (try exact dr2)))); go_wp2_with (first | (go_at_call 22; (with_reducible refine (r01SameInts.calls k1 _ _ (rd_L1 l0 a0) _ _ (rd_L1 l1 a0) false _ ?side1 ?side2 ?side3 ?side4 A7.out).mono ?_); (case side1 => exact kc a3.out); (case side2 => exact a4.out); (case side3 => exact kc a7.out); (case side4 => exact a8.out); rintro e w' ⟨rfl, ⟨nd, rfl⟩⟩; (try exact dr2))))
    go_ret; exact f0
   rw [if_neg c4] at H; have d4 := decide_eq_false c4; clear c4; obtain rfl := Option.some.inj H; go_wp2
   repeat (go_quiet (fail); try go_wp2)
   go_ret; exact f0
 rw [if_neg c3] at H; have c7 := beq_eq_false_iff_ne.mpr c3; have c9 := bne_iff_ne.mpr c3; have d0 : (l0.length == l1.length) = false := by first | simpa using c3 | (simp at c3 ⊢; omega)
 obtain rfl := Option.some.inj H; go_enter Try.func15, Try.ntmps15; go_wp2
 repeat (go_quiet (fail); try go_wp2)
 go_ret; exact f0

/-! ### r01Gcd: function 16 -/
mutual
def r01Gcd.j0 : Nat → Int → Int → Option (Int)
 | 0, _, _ => none
 | k + 1, b, a => if a < 0 then (r01Gcd.j1 k b (wrap64 (-a))) else (r01Gcd.j1 k b a)
def r01Gcd.j1 : Nat → Int → Int → Option (Int)
 | 0, _, _ => none
 | k + 1, b, a => r01Gcd.l0 k b a
def r01Gcd.l0 : Nat → Int → Int → Option (Int)
 | 0, _, _ => none
 | k + 1, b, a => if a = 0 then (some b) else (r01Gcd.l0 k a (Int.tmod b a))
end
def r01Gcd.f (k : Nat) (a : Int) (b : Int) : Option (Int) := if a < 0 then (r01Gcd.j0 k (wrap64 (-a)) b) else (r01Gcd.j0 k a b)
theorem r01Gcd.mono_l : ∀ k, (∀ y0 y1, LeO (r01Gcd.j0 k y0 y1) (r01Gcd.j0 (k + 1) y0 y1)) ∧ (∀ y0 y1, LeO (r01Gcd.j1 k y0 y1) (r01Gcd.j1 (k + 1) y0 y1)) ∧ (∀ y0 y1, LeO (r01Gcd.l0 k y0 y1) (r01Gcd.l0 (k + 1) y0 y1))
 | 0 => ⟨fun _ _ r h => by simp [r01Gcd.j0] at h, fun _ _ r h => by simp [r01Gcd.j1] at h, fun _ _ r h => by simp [r01Gcd.l0] at h⟩
 | k + 1 => by
   obtain ⟨ih0, ih1, ih2⟩ := r01Gcd.mono_l k
   refine ⟨?_, ?_, ?_⟩ <;> intros
   unfold r01Gcd.j0; rotate_left
   unfold r01Gcd.j1; rotate_left
   unfold r01Gcd.l0; rotate_left
   all_goals (repeat' with_reducible first | apply ih0 | apply ih1 | apply ih2 | apply LeO.refl | apply LeO.none | refine LeO.ite ?_ ?_ | refine LeO.bind ?_ fun _ => ?_)
theorem r01Gcd.mono : ∀ a0 a1 k, LeO (r01Gcd.f k a0 a1) (r01Gcd.f (k + 1) a0 a1) := by
 intro a0 a1 k
 obtain ⟨ih0, ih1, ih2⟩ := r01Gcd.mono_l k
 unfold r01Gcd.f
 repeat' with_reducible first | apply ih0 | apply ih1 | apply ih2 | apply LeO.refl | apply LeO.none | refine LeO.ite ?_ ?_ | refine LeO.bind ?_ fun _ => ?_
set_option maxHeartbeats 8000000 in
set_option maxRecDepth 100000 in
theorem r01Gcd.calls (k : Nat) (a0 : Int) (a1 : Int) (r : Int) (w : World) (h : r01Gcd.f k a0 a1 = some r) :
 Calls Try.prog 16 #[.int .i64 a0, .int .i64 a1] w fun e w' => e = .returned (.int .i64 r) ∧ Drawn0 w w' := by
 have H : (if a0 < 0 then (r01Gcd.j0 k (wrap64 (-a0)) a1) else (r01Gcd.j0 k a0 a1)) = some r := h; clear h; have a9 := sk H; clear H; go_enter Try.func16, Try.ntmps16; go_upto_if 7 with (fail); go_cut [0] (fun v0 wc => ∃ (kq : Nat) (a5 : Int), v0 = .int .i64 a5 ∧ Aside0 (r01Gcd.j0 kq a5 a1 = some r) ∧ Aside0 (kq ≤ k) ∧ Drawn0 w wc)
 case first =>
  have H := a9.out; clear a9
  by_cases c4 : a0 < 0
  ·rw [if_pos c4] at H; have a2 := decide_eq_true c4; clear c4; (first | rw [a2] | (simp only [i64_w, i32_w]; rw [a2]) | skip); have H' := sk H; clear H; go_wp2; go_meet
   case rel => exact ⟨_, (wrap64 (-a0)), (by first | rfl | (simp; done) | (simp [*]; done)), H', ⟨by first | omega | exact Nat.le_refl _⟩, by repeat (first | exact Drawn0.refl _ | apply Drawn0.step)⟩
  rw [if_neg c4] at H; have a2 := decide_eq_false c4; clear c4; (first | rw [a2] | (simp only [i64_w, i32_w]; rw [a2]) | skip); have H' := sk H; clear H; go_wp2; go_meet
  case rel => exact ⟨_, (a0), (by first | rfl | (simp; done) | (simp [*]; done)), H', ⟨by first | omega | exact Nat.le_refl _⟩, by repeat (first | exact Drawn0.refl _ | apply Drawn0.step)⟩
 clear a9; (try clear c1); (try clear p2); (try clear c4); (try clear a2); obtain ⟨kq, a5, rfl, HA, a8, ⟨b7, rfl⟩⟩ := hcut; cases kq with
 | zero => exact absurd HA.out (by simp [r01Gcd.j0])
 | succ b6 =>
  have H := HA.out; clear HA; simp only [r01Gcd.j0] at H; have b0 := sk H; clear H; go_upto_if 11 with (fail); go_cut [1] (fun v1 wc => ∃ (kq : Nat) (a6 : Int), v1 = .int .i64 a6 ∧ Aside0 (r01Gcd.j1 kq a5 a6 = some r) ∧ Aside0 (kq ≤ b6) ∧ Drawn0 w wc)
  case first =>
   have H := b0.out; clear b0
   by_cases c6 : a1 < 0
   ·rw [if_pos c6] at H; have a3 := decide_eq_true c6; clear c6; (first | rw [a3] | (simp only [i64_w, i32_w]; rw [a3]) | skip); have H' := sk H; clear H; go_wp2; go_meet
    case rel => exact ⟨_, (wrap64 (-a1)), (by first | rfl | (simp; done) | (simp [*]; done)), H', ⟨by have := a8.out; first | omega | exact Nat.le_refl _⟩, by repeat (first | exact Drawn0.refl _ | apply Drawn0.step)⟩
   rw [if_neg c6] at H; have a3 := decide_eq_false c6; clear c6; (first | rw [a3] | (simp only [i64_w, i32_w]; rw [a3]) | skip); have H' := sk H; clear H; go_wp2; go_meet
   case rel => exact ⟨_, (a1), (by first | rfl | (simp; done) | (simp [*]; done)), H', ⟨by have := a8.out; first | omega | exact Nat.le_refl _⟩, by repeat (first | exact Drawn0.refl _ | apply Drawn0.step)⟩
  clear b0; (try clear c1); (try clear c2); (try clear p2); (try clear c4); (try clear a2); (try clear c6); (try clear a3); (try clear p6); (try clear p2); obtain ⟨kq, a6, rfl, HA, b3, ⟨b8, rfl⟩⟩ := hcut; cases kq with
  | zero => exact absurd HA.out (by simp [r01Gcd.j1])
  | succ b4 =>
   have H := HA.out; clear HA; simp only [r01Gcd.j1] at H; have H' := sk H; clear H; go_wp2; go_loopg [0, 1] b4 (fun kq v0 v1 w' => ∃ (a7 : Int) (a4 : Int), v0 = .int .i64 a7 ∧ v1 = .int .i64 a4 ∧ Aside0 (r01Gcd.l0 kq a7 a4 = some r) ∧ Aside0 (kq ≤ b4) ∧ Drawn0 w w')
   case atStart => exact ⟨(a5), (a6), (by first | rfl | (simp; done) | (simp [*]; done)), (by first | rfl | (simp; done) | (simp [*]; done)), H', ⟨Nat.le_refl _⟩, by repeat (first | exact Drawn0.refl _ | apply Drawn0.step)⟩
   clear H'; (try clear c1); (try clear c2); (try clear p2); (try clear c4); (try clear a2); (try clear c6); (try clear a3); (try clear p6); (try clear p2); (try clear p6); obtain ⟨a7, a4, rfl, rfl, HA, b5, ⟨m3, rfl⟩⟩ := hrel; cases gk with
   | zero => exact absurd HA.out (by simp [r01Gcd.l0])
   | succ k3 =>
    have H := HA.out; clear HA; simp only [r01Gcd.l0] at H
    by_cases c7 : a4 = 0
    ·rw [if_pos c7] at H; have b1 := beq_iff_eq.mpr c7; have b2 := bne_eq_false_iff_eq.mpr c7; clear c7; obtain rfl := Option.some.inj H; go_wp2; go_ret; exact f0
    rw [if_neg c7] at H; have b1 := beq_eq_false_iff_ne.mpr c7; have b2 := bne_iff_ne.mpr c7; have H' := sk H; clear H; go_wp2; go_roundg k3
    case measure => have := a8.out; have := b3.out; have := b5.out; omega
    case rel => exact ⟨(a4), (Int.tmod a7 a4), (by first | rfl | (simp; done) | (simp [*]; done)), (by first | rfl | (simp; done) | (simp [*]; done)), H', ⟨by have := a8.out; have := b3.out; have := b5.out; omega⟩, by repeat (first | exact Drawn0.refl _ | apply Drawn0.step)⟩

/-! ### r12size: function 28 -/
def r12size.f (a : Int) : Option (Int) := if a < 0 then (some (wrap64 (-a))) else (some a)
set_option maxHeartbeats 8000000 in
set_option maxRecDepth 100000 in
theorem r12size.calls (a0 : Int) (r : Int) (w : World) (h : r12size.f a0 = some r) :
 Calls Try.prog 28 #[.int .i64 a0] w fun e w' => e = .returned (.int .i64 r) ∧ Drawn0 w w' := by
 have H : (if a0 < 0 then (some (wrap64 (-a0))) else (some a0)) = some r := h; clear h
 by_cases c2 : a0 < 0
 ·rw [if_pos c2] at H; have a1 := decide_eq_true c2; clear c2; obtain rfl := Option.some.inj H; go_enter Try.func28, Try.ntmps28; go_wp2; go_ret; exact f0
 rw [if_neg c2] at H; have a1 := decide_eq_false c2; clear c2; obtain rfl := Option.some.inj H; go_enter Try.func28, Try.ntmps28; go_wp2; go_ret; exact f0

end Go.Proofs.Ytifbflpaednfnaa.PBasisNets
