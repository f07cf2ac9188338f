/- What the functions that this law reaches answer, in whatever memory, and the row of the law; no condition. Written by a program of this session (mk.sh). -/
import Derived.Test.YtifbflpaednfnaaPBasisNetsx0
import Derived.Test.YtifbflpaednfnaaPBasisNetsx15
namespace Go.Proofs.Ytifbflpaednfnaa.PBasisNets
open Go.RowKit Go.Proofs.YtifbflpaednfnaaW.PrintWords Go.Proofs.YtifbflpaednfnaaW.PrintLast Go.Proofs.YtifbflpaednfnaaW.PrintMore
attribute [local go_sem] max2_int min2_int max_two min_two   -- for this text's walks alone
set_option linter.unusedVariables false
set_option linter.unusedSimpArgs false

/-! ### u12stays: function 18 -/
mutual
def u12stays.l0 : Nat → List (List Int) → List (List Int) → Int → Option (Bool)
 | 0, _, _, _ => none
 | k + 1, b, c, a => if a < (b.length : Int) then (if 0 ≤ a then (if ((rd_L1 b a).length : Int) = (c.length : Int) then ((matrix_Zero.f k (rd_L1 b a)).bind fun g => (u12stays.j1 k b c a g)) else (u12stays.j1 k b c a true)) else (none)) else (some true)
def u12stays.j1 : Nat → List (List Int) → List (List Int) → Int → Bool → Option (Bool)
 | 0, _, _, _, _ => none
 | k + 1, b, c, a, h => if h = true then (some false) else (u12stays.l1 k b c a 0)
def u12stays.l1 : Nat → List (List Int) → List (List Int) → Int → Int → Option (Bool)
 | 0, _, _, _, _ => none
 | k + 1, b, c, a, f => if 0 ≤ a then (if a < (b.length : Int) then (if f < ((rd_L1 b a).length : Int) then (if 0 ≤ f then (if (rd (rd_L1 b a) f) < 0 then (some false) else (u12stays.l1 k b c a (wrap64 (f + 1)))) else (none)) else (u12stays.l2 k b c a 0)) else (none)) else (none)
def u12stays.l2 : Nat → List (List Int) → List (List Int) → Int → Int → Option (Bool)
 | 0, _, _, _, _ => none
 | k + 1, b, c, a, d => if (c.length : Int) > 0 then (if 0 < (c.length : Int) then (u12stays.j4 k b c a d (decide (d < ((rd_L1 c 0).length : Int)))) else (none)) else (u12stays.j4 k b c a d false)
def u12stays.j4 : Nat → List (List Int) → List (List Int) → Int → Int → Bool → Option (Bool)
 | 0, _, _, _, _, _ => none
 | k + 1, b, c, a, d, i => if i = true then (u12stays.l3 k b c a d 0 0) else (u12stays.l0 k b c (wrap64 (a + 1)))
def u12stays.l3 : Nat → List (List Int) → List (List Int) → Int → Int → Int → Int → Option (Bool)
 | 0, _, _, _, _, _, _ => none
 | k + 1, b, c, a, d, j, e => if e < (c.length : Int) then (if 0 ≤ a then (if a < (b.length : Int) then (if 0 ≤ e then (if e < ((rd_L1 b a).length : Int) then (if 0 ≤ d then (if d < ((rd_L1 c e).length : Int) then (u12stays.l3 k b c a d (wrap64 (j + (wrap64 ((rd (rd_L1 b a) e) * (rd (rd_L1 c e) d))))) (wrap64 (e + 1))) else (none)) else (none)) else (none)) else (none)) else (none)) else (none)) else (if j = 0 then (u12stays.l2 k b c a (wrap64 (d + 1))) else (some false))
end
def u12stays.f (k : Nat) (a : List (List Int)) (b : List (List Int)) : Option (Bool) := u12stays.l0 k a b 0
theorem u12stays.mono_l : ∀ k, (∀ y0 y1 y2, LeO (u12stays.l0 k y0 y1 y2) (u12stays.l0 (k + 1) y0 y1 y2)) ∧ (∀ y0 y1 y2 y3, LeO (u12stays.j1 k y0 y1 y2 y3) (u12stays.j1 (k + 1) y0 y1 y2 y3)) ∧ (∀ y0 y1 y2 y3, LeO (u12stays.l1 k y0 y1 y2 y3) (u12stays.l1 (k + 1) y0 y1 y2 y3)) ∧ (∀ y0 y1 y2 y3, LeO (u12stays.l2 k y0 y1 y2 y3) (u12stays.l2 (k + 1) y0 y1 y2 y3)) ∧ (∀ y0 y1 y2 y3 y4, LeO (u12stays.j4 k y0 y1 y2 y3 y4) (u12stays.j4 (k + 1) y0 y1 y2 y3 y4)) ∧ (∀ y0 y1 y2 y3 y4 y5, LeO (u12stays.l3 k y0 y1 y2 y3 y4 y5) (u12stays.l3 (k + 1) y0 y1 y2 y3 y4 y5))
 | 0 => ⟨fun _ _ _ r h => by simp [u12stays.l0] at h, fun _ _ _ _ r h => by simp [u12stays.j1] at h, fun _ _ _ _ r h => by simp [u12stays.l1] at h, fun _ _ _ _ r h => by simp [u12stays.l2] at h, fun _ _ _ _ _ r h => by simp [u12stays.j4] at h, fun _ _ _ _ _ _ r h => by simp [u12stays.l3] at h⟩
 | k + 1 => by
   obtain ⟨ih0, ih1, ih2, ih3, ih4, ih5⟩ := u12stays.mono_l k
   refine ⟨?_, ?_, ?_, ?_, ?_, ?_⟩ <;> intros
   unfold u12stays.l0; rotate_left
   unfold u12stays.j1; rotate_left
   unfold u12stays.l1; rotate_left
   unfold u12stays.l2; rotate_left
   unfold u12stays.j4; rotate_left
   unfold u12stays.l3; rotate_left
   all_goals (repeat' with_reducible first | apply ih0 | apply ih1 | apply ih2 | apply ih3 | apply ih4 | apply ih5 | apply matrix_Zero.mono | apply LeO.refl | apply LeO.none | refine LeO.ite ?_ ?_ | refine LeO.bind ?_ fun _ => ?_)
theorem u12stays.mono : ∀ a0 a1 k, LeO (u12stays.f k a0 a1) (u12stays.f (k + 1) a0 a1) := by
 intro a0 a1 k
 obtain ⟨ih0, ih1, ih2, ih3, ih4, ih5⟩ := u12stays.mono_l k
 unfold u12stays.f
 repeat' with_reducible first | apply ih0 | apply ih1 | apply ih2 | apply ih3 | apply ih4 | apply ih5 | apply matrix_Zero.mono | apply LeO.refl | apply LeO.none | refine LeO.ite ?_ ?_ | refine LeO.bind ?_ fun _ => ?_
set_option maxHeartbeats 8000000 in
set_option maxRecDepth 100000 in
theorem u12stays.calls (k : Nat) (A0 : Option Addr) (c0 : Nat) (l0 : List (List Int)) (A1 : Option Addr) (c1 : Nat) (l1 : List (List Int)) (r : Bool) (w : World) (hr0 : Kd.C (Kd.slice 3 (Kd.int .i64)) w A0 l0.length l0) (hc0 : l0.length ≤ c0) (hr1 : Kd.C (Kd.slice 3 (Kd.int .i64)) w A1 l1.length l1) (hc1 : l1.length ≤ c1) (h : u12stays.f k l0 l1 = some r) :
 Calls Try.prog 18 #[.slice A0 l0.length c0, .slice A1 l1.length c1] w fun e w' => e = .returned (.bool r) ∧ Drawn0 w w' := by
 have h4 := sk hr0; have r9 := sk hc0; clear hr0 hc0; have q2 := sk hr1; have s0 := sk hc1; clear hr1 hc1; have H : (u12stays.l0 k l0 l1 0) = some r := h; clear h; have H' := sk H; clear H; go_enter Try.func18, Try.ntmps18; go_wp2
 repeat (go_quiet (fail); try go_wp2)
 go_loopg [5] k (fun kq v5 w' => ∃ (a0 : Int), v5 = .int .i64 a0 ∧ Aside0 (u12stays.l0 kq l0 l1 a0 = some r) ∧ Aside0 (kq ≤ k) ∧ Drawn0 w w')
 case atStart => exact ⟨(0), (by first | rfl | (simp; done) | (simp [*]; done)), H', ⟨Nat.le_refl _⟩, by repeat (first | exact Drawn0.refl _ | apply Drawn0.step)⟩
 clear H'; (try clear c1); (try clear p2); obtain ⟨a0, rfl, HA, g0, ⟨m1, rfl⟩⟩ := hrel; cases gk with
 | zero => exact absurd HA.out (by simp [u12stays.l0])
 | succ k1 =>
  have H := HA.out; clear HA; simp only [u12stays.l0] at H
  by_cases c3 : a0 < (l0.length : Int)
  ·rw [if_pos c3] at H; have f5 := decide_eq_true c3; clear c3; have o2 := sk H; clear H; go_upto_region 4 with (fail)
   repeat (go_quiet (fail); go_upto_region 4 with (fail))
   go_cut [30] (fun r6 wc => ∃ (kq : Nat) (d9 : Bool), r6 = .bool d9 ∧ Aside0 (u12stays.j1 kq l0 l1 a0 d9 = some r) ∧ Aside0 (kq ≤ k1) ∧ Drawn0 w wc)
   case first =>
    have H := o2.out; clear o2
    by_cases c5 : 0 ≤ a0
    case neg => rw [if_neg c5] at H; exact nn H
    rw [if_pos c5] at H; have d8 := decide_eq_true c5; clear c5; (first | rw [d8] | (simp only [i64_w, i32_w]; rw [d8]) | skip)
    by_cases c6 : ((rd_L1 l0 a0).length : Int) = (l1.length : Int)
    ·rw [if_pos c6] at H; have f6 := beq_iff_eq.mpr c6; have f7 := bne_eq_false_iff_eq.mpr c6; have f8 : ((rd_L1 l0 a0).length == l1.length) = true := by first | simpa using c6 | (simp at c6 ⊢; omega)
     clear c6; obtain ⟨h5, A7, H⟩ := bi H; replace H : (u12stays.j1 k1 l0 l1 a0 h5) = some r := H; have H' := sk H; clear H; have b6 : 0 ≤ (a0 : Int) := oa; have b7 : a0 < (l0.length : Int) := oa; obtain ⟨i3, i8, i9, j0, a3, a8, a9⟩ := at_L1 h4.out a0 b6 b7; cases j0; have h6 := sk a9; have h7 := sk a8; clear a9 a8; replace b6 := eq_true b6; replace b7 := eq_true b7; have d5 : 0 ≤ (a0 : Int) := oa; have d6 : a0 < (l0.length : Int) := oa; obtain ⟨l6, o3, o4, o5, a6, e0, e1⟩ := at_L1 h4.out a0 d5 d6; obtain rfl : i3 = l6 := (by injection o5); have e2 := sk e1; have e3 := sk e0; clear e1 e0; replace d5 := eq_true d5; replace d6 := eq_true d6; have ea_ := Option.some.inj (a3.symm.trans a6); injection ea_ with ea_ en_ ec_; subst ea_; subst ec_; clear en_
     iterate 3 ((try go_quiet (first | (go_at_call 31; (with_reducible refine (matrix_Zero.calls k1 _ _ (rd_L1 l0 a0) h5 _ ?side1 ?side2 A7.out).mono ?_); (case side1 => exact kc e2.out); (case side2 => exact e3.out); rintro e w' ⟨rfl, ⟨nd, rfl⟩⟩; (try exact dr2)))); go_wp2_with (first | (go_at_call 31; (with_reducible refine (matrix_Zero.calls k1 _ _ (rd_L1 l0 a0) h5 _ ?side1 ?side2 A7.out).mono ?_); (case side1 => exact kc e2.out); (case side2 => exact e3.out); rintro e w' ⟨rfl, ⟨nd, rfl⟩⟩; (try exact dr2))))
     go_meet
     case rel => exact ⟨_, (h5), (by first | rfl | (simp; done) | (simp [*]; done)), H', ⟨by have := g0.out; first | omega | exact Nat.le_refl _⟩, by repeat (first | exact Drawn0.refl _ | apply Drawn0.step)⟩
    rw [if_neg c6] at H; have f6 := beq_eq_false_iff_ne.mpr c6; have f7 := bne_iff_ne.mpr c6; have f8 : ((rd_L1 l0 a0).length == l1.length) = false := by first | simpa using c6 | (simp at c6 ⊢; omega)
    have H' := sk H; clear H; have b6 : 0 ≤ (a0 : Int) := oa; have b7 : a0 < (l0.length : Int) := oa; obtain ⟨i3, i8, i9, j0, a3, a8, a9⟩ := at_L1 h4.out a0 b6 b7; cases j0; have h6 := sk a9; have h7 := sk a8; clear a9 a8; replace b6 := eq_true b6; replace b7 := eq_true b7; go_wp2
    repeat (go_quiet (fail); try go_wp2)
    go_meet
    case rel => exact ⟨_, (true), (by first | rfl | (simp; done) | (simp [*]; done)), H', ⟨by have := g0.out; first | omega | exact Nat.le_refl _⟩, by repeat (first | exact Drawn0.refl _ | apply Drawn0.step)⟩
   clear o2; (try clear c1); (try clear p2); (try clear c3); (try clear f5); (try clear c4); (try clear p4); (try clear q4); (try clear hx4); (try clear c5); (try clear d8); (try clear c6); (try clear f6); (try clear f7); (try clear f8); (try clear a3); (try clear a6); (try clear p2); (try clear b6); (try clear d5); (try clear b7); (try clear d6); obtain ⟨kq, d9, rfl, HA, h2, ⟨s1, rfl⟩⟩ := hcut; cases kq with
   | zero => exact absurd HA.out (by simp [u12stays.j1])
   | succ o6 =>
    have H := HA.out; clear HA; simp only [u12stays.j1] at H
    by_cases c8 : d9 = true
    ·subst c8; have H1 : (some false) = some r := by rw [if_pos rfl] at H; exact H
     clear H; have H := H1; clear H1; obtain rfl := Option.some.inj H; go_wp2
     repeat (go_quiet (fail); try go_wp2)
     go_ret; exact f0
    replace c8 := Bool.eq_false_iff.mpr c8; subst c8; have H1 : (u12stays.l1 o6 l0 l1 a0 0) = some r := by rw [if_neg (show ¬ (false = true) by decide)] at H; exact H
    clear H; have H := H1; clear H1; have H' := sk H; clear H; go_wp2
    repeat (go_quiet (fail); try go_wp2)
    go_loopg [6] o6 (fun kq v6 w' => ∃ (b5 : Int), v6 = .int .i64 b5 ∧ Aside0 (u12stays.l1 kq l0 l1 a0 b5 = some r) ∧ Aside0 (kq ≤ o6) ∧ Drawn0 w w')
    case atStart => exact ⟨(0), (by first | rfl | (simp; done) | (simp [*]; done)), H', ⟨Nat.le_refl _⟩, by repeat (first | exact Drawn0.refl _ | apply Drawn0.step)⟩
    clear H'; (try clear c1); (try clear p2); (try clear c3); (try clear f5); (try clear c4); (try clear p4); (try clear q4); (try clear hx4); (try clear c5); (try clear d8); (try clear c6); (try clear f6); (try clear f7); (try clear f8); (try clear c8); (try clear a3); (try clear a6); (try clear p2); (try clear p4); (try clear b6); (try clear d5); (try clear q4); (try clear b7); (try clear d6); obtain ⟨b5, rfl, HA, h3, ⟨m3, rfl⟩⟩ := hrel; cases gk with
    | zero => exact absurd HA.out (by simp [u12stays.l1])
    | succ k3 =>
     have H := HA.out; clear HA; simp only [u12stays.l1] at H
     by_cases c9 : 0 ≤ a0
     case neg => rw [if_neg c9] at H; exact nn H
     rw [if_pos c9] at H; have j1 := decide_eq_true c9; clear c9
     by_cases j2 : a0 < (l0.length : Int)
     case neg => rw [if_neg j2] at H; exact nn H
     rw [if_pos j2] at H; have g1 := decide_eq_true j2; clear j2
     by_cases h8 : b5 < ((rd_L1 l0 a0).length : Int)
     ·rw [if_pos h8] at H; have e4 := decide_eq_true h8; clear h8
      by_cases j3 : 0 ≤ b5
      case neg => rw [if_neg j3] at H; exact nn H
      rw [if_pos j3] at H; have g2 := decide_eq_true j3; clear j3
      by_cases h9 : (rd (rd_L1 l0 a0) b5) < 0
      ·rw [if_pos h9] at H; have e5 := decide_eq_true h9; clear h9; obtain rfl := Option.some.inj H; have b0 : 0 ≤ (a0 : Int) := oa; have b1 : a0 < (l0.length : Int) := oa; obtain ⟨d7, g3, g4, g5, a4, a1, a2⟩ := at_L1 h4.out a0 b0 b1; cases g5; have e6 := sk a2; have e7 := sk a1; clear a2 a1; replace b0 := eq_true b0; replace b1 := eq_true b1; have c7 : 0 ≤ (a0 : Int) := oa; have d0 : a0 < (l0.length : Int) := oa; obtain ⟨g6, j4, j5, j6, a7, b2, b3⟩ := at_L1 h4.out a0 c7 d0; obtain rfl : d7 = g6 := (by injection j6); have d3 := sk b3; have i0 := sk b2; clear b3 b2; replace c7 := eq_true c7; replace d0 := eq_true d0; have ea_ := Option.some.inj (a4.symm.trans a7); injection ea_ with ea_ en_ ec_; subst ea_; subst ec_; clear en_; have d1 : 0 ≤ (b5 : Int) := oa; have d2 : b5 < ((rd_L1 l0 a0).length : Int) := oa; obtain ⟨l7, j7, b8⟩ := Kd.at_int d3.out b5 d1 d2; cases j7; replace d1 := eq_true d1; replace d2 := eq_true d2; go_wp2
       repeat (go_quiet (fail); try go_wp2)
       go_ret; exact f0
      rw [if_neg h9] at H; have e5 := decide_eq_false h9; clear h9; have H' := sk H; clear H; have b0 : 0 ≤ (a0 : Int) := oa; have b1 : a0 < (l0.length : Int) := oa; obtain ⟨d7, g3, g4, g5, a4, a1, a2⟩ := at_L1 h4.out a0 b0 b1; cases g5; have e6 := sk a2; have e7 := sk a1; clear a2 a1; replace b0 := eq_true b0; replace b1 := eq_true b1; have c7 : 0 ≤ (a0 : Int) := oa; have d0 : a0 < (l0.length : Int) := oa; obtain ⟨g6, j4, j5, j6, a7, b2, b3⟩ := at_L1 h4.out a0 c7 d0; obtain rfl : d7 = g6 := (by injection j6); have d3 := sk b3; have i0 := sk b2; clear b3 b2; replace c7 := eq_true c7; replace d0 := eq_true d0; have ea_ := Option.some.inj (a4.symm.trans a7); injection ea_ with ea_ en_ ec_; subst ea_; subst ec_; clear en_; have d1 : 0 ≤ (b5 : Int) := oa; have d2 : b5 < ((rd_L1 l0 a0).length : Int) := oa; obtain ⟨l7, j7, b8⟩ := Kd.at_int d3.out b5 d1 d2; cases j7; replace d1 := eq_true d1; replace d2 := eq_true d2; go_wp2
      repeat (go_quiet (fail); try go_wp2)
      go_roundg k3
      case measure => have := g0.out; have := h2.out; have := h3.out; omega
      case rel => exact ⟨(wrap64 (b5 + 1)), (by first | rfl | (simp; done) | (simp [*]; done)), H', ⟨by have := g0.out; have := h2.out; have := h3.out; omega⟩, by repeat (first | exact Drawn0.refl _ | apply Drawn0.step)⟩
     rw [if_neg h8] at H; have e4 := decide_eq_false h8; clear h8; have H' := sk H; clear H; have b0 : 0 ≤ (a0 : Int) := oa; have b1 : a0 < (l0.length : Int) := oa; obtain ⟨d7, g3, g4, g5, a4, a1, a2⟩ := at_L1 h4.out a0 b0 b1; cases g5; have e6 := sk a2; have e7 := sk a1; clear a2 a1; replace b0 := eq_true b0; replace b1 := eq_true b1; go_wp2
     repeat (go_quiet (fail); try go_wp2)
     go_loopg [7] k3 (fun kq v7 w' => ∃ (b4 : Int), v7 = .int .i64 b4 ∧ Aside0 (u12stays.l2 kq l0 l1 a0 b4 = some r) ∧ Aside0 (kq ≤ k3) ∧ Drawn0 w w')
     case atStart => exact ⟨(0), (by first | rfl | (simp; done) | (simp [*]; done)), H', ⟨Nat.le_refl _⟩, by repeat (first | exact Drawn0.refl _ | apply Drawn0.step)⟩
     clear H'; (try clear c1); (try clear p2); (try clear c3); (try clear f5); (try clear c4); (try clear p4); (try clear q4); (try clear hx4); (try clear c5); (try clear d8); (try clear c6); (try clear f6); (try clear f7); (try clear f8); (try clear p6); (try clear c8); (try clear c9); (try clear j1); (try clear j2); (try clear g1); (try clear h8); (try clear e4); (try clear j3); (try clear g2); (try clear h9); (try clear e5); (try clear a3); (try clear a6); (try clear a4); (try clear a7); (try clear b8); (try clear p2); (try clear p4); (try clear b6); (try clear d5); (try clear b0); (try clear c7); (try clear d1); (try clear q4); (try clear b7); (try clear d6); (try clear b1); (try clear d0); (try clear d2); obtain ⟨b4, rfl, HA, i4, ⟨m4, rfl⟩⟩ := hrel; cases gk with
     | zero => exact absurd HA.out (by simp [u12stays.l2])
     | succ k4 =>
      have H := HA.out; clear HA; simp only [u12stays.l2] at H; have j8 := sk H; clear H; go_upto_region 12 with (fail)
      repeat (go_quiet (fail); go_upto_region 12 with (fail))
      go_cut [58] (fun r7 wc => ∃ (kq : Nat) (d4 : Bool), r7 = .bool d4 ∧ Aside0 (u12stays.j4 kq l0 l1 a0 b4 d4 = some r) ∧ Aside0 (kq ≤ k4) ∧ Drawn0 w wc)
      case first =>
       have H := j8.out; clear j8
       by_cases i5 : (l1.length : Int) > 0
       ·rw [if_pos i5] at H; have c2 : decide (0 < (l1.length : Int)) = true := decide_eq_true i5; have g7 : decide (0 < l1.length) = true := decide_eq_true (by omega); clear i5; (first | rw [c2] | (simp only [i64_w, i32_w]; rw [c2]) | skip)
        by_cases l4 : 0 < (l1.length : Int)
        case neg => rw [if_neg l4] at H; exact nn H
        rw [if_pos l4] at H; have i6 := decide_eq_true l4; have i7 : decide (0 < l1.length) = true := decide_eq_true (by omega); clear l4; have H' := sk H; clear H; have g8 : 0 ≤ (0 : Int) := (by omega); have g9 : 0 < (l1.length : Int) := oa; obtain ⟨q3, o7, o8, o9, b9, e8, e9⟩ := at_L1 q2.out 0 g8 g9; cases o9; have q6 : (0 < l1.length) = True := eq_true (by omega); (try rw [show ((0 : Int)).toNat = 0 from rfl] at b9); (try rw [Addr.add_zero'] at b9); have m7 := sk e9; have m8 := sk e8; clear e9 e8; replace g8 := eq_true g8; replace g9 := eq_true g9; go_wp2
        repeat (go_quiet (fail); try go_wp2)
        go_meet
        case rel => exact ⟨_, (decide (b4 < ((rd_L1 l1 0).length : Int))), (by first | rfl | (simp; done) | (simp [*]; done)), H', ⟨by have := g0.out; have := h2.out; have := h3.out; have := i4.out; first | omega | exact Nat.le_refl _⟩, by repeat (first | exact Drawn0.refl _ | apply Drawn0.step)⟩
       rw [if_neg i5] at H; have c2 : decide (0 < (l1.length : Int)) = false := decide_eq_false i5; have g7 : decide (0 < l1.length) = false := decide_eq_false (by omega); clear i5; (first | rw [c2] | (simp only [i64_w, i32_w]; rw [c2]) | skip); have H' := sk H; clear H; go_wp2
       repeat (go_quiet (fail); try go_wp2)
       go_meet
       case rel => exact ⟨_, (false), (by first | rfl | (simp; done) | (simp [*]; done)), H', ⟨by have := g0.out; have := h2.out; have := h3.out; have := i4.out; first | omega | exact Nat.le_refl _⟩, by repeat (first | exact Drawn0.refl _ | apply Drawn0.step)⟩
      clear j8; (try clear c1); (try clear p2); (try clear c3); (try clear f5); (try clear c4); (try clear p4); (try clear q4); (try clear hx4); (try clear c5); (try clear d8); (try clear p5); (try clear q5); (try clear hx5); (try clear qi5); (try clear c6); (try clear f6); (try clear f7); (try clear f8); (try clear p6); (try clear c8); (try clear c9); (try clear j1); (try clear j2); (try clear g1); (try clear h8); (try clear e4); (try clear j3); (try clear g2); (try clear h9); (try clear e5); (try clear i5); (try clear c2); (try clear g7); (try clear l4); (try clear i6); (try clear i7); (try clear a3); (try clear a6); (try clear a4); (try clear a7); (try clear b8); (try clear b9); (try clear p2); (try clear p4); (try clear b6); (try clear d5); (try clear b0); (try clear c7); (try clear d1); (try clear g8); (try clear p6); (try clear q4); (try clear b7); (try clear d6); (try clear b1); (try clear d0); (try clear d2); (try clear g9); obtain ⟨kq, d4, rfl, HA, f9, ⟨r8, rfl⟩⟩ := hcut; cases kq with
      | zero => exact absurd HA.out (by simp [u12stays.j4])
      | succ h0 =>
       have H := HA.out; clear HA; simp only [u12stays.j4] at H
       by_cases l8 : d4 = true
       ·subst l8; have H1 : (u12stays.l3 h0 l0 l1 a0 b4 0 0) = some r := by rw [if_pos rfl] at H; exact H
        clear H; have H := H1; clear H1; have H' := sk H; clear H; go_wp2
        repeat (go_quiet (fail); try go_wp2)
        go_loopg [8, 9] h0 (fun kq v8 v9 w' => ∃ (h1 : Int) (a5 : Int), v8 = .int .i64 h1 ∧ v9 = .int .i64 a5 ∧ Aside0 (u12stays.l3 kq l0 l1 a0 b4 h1 a5 = some r) ∧ Aside0 (kq ≤ h0) ∧ Drawn0 w w')
        case atStart => exact ⟨(0), (0), (by first | rfl | (simp; done) | (simp [*]; done)), (by first | rfl | (simp; done) | (simp [*]; done)), H', ⟨Nat.le_refl _⟩, by repeat (first | exact Drawn0.refl _ | apply Drawn0.step)⟩
        clear H'; (try clear c1); (try clear p2); (try clear c3); (try clear f5); (try clear c4); (try clear p4); (try clear q4); (try clear hx4); (try clear c5); (try clear d8); (try clear p5); (try clear q5); (try clear hx5); (try clear qi5); (try clear c6); (try clear f6); (try clear f7); (try clear f8); (try clear p6); (try clear c8); (try clear c9); (try clear j1); (try clear j2); (try clear g1); (try clear h8); (try clear e4); (try clear j3); (try clear g2); (try clear h9); (try clear e5); (try clear i5); (try clear c2); (try clear g7); (try clear l4); (try clear i6); (try clear i7); (try clear l8); (try clear a3); (try clear a6); (try clear a4); (try clear a7); (try clear b8); (try clear b9); (try clear p2); (try clear p4); (try clear b6); (try clear d5); (try clear b0); (try clear c7); (try clear d1); (try clear p5); (try clear g8); (try clear p6); (try clear q4); (try clear b7); (try clear d6); (try clear b1); (try clear d0); (try clear d2); (try clear q5); (try clear g9); obtain ⟨h1, a5, rfl, rfl, HA, m9, ⟨m6, rfl⟩⟩ := hrel; cases gk with
        | zero => exact absurd HA.out (by simp [u12stays.l3])
        | succ k6 =>
         have H := HA.out; clear HA; simp only [u12stays.l3] at H
         by_cases l5 : a5 < (l1.length : Int)
         ·rw [if_pos l5] at H; have l9 := decide_eq_true l5; clear l5
          by_cases n0 : 0 ≤ a0
          case neg => rw [if_neg n0] at H; exact nn H
          rw [if_pos n0] at H; have q7 := decide_eq_true n0; clear n0
          by_cases n1 : a0 < (l0.length : Int)
          case neg => rw [if_neg n1] at H; exact nn H
          rw [if_pos n1] at H; have q8 := decide_eq_true n1; clear n1
          by_cases n2 : 0 ≤ a5
          case neg => rw [if_neg n2] at H; exact nn H
          rw [if_pos n2] at H; have q9 := decide_eq_true n2; clear n2
          by_cases n3 : a5 < ((rd_L1 l0 a0).length : Int)
          case neg => rw [if_neg n3] at H; exact nn H
          rw [if_pos n3] at H; have r0 := decide_eq_true n3; clear n3
          by_cases n4 : 0 ≤ b4
          case neg => rw [if_neg n4] at H; exact nn H
          rw [if_pos n4] at H; have r1 := decide_eq_true n4; clear n4
          by_cases n5 : b4 < ((rd_L1 l1 a5).length : Int)
          case neg => rw [if_neg n5] at H; exact nn H
          rw [if_pos n5] at H; have r2 := decide_eq_true n5; clear n5; have H' := sk H; clear H; have j9 : 0 ≤ (a0 : Int) := oa; have k0 : a0 < (l0.length : Int) := oa; obtain ⟨m0, p0, p1, p3, n6, f1, f2⟩ := at_L1 h4.out a0 j9 k0; obtain rfl : d7 = m0 := (by injection p3); have i1 := sk f2; have n7 := sk f1; clear f2 f1; replace j9 := eq_true j9; replace k0 := eq_true k0; have k2 : 0 ≤ (a5 : Int) := oa; have k5 : a5 < ((rd_L1 l0 a0).length : Int) := oa; obtain ⟨r3, p7, n8⟩ := Kd.at_int i1.out a5 k2 k5; cases p7; replace k2 := eq_true k2; replace k5 := eq_true k5; have k7 : 0 ≤ (a5 : Int) := oa; have k8 : a5 < (l1.length : Int) := oa; obtain ⟨r4, p8, p9, q0, n9, f3, f4⟩ := at_L1 q2.out a5 k7 k8; cases q0; have i2 := sk f4; have o0 := sk f3; clear f4 f3; replace k7 := eq_true k7; replace k8 := eq_true k8; have k9 : 0 ≤ (b4 : Int) := oa; have l2 : b4 < ((rd_L1 l1 a5).length : Int) := oa; obtain ⟨r5, q1, o1⟩ := Kd.at_int i2.out b4 k9 l2; cases q1; replace k9 := eq_true k9; replace l2 := eq_true l2; go_wp2
          repeat (go_quiet (fail); try go_wp2)
          go_roundg k6
          case measure => have := g0.out; have := h2.out; have := h3.out; have := i4.out; have := f9.out; have := m9.out; omega
          case rel => exact ⟨(wrap64 (h1 + (wrap64 ((rd (rd_L1 l0 a0) a5) * (rd (rd_L1 l1 a5) b4))))), (wrap64 (a5 + 1)), (by first | rfl | (simp; done) | (simp [*]; done)), (by first | rfl | (simp; done) | (simp [*]; done)), H', ⟨by have := g0.out; have := h2.out; have := h3.out; have := i4.out; have := f9.out; have := m9.out; omega⟩, by repeat (first | exact Drawn0.refl _ | apply Drawn0.step)⟩
         rw [if_neg l5] at H; have l9 := decide_eq_false l5; clear l5
         by_cases l3 : h1 = 0
         ·rw [if_pos l3] at H; have m2 := beq_iff_eq.mpr l3; have m5 := bne_eq_false_iff_eq.mpr l3; clear l3; have H' := sk H; clear H; go_wp2
          repeat (go_quiet (fail); try go_wp2)
          go_roundg k6
          case measure => have := g0.out; have := h2.out; have := h3.out; have := i4.out; have := f9.out; have := m9.out; omega
          case rel => exact ⟨(wrap64 (b4 + 1)), (by first | rfl | (simp; done) | (simp [*]; done)), H', ⟨by have := g0.out; have := h2.out; have := h3.out; have := i4.out; have := f9.out; have := m9.out; omega⟩, by repeat (first | exact Drawn0.refl _ | apply Drawn0.step)⟩
         rw [if_neg l3] at H; have m2 := beq_eq_false_iff_ne.mpr l3; have m5 := bne_iff_ne.mpr l3; obtain rfl := Option.some.inj H; go_wp2
         repeat (go_quiet (fail); try go_wp2)
         go_ret; exact f0
       replace l8 := Bool.eq_false_iff.mpr l8; subst l8; have H1 : (u12stays.l0 h0 l0 l1 (wrap64 (a0 + 1))) = some r := by rw [if_neg (show ¬ (false = true) by decide)] at H; exact H
       clear H; have H := H1; clear H1; have H' := sk H; clear H; go_wp2
       repeat (go_quiet (fail); try go_wp2)
       go_roundg h0
       case measure => have := g0.out; have := h2.out; have := h3.out; have := i4.out; have := f9.out; omega
       case rel => exact ⟨(wrap64 (a0 + 1)), (by first | rfl | (simp; done) | (simp [*]; done)), H', ⟨by have := g0.out; have := h2.out; have := h3.out; have := i4.out; have := f9.out; omega⟩, by repeat (first | exact Drawn0.refl _ | apply Drawn0.step)⟩
  rw [if_neg c3] at H; have f5 := decide_eq_false c3; clear c3; obtain rfl := Option.some.inj H; go_wp2
  repeat (go_quiet (fail); try go_wp2)
  go_ret; exact f0

end Go.Proofs.Ytifbflpaednfnaa.PBasisNets
