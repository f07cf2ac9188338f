/- What the functions that this law reaches answer, in whatever memory, and the row of the law; no condition. Written by a program of this session (mk.sh). -/
import Derived.Test.YtigpmhicdmjbeaaPWeighStaysx0
namespace Go.Proofs.Ytigpmhicdmjbeaa.PWeighStays
open Go.RowKit Go.Proofs.YtigpmhicdmjbeaaW.PrintWords Go.Proofs.YtigpmhicdmjbeaaW.PrintLast Go.Proofs.YtigpmhicdmjbeaaW.PrintMore
attribute [local go_sem] max2_int min2_int max_two min_two max_three min_three max_four min_four   -- for this text's walks alone
set_option linter.unusedVariables false
set_option linter.unusedSimpArgs false

/-! ### r08May: function 52 -/
mutual
def r08May.l0 : Nat → List Int → Int → ByteArray → Int → Int → List (S66) → List (S66) → List (S66) → Option (Bool)
 | 0, _, _, _, _, _, _, _, _ => none
 | k + 1, x1, x5, x152000, x152001, x152002, x152003, x152004, x152005 => if x5 < (x152003.length : Int) then (if 0 ≤ x5 then (if 0 ≤ ((rd_T66 x152003 x5).f0) then (if ((rd_T66 x152003 x5).f0) < (x1.length : Int) then (if (rd x1 ((rd_T66 x152003 x5).f0)) < ((rd_T66 x152003 x5).f1) then (some false) else (r08May.l0 k x1 (wrap64 (x5 + 1)) x152000 x152001 x152002 x152003 x152004 x152005)) else (none)) else (none)) else (none)) else (r08May.l1 k x1 0 x152000 x152001 x152002 x152003 x152004 x152005)
def r08May.l1 : Nat → List Int → Int → ByteArray → Int → Int → List (S66) → List (S66) → List (S66) → Option (Bool)
 | 0, _, _, _, _, _, _, _, _ => none
 | k + 1, x1, x6, x152000, x152001, x152002, x152003, x152004, x152005 => if x6 < (x152004.length : Int) then (if 0 ≤ x6 then (if 0 ≤ ((rd_T66 x152004 x6).f0) then (if ((rd_T66 x152004 x6).f0) < (x1.length : Int) then (if (rd x1 ((rd_T66 x152004 x6).f0)) ≥ ((rd_T66 x152004 x6).f1) then (some false) else (r08May.l1 k x1 (wrap64 (x6 + 1)) x152000 x152001 x152002 x152003 x152004 x152005)) else (none)) else (none)) else (none)) else (some true)
end
def r08May.f (k : Nat) (a0_0 : ByteArray) (a0_1 : Int) (a0_2 : Int) (l0_3 : List (S66)) (l0_4 : List (S66)) (l0_5 : List (S66)) (l1 : List Int) : Option (Bool) := r08May.l0 k l1 0 a0_0 a0_1 a0_2 l0_3 l0_4 l0_5
theorem r08May.mono_l : ∀ k, (∀ y0 y1 y2 y3 y4 y5 y6 y7, LeO (r08May.l0 k y0 y1 y2 y3 y4 y5 y6 y7) (r08May.l0 (k + 1) y0 y1 y2 y3 y4 y5 y6 y7)) ∧ (∀ y0 y1 y2 y3 y4 y5 y6 y7, LeO (r08May.l1 k y0 y1 y2 y3 y4 y5 y6 y7) (r08May.l1 (k + 1) y0 y1 y2 y3 y4 y5 y6 y7))
 | 0 => ⟨fun _ _ _ _ _ _ _ _ r h => by simp [r08May.l0] at h, fun _ _ _ _ _ _ _ _ r h => by simp [r08May.l1] at h⟩
 | k + 1 => by
   obtain ⟨ih0, ih1⟩ := r08May.mono_l k
   refine ⟨?_, ?_⟩ <;> intros
   unfold r08May.l0; rotate_left
   unfold r08May.l1; rotate_left
   all_goals (repeat' with_reducible first | apply ih0 | apply ih1 | apply LeO.refl | apply LeO.none | refine LeO.ite ?_ ?_ | refine LeO.bind ?_ fun _ => ?_)
theorem r08May.mono : ∀ a0 a1 a2 a3 a4 a5 a6 k, LeO (r08May.f k a0 a1 a2 a3 a4 a5 a6) (r08May.f (k + 1) a0 a1 a2 a3 a4 a5 a6) := by
 intro a0 a1 a2 a3 a4 a5 a6 k
 obtain ⟨ih0, ih1⟩ := r08May.mono_l k
 unfold r08May.f
 repeat' with_reducible first | apply ih0 | apply ih1 | apply LeO.refl | apply LeO.none | refine LeO.ite ?_ ?_ | refine LeO.bind ?_ fun _ => ?_
set_option maxHeartbeats 8000000 in
set_option maxRecDepth 100000 in
theorem r08May.calls (k : Nat) (b6 : ByteArray) (b7 : Int) (b8 : Int) (d9 : Option Addr) (e0 : Nat) (a4 : List (S66)) (e1 : Option Addr) (e2 : Nat) (a2 : List (S66)) (e3 : Option Addr) (e4 : Nat) (b5 : List (S66)) (A1 : Option Addr) (c1 : Nat) (l1 : List Int) (r : Bool) (w : World) (hr0_3 : Kd.C k66 w d9 a4.length a4) (hc0_3 : a4.length ≤ e0) (hr0_4 : Kd.C k66 w e1 a2.length a2) (hc0_4 : a2.length ≤ e2) (hr0_5 : Kd.C k66 w e3 b5.length b5) (hc0_5 : b5.length ≤ e4) (hr1 : Kd.C (Kd.int .i64) w A1 l1.length l1) (hc1 : l1.length ≤ c1) (h : r08May.f k b6 b7 b8 a4 a2 b5 l1 = some r) :
 Calls Try.prog 52 #[.agg #[.string b6, .int .i64 b7, .int .i64 b8, .slice d9 a4.length e0, .slice e1 a2.length e2, .slice e3 b5.length e4], .slice A1 l1.length c1] w fun e w' => e = .returned (.bool r) ∧ Below w.heap.size w w' := by
 have q2 := Try.underlying64; have d7 := sk hr0_3; have o9 := sk hc0_3; clear hr0_3 hc0_3; have d8 := sk hr0_4; have p0 := sk hc0_4; clear hr0_4 hc0_4; have p3 := sk hr0_5; have p4 := sk hc0_5; clear hr0_5 hc0_5; have k4 := sk hr1; have q3 := sk hc1; clear hr1 hc1; have HB := sk (Below.refl w.heap.size w); have H : (r08May.l0 k l1 0 b6 b7 b8 a4 a2 b5) = some r := h; clear h; have H' := sk H; clear H; go_enter Try.func52, Try.ntmps52
 iterate 3 ((try go_quiet (fail)); go_wp2_with (first | ((with_reducible refine gate_dst (N := 2) rfl ?_); refine bev 2 #[.string b6, .int .i64 b7, .int .i64 b8, .slice d9 a4.length e0, .slice e1 a2.length e2, .slice e3 b5.length e4] 64 ?_; intro h4 hg w3 hbox hb; have a0 := sk (hbox); have j5 := sk (gw (w := w) hg HB.out); have p5 := j5; replace HB := sk (below_step (hbq HB.out) hb); clear hb hbox hg)))
 go_loopg [5] k (fun kq v5 w' => ∃ (a3 : Int), v5 = .int .i64 a3 ∧ Aside0 (r08May.l0 kq l1 a3 b6 b7 b8 a4 a2 b5 = some r) ∧ Aside0 (kq ≤ k) ∧ Aside0 (w'.heap[h4]? = some (.cells #[.string b6, .int .i64 b7, .int .i64 b8, (.slice d9 a4.length e0), (.slice e1 a2.length e2), (.slice e3 b5.length e4)] 64 (0, 0))) ∧ Aside0 (Below w.heap.size w w'))
 case atStart => exact ⟨(0), (by first | rfl | (simp; done) | (simp [*]; done)), H', ⟨Nat.le_refl _⟩, ⟨by refine bkq ?_; exact a0.out⟩, ⟨hbq HB.out⟩⟩
 clear H'; (try clear c1); (try clear p2); obtain ⟨a3, rfl, HA, k5, a0, HB⟩ := hrel; cases gk with
 | zero => exact absurd HA.out (by simp [r08May.l0])
 | succ k1 =>
  have H := HA.out; clear HA; simp only [r08May.l0] at H
  by_cases c4 : a3 < (a4.length : Int)
  ·rw [if_pos c4] at H; have j6 := decide_eq_true c4; clear c4
   by_cases c5 : 0 ≤ a3
   case neg => rw [if_neg c5] at H; exact nn H
   rw [if_pos c5] at H; have o6 := decide_eq_true c5; clear c5
   by_cases c6 : 0 ≤ ((rd_T66 a4 a3).f0)
   case neg => rw [if_neg c6] at H; exact nn H
   rw [if_pos c6] at H; have o7 := decide_eq_true c6; clear c6
   by_cases c7 : ((rd_T66 a4 a3).f0) < (l1.length : Int)
   case neg => rw [if_neg c7] at H; exact nn H
   rw [if_pos c7] at H; have o8 := decide_eq_true c7; clear c7
   by_cases c8 : (rd l1 ((rd_T66 a4 a3).f0)) < ((rd_T66 a4 a3).f1)
   ·rw [if_pos c8] at H; have j7 := decide_eq_true c8; clear c8; obtain rfl := Option.some.inj H; have h5 := bc0 a0.out; have h6 := bc1 a0.out; have h7 := bc2 a0.out; have h8 := bc3 a0.out; have h9 := bc4 a0.out; have i0 := bc5 a0.out; have i1 := bz a0.out 0; have i2 := bz a0.out 1; have i3 := bz a0.out 2; have i4 := bz a0.out 3; have i5 := bz a0.out 4; have i6 := bz a0.out 5; have b9 : 0 ≤ (a3 : Int) := oa; have c0 : a3 < (a4.length : Int) := oa; obtain ⟨e5, i7, a5, a6⟩ := at_T66 d7.out a3 b9 c0; cases i7; replace a5 := hbc HB.out a5; replace a6 := hbc HB.out a6; replace b9 := eq_true b9; replace c0 := eq_true c0; have c2 : 0 ≤ (((rd_T66 a4 a3).f0) : Int) := oa; have c3 : ((rd_T66 a4 a3).f0) < (l1.length : Int) := oa; obtain ⟨j8, i8, a7⟩ := Kd.at_int k4.out ((rd_T66 a4 a3).f0) c2 c3; cases i8; replace a7 := hbc HB.out a7; replace c2 := eq_true c2; replace c3 := eq_true c3; have c9 : 0 ≤ (a3 : Int) := oa; have d0 : a3 < (a4.length : Int) := oa; obtain ⟨e6, i9, a8, a9⟩ := at_T66 d7.out a3 c9 d0; obtain rfl : e5 = e6 := (by injection i9); replace a8 := hbc HB.out a8; replace a9 := hbc HB.out a9; replace c9 := eq_true c9; replace d0 := eq_true d0; go_wp2
    repeat (go_quiet (fail); try go_wp2)
    go_ret; exact f1 (hbq HB.out)
   rw [if_neg c8] at H; have j7 := decide_eq_false c8; clear c8; have H' := sk H; clear H; have e9 := bc0 a0.out; have f0 := bc1 a0.out; have f2 := bc2 a0.out; have f3 := bc3 a0.out; have f4 := bc4 a0.out; have f5 := bc5 a0.out; have f6 := bz a0.out 0; have f7 := bz a0.out 1; have f8 := bz a0.out 2; have f9 := bz a0.out 3; have g0 := bz a0.out 4; have g1 := bz a0.out 5; have b9 : 0 ≤ (a3 : Int) := oa; have c0 : a3 < (a4.length : Int) := oa; obtain ⟨e5, i7, a5, a6⟩ := at_T66 d7.out a3 b9 c0; cases i7; replace a5 := hbc HB.out a5; replace a6 := hbc HB.out a6; replace b9 := eq_true b9; replace c0 := eq_true c0; have c2 : 0 ≤ (((rd_T66 a4 a3).f0) : Int) := oa; have c3 : ((rd_T66 a4 a3).f0) < (l1.length : Int) := oa; obtain ⟨j8, i8, a7⟩ := Kd.at_int k4.out ((rd_T66 a4 a3).f0) c2 c3; cases i8; replace a7 := hbc HB.out a7; replace c2 := eq_true c2; replace c3 := eq_true c3; have c9 : 0 ≤ (a3 : Int) := oa; have d0 : a3 < (a4.length : Int) := oa; obtain ⟨e6, i9, a8, a9⟩ := at_T66 d7.out a3 c9 d0; obtain rfl : e5 = e6 := (by injection i9); replace a8 := hbc HB.out a8; replace a9 := hbc HB.out a9; replace c9 := eq_true c9; replace d0 := eq_true d0; go_wp2
   repeat (go_quiet (fail); try go_wp2)
   go_roundg k1
   case measure => have := k5.out; omega
   case rel => exact ⟨(wrap64 (a3 + 1)), (by first | rfl | (simp; done) | (simp [*]; done)), H', ⟨by have := k5.out; omega⟩, ⟨by refine bkq ?_; exact a0.out⟩, ⟨hbq HB.out⟩⟩
  rw [if_neg c4] at H; have j6 := decide_eq_false c4; clear c4; have H' := sk H; clear H; have g2 := bc0 a0.out; have g3 := bc1 a0.out; have g4 := bc2 a0.out; have g5 := bc3 a0.out; have g6 := bc4 a0.out; have g7 := bc5 a0.out; have g8 := bz a0.out 0; have g9 := bz a0.out 1; have h0 := bz a0.out 2; have h1 := bz a0.out 3; have h2 := bz a0.out 4; have h3 := bz a0.out 5; go_wp2
  repeat (go_quiet (fail); try go_wp2)
  go_loopg [6] k1 (fun kq v6 w' => ∃ (a1 : Int), v6 = .int .i64 a1 ∧ Aside0 (r08May.l1 kq l1 a1 b6 b7 b8 a4 a2 b5 = some r) ∧ Aside0 (kq ≤ k1) ∧ Aside0 (w'.heap[h4]? = some (.cells #[.string b6, .int .i64 b7, .int .i64 b8, (.slice d9 a4.length e0), (.slice e1 a2.length e2), (.slice e3 b5.length e4)] 64 (0, 0))) ∧ Aside0 (Below w.heap.size w w'))
  case atStart => exact ⟨(0), (by first | rfl | (simp; done) | (simp [*]; done)), H', ⟨Nat.le_refl _⟩, ⟨by refine bkq ?_; exact a0.out⟩, ⟨hbq HB.out⟩⟩
  clear H'; (try clear c1); (try clear p1); (try clear q1); (try clear hx1); (try clear p2); (try clear c4); (try clear j6); (try clear c5); (try clear o6); (try clear c6); (try clear o7); (try clear p6); (try clear c7); (try clear o8); (try clear c8); (try clear j7); (try clear e9); (try clear f0); (try clear f2); (try clear f3); (try clear f4); (try clear f5); (try clear g2); (try clear g3); (try clear g4); (try clear g5); (try clear g6); (try clear g7); (try clear h5); (try clear h6); (try clear h7); (try clear h8); (try clear h9); (try clear i0); (try clear f6); (try clear f7); (try clear f8); (try clear f9); (try clear g0); (try clear g1); (try clear g8); (try clear g9); (try clear h0); (try clear h1); (try clear h2); (try clear h3); (try clear i1); (try clear i2); (try clear i3); (try clear i4); (try clear i5); (try clear i6); (try clear a5); (try clear a6); (try clear a7); (try clear a8); (try clear a9); (try clear b9); (try clear c2); (try clear c9); (try clear p2); (try clear c0); (try clear c3); (try clear d0); obtain ⟨a1, rfl, HA, p7, a0, HB⟩ := hrel; cases gk with
  | zero => exact absurd HA.out (by simp [r08May.l1])
  | succ k2 =>
   have H := HA.out; clear HA; simp only [r08May.l1] at H
   by_cases j3 : a1 < (a2.length : Int)
   ·rw [if_pos j3] at H; have j9 := decide_eq_true j3; clear j3
    by_cases k6 : 0 ≤ a1
    case neg => rw [if_neg k6] at H; exact nn H
    rw [if_pos k6] at H; have p8 := decide_eq_true k6; clear k6
    by_cases k7 : 0 ≤ ((rd_T66 a2 a1).f0)
    case neg => rw [if_neg k7] at H; exact nn H
    rw [if_pos k7] at H; have p9 := decide_eq_true k7; clear k7
    by_cases k8 : ((rd_T66 a2 a1).f0) < (l1.length : Int)
    case neg => rw [if_neg k8] at H; exact nn H
    rw [if_pos k8] at H; have q0 := decide_eq_true k8; clear k8
    by_cases j4 : (rd l1 ((rd_T66 a2 a1).f0)) ≥ ((rd_T66 a2 a1).f1)
    ·rw [if_pos j4] at H; have k0 : decide (((rd_T66 a2 a1).f1) ≤ (rd l1 ((rd_T66 a2 a1).f0))) = true := decide_eq_true j4; clear j4; obtain rfl := Option.some.inj H; have k9 := bc0 a0.out; have l0 := bc1 a0.out; have l2 := bc2 a0.out; have l3 := bc3 a0.out; have l4 := bc4 a0.out; have l5 := bc5 a0.out; have l6 := bz a0.out 0; have l7 := bz a0.out 1; have l8 := bz a0.out 2; have l9 := bz a0.out 3; have m0 := bz a0.out 4; have m1 := bz a0.out 5; have d1 : 0 ≤ (a1 : Int) := oa; have d2 : a1 < (a2.length : Int) := oa; obtain ⟨e7, j0, b0, b1⟩ := at_T66 d8.out a1 d1 d2; cases j0; replace b0 := hbc HB.out b0; replace b1 := hbc HB.out b1; replace d1 := eq_true d1; replace d2 := eq_true d2; have d3 : 0 ≤ (((rd_T66 a2 a1).f0) : Int) := oa; have d4 : ((rd_T66 a2 a1).f0) < (l1.length : Int) := oa; obtain ⟨k3, j1, b2⟩ := Kd.at_int k4.out ((rd_T66 a2 a1).f0) d3 d4; cases j1; replace b2 := hbc HB.out b2; replace d3 := eq_true d3; replace d4 := eq_true d4; have d5 : 0 ≤ (a1 : Int) := oa; have d6 : a1 < (a2.length : Int) := oa; obtain ⟨e8, j2, b3, b4⟩ := at_T66 d8.out a1 d5 d6; obtain rfl : e7 = e8 := (by injection j2); replace b3 := hbc HB.out b3; replace b4 := hbc HB.out b4; replace d5 := eq_true d5; replace d6 := eq_true d6; go_wp2
     repeat (go_quiet (fail); try go_wp2)
     go_ret; exact f1 (hbq HB.out)
    rw [if_neg j4] at H; have k0 : decide (((rd_T66 a2 a1).f1) ≤ (rd l1 ((rd_T66 a2 a1).f0))) = false := decide_eq_false j4; clear j4; have H' := sk H; clear H; have m2 := bc0 a0.out; have m3 := bc1 a0.out; have m4 := bc2 a0.out; have m5 := bc3 a0.out; have m6 := bc4 a0.out; have m7 := bc5 a0.out; have m8 := bz a0.out 0; have m9 := bz a0.out 1; have n0 := bz a0.out 2; have n1 := bz a0.out 3; have n2 := bz a0.out 4; have n3 := bz a0.out 5; have d1 : 0 ≤ (a1 : Int) := oa; have d2 : a1 < (a2.length : Int) := oa; obtain ⟨e7, j0, b0, b1⟩ := at_T66 d8.out a1 d1 d2; cases j0; replace b0 := hbc HB.out b0; replace b1 := hbc HB.out b1; replace d1 := eq_true d1; replace d2 := eq_true d2; have d3 : 0 ≤ (((rd_T66 a2 a1).f0) : Int) := oa; have d4 : ((rd_T66 a2 a1).f0) < (l1.length : Int) := oa; obtain ⟨k3, j1, b2⟩ := Kd.at_int k4.out ((rd_T66 a2 a1).f0) d3 d4; cases j1; replace b2 := hbc HB.out b2; replace d3 := eq_true d3; replace d4 := eq_true d4; have d5 : 0 ≤ (a1 : Int) := oa; have d6 : a1 < (a2.length : Int) := oa; obtain ⟨e8, j2, b3, b4⟩ := at_T66 d8.out a1 d5 d6; obtain rfl : e7 = e8 := (by injection j2); replace b3 := hbc HB.out b3; replace b4 := hbc HB.out b4; replace d5 := eq_true d5; replace d6 := eq_true d6; go_wp2
    repeat (go_quiet (fail); try go_wp2)
    go_roundg k2
    case measure => have := k5.out; have := p7.out; omega
    case rel => exact ⟨(wrap64 (a1 + 1)), (by first | rfl | (simp; done) | (simp [*]; done)), H', ⟨by have := k5.out; have := p7.out; omega⟩, ⟨by refine bkq ?_; exact a0.out⟩, ⟨hbq HB.out⟩⟩
   rw [if_neg j3] at H; have j9 := decide_eq_false j3; clear j3; obtain rfl := Option.some.inj H; have n4 := bc0 a0.out; have n5 := bc1 a0.out; have n6 := bc2 a0.out; have n7 := bc3 a0.out; have n8 := bc4 a0.out; have n9 := bc5 a0.out; have o0 := bz a0.out 0; have o1 := bz a0.out 1; have o2 := bz a0.out 2; have o3 := bz a0.out 3; have o4 := bz a0.out 4; have o5 := bz a0.out 5; go_wp2
   repeat (go_quiet (fail); try go_wp2)
   go_ret; exact f1 (hbq HB.out)

end Go.Proofs.Ytigpmhicdmjbeaa.PWeighStays
