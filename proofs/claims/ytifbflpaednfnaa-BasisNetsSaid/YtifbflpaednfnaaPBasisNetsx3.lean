/- What the functions that this law reaches answer, in whatever memory, and the row of the law; no condition. Written by a program of this session (mk.sh). -/
import Derived.Test.YtifbflpaednfnaaPBasisNetsx0
import Derived.Test.YtifbflpaednfnaaPBasisNetsx1
namespace Go.Proofs.Ytifbflpaednfnaa.PBasisNets
open Go.RowKit Go.Proofs.YtifbflpaednfnaaW.PrintWords Go.Proofs.YtifbflpaednfnaaW.PrintLast Go.Proofs.YtifbflpaednfnaaW.PrintMore
attribute [local go_sem] max2_int min2_int max_two min_two   -- for this text's walks alone
set_option linter.unusedVariables false
set_option linter.unusedSimpArgs false

/-! ### whole_Norm: function 41 -/
mutual
def whole_Norm.l0 : Nat → List Int → Int → List Int → Int → Int → Option (List Int)
 | 0, _, _, _, _, _ => none
 | k + 1, e, c, h, j, d => if d < j then (if 0 ≤ d then (if d < (h.length : Int) then ((whole_Gcd.f k c (rd h d)).bind fun i => (whole_Norm.l0 k e i h j (wrap64 (d + 1)))) else (none)) else (none)) else (if 0 ≤ (e.length : Int) then (if ((e.length : Int) : Int).toNat ≤ 35184372088832 then ((some (List.replicate ((e.length : Int) : Int).toNat 0 : List Int)).bind fun b => (whole_Norm.l1 k c (e.take (min e.length b.length) ++ b.drop (min e.length b.length)) (b.length : Int) 0)) else (none)) else (none))
def whole_Norm.l1 : Nat → Int → List Int → Int → Int → Option (List Int)
 | 0, _, _, _, _ => none
 | k + 1, c, f, g, a => if a < g then (if c > 1 then (if 0 ≤ a then (if a < (f.length : Int) then (if c = 0 then (none) else (whole_Norm.l1 k c (f.set (a : Int).toNat (wrap64 (Int.tdiv (rd f a) c))) g (wrap64 (a + 1)))) else (none)) else (none)) else (whole_Norm.l1 k c f g (wrap64 (a + 1)))) else (some f)
end
def whole_Norm.f (k : Nat) (a : List Int) : Option (List Int) := whole_Norm.l0 k a 0 a (a.length : Int) 0
theorem whole_Norm.mono_l : ∀ k, (∀ y0 y1 y2 y3 y4, LeO (whole_Norm.l0 k y0 y1 y2 y3 y4) (whole_Norm.l0 (k + 1) y0 y1 y2 y3 y4)) ∧ (∀ y0 y1 y2 y3, LeO (whole_Norm.l1 k y0 y1 y2 y3) (whole_Norm.l1 (k + 1) y0 y1 y2 y3))
 | 0 => ⟨fun _ _ _ _ _ r h => by simp [whole_Norm.l0] at h, fun _ _ _ _ r h => by simp [whole_Norm.l1] at h⟩
 | k + 1 => by
   obtain ⟨ih0, ih1⟩ := whole_Norm.mono_l k
   refine ⟨?_, ?_⟩ <;> intros
   unfold whole_Norm.l0; rotate_left
   unfold whole_Norm.l1; rotate_left
   all_goals (repeat' with_reducible first | apply ih0 | apply ih1 | apply whole_Gcd.mono | apply LeO.refl | apply LeO.none | refine LeO.ite ?_ ?_ | refine LeO.bind ?_ fun _ => ?_)
theorem whole_Norm.mono : ∀ a0 k, LeO (whole_Norm.f k a0) (whole_Norm.f (k + 1) a0) := by
 intro a0 k
 obtain ⟨ih0, ih1⟩ := whole_Norm.mono_l k
 unfold whole_Norm.f
 repeat' with_reducible first | apply ih0 | apply ih1 | apply whole_Gcd.mono | apply LeO.refl | apply LeO.none | refine LeO.ite ?_ ?_ | refine LeO.bind ?_ fun _ => ?_
set_option maxHeartbeats 8000000 in
set_option maxRecDepth 100000 in
theorem whole_Norm.calls (k : Nat) (A0 : Option Addr) (c0 : Nat) (l0 : List Int) (r : List Int) (w : World) (hr0 : Kd.C (Kd.int .i64) w A0 l0.length l0) (hc0 : l0.length ≤ c0) (h : whole_Norm.f k l0 = some r) :
 Calls Try.prog 41 #[.slice A0 l0.length c0] w fun e w' => ∃ v0_ : Value, e = .returned (v0_) ∧ Kd.R (Kd.int .i64) 3 w' w.heap.size (fun _ => True) v0_ r ∧ Below w.heap.size w w' := by
 have g6 := sk hr0; have h9 := sk hc0; clear hr0 hc0; have HB := sk (Below.refl w.heap.size w); have H : (whole_Norm.l0 k l0 0 l0 (l0.length : Int) 0) = some r := h; clear h; have H' := sk H; clear H; go_enter Try.func41, Try.ntmps41; go_wp2; go_loopg [3, 10] k (fun kq v3 h3 w' => ∃ (a2 : Int) (a1 : Int), v3 = .int .i64 a2 ∧ h3 = .int .i64 a1 ∧ Aside0 (whole_Norm.l0 kq l0 a2 l0 (l0.length : Int) a1 = some r) ∧ Aside0 (kq ≤ k) ∧ Aside0 (Below w.heap.size w w'))
 case atStart => exact ⟨(0), (0), (by first | rfl | (simp; done) | (simp [*]; done)), (by first | rfl | (simp; done) | (simp [*]; done)), H', ⟨Nat.le_refl _⟩, ⟨hbq HB.out⟩⟩
 clear H'; obtain ⟨a2, a1, rfl, rfl, HA, d1, HB⟩ := hrel; cases gk with
 | zero => exact absurd HA.out (by simp [whole_Norm.l0])
 | succ k1 =>
  have H := HA.out; clear HA; simp only [whole_Norm.l0] at H
  by_cases c2 : a1 < (l0.length : Int)
  ·rw [if_pos c2] at H; have d4 := decide_eq_true c2; clear c2
   by_cases c3 : 0 ≤ a1
   case neg => rw [if_neg c3] at H; exact nn H
   rw [if_pos c3] at H; have f0 := decide_eq_true c3; clear c3
   by_cases c4 : a1 < (l0.length : Int)
   case neg => rw [if_neg c4] at H; exact nn H
   rw [if_pos c4] at H; have f1 := decide_eq_true c4; clear c4; obtain ⟨b8, A5, H⟩ := bi H; replace H : (whole_Norm.l0 k1 l0 b8 l0 (l0.length : Int) (wrap64 (a1 + 1))) = some r := H; have H' := sk H; clear H; have b4 : 0 ≤ (a1 : Int) := oa; have b5 : a1 < (l0.length : Int) := oa; obtain ⟨g7, f2, a7⟩ := Kd.at_int g6.out a1 b4 b5; cases f2; replace a7 := hbc HB.out a7; replace b4 := eq_true b4; replace b5 := eq_true b5; go_wp2_with (first | ((with_reducible refine gate_callee (f := 38) rfl ?_); refine goesD (some 16) rfl rfl Try.func38 rfl #[.int .i64 a2, .int .i64 (rd l0 a1)] rfl ?_; (with_reducible refine (whole_Gcd.calls k1 a2 (rd l0 a1) b8 _ A5.out).mono ?_); rintro e w' ⟨rfl, ⟨nd, rfl⟩⟩; refine ⟨_, rfl, ?_⟩)); go_roundg k1
   case measure => have := d1.out; omega
   case rel => exact ⟨(b8), (wrap64 (a1 + 1)), (by first | rfl | (simp; done) | (simp [*]; done)), (by first | rfl | (simp; done) | (simp [*]; done)), H', ⟨by have := d1.out; omega⟩, ⟨hbq HB.out⟩⟩
  rw [if_neg c2] at H; have d4 := decide_eq_false c2; clear c2
  by_cases c6 : 0 ≤ (l0.length : Int)
  case neg => rw [if_neg c6] at H; exact nn H
  rw [if_pos c6] at H; have f3 := eq_true c6; have f4 := decide_eq_true c6; clear c6
  by_cases c7 : ((l0.length : Int) : Int).toNat ≤ 35184372088832
  case neg => rw [if_neg c7] at H; exact nn H
  rw [if_pos c7] at H; have f5 := eq_true c7; have f6 := decide_eq_true c7; clear c7; obtain ⟨a3, a9⟩ : ∃ y_ : List Int, y_ = (List.replicate ((l0.length : Int) : Int).toNat 0) := ⟨_, rfl⟩; replace H : (whole_Norm.l1 k1 a2 (l0.take (min l0.length a3.length) ++ a3.drop (min l0.length a3.length)) (a3.length : Int) 0) = some r := rh a9 H
  have b7 := sk a9; clear a9; obtain ⟨d5, b0⟩ : ∃ y_ : List Int, y_ = (l0.take (min l0.length a3.length) ++ a3.drop (min l0.length a3.length)) := ⟨_, rfl⟩; replace H : (whole_Norm.l1 k1 a2 d5 (a3.length : Int) 0) = some r := rh b0 H
  have d6 := sk b0; clear b0; have H' := sk H; clear H; go_wp2_with (first | ((with_reducible refine gate_dst (N := 20) rfl ?_); refine Kd.R_make (Kd.int .i64) _ 3 rfl (N := 20) rfl 37 _ _ rfl (l0.length : Int) rfl rfl Try.underlying37 (.int .i64 0) 8 info3 rfl (by decide) (by omega) 0 (ok := fun _ => True) (okp := fun _ => True) rfl (fun _ hk => hk) trivial (oa) (Nat.le_trans (Nat.mul_le_mul_right _ (oa : (l0.length : Int).toNat ≤ 35184372088832)) (by omega)) (Below.refl _ _) (Nat.le_refl _) ?_; intro h4 w8 d7 hb hg_ hnew_; clear hg_ hnew_; (first | rw [← b7.out] at d7 | (simp only [Int.reduceToNat] at d7; rw [← b7.out] at d7)); have a8 := sk (Kd.R_lower d7 (below_size (hbq HB.out))); replace HB := sk (below_step (hbq HB.out) hb); clear hb d7; obtain ⟨d8, b9, f7⟩ := Kd.R_slice a8.out; subst f7) | ((with_reducible refine gate_builtin (b := .copy) (xs := #[.tmp 21, .tmp 22]) rfl ?_); refine Kd.R_copy (enc := (Value.int .i64)) (h1 := fun _ => rfl) 0 (w0 := w) w.heap.size rfl (.tmp 21) (.tmp 22) 37 37 3 rfl Try.underlying37 (by kernel_rfl) (.slice d8 a3.length b9) a3 l0 _ _ _ (fun _ => True) rfl rfl ?aO ?aR ?aB ?aS ?_; (case aO => exact (kq_R a8.out)); (case aR => repeat (first | exact (Kd.C_below g6.out HB.out) | (with_reducible refine Kd.C_alloc ?_ _) | (with_reducible refine Kd.C_drewN ?_ _) | (with_reducible refine Kd.C_drew ?_))); (case aB => exact (hbq HB.out)); (case aS => exact (below_size (hbq HB.out))); intro i0 hp_ hb hg; rw [← d6.out] at hp_; replace a8 := sk (hp_); replace HB := sk (hb); clear hp_ hb hg)); go_loopg [26] k1 (fun kq h5 w' => ∃ (a5 : List Int) (a0 : Int), h5 = .int .i64 a0 ∧ Aside0 (whole_Norm.l1 kq a2 a5 (a3.length : Int) a0 = some r) ∧ Aside0 (kq ≤ k1) ∧ Aside0 (Kd.R (Kd.int .i64) 3 w' w.heap.size (fun _ => True) (.slice d8 a3.length b9) a5) ∧ Aside0 (Below w.heap.size w w'))
  case atStart => exact ⟨(d5), (0), (by first | rfl | (simp; done) | (simp [*]; done)), H', ⟨Nat.le_refl _⟩, ⟨by refine kq_R ?_; exact a8.out⟩, ⟨hbq HB.out⟩⟩
  clear H'; (try clear p1); (try clear q1); (try clear hx1); (try clear c2); (try clear d4); (try clear p2); (try clear c3); (try clear f0); (try clear c4); (try clear f1); (try clear c6); (try clear f3); (try clear f4); (try clear p6); (try clear c7); (try clear f5); (try clear f6); (try clear a7); (try clear b4); (try clear b5); obtain ⟨a5, a0, rfl, HA, e6, a6, HB⟩ := hrel; have a4 := (Kd.R_reads' a6.out).1; rw [a4] at a6; (try simp only [a4]); cases gk with
  | zero => exact absurd HA.out (by simp [whole_Norm.l1])
  | succ k2 =>
   have H := HA.out; clear HA; simp only [whole_Norm.l1] at H
   by_cases d2 : a0 < (a3.length : Int)
   ·rw [if_pos d2] at H; have b1 := decide_eq_true d2; (try (have b2 := b1; simp only [a4] at b2)); clear d2
    by_cases d3 : a2 > 1
    ·rw [if_pos d3] at H; have d9 : decide (1 < a2) = true := decide_eq_true d3; clear d3
     by_cases e7 : 0 ≤ a0
     case neg => rw [if_neg e7] at H; exact nn H
     rw [if_pos e7] at H; have g8 := decide_eq_true e7; clear e7
     by_cases e8 : a0 < (a5.length : Int)
     case neg => rw [if_neg e8] at H; exact nn H
     rw [if_pos e8] at H; have e0 := decide_eq_true e8; (try (have e1 := e0; simp only [a4] at e1)); clear e8
     by_cases e9 : a2 = 0
     case pos => rw [if_pos e9] at H; exact nn H
     rw [if_neg e9] at H; have g9 := beq_eq_false_iff_ne.mpr e9; have h0 := bne_iff_ne.mpr e9; obtain ⟨c1, b3⟩ : ∃ y_ : List Int, y_ = (a5.set (a0 : Int).toNat (wrap64 (Int.tdiv (rd a5 a0) a2))) := ⟨_, rfl⟩; replace H : (whole_Norm.l1 k2 a2 c1 (a3.length : Int) (wrap64 (a0 + 1))) = some r := rh b3 H
     have e2 := sk b3; clear b3; have H' := sk H; clear H; have c5 : 0 ≤ (a0 : Int) := oa; have c8 : a0 < (a5.length : Int) := oa; obtain ⟨h2, f8, b6⟩ := Kd.at_int (Kd.R_reads' a6.out).2.2 a0 c5 c8; cases f8; replace c5 := eq_true c5; replace c8 := eq_true c8; have f9 : 0 ≤ (a0 : Int) := oa; have g0 : (a0 : Int) < ((a5.length : Int) : Int) := oa; obtain ⟨c9, h6, e3, e4, g1, h7, e5⟩ := Kd.R_form a6.out (by omega); (first | cases e3 | (injection e3 with ea_ en_ ec_; (first | subst ea_ | (injection ea_ with ea_; subst ea_)); subst ec_; clear en_)); have g2 := sk e4; have h8 := sk e5; clear e4 g1 e5; (first | simp only [add_plain] at b6 | skip); obtain ⟨g3, g4⟩ := Kd.R_celln 0 a6.out (a0 : Int) f9 g0; replace f9 := eq_true f9; replace g0 := eq_true g0; have d0 := Kd.R_putg a6.out (a0 : Int) (wrap64 (Int.tdiv (rd a5 a0) a2)); go_wp2_with (first | ((with_reducible refine gate_store (t := 3) (p := 37) rfl ?_); refine store_event (t := 3) (p := 37) (v := ?vo_w19) (w1 := (wr.setCell ⟨c9, (a0 : Int).toNat, none⟩ (.int .i64 (wrap64 (Int.tdiv (rd a5 a0) a2))))) ?hg ?ho ?hn ?hr ?_; (case ho => rfl); (case hg => rfl); (case hn => rfl); (case hr => first | (go_simp; done) | (go_simp; rfl)); intro g5 hw; have hg : wr.grownBy g5 (some c9) := (by rw [hw]; exact d0.2); have hp_ : Kd.R (Kd.int .i64) 3 g5 w.heap.size (fun _ => True) (.slice (some ⟨c9, 0, none⟩) a5.length b9) c1 := (by rw [hw, e2.out]; exact d0.1); clear d0; replace a6 := sk (hp_); replace HB := sk ((by rw [hw]; exact below_set (HB.out) g2.out : Below w.heap.size w g5)); clear hg hw hp_)); (try simp only [← a4]); go_roundg k2
     case measure => have := d1.out; have := e6.out; omega
     case rel => exact ⟨(c1), (wrap64 (a0 + 1)), (by first | rfl | (simp; done) | (simp [*]; done)), H', ⟨by have := d1.out; have := e6.out; omega⟩, ⟨by (try simp only [a4]); refine kq_R ?_; exact a6.out⟩, ⟨hbq HB.out⟩⟩
    rw [if_neg d3] at H; have d9 : decide (1 < a2) = false := decide_eq_false d3; clear d3; have H' := sk H; clear H; go_wp2; (try simp only [← a4]); go_roundg k2
    case measure => have := d1.out; have := e6.out; omega
    case rel => exact ⟨(a5), (wrap64 (a0 + 1)), (by first | rfl | (simp; done) | (simp [*]; done)), H', ⟨by have := d1.out; have := e6.out; omega⟩, ⟨by (try simp only [a4]); refine kq_R ?_; exact a6.out⟩, ⟨hbq HB.out⟩⟩
   rw [if_neg d2] at H; have b1 := decide_eq_false d2; (try (have b2 := b1; simp only [a4] at b2)); clear d2; obtain rfl := Option.some.inj H; go_wp2; go_ret; exact ⟨_, by first | rfl | (simp [errW_none, errW_some] <;> rfl) | (simp [*, errW_none, errW_some] <;> rfl), by refine kq_R ?_; exact a6.out, hbq HB.out⟩

end Go.Proofs.Ytifbflpaednfnaa.PBasisNets
