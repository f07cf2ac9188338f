/- What the functions that this law reaches answer, in whatever memory, and the row of the law; no condition. Written by a program of this session (mk.sh). -/
import Derived.Test.YtigpmhicdmjbeaaPWeighStaysx0
namespace Go.Proofs.Ytigpmhicdmjbeaa.PWeighStays
open Go.RowKit Go.Proofs.YtigpmhicdmjbeaaW.PrintWords Go.Proofs.YtigpmhicdmjbeaaW.PrintLast Go.Proofs.YtigpmhicdmjbeaaW.PrintMore
attribute [local go_sem] max2_int min2_int max_two min_two max_three min_three max_four min_four   -- for this text's walks alone
set_option linter.unusedVariables false
set_option linter.unusedSimpArgs false

/-! ### r05put: function 39 -/
def r05put.l0 : Nat → List (S66) → Int → Int → Int → Option ((List (S66)))
 | 0, _, _, _, _ => none
 | k + 1, x0, x1, x2, x7 => if x7 < (x0.length : Int) then (if 0 ≤ x7 then (if ((rd_T66 x0 x7).f0) = x1 then (some x0) else (r05put.l0 k x0 x1 x2 (wrap64 (x7 + 1)))) else (none)) else (if x0.length < 8796093022208 then (some (x0 ++ [(⟨x1, x2⟩ : S66)])) else (none))
def r05put.f (k : Nat) (l0 : List (S66)) (a1 : Int) (a2 : Int) : Option ((List (S66))) := r05put.l0 k l0 a1 a2 0
theorem r05put.mono_l : ∀ k, (∀ y0 y1 y2 y3, LeO (r05put.l0 k y0 y1 y2 y3) (r05put.l0 (k + 1) y0 y1 y2 y3))
 | 0 => fun _ _ _ _ r h => by simp [r05put.l0] at h
 | k + 1 => by
   have ih0 := r05put.mono_l k
   intros; unfold r05put.l0; repeat' with_reducible first | apply ih0 | apply LeO.refl | apply LeO.none | refine LeO.ite ?_ ?_ | refine LeO.bind ?_ fun _ => ?_
theorem r05put.mono : ∀ a0 a1 a2 k, LeO (r05put.f k a0 a1 a2) (r05put.f (k + 1) a0 a1 a2) := by
 intro a0 a1 a2 k
 have ih0 := r05put.mono_l k
 unfold r05put.f
 repeat' with_reducible first | apply ih0 | apply LeO.refl | apply LeO.none | refine LeO.ite ?_ ?_ | refine LeO.bind ?_ fun _ => ?_
set_option maxHeartbeats 8000000 in
set_option maxRecDepth 100000 in
theorem r05put.calls (k : Nat) (P0_ : Nat → Prop) (u9000_ : Value) (l0 : List (S66)) (a1 : Int) (a2 : Int) (r : List (S66)) (w0 w : World) (hB : Below w0.heap.size w0 w) (ho0 : Kd.R k66 66 w w0.heap.size P0_ u9000_ l0) (h : r05put.f k l0 a1 a2 = some r) :
 Calls Try.prog 39 #[u9000_, .int .i64 a1, .int .i64 a2] w fun e w' => ∃ v0_ : Value, e = .returned (v0_) ∧ Kd.R k66 66 w' w0.heap.size (fun k_ => (P0_ k_ ∨ w.heap.size ≤ k_)) v0_ r ∧ Below w0.heap.size w0 w' ∧ Kept w w' (fun k_ => P0_ k_) := by
 have c2 := Try.underlying66; have c7 := sk (show Kd.R k66 66 w w0.heap.size (fun k_ => (P0_ k_ ∨ w.heap.size ≤ k_)) u9000_ l0 from Kd.R_mono ho0 (fun k_ hk => (.inl hk))); have HK := sk (Kept.refl w (fun k_ => P0_ k_)); have d3 := sk hB.size; have HB := sk hB; clear hB; have H : (r05put.l0 k l0 a1 a2 0) = some r := h; clear h; have H' := sk H; clear H; go_enter Try.func39, Try.ntmps39; go_wp2; go_loopg [7] k (fun kq v7 w' => ∃ (a0 : Int), v7 = .int .i64 a0 ∧ Aside0 (r05put.l0 kq l0 a1 a2 a0 = some r) ∧ Aside0 (kq ≤ k) ∧ Aside0 (Kd.R k66 66 w' w0.heap.size (fun k_ => (P0_ k_ ∨ w.heap.size ≤ k_)) u9000_ l0) ∧ Aside0 (Kept w w' (fun k_ => P0_ k_)) ∧ Aside0 (Below w0.heap.size w0 w'))
 case atStart => exact ⟨(0), (by first | rfl | (simp; done) | (simp [*]; done)), H', ⟨Nat.le_refl _⟩, ⟨by refine kq_R ?_; exact c7.out⟩, ⟨by repeat (first | (with_reducible first | exact HK.out | apply Kept.alloc | apply Kept.drewN | apply Kept.drew) | exact HK.out)⟩, ⟨hbq HB.out⟩⟩
 clear H'; (try clear p2); (try clear c3); obtain ⟨a0, rfl, HA, c1, a3, HK, HB⟩ := hrel; cases gk with
 | zero => exact absurd HA.out (by simp [r05put.l0])
 | succ k1 =>
  have H := HA.out; clear HA; simp only [r05put.l0] at H
  by_cases c4 : a0 < (l0.length : Int)
  ·rw [if_pos c4] at H; have b3 := decide_eq_true c4; clear c4
   by_cases c5 : 0 ≤ a0
   case neg => rw [if_neg c5] at H; exact nn H
   rw [if_pos c5] at H; have c8 := decide_eq_true c5; clear c5
   by_cases c6 : ((rd_T66 l0 a0).f0) = a1
   ·rw [if_pos c6] at H; have b4 := beq_iff_eq.mpr c6; have b5 := bne_eq_false_iff_eq.mpr c6; clear c6; obtain rfl := Option.some.inj H; obtain ⟨d4, d5, d0⟩ := Kd.R_slice a3.out; subst d0; have a4 : 0 ≤ (a0 : Int) := oa; have a5 : a0 < (l0.length : Int) := oa; obtain ⟨b0, a9, a7, a8⟩ := at_T66 (Kd.R_reads' a3.out).2.2 a0 a4 a5; cases a9; replace a4 := eq_true a4; replace a5 := eq_true a5; go_wp2; go_ret; exact ⟨_, by first | rfl | (simp [errW_none, errW_some] <;> rfl) | (simp [*, errW_none, errW_some] <;> rfl), by refine kq_R ?_; exact a3.out, hbq HB.out, by repeat (first | (with_reducible first | exact HK.out | apply Kept.alloc | apply Kept.drewN | apply Kept.drew) | exact HK.out)⟩
   rw [if_neg c6] at H; have b4 := beq_eq_false_iff_ne.mpr c6; have b5 := bne_iff_ne.mpr c6; have H' := sk H; clear H; obtain ⟨d6, d7, d1⟩ := Kd.R_slice a3.out; subst d1; have a4 : 0 ≤ (a0 : Int) := oa; have a5 : a0 < (l0.length : Int) := oa; obtain ⟨b0, a9, a7, a8⟩ := at_T66 (Kd.R_reads' a3.out).2.2 a0 a4 a5; cases a9; replace a4 := eq_true a4; replace a5 := eq_true a5; go_wp2; go_roundg k1
   case measure => have := c1.out; omega
   case rel => exact ⟨(wrap64 (a0 + 1)), (by first | rfl | (simp; done) | (simp [*]; done)), H', ⟨by have := c1.out; omega⟩, ⟨by refine kq_R ?_; exact a3.out⟩, ⟨by repeat (first | (with_reducible first | exact HK.out | apply Kept.alloc | apply Kept.drewN | apply Kept.drew) | exact HK.out)⟩, ⟨hbq HB.out⟩⟩
  rw [if_neg c4] at H; have b3 := decide_eq_false c4; clear c4
  by_cases c9 : l0.length < 8796093022208
  case neg => rw [if_neg c9] at H; exact nn H
  rw [if_pos c9] at H; have b6 := sk c9; clear c9; obtain ⟨b7, a6⟩ : ∃ y_ : List (S66), y_ = (l0 ++ [(⟨a1, a2⟩ : S66)]) := ⟨_, rfl⟩; replace H : (some b7) = some r := rh a6 H
  have b1 := sk a6; clear a6; obtain rfl := Option.some.inj H; obtain ⟨b8, b9, c0⟩ := Kd.R_slice a3.out; subst c0; go_wp2_with (first | ((with_reducible refine gate_builtin (b := .append) (xs := #[.tmp 22, .tmp 26]) rfl ?_); at_builtin; refine Kd.R_append k66 (w0 := w0) w0.heap.size rfl (.tmp 22) (.tmp 26) 62 66 (.agg #[(.int .i64 0), (.int .i64 0)]) 16 rfl Try.underlying62 info66 rfl (by decide) (by omega) (.slice b8 l0.length b9) l0 (⟨a1, a2⟩ : S66) [.int .i64 a1, .int .i64 a2] (fun k_ => (P0_ k_ ∨ w.heap.size ≤ k_)) (fun _ => False) rfl rfl ?aP (fun _ hk => hk.elim) ?aF ?aO ?aB ?aS ?aL ?_; (case aP => exact k66_mkM _ _ _ (⟨a1, a2⟩ : S66)); (case aB => exact (hbq HB.out)); (case aF => exact (fun k_ hk => (.inr (Nat.le_trans (by first | exact HK.out.1 | exact (show Kept w _ (fun k_ => P0_ k_) from by repeat (first | (with_reducible first | exact HK.out | apply Kept.alloc | apply Kept.drewN | apply Kept.drew) | exact HK.out)).1) hk)))); (case aO => exact (kq_R a3.out)); (case aS => exact (below_size (hbq HB.out))); (case aL => have := b6.out; omega); intro d2 d8 ho hb hg hat; rw [← b1.out] at ho; replace HB := sk (hb); replace HK := sk (Kept.of_grown (S := (fun k_ => P0_ k_)) hg (by repeat (first | (with_reducible first | exact HK.out | apply Kept.alloc | apply Kept.drewN | apply Kept.drew) | exact HK.out)) (fun k_ e_ => (a3.out.1 k_ e_))); have b2 := sk (ho); clear a3; clear ho hb hg hat)); go_ret; exact ⟨_, by first | rfl | (simp [errW_none, errW_some] <;> rfl) | (simp [*, errW_none, errW_some] <;> rfl), by refine kq_R ?_; exact b2.out, hbq HB.out, by repeat (first | (with_reducible first | exact HK.out | apply Kept.alloc | apply Kept.drewN | apply Kept.drew) | exact HK.out)⟩

end Go.Proofs.Ytigpmhicdmjbeaa.PWeighStays
