/- What the functions that this law reaches answer, in whatever memory, and the row of the law; no condition. Written by a program of this session (mk.sh). -/
import Derived.Test.YtigpmhicdmjbeaaPWeighNonex0
namespace Go.Proofs.Ytigpmhicdmjbeaa.PWeighNone
open Go.RowKit Go.Proofs.YtigpmhicdmjbeaaW.PrintWords Go.Proofs.YtigpmhicdmjbeaaW.PrintLast Go.Proofs.YtigpmhicdmjbeaaW.PrintMore
attribute [local go_sem] max2_int min2_int max_two min_two max_three min_three max_four min_four   -- for this text's walks alone
set_option linter.unusedVariables false
set_option linter.unusedSimpArgs false

/-! ### marblerunref05_put: function 39 -/
def marblerunref05_put.l0 : Nat → List (S66) → Int → Int → Int → Option ((List (S66)))
 | 0, _, _, _, _ => none
 | k + 1, x0, x1, x2, x7 => if x7 < (x0.length : Int) then (if 0 ≤ x7 then (if ((rd_T66 x0 x7).f0) = x1 then (some x0) else (marblerunref05_put.l0 k x0 x1 x2 (wrap64 (x7 + 1)))) else (none)) else (if x0.length < 8796093022208 then (some (x0 ++ [(⟨x1, x2⟩ : S66)])) else (none))
def marblerunref05_put.f (k : Nat) (l0 : List (S66)) (a1 : Int) (a2 : Int) : Option ((List (S66))) := marblerunref05_put.l0 k l0 a1 a2 0
theorem marblerunref05_put.mono_l : ∀ k, (∀ y0 y1 y2 y3, LeO (marblerunref05_put.l0 k y0 y1 y2 y3) (marblerunref05_put.l0 (k + 1) y0 y1 y2 y3))
 | 0 => fun _ _ _ _ r h => by simp [marblerunref05_put.l0] at h
 | k + 1 => by
  have ih0 := marblerunref05_put.mono_l k
  ·intro y0 y1 y2 y3
   unfold marblerunref05_put.l0
   repeat' first
   | (with_reducible exact ih0 _ _ _ _)
   | (with_reducible exact LeO.refl _)
   | (with_reducible exact LeO.none _)
   | (with_reducible refine LeO.ite ?_ ?_)
   | (with_reducible refine LeO.bind ?_ (fun _ => ?_))
   | exact ih0 _ _ _ _
   | exact LeO.none _
   | refine LeO.ite ?_ ?_
   | refine LeO.bind ?_ (fun _ => ?_)
theorem marblerunref05_put.mono : ∀ a0 a1 a2 k, LeO (marblerunref05_put.f k a0 a1 a2) (marblerunref05_put.f (k + 1) a0 a1 a2) := by
 intro a0 a1 a2 k
 have ih0 := marblerunref05_put.mono_l k
 unfold marblerunref05_put.f
 repeat' first
  | (with_reducible exact ih0 _ _ _ _)
  | (with_reducible exact LeO.refl _)
  | (with_reducible exact LeO.none _)
  | (with_reducible refine LeO.ite ?_ ?_)
  | (with_reducible refine LeO.bind ?_ (fun _ => ?_))
  | exact ih0 _ _ _ _
  | exact LeO.none _
  | refine LeO.ite ?_ ?_
  | refine LeO.bind ?_ (fun _ => ?_)
set_option maxHeartbeats 8000000 in
set_option maxRecDepth 100000 in
theorem marblerunref05_put.calls (k : Nat) (P0_ : Nat → Prop) (u9000_ : Value) (l0 : List (S66)) (a1 : Int) (a2 : Int) (r : List (S66)) (w0 w : World) (hB : Below w0.heap.size w0 w) (ho0 : Kd.R k66 66 w w0.heap.size P0_ u9000_ l0) (h : marblerunref05_put.f k l0 a1 a2 = some r) :
 Calls Try.prog 39 #[u9000_, .int .i64 a1, .int .i64 a2] w fun e w' => ∃ v0_ : Value, e = .returned (v0_) ∧ Kd.R k66 66 w' w0.heap.size (fun k_ => (P0_ k_ ∨ w.heap.size ≤ k_)) v0_ r ∧ Below w0.heap.size w0 w' ∧ Kept w w' (fun k_ => P0_ k_) := by
 have hu66 := Try.underlying66; have HO0 := Aside0.mk (show Kd.R k66 66 w w0.heap.size (fun k_ => (P0_ k_ ∨ w.heap.size ≤ k_)) u9000_ l0 from Kd.R_mono ho0 (fun k_ hk => (.inl hk))); have HK := Aside0.mk (Kept.refl w (fun k_ => P0_ k_)); have HW0 := Aside0.mk hB.size; have HB := Aside0.mk hB; clear hB; have H : (marblerunref05_put.l0 k l0 a1 a2 0) = some r := h; clear h; have H' := Aside0.mk H; clear H; go_enter Try.func39, Try.ntmps39; go_wp2; go_loopg [7] k (fun kq v7 w' => ∃ (x7_1 : Int), v7 = .int .i64 x7_1 ∧ Aside0 (marblerunref05_put.l0 kq l0 a1 a2 x7_1 = some r) ∧ Aside0 (kq ≤ k) ∧ Aside0 (Kd.R k66 66 w' w0.heap.size (fun k_ => (P0_ k_ ∨ w.heap.size ≤ k_)) u9000_ l0) ∧ Aside0 (Kept w w' (fun k_ => P0_ k_)) ∧ Aside0 (Below w0.heap.size w0 w'))
 case atStart => exact ⟨(0), (by first | rfl | (simp; done) | (simp [*]; done)), H', ⟨Nat.le_refl _⟩, ⟨by refine kq_R ?_; exact HO0.out⟩, ⟨by repeat (first | (with_reducible first | exact HK.out | apply Kept.alloc | apply Kept.drewN | apply Kept.drew) | exact HK.out)⟩, ⟨hbq HB.out⟩⟩
 clear H'; (try clear p2); (try clear c3); obtain ⟨x7_1, rfl, HA, HK1, HO_0, HK, HB⟩ := hrel; cases gk with
 | zero => exact absurd HA.out (by simp [marblerunref05_put.l0])
 | succ k1 =>
  have H := HA.out; clear HA; simp only [marblerunref05_put.l0] at H
  by_cases c4 : x7_1 < (l0.length : Int)
  ·rw [if_pos c4] at H; have c4b0 : decide (x7_1 < (l0.length : Int)) = true := decide_eq_true c4; clear c4
   by_cases c5 : 0 ≤ x7_1
   case neg => rw [if_neg c5] at H; exact absurd H (by simp)
   rw [if_pos c5] at H; have c5b0 : decide (0 ≤ x7_1) = true := decide_eq_true c5; clear c5
   by_cases c6 : ((rd_T66 l0 x7_1).f0) = a1
   ·rw [if_pos c6] at H; have c6b0 : (((rd_T66 l0 x7_1).f0) == a1) = true := beq_iff_eq.mpr c6; have c6b1 : (((rd_T66 l0 x7_1).f0) != a1) = false := bne_eq_false_iff_eq.mpr c6; clear c6; obtain rfl := Option.some.inj H; obtain ⟨Ao7, co7, eo7⟩ := Kd.R_slice HO_0.out; subst eo7; have p104 : 0 ≤ (x7_1 : Int) := oa; have q104 : x7_1 < (l0.length : Int) := oa; obtain ⟨ad104, e104, hx104_0, hx104_1⟩ := at_T66 (Kd.R_reads' HO_0.out).2.2 x7_1 p104 q104; cases e104; replace p104 := eq_true p104; replace q104 := eq_true q104; go_wp2; go_ret; exact ⟨_, by first | rfl | (simp [errW_none, errW_some] <;> rfl) | (simp [*, errW_none, errW_some] <;> rfl), by refine kq_R ?_; exact HO_0.out, hbq HB.out, by repeat (first | (with_reducible first | exact HK.out | apply Kept.alloc | apply Kept.drewN | apply Kept.drew) | exact HK.out)⟩
   rw [if_neg c6] at H; have c6b0 : (((rd_T66 l0 x7_1).f0) == a1) = false := beq_eq_false_iff_ne.mpr c6; have c6b1 : (((rd_T66 l0 x7_1).f0) != a1) = true := bne_iff_ne.mpr c6; have H' := Aside0.mk H; clear H; obtain ⟨Ao8, co8, eo8⟩ := Kd.R_slice HO_0.out; subst eo8; have p104 : 0 ≤ (x7_1 : Int) := oa; have q104 : x7_1 < (l0.length : Int) := oa; obtain ⟨ad104, e104, hx104_0, hx104_1⟩ := at_T66 (Kd.R_reads' HO_0.out).2.2 x7_1 p104 q104; cases e104; replace p104 := eq_true p104; replace q104 := eq_true q104; go_wp2; go_roundg k1
   case measure => have := HK1.out; omega
   case rel => exact ⟨(wrap64 (x7_1 + 1)), (by first | rfl | (simp; done) | (simp [*]; done)), H', ⟨by have := HK1.out; omega⟩, ⟨by refine kq_R ?_; exact HO_0.out⟩, ⟨by repeat (first | (with_reducible first | exact HK.out | apply Kept.alloc | apply Kept.drewN | apply Kept.drew) | exact HK.out)⟩, ⟨hbq HB.out⟩⟩
  rw [if_neg c4] at H; have c4b0 : decide (x7_1 < (l0.length : Int)) = false := decide_eq_false c4; clear c4
  by_cases c9 : l0.length < 8796093022208
  case neg => rw [if_neg c9] at H; exact absurd H (by simp)
  rw [if_pos c9] at H; have LMc9 := Aside0.mk c9; clear c9; obtain ⟨y101, hy101⟩ : ∃ y_ : List (S66), y_ = (l0 ++ [(⟨a1, a2⟩ : S66)]) := ⟨_, rfl⟩; replace H : (some y101) = some r := by first | (rw [hy101]; with_reducible exact H) | (have H2_ := (Option.bind_some _ _).symm.trans H; rw [hy101]; with_reducible exact H2_) | (have H2_ := (Option.bind_some _ _).symm.trans H; with_reducible exact H2_) | with_reducible exact H | (rw [hy101]; exact H) | exact H
  have Ny101 := Aside0.mk hy101; clear hy101; obtain rfl := Option.some.inj H; obtain ⟨Ao10, co10, eo10⟩ := Kd.R_slice HO_0.out; subst eo10; go_wp2_with (first | ((with_reducible refine gate_builtin (b := .append) (xs := #[.tmp 22, .tmp 26]) rfl ?_); at_builtin; refine Kd.R_append k66 (w0 := w0) w0.heap.size rfl (.tmp 22) (.tmp 26) 62 66 (.agg #[(.int .i64 0), (.int .i64 0)]) 16 rfl Try.underlying62 info66 rfl (by decide) (by omega) (.slice Ao10 l0.length co10) l0 (⟨a1, a2⟩ : S66) [.int .i64 a1, .int .i64 a2] (fun k_ => (P0_ k_ ∨ w.heap.size ≤ k_)) (fun _ => False) rfl rfl ?aP (fun _ hk => hk.elim) ?aF ?aO ?aB ?aS ?aL ?_; (case aP => exact k66_mkM _ _ _ (⟨a1, a2⟩ : S66)); (case aB => exact (hbq HB.out)); (case aF => exact (fun k_ hk => (.inr (Nat.le_trans (by first | exact HK.out.1 | exact (show Kept w _ (fun k_ => P0_ k_) from by repeat (first | (with_reducible first | exact HK.out | apply Kept.alloc | apply Kept.drewN | apply Kept.drew) | exact HK.out)).1) hk)))); (case aO => exact (kq_R HO_0.out)); (case aS => exact (below_size (hbq HB.out))); (case aL => have := LMc9.out; omega); intro v102 w11 ho hb hg hat; rw [← Ny101.out] at ho; replace HB := Aside0.mk (hb); replace HK := Aside0.mk (Kept.of_grown (S := (fun k_ => P0_ k_)) hg (by repeat (first | (with_reducible first | exact HK.out | apply Kept.alloc | apply Kept.drewN | apply Kept.drew) | exact HK.out)) (fun k_ e_ => (HO_0.out.1 k_ e_))); have HO103 := Aside0.mk (ho); clear HO_0; clear ho hb hg hat)); go_ret; exact ⟨_, by first | rfl | (simp [errW_none, errW_some] <;> rfl) | (simp [*, errW_none, errW_some] <;> rfl), by refine kq_R ?_; exact HO103.out, hbq HB.out, by repeat (first | (with_reducible first | exact HK.out | apply Kept.alloc | apply Kept.drewN | apply Kept.drew) | exact HK.out)⟩

end Go.Proofs.Ytigpmhicdmjbeaa.PWeighNone
