/- What the functions that this law reaches answer, in whatever memory, and the row of the law; no condition. Written by a program of this session (mk.sh). -/
import Derived.Test.YtigpmhicdmjbeaaPMatrixOfx0
namespace Go.Proofs.Ytigpmhicdmjbeaa.PMatrixOf
open Go.RowKit Go.Proofs.YtigpmhicdmjbeaaW.PrintWords Go.Proofs.YtigpmhicdmjbeaaW.PrintLast Go.Proofs.YtigpmhicdmjbeaaW.PrintMore
attribute [local go_sem] max2_int min2_int max_two min_two max_three min_three max_four min_four   -- for this text's walks alone
set_option linter.unusedVariables false
set_option linter.unusedSimpArgs false

/-! ### matrix_Turn: function 19 -/
mutual
def matrix_Turn.l0 : Nat → List (List Int) → List (List Int) → Int → Int → Option ((List (List Int)))
  | 0, _, _, _, _ => none
  | k + 1, x0, x3, x8, x9 => if x9 < x8 then (if 0 ≤ x9 then (if x9 < (x0.length : Int) then (matrix_Turn.l1 k x0 x3 x8 x9 (rd_L1 x0 x9) ((rd_L1 x0 x9).length : Int) 0) else (none)) else (none)) else (some x3)
def matrix_Turn.l1 : Nat → List (List Int) → List (List Int) → Int → Int → List Int → Int → Int → Option ((List (List Int)))
  | 0, _, _, _, _, _, _, _ => none
  | k + 1, x0, x3, x8, x9, x15, x16, x17 => if x17 < x16 then (if 0 ≤ x17 then (if x17 < (x15.length : Int) then (if x17 = (x3.length : Int) then (if x3.length < 5864062014805 then ((some (x3 ++ [([] : List Int)] : List (List Int))).bind fun y223 => (if x17 < (y223.length : Int) then (if (rd_L1 y223 x17).length < 17592186044416 then (matrix_Turn.l1 k x0 (y223.set (x17 : Int).toNat ((rd_L1 y223 x17) ++ [rd x15 x17])) x8 x9 x15 x16 (wrap64 (x17 + 1))) else (none)) else (none))) else (none)) else (if x17 < (x3.length : Int) then (if (rd_L1 x3 x17).length < 17592186044416 then (matrix_Turn.l1 k x0 (x3.set (x17 : Int).toNat ((rd_L1 x3 x17) ++ [rd x15 x17])) x8 x9 x15 x16 (wrap64 (x17 + 1))) else (none)) else (none))) else (none)) else (none)) else (matrix_Turn.l0 k x0 x3 x8 (wrap64 (x9 + 1)))
end
def matrix_Turn.f (k : Nat) (l0 : List (List Int)) : Option ((List (List Int))) := matrix_Turn.l0 k l0 ([] : List (List Int)) (l0.length : Int) 0
theorem matrix_Turn.mono_l : ∀ k, (∀ y0 y1 y2 y3, LeO (matrix_Turn.l0 k y0 y1 y2 y3) (matrix_Turn.l0 (k + 1) y0 y1 y2 y3)) ∧ (∀ y0 y1 y2 y3 y4 y5 y6, LeO (matrix_Turn.l1 k y0 y1 y2 y3 y4 y5 y6) (matrix_Turn.l1 (k + 1) y0 y1 y2 y3 y4 y5 y6))
  | 0 => ⟨fun _ _ _ _ r h => by simp [matrix_Turn.l0] at h, fun _ _ _ _ _ _ _ r h => by simp [matrix_Turn.l1] at h⟩
  | k + 1 => by
    obtain ⟨ih0, ih1⟩ := matrix_Turn.mono_l k
    refine ⟨?_, ?_⟩
    · intro y0 y1 y2 y3
      unfold matrix_Turn.l0
      repeat' first
      | (with_reducible exact ih0 _ _ _ _)
      | (with_reducible exact ih1 _ _ _ _ _ _ _)
      | (with_reducible exact LeO.refl _)
      | (with_reducible exact LeO.none _)
      | (with_reducible refine LeO.ite ?_ ?_)
      | (with_reducible refine LeO.bind ?_ (fun _ => ?_))
      | exact ih0 _ _ _ _
      | exact ih1 _ _ _ _ _ _ _
      | exact LeO.none _
      | refine LeO.ite ?_ ?_
      | refine LeO.bind ?_ (fun _ => ?_)
    · intro y0 y1 y2 y3 y4 y5 y6
      unfold matrix_Turn.l1
      repeat' first
      | (with_reducible exact ih0 _ _ _ _)
      | (with_reducible exact ih1 _ _ _ _ _ _ _)
      | (with_reducible exact LeO.refl _)
      | (with_reducible exact LeO.none _)
      | (with_reducible refine LeO.ite ?_ ?_)
      | (with_reducible refine LeO.bind ?_ (fun _ => ?_))
      | exact ih0 _ _ _ _
      | exact ih1 _ _ _ _ _ _ _
      | exact LeO.none _
      | refine LeO.ite ?_ ?_
      | refine LeO.bind ?_ (fun _ => ?_)
theorem matrix_Turn.mono : ∀ a0 k, LeO (matrix_Turn.f k a0) (matrix_Turn.f (k + 1) a0) := by
  intro a0 k
  obtain ⟨ih0, ih1⟩ := matrix_Turn.mono_l k
  unfold matrix_Turn.f
  repeat' first
      | (with_reducible exact ih0 _ _ _ _)
      | (with_reducible exact ih1 _ _ _ _ _ _ _)
      | (with_reducible exact LeO.refl _)
      | (with_reducible exact LeO.none _)
      | (with_reducible refine LeO.ite ?_ ?_)
      | (with_reducible refine LeO.bind ?_ (fun _ => ?_))
      | exact ih0 _ _ _ _
      | exact ih1 _ _ _ _ _ _ _
      | exact LeO.none _
      | refine LeO.ite ?_ ?_
      | refine LeO.bind ?_ (fun _ => ?_)
set_option maxHeartbeats 8000000 in
set_option maxRecDepth 100000 in
theorem matrix_Turn.calls (k : Nat) (A0 : Option Addr) (c0 : Nat) (l0 : List (List Int)) (r : List (List Int)) (w : World) (hr0 : Kd.C (Kd.slice 3 (Kd.int .i64)) w A0 l0.length l0) (hc0 : l0.length ≤ c0) (h : matrix_Turn.f k l0 = some r) :
    Calls Try.prog 19 #[.slice A0 l0.length c0] w fun e w' => ∃ v0_ : Value, e = .returned (v0_) ∧ Kd.S (Kd.slice 3 (Kd.int .i64)) 22 w' w.heap.size (fun _ => True) v0_ r ∧ Below w.heap.size w w' := by
  have HR0 := Aside0.mk hr0
  have HC0 := Aside0.mk hc0
  clear hr0 hc0
  have HB := Aside0.mk (Below.refl w.heap.size w)
  have H : (matrix_Turn.l0 k l0 ([] : List (List Int)) (l0.length : Int) 0) = some r := h
  clear h
  have H' := Aside0.mk H
  clear H
  go_enter Try.func19, Try.ntmps19
  go_wp2
  go_loopg [3, 9] k (fun kq v3 v9 w' => ∃ (x3_1 : List (List Int)) (x9_1 : Int), v9 = .int .i64 x9_1 ∧ Aside0 (matrix_Turn.l0 kq l0 x3_1 (l0.length : Int) x9_1 = some r) ∧ Aside0 (kq ≤ k) ∧ Aside0 (Kd.S (Kd.slice 3 (Kd.int .i64)) 22 w' w.heap.size (fun _ => True) v3 x3_1) ∧ Aside0 (Below w.heap.size w w'))
  case atStart => exact ⟨(([] : List (List Int))), (0), (by first | rfl | (simp; done) | (simp [*]; done)), H', ⟨Nat.le_refl _⟩, ⟨by first | exact Kd.S_nil _ _ _ _ _ | exact Kd.N_nil _ _ _ _ _ | exact Kd.V_nil _ _ _ _ _ | exact Kd.Q_nil _ _ _ _ _ | exact Kd.R_nil _ _ _ _ _⟩, ⟨by repeat (first | (with_reducible first | exact HB.out | apply below_alloc | apply pw_below_drewN | apply below_drew1) | exact HB.out)⟩⟩
  clear H'
  try clear c1
  obtain ⟨x3_1, x9_1, rfl, HA, HK1, HO_3, HB⟩ := hrel
  cases gk with
  | zero => exact absurd HA.out (by simp [matrix_Turn.l0])
  | succ k1 =>
    have H := HA.out
    clear HA
    simp only [matrix_Turn.l0] at H
    by_cases c2 : x9_1 < (l0.length : Int)
    · rw [if_pos c2] at H
      have c2b0 : decide (x9_1 < (l0.length : Int)) = true := decide_eq_true c2
      clear c2
      by_cases c3 : 0 ≤ x9_1
      case neg => rw [if_neg c3] at H; exact absurd H (by simp)
      rw [if_pos c3] at H
      have c3b0 : decide (0 ≤ x9_1) = true := decide_eq_true c3
      clear c3
      by_cases c4 : x9_1 < (l0.length : Int)
      case neg => rw [if_neg c4] at H; exact absurd H (by simp)
      rw [if_pos c4] at H
      have c4b0 : decide (x9_1 < (l0.length : Int)) = true := decide_eq_true c4
      clear c4
      have H' := Aside0.mk H
      clear H
      have p221 : 0 ≤ (x9_1 : Int) := of_decide_eq_true (by first | (with_reducible assumption) | assumption)
      have q221 : x9_1 < (l0.length : Int) := of_decide_eq_true (by first | (with_reducible assumption) | assumption)
      obtain ⟨ad221, A221_0, c221_0, e221, hx221_0, hl221_0, hi221_0⟩ := at_L1 HR0.out x9_1 p221 q221
      cases e221
      replace hx221_0 := (HB.out.cell (World.block_lt_of_cell? w _ hx221_0)).trans hx221_0
      have HR221_0 := Aside0.mk hi221_0
      have HC221_0 := Aside0.mk hl221_0
      clear hi221_0 hl221_0
      replace p221 := eq_true p221
      replace q221 := eq_true q221
      go_wp2
      go_loopg [3, 17] k1 (fun kq v3 v17 w' => ∃ (x3_2 : List (List Int)) (x17_2 : Int), v17 = .int .i64 x17_2 ∧ Aside0 (matrix_Turn.l1 kq l0 x3_2 (l0.length : Int) x9_1 (rd_L1 l0 x9_1) ((rd_L1 l0 x9_1).length : Int) x17_2 = some r) ∧ Aside0 (kq ≤ k1) ∧ Aside0 (Kd.S (Kd.slice 3 (Kd.int .i64)) 22 w' w.heap.size (fun _ => True) v3 x3_2) ∧ Aside0 (Below w.heap.size w w'))
      case atStart => exact ⟨(x3_1), (0), (by first | rfl | (simp; done) | (simp [*]; done)), H', ⟨Nat.le_refl _⟩, ⟨by (with_reducible repeat (first | apply Kd.S_alloc | apply Kd.S_drewN | apply Kd.S_drew)); exact HO_3.out⟩, ⟨by repeat (first | (with_reducible first | exact HB.out | apply below_alloc | apply pw_below_drewN | apply below_drew1) | exact HB.out)⟩⟩
      clear H'
      try clear c1
      try clear c2
      try clear c2b0
      try clear p2
      try clear q2
      try clear hx2
      try clear c3
      try clear c3b0
      try clear c4
      try clear c4b0
      try clear hx221_0
      try clear p221
      try clear q221
      obtain ⟨x3_2, x17_2, rfl, HA, HK2, HO_3, HB⟩ := hrel
      cases gk with
      | zero => exact absurd HA.out (by simp [matrix_Turn.l1])
      | succ k2 =>
        have H := HA.out
        clear HA
        simp only [matrix_Turn.l1] at H
        by_cases c5 : x17_2 < ((rd_L1 l0 x9_1).length : Int)
        · rw [if_pos c5] at H
          have c5b0 : decide (x17_2 < ((rd_L1 l0 x9_1).length : Int)) = true := decide_eq_true c5
          clear c5
          by_cases c6 : 0 ≤ x17_2
          case neg => rw [if_neg c6] at H; exact absurd H (by simp)
          rw [if_pos c6] at H
          have c6b0 : decide (0 ≤ x17_2) = true := decide_eq_true c6
          clear c6
          by_cases c7 : x17_2 < ((rd_L1 l0 x9_1).length : Int)
          case neg => rw [if_neg c7] at H; exact absurd H (by simp)
          rw [if_pos c7] at H
          have c7b0 : decide (x17_2 < ((rd_L1 l0 x9_1).length : Int)) = true := decide_eq_true c7
          clear c7
          by_cases c8 : x17_2 = (x3_2.length : Int)
          · rw [if_pos c8] at H
            have c8b0 : (x17_2 == (x3_2.length : Int)) = true := beq_iff_eq.mpr c8
            have c8b1 : (x17_2 != (x3_2.length : Int)) = false := bne_eq_false_iff_eq.mpr c8
            clear c8
            by_cases c9 : x3_2.length < 5864062014805
            case neg => rw [if_neg c9] at H; exact absurd H (by simp)
            rw [if_pos c9] at H
            have LMc9 := Aside0.mk c9
            clear c9
            obtain ⟨y223, hy223⟩ : ∃ y_ : List (List Int), y_ = (x3_2 ++ [([] : List Int)]) := ⟨_, rfl⟩
            replace H : (if x17_2 < (y223.length : Int) then (if (rd_L1 y223 x17_2).length < 17592186044416 then (matrix_Turn.l1 k2 l0 (y223.set (x17_2 : Int).toNat ((rd_L1 y223 x17_2) ++ [rd (rd_L1 l0 x9_1) x17_2])) (l0.length : Int) x9_1 (rd_L1 l0 x9_1) ((rd_L1 l0 x9_1).length : Int) (wrap64 (x17_2 + 1))) else (none)) else (none)) = some r := by first | (rw [hy223]; with_reducible exact H) | (have H2_ := (Option.bind_some _ _).symm.trans H; rw [hy223]; with_reducible exact H2_) | (have H2_ := (Option.bind_some _ _).symm.trans H; with_reducible exact H2_) | with_reducible exact H | (rw [hy223]; exact H) | exact H
            have Ny223 := Aside0.mk hy223
            clear hy223
            by_cases c10 : x17_2 < (y223.length : Int)
            case neg => rw [if_neg c10] at H; exact absurd H (by simp)
            rw [if_pos c10] at H
            have c10b0 : decide (x17_2 < (y223.length : Int)) = true := decide_eq_true c10
            clear c10
            by_cases c11 : (rd_L1 y223 x17_2).length < 17592186044416
            case neg => rw [if_neg c11] at H; exact absurd H (by simp)
            rw [if_pos c11] at H
            have LMc11 := Aside0.mk c11
            clear c11
            obtain ⟨y227, hy227⟩ : ∃ y_ : List Int, y_ = ((rd_L1 y223 x17_2) ++ [rd (rd_L1 l0 x9_1) x17_2]) := ⟨_, rfl⟩
            replace H : (matrix_Turn.l1 k2 l0 (y223.set (x17_2 : Int).toNat y227) (l0.length : Int) x9_1 (rd_L1 l0 x9_1) ((rd_L1 l0 x9_1).length : Int) (wrap64 (x17_2 + 1))) = some r := by first | (rw [hy227]; with_reducible exact H) | (have H2_ := (Option.bind_some _ _).symm.trans H; rw [hy227]; with_reducible exact H2_) | (have H2_ := (Option.bind_some _ _).symm.trans H; with_reducible exact H2_) | with_reducible exact H | (rw [hy227]; exact H) | exact H
            have Ny227 := Aside0.mk hy227
            clear hy227
            obtain ⟨y230, hy230⟩ : ∃ y_ : List (List Int), y_ = (y223.set (x17_2 : Int).toNat y227) := ⟨_, rfl⟩
            replace H : (matrix_Turn.l1 k2 l0 y230 (l0.length : Int) x9_1 (rd_L1 l0 x9_1) ((rd_L1 l0 x9_1).length : Int) (wrap64 (x17_2 + 1))) = some r := by first | (rw [hy230]; with_reducible exact H) | (have H2_ := (Option.bind_some _ _).symm.trans H; rw [hy230]; with_reducible exact H2_) | (have H2_ := (Option.bind_some _ _).symm.trans H; with_reducible exact H2_) | with_reducible exact H | (rw [hy230]; exact H) | exact H
            have Ny230 := Aside0.mk hy230
            clear hy230
            have H' := Aside0.mk H
            clear H
            have p222 : 0 ≤ (x17_2 : Int) := of_decide_eq_true (by first | (with_reducible assumption) | assumption)
            have q222 : x17_2 < ((rd_L1 l0 x9_1).length : Int) := of_decide_eq_true (by first | (with_reducible assumption) | assumption)
            obtain ⟨ad222, e222, hx222_0⟩ := Kd.at_int HR221_0.out x17_2 p222 q222
            cases e222
            replace hx222_0 := (HB.out.cell (World.block_lt_of_cell? w _ hx222_0)).trans hx222_0
            replace p222 := eq_true p222
            replace q222 := eq_true q222
            obtain ⟨Ao13, co13, eo13⟩ := Kd.S_slice HO_3.out
            subst eo13
            go_wp2_with (first | ((with_reducible refine gate_builtin (b := .append) (xs := #[.tmp 26, .tmp 27]) rfl ?_); at_builtin; refine Kd.S_append (Kd.slice 3 (Kd.int .i64)) (w0 := w) w.heap.size rfl (.tmp 26) (.tmp 27) 37 22 (.slice none 0 0) 24 rfl Try.underlying37 info22 rfl (by decide) (by omega) (.slice Ao13 x3_2.length co13) x3_2 ([] : List Int) [.slice none 0 0] (fun _ => True) (fun _ => False) rfl rfl ?aP (fun k_ hk_ => hk_.elim) ?aF ?aO ?aB ?aS ?aL ?_; (case aP => exact Kd.M_row (Kd.R_nil _ _ _ _ _)); (case aB => exact (by repeat (first | (with_reducible first | exact HB.out | apply below_alloc | apply pw_below_drewN | apply below_drew1) | exact HB.out))); (case aF => exact (fun _ _ => trivial)); (case aO => exact (by (with_reducible repeat (first | apply Kd.S_alloc | apply Kd.S_drewN | apply Kd.S_drew)); exact Kd.S_mono HO_3.out (fun k_ hk => ⟨trivial, fun e_ => e_⟩))); (case aS => exact (below_size (by repeat (first | (with_reducible first | exact HB.out | apply below_alloc | apply pw_below_drewN | apply below_drew1) | exact HB.out)))); (case aL => have := LMc9.out; omega); intro v224 w14 ho hb hg hat; rw [← Ny223.out] at ho; have n0_ := Aside0.mk (hb); have n1_ := Aside0.mk (ho); clear HB; clear HO_3; have HB := n0_; have HO225 := n1_; clear n0_ n1_; clear ho hb hg hat; obtain ⟨Ao15, co15, eo15⟩ := Kd.S_slice HO225.out; subst eo15; have p226 : 0 ≤ (x17_2 : Int) := of_decide_eq_true (by first | (with_reducible assumption) | assumption); have q226 : x17_2 < (y223.length : Int) := of_decide_eq_true (by first | (with_reducible assumption) | assumption); obtain ⟨ad226, A226_0, c226_0, e226, hx226_0, hl226_0, hi226_0⟩ := at_L1 (Kd.S_reads' HO225.out).2.2 x17_2 p226 q226; cases e226; obtain ⟨ce226, hce226, hMe226, hcc226⟩ := Kd.S_get HO225.out [] x17_2 p226 (by first | exact q226 | exact of_decide_eq_true (by first | (with_reducible assumption) | assumption) | (have e_ := (Kd.S_reads' HO225.out).1; omega)); obtain ⟨ve226_0, rfl, ge226_0⟩ := hMe226; have hv226_0 := hcc226 0 _ rfl; rw [Nat.add_zero, show ((Kd.slice 3 (Kd.int .i64))).sz = 1 from rfl, Nat.mul_one] at hv226_0; replace hv226_0 := Option.some.inj (hv226_0.symm.trans hx226_0); rw [hv226_0] at ge226_0; have HL226_0 := Aside0.mk (show Kd.R (Kd.int .i64) 3 _ _ _ _ (rd_L1 y223 x17_2) from ge226_0); clear hv226_0 ge226_0; have HX226_0 := Aside0.mk hx226_0; clear hcc226 hce226; have HR226_0 := Aside0.mk hi226_0; have HC226_0 := Aside0.mk hl226_0; clear hi226_0 hl226_0; replace p226 := eq_true p226; replace q226 := eq_true q226; obtain ⟨go16, co16, eo16, gb16, gl16, cl16, HG16⟩ := Kd.S_form HO225.out (by have h_ : (x17_2 : Int) < ((y223.length : Int) : Int) := of_decide_eq_true (by first | (with_reducible assumption) | assumption); have h2_ : 0 ≤ (x17_2 : Int) := (of_decide_eq_true (by first | (with_reducible assumption) | assumption)); omega); (first | cases eo16 | (injection eo16 with ea_ en_ ec_; (first | subst ea_ | (injection ea_ with ea_; subst ea_)); subst ec_; clear en_)); have GB16 := Aside0.mk gb16; have GG16 := Aside0.mk HG16; clear gb16 gl16 HG16; (first | simp only [add_plain] at hx226_0 | skip); obtain ⟨oki16, ce16, hcl16, hM16, hcc16, _, _, hH16⟩ := Kd.S_elem HO225.out [] (x17_2 : Int) (of_decide_eq_true (by first | (with_reducible assumption) | assumption)) (by have h_ : (x17_2 : Int) < ((y223.length : Int) : Int) := of_decide_eq_true (by first | (with_reducible assumption) | assumption); first | exact h_ | (have e_ := (Kd.S_reads' HO225.out).1; omega) | simpa using h_); obtain ⟨ve16_0, rfl, ge16_0⟩ := hM16; have hv16 := hcc16 0 _ rfl; have hX16 := HX226_0.out; (try simp only [add_plain] at hX16); (try simp only [Nat.add_zero] at hv16); (try rw [show ((Kd.slice 3 (Kd.int .i64))).sz = 1 from rfl, Nat.mul_one] at hv16); replace hv16 := Option.some.inj (hv16.symm.trans hX16); subst hv16; clear hX16 hcc16 hcl16; have UU16 := Aside0.mk (show Kd.R (Kd.int .i64) 3 _ w.heap.size oki16 (.slice A226_0 (rd_L1 y223 x17_2).length c226_0) (rd_L1 y223 x17_2) from ge16_0); have HH16 := Aside0.mk hH16; have HN16 := Aside0.mk (Kd.S_reads' HO225.out).1; clear hH16 ge16_0) | ((with_reducible refine gate_builtin (b := .append) (xs := #[.tmp 34, .tmp 36]) rfl ?_); at_builtin; refine Kd.R_append (Kd.int .i64) (w0 := w) w.heap.size rfl (.tmp 34) (.tmp 36) 22 3 (.int .i64 0) 8 rfl Try.underlying22 info3 rfl (by decide) (by omega) (.slice A226_0 (rd_L1 y223 x17_2).length c226_0) (rd_L1 y223 x17_2) (rd (rd_L1 l0 x9_1) x17_2) [.int .i64 (rd (rd_L1 l0 x9_1) x17_2)] (fun k_ => oki16 k_ ∨ ((fun _ => True)) k_ ∧ w14.heap.size ≤ k_) (fun _ => False) rfl rfl ?aP (fun _ hk => hk.elim) ?aF ?aO ?aB ?aS ?aL ?_; (case aP => exact rfl); (case aB => exact (by repeat (first | (with_reducible first | exact HB.out | apply below_alloc | apply pw_below_drewN | apply below_drew1) | exact HB.out))); (case aF => exact (fun k_ hk => .inr ⟨trivial, hk⟩)); (case aO => exact (by (with_reducible repeat (first | apply Kd.R_alloc | apply Kd.R_drewN | apply Kd.R_drew)); exact Kd.R_mono UU16.out (fun _ hk => .inl hk))); (case aS => exact (below_size (by repeat (first | (with_reducible first | exact HB.out | apply below_alloc | apply pw_below_drewN | apply below_drew1) | exact HB.out)))); (case aL => have := LMc11.out; omega); intro v228 w17 ho hb hg hat; rw [← Ny227.out] at ho; have n0_ := Aside0.mk (hb); have n1_ := Aside0.mk (Kd.H_grown (Kd.H_widen (by repeat (first | exact HH16.out | refine Kd.H_alloc ?_ _ | refine Kd.H_drewN ?_ _ | refine Kd.H_drew ?_))) hg (fun k_ e_ => .inl (UU16.out.1 k_ e_))); have n2_ := Aside0.mk (ho); clear HB; clear HH16; clear HO225; clear UU16; clear HL226_0; have HB := n0_; have HH16 := n1_; have HO229 := n2_; clear n0_ n1_ n2_; clear ho hb hg hat; have p12 : 0 ≤ (x17_2 : Int) := of_decide_eq_true (by first | (with_reducible assumption) | assumption); have q12 : (x17_2 : Int) < ((y223.length : Int) : Int) := of_decide_eq_true (by first | (with_reducible assumption) | assumption); replace p12 := eq_true p12; replace q12 := eq_true q12; obtain ⟨Ao20, co20, eo20⟩ := Kd.R_slice HO229.out; subst eo20; obtain ⟨_, _, hraw18, _, _, hcc18, _⟩ := Kd.H_raw HH16.out (of_decide_eq_true (by first | (with_reducible assumption) | assumption)) (by have h_ : (x17_2 : Int) < ((y223.length : Int) : Int) := of_decide_eq_true (by first | (with_reducible assumption) | assumption); first | exact h_ | (have e_ := (HN16.out); omega) | simpa using h_); obtain ⟨_, hfr18⟩ := Kd.H_at HH16.out (of_decide_eq_true (by first | (with_reducible assumption) | assumption)) (by have h_ : (x17_2 : Int) < ((y223.length : Int) : Int) := of_decide_eq_true (by first | (with_reducible assumption) | assumption); first | exact h_ | (have e_ := (HN16.out); omega) | simpa using h_); have hx18_0 := hcc18 0 _ rfl; have hf18_0 := hfr18 0; (try simp only [Nat.add_zero] at hx18_0 hf18_0); (try rw [show ((Kd.slice 3 (Kd.int .i64))).sz = 1 from rfl, Nat.mul_one] at hx18_0); (try rw [show ((Kd.slice 3 (Kd.int .i64))).sz = 1 from rfl, Nat.mul_one] at hf18_0); have HP18 := Kd.S_seg0 HH16.out (of_decide_eq_true (by first | (with_reducible assumption) | assumption)) (by have h_ : (x17_2 : Int) < ((y223.length : Int) : Int) := of_decide_eq_true (by first | (with_reducible assumption) | assumption); first | exact h_ | (have e_ := (HN16.out); omega) | simpa using h_) (seg := [.slice Ao20 y227.length co20]) (j := 0) (show 1 ≤ 1 from by decide) (x' := y227) (Kd.M_row HO229.out) (fun _ hk => hk); (try simp only [show ((Kd.slice 3 (Kd.int .i64))).sz = 1 from rfl, Nat.mul_one, Nat.add_zero] at HP18); clear hcc18 hfr18) | ((with_reducible refine gate_store (t := 22) (p := 38) rfl ?_); refine store_event (t := 22) (p := 38) (v := ?vo_w19) (w1 := (w17.setCell ⟨go16, (x17_2 : Int).toNat, none⟩ (.slice Ao20 y227.length co20))) ?hg ?ho ?hn ?hr ?_; (case ho => rfl); (case hg => rfl); (case hn => rfl); (case hr => first | (go_simp; done) | (go_simp; rfl)); intro w19 hw; have hg : w17.grownBy w19 (some go16) := (by rw [hw]; exact HP18.2); have hp_ : Kd.S (Kd.slice 3 (Kd.int .i64)) 22 w19 w.heap.size (fun _ => True) (.slice (some ⟨go16, 0, none⟩) y223.length co15) y230 := (by rw [hw, Ny230.out]; exact HP18.1); clear HP18; have n0_ := Aside0.mk ((by rw [hw]; exact below_set HB.out GB16.out : Below w.heap.size w w19)); have n1_ := Aside0.mk (hp_); clear HB; clear HO229; clear HH16; have HB := n0_; have HO225 := n1_; clear n0_ n1_; clear hg hw hp_ hraw18))
            go_roundg k2
            case measure => have := HK1.out; have := HK2.out; omega
            case rel => exact ⟨(y230), (wrap64 (x17_2 + 1)), (by first | rfl | (simp; done) | (simp [*]; done)), H', ⟨by have := HK1.out; have := HK2.out; omega⟩, ⟨by (with_reducible repeat (first | apply Kd.S_alloc | apply Kd.S_drewN | apply Kd.S_drew)); exact HO225.out⟩, ⟨by repeat (first | (with_reducible first | exact HB.out | apply below_alloc | apply pw_below_drewN | apply below_drew1) | exact HB.out)⟩⟩
          rw [if_neg c8] at H
          have c8b0 : (x17_2 == (x3_2.length : Int)) = false := beq_eq_false_iff_ne.mpr c8
          have c8b1 : (x17_2 != (x3_2.length : Int)) = true := bne_iff_ne.mpr c8
          by_cases c21 : x17_2 < (x3_2.length : Int)
          case neg => rw [if_neg c21] at H; exact absurd H (by simp)
          rw [if_pos c21] at H
          have c21b0 : decide (x17_2 < (x3_2.length : Int)) = true := decide_eq_true c21
          clear c21
          by_cases c22 : (rd_L1 x3_2 x17_2).length < 17592186044416
          case neg => rw [if_neg c22] at H; exact absurd H (by simp)
          rw [if_pos c22] at H
          have LMc22 := Aside0.mk c22
          clear c22
          obtain ⟨y232, hy232⟩ : ∃ y_ : List Int, y_ = ((rd_L1 x3_2 x17_2) ++ [rd (rd_L1 l0 x9_1) x17_2]) := ⟨_, rfl⟩
          replace H : (matrix_Turn.l1 k2 l0 (x3_2.set (x17_2 : Int).toNat y232) (l0.length : Int) x9_1 (rd_L1 l0 x9_1) ((rd_L1 l0 x9_1).length : Int) (wrap64 (x17_2 + 1))) = some r := by first | (rw [hy232]; with_reducible exact H) | (have H2_ := (Option.bind_some _ _).symm.trans H; rw [hy232]; with_reducible exact H2_) | (have H2_ := (Option.bind_some _ _).symm.trans H; with_reducible exact H2_) | with_reducible exact H | (rw [hy232]; exact H) | exact H
          have Ny232 := Aside0.mk hy232
          clear hy232
          obtain ⟨y235, hy235⟩ : ∃ y_ : List (List Int), y_ = (x3_2.set (x17_2 : Int).toNat y232) := ⟨_, rfl⟩
          replace H : (matrix_Turn.l1 k2 l0 y235 (l0.length : Int) x9_1 (rd_L1 l0 x9_1) ((rd_L1 l0 x9_1).length : Int) (wrap64 (x17_2 + 1))) = some r := by first | (rw [hy235]; with_reducible exact H) | (have H2_ := (Option.bind_some _ _).symm.trans H; rw [hy235]; with_reducible exact H2_) | (have H2_ := (Option.bind_some _ _).symm.trans H; with_reducible exact H2_) | with_reducible exact H | (rw [hy235]; exact H) | exact H
          have Ny235 := Aside0.mk hy235
          clear hy235
          have H' := Aside0.mk H
          clear H
          have p222 : 0 ≤ (x17_2 : Int) := of_decide_eq_true (by first | (with_reducible assumption) | assumption)
          have q222 : x17_2 < ((rd_L1 l0 x9_1).length : Int) := of_decide_eq_true (by first | (with_reducible assumption) | assumption)
          obtain ⟨ad222, e222, hx222_0⟩ := Kd.at_int HR221_0.out x17_2 p222 q222
          cases e222
          replace hx222_0 := (HB.out.cell (World.block_lt_of_cell? w _ hx222_0)).trans hx222_0
          replace p222 := eq_true p222
          replace q222 := eq_true q222
          obtain ⟨Ao24, co24, eo24⟩ := Kd.S_slice HO_3.out
          subst eo24
          have p231 : 0 ≤ (x17_2 : Int) := of_decide_eq_true (by first | (with_reducible assumption) | assumption)
          have q231 : x17_2 < (x3_2.length : Int) := of_decide_eq_true (by first | (with_reducible assumption) | assumption)
          obtain ⟨ad231, A231_0, c231_0, e231, hx231_0, hl231_0, hi231_0⟩ := at_L1 (Kd.S_reads' HO_3.out).2.2 x17_2 p231 q231
          cases e231
          obtain ⟨ce231, hce231, hMe231, hcc231⟩ := Kd.S_get HO_3.out [] x17_2 p231 (by first | exact q231 | exact of_decide_eq_true (by first | (with_reducible assumption) | assumption) | (have e_ := (Kd.S_reads' HO_3.out).1; omega))
          obtain ⟨ve231_0, rfl, ge231_0⟩ := hMe231
          have hv231_0 := hcc231 0 _ rfl
          rw [Nat.add_zero, show ((Kd.slice 3 (Kd.int .i64))).sz = 1 from rfl, Nat.mul_one] at hv231_0
          replace hv231_0 := Option.some.inj (hv231_0.symm.trans hx231_0)
          rw [hv231_0] at ge231_0
          have HL231_0 := Aside0.mk (show Kd.R (Kd.int .i64) 3 _ _ _ _ (rd_L1 x3_2 x17_2) from ge231_0)
          clear hv231_0 ge231_0
          have HX231_0 := Aside0.mk hx231_0
          clear hcc231 hce231
          have HR231_0 := Aside0.mk hi231_0
          have HC231_0 := Aside0.mk hl231_0
          clear hi231_0 hl231_0
          replace p231 := eq_true p231
          replace q231 := eq_true q231
          obtain ⟨go25, co25, eo25, gb25, gl25, cl25, HG25⟩ := Kd.S_form HO_3.out (by have h_ : (x17_2 : Int) < ((x3_2.length : Int) : Int) := of_decide_eq_true (by first | (with_reducible assumption) | assumption); have h2_ : 0 ≤ (x17_2 : Int) := (of_decide_eq_true (by first | (with_reducible assumption) | assumption)); omega)
          (first | cases eo25 | (injection eo25 with ea_ en_ ec_; (first | subst ea_ | (injection ea_ with ea_; subst ea_)); subst ec_; clear en_))
          have GB25 := Aside0.mk gb25
          have GG25 := Aside0.mk HG25
          clear gb25 gl25 HG25
          (first | simp only [add_plain] at hx231_0 | skip)
          obtain ⟨oki25, ce25, hcl25, hM25, hcc25, _, _, hH25⟩ := Kd.S_elem HO_3.out [] (x17_2 : Int) (of_decide_eq_true (by first | (with_reducible assumption) | assumption)) (by have h_ : (x17_2 : Int) < ((x3_2.length : Int) : Int) := of_decide_eq_true (by first | (with_reducible assumption) | assumption); first | exact h_ | (have e_ := (Kd.S_reads' HO_3.out).1; omega) | simpa using h_)
          obtain ⟨ve25_0, rfl, ge25_0⟩ := hM25
          have hv25 := hcc25 0 _ rfl
          have hX25 := HX231_0.out
          (try simp only [add_plain] at hX25)
          (try simp only [Nat.add_zero] at hv25)
          (try rw [show ((Kd.slice 3 (Kd.int .i64))).sz = 1 from rfl, Nat.mul_one] at hv25)
          replace hv25 := Option.some.inj (hv25.symm.trans hX25)
          subst hv25
          clear hX25 hcc25 hcl25
          have UU25 := Aside0.mk (show Kd.R (Kd.int .i64) 3 _ w.heap.size oki25 (.slice A231_0 (rd_L1 x3_2 x17_2).length c231_0) (rd_L1 x3_2 x17_2) from ge25_0)
          have HH25 := Aside0.mk hH25
          have HN25 := Aside0.mk (Kd.S_reads' HO_3.out).1
          clear hH25 ge25_0
          go_wp2_with (first | ((with_reducible refine gate_builtin (b := .append) (xs := #[.tmp 34, .tmp 36]) rfl ?_); at_builtin; refine Kd.R_append (Kd.int .i64) (w0 := w) w.heap.size rfl (.tmp 34) (.tmp 36) 22 3 (.int .i64 0) 8 rfl Try.underlying22 info3 rfl (by decide) (by omega) (.slice A231_0 (rd_L1 x3_2 x17_2).length c231_0) (rd_L1 x3_2 x17_2) (rd (rd_L1 l0 x9_1) x17_2) [.int .i64 (rd (rd_L1 l0 x9_1) x17_2)] (fun k_ => oki25 k_ ∨ ((fun _ => True)) k_ ∧ wr.heap.size ≤ k_) (fun _ => False) rfl rfl ?aP (fun _ hk => hk.elim) ?aF ?aO ?aB ?aS ?aL ?_; (case aP => exact rfl); (case aB => exact (by repeat (first | (with_reducible first | exact HB.out | apply below_alloc | apply pw_below_drewN | apply below_drew1) | exact HB.out))); (case aF => exact (fun k_ hk => .inr ⟨trivial, hk⟩)); (case aO => exact (by (with_reducible repeat (first | apply Kd.R_alloc | apply Kd.R_drewN | apply Kd.R_drew)); exact Kd.R_mono UU25.out (fun _ hk => .inl hk))); (case aS => exact (below_size (by repeat (first | (with_reducible first | exact HB.out | apply below_alloc | apply pw_below_drewN | apply below_drew1) | exact HB.out)))); (case aL => have := LMc22.out; omega); intro v233 w26 ho hb hg hat; rw [← Ny232.out] at ho; have n0_ := Aside0.mk (hb); have n1_ := Aside0.mk (Kd.H_grown (Kd.H_widen (by repeat (first | exact HH25.out | refine Kd.H_alloc ?_ _ | refine Kd.H_drewN ?_ _ | refine Kd.H_drew ?_))) hg (fun k_ e_ => .inl (UU25.out.1 k_ e_))); have n2_ := Aside0.mk (ho); clear HB; clear HH25; clear HO_3; clear UU25; clear HL231_0; have HB := n0_; have HH25 := n1_; have HO234 := n2_; clear n0_ n1_ n2_; clear ho hb hg hat; have p23 : 0 ≤ (x17_2 : Int) := of_decide_eq_true (by first | (with_reducible assumption) | assumption); have q23 : (x17_2 : Int) < ((x3_2.length : Int) : Int) := of_decide_eq_true (by first | (with_reducible assumption) | assumption); replace p23 := eq_true p23; replace q23 := eq_true q23; obtain ⟨Ao29, co29, eo29⟩ := Kd.R_slice HO234.out; subst eo29; obtain ⟨_, _, hraw27, _, _, hcc27, _⟩ := Kd.H_raw HH25.out (of_decide_eq_true (by first | (with_reducible assumption) | assumption)) (by have h_ : (x17_2 : Int) < ((x3_2.length : Int) : Int) := of_decide_eq_true (by first | (with_reducible assumption) | assumption); first | exact h_ | (have e_ := (HN25.out); omega) | simpa using h_); obtain ⟨_, hfr27⟩ := Kd.H_at HH25.out (of_decide_eq_true (by first | (with_reducible assumption) | assumption)) (by have h_ : (x17_2 : Int) < ((x3_2.length : Int) : Int) := of_decide_eq_true (by first | (with_reducible assumption) | assumption); first | exact h_ | (have e_ := (HN25.out); omega) | simpa using h_); have hx27_0 := hcc27 0 _ rfl; have hf27_0 := hfr27 0; (try simp only [Nat.add_zero] at hx27_0 hf27_0); (try rw [show ((Kd.slice 3 (Kd.int .i64))).sz = 1 from rfl, Nat.mul_one] at hx27_0); (try rw [show ((Kd.slice 3 (Kd.int .i64))).sz = 1 from rfl, Nat.mul_one] at hf27_0); have HP27 := Kd.S_seg0 HH25.out (of_decide_eq_true (by first | (with_reducible assumption) | assumption)) (by have h_ : (x17_2 : Int) < ((x3_2.length : Int) : Int) := of_decide_eq_true (by first | (with_reducible assumption) | assumption); first | exact h_ | (have e_ := (HN25.out); omega) | simpa using h_) (seg := [.slice Ao29 y232.length co29]) (j := 0) (show 1 ≤ 1 from by decide) (x' := y232) (Kd.M_row HO234.out) (fun _ hk => hk); (try simp only [show ((Kd.slice 3 (Kd.int .i64))).sz = 1 from rfl, Nat.mul_one, Nat.add_zero] at HP27); clear hcc27 hfr27) | ((with_reducible refine gate_store (t := 22) (p := 38) rfl ?_); refine store_event (t := 22) (p := 38) (v := ?vo_w28) (w1 := (w26.setCell ⟨go25, (x17_2 : Int).toNat, none⟩ (.slice Ao29 y232.length co29))) ?hg ?ho ?hn ?hr ?_; (case ho => rfl); (case hg => rfl); (case hn => rfl); (case hr => first | (go_simp; done) | (go_simp; rfl)); intro w28 hw; have hg : w26.grownBy w28 (some go25) := (by rw [hw]; exact HP27.2); have hp_ : Kd.S (Kd.slice 3 (Kd.int .i64)) 22 w28 w.heap.size (fun _ => True) (.slice (some ⟨go25, 0, none⟩) x3_2.length co24) y235 := (by rw [hw, Ny235.out]; exact HP27.1); clear HP27; have n0_ := Aside0.mk ((by rw [hw]; exact below_set HB.out GB25.out : Below w.heap.size w w28)); have n1_ := Aside0.mk (hp_); clear HB; clear HO234; clear HH25; have HB := n0_; have HO_3 := n1_; clear n0_ n1_; clear hg hw hp_ hraw27))
          go_roundg k2
          case measure => have := HK1.out; have := HK2.out; omega
          case rel => exact ⟨(y235), (wrap64 (x17_2 + 1)), (by first | rfl | (simp; done) | (simp [*]; done)), H', ⟨by have := HK1.out; have := HK2.out; omega⟩, ⟨by (with_reducible repeat (first | apply Kd.S_alloc | apply Kd.S_drewN | apply Kd.S_drew)); exact HO_3.out⟩, ⟨by repeat (first | (with_reducible first | exact HB.out | apply below_alloc | apply pw_below_drewN | apply below_drew1) | exact HB.out)⟩⟩
        rw [if_neg c5] at H
        have c5b0 : decide (x17_2 < ((rd_L1 l0 x9_1).length : Int)) = false := decide_eq_false c5
        clear c5
        have H' := Aside0.mk H
        clear H
        go_wp2
        go_roundg k2
        case measure => have := HK1.out; have := HK2.out; omega
        case rel => exact ⟨(x3_2), (wrap64 (x9_1 + 1)), (by first | rfl | (simp; done) | (simp [*]; done)), H', ⟨by have := HK1.out; have := HK2.out; omega⟩, ⟨by (with_reducible repeat (first | apply Kd.S_alloc | apply Kd.S_drewN | apply Kd.S_drew)); exact HO_3.out⟩, ⟨by repeat (first | (with_reducible first | exact HB.out | apply below_alloc | apply pw_below_drewN | apply below_drew1) | exact HB.out)⟩⟩
    rw [if_neg c2] at H
    have c2b0 : decide (x9_1 < (l0.length : Int)) = false := decide_eq_false c2
    clear c2
    obtain rfl := Option.some.inj H
    go_wp2
    go_ret
    exact ⟨_, by first | rfl | (simp [errW_none, errW_some] <;> rfl) | (simp [*, errW_none, errW_some] <;> rfl), by (with_reducible repeat (first | apply Kd.S_alloc | apply Kd.S_drewN | apply Kd.S_drew)); exact HO_3.out, by repeat (first | (with_reducible first | exact HB.out | apply below_alloc | apply pw_below_drewN | apply below_drew1) | exact HB.out)⟩

/-! ### marblerunref01_SameInts: function 40 -/
def marblerunref01_SameInts.l0 : Nat → List Int → List Int → Int → Option (Bool)
  | 0, _, _, _ => none
  | k + 1, x0, x1, x5 => if x5 < (x0.length : Int) then (if 0 ≤ x5 then (if x5 < (x1.length : Int) then (if (rd x0 x5) = (rd x1 x5) then (marblerunref01_SameInts.l0 k x0 x1 (wrap64 (x5 + 1))) else (some false)) else (none)) else (none)) else (some true)
def marblerunref01_SameInts.f (k : Nat) (l0 : List Int) (l1 : List Int) : Option (Bool) := if (l0.length : Int) = (l1.length : Int) then (marblerunref01_SameInts.l0 k l0 l1 0) else (some false)
theorem marblerunref01_SameInts.mono_l : ∀ k, (∀ y0 y1 y2, LeO (marblerunref01_SameInts.l0 k y0 y1 y2) (marblerunref01_SameInts.l0 (k + 1) y0 y1 y2))
  | 0 => fun _ _ _ r h => by simp [marblerunref01_SameInts.l0] at h
  | k + 1 => by
    have ih0 := marblerunref01_SameInts.mono_l k
    · intro y0 y1 y2
      unfold marblerunref01_SameInts.l0
      repeat' first
      | (with_reducible exact ih0 _ _ _)
      | (with_reducible exact LeO.refl _)
      | (with_reducible exact LeO.none _)
      | (with_reducible refine LeO.ite ?_ ?_)
      | (with_reducible refine LeO.bind ?_ (fun _ => ?_))
      | exact ih0 _ _ _
      | exact LeO.none _
      | refine LeO.ite ?_ ?_
      | refine LeO.bind ?_ (fun _ => ?_)
theorem marblerunref01_SameInts.mono : ∀ a0 a1 k, LeO (marblerunref01_SameInts.f k a0 a1) (marblerunref01_SameInts.f (k + 1) a0 a1) := by
  intro a0 a1 k
  have ih0 := marblerunref01_SameInts.mono_l k
  unfold marblerunref01_SameInts.f
  repeat' first
      | (with_reducible exact ih0 _ _ _)
      | (with_reducible exact LeO.refl _)
      | (with_reducible exact LeO.none _)
      | (with_reducible refine LeO.ite ?_ ?_)
      | (with_reducible refine LeO.bind ?_ (fun _ => ?_))
      | exact ih0 _ _ _
      | exact LeO.none _
      | refine LeO.ite ?_ ?_
      | refine LeO.bind ?_ (fun _ => ?_)
set_option maxHeartbeats 8000000 in
set_option maxRecDepth 100000 in
theorem marblerunref01_SameInts.calls (k : Nat) (A0 : Option Addr) (c0 : Nat) (l0 : List Int) (A1 : Option Addr) (c1 : Nat) (l1 : List Int) (r : Bool) (w : World) (hr0 : Kd.C (Kd.int .i64) w A0 l0.length l0) (hc0 : l0.length ≤ c0) (hr1 : Kd.C (Kd.int .i64) w A1 l1.length l1) (hc1 : l1.length ≤ c1) (h : marblerunref01_SameInts.f k l0 l1 = some r) :
    Calls Try.prog 40 #[.slice A0 l0.length c0, .slice A1 l1.length c1] w fun e w' => e = .returned (.bool r) ∧ Drawn0 w w' := by
  have HR0 := Aside0.mk hr0
  have HC0 := Aside0.mk hc0
  clear hr0 hc0
  have HR1 := Aside0.mk hr1
  have HC1 := Aside0.mk hc1
  clear hr1 hc1
  have H : (if (l0.length : Int) = (l1.length : Int) then (marblerunref01_SameInts.l0 k l0 l1 0) else (some false)) = some r := h
  clear h
  by_cases c3 : (l0.length : Int) = (l1.length : Int)
  · rw [if_pos c3] at H
    have c3b0 : ((l0.length : Int) == (l1.length : Int)) = true := beq_iff_eq.mpr c3
    have c3b1 : ((l0.length : Int) != (l1.length : Int)) = false := bne_eq_false_iff_eq.mpr c3
    have c3b2 : (l0.length == l1.length) = true := by first | simpa using c3 | (simp at c3 ⊢; omega)
    clear c3
    have H' := Aside0.mk H
    clear H
    go_enter Try.func40, Try.ntmps40
    go_wp2
    repeat (go_quiet (fail); try go_wp2)
    go_loopg [5] k (fun kq v5 w' => ∃ (x5_1 : Int), v5 = .int .i64 x5_1 ∧ Aside0 (marblerunref01_SameInts.l0 kq l0 l1 x5_1 = some r) ∧ Aside0 (kq ≤ k) ∧ Drawn0 w w')
    case atStart => exact ⟨(0), (by first | rfl | (simp; done) | (simp [*]; done)), H', ⟨Nat.le_refl _⟩, by repeat (first | exact Drawn0.refl _ | apply Drawn0.step)⟩
    clear H'
    try clear c1
    try clear p2
    try clear c3
    try clear c3b0
    try clear c3b1
    try clear c3b2
    obtain ⟨x5_1, rfl, HA, HK1, ⟨m1, rfl⟩⟩ := hrel
    cases gk with
    | zero => exact absurd HA.out (by simp [marblerunref01_SameInts.l0])
    | succ k1 =>
      have H := HA.out
      clear HA
      simp only [marblerunref01_SameInts.l0] at H
      by_cases c4 : x5_1 < (l0.length : Int)
      · rw [if_pos c4] at H
        have c4b0 : decide (x5_1 < (l0.length : Int)) = true := decide_eq_true c4
        clear c4
        by_cases c5 : 0 ≤ x5_1
        case neg => rw [if_neg c5] at H; exact absurd H (by simp)
        rw [if_pos c5] at H
        have c5b0 : decide (0 ≤ x5_1) = true := decide_eq_true c5
        clear c5
        by_cases c6 : x5_1 < (l1.length : Int)
        case neg => rw [if_neg c6] at H; exact absurd H (by simp)
        rw [if_pos c6] at H
        have c6b0 : decide (x5_1 < (l1.length : Int)) = true := decide_eq_true c6
        clear c6
        by_cases c7 : (rd l0 x5_1) = (rd l1 x5_1)
        · rw [if_pos c7] at H
          have c7b0 : ((rd l0 x5_1) == (rd l1 x5_1)) = true := beq_iff_eq.mpr c7
          have c7b1 : ((rd l0 x5_1) != (rd l1 x5_1)) = false := bne_eq_false_iff_eq.mpr c7
          clear c7
          have H' := Aside0.mk H
          clear H
          have p236 : 0 ≤ (x5_1 : Int) := of_decide_eq_true (by first | (with_reducible assumption) | assumption)
          have q236 : x5_1 < (l0.length : Int) := of_decide_eq_true (by first | (with_reducible assumption) | assumption)
          obtain ⟨ad236, e236, hx236_0⟩ := Kd.at_int HR0.out x5_1 p236 q236
          cases e236
          replace p236 := eq_true p236
          replace q236 := eq_true q236
          have p237 : 0 ≤ (x5_1 : Int) := of_decide_eq_true (by first | (with_reducible assumption) | assumption)
          have q237 : x5_1 < (l1.length : Int) := of_decide_eq_true (by first | (with_reducible assumption) | assumption)
          obtain ⟨ad237, e237, hx237_0⟩ := Kd.at_int HR1.out x5_1 p237 q237
          cases e237
          replace p237 := eq_true p237
          replace q237 := eq_true q237
          go_wp2
          repeat (go_quiet (fail); try go_wp2)
          go_roundg k1
          case measure => have := HK1.out; omega
          case rel => exact ⟨(wrap64 (x5_1 + 1)), (by first | rfl | (simp; done) | (simp [*]; done)), H', ⟨by have := HK1.out; omega⟩, by repeat (first | exact Drawn0.refl _ | apply Drawn0.step)⟩
        rw [if_neg c7] at H
        have c7b0 : ((rd l0 x5_1) == (rd l1 x5_1)) = false := beq_eq_false_iff_ne.mpr c7
        have c7b1 : ((rd l0 x5_1) != (rd l1 x5_1)) = true := bne_iff_ne.mpr c7
        obtain rfl := Option.some.inj H
        have p236 : 0 ≤ (x5_1 : Int) := of_decide_eq_true (by first | (with_reducible assumption) | assumption)
        have q236 : x5_1 < (l0.length : Int) := of_decide_eq_true (by first | (with_reducible assumption) | assumption)
        obtain ⟨ad236, e236, hx236_0⟩ := Kd.at_int HR0.out x5_1 p236 q236
        cases e236
        replace p236 := eq_true p236
        replace q236 := eq_true q236
        have p237 : 0 ≤ (x5_1 : Int) := of_decide_eq_true (by first | (with_reducible assumption) | assumption)
        have q237 : x5_1 < (l1.length : Int) := of_decide_eq_true (by first | (with_reducible assumption) | assumption)
        obtain ⟨ad237, e237, hx237_0⟩ := Kd.at_int HR1.out x5_1 p237 q237
        cases e237
        replace p237 := eq_true p237
        replace q237 := eq_true q237
        go_wp2
        repeat (go_quiet (fail); try go_wp2)
        go_ret
        exact ⟨by first | rfl | (simp; done) | (simp [*]; done), by repeat (first | exact Drawn0.refl _ | apply Drawn0.step)⟩
      rw [if_neg c4] at H
      have c4b0 : decide (x5_1 < (l0.length : Int)) = false := decide_eq_false c4
      clear c4
      obtain rfl := Option.some.inj H
      go_wp2
      repeat (go_quiet (fail); try go_wp2)
      go_ret
      exact ⟨by first | rfl | (simp; done) | (simp [*]; done), by repeat (first | exact Drawn0.refl _ | apply Drawn0.step)⟩
  rw [if_neg c3] at H
  have c3b0 : ((l0.length : Int) == (l1.length : Int)) = false := beq_eq_false_iff_ne.mpr c3
  have c3b1 : ((l0.length : Int) != (l1.length : Int)) = true := bne_iff_ne.mpr c3
  have c3b2 : (l0.length == l1.length) = false := by first | simpa using c3 | (simp at c3 ⊢; omega)
  obtain rfl := Option.some.inj H
  go_enter Try.func40, Try.ntmps40
  go_wp2
  repeat (go_quiet (fail); try go_wp2)
  go_ret
  exact ⟨by first | rfl | (simp; done) | (simp [*]; done), by repeat (first | exact Drawn0.refl _ | apply Drawn0.step)⟩

/-! ### marblerunref01_Same: function 20 -/
def marblerunref01_Same.l0 : Nat → List (List Int) → List (List Int) → Int → Option (Bool)
  | 0, _, _, _ => none
  | k + 1, x0, x1, x5 => if x5 < (x0.length : Int) then (if 0 ≤ x5 then (if x5 < (x1.length : Int) then ((marblerunref01_SameInts.f k (rd_L1 x0 x5) (rd_L1 x1 x5)).bind fun t240 => (if t240 = true then (marblerunref01_Same.l0 k x0 x1 (wrap64 (x5 + 1))) else (some false))) else (none)) else (none)) else (some true)
def marblerunref01_Same.f (k : Nat) (l0 : List (List Int)) (l1 : List (List Int)) : Option (Bool) := if (l0.length : Int) = (l1.length : Int) then (marblerunref01_Same.l0 k l0 l1 0) else (some false)
theorem marblerunref01_Same.mono_l : ∀ k, (∀ y0 y1 y2, LeO (marblerunref01_Same.l0 k y0 y1 y2) (marblerunref01_Same.l0 (k + 1) y0 y1 y2))
  | 0 => fun _ _ _ r h => by simp [marblerunref01_Same.l0] at h
  | k + 1 => by
    have ih0 := marblerunref01_Same.mono_l k
    · intro y0 y1 y2
      unfold marblerunref01_Same.l0
      repeat' first
      | (with_reducible exact ih0 _ _ _)
      | (with_reducible exact marblerunref01_SameInts.mono _ _ _)
      | (with_reducible exact LeO.refl _)
      | (with_reducible exact LeO.none _)
      | (with_reducible refine LeO.ite ?_ ?_)
      | (with_reducible refine LeO.bind ?_ (fun _ => ?_))
      | exact ih0 _ _ _
      | exact marblerunref01_SameInts.mono _ _ _
      | exact LeO.none _
      | refine LeO.ite ?_ ?_
      | refine LeO.bind ?_ (fun _ => ?_)
theorem marblerunref01_Same.mono : ∀ a0 a1 k, LeO (marblerunref01_Same.f k a0 a1) (marblerunref01_Same.f (k + 1) a0 a1) := by
  intro a0 a1 k
  have ih0 := marblerunref01_Same.mono_l k
  unfold marblerunref01_Same.f
  repeat' first
      | (with_reducible exact ih0 _ _ _)
      | (with_reducible exact marblerunref01_SameInts.mono _ _ _)
      | (with_reducible exact LeO.refl _)
      | (with_reducible exact LeO.none _)
      | (with_reducible refine LeO.ite ?_ ?_)
      | (with_reducible refine LeO.bind ?_ (fun _ => ?_))
      | exact ih0 _ _ _
      | exact marblerunref01_SameInts.mono _ _ _
      | exact LeO.none _
      | refine LeO.ite ?_ ?_
      | refine LeO.bind ?_ (fun _ => ?_)
set_option maxHeartbeats 8000000 in
set_option maxRecDepth 100000 in
theorem marblerunref01_Same.calls (k : Nat) (A0 : Option Addr) (c0 : Nat) (l0 : List (List Int)) (A1 : Option Addr) (c1 : Nat) (l1 : List (List Int)) (r : Bool) (w : World) (hr0 : Kd.C (Kd.slice 3 (Kd.int .i64)) w A0 l0.length l0) (hc0 : l0.length ≤ c0) (hr1 : Kd.C (Kd.slice 3 (Kd.int .i64)) w A1 l1.length l1) (hc1 : l1.length ≤ c1) (h : marblerunref01_Same.f k l0 l1 = some r) :
    Calls Try.prog 20 #[.slice A0 l0.length c0, .slice A1 l1.length c1] w fun e w' => e = .returned (.bool r) ∧ Drawn0 w w' := by
  have HR0 := Aside0.mk hr0
  have HC0 := Aside0.mk hc0
  clear hr0 hc0
  have HR1 := Aside0.mk hr1
  have HC1 := Aside0.mk hc1
  clear hr1 hc1
  have H : (if (l0.length : Int) = (l1.length : Int) then (marblerunref01_Same.l0 k l0 l1 0) else (some false)) = some r := h
  clear h
  by_cases c3 : (l0.length : Int) = (l1.length : Int)
  · rw [if_pos c3] at H
    have c3b0 : ((l0.length : Int) == (l1.length : Int)) = true := beq_iff_eq.mpr c3
    have c3b1 : ((l0.length : Int) != (l1.length : Int)) = false := bne_eq_false_iff_eq.mpr c3
    have c3b2 : (l0.length == l1.length) = true := by first | simpa using c3 | (simp at c3 ⊢; omega)
    clear c3
    have H' := Aside0.mk H
    clear H
    go_enter Try.func20, Try.ntmps20
    go_wp2
    repeat (go_quiet (fail); try go_wp2)
    go_loopg [5] k (fun kq v5 w' => ∃ (x5_1 : Int), v5 = .int .i64 x5_1 ∧ Aside0 (marblerunref01_Same.l0 kq l0 l1 x5_1 = some r) ∧ Aside0 (kq ≤ k) ∧ Drawn0 w w')
    case atStart => exact ⟨(0), (by first | rfl | (simp; done) | (simp [*]; done)), H', ⟨Nat.le_refl _⟩, by repeat (first | exact Drawn0.refl _ | apply Drawn0.step)⟩
    clear H'
    try clear c1
    try clear c2
    try clear p2
    try clear c3
    try clear c3b0
    try clear c3b1
    try clear c3b2
    obtain ⟨x5_1, rfl, HA, HK1, ⟨m1, rfl⟩⟩ := hrel
    cases gk with
    | zero => exact absurd HA.out (by simp [marblerunref01_Same.l0])
    | succ k1 =>
      have H := HA.out
      clear HA
      simp only [marblerunref01_Same.l0] at H
      by_cases c4 : x5_1 < (l0.length : Int)
      · rw [if_pos c4] at H
        have c4b0 : decide (x5_1 < (l0.length : Int)) = true := decide_eq_true c4
        clear c4
        by_cases c5 : 0 ≤ x5_1
        case neg => rw [if_neg c5] at H; exact absurd H (by simp)
        rw [if_pos c5] at H
        have c5b0 : decide (0 ≤ x5_1) = true := decide_eq_true c5
        clear c5
        by_cases c6 : x5_1 < (l1.length : Int)
        case neg => rw [if_neg c6] at H; exact absurd H (by simp)
        rw [if_pos c6] at H
        have c6b0 : decide (x5_1 < (l1.length : Int)) = true := decide_eq_true c6
        clear c6
        replace H := Option.bind_eq_some_iff.mp H
        obtain ⟨t240, A70, H⟩ := H
        replace H : (if t240 = true then (marblerunref01_Same.l0 k1 l0 l1 (wrap64 (x5_1 + 1))) else (some false)) = some r := H
        have A7 := Aside0.mk A70
        clear A70
        by_cases c8 : t240 = true
        · subst c8
          have H1 : (marblerunref01_Same.l0 k1 l0 l1 (wrap64 (x5_1 + 1))) = some r := by rw [if_pos rfl] at H; exact H
          clear H
          have H := H1
          clear H1
          have H' := Aside0.mk H
          clear H
          have p238 : 0 ≤ (x5_1 : Int) := of_decide_eq_true (by first | (with_reducible assumption) | assumption)
          have q238 : x5_1 < (l0.length : Int) := of_decide_eq_true (by first | (with_reducible assumption) | assumption)
          obtain ⟨ad238, A238_0, c238_0, e238, hx238_0, hl238_0, hi238_0⟩ := at_L1 HR0.out x5_1 p238 q238
          cases e238
          have HR238_0 := Aside0.mk hi238_0
          have HC238_0 := Aside0.mk hl238_0
          clear hi238_0 hl238_0
          replace p238 := eq_true p238
          replace q238 := eq_true q238
          have p239 : 0 ≤ (x5_1 : Int) := of_decide_eq_true (by first | (with_reducible assumption) | assumption)
          have q239 : x5_1 < (l1.length : Int) := of_decide_eq_true (by first | (with_reducible assumption) | assumption)
          obtain ⟨ad239, A239_0, c239_0, e239, hx239_0, hl239_0, hi239_0⟩ := at_L1 HR1.out x5_1 p239 q239
          cases e239
          have HR239_0 := Aside0.mk hi239_0
          have HC239_0 := Aside0.mk hl239_0
          clear hi239_0 hl239_0
          replace p239 := eq_true p239
          replace q239 := eq_true q239
          iterate 3 ((try go_quiet (first | (go_at_call 40; (with_reducible refine (marblerunref01_SameInts.calls k1 _ _ (rd_L1 l0 x5_1) _ _ (rd_L1 l1 x5_1) true _ ?side1 ?side2 ?side3 ?side4 A7.out).mono ?_); (case side1 => repeat (first | exact HR238_0.out | (with_reducible refine Kd.C_alloc ?_ _) | (with_reducible refine Kd.C_drewN ?_ _) | (with_reducible refine Kd.C_drew ?_))); (case side2 => exact HC238_0.out); (case side3 => repeat (first | exact HR239_0.out | (with_reducible refine Kd.C_alloc ?_ _) | (with_reducible refine Kd.C_drewN ?_ _) | (with_reducible refine Kd.C_drew ?_))); (case side4 => exact HC239_0.out); rintro e w' ⟨rfl, ⟨nd, rfl⟩⟩; (try first | exact ⟨rfl, _, World.drewN_drewN _ _ _⟩ | exact ⟨rfl, _, Eq.trans (World.drewN_drewN _ _ _) (congrArg (World.drewN _) (Nat.add_assoc _ _ _))⟩)))); go_wp2_with (first | (go_at_call 40; (with_reducible refine (marblerunref01_SameInts.calls k1 _ _ (rd_L1 l0 x5_1) _ _ (rd_L1 l1 x5_1) true _ ?side1 ?side2 ?side3 ?side4 A7.out).mono ?_); (case side1 => repeat (first | exact HR238_0.out | (with_reducible refine Kd.C_alloc ?_ _) | (with_reducible refine Kd.C_drewN ?_ _) | (with_reducible refine Kd.C_drew ?_))); (case side2 => exact HC238_0.out); (case side3 => repeat (first | exact HR239_0.out | (with_reducible refine Kd.C_alloc ?_ _) | (with_reducible refine Kd.C_drewN ?_ _) | (with_reducible refine Kd.C_drew ?_))); (case side4 => exact HC239_0.out); rintro e w' ⟨rfl, ⟨nd, rfl⟩⟩; (try first | exact ⟨rfl, _, World.drewN_drewN _ _ _⟩ | exact ⟨rfl, _, Eq.trans (World.drewN_drewN _ _ _) (congrArg (World.drewN _) (Nat.add_assoc _ _ _))⟩))))
          go_roundg k1
          case measure => have := HK1.out; omega
          case rel => exact ⟨(wrap64 (x5_1 + 1)), (by first | rfl | (simp; done) | (simp [*]; done)), H', ⟨by have := HK1.out; omega⟩, by repeat (first | exact Drawn0.refl _ | apply Drawn0.step)⟩
        replace c8 := Bool.eq_false_iff.mpr c8
        subst c8
        have H1 : (some false) = some r := by rw [if_neg (show ¬ (false = true) by decide)] at H; exact H
        clear H
        have H := H1
        clear H1
        obtain rfl := Option.some.inj H
        have p238 : 0 ≤ (x5_1 : Int) := of_decide_eq_true (by first | (with_reducible assumption) | assumption)
        have q238 : x5_1 < (l0.length : Int) := of_decide_eq_true (by first | (with_reducible assumption) | assumption)
        obtain ⟨ad238, A238_0, c238_0, e238, hx238_0, hl238_0, hi238_0⟩ := at_L1 HR0.out x5_1 p238 q238
        cases e238
        have HR238_0 := Aside0.mk hi238_0
        have HC238_0 := Aside0.mk hl238_0
        clear hi238_0 hl238_0
        replace p238 := eq_true p238
        replace q238 := eq_true q238
        have p239 : 0 ≤ (x5_1 : Int) := of_decide_eq_true (by first | (with_reducible assumption) | assumption)
        have q239 : x5_1 < (l1.length : Int) := of_decide_eq_true (by first | (with_reducible assumption) | assumption)
        obtain ⟨ad239, A239_0, c239_0, e239, hx239_0, hl239_0, hi239_0⟩ := at_L1 HR1.out x5_1 p239 q239
        cases e239
        have HR239_0 := Aside0.mk hi239_0
        have HC239_0 := Aside0.mk hl239_0
        clear hi239_0 hl239_0
        replace p239 := eq_true p239
        replace q239 := eq_true q239
        iterate 3 ((try go_quiet (first | (go_at_call 40; (with_reducible refine (marblerunref01_SameInts.calls k1 _ _ (rd_L1 l0 x5_1) _ _ (rd_L1 l1 x5_1) false _ ?side1 ?side2 ?side3 ?side4 A7.out).mono ?_); (case side1 => repeat (first | exact HR238_0.out | (with_reducible refine Kd.C_alloc ?_ _) | (with_reducible refine Kd.C_drewN ?_ _) | (with_reducible refine Kd.C_drew ?_))); (case side2 => exact HC238_0.out); (case side3 => repeat (first | exact HR239_0.out | (with_reducible refine Kd.C_alloc ?_ _) | (with_reducible refine Kd.C_drewN ?_ _) | (with_reducible refine Kd.C_drew ?_))); (case side4 => exact HC239_0.out); rintro e w' ⟨rfl, ⟨nd, rfl⟩⟩; (try first | exact ⟨rfl, _, World.drewN_drewN _ _ _⟩ | exact ⟨rfl, _, Eq.trans (World.drewN_drewN _ _ _) (congrArg (World.drewN _) (Nat.add_assoc _ _ _))⟩)))); go_wp2_with (first | (go_at_call 40; (with_reducible refine (marblerunref01_SameInts.calls k1 _ _ (rd_L1 l0 x5_1) _ _ (rd_L1 l1 x5_1) false _ ?side1 ?side2 ?side3 ?side4 A7.out).mono ?_); (case side1 => repeat (first | exact HR238_0.out | (with_reducible refine Kd.C_alloc ?_ _) | (with_reducible refine Kd.C_drewN ?_ _) | (with_reducible refine Kd.C_drew ?_))); (case side2 => exact HC238_0.out); (case side3 => repeat (first | exact HR239_0.out | (with_reducible refine Kd.C_alloc ?_ _) | (with_reducible refine Kd.C_drewN ?_ _) | (with_reducible refine Kd.C_drew ?_))); (case side4 => exact HC239_0.out); rintro e w' ⟨rfl, ⟨nd, rfl⟩⟩; (try first | exact ⟨rfl, _, World.drewN_drewN _ _ _⟩ | exact ⟨rfl, _, Eq.trans (World.drewN_drewN _ _ _) (congrArg (World.drewN _) (Nat.add_assoc _ _ _))⟩))))
        go_ret
        exact ⟨by first | rfl | (simp; done) | (simp [*]; done), by repeat (first | exact Drawn0.refl _ | apply Drawn0.step)⟩
      rw [if_neg c4] at H
      have c4b0 : decide (x5_1 < (l0.length : Int)) = false := decide_eq_false c4
      clear c4
      obtain rfl := Option.some.inj H
      go_wp2
      repeat (go_quiet (fail); try go_wp2)
      go_ret
      exact ⟨by first | rfl | (simp; done) | (simp [*]; done), by repeat (first | exact Drawn0.refl _ | apply Drawn0.step)⟩
  rw [if_neg c3] at H
  have c3b0 : ((l0.length : Int) == (l1.length : Int)) = false := beq_eq_false_iff_ne.mpr c3
  have c3b1 : ((l0.length : Int) != (l1.length : Int)) = true := bne_iff_ne.mpr c3
  have c3b2 : (l0.length == l1.length) = false := by first | simpa using c3 | (simp at c3 ⊢; omega)
  obtain rfl := Option.some.inj H
  go_enter Try.func20, Try.ntmps20
  go_wp2
  repeat (go_quiet (fail); try go_wp2)
  go_ret
  exact ⟨by first | rfl | (simp; done) | (simp [*]; done), by repeat (first | exact Drawn0.refl _ | apply Drawn0.step)⟩

end Go.Proofs.Ytigpmhicdmjbeaa.PMatrixOf
