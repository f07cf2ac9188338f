/- What the functions that this law reaches answer, in whatever memory, and the row of the law; no condition. Written by a program of this session (mk.sh). -/
import Derived.Test.YtigpmhicdmjbeaaPMatrixZerosx0
import Derived.Test.YtigpmhicdmjbeaaPMatrixZerosx2
namespace Go.Proofs.Ytigpmhicdmjbeaa.PMatrixZeros
open Go.RowKit Go.Proofs.YtigpmhicdmjbeaaW.PrintWords Go.Proofs.YtigpmhicdmjbeaaW.PrintLast Go.Proofs.YtigpmhicdmjbeaaW.PrintMore
attribute [local go_sem] max2_int min2_int max_two min_two max_three min_three max_four min_four   -- for this text's walks alone
set_option linter.unusedVariables false
set_option linter.unusedSimpArgs false

/-! ### marblerunlaw11_MatrixZeros: function 3 -/
mutual
def marblerunlaw11_MatrixZeros.j0 : Nat → List Int → Int → Bool → Option (Bool)
  | 0, _, _, _ => none
  | k + 1, x0, x1, x14 => if x14 = true then ((marblerunlaw11_awake.f k).bind fun t172 => (some t172)) else (marblerunlaw11_MatrixZeros.l0 k x0 x1 true 0)
def marblerunlaw11_MatrixZeros.l0 : Nat → List Int → Int → Bool → Int → Option (Bool)
  | 0, _, _, _, _ => none
  | k + 1, x0, x1, x5, x6 => if x6 < (x0.length : Int) then (if x5 = true then (if 0 ≤ x6 then (marblerunlaw11_MatrixZeros.l0 k x0 x1 ((rd x0 x6) == 0) (wrap64 (x6 + 1))) else (none)) else (marblerunlaw11_MatrixZeros.l0 k x0 x1 false (wrap64 (x6 + 1)))) else (if 0 ≤ (wrap64 (Int.tmod x1 9)) then (if (wrap64 (Int.tmod x1 9) : Int).toNat ≤ 35184372088832 then ((some (List.replicate (wrap64 (Int.tmod x1 9) : Int).toNat 0 : List Int)).bind fun y174 => ((matrix_Zero.f k x0).bind fun t177 => (if (t177 != x5) = true then (marblerunlaw11_MatrixZeros.j2 k x1 y174 true) else ((matrix_Zero.f k y174).bind fun t178 => (if t178 = true then ((matrix_Zero.f k ([] : List Int)).bind fun t179 => (marblerunlaw11_MatrixZeros.j2 k x1 y174 (!t179))) else (marblerunlaw11_MatrixZeros.j2 k x1 y174 true)))))) else (none)) else (none))
def marblerunlaw11_MatrixZeros.j2 : Nat → Int → List Int → Bool → Option (Bool)
  | 0, _, _, _ => none
  | k + 1, x1, x7, x46 => if x46 = true then (some false) else (if (x7.length : Int) > 0 then (if (x7.length : Int) = 0 then (none) else (if 0 ≤ (Int.tmod (wrap64 (x1)) (x7.length : Int)) then (if (Int.tmod (wrap64 (x1)) (x7.length : Int)) < (x7.length : Int) then ((matrix_Zero.f k (x7.set ((Int.tmod (wrap64 (x1)) (x7.length : Int)) : Int).toNat (-1))).bind fun t181 => (some (!t181))) else (none)) else (none))) else (some true))
end
def marblerunlaw11_MatrixZeros.f (k : Nat) (l0 : List Int) (a1 : Int) : Option (Bool) := (marblerunlaw11_awake.f k).bind fun t171 => (if t171 = true then (marblerunlaw11_MatrixZeros.j0 k l0 a1 (decide ((l0.length : Int) > 20))) else (marblerunlaw11_MatrixZeros.j0 k l0 a1 true))
theorem marblerunlaw11_MatrixZeros.mono_l : ∀ k, (∀ y0 y1 y2, LeO (marblerunlaw11_MatrixZeros.j0 k y0 y1 y2) (marblerunlaw11_MatrixZeros.j0 (k + 1) y0 y1 y2)) ∧ (∀ y0 y1 y2 y3, LeO (marblerunlaw11_MatrixZeros.l0 k y0 y1 y2 y3) (marblerunlaw11_MatrixZeros.l0 (k + 1) y0 y1 y2 y3)) ∧ (∀ y0 y1 y2, LeO (marblerunlaw11_MatrixZeros.j2 k y0 y1 y2) (marblerunlaw11_MatrixZeros.j2 (k + 1) y0 y1 y2))
  | 0 => ⟨fun _ _ _ r h => by simp [marblerunlaw11_MatrixZeros.j0] at h, fun _ _ _ _ r h => by simp [marblerunlaw11_MatrixZeros.l0] at h, fun _ _ _ r h => by simp [marblerunlaw11_MatrixZeros.j2] at h⟩
  | k + 1 => by
    obtain ⟨ih0, ih1, ih2⟩ := marblerunlaw11_MatrixZeros.mono_l k
    refine ⟨?_, ?_, ?_⟩
    · intro y0 y1 y2
      unfold marblerunlaw11_MatrixZeros.j0
      repeat' first
      | (with_reducible exact ih0 _ _ _)
      | (with_reducible exact ih1 _ _ _ _)
      | (with_reducible exact ih2 _ _ _)
      | (with_reducible exact marblerunlaw11_awake.mono _)
      | (with_reducible exact matrix_Zero.mono _ _)
      | (with_reducible exact LeO.refl _)
      | (with_reducible exact LeO.none _)
      | (with_reducible refine LeO.ite ?_ ?_)
      | (with_reducible refine LeO.bind ?_ (fun _ => ?_))
      | exact ih0 _ _ _
      | exact ih1 _ _ _ _
      | exact ih2 _ _ _
      | exact marblerunlaw11_awake.mono _
      | exact matrix_Zero.mono _ _
      | exact LeO.none _
      | refine LeO.ite ?_ ?_
      | refine LeO.bind ?_ (fun _ => ?_)
    · intro y0 y1 y2 y3
      unfold marblerunlaw11_MatrixZeros.l0
      repeat' first
      | (with_reducible exact ih0 _ _ _)
      | (with_reducible exact ih1 _ _ _ _)
      | (with_reducible exact ih2 _ _ _)
      | (with_reducible exact marblerunlaw11_awake.mono _)
      | (with_reducible exact matrix_Zero.mono _ _)
      | (with_reducible exact LeO.refl _)
      | (with_reducible exact LeO.none _)
      | (with_reducible refine LeO.ite ?_ ?_)
      | (with_reducible refine LeO.bind ?_ (fun _ => ?_))
      | exact ih0 _ _ _
      | exact ih1 _ _ _ _
      | exact ih2 _ _ _
      | exact marblerunlaw11_awake.mono _
      | exact matrix_Zero.mono _ _
      | exact LeO.none _
      | refine LeO.ite ?_ ?_
      | refine LeO.bind ?_ (fun _ => ?_)
    · intro y0 y1 y2
      unfold marblerunlaw11_MatrixZeros.j2
      repeat' first
      | (with_reducible exact ih0 _ _ _)
      | (with_reducible exact ih1 _ _ _ _)
      | (with_reducible exact ih2 _ _ _)
      | (with_reducible exact marblerunlaw11_awake.mono _)
      | (with_reducible exact matrix_Zero.mono _ _)
      | (with_reducible exact LeO.refl _)
      | (with_reducible exact LeO.none _)
      | (with_reducible refine LeO.ite ?_ ?_)
      | (with_reducible refine LeO.bind ?_ (fun _ => ?_))
      | exact ih0 _ _ _
      | exact ih1 _ _ _ _
      | exact ih2 _ _ _
      | exact marblerunlaw11_awake.mono _
      | exact matrix_Zero.mono _ _
      | exact LeO.none _
      | refine LeO.ite ?_ ?_
      | refine LeO.bind ?_ (fun _ => ?_)
theorem marblerunlaw11_MatrixZeros.mono : ∀ a0 a1 k, LeO (marblerunlaw11_MatrixZeros.f k a0 a1) (marblerunlaw11_MatrixZeros.f (k + 1) a0 a1) := by
  intro a0 a1 k
  obtain ⟨ih0, ih1, ih2⟩ := marblerunlaw11_MatrixZeros.mono_l k
  unfold marblerunlaw11_MatrixZeros.f
  repeat' first
      | (with_reducible exact ih0 _ _ _)
      | (with_reducible exact ih1 _ _ _ _)
      | (with_reducible exact ih2 _ _ _)
      | (with_reducible exact marblerunlaw11_awake.mono _)
      | (with_reducible exact matrix_Zero.mono _ _)
      | (with_reducible exact LeO.refl _)
      | (with_reducible exact LeO.none _)
      | (with_reducible refine LeO.ite ?_ ?_)
      | (with_reducible refine LeO.bind ?_ (fun _ => ?_))
      | exact ih0 _ _ _
      | exact ih1 _ _ _ _
      | exact ih2 _ _ _
      | exact marblerunlaw11_awake.mono _
      | exact matrix_Zero.mono _ _
      | exact LeO.none _
      | refine LeO.ite ?_ ?_
      | refine LeO.bind ?_ (fun _ => ?_)
set_option maxHeartbeats 8000000 in
set_option maxRecDepth 100000 in
theorem marblerunlaw11_MatrixZeros.calls (k : Nat) (A0 : Option Addr) (c0 : Nat) (l0 : List Int) (a1 : Int) (r : Bool) (w : World) (hr0 : Kd.C (Kd.int .i64) w A0 l0.length l0) (hc0 : l0.length ≤ c0) (h : marblerunlaw11_MatrixZeros.f k l0 a1 = some r) :
    Calls Try.prog 3 #[.slice A0 l0.length c0, .int .u8 a1] w fun e w' => e = .returned (.bool r) ∧ Below w.heap.size w w' := by
  have HR0 := Aside0.mk hr0
  have HC0 := Aside0.mk hc0
  clear hr0 hc0
  have HB := Aside0.mk (Below.refl w.heap.size w)
  have H : ((marblerunlaw11_awake.f k).bind fun t171 => (if t171 = true then (marblerunlaw11_MatrixZeros.j0 k l0 a1 (decide ((l0.length : Int) > 20))) else (marblerunlaw11_MatrixZeros.j0 k l0 a1 true))) = some r := h
  clear h
  have HC3 := Aside0.mk H
  clear H
  go_enter Try.func3, Try.ntmps3
  go_upto_region 1 with (fail)
  go_cut [14] (fun v14 wc => ∃ (kq : Nat) (x14_2 : Bool), v14 = .bool x14_2 ∧ Aside0 (marblerunlaw11_MatrixZeros.j0 kq l0 a1 x14_2 = some r) ∧ Aside0 (kq ≤ k) ∧ Aside0 (Below w.heap.size w wc))
  case first =>
    have H := HC3.out
    clear HC3
    replace H := Option.bind_eq_some_iff.mp H
    obtain ⟨t171, A40, H⟩ := H
    replace H : (if t171 = true then (marblerunlaw11_MatrixZeros.j0 k l0 a1 (decide ((l0.length : Int) > 20))) else (marblerunlaw11_MatrixZeros.j0 k l0 a1 true)) = some r := H
    have A4 := Aside0.mk A40
    clear A40
    by_cases c5 : t171 = true
    · subst c5
      have H1 : (marblerunlaw11_MatrixZeros.j0 k l0 a1 (decide ((l0.length : Int) > 20))) = some r := by rw [if_pos rfl] at H; exact H
      clear H
      have H := H1
      clear H1
      have H' := Aside0.mk H
      clear H
      go_wp2_with (first | ((with_reducible refine gate_callee (f := 14) rfl ?_); refine goesL_ (some 8) rfl rfl Try.func14 (by kernel_rfl) rfl #[] rfl (by (try simp only [List.map_toArray, List.map_cons, List.map_nil]); first | done | rfl | (simp only [List.length_drop, List.length_take]; rfl)) ?_; (with_reducible refine (marblerunlaw11_awake.calls k  true _ A4.out).mono ?_); rintro e w6 ⟨rfl, hb⟩; refine ⟨_, rfl, ?_⟩; have n0_ := Aside0.mk (below_step (by repeat (first | (with_reducible first | exact HB.out | apply below_alloc | apply pw_below_drewN | apply below_drew1) | exact HB.out)) hb); clear HB; have HB := n0_; clear n0_; (try clear hb); (try clear hb2); (try clear hk); (try clear hi)))
      go_meet
      case rel => exact ⟨_, (decide ((l0.length : Int) > 20)), (by first | rfl | (simp; done) | (simp [*]; done)), H', ⟨by first | omega | exact Nat.le_refl _⟩, ⟨by repeat (first | (with_reducible first | exact HB.out | apply below_alloc | apply pw_below_drewN | apply below_drew1) | exact HB.out)⟩⟩
    · replace c5 := Bool.eq_false_iff.mpr c5
      subst c5
      have H1 : (marblerunlaw11_MatrixZeros.j0 k l0 a1 true) = some r := by rw [if_neg (show ¬ (false = true) by decide)] at H; exact H
      clear H
      have H := H1
      clear H1
      have H' := Aside0.mk H
      clear H
      go_wp2_with (first | ((with_reducible refine gate_callee (f := 14) rfl ?_); refine goesL_ (some 8) rfl rfl Try.func14 (by kernel_rfl) rfl #[] rfl (by (try simp only [List.map_toArray, List.map_cons, List.map_nil]); first | done | rfl | (simp only [List.length_drop, List.length_take]; rfl)) ?_; (with_reducible refine (marblerunlaw11_awake.calls k  false _ A4.out).mono ?_); rintro e w7 ⟨rfl, hb⟩; refine ⟨_, rfl, ?_⟩; have n0_ := Aside0.mk (below_step (by repeat (first | (with_reducible first | exact HB.out | apply below_alloc | apply pw_below_drewN | apply below_drew1) | exact HB.out)) hb); clear HB; have HB := n0_; clear n0_; (try clear hb); (try clear hb2); (try clear hk); (try clear hi)))
      go_meet
      case rel => exact ⟨_, (true), (by first | rfl | (simp; done) | (simp [*]; done)), H', ⟨by first | omega | exact Nat.le_refl _⟩, ⟨by repeat (first | (with_reducible first | exact HB.out | apply below_alloc | apply pw_below_drewN | apply below_drew1) | exact HB.out)⟩⟩
  case rest =>
    clear HC3
    try clear c1
    try clear p2
    try clear c3
    try clear c5
    obtain ⟨kq, x14_2, rfl, HA, HJ2, HB⟩ := hcut
    cases kq with
    | zero => exact absurd HA.out (by simp [marblerunlaw11_MatrixZeros.j0])
    | succ kj2 =>
      have H := HA.out
      clear HA
      simp only [marblerunlaw11_MatrixZeros.j0] at H
      by_cases c8 : x14_2 = true
      · subst c8
        have H1 : ((marblerunlaw11_awake.f kj2).bind fun t172 => (some t172)) = some r := by rw [if_pos rfl] at H; exact H
        clear H
        have H := H1
        clear H1
        replace H := Option.bind_eq_some_iff.mp H
        obtain ⟨t172, A90, H⟩ := H
        replace H : (some t172) = some r := H
        have A9 := Aside0.mk A90
        clear A90
        obtain rfl := Option.some.inj H
        go_wp2_with (first | ((with_reducible refine gate_callee (f := 14) rfl ?_); refine goesL_ (some 15) rfl rfl Try.func14 (by kernel_rfl) rfl #[] rfl (by (try simp only [List.map_toArray, List.map_cons, List.map_nil]); first | done | rfl | (simp only [List.length_drop, List.length_take]; rfl)) ?_; (with_reducible refine (marblerunlaw11_awake.calls kj2  t172 _ A9.out).mono ?_); rintro e w10 ⟨rfl, hb⟩; refine ⟨_, rfl, ?_⟩; have n0_ := Aside0.mk (below_step (by repeat (first | (with_reducible first | exact HB.out | apply below_alloc | apply pw_below_drewN | apply below_drew1) | exact HB.out)) hb); clear HB; have HB := n0_; clear n0_; (try clear hb); (try clear hb2); (try clear hk); (try clear hi)))
        go_ret
        exact ⟨by first | rfl | (simp [errW_none, errW_some] <;> rfl) | (simp [*, errW_none, errW_some] <;> rfl), by repeat (first | (with_reducible first | exact HB.out | apply below_alloc | apply pw_below_drewN | apply below_drew1) | exact HB.out)⟩
      · replace c8 := Bool.eq_false_iff.mpr c8
        subst c8
        have H1 : (marblerunlaw11_MatrixZeros.l0 kj2 l0 a1 true 0) = some r := by rw [if_neg (show ¬ (false = true) by decide)] at H; exact H
        clear H
        have H := H1
        clear H1
        have H' := Aside0.mk H
        clear H
        go_wp2
        go_loopg [5, 6] kj2 (fun kq v5 v6 w' => ∃ (x5_2 : Bool) (x6_2 : Int), v5 = .bool x5_2 ∧ v6 = .int .i64 x6_2 ∧ Aside0 (marblerunlaw11_MatrixZeros.l0 kq l0 a1 x5_2 x6_2 = some r) ∧ Aside0 (kq ≤ kj2) ∧ Aside0 (Below w.heap.size w w'))
        case atStart => exact ⟨(true), (0), (by first | rfl | (simp; done) | (simp [*]; done)), (by first | rfl | (simp; done) | (simp [*]; done)), H', ⟨Nat.le_refl _⟩, ⟨by repeat (first | (with_reducible first | exact HB.out | apply below_alloc | apply pw_below_drewN | apply below_drew1) | exact HB.out)⟩⟩
        case round =>
          clear H'
          try clear c1
          try clear p2
          try clear c3
          try clear c5
          try clear c8
          try clear p2
          obtain ⟨x5_2, x6_2, rfl, rfl, HA, HK2, HB⟩ := hrel
          cases gk with
          | zero => exact absurd HA.out (by simp [marblerunlaw11_MatrixZeros.l0])
          | succ k2 =>
            have H := HA.out
            clear HA
            simp only [marblerunlaw11_MatrixZeros.l0] at H
            by_cases c11 : x6_2 < (l0.length : Int)
            · rw [if_pos c11] at H
              have c11b0 : decide (x6_2 < (l0.length : Int)) = true := decide_eq_true c11
              clear c11
              by_cases c12 : x5_2 = true
              · subst c12
                have H1 : (if 0 ≤ x6_2 then (marblerunlaw11_MatrixZeros.l0 k2 l0 a1 ((rd l0 x6_2) == 0) (wrap64 (x6_2 + 1))) else (none)) = some r := by rw [if_pos rfl] at H; exact H
                clear H
                have H := H1
                clear H1
                by_cases c13 : 0 ≤ x6_2
                · rw [if_pos c13] at H
                  have c13b0 : decide (0 ≤ x6_2) = true := decide_eq_true c13
                  clear c13
                  have H' := Aside0.mk H
                  clear H
                  have p173 : 0 ≤ (x6_2 : Int) := of_decide_eq_true (by first | (with_reducible assumption) | assumption)
                  have q173 : x6_2 < (l0.length : Int) := of_decide_eq_true (by first | (with_reducible assumption) | assumption)
                  obtain ⟨ad173, e173, hx173_0⟩ := Kd.at_int HR0.out x6_2 p173 q173
                  cases e173
                  replace hx173_0 := (HB.out.cell (World.block_lt_of_cell? w _ hx173_0)).trans hx173_0
                  replace p173 := eq_true p173
                  replace q173 := eq_true q173
                  go_wp2
                  go_roundg k2
                  case measure => have := HJ2.out; have := HK2.out; omega
                  case rel => exact ⟨(((rd l0 x6_2) == 0)), (wrap64 (x6_2 + 1)), (by first | rfl | (simp; done) | (simp [*]; done)), (by first | rfl | (simp; done) | (simp [*]; done)), H', ⟨by have := HJ2.out; have := HK2.out; omega⟩, ⟨by repeat (first | (with_reducible first | exact HB.out | apply below_alloc | apply pw_below_drewN | apply below_drew1) | exact HB.out)⟩⟩
                · rw [if_neg c13] at H
                  exact absurd H (by simp)
              · replace c12 := Bool.eq_false_iff.mpr c12
                subst c12
                have H1 : (marblerunlaw11_MatrixZeros.l0 k2 l0 a1 false (wrap64 (x6_2 + 1))) = some r := by rw [if_neg (show ¬ (false = true) by decide)] at H; exact H
                clear H
                have H := H1
                clear H1
                have H' := Aside0.mk H
                clear H
                go_wp2
                go_roundg k2
                case measure => have := HJ2.out; have := HK2.out; omega
                case rel => exact ⟨(false), (wrap64 (x6_2 + 1)), (by first | rfl | (simp; done) | (simp [*]; done)), (by first | rfl | (simp; done) | (simp [*]; done)), H', ⟨by have := HJ2.out; have := HK2.out; omega⟩, ⟨by repeat (first | (with_reducible first | exact HB.out | apply below_alloc | apply pw_below_drewN | apply below_drew1) | exact HB.out)⟩⟩
            · rw [if_neg c11] at H
              have c11b0 : decide (x6_2 < (l0.length : Int)) = false := decide_eq_false c11
              clear c11
              obtain ⟨ji14, hji14⟩ : ∃ j_ : Int, (wrap64 (Int.tmod a1 9)) = j_ := ⟨_, rfl⟩
              replace H : (if 0 ≤ (ji14) then (if (ji14 : Int).toNat ≤ 35184372088832 then ((some (List.replicate (ji14 : Int).toNat 0 : List Int)).bind fun y174 => ((matrix_Zero.f k2 l0).bind fun t177 => (if (t177 != x5_2) = true then (marblerunlaw11_MatrixZeros.j2 k2 a1 y174 true) else ((matrix_Zero.f k2 y174).bind fun t178 => (if t178 = true then ((matrix_Zero.f k2 ([] : List Int)).bind fun t179 => (marblerunlaw11_MatrixZeros.j2 k2 a1 y174 (!t179))) else (marblerunlaw11_MatrixZeros.j2 k2 a1 y174 true)))))) else (none)) else (none)) = some r := by first | (rw [hji14] at H; exact H) | (simp only [hji14] at H ⊢; exact H)
              have hji14w : (IntKind.i64.wrap (Int.tmod a1 9)) = ji14 := (i64_w _).trans hji14
              by_cases c15 : 0 ≤ (ji14)
              · rw [if_pos c15] at H
                have c15b0 := eq_true c15
                have c15b1 : decide (0 ≤ (ji14)) = true := decide_eq_true c15
                clear c15
                by_cases c16 : (ji14 : Int).toNat ≤ 35184372088832
                · rw [if_pos c16] at H
                  have c16b0 := eq_true c16
                  have c16b1 : decide ((ji14 : Int).toNat ≤ 35184372088832) = true := decide_eq_true c16
                  clear c16
                  obtain ⟨y174, hy174⟩ : ∃ y_ : List Int, y_ = (List.replicate (ji14 : Int).toNat 0) := ⟨_, rfl⟩
                  replace H : ((matrix_Zero.f k2 l0).bind fun t177 => (if (t177 != x5_2) = true then (marblerunlaw11_MatrixZeros.j2 k2 a1 y174 true) else ((matrix_Zero.f k2 y174).bind fun t178 => (if t178 = true then ((matrix_Zero.f k2 ([] : List Int)).bind fun t179 => (marblerunlaw11_MatrixZeros.j2 k2 a1 y174 (!t179))) else (marblerunlaw11_MatrixZeros.j2 k2 a1 y174 true))))) = some r := by first | (rw [hy174]; with_reducible exact H) | (have H2_ := (Option.bind_some _ _).symm.trans H; rw [hy174]; with_reducible exact H2_) | (have H2_ := (Option.bind_some _ _).symm.trans H; with_reducible exact H2_) | with_reducible exact H | (rw [hy174]; exact H) | exact H
                  have Ny174 := Aside0.mk hy174
                  clear hy174
                  have HC17 := Aside0.mk H
                  clear H
                  go_upto_region 9 with (first | ((with_reducible refine gate_dst (N := 33) rfl ?_); (try (refine gate_guard (by rfl) ?_; dsimp only)); refine Kd.R_make (Kd.int .i64) _ 3 rfl (N := 33) rfl 22 _ _ rfl ji14 rfl rfl Try.underlying22 (.int .i64 0) 8 info3 rfl (by decide) (by omega) 0 (ok := fun _ => True) (okp := fun _ => True) rfl (fun _ hk => hk) trivial (of_decide_eq_true (by first | (with_reducible assumption) | assumption)) (Nat.le_trans (Nat.mul_le_mul_right _ (of_decide_eq_true (by first | (with_reducible assumption) | assumption) : ji14.toNat ≤ 35184372088832)) (by omega)) (Below.refl _ _) (Nat.le_refl _) ?_; intro v175 w18 ho19 hb hg_ hnew_; clear hg_ hnew_; (first | rw [← Ny174.out] at ho19 | (simp only [Int.reduceToNat] at ho19; rw [← Ny174.out] at ho19)); have n0_ := Aside0.mk (Kd.R_lower ho19 (below_size (by repeat (first | (with_reducible first | exact HB.out | apply below_alloc | apply pw_below_drewN | apply below_drew1) | exact HB.out)))); have n1_ := Aside0.mk (below_step (by repeat (first | (with_reducible first | exact HB.out | apply below_alloc | apply pw_below_drewN | apply below_drew1) | exact HB.out)) hb); clear HB; have HO176 := n0_; have HB := n1_; clear n0_ n1_; clear hb ho19))
                  (try simp only [Act.put, List.setIfInBounds_toArray, List.set_cons_zero, List.set_cons_succ])
                  go_cut [46] (fun v46 wc => ∃ (kq : Nat) (x46_16 : Bool), v46 = .bool x46_16 ∧ Aside0 (marblerunlaw11_MatrixZeros.j2 kq a1 y174 x46_16 = some r) ∧ Aside0 (kq ≤ k2) ∧ Aside0 (Kd.R (Kd.int .i64) 3 wc w.heap.size (fun _ => True) v175 y174) ∧ Aside0 (Below w.heap.size w wc))
                  case first =>
                    have H := HC17.out
                    clear HC17
                    replace H := Option.bind_eq_some_iff.mp H
                    obtain ⟨t177, A200, H⟩ := H
                    replace H : (if (t177 != x5_2) = true then (marblerunlaw11_MatrixZeros.j2 k2 a1 y174 true) else ((matrix_Zero.f k2 y174).bind fun t178 => (if t178 = true then ((matrix_Zero.f k2 ([] : List Int)).bind fun t179 => (marblerunlaw11_MatrixZeros.j2 k2 a1 y174 (!t179))) else (marblerunlaw11_MatrixZeros.j2 k2 a1 y174 true)))) = some r := H
                    have A20 := Aside0.mk A200
                    clear A200
                    by_cases c21 : (t177 != x5_2) = true
                    · rw [if_pos c21] at H
                      have c21b0 : (t177 != x5_2) = true := c21
                      (try (have c21b1 : decide (t177 = x5_2) = false := by simpa using c21))
                      (try (have c21b2 : (t177 == x5_2) = false := by simpa using c21))
                      (try (have c21b3 : ¬ (t177 = x5_2) := by simpa using c21))
                      clear c21
                      (first | rw [c21b0] | (simp only [i64_w, i32_w]; rw [c21b0]) | skip)
                      have H' := Aside0.mk H
                      clear H
                      go_wp2_with (first | ((with_reducible refine gate_callee (f := 15) rfl ?_); refine goesL_ (some 35) rfl rfl Try.func15 (by kernel_rfl) rfl #[.slice A0 l0.length c0] rfl (by (try simp only [List.map_toArray, List.map_cons, List.map_nil]); first | done | rfl | (simp only [List.length_drop, List.length_take]; rfl)) ?_; (with_reducible refine (matrix_Zero.calls k2 _ _ l0 t177 _ ?side1 ?side2 A20.out).mono ?_); (case side1 => repeat (first | exact (Kd.C_below HR0.out HB.out) | (with_reducible refine Kd.C_alloc ?_ _) | (with_reducible refine Kd.C_drewN ?_ _) | (with_reducible refine Kd.C_drew ?_))); (case side2 => exact HC0.out); rintro e w' ⟨rfl, ⟨nd, rfl⟩⟩; refine ⟨_, rfl, ?_⟩))
                      go_meet
                      case rel => exact ⟨_, (true), (by first | rfl | (simp; done) | (simp [*]; done)), H', ⟨by have := HJ2.out; have := HK2.out; first | omega | exact Nat.le_refl _⟩, ⟨by (with_reducible repeat (first | apply Kd.R_alloc | apply Kd.R_drewN | apply Kd.R_drew)); exact HO176.out⟩, ⟨by repeat (first | (with_reducible first | exact HB.out | apply below_alloc | apply pw_below_drewN | apply below_drew1) | exact HB.out)⟩⟩
                    · rw [if_neg c21] at H
                      have c21b0 : (t177 != x5_2) = false := by simpa using c21
                      (try (have c21b1 : decide (t177 = x5_2) = true := by simpa using c21))
                      (try (have c21b2 : (t177 == x5_2) = true := by simpa using c21))
                      clear c21
                      (first | rw [c21b0] | (simp only [i64_w, i32_w]; rw [c21b0]) | skip)
                      replace H := Option.bind_eq_some_iff.mp H
                      obtain ⟨t178, A220, H⟩ := H
                      replace H : (if t178 = true then ((matrix_Zero.f k2 ([] : List Int)).bind fun t179 => (marblerunlaw11_MatrixZeros.j2 k2 a1 y174 (!t179))) else (marblerunlaw11_MatrixZeros.j2 k2 a1 y174 true)) = some r := H
                      have A22 := Aside0.mk A220
                      clear A220
                      by_cases c23 : t178 = true
                      · subst c23
                        have H1 : ((matrix_Zero.f k2 ([] : List Int)).bind fun t179 => (marblerunlaw11_MatrixZeros.j2 k2 a1 y174 (!t179))) = some r := by rw [if_pos rfl] at H; exact H
                        clear H
                        have H := H1
                        clear H1
                        replace H := Option.bind_eq_some_iff.mp H
                        obtain ⟨t179, A240, H⟩ := H
                        replace H : (marblerunlaw11_MatrixZeros.j2 k2 a1 y174 (!t179)) = some r := H
                        have A24 := Aside0.mk A240
                        clear A240
                        have H' := Aside0.mk H
                        clear H
                        go_wp2_with (first | ((with_reducible refine gate_callee (f := 15) rfl ?_); refine goesL_ (some 35) rfl rfl Try.func15 (by kernel_rfl) rfl #[.slice A0 l0.length c0] rfl (by (try simp only [List.map_toArray, List.map_cons, List.map_nil]); first | done | rfl | (simp only [List.length_drop, List.length_take]; rfl)) ?_; (with_reducible refine (matrix_Zero.calls k2 _ _ l0 t177 _ ?side1 ?side2 A20.out).mono ?_); (case side1 => repeat (first | exact (Kd.C_below HR0.out HB.out) | (with_reducible refine Kd.C_alloc ?_ _) | (with_reducible refine Kd.C_drewN ?_ _) | (with_reducible refine Kd.C_drew ?_))); (case side2 => exact HC0.out); rintro e w' ⟨rfl, ⟨nd, rfl⟩⟩; refine ⟨_, rfl, ?_⟩; obtain ⟨Ao25, co25, eo25⟩ := Kd.R_slice HO176.out; subst eo25) | (go_at_call 15; (with_reducible refine (matrix_Zero.calls k2 _ _ y174 true _ ?side1 ?side2 A22.out).mono ?_); (case side1 => repeat (first | exact (Kd.R_reads' HO176.out).2.2 | (with_reducible refine Kd.C_alloc ?_ _) | (with_reducible refine Kd.C_drewN ?_ _) | (with_reducible refine Kd.C_drew ?_))); (case side2 => exact (Kd.R_reads' HO176.out).2.1); rintro e w' ⟨rfl, ⟨nd, rfl⟩⟩) | (go_at_call 15; (refine (matrix_Zero.calls k2 _ _ ([] : List Int) t179 _ ?side1 ?side2 A24.out).mono ?_); (case side1 => exact Kd.C_nil _ _); (case side2 => exact Nat.le_refl _); rintro e w' ⟨rfl, ⟨nd, rfl⟩⟩))
                        go_meet
                        case rel => exact ⟨_, (!t179), (by first | rfl | (simp; done) | (simp [*]; done)), H', ⟨by have := HJ2.out; have := HK2.out; first | omega | exact Nat.le_refl _⟩, ⟨by (with_reducible repeat (first | apply Kd.R_alloc | apply Kd.R_drewN | apply Kd.R_drew)); exact HO176.out⟩, ⟨by repeat (first | (with_reducible first | exact HB.out | apply below_alloc | apply pw_below_drewN | apply below_drew1) | exact HB.out)⟩⟩
                      · replace c23 := Bool.eq_false_iff.mpr c23
                        subst c23
                        have H1 : (marblerunlaw11_MatrixZeros.j2 k2 a1 y174 true) = some r := by rw [if_neg (show ¬ (false = true) by decide)] at H; exact H
                        clear H
                        have H := H1
                        clear H1
                        have H' := Aside0.mk H
                        clear H
                        go_wp2_with (first | ((with_reducible refine gate_callee (f := 15) rfl ?_); refine goesL_ (some 35) rfl rfl Try.func15 (by kernel_rfl) rfl #[.slice A0 l0.length c0] rfl (by (try simp only [List.map_toArray, List.map_cons, List.map_nil]); first | done | rfl | (simp only [List.length_drop, List.length_take]; rfl)) ?_; (with_reducible refine (matrix_Zero.calls k2 _ _ l0 t177 _ ?side1 ?side2 A20.out).mono ?_); (case side1 => repeat (first | exact (Kd.C_below HR0.out HB.out) | (with_reducible refine Kd.C_alloc ?_ _) | (with_reducible refine Kd.C_drewN ?_ _) | (with_reducible refine Kd.C_drew ?_))); (case side2 => exact HC0.out); rintro e w' ⟨rfl, ⟨nd, rfl⟩⟩; refine ⟨_, rfl, ?_⟩; obtain ⟨Ao26, co26, eo26⟩ := Kd.R_slice HO176.out; subst eo26) | (go_at_call 15; (with_reducible refine (matrix_Zero.calls k2 _ _ y174 false _ ?side1 ?side2 A22.out).mono ?_); (case side1 => repeat (first | exact (Kd.R_reads' HO176.out).2.2 | (with_reducible refine Kd.C_alloc ?_ _) | (with_reducible refine Kd.C_drewN ?_ _) | (with_reducible refine Kd.C_drew ?_))); (case side2 => exact (Kd.R_reads' HO176.out).2.1); rintro e w' ⟨rfl, ⟨nd, rfl⟩⟩))
                        go_meet
                        case rel => exact ⟨_, (true), (by first | rfl | (simp; done) | (simp [*]; done)), H', ⟨by have := HJ2.out; have := HK2.out; first | omega | exact Nat.le_refl _⟩, ⟨by (with_reducible repeat (first | apply Kd.R_alloc | apply Kd.R_drewN | apply Kd.R_drew)); exact HO176.out⟩, ⟨by repeat (first | (with_reducible first | exact HB.out | apply below_alloc | apply pw_below_drewN | apply below_drew1) | exact HB.out)⟩⟩
                  case rest =>
                    clear HC17
                    try clear c1
                    try clear p1
                    try clear q1
                    try clear hx1
                    try clear c2
                    try clear p2
                    try clear c3
                    try clear c5
                    try clear p6
                    try clear c8
                    try clear c11
                    try clear c11b0
                    try clear c12
                    try clear c13
                    try clear c13b0
                    try clear c14
                    try clear c15
                    try clear c15b0
                    try clear c15b1
                    try clear c16
                    try clear c16b0
                    try clear c16b1
                    try clear p17
                    try clear q17
                    try clear hx17
                    try clear c21
                    try clear c21b0
                    try clear c21b1
                    try clear c21b2
                    try clear c23
                    try clear hx173_0
                    try clear p173
                    try clear p2
                    try clear q173
                    obtain ⟨kq, x46_16, rfl, HA, HJ16, HO_7, HB⟩ := hcut
                    cases kq with
                    | zero => exact absurd HA.out (by simp [marblerunlaw11_MatrixZeros.j2])
                    | succ kj16 =>
                      have H := HA.out
                      clear HA
                      simp only [marblerunlaw11_MatrixZeros.j2] at H
                      by_cases c27 : x46_16 = true
                      · subst c27
                        have H1 : (some false) = some r := by rw [if_pos rfl] at H; exact H
                        clear H
                        have H := H1
                        clear H1
                        obtain rfl := Option.some.inj H
                        go_wp2
                        go_ret
                        exact ⟨by first | rfl | (simp [errW_none, errW_some] <;> rfl) | (simp only [← hji14]; first | rfl | (simp [errW_none, errW_some] <;> rfl)) | (simp [*, errW_none, errW_some] <;> rfl), by repeat (first | (with_reducible first | exact HB.out | apply below_alloc | apply pw_below_drewN | apply below_drew1) | exact HB.out)⟩
                      · replace c27 := Bool.eq_false_iff.mpr c27
                        subst c27
                        have H1 : (if (y174.length : Int) > 0 then (if (y174.length : Int) = 0 then (none) else (if 0 ≤ (Int.tmod (wrap64 (a1)) (y174.length : Int)) then (if (Int.tmod (wrap64 (a1)) (y174.length : Int)) < (y174.length : Int) then ((matrix_Zero.f kj16 (y174.set ((Int.tmod (wrap64 (a1)) (y174.length : Int)) : Int).toNat (-1))).bind fun t181 => (some (!t181))) else (none)) else (none))) else (some true)) = some r := by rw [if_neg (show ¬ (false = true) by decide)] at H; exact H
                        clear H
                        have H := H1
                        clear H1
                        by_cases c28 : (y174.length : Int) > 0
                        · rw [if_pos c28] at H
                          have c28b0 : decide (0 < (y174.length : Int)) = true := decide_eq_true c28
                          have c28b1 : decide (0 < y174.length) = true := decide_eq_true (by omega)
                          clear c28
                          by_cases c29 : (y174.length : Int) = 0
                          · rw [if_pos c29] at H
                            exact absurd H (by simp)
                          · rw [if_neg c29] at H
                            have c29b0 : ((y174.length : Int) == 0) = false := beq_eq_false_iff_ne.mpr c29
                            have c29b1 : ((y174.length : Int) != 0) = true := bne_iff_ne.mpr c29
                            have c29b2 : ¬ (y174 = []) := fun h_ => c29 (by rw [h_]; rfl)
                            obtain ⟨ji30, hji30⟩ : ∃ j_ : Int, (Int.tmod (wrap64 (a1)) (y174.length : Int)) = j_ := ⟨_, rfl⟩
                            replace H : (if 0 ≤ (ji30) then (if (ji30) < (y174.length : Int) then ((matrix_Zero.f kj16 (y174.set ((ji30) : Int).toNat (-1))).bind fun t181 => (some (!t181))) else (none)) else (none)) = some r := by first | (rw [hji30] at H; exact H) | (simp only [hji30] at H ⊢; exact H)
                            by_cases c31 : 0 ≤ (ji30)
                            · rw [if_pos c31] at H
                              have c31b0 : decide (0 ≤ (ji30)) = true := decide_eq_true c31
                              clear c31
                              by_cases c32 : (ji30) < (y174.length : Int)
                              · rw [if_pos c32] at H
                                have c32b0 : decide ((ji30) < (y174.length : Int)) = true := decide_eq_true c32
                                clear c32
                                obtain ⟨y180, hy180⟩ : ∃ y_ : List Int, y_ = (y174.set ((ji30) : Int).toNat (-1)) := ⟨_, rfl⟩
                                replace H : ((matrix_Zero.f kj16 y180).bind fun t181 => (some (!t181))) = some r := by first | (rw [hy180]; with_reducible exact H) | (have H2_ := (Option.bind_some _ _).symm.trans H; rw [hy180]; with_reducible exact H2_) | (have H2_ := (Option.bind_some _ _).symm.trans H; with_reducible exact H2_) | with_reducible exact H | (rw [hy180]; exact H) | exact H
                                have Ny180 := Aside0.mk hy180
                                clear hy180
                                replace H := Option.bind_eq_some_iff.mp H
                                obtain ⟨t181, A340, H⟩ := H
                                replace H : (some (!t181)) = some r := H
                                have A34 := Aside0.mk A340
                                clear A340
                                obtain rfl := Option.some.inj H
                                obtain ⟨Ao35, co35, eo35⟩ := Kd.R_slice HO_7.out
                                subst eo35
                                have p33 : 0 ≤ ((ji30) : Int) := of_decide_eq_true (by first | (with_reducible assumption) | assumption)
                                have q33 : ((ji30) : Int) < ((y174.length : Int) : Int) := of_decide_eq_true (by first | (with_reducible assumption) | assumption)
                                obtain ⟨go33, co33, eo33, gb33, gl33, cl33, HG33⟩ := Kd.R_form HO_7.out (by omega)
                                (first | cases eo33 | (injection eo33 with ea_ en_ ec_; (first | subst ea_ | (injection ea_ with ea_; subst ea_)); subst ec_; clear en_))
                                have GB33 := Aside0.mk gb33
                                have GG33 := Aside0.mk HG33
                                clear gb33 gl33 HG33
                                obtain ⟨hx33_0, hf33_0⟩ := Kd.R_celln 0 HO_7.out ((ji30) : Int) p33 q33
                                replace p33 := eq_true p33
                                replace q33 := eq_true q33
                                have HP36 := Kd.R_putg HO_7.out ((ji30) : Int) (-1)
                                go_wp2_with (first | ((with_reducible refine gate_store (t := 3) (p := 56) rfl ?_); refine store_event (t := 3) (p := 56) (v := ?vo_w37) (w1 := (wc.setCell ⟨go33, ((ji30) : Int).toNat, none⟩ (.int .i64 (-1)))) ?hg ?ho ?hn ?hr ?_; (case ho => rfl); (case hg => rfl); (case hn => rfl); (case hr => first | (go_simp; done) | (go_simp; rfl)); intro w37 hw; have hg : wc.grownBy w37 (some go33) := (by rw [hw]; exact HP36.2); have hp_ : Kd.R (Kd.int .i64) 3 w37 w.heap.size (fun _ => True) (.slice (some ⟨go33, 0, none⟩) y174.length co35) y180 := (by rw [hw, Ny180.out]; exact HP36.1); clear HP36; have n0_ := Aside0.mk (hp_); have n1_ := Aside0.mk ((by rw [hw]; exact below_set (HB.out) GB33.out : Below w.heap.size w w37)); clear HO_7; clear HB; have HO_7 := n0_; have HB := n1_; clear n0_ n1_; clear hg hw hp_) | ((with_reducible refine gate_callee (f := 15) rfl ?_); refine goesL_ (some 58) rfl rfl Try.func15 (by kernel_rfl) rfl #[.slice (some ⟨go33, 0, none⟩) y180.length co35] rfl (by (try simp only [List.map_toArray, List.map_cons, List.map_nil]); first | done | (rw [show y180.length = y174.length from (Kd.R_reads' HO_7.out).1.symm] <;> rfl) | rfl | (simp only [List.length_drop, List.length_take]; rfl)) ?_; (with_reducible refine (matrix_Zero.calls kj16 _ _ y180 t181 _ ?side1 ?side2 A34.out).mono ?_); (case side1 => repeat (first | exact (Kd.R_reads' HO_7.out).2.2 | (with_reducible refine Kd.C_alloc ?_ _) | (with_reducible refine Kd.C_drewN ?_ _) | (with_reducible refine Kd.C_drew ?_))); (case side2 => rw [show y180.length = y174.length from (Kd.R_reads' HO_7.out).1.symm]; exact (Kd.R_reads' HO_7.out).2.1); rintro e w' ⟨rfl, ⟨nd, rfl⟩⟩; refine ⟨_, rfl, ?_⟩))
                                go_ret
                                exact ⟨by first | rfl | (simp [errW_none, errW_some] <;> rfl) | (simp only [← hji14, ← hji30]; first | rfl | (simp [errW_none, errW_some] <;> rfl)) | (simp [*, errW_none, errW_some] <;> rfl), by repeat (first | (with_reducible first | exact HB.out | apply below_alloc | apply pw_below_drewN | apply below_drew1) | exact HB.out)⟩
                              · rw [if_neg c32] at H
                                exact absurd H (by simp)
                            · rw [if_neg c31] at H
                              exact absurd H (by simp)
                        · rw [if_neg c28] at H
                          have c28b0 : decide (0 < (y174.length : Int)) = false := decide_eq_false c28
                          have c28b1 : decide (0 < y174.length) = false := decide_eq_false (by omega)
                          clear c28
                          obtain rfl := Option.some.inj H
                          obtain ⟨Ao38, co38, eo38⟩ := Kd.R_slice HO_7.out
                          subst eo38
                          go_wp2
                          go_ret
                          exact ⟨by first | rfl | (simp [errW_none, errW_some] <;> rfl) | (simp only [← hji14]; first | rfl | (simp [errW_none, errW_some] <;> rfl)) | (simp [*, errW_none, errW_some] <;> rfl), by repeat (first | (with_reducible first | exact HB.out | apply below_alloc | apply pw_below_drewN | apply below_drew1) | exact HB.out)⟩
                · rw [if_neg c16] at H
                  exact absurd H (by simp)
              · rw [if_neg c15] at H
                exact absurd H (by simp)

/-- THE ONE PURE STATEMENT of marblerunlaw11_MatrixZeros: yours. -/
def marblerunlaw11_MatrixZeros.Pure : Prop := ∀ (l0 : List Int) (a1 : Int), l0.length ≤ maxLen → l0.length * 8 ≤ 140737488351232 → (∀ x ∈ l0, (Lit.int .i64 x).wf = true) → (Lit.int .u8 a1).wf = true → ∃ k, marblerunlaw11_MatrixZeros.f k l0 a1 = some true
theorem marblerunlaw11_MatrixZeros.walk (P : marblerunlaw11_MatrixZeros.Pure) (a0 : Option Addr) (len0 cap0 : Nat) (z0 : List Int) (a1 : Int) (w : World) (w0 : (a0 = none ∧ len0 = 0 ∧ cap0 = 0 ∧ z0 = []) ∨ ∃ x, a0 = some x ∧ len0 ≤ cap0 ∧ cap0 ≤ maxLen ∧ z0.length = cap0 ∧ (∀ i, i < z0.length → w.cell? (x.add i) = some (.int .i64 (z0.getD i 0))) ∧ ∀ n ∈ z0, (Lit.int .i64 n).wf = true) (y0 : len0 * 8 ≤ 140737488351232) (w1 : (Lit.int .u8 a1).wf = true) :
    Calls Try.prog 3 #[.slice a0 len0 cap0, .int .u8 a1] w fun e w' => e = .returned (.bool true) ∧ Below w.heap.size w w' := by
  obtain ⟨l0, rfl, hr0, hm0, hw0, hc0⟩ := ReadsInt.ofRowC w0
  obtain ⟨k, h⟩ := P l0 a1 hm0 y0 hw0 w1
  refine (marblerunlaw11_MatrixZeros.calls k _ _ l0 a1 true w (Kd.C_of_reads (d := (0 : Int)) (h1 := fun _ => rfl) hr0) hc0 h).mono ?_
  rintro e w' ⟨rfl, hd⟩
  exact ⟨rfl, hd⟩

end Go.Proofs.Ytigpmhicdmjbeaa.PMatrixZeros
