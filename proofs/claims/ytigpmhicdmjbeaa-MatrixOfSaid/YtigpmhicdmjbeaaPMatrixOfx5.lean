/- What the functions that this law reaches answer, in whatever memory, and the row of the law; no condition. Written by a program of this session (mk.sh). -/
import Derived.Test.YtigpmhicdmjbeaaPMatrixOfx0
namespace Go.Proofs.Ytigpmhicdmjbeaa.PMatrixOf
open Go.RowKit Go.Proofs.YtigpmhicdmjbeaaW.PrintWords Go.Proofs.YtigpmhicdmjbeaaW.PrintLast Go.Proofs.YtigpmhicdmjbeaaW.PrintMore
attribute [local go_sem] max2_int min2_int max_two min_two max_three min_three max_four min_four   -- for this text's walks alone
set_option linter.unusedVariables false
set_option linter.unusedSimpArgs false

/-! ### marblerunref11_Change: function 21 -/
mutual
def marblerunref11_Change.l0 : Nat → List (List Int) → Int → List (S52) → List (S64) → Option ((List (List Int)))
  | 0, _, _, _, _ => none
  | k + 1, x3, x4, x242000, x242001 => if x4 < (x242000.length : Int) then (marblerunref11_Change.l1 k x3 x4 ([] : List Int) 0 x242000 x242001) else (some x3)
def marblerunref11_Change.l1 : Nat → List (List Int) → Int → List Int → Int → List (S52) → List (S64) → Option ((List (List Int)))
  | 0, _, _, _, _, _, _ => none
  | k + 1, x3, x4, x5, x6, x242000, x242001 => if x6 < (x242001.length : Int) then (marblerunref11_Change.l2 k x3 x4 x5 x6 0 0 x242000 x242001) else (if x3.length < 5864062014805 then (marblerunref11_Change.l0 k (x3 ++ [x5]) (wrap64 (x4 + 1)) x242000 x242001) else (none))
def marblerunref11_Change.l2 : Nat → List (List Int) → Int → List Int → Int → Int → Int → List (S52) → List (S64) → Option ((List (List Int)))
  | 0, _, _, _, _, _, _, _, _ => none
  | k + 1, x3, x4, x5, x6, x7, x8, x242000, x242001 => if 0 ≤ x6 then (if x6 < (x242001.length : Int) then (if x8 < (((rd_T64 x242001 x6).f5).length : Int) then (if 0 ≤ x8 then (if ((rd_T66 ((rd_T64 x242001 x6).f5) x8).f0) = x4 then (marblerunref11_Change.l2 k x3 x4 x5 x6 (wrap64 (x7 + ((rd_T66 ((rd_T64 x242001 x6).f5) x8).f1))) (wrap64 (x8 + 1)) x242000 x242001) else (marblerunref11_Change.l2 k x3 x4 x5 x6 x7 (wrap64 (x8 + 1)) x242000 x242001)) else (none)) else (marblerunref11_Change.l3 k x3 x4 x5 x6 x7 0 x242000 x242001)) else (none)) else (none)
def marblerunref11_Change.l3 : Nat → List (List Int) → Int → List Int → Int → Int → Int → List (S52) → List (S64) → Option ((List (List Int)))
  | 0, _, _, _, _, _, _, _, _ => none
  | k + 1, x3, x4, x5, x6, x7, x9, x242000, x242001 => if 0 ≤ x6 then (if x6 < (x242001.length : Int) then (if x9 < (((rd_T64 x242001 x6).f3).length : Int) then (if 0 ≤ x9 then (if ((rd_T66 ((rd_T64 x242001 x6).f3) x9).f0) = x4 then (marblerunref11_Change.l3 k x3 x4 x5 x6 (wrap64 (x7 - ((rd_T66 ((rd_T64 x242001 x6).f3) x9).f1))) (wrap64 (x9 + 1)) x242000 x242001) else (marblerunref11_Change.l3 k x3 x4 x5 x6 x7 (wrap64 (x9 + 1)) x242000 x242001)) else (none)) else (if x5.length < 17592186044416 then (marblerunref11_Change.l1 k x3 x4 (x5 ++ [x7]) (wrap64 (x6 + 1)) x242000 x242001) else (none))) else (none)) else (none)
end
def marblerunref11_Change.f (k : Nat) (l0_0 : List (S52)) (l0_1 : List (S64)) : Option ((List (List Int))) := marblerunref11_Change.l0 k ([] : List (List Int)) 0 l0_0 l0_1
theorem marblerunref11_Change.mono_l : ∀ k, (∀ y0 y1 y2 y3, LeO (marblerunref11_Change.l0 k y0 y1 y2 y3) (marblerunref11_Change.l0 (k + 1) y0 y1 y2 y3)) ∧ (∀ y0 y1 y2 y3 y4 y5, LeO (marblerunref11_Change.l1 k y0 y1 y2 y3 y4 y5) (marblerunref11_Change.l1 (k + 1) y0 y1 y2 y3 y4 y5)) ∧ (∀ y0 y1 y2 y3 y4 y5 y6 y7, LeO (marblerunref11_Change.l2 k y0 y1 y2 y3 y4 y5 y6 y7) (marblerunref11_Change.l2 (k + 1) y0 y1 y2 y3 y4 y5 y6 y7)) ∧ (∀ y0 y1 y2 y3 y4 y5 y6 y7, LeO (marblerunref11_Change.l3 k y0 y1 y2 y3 y4 y5 y6 y7) (marblerunref11_Change.l3 (k + 1) y0 y1 y2 y3 y4 y5 y6 y7))
  | 0 => ⟨fun _ _ _ _ r h => by simp [marblerunref11_Change.l0] at h, fun _ _ _ _ _ _ r h => by simp [marblerunref11_Change.l1] at h, fun _ _ _ _ _ _ _ _ r h => by simp [marblerunref11_Change.l2] at h, fun _ _ _ _ _ _ _ _ r h => by simp [marblerunref11_Change.l3] at h⟩
  | k + 1 => by
    obtain ⟨ih0, ih1, ih2, ih3⟩ := marblerunref11_Change.mono_l k
    refine ⟨?_, ?_, ?_, ?_⟩
    · intro y0 y1 y2 y3
      unfold marblerunref11_Change.l0
      repeat' first
      | (with_reducible exact ih0 _ _ _ _)
      | (with_reducible exact ih1 _ _ _ _ _ _)
      | (with_reducible exact ih2 _ _ _ _ _ _ _ _)
      | (with_reducible exact ih3 _ _ _ _ _ _ _ _)
      | (with_reducible exact LeO.refl _)
      | (with_reducible exact LeO.none _)
      | (with_reducible refine LeO.ite ?_ ?_)
      | (with_reducible refine LeO.bind ?_ (fun _ => ?_))
      | exact ih0 _ _ _ _
      | exact ih1 _ _ _ _ _ _
      | exact ih2 _ _ _ _ _ _ _ _
      | exact ih3 _ _ _ _ _ _ _ _
      | exact LeO.none _
      | refine LeO.ite ?_ ?_
      | refine LeO.bind ?_ (fun _ => ?_)
    · intro y0 y1 y2 y3 y4 y5
      unfold marblerunref11_Change.l1
      repeat' first
      | (with_reducible exact ih0 _ _ _ _)
      | (with_reducible exact ih1 _ _ _ _ _ _)
      | (with_reducible exact ih2 _ _ _ _ _ _ _ _)
      | (with_reducible exact ih3 _ _ _ _ _ _ _ _)
      | (with_reducible exact LeO.refl _)
      | (with_reducible exact LeO.none _)
      | (with_reducible refine LeO.ite ?_ ?_)
      | (with_reducible refine LeO.bind ?_ (fun _ => ?_))
      | exact ih0 _ _ _ _
      | exact ih1 _ _ _ _ _ _
      | exact ih2 _ _ _ _ _ _ _ _
      | exact ih3 _ _ _ _ _ _ _ _
      | exact LeO.none _
      | refine LeO.ite ?_ ?_
      | refine LeO.bind ?_ (fun _ => ?_)
    · intro y0 y1 y2 y3 y4 y5 y6 y7
      unfold marblerunref11_Change.l2
      repeat' first
      | (with_reducible exact ih0 _ _ _ _)
      | (with_reducible exact ih1 _ _ _ _ _ _)
      | (with_reducible exact ih2 _ _ _ _ _ _ _ _)
      | (with_reducible exact ih3 _ _ _ _ _ _ _ _)
      | (with_reducible exact LeO.refl _)
      | (with_reducible exact LeO.none _)
      | (with_reducible refine LeO.ite ?_ ?_)
      | (with_reducible refine LeO.bind ?_ (fun _ => ?_))
      | exact ih0 _ _ _ _
      | exact ih1 _ _ _ _ _ _
      | exact ih2 _ _ _ _ _ _ _ _
      | exact ih3 _ _ _ _ _ _ _ _
      | exact LeO.none _
      | refine LeO.ite ?_ ?_
      | refine LeO.bind ?_ (fun _ => ?_)
    · intro y0 y1 y2 y3 y4 y5 y6 y7
      unfold marblerunref11_Change.l3
      repeat' first
      | (with_reducible exact ih0 _ _ _ _)
      | (with_reducible exact ih1 _ _ _ _ _ _)
      | (with_reducible exact ih2 _ _ _ _ _ _ _ _)
      | (with_reducible exact ih3 _ _ _ _ _ _ _ _)
      | (with_reducible exact LeO.refl _)
      | (with_reducible exact LeO.none _)
      | (with_reducible refine LeO.ite ?_ ?_)
      | (with_reducible refine LeO.bind ?_ (fun _ => ?_))
      | exact ih0 _ _ _ _
      | exact ih1 _ _ _ _ _ _
      | exact ih2 _ _ _ _ _ _ _ _
      | exact ih3 _ _ _ _ _ _ _ _
      | exact LeO.none _
      | refine LeO.ite ?_ ?_
      | refine LeO.bind ?_ (fun _ => ?_)
theorem marblerunref11_Change.mono : ∀ a0 a1 k, LeO (marblerunref11_Change.f k a0 a1) (marblerunref11_Change.f (k + 1) a0 a1) := by
  intro a0 a1 k
  obtain ⟨ih0, ih1, ih2, ih3⟩ := marblerunref11_Change.mono_l k
  unfold marblerunref11_Change.f
  repeat' first
      | (with_reducible exact ih0 _ _ _ _)
      | (with_reducible exact ih1 _ _ _ _ _ _)
      | (with_reducible exact ih2 _ _ _ _ _ _ _ _)
      | (with_reducible exact ih3 _ _ _ _ _ _ _ _)
      | (with_reducible exact LeO.refl _)
      | (with_reducible exact LeO.none _)
      | (with_reducible refine LeO.ite ?_ ?_)
      | (with_reducible refine LeO.bind ?_ (fun _ => ?_))
      | exact ih0 _ _ _ _
      | exact ih1 _ _ _ _ _ _
      | exact ih2 _ _ _ _ _ _ _ _
      | exact ih3 _ _ _ _ _ _ _ _
      | exact LeO.none _
      | refine LeO.ite ?_ ?_
      | refine LeO.bind ?_ (fun _ => ?_)
set_option maxHeartbeats 8000000 in
set_option maxRecDepth 100000 in
theorem marblerunref11_Change.calls (k : Nat) (A0_0 : Option Addr) (c0_0 : Nat) (l0_0 : List (S52)) (A0_1 : Option Addr) (c0_1 : Nat) (l0_1 : List (S64)) (r : List (List Int)) (w : World) (hr0_0 : Kd.C k52 w A0_0 l0_0.length l0_0) (hc0_0 : l0_0.length ≤ c0_0) (hr0_1 : Kd.C k64 w A0_1 l0_1.length l0_1) (hc0_1 : l0_1.length ≤ c0_1) (h : marblerunref11_Change.f k l0_0 l0_1 = some r) :
    Calls Try.prog 21 #[.agg #[.slice A0_0 l0_0.length c0_0, .slice A0_1 l0_1.length c0_1]] w fun e w' => ∃ v0_ : Value, e = .returned (v0_) ∧ Kd.S (Kd.slice 3 (Kd.int .i64)) 22 w' w.heap.size (fun _ => True) v0_ r ∧ Below w.heap.size w w' := by
  have hu34 := Try.underlying34
  have HR0_0 := Aside0.mk hr0_0
  have HC0_0 := Aside0.mk hc0_0
  clear hr0_0 hc0_0
  have HR0_1 := Aside0.mk hr0_1
  have HC0_1 := Aside0.mk hc0_1
  clear hr0_1 hc0_1
  have HB := Aside0.mk (Below.refl w.heap.size w)
  have H : (marblerunref11_Change.l0 k ([] : List (List Int)) 0 l0_0 l0_1) = some r := h
  clear h
  have H' := Aside0.mk H
  clear H
  go_enter Try.func21, Try.ntmps21
  go_wp2_with (first | ((with_reducible refine gate_dst (N := 1) rfl ?_); refine box_event ?hg (N := 1) ?hd (cs := #[.slice A0_0 l0_0.length c0_0, .slice A0_1 l0_1.length c0_1]) (t := 34) ?hr ?_; (case hd => rfl); (case hg => rfl); (case hr => first | (go_simp; done) | (go_simp; rfl)); intro gb241 hg w2 hbox hb; have n0_ := Aside0.mk (below_step (by repeat (first | (with_reducible first | exact HB.out | apply below_alloc | apply pw_below_drewN | apply below_drew1) | exact HB.out)) hb); have n1_ := Aside0.mk (hbox); have n2_ := Aside0.mk ((by rw [hg]; exact (below_size (by repeat (first | (with_reducible first | exact HB.out | apply below_alloc | apply pw_below_drewN | apply below_drew1) | exact HB.out))) : w.heap.size ≤ gb241)); have n3_ := Aside0.mk ((by rw [hg]; exact (below_size (by repeat (first | (with_reducible first | exact HB.out | apply below_alloc | apply pw_below_drewN | apply below_drew1) | exact HB.out))) : w.heap.size ≤ gb241)); clear HB; have HB := n0_; have BK241 := n1_; have GW241 := n2_; have GE241 := n3_; clear n0_ n1_ n2_ n3_; clear hb hbox hg))
  go_loopg [3, 4] k (fun kq v3 v4 w' => ∃ (x3_1 : List (List Int)) (x4_1 : Int), v4 = .int .i64 x4_1 ∧ Aside0 (marblerunref11_Change.l0 kq x3_1 x4_1 l0_0 l0_1 = some r) ∧ Aside0 (kq ≤ k) ∧ Aside0 (Kd.S (Kd.slice 3 (Kd.int .i64)) 22 w' w.heap.size (fun _ => True) v3 x3_1) ∧ Aside0 (w'.heap[gb241]? = some (.cells #[(.slice A0_0 l0_0.length c0_0), (.slice A0_1 l0_1.length c0_1)] 34 (0, 0))) ∧ Aside0 (Below w.heap.size w w'))
  case atStart => exact ⟨(([] : List (List Int))), (0), (by first | rfl | (simp; done) | (simp [*]; done)), H', ⟨Nat.le_refl _⟩, ⟨by first | exact Kd.S_nil _ _ _ _ _ | exact Kd.N_nil _ _ _ _ _ | exact Kd.V_nil _ _ _ _ _ | exact Kd.Q_nil _ _ _ _ _ | exact Kd.R_nil _ _ _ _ _⟩, ⟨by (with_reducible repeat (first | refine blk_drewN ?_ _ | refine blk_drew ?_ | refine blk_alloc ?_ _)); exact BK241.out⟩, ⟨by repeat (first | (with_reducible first | exact HB.out | apply below_alloc | apply pw_below_drewN | apply below_drew1 | refine below_set ?_ GE241.out) | exact HB.out)⟩⟩
  clear H'
  try clear c2
  try clear p2
  obtain ⟨x3_1, x4_1, rfl, HA, HK1, HO_3, BK241, HB⟩ := hrel
  cases gk with
  | zero => exact absurd HA.out (by simp [marblerunref11_Change.l0])
  | succ k1 =>
    have H := HA.out
    clear HA
    simp only [marblerunref11_Change.l0] at H
    by_cases c3 : x4_1 < (l0_0.length : Int)
    · rw [if_pos c3] at H
      have c3b0 : decide (x4_1 < (l0_0.length : Int)) = true := decide_eq_true c3
      clear c3
      have H' := Aside0.mk H
      clear H
      have hcz4_0 : wr.cell? ⟨gb241, 0, none⟩ = some (.slice A0_0 l0_0.length c0_0) := (blk_cell BK241.out 0).trans rfl
      have hcz4_1 : wr.cell? ⟨gb241, 1, none⟩ = some (.slice A0_1 l0_1.length c0_1) := (blk_cell BK241.out 1).trans rfl
      have hfz4_0 := blk_frozen BK241.out 0
      have hfz4_1 := blk_frozen BK241.out 1
      go_wp2
      go_loopg [5, 6] k1 (fun kq v5 v6 w' => ∃ (x5_2 : List Int) (x6_2 : Int), v6 = .int .i64 x6_2 ∧ Aside0 (marblerunref11_Change.l1 kq x3_1 x4_1 x5_2 x6_2 l0_0 l0_1 = some r) ∧ Aside0 (kq ≤ k1) ∧ Aside0 (Kd.S (Kd.slice 3 (Kd.int .i64)) 22 w' w.heap.size (fun k_ => some k_ ≠ (v5 : Value).ownBlock) u3 x3_1) ∧ Aside0 (Kd.R (Kd.int .i64) 3 w' w.heap.size (fun _ => True) v5 x5_2) ∧ Aside0 (w'.heap[gb241]? = some (.cells #[(.slice A0_0 l0_0.length c0_0), (.slice A0_1 l0_1.length c0_1)] 34 (0, 0))) ∧ Aside0 (Below w.heap.size w w'))
      case atStart => exact ⟨(([] : List Int)), (0), (by first | rfl | (simp; done) | (simp [*]; done)), H', ⟨Nat.le_refl _⟩, ⟨by (with_reducible repeat (first | apply Kd.S_alloc | apply Kd.S_drewN | apply Kd.S_drew)); exact Kd.S_mono HO_3.out (fun _ hk => (by simp [Value.ownBlock]))⟩, ⟨by first | exact Kd.R_nil _ _ _ _ _ | exact Kd.N_nil _ _ _ _ _ | exact Kd.V_nil _ _ _ _ _ | exact Kd.Q_nil _ _ _ _ _ | exact Kd.S_nil _ _ _ _ _⟩, ⟨by (with_reducible repeat (first | refine blk_drewN ?_ _ | refine blk_drew ?_ | refine blk_alloc ?_ _)); exact BK241.out⟩, ⟨by repeat (first | (with_reducible first | exact HB.out | apply below_alloc | apply pw_below_drewN | apply below_drew1 | refine below_set ?_ GE241.out) | exact HB.out)⟩⟩
      clear H'
      try clear c2
      try clear p2
      try clear c3
      try clear c3b0
      try clear hcz4_0
      try clear hcz4_1
      try clear hfz4_0
      try clear hfz4_1
      try clear p2
      obtain ⟨x5_2, x6_2, rfl, HA, HK2, HO_3, HO_5, BK241, HB⟩ := hrel
      cases gk with
      | zero => exact absurd HA.out (by simp [marblerunref11_Change.l1])
      | succ k2 =>
        have H := HA.out
        clear HA
        simp only [marblerunref11_Change.l1] at H
        by_cases c5 : x6_2 < (l0_1.length : Int)
        · rw [if_pos c5] at H
          have c5b0 : decide (x6_2 < (l0_1.length : Int)) = true := decide_eq_true c5
          clear c5
          have H' := Aside0.mk H
          clear H
          have hcz6_0 : wr.cell? ⟨gb241, 0, none⟩ = some (.slice A0_0 l0_0.length c0_0) := (blk_cell BK241.out 0).trans rfl
          have hcz6_1 : wr.cell? ⟨gb241, 1, none⟩ = some (.slice A0_1 l0_1.length c0_1) := (blk_cell BK241.out 1).trans rfl
          have hfz6_0 := blk_frozen BK241.out 0
          have hfz6_1 := blk_frozen BK241.out 1
          go_wp2
          go_loopg [7, 8] k2 (fun kq v7 v8 w' => ∃ (x7_3 : Int) (x8_3 : Int), v7 = .int .i64 x7_3 ∧ v8 = .int .i64 x8_3 ∧ Aside0 (marblerunref11_Change.l2 kq x3_1 x4_1 x5_2 x6_2 x7_3 x8_3 l0_0 l0_1 = some r) ∧ Aside0 (kq ≤ k2) ∧ Aside0 (Kd.S (Kd.slice 3 (Kd.int .i64)) 22 w' w.heap.size (fun k_ => some k_ ≠ (u5 : Value).ownBlock) u3 x3_1) ∧ Aside0 (Kd.R (Kd.int .i64) 3 w' w.heap.size (fun _ => True) u5 x5_2) ∧ Aside0 (w'.heap[gb241]? = some (.cells #[(.slice A0_0 l0_0.length c0_0), (.slice A0_1 l0_1.length c0_1)] 34 (0, 0))) ∧ Aside0 (Below w.heap.size w w'))
          case atStart => exact ⟨(0), (0), (by first | rfl | (simp; done) | (simp [*]; done)), (by first | rfl | (simp; done) | (simp [*]; done)), H', ⟨Nat.le_refl _⟩, ⟨by (with_reducible repeat (first | apply Kd.S_alloc | apply Kd.S_drewN | apply Kd.S_drew)); exact HO_3.out⟩, ⟨by (with_reducible repeat (first | apply Kd.R_alloc | apply Kd.R_drewN | apply Kd.R_drew)); exact HO_5.out⟩, ⟨by (with_reducible repeat (first | refine blk_drewN ?_ _ | refine blk_drew ?_ | refine blk_alloc ?_ _)); exact BK241.out⟩, ⟨by repeat (first | (with_reducible first | exact HB.out | apply below_alloc | apply pw_below_drewN | apply below_drew1 | refine below_set ?_ GE241.out) | exact HB.out)⟩⟩
          clear H'
          try clear c2
          try clear p2
          try clear c3
          try clear c3b0
          try clear c5
          try clear c5b0
          try clear hcz4_0
          try clear hcz4_1
          try clear hcz6_0
          try clear hcz6_1
          try clear hfz4_0
          try clear hfz4_1
          try clear hfz6_0
          try clear hfz6_1
          try clear p2
          obtain ⟨x7_3, x8_3, rfl, rfl, HA, HK3, HO_3, HO_5, BK241, HB⟩ := hrel
          cases gk with
          | zero => exact absurd HA.out (by simp [marblerunref11_Change.l2])
          | succ k3 =>
            have H := HA.out
            clear HA
            simp only [marblerunref11_Change.l2] at H
            by_cases c7 : 0 ≤ x6_2
            case neg => rw [if_neg c7] at H; exact absurd H (by simp)
            rw [if_pos c7] at H
            have c7b0 : decide (0 ≤ x6_2) = true := decide_eq_true c7
            clear c7
            by_cases c8 : x6_2 < (l0_1.length : Int)
            case neg => rw [if_neg c8] at H; exact absurd H (by simp)
            rw [if_pos c8] at H
            have c8b0 : decide (x6_2 < (l0_1.length : Int)) = true := decide_eq_true c8
            clear c8
            by_cases c9 : x8_3 < (((rd_T64 l0_1 x6_2).f5).length : Int)
            · rw [if_pos c9] at H
              have c9b0 : decide (x8_3 < (((rd_T64 l0_1 x6_2).f5).length : Int)) = true := decide_eq_true c9
              clear c9
              by_cases c10 : 0 ≤ x8_3
              case neg => rw [if_neg c10] at H; exact absurd H (by simp)
              rw [if_pos c10] at H
              have c10b0 : decide (0 ≤ x8_3) = true := decide_eq_true c10
              clear c10
              by_cases c11 : ((rd_T66 ((rd_T64 l0_1 x6_2).f5) x8_3).f0) = x4_1
              · rw [if_pos c11] at H
                have c11b0 : (((rd_T66 ((rd_T64 l0_1 x6_2).f5) x8_3).f0) == x4_1) = true := beq_iff_eq.mpr c11
                have c11b1 : (((rd_T66 ((rd_T64 l0_1 x6_2).f5) x8_3).f0) != x4_1) = false := bne_eq_false_iff_eq.mpr c11
                clear c11
                have H' := Aside0.mk H
                clear H
                have hcz12_0 : wr.cell? ⟨gb241, 0, none⟩ = some (.slice A0_0 l0_0.length c0_0) := (blk_cell BK241.out 0).trans rfl
                have hcz12_1 : wr.cell? ⟨gb241, 1, none⟩ = some (.slice A0_1 l0_1.length c0_1) := (blk_cell BK241.out 1).trans rfl
                have hfz12_0 := blk_frozen BK241.out 0
                have hfz12_1 := blk_frozen BK241.out 1
                have p245 : 0 ≤ (x6_2 : Int) := of_decide_eq_true (by first | (with_reducible assumption) | assumption)
                have q245 : x6_2 < (l0_1.length : Int) := of_decide_eq_true (by first | (with_reducible assumption) | assumption)
                obtain ⟨ad245, A245_3, c245_3, A245_4, c245_4, A245_5, c245_5, e245, hx245_0, hx245_1, hx245_2, hx245_3, hx245_4, hx245_5, hl245_3, hi245_3, hl245_4, hi245_4, hl245_5, hi245_5⟩ := at_T64 HR0_1.out x6_2 p245 q245
                cases e245
                replace hx245_0 := (HB.out.cell (World.block_lt_of_cell? w _ hx245_0)).trans hx245_0
                replace hx245_1 := (HB.out.cell (World.block_lt_of_cell? w _ hx245_1)).trans hx245_1
                replace hx245_2 := (HB.out.cell (World.block_lt_of_cell? w _ hx245_2)).trans hx245_2
                replace hx245_3 := (HB.out.cell (World.block_lt_of_cell? w _ hx245_3)).trans hx245_3
                replace hx245_4 := (HB.out.cell (World.block_lt_of_cell? w _ hx245_4)).trans hx245_4
                replace hx245_5 := (HB.out.cell (World.block_lt_of_cell? w _ hx245_5)).trans hx245_5
                have HR245_3 := Aside0.mk hi245_3
                have HC245_3 := Aside0.mk hl245_3
                clear hi245_3 hl245_3
                have HR245_4 := Aside0.mk hi245_4
                have HC245_4 := Aside0.mk hl245_4
                clear hi245_4 hl245_4
                have HR245_5 := Aside0.mk hi245_5
                have HC245_5 := Aside0.mk hl245_5
                clear hi245_5 hl245_5
                replace p245 := eq_true p245
                replace q245 := eq_true q245
                have p246 : 0 ≤ (x6_2 : Int) := of_decide_eq_true (by first | (with_reducible assumption) | assumption)
                have q246 : x6_2 < (l0_1.length : Int) := of_decide_eq_true (by first | (with_reducible assumption) | assumption)
                obtain ⟨ad246, A246_3, c246_3, A246_4, c246_4, A246_5, c246_5, e246, hx246_0, hx246_1, hx246_2, hx246_3, hx246_4, hx246_5, hl246_3, hi246_3, hl246_4, hi246_4, hl246_5, hi246_5⟩ := at_T64 HR0_1.out x6_2 p246 q246
                obtain rfl : ad245 = ad246 := (by injection e246)
                replace hx246_0 := (HB.out.cell (World.block_lt_of_cell? w _ hx246_0)).trans hx246_0
                replace hx246_1 := (HB.out.cell (World.block_lt_of_cell? w _ hx246_1)).trans hx246_1
                replace hx246_2 := (HB.out.cell (World.block_lt_of_cell? w _ hx246_2)).trans hx246_2
                replace hx246_3 := (HB.out.cell (World.block_lt_of_cell? w _ hx246_3)).trans hx246_3
                replace hx246_4 := (HB.out.cell (World.block_lt_of_cell? w _ hx246_4)).trans hx246_4
                replace hx246_5 := (HB.out.cell (World.block_lt_of_cell? w _ hx246_5)).trans hx246_5
                have HR246_3 := Aside0.mk hi246_3
                have HC246_3 := Aside0.mk hl246_3
                clear hi246_3 hl246_3
                have HR246_4 := Aside0.mk hi246_4
                have HC246_4 := Aside0.mk hl246_4
                clear hi246_4 hl246_4
                have HR246_5 := Aside0.mk hi246_5
                have HC246_5 := Aside0.mk hl246_5
                clear hi246_5 hl246_5
                replace p246 := eq_true p246
                replace q246 := eq_true q246
                have ea_ := Option.some.inj (hx245_3.symm.trans hx246_3)
                injection ea_ with ea_ en_ ec_
                subst ea_
                subst ec_
                clear en_
                have ea_ := Option.some.inj (hx245_4.symm.trans hx246_4)
                injection ea_ with ea_ en_ ec_
                subst ea_
                subst ec_
                clear en_
                have ea_ := Option.some.inj (hx245_5.symm.trans hx246_5)
                injection ea_ with ea_ en_ ec_
                subst ea_
                subst ec_
                clear en_
                have p247 : 0 ≤ (x8_3 : Int) := of_decide_eq_true (by first | (with_reducible assumption) | assumption)
                have q247 : x8_3 < (((rd_T64 l0_1 x6_2).f5).length : Int) := of_decide_eq_true (by first | (with_reducible assumption) | assumption)
                obtain ⟨ad247, e247, hx247_0, hx247_1⟩ := at_T66 HR246_5.out x8_3 p247 q247
                cases e247
                replace hx247_0 := (HB.out.cell (World.block_lt_of_cell? w _ hx247_0)).trans hx247_0
                replace hx247_1 := (HB.out.cell (World.block_lt_of_cell? w _ hx247_1)).trans hx247_1
                replace p247 := eq_true p247
                replace q247 := eq_true q247
                have p248 : 0 ≤ (x6_2 : Int) := of_decide_eq_true (by first | (with_reducible assumption) | assumption)
                have q248 : x6_2 < (l0_1.length : Int) := of_decide_eq_true (by first | (with_reducible assumption) | assumption)
                obtain ⟨ad248, A248_3, c248_3, A248_4, c248_4, A248_5, c248_5, e248, hx248_0, hx248_1, hx248_2, hx248_3, hx248_4, hx248_5, hl248_3, hi248_3, hl248_4, hi248_4, hl248_5, hi248_5⟩ := at_T64 HR0_1.out x6_2 p248 q248
                obtain rfl : ad245 = ad248 := (by injection e248)
                replace hx248_0 := (HB.out.cell (World.block_lt_of_cell? w _ hx248_0)).trans hx248_0
                replace hx248_1 := (HB.out.cell (World.block_lt_of_cell? w _ hx248_1)).trans hx248_1
                replace hx248_2 := (HB.out.cell (World.block_lt_of_cell? w _ hx248_2)).trans hx248_2
                replace hx248_3 := (HB.out.cell (World.block_lt_of_cell? w _ hx248_3)).trans hx248_3
                replace hx248_4 := (HB.out.cell (World.block_lt_of_cell? w _ hx248_4)).trans hx248_4
                replace hx248_5 := (HB.out.cell (World.block_lt_of_cell? w _ hx248_5)).trans hx248_5
                have HR248_3 := Aside0.mk hi248_3
                have HC248_3 := Aside0.mk hl248_3
                clear hi248_3 hl248_3
                have HR248_4 := Aside0.mk hi248_4
                have HC248_4 := Aside0.mk hl248_4
                clear hi248_4 hl248_4
                have HR248_5 := Aside0.mk hi248_5
                have HC248_5 := Aside0.mk hl248_5
                clear hi248_5 hl248_5
                replace p248 := eq_true p248
                replace q248 := eq_true q248
                have ea_ := Option.some.inj (hx245_3.symm.trans hx248_3)
                injection ea_ with ea_ en_ ec_
                subst ea_
                subst ec_
                clear en_
                have ea_ := Option.some.inj (hx245_4.symm.trans hx248_4)
                injection ea_ with ea_ en_ ec_
                subst ea_
                subst ec_
                clear en_
                have ea_ := Option.some.inj (hx245_5.symm.trans hx248_5)
                injection ea_ with ea_ en_ ec_
                subst ea_
                subst ec_
                clear en_
                have p249 : 0 ≤ (x8_3 : Int) := of_decide_eq_true (by first | (with_reducible assumption) | assumption)
                have q249 : x8_3 < (((rd_T64 l0_1 x6_2).f5).length : Int) := of_decide_eq_true (by first | (with_reducible assumption) | assumption)
                obtain ⟨ad249, e249, hx249_0, hx249_1⟩ := at_T66 HR248_5.out x8_3 p249 q249
                cases e249
                replace hx249_0 := (HB.out.cell (World.block_lt_of_cell? w _ hx249_0)).trans hx249_0
                replace hx249_1 := (HB.out.cell (World.block_lt_of_cell? w _ hx249_1)).trans hx249_1
                replace p249 := eq_true p249
                replace q249 := eq_true q249
                go_wp2
                go_roundg k3
                case measure => have := HK1.out; have := HK2.out; have := HK3.out; omega
                case rel => exact ⟨(wrap64 (x7_3 + ((rd_T66 ((rd_T64 l0_1 x6_2).f5) x8_3).f1))), (wrap64 (x8_3 + 1)), (by first | rfl | (simp; done) | (simp [*]; done)), (by first | rfl | (simp; done) | (simp [*]; done)), H', ⟨by have := HK1.out; have := HK2.out; have := HK3.out; omega⟩, ⟨by (with_reducible repeat (first | apply Kd.S_alloc | apply Kd.S_drewN | apply Kd.S_drew)); exact HO_3.out⟩, ⟨by (with_reducible repeat (first | apply Kd.R_alloc | apply Kd.R_drewN | apply Kd.R_drew)); exact HO_5.out⟩, ⟨by (with_reducible repeat (first | refine blk_drewN ?_ _ | refine blk_drew ?_ | refine blk_alloc ?_ _)); exact BK241.out⟩, ⟨by repeat (first | (with_reducible first | exact HB.out | apply below_alloc | apply pw_below_drewN | apply below_drew1 | refine below_set ?_ GE241.out) | exact HB.out)⟩⟩
              rw [if_neg c11] at H
              have c11b0 : (((rd_T66 ((rd_T64 l0_1 x6_2).f5) x8_3).f0) == x4_1) = false := beq_eq_false_iff_ne.mpr c11
              have c11b1 : (((rd_T66 ((rd_T64 l0_1 x6_2).f5) x8_3).f0) != x4_1) = true := bne_iff_ne.mpr c11
              have H' := Aside0.mk H
              clear H
              have hcz13_0 : wr.cell? ⟨gb241, 0, none⟩ = some (.slice A0_0 l0_0.length c0_0) := (blk_cell BK241.out 0).trans rfl
              have hcz13_1 : wr.cell? ⟨gb241, 1, none⟩ = some (.slice A0_1 l0_1.length c0_1) := (blk_cell BK241.out 1).trans rfl
              have hfz13_0 := blk_frozen BK241.out 0
              have hfz13_1 := blk_frozen BK241.out 1
              have p245 : 0 ≤ (x6_2 : Int) := of_decide_eq_true (by first | (with_reducible assumption) | assumption)
              have q245 : x6_2 < (l0_1.length : Int) := of_decide_eq_true (by first | (with_reducible assumption) | assumption)
              obtain ⟨ad245, A245_3, c245_3, A245_4, c245_4, A245_5, c245_5, e245, hx245_0, hx245_1, hx245_2, hx245_3, hx245_4, hx245_5, hl245_3, hi245_3, hl245_4, hi245_4, hl245_5, hi245_5⟩ := at_T64 HR0_1.out x6_2 p245 q245
              cases e245
              replace hx245_0 := (HB.out.cell (World.block_lt_of_cell? w _ hx245_0)).trans hx245_0
              replace hx245_1 := (HB.out.cell (World.block_lt_of_cell? w _ hx245_1)).trans hx245_1
              replace hx245_2 := (HB.out.cell (World.block_lt_of_cell? w _ hx245_2)).trans hx245_2
              replace hx245_3 := (HB.out.cell (World.block_lt_of_cell? w _ hx245_3)).trans hx245_3
              replace hx245_4 := (HB.out.cell (World.block_lt_of_cell? w _ hx245_4)).trans hx245_4
              replace hx245_5 := (HB.out.cell (World.block_lt_of_cell? w _ hx245_5)).trans hx245_5
              have HR245_3 := Aside0.mk hi245_3
              have HC245_3 := Aside0.mk hl245_3
              clear hi245_3 hl245_3
              have HR245_4 := Aside0.mk hi245_4
              have HC245_4 := Aside0.mk hl245_4
              clear hi245_4 hl245_4
              have HR245_5 := Aside0.mk hi245_5
              have HC245_5 := Aside0.mk hl245_5
              clear hi245_5 hl245_5
              replace p245 := eq_true p245
              replace q245 := eq_true q245
              have p246 : 0 ≤ (x6_2 : Int) := of_decide_eq_true (by first | (with_reducible assumption) | assumption)
              have q246 : x6_2 < (l0_1.length : Int) := of_decide_eq_true (by first | (with_reducible assumption) | assumption)
              obtain ⟨ad246, A246_3, c246_3, A246_4, c246_4, A246_5, c246_5, e246, hx246_0, hx246_1, hx246_2, hx246_3, hx246_4, hx246_5, hl246_3, hi246_3, hl246_4, hi246_4, hl246_5, hi246_5⟩ := at_T64 HR0_1.out x6_2 p246 q246
              obtain rfl : ad245 = ad246 := (by injection e246)
              replace hx246_0 := (HB.out.cell (World.block_lt_of_cell? w _ hx246_0)).trans hx246_0
              replace hx246_1 := (HB.out.cell (World.block_lt_of_cell? w _ hx246_1)).trans hx246_1
              replace hx246_2 := (HB.out.cell (World.block_lt_of_cell? w _ hx246_2)).trans hx246_2
              replace hx246_3 := (HB.out.cell (World.block_lt_of_cell? w _ hx246_3)).trans hx246_3
              replace hx246_4 := (HB.out.cell (World.block_lt_of_cell? w _ hx246_4)).trans hx246_4
              replace hx246_5 := (HB.out.cell (World.block_lt_of_cell? w _ hx246_5)).trans hx246_5
              have HR246_3 := Aside0.mk hi246_3
              have HC246_3 := Aside0.mk hl246_3
              clear hi246_3 hl246_3
              have HR246_4 := Aside0.mk hi246_4
              have HC246_4 := Aside0.mk hl246_4
              clear hi246_4 hl246_4
              have HR246_5 := Aside0.mk hi246_5
              have HC246_5 := Aside0.mk hl246_5
              clear hi246_5 hl246_5
              replace p246 := eq_true p246
              replace q246 := eq_true q246
              have ea_ := Option.some.inj (hx245_3.symm.trans hx246_3)
              injection ea_ with ea_ en_ ec_
              subst ea_
              subst ec_
              clear en_
              have ea_ := Option.some.inj (hx245_4.symm.trans hx246_4)
              injection ea_ with ea_ en_ ec_
              subst ea_
              subst ec_
              clear en_
              have ea_ := Option.some.inj (hx245_5.symm.trans hx246_5)
              injection ea_ with ea_ en_ ec_
              subst ea_
              subst ec_
              clear en_
              have p247 : 0 ≤ (x8_3 : Int) := of_decide_eq_true (by first | (with_reducible assumption) | assumption)
              have q247 : x8_3 < (((rd_T64 l0_1 x6_2).f5).length : Int) := of_decide_eq_true (by first | (with_reducible assumption) | assumption)
              obtain ⟨ad247, e247, hx247_0, hx247_1⟩ := at_T66 HR246_5.out x8_3 p247 q247
              cases e247
              replace hx247_0 := (HB.out.cell (World.block_lt_of_cell? w _ hx247_0)).trans hx247_0
              replace hx247_1 := (HB.out.cell (World.block_lt_of_cell? w _ hx247_1)).trans hx247_1
              replace p247 := eq_true p247
              replace q247 := eq_true q247
              go_wp2
              go_roundg k3
              case measure => have := HK1.out; have := HK2.out; have := HK3.out; omega
              case rel => exact ⟨(x7_3), (wrap64 (x8_3 + 1)), (by first | rfl | (simp; done) | (simp [*]; done)), (by first | rfl | (simp; done) | (simp [*]; done)), H', ⟨by have := HK1.out; have := HK2.out; have := HK3.out; omega⟩, ⟨by (with_reducible repeat (first | apply Kd.S_alloc | apply Kd.S_drewN | apply Kd.S_drew)); exact HO_3.out⟩, ⟨by (with_reducible repeat (first | apply Kd.R_alloc | apply Kd.R_drewN | apply Kd.R_drew)); exact HO_5.out⟩, ⟨by (with_reducible repeat (first | refine blk_drewN ?_ _ | refine blk_drew ?_ | refine blk_alloc ?_ _)); exact BK241.out⟩, ⟨by repeat (first | (with_reducible first | exact HB.out | apply below_alloc | apply pw_below_drewN | apply below_drew1 | refine below_set ?_ GE241.out) | exact HB.out)⟩⟩
            rw [if_neg c9] at H
            have c9b0 : decide (x8_3 < (((rd_T64 l0_1 x6_2).f5).length : Int)) = false := decide_eq_false c9
            clear c9
            have H' := Aside0.mk H
            clear H
            have hcz14_0 : wr.cell? ⟨gb241, 0, none⟩ = some (.slice A0_0 l0_0.length c0_0) := (blk_cell BK241.out 0).trans rfl
            have hcz14_1 : wr.cell? ⟨gb241, 1, none⟩ = some (.slice A0_1 l0_1.length c0_1) := (blk_cell BK241.out 1).trans rfl
            have hfz14_0 := blk_frozen BK241.out 0
            have hfz14_1 := blk_frozen BK241.out 1
            have p245 : 0 ≤ (x6_2 : Int) := of_decide_eq_true (by first | (with_reducible assumption) | assumption)
            have q245 : x6_2 < (l0_1.length : Int) := of_decide_eq_true (by first | (with_reducible assumption) | assumption)
            obtain ⟨ad245, A245_3, c245_3, A245_4, c245_4, A245_5, c245_5, e245, hx245_0, hx245_1, hx245_2, hx245_3, hx245_4, hx245_5, hl245_3, hi245_3, hl245_4, hi245_4, hl245_5, hi245_5⟩ := at_T64 HR0_1.out x6_2 p245 q245
            cases e245
            replace hx245_0 := (HB.out.cell (World.block_lt_of_cell? w _ hx245_0)).trans hx245_0
            replace hx245_1 := (HB.out.cell (World.block_lt_of_cell? w _ hx245_1)).trans hx245_1
            replace hx245_2 := (HB.out.cell (World.block_lt_of_cell? w _ hx245_2)).trans hx245_2
            replace hx245_3 := (HB.out.cell (World.block_lt_of_cell? w _ hx245_3)).trans hx245_3
            replace hx245_4 := (HB.out.cell (World.block_lt_of_cell? w _ hx245_4)).trans hx245_4
            replace hx245_5 := (HB.out.cell (World.block_lt_of_cell? w _ hx245_5)).trans hx245_5
            have HR245_3 := Aside0.mk hi245_3
            have HC245_3 := Aside0.mk hl245_3
            clear hi245_3 hl245_3
            have HR245_4 := Aside0.mk hi245_4
            have HC245_4 := Aside0.mk hl245_4
            clear hi245_4 hl245_4
            have HR245_5 := Aside0.mk hi245_5
            have HC245_5 := Aside0.mk hl245_5
            clear hi245_5 hl245_5
            replace p245 := eq_true p245
            replace q245 := eq_true q245
            go_wp2
            go_loopg [7, 9] k3 (fun kq v7 v9 w' => ∃ (x7_4 : Int) (x9_4 : Int), v7 = .int .i64 x7_4 ∧ v9 = .int .i64 x9_4 ∧ Aside0 (marblerunref11_Change.l3 kq x3_1 x4_1 x5_2 x6_2 x7_4 x9_4 l0_0 l0_1 = some r) ∧ Aside0 (kq ≤ k3) ∧ Aside0 (Kd.S (Kd.slice 3 (Kd.int .i64)) 22 w' w.heap.size (fun k_ => some k_ ≠ (u5 : Value).ownBlock) u3 x3_1) ∧ Aside0 (Kd.R (Kd.int .i64) 3 w' w.heap.size (fun _ => True) u5 x5_2) ∧ Aside0 (w'.heap[gb241]? = some (.cells #[(.slice A0_0 l0_0.length c0_0), (.slice (some ad245) l0_1.length c0_1)] 34 (0, 0))) ∧ Aside0 (Below w.heap.size w w'))
            case atStart => exact ⟨(x7_3), (0), (by first | rfl | (simp; done) | (simp [*]; done)), (by first | rfl | (simp; done) | (simp [*]; done)), H', ⟨Nat.le_refl _⟩, ⟨by (with_reducible repeat (first | apply Kd.S_alloc | apply Kd.S_drewN | apply Kd.S_drew)); exact HO_3.out⟩, ⟨by (with_reducible repeat (first | apply Kd.R_alloc | apply Kd.R_drewN | apply Kd.R_drew)); exact HO_5.out⟩, ⟨by (with_reducible repeat (first | refine blk_drewN ?_ _ | refine blk_drew ?_ | refine blk_alloc ?_ _)); exact BK241.out⟩, ⟨by repeat (first | (with_reducible first | exact HB.out | apply below_alloc | apply pw_below_drewN | apply below_drew1 | refine below_set ?_ GE241.out) | exact HB.out)⟩⟩
            clear H'
            try clear c1
            try clear c2
            try clear p2
            try clear q2
            try clear hx2
            try clear c3
            try clear c3b0
            try clear c5
            try clear c5b0
            try clear p6
            try clear c7
            try clear c7b0
            try clear c8
            try clear c8b0
            try clear c9
            try clear c9b0
            try clear c10
            try clear c10b0
            try clear c11
            try clear c11b0
            try clear c11b1
            try clear hcz12_0
            try clear hcz12_1
            try clear hcz13_0
            try clear hcz13_1
            try clear hcz14_0
            try clear hcz14_1
            try clear hcz4_0
            try clear hcz4_1
            try clear hcz6_0
            try clear hcz6_1
            try clear hfz12_0
            try clear hfz12_1
            try clear hfz13_0
            try clear hfz13_1
            try clear hfz14_0
            try clear hfz14_1
            try clear hfz4_0
            try clear hfz4_1
            try clear hfz6_0
            try clear hfz6_1
            try clear hx245_0
            try clear hx245_1
            try clear hx245_2
            try clear hx245_3
            try clear hx245_4
            try clear hx245_5
            try clear hx246_0
            try clear hx246_1
            try clear hx246_2
            try clear hx246_3
            try clear hx246_4
            try clear hx246_5
            try clear hx247_0
            try clear hx247_1
            try clear hx248_0
            try clear hx248_1
            try clear hx248_2
            try clear hx248_3
            try clear hx248_4
            try clear hx248_5
            try clear hx249_0
            try clear hx249_1
            try clear p2
            try clear p245
            try clear p246
            try clear p247
            try clear p248
            try clear p249
            try clear q245
            try clear q246
            try clear q247
            try clear q248
            try clear q249
            obtain ⟨x7_4, x9_4, rfl, rfl, HA, HK4, HO_3, HO_5, BK241, HB⟩ := hrel
            cases gk with
            | zero => exact absurd HA.out (by simp [marblerunref11_Change.l3])
            | succ k4 =>
              have H := HA.out
              clear HA
              simp only [marblerunref11_Change.l3] at H
              by_cases c15 : 0 ≤ x6_2
              case neg => rw [if_neg c15] at H; exact absurd H (by simp)
              rw [if_pos c15] at H
              have c15b0 : decide (0 ≤ x6_2) = true := decide_eq_true c15
              clear c15
              by_cases c16 : x6_2 < (l0_1.length : Int)
              case neg => rw [if_neg c16] at H; exact absurd H (by simp)
              rw [if_pos c16] at H
              have c16b0 : decide (x6_2 < (l0_1.length : Int)) = true := decide_eq_true c16
              clear c16
              by_cases c17 : x9_4 < (((rd_T64 l0_1 x6_2).f3).length : Int)
              · rw [if_pos c17] at H
                have c17b0 : decide (x9_4 < (((rd_T64 l0_1 x6_2).f3).length : Int)) = true := decide_eq_true c17
                clear c17
                by_cases c18 : 0 ≤ x9_4
                case neg => rw [if_neg c18] at H; exact absurd H (by simp)
                rw [if_pos c18] at H
                have c18b0 : decide (0 ≤ x9_4) = true := decide_eq_true c18
                clear c18
                by_cases c19 : ((rd_T66 ((rd_T64 l0_1 x6_2).f3) x9_4).f0) = x4_1
                · rw [if_pos c19] at H
                  have c19b0 : (((rd_T66 ((rd_T64 l0_1 x6_2).f3) x9_4).f0) == x4_1) = true := beq_iff_eq.mpr c19
                  have c19b1 : (((rd_T66 ((rd_T64 l0_1 x6_2).f3) x9_4).f0) != x4_1) = false := bne_eq_false_iff_eq.mpr c19
                  clear c19
                  have H' := Aside0.mk H
                  clear H
                  have hcz20_0 : wr.cell? ⟨gb241, 0, none⟩ = some (.slice A0_0 l0_0.length c0_0) := (blk_cell BK241.out 0).trans rfl
                  have hcz20_1 : wr.cell? ⟨gb241, 1, none⟩ = some (.slice (some ad245) l0_1.length c0_1) := (blk_cell BK241.out 1).trans rfl
                  have hfz20_0 := blk_frozen BK241.out 0
                  have hfz20_1 := blk_frozen BK241.out 1
                  have p250 : 0 ≤ (x6_2 : Int) := of_decide_eq_true (by first | (with_reducible assumption) | assumption)
                  have q250 : x6_2 < (l0_1.length : Int) := of_decide_eq_true (by first | (with_reducible assumption) | assumption)
                  obtain ⟨ad250, A250_3, c250_3, A250_4, c250_4, A250_5, c250_5, e250, hx250_0, hx250_1, hx250_2, hx250_3, hx250_4, hx250_5, hl250_3, hi250_3, hl250_4, hi250_4, hl250_5, hi250_5⟩ := at_T64 HR0_1.out x6_2 p250 q250
                  obtain rfl : ad245 = ad250 := (by injection e250)
                  replace hx250_0 := (HB.out.cell (World.block_lt_of_cell? w _ hx250_0)).trans hx250_0
                  replace hx250_1 := (HB.out.cell (World.block_lt_of_cell? w _ hx250_1)).trans hx250_1
                  replace hx250_2 := (HB.out.cell (World.block_lt_of_cell? w _ hx250_2)).trans hx250_2
                  replace hx250_3 := (HB.out.cell (World.block_lt_of_cell? w _ hx250_3)).trans hx250_3
                  replace hx250_4 := (HB.out.cell (World.block_lt_of_cell? w _ hx250_4)).trans hx250_4
                  replace hx250_5 := (HB.out.cell (World.block_lt_of_cell? w _ hx250_5)).trans hx250_5
                  have HR250_3 := Aside0.mk hi250_3
                  have HC250_3 := Aside0.mk hl250_3
                  clear hi250_3 hl250_3
                  have HR250_4 := Aside0.mk hi250_4
                  have HC250_4 := Aside0.mk hl250_4
                  clear hi250_4 hl250_4
                  have HR250_5 := Aside0.mk hi250_5
                  have HC250_5 := Aside0.mk hl250_5
                  clear hi250_5 hl250_5
                  replace p250 := eq_true p250
                  replace q250 := eq_true q250
                  have p251 : 0 ≤ (x6_2 : Int) := of_decide_eq_true (by first | (with_reducible assumption) | assumption)
                  have q251 : x6_2 < (l0_1.length : Int) := of_decide_eq_true (by first | (with_reducible assumption) | assumption)
                  obtain ⟨ad251, A251_3, c251_3, A251_4, c251_4, A251_5, c251_5, e251, hx251_0, hx251_1, hx251_2, hx251_3, hx251_4, hx251_5, hl251_3, hi251_3, hl251_4, hi251_4, hl251_5, hi251_5⟩ := at_T64 HR0_1.out x6_2 p251 q251
                  obtain rfl : ad245 = ad251 := (by injection e251)
                  replace hx251_0 := (HB.out.cell (World.block_lt_of_cell? w _ hx251_0)).trans hx251_0
                  replace hx251_1 := (HB.out.cell (World.block_lt_of_cell? w _ hx251_1)).trans hx251_1
                  replace hx251_2 := (HB.out.cell (World.block_lt_of_cell? w _ hx251_2)).trans hx251_2
                  replace hx251_3 := (HB.out.cell (World.block_lt_of_cell? w _ hx251_3)).trans hx251_3
                  replace hx251_4 := (HB.out.cell (World.block_lt_of_cell? w _ hx251_4)).trans hx251_4
                  replace hx251_5 := (HB.out.cell (World.block_lt_of_cell? w _ hx251_5)).trans hx251_5
                  have HR251_3 := Aside0.mk hi251_3
                  have HC251_3 := Aside0.mk hl251_3
                  clear hi251_3 hl251_3
                  have HR251_4 := Aside0.mk hi251_4
                  have HC251_4 := Aside0.mk hl251_4
                  clear hi251_4 hl251_4
                  have HR251_5 := Aside0.mk hi251_5
                  have HC251_5 := Aside0.mk hl251_5
                  clear hi251_5 hl251_5
                  replace p251 := eq_true p251
                  replace q251 := eq_true q251
                  have ea_ := Option.some.inj (hx250_3.symm.trans hx251_3)
                  injection ea_ with ea_ en_ ec_
                  subst ea_
                  subst ec_
                  clear en_
                  have ea_ := Option.some.inj (hx250_4.symm.trans hx251_4)
                  injection ea_ with ea_ en_ ec_
                  subst ea_
                  subst ec_
                  clear en_
                  have ea_ := Option.some.inj (hx250_5.symm.trans hx251_5)
                  injection ea_ with ea_ en_ ec_
                  subst ea_
                  subst ec_
                  clear en_
                  have p252 : 0 ≤ (x9_4 : Int) := of_decide_eq_true (by first | (with_reducible assumption) | assumption)
                  have q252 : x9_4 < (((rd_T64 l0_1 x6_2).f3).length : Int) := of_decide_eq_true (by first | (with_reducible assumption) | assumption)
                  obtain ⟨ad252, e252, hx252_0, hx252_1⟩ := at_T66 HR251_3.out x9_4 p252 q252
                  cases e252
                  replace hx252_0 := (HB.out.cell (World.block_lt_of_cell? w _ hx252_0)).trans hx252_0
                  replace hx252_1 := (HB.out.cell (World.block_lt_of_cell? w _ hx252_1)).trans hx252_1
                  replace p252 := eq_true p252
                  replace q252 := eq_true q252
                  have p253 : 0 ≤ (x6_2 : Int) := of_decide_eq_true (by first | (with_reducible assumption) | assumption)
                  have q253 : x6_2 < (l0_1.length : Int) := of_decide_eq_true (by first | (with_reducible assumption) | assumption)
                  obtain ⟨ad253, A253_3, c253_3, A253_4, c253_4, A253_5, c253_5, e253, hx253_0, hx253_1, hx253_2, hx253_3, hx253_4, hx253_5, hl253_3, hi253_3, hl253_4, hi253_4, hl253_5, hi253_5⟩ := at_T64 HR0_1.out x6_2 p253 q253
                  obtain rfl : ad245 = ad253 := (by injection e253)
                  replace hx253_0 := (HB.out.cell (World.block_lt_of_cell? w _ hx253_0)).trans hx253_0
                  replace hx253_1 := (HB.out.cell (World.block_lt_of_cell? w _ hx253_1)).trans hx253_1
                  replace hx253_2 := (HB.out.cell (World.block_lt_of_cell? w _ hx253_2)).trans hx253_2
                  replace hx253_3 := (HB.out.cell (World.block_lt_of_cell? w _ hx253_3)).trans hx253_3
                  replace hx253_4 := (HB.out.cell (World.block_lt_of_cell? w _ hx253_4)).trans hx253_4
                  replace hx253_5 := (HB.out.cell (World.block_lt_of_cell? w _ hx253_5)).trans hx253_5
                  have HR253_3 := Aside0.mk hi253_3
                  have HC253_3 := Aside0.mk hl253_3
                  clear hi253_3 hl253_3
                  have HR253_4 := Aside0.mk hi253_4
                  have HC253_4 := Aside0.mk hl253_4
                  clear hi253_4 hl253_4
                  have HR253_5 := Aside0.mk hi253_5
                  have HC253_5 := Aside0.mk hl253_5
                  clear hi253_5 hl253_5
                  replace p253 := eq_true p253
                  replace q253 := eq_true q253
                  have ea_ := Option.some.inj (hx250_3.symm.trans hx253_3)
                  injection ea_ with ea_ en_ ec_
                  subst ea_
                  subst ec_
                  clear en_
                  have ea_ := Option.some.inj (hx250_4.symm.trans hx253_4)
                  injection ea_ with ea_ en_ ec_
                  subst ea_
                  subst ec_
                  clear en_
                  have ea_ := Option.some.inj (hx250_5.symm.trans hx253_5)
                  injection ea_ with ea_ en_ ec_
                  subst ea_
                  subst ec_
                  clear en_
                  have p254 : 0 ≤ (x9_4 : Int) := of_decide_eq_true (by first | (with_reducible assumption) | assumption)
                  have q254 : x9_4 < (((rd_T64 l0_1 x6_2).f3).length : Int) := of_decide_eq_true (by first | (with_reducible assumption) | assumption)
                  obtain ⟨ad254, e254, hx254_0, hx254_1⟩ := at_T66 HR253_3.out x9_4 p254 q254
                  cases e254
                  replace hx254_0 := (HB.out.cell (World.block_lt_of_cell? w _ hx254_0)).trans hx254_0
                  replace hx254_1 := (HB.out.cell (World.block_lt_of_cell? w _ hx254_1)).trans hx254_1
                  replace p254 := eq_true p254
                  replace q254 := eq_true q254
                  go_wp2
                  go_roundg k4
                  case measure => have := HK1.out; have := HK2.out; have := HK3.out; have := HK4.out; omega
                  case rel => exact ⟨(wrap64 (x7_4 - ((rd_T66 ((rd_T64 l0_1 x6_2).f3) x9_4).f1))), (wrap64 (x9_4 + 1)), (by first | rfl | (simp; done) | (simp [*]; done)), (by first | rfl | (simp; done) | (simp [*]; done)), H', ⟨by have := HK1.out; have := HK2.out; have := HK3.out; have := HK4.out; omega⟩, ⟨by (with_reducible repeat (first | apply Kd.S_alloc | apply Kd.S_drewN | apply Kd.S_drew)); exact HO_3.out⟩, ⟨by (with_reducible repeat (first | apply Kd.R_alloc | apply Kd.R_drewN | apply Kd.R_drew)); exact HO_5.out⟩, ⟨by (with_reducible repeat (first | refine blk_drewN ?_ _ | refine blk_drew ?_ | refine blk_alloc ?_ _)); exact BK241.out⟩, ⟨by repeat (first | (with_reducible first | exact HB.out | apply below_alloc | apply pw_below_drewN | apply below_drew1 | refine below_set ?_ GE241.out) | exact HB.out)⟩⟩
                rw [if_neg c19] at H
                have c19b0 : (((rd_T66 ((rd_T64 l0_1 x6_2).f3) x9_4).f0) == x4_1) = false := beq_eq_false_iff_ne.mpr c19
                have c19b1 : (((rd_T66 ((rd_T64 l0_1 x6_2).f3) x9_4).f0) != x4_1) = true := bne_iff_ne.mpr c19
                have H' := Aside0.mk H
                clear H
                have hcz21_0 : wr.cell? ⟨gb241, 0, none⟩ = some (.slice A0_0 l0_0.length c0_0) := (blk_cell BK241.out 0).trans rfl
                have hcz21_1 : wr.cell? ⟨gb241, 1, none⟩ = some (.slice (some ad245) l0_1.length c0_1) := (blk_cell BK241.out 1).trans rfl
                have hfz21_0 := blk_frozen BK241.out 0
                have hfz21_1 := blk_frozen BK241.out 1
                have p250 : 0 ≤ (x6_2 : Int) := of_decide_eq_true (by first | (with_reducible assumption) | assumption)
                have q250 : x6_2 < (l0_1.length : Int) := of_decide_eq_true (by first | (with_reducible assumption) | assumption)
                obtain ⟨ad250, A250_3, c250_3, A250_4, c250_4, A250_5, c250_5, e250, hx250_0, hx250_1, hx250_2, hx250_3, hx250_4, hx250_5, hl250_3, hi250_3, hl250_4, hi250_4, hl250_5, hi250_5⟩ := at_T64 HR0_1.out x6_2 p250 q250
                obtain rfl : ad245 = ad250 := (by injection e250)
                replace hx250_0 := (HB.out.cell (World.block_lt_of_cell? w _ hx250_0)).trans hx250_0
                replace hx250_1 := (HB.out.cell (World.block_lt_of_cell? w _ hx250_1)).trans hx250_1
                replace hx250_2 := (HB.out.cell (World.block_lt_of_cell? w _ hx250_2)).trans hx250_2
                replace hx250_3 := (HB.out.cell (World.block_lt_of_cell? w _ hx250_3)).trans hx250_3
                replace hx250_4 := (HB.out.cell (World.block_lt_of_cell? w _ hx250_4)).trans hx250_4
                replace hx250_5 := (HB.out.cell (World.block_lt_of_cell? w _ hx250_5)).trans hx250_5
                have HR250_3 := Aside0.mk hi250_3
                have HC250_3 := Aside0.mk hl250_3
                clear hi250_3 hl250_3
                have HR250_4 := Aside0.mk hi250_4
                have HC250_4 := Aside0.mk hl250_4
                clear hi250_4 hl250_4
                have HR250_5 := Aside0.mk hi250_5
                have HC250_5 := Aside0.mk hl250_5
                clear hi250_5 hl250_5
                replace p250 := eq_true p250
                replace q250 := eq_true q250
                have p251 : 0 ≤ (x6_2 : Int) := of_decide_eq_true (by first | (with_reducible assumption) | assumption)
                have q251 : x6_2 < (l0_1.length : Int) := of_decide_eq_true (by first | (with_reducible assumption) | assumption)
                obtain ⟨ad251, A251_3, c251_3, A251_4, c251_4, A251_5, c251_5, e251, hx251_0, hx251_1, hx251_2, hx251_3, hx251_4, hx251_5, hl251_3, hi251_3, hl251_4, hi251_4, hl251_5, hi251_5⟩ := at_T64 HR0_1.out x6_2 p251 q251
                obtain rfl : ad245 = ad251 := (by injection e251)
                replace hx251_0 := (HB.out.cell (World.block_lt_of_cell? w _ hx251_0)).trans hx251_0
                replace hx251_1 := (HB.out.cell (World.block_lt_of_cell? w _ hx251_1)).trans hx251_1
                replace hx251_2 := (HB.out.cell (World.block_lt_of_cell? w _ hx251_2)).trans hx251_2
                replace hx251_3 := (HB.out.cell (World.block_lt_of_cell? w _ hx251_3)).trans hx251_3
                replace hx251_4 := (HB.out.cell (World.block_lt_of_cell? w _ hx251_4)).trans hx251_4
                replace hx251_5 := (HB.out.cell (World.block_lt_of_cell? w _ hx251_5)).trans hx251_5
                have HR251_3 := Aside0.mk hi251_3
                have HC251_3 := Aside0.mk hl251_3
                clear hi251_3 hl251_3
                have HR251_4 := Aside0.mk hi251_4
                have HC251_4 := Aside0.mk hl251_4
                clear hi251_4 hl251_4
                have HR251_5 := Aside0.mk hi251_5
                have HC251_5 := Aside0.mk hl251_5
                clear hi251_5 hl251_5
                replace p251 := eq_true p251
                replace q251 := eq_true q251
                have ea_ := Option.some.inj (hx250_3.symm.trans hx251_3)
                injection ea_ with ea_ en_ ec_
                subst ea_
                subst ec_
                clear en_
                have ea_ := Option.some.inj (hx250_4.symm.trans hx251_4)
                injection ea_ with ea_ en_ ec_
                subst ea_
                subst ec_
                clear en_
                have ea_ := Option.some.inj (hx250_5.symm.trans hx251_5)
                injection ea_ with ea_ en_ ec_
                subst ea_
                subst ec_
                clear en_
                have p252 : 0 ≤ (x9_4 : Int) := of_decide_eq_true (by first | (with_reducible assumption) | assumption)
                have q252 : x9_4 < (((rd_T64 l0_1 x6_2).f3).length : Int) := of_decide_eq_true (by first | (with_reducible assumption) | assumption)
                obtain ⟨ad252, e252, hx252_0, hx252_1⟩ := at_T66 HR251_3.out x9_4 p252 q252
                cases e252
                replace hx252_0 := (HB.out.cell (World.block_lt_of_cell? w _ hx252_0)).trans hx252_0
                replace hx252_1 := (HB.out.cell (World.block_lt_of_cell? w _ hx252_1)).trans hx252_1
                replace p252 := eq_true p252
                replace q252 := eq_true q252
                go_wp2
                go_roundg k4
                case measure => have := HK1.out; have := HK2.out; have := HK3.out; have := HK4.out; omega
                case rel => exact ⟨(x7_4), (wrap64 (x9_4 + 1)), (by first | rfl | (simp; done) | (simp [*]; done)), (by first | rfl | (simp; done) | (simp [*]; done)), H', ⟨by have := HK1.out; have := HK2.out; have := HK3.out; have := HK4.out; omega⟩, ⟨by (with_reducible repeat (first | apply Kd.S_alloc | apply Kd.S_drewN | apply Kd.S_drew)); exact HO_3.out⟩, ⟨by (with_reducible repeat (first | apply Kd.R_alloc | apply Kd.R_drewN | apply Kd.R_drew)); exact HO_5.out⟩, ⟨by (with_reducible repeat (first | refine blk_drewN ?_ _ | refine blk_drew ?_ | refine blk_alloc ?_ _)); exact BK241.out⟩, ⟨by repeat (first | (with_reducible first | exact HB.out | apply below_alloc | apply pw_below_drewN | apply below_drew1 | refine below_set ?_ GE241.out) | exact HB.out)⟩⟩
              rw [if_neg c17] at H
              have c17b0 : decide (x9_4 < (((rd_T64 l0_1 x6_2).f3).length : Int)) = false := decide_eq_false c17
              clear c17
              by_cases c22 : x5_2.length < 17592186044416
              case neg => rw [if_neg c22] at H; exact absurd H (by simp)
              rw [if_pos c22] at H
              have LMc22 := Aside0.mk c22
              clear c22
              obtain ⟨y255, hy255⟩ : ∃ y_ : List Int, y_ = (x5_2 ++ [x7_4]) := ⟨_, rfl⟩
              replace H : (marblerunref11_Change.l1 k4 x3_1 x4_1 y255 (wrap64 (x6_2 + 1)) l0_0 l0_1) = some r := by first | (rw [hy255]; with_reducible exact H) | (have H2_ := (Option.bind_some _ _).symm.trans H; rw [hy255]; with_reducible exact H2_) | (have H2_ := (Option.bind_some _ _).symm.trans H; with_reducible exact H2_) | with_reducible exact H | (rw [hy255]; exact H) | exact H
              have Ny255 := Aside0.mk hy255
              clear hy255
              have H' := Aside0.mk H
              clear H
              have hcz23_0 : wr.cell? ⟨gb241, 0, none⟩ = some (.slice A0_0 l0_0.length c0_0) := (blk_cell BK241.out 0).trans rfl
              have hcz23_1 : wr.cell? ⟨gb241, 1, none⟩ = some (.slice (some ad245) l0_1.length c0_1) := (blk_cell BK241.out 1).trans rfl
              have hfz23_0 := blk_frozen BK241.out 0
              have hfz23_1 := blk_frozen BK241.out 1
              have p250 : 0 ≤ (x6_2 : Int) := of_decide_eq_true (by first | (with_reducible assumption) | assumption)
              have q250 : x6_2 < (l0_1.length : Int) := of_decide_eq_true (by first | (with_reducible assumption) | assumption)
              obtain ⟨ad250, A250_3, c250_3, A250_4, c250_4, A250_5, c250_5, e250, hx250_0, hx250_1, hx250_2, hx250_3, hx250_4, hx250_5, hl250_3, hi250_3, hl250_4, hi250_4, hl250_5, hi250_5⟩ := at_T64 HR0_1.out x6_2 p250 q250
              obtain rfl : ad245 = ad250 := (by injection e250)
              replace hx250_0 := (HB.out.cell (World.block_lt_of_cell? w _ hx250_0)).trans hx250_0
              replace hx250_1 := (HB.out.cell (World.block_lt_of_cell? w _ hx250_1)).trans hx250_1
              replace hx250_2 := (HB.out.cell (World.block_lt_of_cell? w _ hx250_2)).trans hx250_2
              replace hx250_3 := (HB.out.cell (World.block_lt_of_cell? w _ hx250_3)).trans hx250_3
              replace hx250_4 := (HB.out.cell (World.block_lt_of_cell? w _ hx250_4)).trans hx250_4
              replace hx250_5 := (HB.out.cell (World.block_lt_of_cell? w _ hx250_5)).trans hx250_5
              have HR250_3 := Aside0.mk hi250_3
              have HC250_3 := Aside0.mk hl250_3
              clear hi250_3 hl250_3
              have HR250_4 := Aside0.mk hi250_4
              have HC250_4 := Aside0.mk hl250_4
              clear hi250_4 hl250_4
              have HR250_5 := Aside0.mk hi250_5
              have HC250_5 := Aside0.mk hl250_5
              clear hi250_5 hl250_5
              replace p250 := eq_true p250
              replace q250 := eq_true q250
              go_wp2_with (first | ((with_reducible refine gate_builtin (b := .append) (xs := #[.tmp 94, .tmp 96]) rfl ?_); at_builtin; refine Kd.R_append (Kd.int .i64) (w0 := w) w.heap.size rfl (.tmp 94) (.tmp 96) 22 3 (.int .i64 0) 8 rfl Try.underlying22 info3 rfl (by decide) (by omega) u5 x5_2 x7_4 [.int .i64 x7_4] (fun _ => True) (fun _ => False) rfl rfl ?aP (fun _ hk => hk.elim) ?aF ?aO ?aB ?aS ?aL ?_; (case aP => exact rfl); (case aB => exact (by repeat (first | (with_reducible first | exact HB.out | apply below_alloc | apply pw_below_drewN | apply below_drew1 | refine below_set ?_ GE241.out) | exact HB.out))); (case aF => exact (fun _ _ => trivial)); (case aO => exact (kq_R HO_5.out)); (case aS => exact (below_size (by repeat (first | (with_reducible first | exact HB.out | apply below_alloc | apply pw_below_drewN | apply below_drew1 | refine below_set ?_ GE241.out) | exact HB.out)))); (case aL => have := LMc22.out; omega); intro v256 w24 ho hb hg hat; rw [← Ny255.out] at ho; have n0_ := Aside0.mk (Kd.S_after (ok := (fun _ => True)) (by (with_reducible repeat (first | apply Kd.S_alloc | apply Kd.S_drewN | apply Kd.S_drew)); exact Kd.S_mono HO_3.out (fun _ hk => ⟨trivial, hk⟩)) hg hat); have n1_ := Aside0.mk (blk_grown (g := gb241) (o := .cells #[.slice A0_0 l0_0.length c0_0, .slice (some ad245) l0_1.length c0_1] 34 (0, 0)) (bkq BK241.out) hg (Kd.R_ne HO_5.out BK241.out (by decide))); have n2_ := Aside0.mk (hb); have n3_ := Aside0.mk (ho); clear HO_3; clear BK241; clear HB; clear HO_5; have HO_3 := n0_; have BK241 := n1_; have HB := n2_; have HO257 := n3_; clear n0_ n1_ n2_ n3_; clear ho hb hg hat))
              go_roundg k4
              case measure => have := HK1.out; have := HK2.out; have := HK3.out; have := HK4.out; omega
              case rel => exact ⟨(y255), (wrap64 (x6_2 + 1)), (by first | rfl | (simp; done) | (simp [*]; done)), H', ⟨by have := HK1.out; have := HK2.out; have := HK3.out; have := HK4.out; omega⟩, ⟨by (with_reducible repeat (first | apply Kd.S_alloc | apply Kd.S_drewN | apply Kd.S_drew)); exact Kd.S_mono HO_3.out (fun _ hk => by first | exact hk.2 | exact trivial)⟩, ⟨by (with_reducible repeat (first | apply Kd.R_alloc | apply Kd.R_drewN | apply Kd.R_drew)); exact HO257.out⟩, ⟨by (with_reducible repeat (first | refine blk_drewN ?_ _ | refine blk_drew ?_ | refine blk_alloc ?_ _)); exact BK241.out⟩, ⟨by repeat (first | (with_reducible first | exact HB.out | apply below_alloc | apply pw_below_drewN | apply below_drew1 | refine below_set ?_ GE241.out) | exact HB.out)⟩⟩
        rw [if_neg c5] at H
        have c5b0 : decide (x6_2 < (l0_1.length : Int)) = false := decide_eq_false c5
        clear c5
        by_cases c25 : x3_1.length < 5864062014805
        case neg => rw [if_neg c25] at H; exact absurd H (by simp)
        rw [if_pos c25] at H
        have LMc25 := Aside0.mk c25
        clear c25
        obtain ⟨y242, hy242⟩ : ∃ y_ : List (List Int), y_ = (x3_1 ++ [x5_2]) := ⟨_, rfl⟩
        replace H : (marblerunref11_Change.l0 k2 y242 (wrap64 (x4_1 + 1)) l0_0 l0_1) = some r := by first | (rw [hy242]; with_reducible exact H) | (have H2_ := (Option.bind_some _ _).symm.trans H; rw [hy242]; with_reducible exact H2_) | (have H2_ := (Option.bind_some _ _).symm.trans H; with_reducible exact H2_) | with_reducible exact H | (rw [hy242]; exact H) | exact H
        have Ny242 := Aside0.mk hy242
        clear hy242
        have H' := Aside0.mk H
        clear H
        have hcz26_0 : wr.cell? ⟨gb241, 0, none⟩ = some (.slice A0_0 l0_0.length c0_0) := (blk_cell BK241.out 0).trans rfl
        have hcz26_1 : wr.cell? ⟨gb241, 1, none⟩ = some (.slice A0_1 l0_1.length c0_1) := (blk_cell BK241.out 1).trans rfl
        have hfz26_0 := blk_frozen BK241.out 0
        have hfz26_1 := blk_frozen BK241.out 1
        obtain ⟨Ao28, co28, eo28⟩ := Kd.R_slice HO_5.out
        subst eo28
        go_wp2_with (first | ((with_reducible refine gate_builtin (b := .append) (xs := #[.tmp 98, .tmp 100]) rfl ?_); at_builtin; refine Kd.S_append (Kd.slice 3 (Kd.int .i64)) (w0 := w) w.heap.size rfl (.tmp 98) (.tmp 100) 36 22 (.slice none 0 0) 24 rfl Try.underlying36 info22 rfl (by decide) (by omega) u3 x3_1 x5_2 [.slice Ao28 x5_2.length co28] (fun _ => True) (fun k_ => some k_ = (.slice Ao28 x5_2.length co28 : Value).ownBlock) rfl rfl ?aP (fun k_ hk_ => ((Kd.R_mono (ok' := fun k_ => ((fun _ => True)) k_ ∧ some k_ ≠ (u3 : Value).ownBlock) (Kd.R_apart' (HO_5.out) (Kd.S_typed HO_3.out) (by decide)) (fun k_ hk => ⟨trivial, hk.2⟩))).1 k_ hk_.symm) ?aF ?aO ?aB ?aS ?aL ?_; (case aP => exact Kd.M_row (Kd.R_mono (Kd.R_tight rfl (Kd.R_mono (ok' := fun k_ => ((fun _ => True)) k_ ∧ some k_ ≠ (u3 : Value).ownBlock) (Kd.R_apart' (HO_5.out) (Kd.S_typed HO_3.out) (by decide)) (fun k_ hk => ⟨trivial, hk.2⟩))) (fun _ h_ => h_))); (case aB => exact (by repeat (first | (with_reducible first | exact HB.out | apply below_alloc | apply pw_below_drewN | apply below_drew1 | refine below_set ?_ GE241.out) | exact HB.out))); (case aF => exact (fun _ _ => trivial)); (case aO => exact (by (with_reducible repeat (first | apply Kd.S_alloc | apply Kd.S_drewN | apply Kd.S_drew)); exact Kd.S_mono HO_3.out (fun k_ hk => ⟨trivial, fun e_ => hk e_⟩))); (case aS => exact (below_size (by repeat (first | (with_reducible first | exact HB.out | apply below_alloc | apply pw_below_drewN | apply below_drew1 | refine below_set ?_ GE241.out) | exact HB.out)))); (case aL => have := LMc25.out; omega); intro v243 w27 ho hb hg hat; rw [← Ny242.out] at ho; have n0_ := Aside0.mk (blk_grown (g := gb241) (o := .cells #[.slice A0_0 l0_0.length c0_0, .slice A0_1 l0_1.length c0_1] 34 (0, 0)) (bkq BK241.out) hg (Kd.S_ne HO_3.out BK241.out (by decide))); have n1_ := Aside0.mk (hb); have n2_ := Aside0.mk (ho); clear BK241; clear HB; clear HO_3; clear HO_5; have BK241 := n0_; have HB := n1_; have HO244 := n2_; clear n0_ n1_ n2_; clear ho hb hg hat))
        go_roundg k2
        case measure => have := HK1.out; have := HK2.out; omega
        case rel => exact ⟨(y242), (wrap64 (x4_1 + 1)), (by first | rfl | (simp; done) | (simp [*]; done)), H', ⟨by have := HK1.out; have := HK2.out; omega⟩, ⟨by (with_reducible repeat (first | apply Kd.S_alloc | apply Kd.S_drewN | apply Kd.S_drew)); exact HO244.out⟩, ⟨by (with_reducible repeat (first | refine blk_drewN ?_ _ | refine blk_drew ?_ | refine blk_alloc ?_ _)); exact BK241.out⟩, ⟨by repeat (first | (with_reducible first | exact HB.out | apply below_alloc | apply pw_below_drewN | apply below_drew1 | refine below_set ?_ GE241.out) | exact HB.out)⟩⟩
    rw [if_neg c3] at H
    have c3b0 : decide (x4_1 < (l0_0.length : Int)) = false := decide_eq_false c3
    clear c3
    obtain rfl := Option.some.inj H
    have hcz29_0 : wr.cell? ⟨gb241, 0, none⟩ = some (.slice A0_0 l0_0.length c0_0) := (blk_cell BK241.out 0).trans rfl
    have hcz29_1 : wr.cell? ⟨gb241, 1, none⟩ = some (.slice A0_1 l0_1.length c0_1) := (blk_cell BK241.out 1).trans rfl
    have hfz29_0 := blk_frozen BK241.out 0
    have hfz29_1 := blk_frozen BK241.out 1
    go_wp2
    go_ret
    exact ⟨_, by first | rfl | (simp [errW_none, errW_some] <;> rfl) | (simp [*, errW_none, errW_some] <;> rfl), by (with_reducible repeat (first | apply Kd.S_alloc | apply Kd.S_drewN | apply Kd.S_drew)); exact HO_3.out, by repeat (first | (with_reducible first | exact HB.out | apply below_alloc | apply pw_below_drewN | apply below_drew1 | refine below_set ?_ GE241.out) | exact HB.out)⟩

end Go.Proofs.Ytigpmhicdmjbeaa.PMatrixOf
