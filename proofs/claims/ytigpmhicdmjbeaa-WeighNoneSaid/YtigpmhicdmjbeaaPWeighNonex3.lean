/- What the functions that this law reaches answer, in whatever memory, and the row of the law; no condition. Written by a program of this session (mk.sh). -/
import Derived.Test.YtigpmhicdmjbeaaPWeighNonex0
namespace Go.Proofs.Ytigpmhicdmjbeaa.PWeighNone
open Go.RowKit Go.Proofs.YtigpmhicdmjbeaaW.PrintWords Go.Proofs.YtigpmhicdmjbeaaW.PrintLast Go.Proofs.YtigpmhicdmjbeaaW.PrintMore
attribute [local go_sem] max2_int min2_int max_two min_two max_three min_three max_four min_four   -- for this text's walks alone
set_option linter.unusedVariables false
set_option linter.unusedSimpArgs false

/-! ### marblerunref08_May: function 52 -/
mutual
def marblerunref08_May.l0 : Nat → List Int → Int → ByteArray → Int → Int → List (S66) → List (S66) → List (S66) → Option (Bool)
 | 0, _, _, _, _, _, _, _, _ => none
 | k + 1, x1, x5, x152000, x152001, x152002, x152003, x152004, x152005 => if x5 < (x152003.length : Int) then (if 0 ≤ x5 then (if 0 ≤ ((rd_T66 x152003 x5).f0) then (if ((rd_T66 x152003 x5).f0) < (x1.length : Int) then (if (rd x1 ((rd_T66 x152003 x5).f0)) < ((rd_T66 x152003 x5).f1) then (some false) else (marblerunref08_May.l0 k x1 (wrap64 (x5 + 1)) x152000 x152001 x152002 x152003 x152004 x152005)) else (none)) else (none)) else (none)) else (marblerunref08_May.l1 k x1 0 x152000 x152001 x152002 x152003 x152004 x152005)
def marblerunref08_May.l1 : Nat → List Int → Int → ByteArray → Int → Int → List (S66) → List (S66) → List (S66) → Option (Bool)
 | 0, _, _, _, _, _, _, _, _ => none
 | k + 1, x1, x6, x152000, x152001, x152002, x152003, x152004, x152005 => if x6 < (x152004.length : Int) then (if 0 ≤ x6 then (if 0 ≤ ((rd_T66 x152004 x6).f0) then (if ((rd_T66 x152004 x6).f0) < (x1.length : Int) then (if (rd x1 ((rd_T66 x152004 x6).f0)) ≥ ((rd_T66 x152004 x6).f1) then (some false) else (marblerunref08_May.l1 k x1 (wrap64 (x6 + 1)) x152000 x152001 x152002 x152003 x152004 x152005)) else (none)) else (none)) else (none)) else (some true)
end
def marblerunref08_May.f (k : Nat) (a0_0 : ByteArray) (a0_1 : Int) (a0_2 : Int) (l0_3 : List (S66)) (l0_4 : List (S66)) (l0_5 : List (S66)) (l1 : List Int) : Option (Bool) := marblerunref08_May.l0 k l1 0 a0_0 a0_1 a0_2 l0_3 l0_4 l0_5
theorem marblerunref08_May.mono_l : ∀ k, (∀ y0 y1 y2 y3 y4 y5 y6 y7, LeO (marblerunref08_May.l0 k y0 y1 y2 y3 y4 y5 y6 y7) (marblerunref08_May.l0 (k + 1) y0 y1 y2 y3 y4 y5 y6 y7)) ∧ (∀ y0 y1 y2 y3 y4 y5 y6 y7, LeO (marblerunref08_May.l1 k y0 y1 y2 y3 y4 y5 y6 y7) (marblerunref08_May.l1 (k + 1) y0 y1 y2 y3 y4 y5 y6 y7))
 | 0 => ⟨fun _ _ _ _ _ _ _ _ r h => by simp [marblerunref08_May.l0] at h, fun _ _ _ _ _ _ _ _ r h => by simp [marblerunref08_May.l1] at h⟩
 | k + 1 => by
  obtain ⟨ih0, ih1⟩ := marblerunref08_May.mono_l k
  refine ⟨?_, ?_⟩
  all_goals
   intros
   first
   | unfold marblerunref08_May.l0
   | unfold marblerunref08_May.l1
   repeat' first
   | (with_reducible exact ih0 _ _ _ _ _ _ _ _)
   | (with_reducible exact ih1 _ _ _ _ _ _ _ _)
   | (with_reducible exact LeO.refl _)
   | (with_reducible exact LeO.none _)
   | (with_reducible refine LeO.ite ?_ ?_)
   | (with_reducible refine LeO.bind ?_ (fun _ => ?_))
   | exact ih0 _ _ _ _ _ _ _ _
   | exact ih1 _ _ _ _ _ _ _ _
   | exact LeO.none _
   | refine LeO.ite ?_ ?_
   | refine LeO.bind ?_ (fun _ => ?_)
theorem marblerunref08_May.mono : ∀ a0 a1 a2 a3 a4 a5 a6 k, LeO (marblerunref08_May.f k a0 a1 a2 a3 a4 a5 a6) (marblerunref08_May.f (k + 1) a0 a1 a2 a3 a4 a5 a6) := by
 intro a0 a1 a2 a3 a4 a5 a6 k
 obtain ⟨ih0, ih1⟩ := marblerunref08_May.mono_l k
 unfold marblerunref08_May.f
 repeat' first
  | (with_reducible exact ih0 _ _ _ _ _ _ _ _)
  | (with_reducible exact ih1 _ _ _ _ _ _ _ _)
  | (with_reducible exact LeO.refl _)
  | (with_reducible exact LeO.none _)
  | (with_reducible refine LeO.ite ?_ ?_)
  | (with_reducible refine LeO.bind ?_ (fun _ => ?_))
  | exact ih0 _ _ _ _ _ _ _ _
  | exact ih1 _ _ _ _ _ _ _ _
  | exact LeO.none _
  | refine LeO.ite ?_ ?_
  | refine LeO.bind ?_ (fun _ => ?_)
set_option maxHeartbeats 8000000 in
set_option maxRecDepth 100000 in
theorem marblerunref08_May.calls (k : Nat) (a0_0 : ByteArray) (a0_1 : Int) (a0_2 : Int) (A0_3 : Option Addr) (c0_3 : Nat) (l0_3 : List (S66)) (A0_4 : Option Addr) (c0_4 : Nat) (l0_4 : List (S66)) (A0_5 : Option Addr) (c0_5 : Nat) (l0_5 : List (S66)) (A1 : Option Addr) (c1 : Nat) (l1 : List Int) (r : Bool) (w : World) (hr0_3 : Kd.C k66 w A0_3 l0_3.length l0_3) (hc0_3 : l0_3.length ≤ c0_3) (hr0_4 : Kd.C k66 w A0_4 l0_4.length l0_4) (hc0_4 : l0_4.length ≤ c0_4) (hr0_5 : Kd.C k66 w A0_5 l0_5.length l0_5) (hc0_5 : l0_5.length ≤ c0_5) (hr1 : Kd.C (Kd.int .i64) w A1 l1.length l1) (hc1 : l1.length ≤ c1) (h : marblerunref08_May.f k a0_0 a0_1 a0_2 l0_3 l0_4 l0_5 l1 = some r) :
 Calls Try.prog 52 #[.agg #[.string a0_0, .int .i64 a0_1, .int .i64 a0_2, .slice A0_3 l0_3.length c0_3, .slice A0_4 l0_4.length c0_4, .slice A0_5 l0_5.length c0_5], .slice A1 l1.length c1] w fun e w' => e = .returned (.bool r) ∧ Below w.heap.size w w' := by
 have hu64 := Try.underlying64; have HR0_3 := Aside0.mk hr0_3; have HC0_3 := Aside0.mk hc0_3; clear hr0_3 hc0_3; have HR0_4 := Aside0.mk hr0_4; have HC0_4 := Aside0.mk hc0_4; clear hr0_4 hc0_4; have HR0_5 := Aside0.mk hr0_5; have HC0_5 := Aside0.mk hc0_5; clear hr0_5 hc0_5; have HR1 := Aside0.mk hr1; have HC1 := Aside0.mk hc1; clear hr1 hc1; have HB := Aside0.mk (Below.refl w.heap.size w); have H : (marblerunref08_May.l0 k l1 0 a0_0 a0_1 a0_2 l0_3 l0_4 l0_5) = some r := h; clear h; have H' := Aside0.mk H; clear H; go_enter Try.func52, Try.ntmps52
 iterate 3 ((try go_quiet (fail)); go_wp2_with (first | ((with_reducible refine gate_dst (N := 2) rfl ?_); refine box_event ?hg (N := 2) ?hd (cs := #[.string a0_0, .int .i64 a0_1, .int .i64 a0_2, .slice A0_3 l0_3.length c0_3, .slice A0_4 l0_4.length c0_4, .slice A0_5 l0_5.length c0_5]) (t := 64) ?hr ?_; (case hd => rfl); (case hg => rfl); (case hr => first | (go_simp; done) | (go_simp; rfl)); intro gb151 hg w3 hbox hb; have BK151 := Aside0.mk (hbox); have GW151 := Aside0.mk ((by rw [hg]; exact (below_size (hbq HB.out)) : w.heap.size ≤ gb151)); have GE151 := Aside0.mk ((by rw [hg]; exact (below_size (hbq HB.out)) : w.heap.size ≤ gb151)); replace HB := Aside0.mk (below_step (hbq HB.out) hb); clear hb hbox hg)))
 go_loopg [5] k (fun kq v5 w' => ∃ (x5_1 : Int), v5 = .int .i64 x5_1 ∧ Aside0 (marblerunref08_May.l0 kq l1 x5_1 a0_0 a0_1 a0_2 l0_3 l0_4 l0_5 = some r) ∧ Aside0 (kq ≤ k) ∧ Aside0 (w'.heap[gb151]? = some (.cells #[.string a0_0, .int .i64 a0_1, .int .i64 a0_2, (.slice A0_3 l0_3.length c0_3), (.slice A0_4 l0_4.length c0_4), (.slice A0_5 l0_5.length c0_5)] 64 (0, 0))) ∧ Aside0 (Below w.heap.size w w'))
 case atStart => exact ⟨(0), (by first | rfl | (simp; done) | (simp [*]; done)), H', ⟨Nat.le_refl _⟩, ⟨by refine bkq ?_; exact BK151.out⟩, ⟨hbq HB.out⟩⟩
 clear H'; (try clear c1); (try clear p2); obtain ⟨x5_1, rfl, HA, HK1, BK151, HB⟩ := hrel; cases gk with
 | zero => exact absurd HA.out (by simp [marblerunref08_May.l0])
 | succ k1 =>
  have H := HA.out; clear HA; simp only [marblerunref08_May.l0] at H
  by_cases c4 : x5_1 < (l0_3.length : Int)
  ·rw [if_pos c4] at H; have c4b0 : decide (x5_1 < (l0_3.length : Int)) = true := decide_eq_true c4; clear c4
   by_cases c5 : 0 ≤ x5_1
   case neg => rw [if_neg c5] at H; exact absurd H (by simp)
   rw [if_pos c5] at H; have c5b0 : decide (0 ≤ x5_1) = true := decide_eq_true c5; clear c5
   by_cases c6 : 0 ≤ ((rd_T66 l0_3 x5_1).f0)
   case neg => rw [if_neg c6] at H; exact absurd H (by simp)
   rw [if_pos c6] at H; have c6b0 : decide (0 ≤ ((rd_T66 l0_3 x5_1).f0)) = true := decide_eq_true c6; clear c6
   by_cases c7 : ((rd_T66 l0_3 x5_1).f0) < (l1.length : Int)
   case neg => rw [if_neg c7] at H; exact absurd H (by simp)
   rw [if_pos c7] at H; have c7b0 : decide (((rd_T66 l0_3 x5_1).f0) < (l1.length : Int)) = true := decide_eq_true c7; clear c7
   by_cases c8 : (rd l1 ((rd_T66 l0_3 x5_1).f0)) < ((rd_T66 l0_3 x5_1).f1)
   ·rw [if_pos c8] at H; have c8b0 : decide ((rd l1 ((rd_T66 l0_3 x5_1).f0)) < ((rd_T66 l0_3 x5_1).f1)) = true := decide_eq_true c8; clear c8; obtain rfl := Option.some.inj H; have hcz9_0 : wr.cell? ⟨gb151, 0, none⟩ = some (.string a0_0) := (blk_cell BK151.out 0).trans rfl; have hcz9_1 : wr.cell? ⟨gb151, 1, none⟩ = some (.int .i64 a0_1) := (blk_cell BK151.out 1).trans rfl; have hcz9_2 : wr.cell? ⟨gb151, 2, none⟩ = some (.int .i64 a0_2) := (blk_cell BK151.out 2).trans rfl; have hcz9_3 : wr.cell? ⟨gb151, 3, none⟩ = some (.slice A0_3 l0_3.length c0_3) := (blk_cell BK151.out 3).trans rfl; have hcz9_4 : wr.cell? ⟨gb151, 4, none⟩ = some (.slice A0_4 l0_4.length c0_4) := (blk_cell BK151.out 4).trans rfl; have hcz9_5 : wr.cell? ⟨gb151, 5, none⟩ = some (.slice A0_5 l0_5.length c0_5) := (blk_cell BK151.out 5).trans rfl; have hfz9_0 := blk_frozen BK151.out 0; have hfz9_1 := blk_frozen BK151.out 1; have hfz9_2 := blk_frozen BK151.out 2; have hfz9_3 := blk_frozen BK151.out 3; have hfz9_4 := blk_frozen BK151.out 4; have hfz9_5 := blk_frozen BK151.out 5; have p152 : 0 ≤ (x5_1 : Int) := oa; have q152 : x5_1 < (l0_3.length : Int) := oa; obtain ⟨ad152, e152, hx152_0, hx152_1⟩ := at_T66 HR0_3.out x5_1 p152 q152; cases e152; replace hx152_0 := (HB.out.cell (World.block_lt_of_cell? w _ hx152_0)).trans hx152_0; replace hx152_1 := (HB.out.cell (World.block_lt_of_cell? w _ hx152_1)).trans hx152_1; replace p152 := eq_true p152; replace q152 := eq_true q152; have p153 : 0 ≤ (((rd_T66 l0_3 x5_1).f0) : Int) := oa; have q153 : ((rd_T66 l0_3 x5_1).f0) < (l1.length : Int) := oa; obtain ⟨ad153, e153, hx153_0⟩ := Kd.at_int HR1.out ((rd_T66 l0_3 x5_1).f0) p153 q153; cases e153; replace hx153_0 := (HB.out.cell (World.block_lt_of_cell? w _ hx153_0)).trans hx153_0; replace p153 := eq_true p153; replace q153 := eq_true q153; have p154 : 0 ≤ (x5_1 : Int) := oa; have q154 : x5_1 < (l0_3.length : Int) := oa; obtain ⟨ad154, e154, hx154_0, hx154_1⟩ := at_T66 HR0_3.out x5_1 p154 q154; obtain rfl : ad152 = ad154 := (by injection e154); replace hx154_0 := (HB.out.cell (World.block_lt_of_cell? w _ hx154_0)).trans hx154_0; replace hx154_1 := (HB.out.cell (World.block_lt_of_cell? w _ hx154_1)).trans hx154_1; replace p154 := eq_true p154; replace q154 := eq_true q154; go_wp2
    repeat (go_quiet (fail); try go_wp2)
    go_ret; exact ⟨by first | rfl | (simp [errW_none, errW_some] <;> rfl) | (simp [*, errW_none, errW_some] <;> rfl), hbq HB.out⟩
   rw [if_neg c8] at H; have c8b0 : decide ((rd l1 ((rd_T66 l0_3 x5_1).f0)) < ((rd_T66 l0_3 x5_1).f1)) = false := decide_eq_false c8; clear c8; have H' := Aside0.mk H; clear H; have hcz10_0 : wr.cell? ⟨gb151, 0, none⟩ = some (.string a0_0) := (blk_cell BK151.out 0).trans rfl; have hcz10_1 : wr.cell? ⟨gb151, 1, none⟩ = some (.int .i64 a0_1) := (blk_cell BK151.out 1).trans rfl; have hcz10_2 : wr.cell? ⟨gb151, 2, none⟩ = some (.int .i64 a0_2) := (blk_cell BK151.out 2).trans rfl; have hcz10_3 : wr.cell? ⟨gb151, 3, none⟩ = some (.slice A0_3 l0_3.length c0_3) := (blk_cell BK151.out 3).trans rfl; have hcz10_4 : wr.cell? ⟨gb151, 4, none⟩ = some (.slice A0_4 l0_4.length c0_4) := (blk_cell BK151.out 4).trans rfl; have hcz10_5 : wr.cell? ⟨gb151, 5, none⟩ = some (.slice A0_5 l0_5.length c0_5) := (blk_cell BK151.out 5).trans rfl; have hfz10_0 := blk_frozen BK151.out 0; have hfz10_1 := blk_frozen BK151.out 1; have hfz10_2 := blk_frozen BK151.out 2; have hfz10_3 := blk_frozen BK151.out 3; have hfz10_4 := blk_frozen BK151.out 4; have hfz10_5 := blk_frozen BK151.out 5; have p152 : 0 ≤ (x5_1 : Int) := oa; have q152 : x5_1 < (l0_3.length : Int) := oa; obtain ⟨ad152, e152, hx152_0, hx152_1⟩ := at_T66 HR0_3.out x5_1 p152 q152; cases e152; replace hx152_0 := (HB.out.cell (World.block_lt_of_cell? w _ hx152_0)).trans hx152_0; replace hx152_1 := (HB.out.cell (World.block_lt_of_cell? w _ hx152_1)).trans hx152_1; replace p152 := eq_true p152; replace q152 := eq_true q152; have p153 : 0 ≤ (((rd_T66 l0_3 x5_1).f0) : Int) := oa; have q153 : ((rd_T66 l0_3 x5_1).f0) < (l1.length : Int) := oa; obtain ⟨ad153, e153, hx153_0⟩ := Kd.at_int HR1.out ((rd_T66 l0_3 x5_1).f0) p153 q153; cases e153; replace hx153_0 := (HB.out.cell (World.block_lt_of_cell? w _ hx153_0)).trans hx153_0; replace p153 := eq_true p153; replace q153 := eq_true q153; have p154 : 0 ≤ (x5_1 : Int) := oa; have q154 : x5_1 < (l0_3.length : Int) := oa; obtain ⟨ad154, e154, hx154_0, hx154_1⟩ := at_T66 HR0_3.out x5_1 p154 q154; obtain rfl : ad152 = ad154 := (by injection e154); replace hx154_0 := (HB.out.cell (World.block_lt_of_cell? w _ hx154_0)).trans hx154_0; replace hx154_1 := (HB.out.cell (World.block_lt_of_cell? w _ hx154_1)).trans hx154_1; replace p154 := eq_true p154; replace q154 := eq_true q154; go_wp2
   repeat (go_quiet (fail); try go_wp2)
   go_roundg k1
   case measure => have := HK1.out; omega
   case rel => exact ⟨(wrap64 (x5_1 + 1)), (by first | rfl | (simp; done) | (simp [*]; done)), H', ⟨by have := HK1.out; omega⟩, ⟨by refine bkq ?_; exact BK151.out⟩, ⟨hbq HB.out⟩⟩
  rw [if_neg c4] at H; have c4b0 : decide (x5_1 < (l0_3.length : Int)) = false := decide_eq_false c4; clear c4; have H' := Aside0.mk H; clear H; have hcz11_0 : wr.cell? ⟨gb151, 0, none⟩ = some (.string a0_0) := (blk_cell BK151.out 0).trans rfl; have hcz11_1 : wr.cell? ⟨gb151, 1, none⟩ = some (.int .i64 a0_1) := (blk_cell BK151.out 1).trans rfl; have hcz11_2 : wr.cell? ⟨gb151, 2, none⟩ = some (.int .i64 a0_2) := (blk_cell BK151.out 2).trans rfl; have hcz11_3 : wr.cell? ⟨gb151, 3, none⟩ = some (.slice A0_3 l0_3.length c0_3) := (blk_cell BK151.out 3).trans rfl; have hcz11_4 : wr.cell? ⟨gb151, 4, none⟩ = some (.slice A0_4 l0_4.length c0_4) := (blk_cell BK151.out 4).trans rfl; have hcz11_5 : wr.cell? ⟨gb151, 5, none⟩ = some (.slice A0_5 l0_5.length c0_5) := (blk_cell BK151.out 5).trans rfl; have hfz11_0 := blk_frozen BK151.out 0; have hfz11_1 := blk_frozen BK151.out 1; have hfz11_2 := blk_frozen BK151.out 2; have hfz11_3 := blk_frozen BK151.out 3; have hfz11_4 := blk_frozen BK151.out 4; have hfz11_5 := blk_frozen BK151.out 5; go_wp2
  repeat (go_quiet (fail); try go_wp2)
  go_loopg [6] k1 (fun kq v6 w' => ∃ (x6_2 : Int), v6 = .int .i64 x6_2 ∧ Aside0 (marblerunref08_May.l1 kq l1 x6_2 a0_0 a0_1 a0_2 l0_3 l0_4 l0_5 = some r) ∧ Aside0 (kq ≤ k1) ∧ Aside0 (w'.heap[gb151]? = some (.cells #[.string a0_0, .int .i64 a0_1, .int .i64 a0_2, (.slice A0_3 l0_3.length c0_3), (.slice A0_4 l0_4.length c0_4), (.slice A0_5 l0_5.length c0_5)] 64 (0, 0))) ∧ Aside0 (Below w.heap.size w w'))
  case atStart => exact ⟨(0), (by first | rfl | (simp; done) | (simp [*]; done)), H', ⟨Nat.le_refl _⟩, ⟨by refine bkq ?_; exact BK151.out⟩, ⟨hbq HB.out⟩⟩
  clear H'; (try clear c1); (try clear p1); (try clear q1); (try clear hx1); (try clear p2); (try clear c4); (try clear c4b0); (try clear c5); (try clear c5b0); (try clear c6); (try clear c6b0); (try clear p6); (try clear c7); (try clear c7b0); (try clear c8); (try clear c8b0); (try clear hcz10_0); (try clear hcz10_1); (try clear hcz10_2); (try clear hcz10_3); (try clear hcz10_4); (try clear hcz10_5); (try clear hcz11_0); (try clear hcz11_1); (try clear hcz11_2); (try clear hcz11_3); (try clear hcz11_4); (try clear hcz11_5); (try clear hcz9_0); (try clear hcz9_1); (try clear hcz9_2); (try clear hcz9_3); (try clear hcz9_4); (try clear hcz9_5); (try clear hfz10_0); (try clear hfz10_1); (try clear hfz10_2); (try clear hfz10_3); (try clear hfz10_4); (try clear hfz10_5); (try clear hfz11_0); (try clear hfz11_1); (try clear hfz11_2); (try clear hfz11_3); (try clear hfz11_4); (try clear hfz11_5); (try clear hfz9_0); (try clear hfz9_1); (try clear hfz9_2); (try clear hfz9_3); (try clear hfz9_4); (try clear hfz9_5); (try clear hx152_0); (try clear hx152_1); (try clear hx153_0); (try clear hx154_0); (try clear hx154_1); (try clear p152); (try clear p153); (try clear p154); (try clear p2); (try clear q152); (try clear q153); (try clear q154); obtain ⟨x6_2, rfl, HA, HK2, BK151, HB⟩ := hrel; cases gk with
  | zero => exact absurd HA.out (by simp [marblerunref08_May.l1])
  | succ k2 =>
   have H := HA.out; clear HA; simp only [marblerunref08_May.l1] at H
   by_cases c12 : x6_2 < (l0_4.length : Int)
   ·rw [if_pos c12] at H; have c12b0 : decide (x6_2 < (l0_4.length : Int)) = true := decide_eq_true c12; clear c12
    by_cases c13 : 0 ≤ x6_2
    case neg => rw [if_neg c13] at H; exact absurd H (by simp)
    rw [if_pos c13] at H; have c13b0 : decide (0 ≤ x6_2) = true := decide_eq_true c13; clear c13
    by_cases c14 : 0 ≤ ((rd_T66 l0_4 x6_2).f0)
    case neg => rw [if_neg c14] at H; exact absurd H (by simp)
    rw [if_pos c14] at H; have c14b0 : decide (0 ≤ ((rd_T66 l0_4 x6_2).f0)) = true := decide_eq_true c14; clear c14
    by_cases c15 : ((rd_T66 l0_4 x6_2).f0) < (l1.length : Int)
    case neg => rw [if_neg c15] at H; exact absurd H (by simp)
    rw [if_pos c15] at H; have c15b0 : decide (((rd_T66 l0_4 x6_2).f0) < (l1.length : Int)) = true := decide_eq_true c15; clear c15
    by_cases c16 : (rd l1 ((rd_T66 l0_4 x6_2).f0)) ≥ ((rd_T66 l0_4 x6_2).f1)
    ·rw [if_pos c16] at H; have c16b0 : decide (((rd_T66 l0_4 x6_2).f1) ≤ (rd l1 ((rd_T66 l0_4 x6_2).f0))) = true := decide_eq_true c16; clear c16; obtain rfl := Option.some.inj H; have hcz17_0 : wr.cell? ⟨gb151, 0, none⟩ = some (.string a0_0) := (blk_cell BK151.out 0).trans rfl; have hcz17_1 : wr.cell? ⟨gb151, 1, none⟩ = some (.int .i64 a0_1) := (blk_cell BK151.out 1).trans rfl; have hcz17_2 : wr.cell? ⟨gb151, 2, none⟩ = some (.int .i64 a0_2) := (blk_cell BK151.out 2).trans rfl; have hcz17_3 : wr.cell? ⟨gb151, 3, none⟩ = some (.slice A0_3 l0_3.length c0_3) := (blk_cell BK151.out 3).trans rfl; have hcz17_4 : wr.cell? ⟨gb151, 4, none⟩ = some (.slice A0_4 l0_4.length c0_4) := (blk_cell BK151.out 4).trans rfl; have hcz17_5 : wr.cell? ⟨gb151, 5, none⟩ = some (.slice A0_5 l0_5.length c0_5) := (blk_cell BK151.out 5).trans rfl; have hfz17_0 := blk_frozen BK151.out 0; have hfz17_1 := blk_frozen BK151.out 1; have hfz17_2 := blk_frozen BK151.out 2; have hfz17_3 := blk_frozen BK151.out 3; have hfz17_4 := blk_frozen BK151.out 4; have hfz17_5 := blk_frozen BK151.out 5; have p155 : 0 ≤ (x6_2 : Int) := oa; have q155 : x6_2 < (l0_4.length : Int) := oa; obtain ⟨ad155, e155, hx155_0, hx155_1⟩ := at_T66 HR0_4.out x6_2 p155 q155; cases e155; replace hx155_0 := (HB.out.cell (World.block_lt_of_cell? w _ hx155_0)).trans hx155_0; replace hx155_1 := (HB.out.cell (World.block_lt_of_cell? w _ hx155_1)).trans hx155_1; replace p155 := eq_true p155; replace q155 := eq_true q155; have p156 : 0 ≤ (((rd_T66 l0_4 x6_2).f0) : Int) := oa; have q156 : ((rd_T66 l0_4 x6_2).f0) < (l1.length : Int) := oa; obtain ⟨ad156, e156, hx156_0⟩ := Kd.at_int HR1.out ((rd_T66 l0_4 x6_2).f0) p156 q156; cases e156; replace hx156_0 := (HB.out.cell (World.block_lt_of_cell? w _ hx156_0)).trans hx156_0; replace p156 := eq_true p156; replace q156 := eq_true q156; have p157 : 0 ≤ (x6_2 : Int) := oa; have q157 : x6_2 < (l0_4.length : Int) := oa; obtain ⟨ad157, e157, hx157_0, hx157_1⟩ := at_T66 HR0_4.out x6_2 p157 q157; obtain rfl : ad155 = ad157 := (by injection e157); replace hx157_0 := (HB.out.cell (World.block_lt_of_cell? w _ hx157_0)).trans hx157_0; replace hx157_1 := (HB.out.cell (World.block_lt_of_cell? w _ hx157_1)).trans hx157_1; replace p157 := eq_true p157; replace q157 := eq_true q157; go_wp2
     repeat (go_quiet (fail); try go_wp2)
     go_ret; exact ⟨by first | rfl | (simp [errW_none, errW_some] <;> rfl) | (simp [*, errW_none, errW_some] <;> rfl), hbq HB.out⟩
    rw [if_neg c16] at H; have c16b0 : decide (((rd_T66 l0_4 x6_2).f1) ≤ (rd l1 ((rd_T66 l0_4 x6_2).f0))) = false := decide_eq_false c16; clear c16; have H' := Aside0.mk H; clear H; have hcz18_0 : wr.cell? ⟨gb151, 0, none⟩ = some (.string a0_0) := (blk_cell BK151.out 0).trans rfl; have hcz18_1 : wr.cell? ⟨gb151, 1, none⟩ = some (.int .i64 a0_1) := (blk_cell BK151.out 1).trans rfl; have hcz18_2 : wr.cell? ⟨gb151, 2, none⟩ = some (.int .i64 a0_2) := (blk_cell BK151.out 2).trans rfl; have hcz18_3 : wr.cell? ⟨gb151, 3, none⟩ = some (.slice A0_3 l0_3.length c0_3) := (blk_cell BK151.out 3).trans rfl; have hcz18_4 : wr.cell? ⟨gb151, 4, none⟩ = some (.slice A0_4 l0_4.length c0_4) := (blk_cell BK151.out 4).trans rfl; have hcz18_5 : wr.cell? ⟨gb151, 5, none⟩ = some (.slice A0_5 l0_5.length c0_5) := (blk_cell BK151.out 5).trans rfl; have hfz18_0 := blk_frozen BK151.out 0; have hfz18_1 := blk_frozen BK151.out 1; have hfz18_2 := blk_frozen BK151.out 2; have hfz18_3 := blk_frozen BK151.out 3; have hfz18_4 := blk_frozen BK151.out 4; have hfz18_5 := blk_frozen BK151.out 5; have p155 : 0 ≤ (x6_2 : Int) := oa; have q155 : x6_2 < (l0_4.length : Int) := oa; obtain ⟨ad155, e155, hx155_0, hx155_1⟩ := at_T66 HR0_4.out x6_2 p155 q155; cases e155; replace hx155_0 := (HB.out.cell (World.block_lt_of_cell? w _ hx155_0)).trans hx155_0; replace hx155_1 := (HB.out.cell (World.block_lt_of_cell? w _ hx155_1)).trans hx155_1; replace p155 := eq_true p155; replace q155 := eq_true q155; have p156 : 0 ≤ (((rd_T66 l0_4 x6_2).f0) : Int) := oa; have q156 : ((rd_T66 l0_4 x6_2).f0) < (l1.length : Int) := oa; obtain ⟨ad156, e156, hx156_0⟩ := Kd.at_int HR1.out ((rd_T66 l0_4 x6_2).f0) p156 q156; cases e156; replace hx156_0 := (HB.out.cell (World.block_lt_of_cell? w _ hx156_0)).trans hx156_0; replace p156 := eq_true p156; replace q156 := eq_true q156; have p157 : 0 ≤ (x6_2 : Int) := oa; have q157 : x6_2 < (l0_4.length : Int) := oa; obtain ⟨ad157, e157, hx157_0, hx157_1⟩ := at_T66 HR0_4.out x6_2 p157 q157; obtain rfl : ad155 = ad157 := (by injection e157); replace hx157_0 := (HB.out.cell (World.block_lt_of_cell? w _ hx157_0)).trans hx157_0; replace hx157_1 := (HB.out.cell (World.block_lt_of_cell? w _ hx157_1)).trans hx157_1; replace p157 := eq_true p157; replace q157 := eq_true q157; go_wp2
    repeat (go_quiet (fail); try go_wp2)
    go_roundg k2
    case measure => have := HK1.out; have := HK2.out; omega
    case rel => exact ⟨(wrap64 (x6_2 + 1)), (by first | rfl | (simp; done) | (simp [*]; done)), H', ⟨by have := HK1.out; have := HK2.out; omega⟩, ⟨by refine bkq ?_; exact BK151.out⟩, ⟨hbq HB.out⟩⟩
   rw [if_neg c12] at H; have c12b0 : decide (x6_2 < (l0_4.length : Int)) = false := decide_eq_false c12; clear c12; obtain rfl := Option.some.inj H; have hcz19_0 : wr.cell? ⟨gb151, 0, none⟩ = some (.string a0_0) := (blk_cell BK151.out 0).trans rfl; have hcz19_1 : wr.cell? ⟨gb151, 1, none⟩ = some (.int .i64 a0_1) := (blk_cell BK151.out 1).trans rfl; have hcz19_2 : wr.cell? ⟨gb151, 2, none⟩ = some (.int .i64 a0_2) := (blk_cell BK151.out 2).trans rfl; have hcz19_3 : wr.cell? ⟨gb151, 3, none⟩ = some (.slice A0_3 l0_3.length c0_3) := (blk_cell BK151.out 3).trans rfl; have hcz19_4 : wr.cell? ⟨gb151, 4, none⟩ = some (.slice A0_4 l0_4.length c0_4) := (blk_cell BK151.out 4).trans rfl; have hcz19_5 : wr.cell? ⟨gb151, 5, none⟩ = some (.slice A0_5 l0_5.length c0_5) := (blk_cell BK151.out 5).trans rfl; have hfz19_0 := blk_frozen BK151.out 0; have hfz19_1 := blk_frozen BK151.out 1; have hfz19_2 := blk_frozen BK151.out 2; have hfz19_3 := blk_frozen BK151.out 3; have hfz19_4 := blk_frozen BK151.out 4; have hfz19_5 := blk_frozen BK151.out 5; go_wp2
   repeat (go_quiet (fail); try go_wp2)
   go_ret; exact ⟨by first | rfl | (simp [errW_none, errW_some] <;> rfl) | (simp [*, errW_none, errW_some] <;> rfl), hbq HB.out⟩

end Go.Proofs.Ytigpmhicdmjbeaa.PWeighNone
