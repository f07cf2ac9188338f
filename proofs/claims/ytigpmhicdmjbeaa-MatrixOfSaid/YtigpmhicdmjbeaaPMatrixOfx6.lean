/- What the functions that this law reaches answer, in whatever memory, and the row of the law; no condition. Written by a program of this session (mk.sh). -/
import Derived.Test.YtigpmhicdmjbeaaPMatrixOfx0
import Derived.Test.YtigpmhicdmjbeaaPMatrixOfx1
import Derived.Test.YtigpmhicdmjbeaaPMatrixOfx2
import Derived.Test.YtigpmhicdmjbeaaPMatrixOfx3
import Derived.Test.YtigpmhicdmjbeaaPMatrixOfx4
import Derived.Test.YtigpmhicdmjbeaaPMatrixOfx5
namespace Go.Proofs.Ytigpmhicdmjbeaa.PMatrixOf
open Go.RowKit Go.Proofs.YtigpmhicdmjbeaaW.PrintWords Go.Proofs.YtigpmhicdmjbeaaW.PrintLast Go.Proofs.YtigpmhicdmjbeaaW.PrintMore
attribute [local go_sem] max2_int min2_int max_two min_two max_three min_three max_four min_four   -- for this text's walks alone
set_option linter.unusedVariables false
set_option linter.unusedSimpArgs false

/-! ### marblerunlaw11_MatrixOf: function 4 -/
mutual
def marblerunlaw11_MatrixOf.j0 : Nat → Bool → List Int → List (S83) → Option (Bool)
  | 0, _, _, _ => none
  | k + 1, x14, x259000, x259001 => if x14 = true then ((marblerunlaw11_awake.f k).bind fun t261 => (some t261)) else ((marblerunref05_Make.f k x259000 x259001).bind fun bt262 => ((matrix_Of.f k bt262.1 bt262.2).bind fun t269 => ((matrix_Turn.f k t269).bind fun t272 => ((marblerunref11_Change.f k bt262.1 bt262.2).bind fun t275 => ((marblerunref01_Same.f k t269 t275).bind fun t278 => (if t278 = true then (if (bt262.2.length : Int) = 0 then (some ((t272.length : Int) == 0)) else (marblerunlaw11_MatrixOf.l0 k t269 t272 0)) else (some false)))))))
def marblerunlaw11_MatrixOf.l0 : Nat → List (List Int) → List (List Int) → Int → Option (Bool)
  | 0, _, _, _ => none
  | k + 1, x4, x5, x6 => if x6 < (x4.length : Int) then (marblerunlaw11_MatrixOf.l1 k x4 x5 x6 0) else ((matrix_Turn.f k x5).bind fun t279 => ((marblerunref01_Same.f k t279 x4).bind fun t282 => (some t282)))
def marblerunlaw11_MatrixOf.l1 : Nat → List (List Int) → List (List Int) → Int → Int → Option (Bool)
  | 0, _, _, _, _ => none
  | k + 1, x4, x5, x6, x7 => if 0 ≤ x6 then (if x6 < (x4.length : Int) then (if x7 < ((rd_L1 x4 x6).length : Int) then (if (x5.length : Int) = ((rd_L1 x4 x6).length : Int) then (if 0 ≤ x7 then (if x7 < (x5.length : Int) then (if ((rd_L1 x5 x7).length : Int) = (x4.length : Int) then (if x6 < ((rd_L1 x5 x7).length : Int) then (if (rd (rd_L1 x5 x7) x6) = (rd (rd_L1 x4 x6) x7) then (marblerunlaw11_MatrixOf.l1 k x4 x5 x6 (wrap64 (x7 + 1))) else (some false)) else (none)) else (some false)) else (none)) else (none)) else (some false)) else (marblerunlaw11_MatrixOf.l0 k x4 x5 (wrap64 (x6 + 1)))) else (none)) else (none)
end
def marblerunlaw11_MatrixOf.f (k : Nat) (l0_0 : List Int) (l0_1 : List (S83)) : Option (Bool) := (marblerunlaw11_awake.f k).bind fun t259 => (if t259 = true then ((marblerunlaw11_few.f l0_0 l0_1).bind fun t260 => (marblerunlaw11_MatrixOf.j0 k (!t260) l0_0 l0_1)) else (marblerunlaw11_MatrixOf.j0 k true l0_0 l0_1))
theorem marblerunlaw11_MatrixOf.mono_l : ∀ k, (∀ y0 y1 y2, LeO (marblerunlaw11_MatrixOf.j0 k y0 y1 y2) (marblerunlaw11_MatrixOf.j0 (k + 1) y0 y1 y2)) ∧ (∀ y0 y1 y2, LeO (marblerunlaw11_MatrixOf.l0 k y0 y1 y2) (marblerunlaw11_MatrixOf.l0 (k + 1) y0 y1 y2)) ∧ (∀ y0 y1 y2 y3, LeO (marblerunlaw11_MatrixOf.l1 k y0 y1 y2 y3) (marblerunlaw11_MatrixOf.l1 (k + 1) y0 y1 y2 y3))
  | 0 => ⟨fun _ _ _ r h => by simp [marblerunlaw11_MatrixOf.j0] at h, fun _ _ _ r h => by simp [marblerunlaw11_MatrixOf.l0] at h, fun _ _ _ _ r h => by simp [marblerunlaw11_MatrixOf.l1] at h⟩
  | k + 1 => by
    obtain ⟨ih0, ih1, ih2⟩ := marblerunlaw11_MatrixOf.mono_l k
    refine ⟨?_, ?_, ?_⟩
    · intro y0 y1 y2
      unfold marblerunlaw11_MatrixOf.j0
      repeat' first
      | (with_reducible exact ih0 _ _ _)
      | (with_reducible exact ih1 _ _ _)
      | (with_reducible exact ih2 _ _ _ _)
      | (with_reducible exact marblerunlaw11_awake.mono _)
      | (with_reducible exact marblerunref01_Same.mono _ _ _)
      | (with_reducible exact marblerunref05_Make.mono _ _ _)
      | (with_reducible exact marblerunref11_Change.mono _ _ _)
      | (with_reducible exact matrix_Of.mono _ _ _)
      | (with_reducible exact matrix_Turn.mono _ _)
      | (with_reducible exact LeO.refl _)
      | (with_reducible exact LeO.none _)
      | (with_reducible refine LeO.ite ?_ ?_)
      | (with_reducible refine LeO.bind ?_ (fun _ => ?_))
      | exact ih0 _ _ _
      | exact ih1 _ _ _
      | exact ih2 _ _ _ _
      | exact marblerunlaw11_awake.mono _
      | exact marblerunref01_Same.mono _ _ _
      | exact marblerunref05_Make.mono _ _ _
      | exact marblerunref11_Change.mono _ _ _
      | exact matrix_Of.mono _ _ _
      | exact matrix_Turn.mono _ _
      | exact LeO.none _
      | refine LeO.ite ?_ ?_
      | refine LeO.bind ?_ (fun _ => ?_)
    · intro y0 y1 y2
      unfold marblerunlaw11_MatrixOf.l0
      repeat' first
      | (with_reducible exact ih0 _ _ _)
      | (with_reducible exact ih1 _ _ _)
      | (with_reducible exact ih2 _ _ _ _)
      | (with_reducible exact marblerunlaw11_awake.mono _)
      | (with_reducible exact marblerunref01_Same.mono _ _ _)
      | (with_reducible exact marblerunref05_Make.mono _ _ _)
      | (with_reducible exact marblerunref11_Change.mono _ _ _)
      | (with_reducible exact matrix_Of.mono _ _ _)
      | (with_reducible exact matrix_Turn.mono _ _)
      | (with_reducible exact LeO.refl _)
      | (with_reducible exact LeO.none _)
      | (with_reducible refine LeO.ite ?_ ?_)
      | (with_reducible refine LeO.bind ?_ (fun _ => ?_))
      | exact ih0 _ _ _
      | exact ih1 _ _ _
      | exact ih2 _ _ _ _
      | exact marblerunlaw11_awake.mono _
      | exact marblerunref01_Same.mono _ _ _
      | exact marblerunref05_Make.mono _ _ _
      | exact marblerunref11_Change.mono _ _ _
      | exact matrix_Of.mono _ _ _
      | exact matrix_Turn.mono _ _
      | exact LeO.none _
      | refine LeO.ite ?_ ?_
      | refine LeO.bind ?_ (fun _ => ?_)
    · intro y0 y1 y2 y3
      unfold marblerunlaw11_MatrixOf.l1
      repeat' first
      | (with_reducible exact ih0 _ _ _)
      | (with_reducible exact ih1 _ _ _)
      | (with_reducible exact ih2 _ _ _ _)
      | (with_reducible exact marblerunlaw11_awake.mono _)
      | (with_reducible exact marblerunref01_Same.mono _ _ _)
      | (with_reducible exact marblerunref05_Make.mono _ _ _)
      | (with_reducible exact marblerunref11_Change.mono _ _ _)
      | (with_reducible exact matrix_Of.mono _ _ _)
      | (with_reducible exact matrix_Turn.mono _ _)
      | (with_reducible exact LeO.refl _)
      | (with_reducible exact LeO.none _)
      | (with_reducible refine LeO.ite ?_ ?_)
      | (with_reducible refine LeO.bind ?_ (fun _ => ?_))
      | exact ih0 _ _ _
      | exact ih1 _ _ _
      | exact ih2 _ _ _ _
      | exact marblerunlaw11_awake.mono _
      | exact marblerunref01_Same.mono _ _ _
      | exact marblerunref05_Make.mono _ _ _
      | exact marblerunref11_Change.mono _ _ _
      | exact matrix_Of.mono _ _ _
      | exact matrix_Turn.mono _ _
      | exact LeO.none _
      | refine LeO.ite ?_ ?_
      | refine LeO.bind ?_ (fun _ => ?_)
theorem marblerunlaw11_MatrixOf.mono : ∀ a0 a1 k, LeO (marblerunlaw11_MatrixOf.f k a0 a1) (marblerunlaw11_MatrixOf.f (k + 1) a0 a1) := by
  intro a0 a1 k
  obtain ⟨ih0, ih1, ih2⟩ := marblerunlaw11_MatrixOf.mono_l k
  unfold marblerunlaw11_MatrixOf.f
  repeat' first
      | (with_reducible exact ih0 _ _ _)
      | (with_reducible exact ih1 _ _ _)
      | (with_reducible exact ih2 _ _ _ _)
      | (with_reducible exact marblerunlaw11_awake.mono _)
      | (with_reducible exact marblerunref01_Same.mono _ _ _)
      | (with_reducible exact marblerunref05_Make.mono _ _ _)
      | (with_reducible exact marblerunref11_Change.mono _ _ _)
      | (with_reducible exact matrix_Of.mono _ _ _)
      | (with_reducible exact matrix_Turn.mono _ _)
      | (with_reducible exact LeO.refl _)
      | (with_reducible exact LeO.none _)
      | (with_reducible refine LeO.ite ?_ ?_)
      | (with_reducible refine LeO.bind ?_ (fun _ => ?_))
      | exact ih0 _ _ _
      | exact ih1 _ _ _
      | exact ih2 _ _ _ _
      | exact marblerunlaw11_awake.mono _
      | exact marblerunref01_Same.mono _ _ _
      | exact marblerunref05_Make.mono _ _ _
      | exact marblerunref11_Change.mono _ _ _
      | exact matrix_Of.mono _ _ _
      | exact matrix_Turn.mono _ _
      | exact LeO.none _
      | refine LeO.ite ?_ ?_
      | refine LeO.bind ?_ (fun _ => ?_)
set_option maxHeartbeats 8000000 in
set_option maxRecDepth 100000 in
theorem marblerunlaw11_MatrixOf.calls (k : Nat) (A0_0 : Option Addr) (c0_0 : Nat) (l0_0 : List Int) (A0_1 : Option Addr) (c0_1 : Nat) (l0_1 : List (S83)) (r : Bool) (w : World) (hr0_0 : Kd.C (Kd.int .u8) w A0_0 l0_0.length l0_0) (hc0_0 : l0_0.length ≤ c0_0) (hr0_1 : Kd.C k83 w A0_1 l0_1.length l0_1) (hc0_1 : l0_1.length ≤ c0_1) (h : marblerunlaw11_MatrixOf.f k l0_0 l0_1 = some r) :
    Calls Try.prog 4 #[.agg #[.slice A0_0 l0_0.length c0_0, .slice A0_1 l0_1.length c0_1]] w fun e w' => e = .returned (.bool r) ∧ Below w.heap.size w w' := by
  have hu29 := Try.underlying29
  have hu34 := Try.underlying34
  have HR0_0 := Aside0.mk hr0_0
  have HC0_0 := Aside0.mk hc0_0
  clear hr0_0 hc0_0
  have HR0_1 := Aside0.mk hr0_1
  have HC0_1 := Aside0.mk hc0_1
  clear hr0_1 hc0_1
  have HB := Aside0.mk (Below.refl w.heap.size w)
  have H : ((marblerunlaw11_awake.f k).bind fun t259 => (if t259 = true then ((marblerunlaw11_few.f l0_0 l0_1).bind fun t260 => (marblerunlaw11_MatrixOf.j0 k (!t260) l0_0 l0_1)) else (marblerunlaw11_MatrixOf.j0 k true l0_0 l0_1))) = some r := h
  clear h
  have HC2 := Aside0.mk H
  clear H
  go_enter Try.func4, Try.ntmps4
  go_upto_region 1 with (first | ((with_reducible refine gate_dst (N := 1) rfl ?_); (try (refine gate_guard (by rfl) ?_; dsimp only)); refine box_event ?hg (N := 1) ?hd (cs := #[.slice A0_0 l0_0.length c0_0, .slice A0_1 l0_1.length c0_1]) (t := 29) ?hr ?_; (case hd => rfl); (case hg => rfl); (case hr => first | (go_simp; done) | (go_simp; rfl)); intro gb258 hg w3 hbox hb; have n0_ := Aside0.mk (below_step (by repeat (first | (with_reducible first | exact HB.out | apply below_alloc | apply pw_below_drewN | apply below_drew1) | exact HB.out)) hb); have n1_ := Aside0.mk (hbox); have n2_ := Aside0.mk ((by rw [hg]; exact (below_size (by repeat (first | (with_reducible first | exact HB.out | apply below_alloc | apply pw_below_drewN | apply below_drew1) | exact HB.out))) : w.heap.size ≤ gb258)); have n3_ := Aside0.mk ((by rw [hg]; exact (below_size (by repeat (first | (with_reducible first | exact HB.out | apply below_alloc | apply pw_below_drewN | apply below_drew1) | exact HB.out))) : w.heap.size ≤ gb258)); clear HB; have HB := n0_; have BK258 := n1_; have GW258 := n2_; have GE258 := n3_; clear n0_ n1_ n2_ n3_; clear hb hbox hg))
  repeat (go_quiet (first | ((with_reducible refine gate_dst (N := 1) rfl ?_); (try (refine gate_guard (by rfl) ?_; dsimp only)); refine box_event ?hg (N := 1) ?hd (cs := #[.slice A0_0 l0_0.length c0_0, .slice A0_1 l0_1.length c0_1]) (t := 29) ?hr ?_; (case hd => rfl); (case hg => rfl); (case hr => first | (go_simp; done) | (go_simp; rfl)); intro gb258 hg w3 hbox hb; have n0_ := Aside0.mk (below_step (by repeat (first | (with_reducible first | exact HB.out | apply below_alloc | apply pw_below_drewN | apply below_drew1) | exact HB.out)) hb); have n1_ := Aside0.mk (hbox); have n2_ := Aside0.mk ((by rw [hg]; exact (below_size (by repeat (first | (with_reducible first | exact HB.out | apply below_alloc | apply pw_below_drewN | apply below_drew1) | exact HB.out))) : w.heap.size ≤ gb258)); have n3_ := Aside0.mk ((by rw [hg]; exact (below_size (by repeat (first | (with_reducible first | exact HB.out | apply below_alloc | apply pw_below_drewN | apply below_drew1) | exact HB.out))) : w.heap.size ≤ gb258)); clear HB; have HB := n0_; have BK258 := n1_; have GW258 := n2_; have GE258 := n3_; clear n0_ n1_ n2_ n3_; clear hb hbox hg)); go_upto_region 1 with (first | ((with_reducible refine gate_dst (N := 1) rfl ?_); (try (refine gate_guard (by rfl) ?_; dsimp only)); refine box_event ?hg (N := 1) ?hd (cs := #[.slice A0_0 l0_0.length c0_0, .slice A0_1 l0_1.length c0_1]) (t := 29) ?hr ?_; (case hd => rfl); (case hg => rfl); (case hr => first | (go_simp; done) | (go_simp; rfl)); intro gb258 hg w3 hbox hb; have n0_ := Aside0.mk (below_step (by repeat (first | (with_reducible first | exact HB.out | apply below_alloc | apply pw_below_drewN | apply below_drew1) | exact HB.out)) hb); have n1_ := Aside0.mk (hbox); have n2_ := Aside0.mk ((by rw [hg]; exact (below_size (by repeat (first | (with_reducible first | exact HB.out | apply below_alloc | apply pw_below_drewN | apply below_drew1) | exact HB.out))) : w.heap.size ≤ gb258)); have n3_ := Aside0.mk ((by rw [hg]; exact (below_size (by repeat (first | (with_reducible first | exact HB.out | apply below_alloc | apply pw_below_drewN | apply below_drew1) | exact HB.out))) : w.heap.size ≤ gb258)); clear HB; have HB := n0_; have BK258 := n1_; have GW258 := n2_; have GE258 := n3_; clear n0_ n1_ n2_ n3_; clear hb hbox hg)))
  (try simp only [Act.put, List.setIfInBounds_toArray, List.set_cons_zero, List.set_cons_succ])
  go_cut [14] (fun v14 wc => ∃ (kq : Nat) (x14_1 : Bool), v14 = .bool x14_1 ∧ Aside0 (marblerunlaw11_MatrixOf.j0 kq x14_1 l0_0 l0_1 = some r) ∧ Aside0 (kq ≤ k) ∧ Aside0 (wc.heap[gb258]? = some (.cells #[(.slice A0_0 l0_0.length c0_0), (.slice A0_1 l0_1.length c0_1)] 29 (0, 0))) ∧ Aside0 (Below w.heap.size w wc))
  case first =>
    have H := HC2.out
    clear HC2
    replace H := Option.bind_eq_some_iff.mp H
    obtain ⟨t259, A40, H⟩ := H
    replace H : (if t259 = true then ((marblerunlaw11_few.f l0_0 l0_1).bind fun t260 => (marblerunlaw11_MatrixOf.j0 k (!t260) l0_0 l0_1)) else (marblerunlaw11_MatrixOf.j0 k true l0_0 l0_1)) = some r := H
    have A4 := Aside0.mk A40
    clear A40
    by_cases c5 : t259 = true
    · subst c5
      have H1 : ((marblerunlaw11_few.f l0_0 l0_1).bind fun t260 => (marblerunlaw11_MatrixOf.j0 k (!t260) l0_0 l0_1)) = some r := by rw [if_pos rfl] at H; exact H
      clear H
      have H := H1
      clear H1
      replace H := Option.bind_eq_some_iff.mp H
      obtain ⟨t260, A60, H⟩ := H
      replace H : (marblerunlaw11_MatrixOf.j0 k (!t260) l0_0 l0_1) = some r := H
      have A6 := Aside0.mk A60
      clear A60
      have H' := Aside0.mk H
      clear H
      iterate 3 ((try go_quiet (first | (go_at_call 14; (with_reducible refine (marblerunlaw11_awake.calls k  true _ A4.out).mono ?_); rintro e w7 ⟨rfl, hb⟩; have n0_ := Aside0.mk (blk_below (g := gb258) (o := .cells #[.slice A0_0 l0_0.length c0_0, .slice A0_1 l0_1.length c0_1] 29 (0, 0)) (bkq BK258.out) hb); have n1_ := Aside0.mk (below_step (by repeat (first | (with_reducible first | exact HB.out | apply below_alloc | apply pw_below_drewN | apply below_drew1 | refine below_set ?_ GE258.out) | exact HB.out)) hb); clear BK258; clear HB; have BK258 := n0_; have HB := n1_; clear n0_ n1_; (try clear hb); (try clear hb2); (try clear hk); (try clear hi); have hcz8_0 : w7.cell? ⟨gb258, 0, none⟩ = some (.slice A0_0 l0_0.length c0_0) := (blk_cell BK258.out 0).trans rfl; have hcz8_1 : w7.cell? ⟨gb258, 1, none⟩ = some (.slice A0_1 l0_1.length c0_1) := (blk_cell BK258.out 1).trans rfl; have hfz8_0 := blk_frozen BK258.out 0; have hfz8_1 := blk_frozen BK258.out 1) | (go_at_call 16; (with_reducible refine (marblerunlaw11_few.calls _ _ l0_0 _ _ l0_1 t260 _ ?side1 ?side2 ?side3 ?side4 A6.out).mono ?_); (case side1 => repeat (first | exact (Kd.C_below HR0_0.out HB.out) | (with_reducible refine Kd.C_alloc ?_ _) | (with_reducible refine Kd.C_drewN ?_ _) | (with_reducible refine Kd.C_drew ?_))); (case side2 => exact HC0_0.out); (case side3 => repeat (first | exact (Kd.C_below HR0_1.out HB.out) | (with_reducible refine Kd.C_alloc ?_ _) | (with_reducible refine Kd.C_drewN ?_ _) | (with_reducible refine Kd.C_drew ?_))); (case side4 => exact HC0_1.out); rintro e w9 ⟨rfl, hb⟩; have n0_ := Aside0.mk (blk_below (g := gb258) (o := .cells #[.slice A0_0 l0_0.length c0_0, .slice A0_1 l0_1.length c0_1] 29 (0, 0)) (bkq BK258.out) hb); have n1_ := Aside0.mk (below_step (by repeat (first | (with_reducible first | exact HB.out | apply below_alloc | apply pw_below_drewN | apply below_drew1 | refine below_set ?_ GE258.out) | exact HB.out)) hb); clear BK258; clear HB; have BK258 := n0_; have HB := n1_; clear n0_ n1_; (try clear hb); (try clear hb2); (try clear hk); (try clear hi)))); go_wp2_with (first | (go_at_call 14; (with_reducible refine (marblerunlaw11_awake.calls k  true _ A4.out).mono ?_); rintro e w7 ⟨rfl, hb⟩; have n0_ := Aside0.mk (blk_below (g := gb258) (o := .cells #[.slice A0_0 l0_0.length c0_0, .slice A0_1 l0_1.length c0_1] 29 (0, 0)) (bkq BK258.out) hb); have n1_ := Aside0.mk (below_step (by repeat (first | (with_reducible first | exact HB.out | apply below_alloc | apply pw_below_drewN | apply below_drew1 | refine below_set ?_ GE258.out) | exact HB.out)) hb); clear BK258; clear HB; have BK258 := n0_; have HB := n1_; clear n0_ n1_; (try clear hb); (try clear hb2); (try clear hk); (try clear hi); have hcz8_0 : w7.cell? ⟨gb258, 0, none⟩ = some (.slice A0_0 l0_0.length c0_0) := (blk_cell BK258.out 0).trans rfl; have hcz8_1 : w7.cell? ⟨gb258, 1, none⟩ = some (.slice A0_1 l0_1.length c0_1) := (blk_cell BK258.out 1).trans rfl; have hfz8_0 := blk_frozen BK258.out 0; have hfz8_1 := blk_frozen BK258.out 1) | (go_at_call 16; (with_reducible refine (marblerunlaw11_few.calls _ _ l0_0 _ _ l0_1 t260 _ ?side1 ?side2 ?side3 ?side4 A6.out).mono ?_); (case side1 => repeat (first | exact (Kd.C_below HR0_0.out HB.out) | (with_reducible refine Kd.C_alloc ?_ _) | (with_reducible refine Kd.C_drewN ?_ _) | (with_reducible refine Kd.C_drew ?_))); (case side2 => exact HC0_0.out); (case side3 => repeat (first | exact (Kd.C_below HR0_1.out HB.out) | (with_reducible refine Kd.C_alloc ?_ _) | (with_reducible refine Kd.C_drewN ?_ _) | (with_reducible refine Kd.C_drew ?_))); (case side4 => exact HC0_1.out); rintro e w9 ⟨rfl, hb⟩; have n0_ := Aside0.mk (blk_below (g := gb258) (o := .cells #[.slice A0_0 l0_0.length c0_0, .slice A0_1 l0_1.length c0_1] 29 (0, 0)) (bkq BK258.out) hb); have n1_ := Aside0.mk (below_step (by repeat (first | (with_reducible first | exact HB.out | apply below_alloc | apply pw_below_drewN | apply below_drew1 | refine below_set ?_ GE258.out) | exact HB.out)) hb); clear BK258; clear HB; have BK258 := n0_; have HB := n1_; clear n0_ n1_; (try clear hb); (try clear hb2); (try clear hk); (try clear hi))))
      go_meet
      case rel => exact ⟨_, (!t260), (by first | rfl | (simp; done) | (simp [*]; done)), H', ⟨by first | omega | exact Nat.le_refl _⟩, ⟨by (with_reducible repeat (first | refine blk_drewN ?_ _ | refine blk_drew ?_ | refine blk_alloc ?_ _)); exact BK258.out⟩, ⟨by repeat (first | (with_reducible first | exact HB.out | apply below_alloc | apply pw_below_drewN | apply below_drew1 | refine below_set ?_ GE258.out) | exact HB.out)⟩⟩
    replace c5 := Bool.eq_false_iff.mpr c5
    subst c5
    have H1 : (marblerunlaw11_MatrixOf.j0 k true l0_0 l0_1) = some r := by rw [if_neg (show ¬ (false = true) by decide)] at H; exact H
    clear H
    have H := H1
    clear H1
    have H' := Aside0.mk H
    clear H
    iterate 3 ((try go_quiet (first | (go_at_call 14; (with_reducible refine (marblerunlaw11_awake.calls k  false _ A4.out).mono ?_); rintro e w10 ⟨rfl, hb⟩; have n0_ := Aside0.mk (blk_below (g := gb258) (o := .cells #[.slice A0_0 l0_0.length c0_0, .slice A0_1 l0_1.length c0_1] 29 (0, 0)) (bkq BK258.out) hb); have n1_ := Aside0.mk (below_step (by repeat (first | (with_reducible first | exact HB.out | apply below_alloc | apply pw_below_drewN | apply below_drew1 | refine below_set ?_ GE258.out) | exact HB.out)) hb); clear BK258; clear HB; have BK258 := n0_; have HB := n1_; clear n0_ n1_; (try clear hb); (try clear hb2); (try clear hk); (try clear hi)))); go_wp2_with (first | (go_at_call 14; (with_reducible refine (marblerunlaw11_awake.calls k  false _ A4.out).mono ?_); rintro e w10 ⟨rfl, hb⟩; have n0_ := Aside0.mk (blk_below (g := gb258) (o := .cells #[.slice A0_0 l0_0.length c0_0, .slice A0_1 l0_1.length c0_1] 29 (0, 0)) (bkq BK258.out) hb); have n1_ := Aside0.mk (below_step (by repeat (first | (with_reducible first | exact HB.out | apply below_alloc | apply pw_below_drewN | apply below_drew1 | refine below_set ?_ GE258.out) | exact HB.out)) hb); clear BK258; clear HB; have BK258 := n0_; have HB := n1_; clear n0_ n1_; (try clear hb); (try clear hb2); (try clear hk); (try clear hi))))
    go_meet
    case rel => exact ⟨_, (true), (by first | rfl | (simp; done) | (simp [*]; done)), H', ⟨by first | omega | exact Nat.le_refl _⟩, ⟨by (with_reducible repeat (first | refine blk_drewN ?_ _ | refine blk_drew ?_ | refine blk_alloc ?_ _)); exact BK258.out⟩, ⟨by repeat (first | (with_reducible first | exact HB.out | apply below_alloc | apply pw_below_drewN | apply below_drew1 | refine below_set ?_ GE258.out) | exact HB.out)⟩⟩
  clear HC2
  try clear p2
  try clear c4
  try clear c5
  try clear hcz8_0
  try clear hcz8_1
  try clear hfz8_0
  try clear hfz8_1
  obtain ⟨kq, x14_1, rfl, HA, HJ1, BK258, HB⟩ := hcut
  cases kq with
  | zero => exact absurd HA.out (by simp [marblerunlaw11_MatrixOf.j0])
  | succ kj1 =>
    have H := HA.out
    clear HA
    simp only [marblerunlaw11_MatrixOf.j0] at H
    by_cases c11 : x14_1 = true
    · subst c11
      have H1 : ((marblerunlaw11_awake.f kj1).bind fun t261 => (some t261)) = some r := by rw [if_pos rfl] at H; exact H
      clear H
      have H := H1
      clear H1
      replace H := Option.bind_eq_some_iff.mp H
      obtain ⟨t261, A120, H⟩ := H
      replace H : (some t261) = some r := H
      have A12 := Aside0.mk A120
      clear A120
      obtain rfl := Option.some.inj H
      iterate 3 ((try go_quiet (first | (go_at_call 14; (with_reducible refine (marblerunlaw11_awake.calls kj1  t261 _ A12.out).mono ?_); rintro e w13 ⟨rfl, hb⟩; have n0_ := Aside0.mk (blk_below (g := gb258) (o := .cells #[.slice A0_0 l0_0.length c0_0, .slice A0_1 l0_1.length c0_1] 29 (0, 0)) (bkq BK258.out) hb); have n1_ := Aside0.mk (below_step (by repeat (first | (with_reducible first | exact HB.out | apply below_alloc | apply pw_below_drewN | apply below_drew1 | refine below_set ?_ GE258.out) | exact HB.out)) hb); clear BK258; clear HB; have BK258 := n0_; have HB := n1_; clear n0_ n1_; (try clear hb); (try clear hb2); (try clear hk); (try clear hi)))); go_wp2_with (first | (go_at_call 14; (with_reducible refine (marblerunlaw11_awake.calls kj1  t261 _ A12.out).mono ?_); rintro e w13 ⟨rfl, hb⟩; have n0_ := Aside0.mk (blk_below (g := gb258) (o := .cells #[.slice A0_0 l0_0.length c0_0, .slice A0_1 l0_1.length c0_1] 29 (0, 0)) (bkq BK258.out) hb); have n1_ := Aside0.mk (below_step (by repeat (first | (with_reducible first | exact HB.out | apply below_alloc | apply pw_below_drewN | apply below_drew1 | refine below_set ?_ GE258.out) | exact HB.out)) hb); clear BK258; clear HB; have BK258 := n0_; have HB := n1_; clear n0_ n1_; (try clear hb); (try clear hb2); (try clear hk); (try clear hi))))
      go_ret
      exact ⟨by first | rfl | (simp [errW_none, errW_some] <;> rfl) | (simp [*, errW_none, errW_some] <;> rfl), by repeat (first | (with_reducible first | exact HB.out | apply below_alloc | apply pw_below_drewN | apply below_drew1 | refine below_set ?_ GE258.out) | exact HB.out)⟩
    replace c11 := Bool.eq_false_iff.mpr c11
    subst c11
    have H1 : ((marblerunref05_Make.f kj1 l0_0 l0_1).bind fun bt262 => ((matrix_Of.f kj1 bt262.1 bt262.2).bind fun t269 => ((matrix_Turn.f kj1 t269).bind fun t272 => ((marblerunref11_Change.f kj1 bt262.1 bt262.2).bind fun t275 => ((marblerunref01_Same.f kj1 t269 t275).bind fun t278 => (if t278 = true then (if (bt262.2.length : Int) = 0 then (some ((t272.length : Int) == 0)) else (marblerunlaw11_MatrixOf.l0 kj1 t269 t272 0)) else (some false))))))) = some r := by rw [if_neg (show ¬ (false = true) by decide)] at H; exact H
    clear H
    have H := H1
    clear H1
    replace H := Option.bind_eq_some_iff.mp H
    obtain ⟨⟨t262, t265⟩, A140, H⟩ := H
    replace H : ((matrix_Of.f kj1 t262 t265).bind fun t269 => ((matrix_Turn.f kj1 t269).bind fun t272 => ((marblerunref11_Change.f kj1 t262 t265).bind fun t275 => ((marblerunref01_Same.f kj1 t269 t275).bind fun t278 => (if t278 = true then (if (t265.length : Int) = 0 then (some ((t272.length : Int) == 0)) else (marblerunlaw11_MatrixOf.l0 kj1 t269 t272 0)) else (some false)))))) = some r := H
    have A14 := Aside0.mk A140
    clear A140
    replace H := Option.bind_eq_some_iff.mp H
    obtain ⟨t269, A150, H⟩ := H
    replace H : ((matrix_Turn.f kj1 t269).bind fun t272 => ((marblerunref11_Change.f kj1 t262 t265).bind fun t275 => ((marblerunref01_Same.f kj1 t269 t275).bind fun t278 => (if t278 = true then (if (t265.length : Int) = 0 then (some ((t272.length : Int) == 0)) else (marblerunlaw11_MatrixOf.l0 kj1 t269 t272 0)) else (some false))))) = some r := H
    have A15 := Aside0.mk A150
    clear A150
    replace H := Option.bind_eq_some_iff.mp H
    obtain ⟨t272, A160, H⟩ := H
    replace H : ((marblerunref11_Change.f kj1 t262 t265).bind fun t275 => ((marblerunref01_Same.f kj1 t269 t275).bind fun t278 => (if t278 = true then (if (t265.length : Int) = 0 then (some ((t272.length : Int) == 0)) else (marblerunlaw11_MatrixOf.l0 kj1 t269 t272 0)) else (some false)))) = some r := H
    have A16 := Aside0.mk A160
    clear A160
    replace H := Option.bind_eq_some_iff.mp H
    obtain ⟨t275, A170, H⟩ := H
    replace H : ((marblerunref01_Same.f kj1 t269 t275).bind fun t278 => (if t278 = true then (if (t265.length : Int) = 0 then (some ((t272.length : Int) == 0)) else (marblerunlaw11_MatrixOf.l0 kj1 t269 t272 0)) else (some false))) = some r := H
    have A17 := Aside0.mk A170
    clear A170
    replace H := Option.bind_eq_some_iff.mp H
    obtain ⟨t278, A180, H⟩ := H
    replace H : (if t278 = true then (if (t265.length : Int) = 0 then (some ((t272.length : Int) == 0)) else (marblerunlaw11_MatrixOf.l0 kj1 t269 t272 0)) else (some false)) = some r := H
    have A18 := Aside0.mk A180
    clear A180
    by_cases c19 : t278 = true
    · subst c19
      have H1 : (if (t265.length : Int) = 0 then (some ((t272.length : Int) == 0)) else (marblerunlaw11_MatrixOf.l0 kj1 t269 t272 0)) = some r := by rw [if_pos rfl] at H; exact H
      clear H
      have H := H1
      clear H1
      by_cases c20 : (t265.length : Int) = 0
      · rw [if_pos c20] at H
        have c20b0 : ((t265.length : Int) == 0) = true := beq_iff_eq.mpr c20
        have c20b1 : ((t265.length : Int) != 0) = false := bne_eq_false_iff_eq.mpr c20
        clear c20
        obtain rfl := Option.some.inj H
        have hcz21_0 : wc.cell? ⟨gb258, 0, none⟩ = some (.slice A0_0 l0_0.length c0_0) := (blk_cell BK258.out 0).trans rfl
        have hcz21_1 : wc.cell? ⟨gb258, 1, none⟩ = some (.slice A0_1 l0_1.length c0_1) := (blk_cell BK258.out 1).trans rfl
        have hfz21_0 := blk_frozen BK258.out 0
        have hfz21_1 := blk_frozen BK258.out 1
        iterate 3 ((try go_quiet (first | (go_at_call 17; (with_reducible refine (marblerunref05_Make.calls kj1 _ _ l0_0 _ _ l0_1 t262 t265 _ ?side1 ?side2 ?side3 ?side4 A14.out).mono ?_); (case side1 => repeat (first | exact (Kd.C_below HR0_0.out HB.out) | (with_reducible refine Kd.C_alloc ?_ _) | (with_reducible refine Kd.C_drewN ?_ _) | (with_reducible refine Kd.C_drew ?_))); (case side2 => exact HC0_0.out); (case side3 => repeat (first | exact (Kd.C_below HR0_1.out HB.out) | (with_reducible refine Kd.C_alloc ?_ _) | (with_reducible refine Kd.C_drewN ?_ _) | (with_reducible refine Kd.C_drew ?_))); (case side4 => exact HC0_1.out); rintro e w22 ⟨v263, v266, rfl, ho0, ho1, hb⟩; have n0_ := Aside0.mk (Kd.R_lower ho0 (below_size (by repeat (first | (with_reducible first | exact HB.out | apply below_alloc | apply pw_below_drewN | apply below_drew1 | refine below_set ?_ GE258.out) | exact HB.out)))); have n1_ := Aside0.mk (Kd.S_lower ho1 (below_size (by repeat (first | (with_reducible first | exact HB.out | apply below_alloc | apply pw_below_drewN | apply below_drew1 | refine below_set ?_ GE258.out) | exact HB.out)))); have n2_ := Aside0.mk (blk_below (g := gb258) (o := .cells #[.slice A0_0 l0_0.length c0_0, .slice A0_1 l0_1.length c0_1] 29 (0, 0)) (bkq BK258.out) hb); have n3_ := Aside0.mk (below_step (by repeat (first | (with_reducible first | exact HB.out | apply below_alloc | apply pw_below_drewN | apply below_drew1 | refine below_set ?_ GE258.out) | exact HB.out)) hb); clear BK258; clear HB; have HO264 := n0_; have HO267 := n1_; have BK258 := n2_; have HB := n3_; clear n0_ n1_ n2_ n3_; (try clear hb); (try clear hb2); (try clear hk); (try clear hi); (try clear ho0); (try clear ho1)) | (go_at_call 18; (with_reducible refine (matrix_Of.calls kj1 _ _ t262 _ _ t265 t269 _ ?side1 ?side2 ?side3 ?side4 A15.out).mono ?_); (case side1 => refine (Kd.R_reads' (e := 52) (base := w.heap.size) (ok := fun k_ => True) (n := t262.length) (c := co24) ?_).2.2; exact (by (with_reducible repeat (first | apply Kd.R_alloc | apply Kd.R_drewN | apply Kd.R_drew)); exact (Kd.R_mono (Kd.R_far (p := ⟨gb268, 1, none⟩) (Kd.R_far (p := ⟨gb268, 0, none⟩) (Kd.R_types HO264.out BK268.out (by decide)) (fun _ hk => hk.2) (.slice Ao24 t262.length co24)) (fun _ hk => hk.2) (.slice Ao27 t265.length co27)) (fun _ h_ => h_.1)))); (case side2 => exact (Kd.R_reads' HO264.out).2.1); (case side3 => refine (Kd.S_reads' (e := 64) (base := w.heap.size) (ok := fun k_ => True) (n := t265.length) (c := co27) ?_).2.2; exact (by (with_reducible repeat (first | apply Kd.S_alloc | apply Kd.S_drewN | apply Kd.S_drew)); exact (Kd.S_mono (Kd.S_far (p := ⟨gb268, 1, none⟩) (Kd.S_far (p := ⟨gb268, 0, none⟩) (Kd.S_types HO267.out BK268.out (by decide)) (fun _ hk => hk.2) (.slice Ao24 t262.length co24)) (fun _ hk => hk.2) (.slice Ao27 t265.length co27)) (fun _ h_ => h_.1)))); (case side4 => exact (Kd.S_reads' HO267.out).2.1); rintro e w28 ⟨v270, rfl, ho0, hb⟩; have n0_ := Aside0.mk (Kd.R_below (by (with_reducible repeat (first | apply Kd.R_alloc | apply Kd.R_drewN | apply Kd.R_drew)); exact (Kd.R_mono (Kd.R_far (p := ⟨gb268, 1, none⟩) (Kd.R_far (p := ⟨gb268, 0, none⟩) (Kd.R_types HO264.out BK268.out (by decide)) (fun _ hk => hk.2) (.slice Ao24 t262.length co24)) (fun _ hk => hk.2) (.slice Ao27 t265.length co27)) (fun _ h_ => h_.1))) hb); have n1_ := Aside0.mk (Kd.S_below (by (with_reducible repeat (first | apply Kd.S_alloc | apply Kd.S_drewN | apply Kd.S_drew)); exact (Kd.S_mono (Kd.S_far (p := ⟨gb268, 1, none⟩) (Kd.S_far (p := ⟨gb268, 0, none⟩) (Kd.S_types HO267.out BK268.out (by decide)) (fun _ hk => hk.2) (.slice Ao24 t262.length co24)) (fun _ hk => hk.2) (.slice Ao27 t265.length co27)) (fun _ h_ => h_.1))) hb); have n2_ := Aside0.mk (Kd.S_lower ho0 (below_size (by repeat (first | (with_reducible first | exact HB.out | apply below_alloc | apply pw_below_drewN | apply below_drew1 | refine below_set ?_ GE258.out | refine below_set ?_ GE268.out) | exact HB.out)))); have n3_ := Aside0.mk (blk_below (g := gb258) (o := .cells #[.slice A0_0 l0_0.length c0_0, .slice A0_1 l0_1.length c0_1] 29 (0, 0)) (by (with_reducible repeat (first | refine blk_drewN ?_ _ | refine blk_drew ?_ | refine blk_alloc ?_ _)); refine blk_far ?_ NB258_268.out _; (with_reducible repeat (first | refine blk_drewN ?_ _ | refine blk_drew ?_ | refine blk_alloc ?_ _)); refine blk_far ?_ NB258_268.out _; (with_reducible repeat (first | refine blk_drewN ?_ _ | refine blk_drew ?_ | refine blk_alloc ?_ _)); exact BK258.out) hb); have n4_ := Aside0.mk (blk_below (g := gb268) (o := .cells #[.slice Ao24 t262.length co24, .slice Ao27 t265.length co27] 34 (0, 0)) (by (with_reducible repeat (first | refine blk_drewN ?_ _ | refine blk_drew ?_ | refine blk_alloc ?_ _)); refine blk_put (cs := #[.slice Ao24 t262.length co24, .slice none 0 0]) ?_ 1 _ rfl; (with_reducible repeat (first | refine blk_drewN ?_ _ | refine blk_drew ?_ | refine blk_alloc ?_ _)); refine blk_put (cs := #[.slice none 0 0, .slice none 0 0]) ?_ 0 _ rfl; (with_reducible repeat (first | refine blk_drewN ?_ _ | refine blk_drew ?_ | refine blk_alloc ?_ _)); exact BK268.out) hb); have n5_ := Aside0.mk (below_step (by repeat (first | (with_reducible first | exact HB.out | apply below_alloc | apply pw_below_drewN | apply below_drew1 | refine below_set ?_ GE258.out | refine below_set ?_ GE268.out) | exact HB.out)) hb); clear HO264; clear HO267; clear BK258; clear BK268; clear HB; have HO264 := n0_; have HO267 := n1_; have HO271 := n2_; have BK258 := n3_; have BK268 := n4_; have HB := n5_; clear n0_ n1_ n2_ n3_ n4_ n5_; (try clear hb); (try clear hb2); (try clear hk); (try clear hi); (try clear ho0); obtain ⟨Ao29, co29, eo29⟩ := Kd.S_slice HO271.out; subst eo29) | (go_at_call 19; (with_reducible refine (matrix_Turn.calls kj1 _ _ t269 t272 _ ?side1 ?side2 A16.out).mono ?_); (case side1 => repeat (first | exact (Kd.S_reads' HO271.out).2.2 | (with_reducible refine Kd.C_alloc ?_ _) | (with_reducible refine Kd.C_drewN ?_ _) | (with_reducible refine Kd.C_drew ?_))); (case side2 => exact (Kd.S_reads' HO271.out).2.1); rintro e w30 ⟨v273, rfl, ho0, hb⟩; have n0_ := Aside0.mk (Kd.R_below (kq_R HO264.out) hb); have n1_ := Aside0.mk (Kd.S_below (kq_S HO267.out) hb); have n2_ := Aside0.mk (Kd.S_elder' (kq_S HO271.out) (Kd.S_base ho0) hb); have n3_ := Aside0.mk (Kd.S_lower (Kd.S_new' ho0 (Kd.S_lt (kq_S HO271.out))) (below_size (by repeat (first | (with_reducible first | exact HB.out | apply below_alloc | apply pw_below_drewN | apply below_drew1 | refine below_set ?_ GE258.out | refine below_set ?_ GE268.out) | exact HB.out)))); have n4_ := Aside0.mk (blk_below (g := gb258) (o := .cells #[.slice A0_0 l0_0.length c0_0, .slice A0_1 l0_1.length c0_1] 29 (0, 0)) (bkq BK258.out) hb); have n5_ := Aside0.mk (blk_below (g := gb268) (o := .cells #[.slice Ao24 t262.length co24, .slice Ao27 t265.length co27] 34 (0, 0)) (bkq BK268.out) hb); have n6_ := Aside0.mk (below_step (by repeat (first | (with_reducible first | exact HB.out | apply below_alloc | apply pw_below_drewN | apply below_drew1 | refine below_set ?_ GE258.out | refine below_set ?_ GE268.out) | exact HB.out)) hb); clear HO264; clear HO267; clear HO271; clear BK258; clear BK268; clear HB; have HO264 := n0_; have HO267 := n1_; have HO271 := n2_; have HO274 := n3_; have BK258 := n4_; have BK268 := n5_; have HB := n6_; clear n0_ n1_ n2_ n3_ n4_ n5_ n6_; (try clear hb); (try clear hb2); (try clear hk); (try clear hi); (try clear ho0); have hcz31_0 : w30.cell? ⟨gb268, 0, none⟩ = some (.slice Ao24 t262.length co24) := (blk_cell BK268.out 0).trans rfl; have hcz31_1 : w30.cell? ⟨gb268, 1, none⟩ = some (.slice Ao27 t265.length co27) := (blk_cell BK268.out 1).trans rfl; have hfz31_0 := blk_frozen BK268.out 0; have hfz31_1 := blk_frozen BK268.out 1) | (go_at_call 21; (with_reducible refine (marblerunref11_Change.calls kj1 _ _ t262 _ _ t265 t275 _ ?side1 ?side2 ?side3 ?side4 A17.out).mono ?_); (case side1 => repeat (first | exact (Kd.R_reads' HO264.out).2.2 | (with_reducible refine Kd.C_alloc ?_ _) | (with_reducible refine Kd.C_drewN ?_ _) | (with_reducible refine Kd.C_drew ?_))); (case side2 => exact (Kd.R_reads' HO264.out).2.1); (case side3 => repeat (first | exact (Kd.S_reads' HO267.out).2.2 | (with_reducible refine Kd.C_alloc ?_ _) | (with_reducible refine Kd.C_drewN ?_ _) | (with_reducible refine Kd.C_drew ?_))); (case side4 => exact (Kd.S_reads' HO267.out).2.1); rintro e w32 ⟨v276, rfl, ho0, hb⟩; have n0_ := Aside0.mk (Kd.R_below (kq_R HO264.out) hb); have n1_ := Aside0.mk (Kd.S_below (kq_S HO267.out) hb); have n2_ := Aside0.mk (Kd.S_elder' (kq_S HO271.out) (Kd.S_base ho0) hb); have n3_ := Aside0.mk (Kd.S_elder' (kq_S HO274.out) (Kd.S_base ho0) hb); have n4_ := Aside0.mk (Kd.S_lower (Kd.S_new' (Kd.S_new' ho0 (Kd.S_lt (kq_S HO271.out))) (Kd.S_lt (kq_S HO274.out))) (below_size (by repeat (first | (with_reducible first | exact HB.out | apply below_alloc | apply pw_below_drewN | apply below_drew1 | refine below_set ?_ GE258.out | refine below_set ?_ GE268.out) | exact HB.out)))); have n5_ := Aside0.mk (blk_below (g := gb258) (o := .cells #[.slice A0_0 l0_0.length c0_0, .slice A0_1 l0_1.length c0_1] 29 (0, 0)) (bkq BK258.out) hb); have n6_ := Aside0.mk (blk_below (g := gb268) (o := .cells #[.slice Ao24 t262.length co24, .slice Ao27 t265.length co27] 34 (0, 0)) (bkq BK268.out) hb); have n7_ := Aside0.mk (below_step (by repeat (first | (with_reducible first | exact HB.out | apply below_alloc | apply pw_below_drewN | apply below_drew1 | refine below_set ?_ GE258.out | refine below_set ?_ GE268.out) | exact HB.out)) hb); clear HO264; clear HO267; clear HO271; clear HO274; clear BK258; clear BK268; clear HB; have HO264 := n0_; have HO267 := n1_; have HO271 := n2_; have HO274 := n3_; have HO277 := n4_; have BK258 := n5_; have BK268 := n6_; have HB := n7_; clear n0_ n1_ n2_ n3_ n4_ n5_ n6_ n7_; (try clear hb); (try clear hb2); (try clear hk); (try clear hi); (try clear ho0); obtain ⟨Ao33, co33, eo33⟩ := Kd.S_slice HO277.out; subst eo33) | (go_at_call 20; (with_reducible refine (marblerunref01_Same.calls kj1 _ _ t269 _ _ t275 true _ ?side1 ?side2 ?side3 ?side4 A18.out).mono ?_); (case side1 => repeat (first | exact (Kd.S_reads' HO271.out).2.2 | (with_reducible refine Kd.C_alloc ?_ _) | (with_reducible refine Kd.C_drewN ?_ _) | (with_reducible refine Kd.C_drew ?_))); (case side2 => exact (Kd.S_reads' HO271.out).2.1); (case side3 => repeat (first | exact (Kd.S_reads' HO277.out).2.2 | (with_reducible refine Kd.C_alloc ?_ _) | (with_reducible refine Kd.C_drewN ?_ _) | (with_reducible refine Kd.C_drew ?_))); (case side4 => exact (Kd.S_reads' HO277.out).2.1); rintro e w' ⟨rfl, ⟨nd, rfl⟩⟩; (try first | exact ⟨rfl, _, World.drewN_drewN _ _ _⟩ | exact ⟨rfl, _, Eq.trans (World.drewN_drewN _ _ _) (congrArg (World.drewN _) (Nat.add_assoc _ _ _))⟩); have hcz34_0 : w32.cell? ⟨gb268, 0, none⟩ = some (.slice Ao24 t262.length co24) := (blk_cell BK268.out 0).trans rfl; have hcz34_1 : w32.cell? ⟨gb268, 1, none⟩ = some (.slice Ao27 t265.length co27) := (blk_cell BK268.out 1).trans rfl; have hfz34_0 := blk_frozen BK268.out 0; have hfz34_1 := blk_frozen BK268.out 1; obtain ⟨Ao35, co35, eo35⟩ := Kd.S_slice HO274.out; subst eo35))); go_wp2_with (first | (go_at_call 17; (with_reducible refine (marblerunref05_Make.calls kj1 _ _ l0_0 _ _ l0_1 t262 t265 _ ?side1 ?side2 ?side3 ?side4 A14.out).mono ?_); (case side1 => repeat (first | exact (Kd.C_below HR0_0.out HB.out) | (with_reducible refine Kd.C_alloc ?_ _) | (with_reducible refine Kd.C_drewN ?_ _) | (with_reducible refine Kd.C_drew ?_))); (case side2 => exact HC0_0.out); (case side3 => repeat (first | exact (Kd.C_below HR0_1.out HB.out) | (with_reducible refine Kd.C_alloc ?_ _) | (with_reducible refine Kd.C_drewN ?_ _) | (with_reducible refine Kd.C_drew ?_))); (case side4 => exact HC0_1.out); rintro e w22 ⟨v263, v266, rfl, ho0, ho1, hb⟩; have n0_ := Aside0.mk (Kd.R_lower ho0 (below_size (by repeat (first | (with_reducible first | exact HB.out | apply below_alloc | apply pw_below_drewN | apply below_drew1 | refine below_set ?_ GE258.out) | exact HB.out)))); have n1_ := Aside0.mk (Kd.S_lower ho1 (below_size (by repeat (first | (with_reducible first | exact HB.out | apply below_alloc | apply pw_below_drewN | apply below_drew1 | refine below_set ?_ GE258.out) | exact HB.out)))); have n2_ := Aside0.mk (blk_below (g := gb258) (o := .cells #[.slice A0_0 l0_0.length c0_0, .slice A0_1 l0_1.length c0_1] 29 (0, 0)) (bkq BK258.out) hb); have n3_ := Aside0.mk (below_step (by repeat (first | (with_reducible first | exact HB.out | apply below_alloc | apply pw_below_drewN | apply below_drew1 | refine below_set ?_ GE258.out) | exact HB.out)) hb); clear BK258; clear HB; have HO264 := n0_; have HO267 := n1_; have BK258 := n2_; have HB := n3_; clear n0_ n1_ n2_ n3_; (try clear hb); (try clear hb2); (try clear hk); (try clear hi); (try clear ho0); (try clear ho1)) | ((with_reducible refine gate_dst (N := 3) rfl ?_); (try (refine gate_guard (by rfl) ?_; dsimp only)); refine box_event ?hg (N := 3) ?hd (cs := #[.slice none 0 0, .slice none 0 0]) (t := 34) ?hr ?_; (case hd => rfl); (case hg => rfl); (case hr => first | (go_simp; done) | (go_simp; rfl)); intro gb268 hg w23 hbox hb; have n0_ := Aside0.mk (Kd.R_below (kq_R HO264.out) hb); have n1_ := Aside0.mk (Kd.S_below (kq_S HO267.out) hb); have n2_ := Aside0.mk (blk_below (g := gb258) (o := .cells #[.slice A0_0 l0_0.length c0_0, .slice A0_1 l0_1.length c0_1] 29 (0, 0)) (bkq BK258.out) hb); have n3_ := Aside0.mk (below_step (by repeat (first | (with_reducible first | exact HB.out | apply below_alloc | apply pw_below_drewN | apply below_drew1 | refine below_set ?_ GE258.out) | exact HB.out)) hb); have n4_ := Aside0.mk (hbox); have n5_ := Aside0.mk ((by rw [hg]; exact (below_size (by repeat (first | (with_reducible first | exact HB.out | apply below_alloc | apply pw_below_drewN | apply below_drew1 | refine below_set ?_ GE258.out) | exact HB.out))) : w.heap.size ≤ gb268)); have n6_ := Aside0.mk ((by rw [hg]; exact (below_size (by repeat (first | (with_reducible first | exact HB.out | apply below_alloc | apply pw_below_drewN | apply below_drew1 | refine below_set ?_ GE258.out) | exact HB.out))) : w.heap.size ≤ gb268)); have n7_ := Aside0.mk ((by rw [hg]; exact Nat.ne_of_lt (blk_lt (g := gb258) (o := .cells #[.slice A0_0 l0_0.length c0_0, .slice A0_1 l0_1.length c0_1] 29 (0, 0)) (bkq BK258.out)) : gb258 ≠ gb268)); have n8_ := Aside0.mk ((by rw [hg]; exact Nat.ne_of_gt (blk_lt (g := gb258) (o := .cells #[.slice A0_0 l0_0.length c0_0, .slice A0_1 l0_1.length c0_1] 29 (0, 0)) (bkq BK258.out)) : gb268 ≠ gb258)); clear HO264; clear HO267; clear BK258; clear HB; have HO264 := n0_; have HO267 := n1_; have BK258 := n2_; have HB := n3_; have BK268 := n4_; have GW268 := n5_; have GE268 := n6_; have NB258_268 := n7_; have NB268_258 := n8_; clear n0_ n1_ n2_ n3_ n4_ n5_ n6_ n7_ n8_; clear hb hbox hg; obtain ⟨Ao24, co24, eo24⟩ := Kd.R_slice HO264.out; subst eo24; have hnb25 := NB268_258.out; have hnc25 := NB258_268.out; have hcz26_0 : w23.cell? ⟨gb268, 0, none⟩ = some (.slice none 0 0) := (blk_cell BK268.out 0).trans rfl; have hcz26_1 : w23.cell? ⟨gb268, 1, none⟩ = some (.slice none 0 0) := (blk_cell BK268.out 1).trans rfl; have hfz26_0 := blk_frozen BK268.out 0; have hfz26_1 := blk_frozen BK268.out 1; obtain ⟨Ao27, co27, eo27⟩ := Kd.S_slice HO267.out; subst eo27) | (go_at_call 18; (with_reducible refine (matrix_Of.calls kj1 _ _ t262 _ _ t265 t269 _ ?side1 ?side2 ?side3 ?side4 A15.out).mono ?_); (case side1 => refine (Kd.R_reads' (e := 52) (base := w.heap.size) (ok := fun k_ => True) (n := t262.length) (c := co24) ?_).2.2; exact (by (with_reducible repeat (first | apply Kd.R_alloc | apply Kd.R_drewN | apply Kd.R_drew)); exact (Kd.R_mono (Kd.R_far (p := ⟨gb268, 1, none⟩) (Kd.R_far (p := ⟨gb268, 0, none⟩) (Kd.R_types HO264.out BK268.out (by decide)) (fun _ hk => hk.2) (.slice Ao24 t262.length co24)) (fun _ hk => hk.2) (.slice Ao27 t265.length co27)) (fun _ h_ => h_.1)))); (case side2 => exact (Kd.R_reads' HO264.out).2.1); (case side3 => refine (Kd.S_reads' (e := 64) (base := w.heap.size) (ok := fun k_ => True) (n := t265.length) (c := co27) ?_).2.2; exact (by (with_reducible repeat (first | apply Kd.S_alloc | apply Kd.S_drewN | apply Kd.S_drew)); exact (Kd.S_mono (Kd.S_far (p := ⟨gb268, 1, none⟩) (Kd.S_far (p := ⟨gb268, 0, none⟩) (Kd.S_types HO267.out BK268.out (by decide)) (fun _ hk => hk.2) (.slice Ao24 t262.length co24)) (fun _ hk => hk.2) (.slice Ao27 t265.length co27)) (fun _ h_ => h_.1)))); (case side4 => exact (Kd.S_reads' HO267.out).2.1); rintro e w28 ⟨v270, rfl, ho0, hb⟩; have n0_ := Aside0.mk (Kd.R_below (by (with_reducible repeat (first | apply Kd.R_alloc | apply Kd.R_drewN | apply Kd.R_drew)); exact (Kd.R_mono (Kd.R_far (p := ⟨gb268, 1, none⟩) (Kd.R_far (p := ⟨gb268, 0, none⟩) (Kd.R_types HO264.out BK268.out (by decide)) (fun _ hk => hk.2) (.slice Ao24 t262.length co24)) (fun _ hk => hk.2) (.slice Ao27 t265.length co27)) (fun _ h_ => h_.1))) hb); have n1_ := Aside0.mk (Kd.S_below (by (with_reducible repeat (first | apply Kd.S_alloc | apply Kd.S_drewN | apply Kd.S_drew)); exact (Kd.S_mono (Kd.S_far (p := ⟨gb268, 1, none⟩) (Kd.S_far (p := ⟨gb268, 0, none⟩) (Kd.S_types HO267.out BK268.out (by decide)) (fun _ hk => hk.2) (.slice Ao24 t262.length co24)) (fun _ hk => hk.2) (.slice Ao27 t265.length co27)) (fun _ h_ => h_.1))) hb); have n2_ := Aside0.mk (Kd.S_lower ho0 (below_size (by repeat (first | (with_reducible first | exact HB.out | apply below_alloc | apply pw_below_drewN | apply below_drew1 | refine below_set ?_ GE258.out | refine below_set ?_ GE268.out) | exact HB.out)))); have n3_ := Aside0.mk (blk_below (g := gb258) (o := .cells #[.slice A0_0 l0_0.length c0_0, .slice A0_1 l0_1.length c0_1] 29 (0, 0)) (by (with_reducible repeat (first | refine blk_drewN ?_ _ | refine blk_drew ?_ | refine blk_alloc ?_ _)); refine blk_far ?_ NB258_268.out _; (with_reducible repeat (first | refine blk_drewN ?_ _ | refine blk_drew ?_ | refine blk_alloc ?_ _)); refine blk_far ?_ NB258_268.out _; (with_reducible repeat (first | refine blk_drewN ?_ _ | refine blk_drew ?_ | refine blk_alloc ?_ _)); exact BK258.out) hb); have n4_ := Aside0.mk (blk_below (g := gb268) (o := .cells #[.slice Ao24 t262.length co24, .slice Ao27 t265.length co27] 34 (0, 0)) (by (with_reducible repeat (first | refine blk_drewN ?_ _ | refine blk_drew ?_ | refine blk_alloc ?_ _)); refine blk_put (cs := #[.slice Ao24 t262.length co24, .slice none 0 0]) ?_ 1 _ rfl; (with_reducible repeat (first | refine blk_drewN ?_ _ | refine blk_drew ?_ | refine blk_alloc ?_ _)); refine blk_put (cs := #[.slice none 0 0, .slice none 0 0]) ?_ 0 _ rfl; (with_reducible repeat (first | refine blk_drewN ?_ _ | refine blk_drew ?_ | refine blk_alloc ?_ _)); exact BK268.out) hb); have n5_ := Aside0.mk (below_step (by repeat (first | (with_reducible first | exact HB.out | apply below_alloc | apply pw_below_drewN | apply below_drew1 | refine below_set ?_ GE258.out | refine below_set ?_ GE268.out) | exact HB.out)) hb); clear HO264; clear HO267; clear BK258; clear BK268; clear HB; have HO264 := n0_; have HO267 := n1_; have HO271 := n2_; have BK258 := n3_; have BK268 := n4_; have HB := n5_; clear n0_ n1_ n2_ n3_ n4_ n5_; (try clear hb); (try clear hb2); (try clear hk); (try clear hi); (try clear ho0); obtain ⟨Ao29, co29, eo29⟩ := Kd.S_slice HO271.out; subst eo29) | (go_at_call 19; (with_reducible refine (matrix_Turn.calls kj1 _ _ t269 t272 _ ?side1 ?side2 A16.out).mono ?_); (case side1 => repeat (first | exact (Kd.S_reads' HO271.out).2.2 | (with_reducible refine Kd.C_alloc ?_ _) | (with_reducible refine Kd.C_drewN ?_ _) | (with_reducible refine Kd.C_drew ?_))); (case side2 => exact (Kd.S_reads' HO271.out).2.1); rintro e w30 ⟨v273, rfl, ho0, hb⟩; have n0_ := Aside0.mk (Kd.R_below (kq_R HO264.out) hb); have n1_ := Aside0.mk (Kd.S_below (kq_S HO267.out) hb); have n2_ := Aside0.mk (Kd.S_elder' (kq_S HO271.out) (Kd.S_base ho0) hb); have n3_ := Aside0.mk (Kd.S_lower (Kd.S_new' ho0 (Kd.S_lt (kq_S HO271.out))) (below_size (by repeat (first | (with_reducible first | exact HB.out | apply below_alloc | apply pw_below_drewN | apply below_drew1 | refine below_set ?_ GE258.out | refine below_set ?_ GE268.out) | exact HB.out)))); have n4_ := Aside0.mk (blk_below (g := gb258) (o := .cells #[.slice A0_0 l0_0.length c0_0, .slice A0_1 l0_1.length c0_1] 29 (0, 0)) (bkq BK258.out) hb); have n5_ := Aside0.mk (blk_below (g := gb268) (o := .cells #[.slice Ao24 t262.length co24, .slice Ao27 t265.length co27] 34 (0, 0)) (bkq BK268.out) hb); have n6_ := Aside0.mk (below_step (by repeat (first | (with_reducible first | exact HB.out | apply below_alloc | apply pw_below_drewN | apply below_drew1 | refine below_set ?_ GE258.out | refine below_set ?_ GE268.out) | exact HB.out)) hb); clear HO264; clear HO267; clear HO271; clear BK258; clear BK268; clear HB; have HO264 := n0_; have HO267 := n1_; have HO271 := n2_; have HO274 := n3_; have BK258 := n4_; have BK268 := n5_; have HB := n6_; clear n0_ n1_ n2_ n3_ n4_ n5_ n6_; (try clear hb); (try clear hb2); (try clear hk); (try clear hi); (try clear ho0); have hcz31_0 : w30.cell? ⟨gb268, 0, none⟩ = some (.slice Ao24 t262.length co24) := (blk_cell BK268.out 0).trans rfl; have hcz31_1 : w30.cell? ⟨gb268, 1, none⟩ = some (.slice Ao27 t265.length co27) := (blk_cell BK268.out 1).trans rfl; have hfz31_0 := blk_frozen BK268.out 0; have hfz31_1 := blk_frozen BK268.out 1) | (go_at_call 21; (with_reducible refine (marblerunref11_Change.calls kj1 _ _ t262 _ _ t265 t275 _ ?side1 ?side2 ?side3 ?side4 A17.out).mono ?_); (case side1 => repeat (first | exact (Kd.R_reads' HO264.out).2.2 | (with_reducible refine Kd.C_alloc ?_ _) | (with_reducible refine Kd.C_drewN ?_ _) | (with_reducible refine Kd.C_drew ?_))); (case side2 => exact (Kd.R_reads' HO264.out).2.1); (case side3 => repeat (first | exact (Kd.S_reads' HO267.out).2.2 | (with_reducible refine Kd.C_alloc ?_ _) | (with_reducible refine Kd.C_drewN ?_ _) | (with_reducible refine Kd.C_drew ?_))); (case side4 => exact (Kd.S_reads' HO267.out).2.1); rintro e w32 ⟨v276, rfl, ho0, hb⟩; have n0_ := Aside0.mk (Kd.R_below (kq_R HO264.out) hb); have n1_ := Aside0.mk (Kd.S_below (kq_S HO267.out) hb); have n2_ := Aside0.mk (Kd.S_elder' (kq_S HO271.out) (Kd.S_base ho0) hb); have n3_ := Aside0.mk (Kd.S_elder' (kq_S HO274.out) (Kd.S_base ho0) hb); have n4_ := Aside0.mk (Kd.S_lower (Kd.S_new' (Kd.S_new' ho0 (Kd.S_lt (kq_S HO271.out))) (Kd.S_lt (kq_S HO274.out))) (below_size (by repeat (first | (with_reducible first | exact HB.out | apply below_alloc | apply pw_below_drewN | apply below_drew1 | refine below_set ?_ GE258.out | refine below_set ?_ GE268.out) | exact HB.out)))); have n5_ := Aside0.mk (blk_below (g := gb258) (o := .cells #[.slice A0_0 l0_0.length c0_0, .slice A0_1 l0_1.length c0_1] 29 (0, 0)) (bkq BK258.out) hb); have n6_ := Aside0.mk (blk_below (g := gb268) (o := .cells #[.slice Ao24 t262.length co24, .slice Ao27 t265.length co27] 34 (0, 0)) (bkq BK268.out) hb); have n7_ := Aside0.mk (below_step (by repeat (first | (with_reducible first | exact HB.out | apply below_alloc | apply pw_below_drewN | apply below_drew1 | refine below_set ?_ GE258.out | refine below_set ?_ GE268.out) | exact HB.out)) hb); clear HO264; clear HO267; clear HO271; clear HO274; clear BK258; clear BK268; clear HB; have HO264 := n0_; have HO267 := n1_; have HO271 := n2_; have HO274 := n3_; have HO277 := n4_; have BK258 := n5_; have BK268 := n6_; have HB := n7_; clear n0_ n1_ n2_ n3_ n4_ n5_ n6_ n7_; (try clear hb); (try clear hb2); (try clear hk); (try clear hi); (try clear ho0); obtain ⟨Ao33, co33, eo33⟩ := Kd.S_slice HO277.out; subst eo33) | (go_at_call 20; (with_reducible refine (marblerunref01_Same.calls kj1 _ _ t269 _ _ t275 true _ ?side1 ?side2 ?side3 ?side4 A18.out).mono ?_); (case side1 => repeat (first | exact (Kd.S_reads' HO271.out).2.2 | (with_reducible refine Kd.C_alloc ?_ _) | (with_reducible refine Kd.C_drewN ?_ _) | (with_reducible refine Kd.C_drew ?_))); (case side2 => exact (Kd.S_reads' HO271.out).2.1); (case side3 => repeat (first | exact (Kd.S_reads' HO277.out).2.2 | (with_reducible refine Kd.C_alloc ?_ _) | (with_reducible refine Kd.C_drewN ?_ _) | (with_reducible refine Kd.C_drew ?_))); (case side4 => exact (Kd.S_reads' HO277.out).2.1); rintro e w' ⟨rfl, ⟨nd, rfl⟩⟩; (try first | exact ⟨rfl, _, World.drewN_drewN _ _ _⟩ | exact ⟨rfl, _, Eq.trans (World.drewN_drewN _ _ _) (congrArg (World.drewN _) (Nat.add_assoc _ _ _))⟩); have hcz34_0 : w32.cell? ⟨gb268, 0, none⟩ = some (.slice Ao24 t262.length co24) := (blk_cell BK268.out 0).trans rfl; have hcz34_1 : w32.cell? ⟨gb268, 1, none⟩ = some (.slice Ao27 t265.length co27) := (blk_cell BK268.out 1).trans rfl; have hfz34_0 := blk_frozen BK268.out 0; have hfz34_1 := blk_frozen BK268.out 1; obtain ⟨Ao35, co35, eo35⟩ := Kd.S_slice HO274.out; subst eo35)))
        go_ret
        exact ⟨by first | rfl | (simp [errW_none, errW_some] <;> rfl) | (simp [*, errW_none, errW_some] <;> rfl), by repeat (first | (with_reducible first | exact HB.out | apply below_alloc | apply pw_below_drewN | apply below_drew1 | refine below_set ?_ GE258.out | refine below_set ?_ GE268.out) | exact HB.out)⟩
      rw [if_neg c20] at H
      have c20b0 : ((t265.length : Int) == 0) = false := beq_eq_false_iff_ne.mpr c20
      have c20b1 : ((t265.length : Int) != 0) = true := bne_iff_ne.mpr c20
      have c20b2 : ¬ (t265 = []) := fun h_ => c20 (by rw [h_]; rfl)
      have H' := Aside0.mk H
      clear H
      have hcz36_0 : wc.cell? ⟨gb258, 0, none⟩ = some (.slice A0_0 l0_0.length c0_0) := (blk_cell BK258.out 0).trans rfl
      have hcz36_1 : wc.cell? ⟨gb258, 1, none⟩ = some (.slice A0_1 l0_1.length c0_1) := (blk_cell BK258.out 1).trans rfl
      have hfz36_0 := blk_frozen BK258.out 0
      have hfz36_1 := blk_frozen BK258.out 1
      iterate 3 ((try go_quiet (first | (go_at_call 17; (with_reducible refine (marblerunref05_Make.calls kj1 _ _ l0_0 _ _ l0_1 t262 t265 _ ?side1 ?side2 ?side3 ?side4 A14.out).mono ?_); (case side1 => repeat (first | exact (Kd.C_below HR0_0.out HB.out) | (with_reducible refine Kd.C_alloc ?_ _) | (with_reducible refine Kd.C_drewN ?_ _) | (with_reducible refine Kd.C_drew ?_))); (case side2 => exact HC0_0.out); (case side3 => repeat (first | exact (Kd.C_below HR0_1.out HB.out) | (with_reducible refine Kd.C_alloc ?_ _) | (with_reducible refine Kd.C_drewN ?_ _) | (with_reducible refine Kd.C_drew ?_))); (case side4 => exact HC0_1.out); rintro e w37 ⟨v263, v266, rfl, ho0, ho1, hb⟩; have n0_ := Aside0.mk (Kd.R_lower ho0 (below_size (by repeat (first | (with_reducible first | exact HB.out | apply below_alloc | apply pw_below_drewN | apply below_drew1 | refine below_set ?_ GE258.out) | exact HB.out)))); have n1_ := Aside0.mk (Kd.S_lower ho1 (below_size (by repeat (first | (with_reducible first | exact HB.out | apply below_alloc | apply pw_below_drewN | apply below_drew1 | refine below_set ?_ GE258.out) | exact HB.out)))); have n2_ := Aside0.mk (blk_below (g := gb258) (o := .cells #[.slice A0_0 l0_0.length c0_0, .slice A0_1 l0_1.length c0_1] 29 (0, 0)) (bkq BK258.out) hb); have n3_ := Aside0.mk (below_step (by repeat (first | (with_reducible first | exact HB.out | apply below_alloc | apply pw_below_drewN | apply below_drew1 | refine below_set ?_ GE258.out) | exact HB.out)) hb); clear BK258; clear HB; have HO264 := n0_; have HO267 := n1_; have BK258 := n2_; have HB := n3_; clear n0_ n1_ n2_ n3_; (try clear hb); (try clear hb2); (try clear hk); (try clear hi); (try clear ho0); (try clear ho1)) | (go_at_call 18; (with_reducible refine (matrix_Of.calls kj1 _ _ t262 _ _ t265 t269 _ ?side1 ?side2 ?side3 ?side4 A15.out).mono ?_); (case side1 => refine (Kd.R_reads' (e := 52) (base := w.heap.size) (ok := fun k_ => True) (n := t262.length) (c := co39) ?_).2.2; exact (by (with_reducible repeat (first | apply Kd.R_alloc | apply Kd.R_drewN | apply Kd.R_drew)); exact (Kd.R_mono (Kd.R_far (p := ⟨gb268, 1, none⟩) (Kd.R_far (p := ⟨gb268, 0, none⟩) (Kd.R_types HO264.out BK268.out (by decide)) (fun _ hk => hk.2) (.slice Ao39 t262.length co39)) (fun _ hk => hk.2) (.slice Ao42 t265.length co42)) (fun _ h_ => h_.1)))); (case side2 => exact (Kd.R_reads' HO264.out).2.1); (case side3 => refine (Kd.S_reads' (e := 64) (base := w.heap.size) (ok := fun k_ => True) (n := t265.length) (c := co42) ?_).2.2; exact (by (with_reducible repeat (first | apply Kd.S_alloc | apply Kd.S_drewN | apply Kd.S_drew)); exact (Kd.S_mono (Kd.S_far (p := ⟨gb268, 1, none⟩) (Kd.S_far (p := ⟨gb268, 0, none⟩) (Kd.S_types HO267.out BK268.out (by decide)) (fun _ hk => hk.2) (.slice Ao39 t262.length co39)) (fun _ hk => hk.2) (.slice Ao42 t265.length co42)) (fun _ h_ => h_.1)))); (case side4 => exact (Kd.S_reads' HO267.out).2.1); rintro e w43 ⟨v270, rfl, ho0, hb⟩; have n0_ := Aside0.mk (Kd.R_below (by (with_reducible repeat (first | apply Kd.R_alloc | apply Kd.R_drewN | apply Kd.R_drew)); exact (Kd.R_mono (Kd.R_far (p := ⟨gb268, 1, none⟩) (Kd.R_far (p := ⟨gb268, 0, none⟩) (Kd.R_types HO264.out BK268.out (by decide)) (fun _ hk => hk.2) (.slice Ao39 t262.length co39)) (fun _ hk => hk.2) (.slice Ao42 t265.length co42)) (fun _ h_ => h_.1))) hb); have n1_ := Aside0.mk (Kd.S_below (by (with_reducible repeat (first | apply Kd.S_alloc | apply Kd.S_drewN | apply Kd.S_drew)); exact (Kd.S_mono (Kd.S_far (p := ⟨gb268, 1, none⟩) (Kd.S_far (p := ⟨gb268, 0, none⟩) (Kd.S_types HO267.out BK268.out (by decide)) (fun _ hk => hk.2) (.slice Ao39 t262.length co39)) (fun _ hk => hk.2) (.slice Ao42 t265.length co42)) (fun _ h_ => h_.1))) hb); have n2_ := Aside0.mk (Kd.S_lower ho0 (below_size (by repeat (first | (with_reducible first | exact HB.out | apply below_alloc | apply pw_below_drewN | apply below_drew1 | refine below_set ?_ GE258.out | refine below_set ?_ GE268.out) | exact HB.out)))); have n3_ := Aside0.mk (blk_below (g := gb258) (o := .cells #[.slice A0_0 l0_0.length c0_0, .slice A0_1 l0_1.length c0_1] 29 (0, 0)) (by (with_reducible repeat (first | refine blk_drewN ?_ _ | refine blk_drew ?_ | refine blk_alloc ?_ _)); refine blk_far ?_ NB258_268.out _; (with_reducible repeat (first | refine blk_drewN ?_ _ | refine blk_drew ?_ | refine blk_alloc ?_ _)); refine blk_far ?_ NB258_268.out _; (with_reducible repeat (first | refine blk_drewN ?_ _ | refine blk_drew ?_ | refine blk_alloc ?_ _)); exact BK258.out) hb); have n4_ := Aside0.mk (blk_below (g := gb268) (o := .cells #[.slice Ao39 t262.length co39, .slice Ao42 t265.length co42] 34 (0, 0)) (by (with_reducible repeat (first | refine blk_drewN ?_ _ | refine blk_drew ?_ | refine blk_alloc ?_ _)); refine blk_put (cs := #[.slice Ao39 t262.length co39, .slice none 0 0]) ?_ 1 _ rfl; (with_reducible repeat (first | refine blk_drewN ?_ _ | refine blk_drew ?_ | refine blk_alloc ?_ _)); refine blk_put (cs := #[.slice none 0 0, .slice none 0 0]) ?_ 0 _ rfl; (with_reducible repeat (first | refine blk_drewN ?_ _ | refine blk_drew ?_ | refine blk_alloc ?_ _)); exact BK268.out) hb); have n5_ := Aside0.mk (below_step (by repeat (first | (with_reducible first | exact HB.out | apply below_alloc | apply pw_below_drewN | apply below_drew1 | refine below_set ?_ GE258.out | refine below_set ?_ GE268.out) | exact HB.out)) hb); clear HO264; clear HO267; clear BK258; clear BK268; clear HB; have HO264 := n0_; have HO267 := n1_; have HO271 := n2_; have BK258 := n3_; have BK268 := n4_; have HB := n5_; clear n0_ n1_ n2_ n3_ n4_ n5_; (try clear hb); (try clear hb2); (try clear hk); (try clear hi); (try clear ho0); obtain ⟨Ao44, co44, eo44⟩ := Kd.S_slice HO271.out; subst eo44) | (go_at_call 19; (with_reducible refine (matrix_Turn.calls kj1 _ _ t269 t272 _ ?side1 ?side2 A16.out).mono ?_); (case side1 => repeat (first | exact (Kd.S_reads' HO271.out).2.2 | (with_reducible refine Kd.C_alloc ?_ _) | (with_reducible refine Kd.C_drewN ?_ _) | (with_reducible refine Kd.C_drew ?_))); (case side2 => exact (Kd.S_reads' HO271.out).2.1); rintro e w45 ⟨v273, rfl, ho0, hb⟩; have n0_ := Aside0.mk (Kd.R_below (kq_R HO264.out) hb); have n1_ := Aside0.mk (Kd.S_below (kq_S HO267.out) hb); have n2_ := Aside0.mk (Kd.S_elder' (kq_S HO271.out) (Kd.S_base ho0) hb); have n3_ := Aside0.mk (Kd.S_lower (Kd.S_new' ho0 (Kd.S_lt (kq_S HO271.out))) (below_size (by repeat (first | (with_reducible first | exact HB.out | apply below_alloc | apply pw_below_drewN | apply below_drew1 | refine below_set ?_ GE258.out | refine below_set ?_ GE268.out) | exact HB.out)))); have n4_ := Aside0.mk (blk_below (g := gb258) (o := .cells #[.slice A0_0 l0_0.length c0_0, .slice A0_1 l0_1.length c0_1] 29 (0, 0)) (bkq BK258.out) hb); have n5_ := Aside0.mk (blk_below (g := gb268) (o := .cells #[.slice Ao39 t262.length co39, .slice Ao42 t265.length co42] 34 (0, 0)) (bkq BK268.out) hb); have n6_ := Aside0.mk (below_step (by repeat (first | (with_reducible first | exact HB.out | apply below_alloc | apply pw_below_drewN | apply below_drew1 | refine below_set ?_ GE258.out | refine below_set ?_ GE268.out) | exact HB.out)) hb); clear HO264; clear HO267; clear HO271; clear BK258; clear BK268; clear HB; have HO264 := n0_; have HO267 := n1_; have HO271 := n2_; have HO274 := n3_; have BK258 := n4_; have BK268 := n5_; have HB := n6_; clear n0_ n1_ n2_ n3_ n4_ n5_ n6_; (try clear hb); (try clear hb2); (try clear hk); (try clear hi); (try clear ho0); have hcz46_0 : w45.cell? ⟨gb268, 0, none⟩ = some (.slice Ao39 t262.length co39) := (blk_cell BK268.out 0).trans rfl; have hcz46_1 : w45.cell? ⟨gb268, 1, none⟩ = some (.slice Ao42 t265.length co42) := (blk_cell BK268.out 1).trans rfl; have hfz46_0 := blk_frozen BK268.out 0; have hfz46_1 := blk_frozen BK268.out 1) | (go_at_call 21; (with_reducible refine (marblerunref11_Change.calls kj1 _ _ t262 _ _ t265 t275 _ ?side1 ?side2 ?side3 ?side4 A17.out).mono ?_); (case side1 => repeat (first | exact (Kd.R_reads' HO264.out).2.2 | (with_reducible refine Kd.C_alloc ?_ _) | (with_reducible refine Kd.C_drewN ?_ _) | (with_reducible refine Kd.C_drew ?_))); (case side2 => exact (Kd.R_reads' HO264.out).2.1); (case side3 => repeat (first | exact (Kd.S_reads' HO267.out).2.2 | (with_reducible refine Kd.C_alloc ?_ _) | (with_reducible refine Kd.C_drewN ?_ _) | (with_reducible refine Kd.C_drew ?_))); (case side4 => exact (Kd.S_reads' HO267.out).2.1); rintro e w47 ⟨v276, rfl, ho0, hb⟩; have n0_ := Aside0.mk (Kd.R_below (kq_R HO264.out) hb); have n1_ := Aside0.mk (Kd.S_below (kq_S HO267.out) hb); have n2_ := Aside0.mk (Kd.S_elder' (kq_S HO271.out) (Kd.S_base ho0) hb); have n3_ := Aside0.mk (Kd.S_elder' (kq_S HO274.out) (Kd.S_base ho0) hb); have n4_ := Aside0.mk (Kd.S_lower (Kd.S_new' (Kd.S_new' ho0 (Kd.S_lt (kq_S HO271.out))) (Kd.S_lt (kq_S HO274.out))) (below_size (by repeat (first | (with_reducible first | exact HB.out | apply below_alloc | apply pw_below_drewN | apply below_drew1 | refine below_set ?_ GE258.out | refine below_set ?_ GE268.out) | exact HB.out)))); have n5_ := Aside0.mk (blk_below (g := gb258) (o := .cells #[.slice A0_0 l0_0.length c0_0, .slice A0_1 l0_1.length c0_1] 29 (0, 0)) (bkq BK258.out) hb); have n6_ := Aside0.mk (blk_below (g := gb268) (o := .cells #[.slice Ao39 t262.length co39, .slice Ao42 t265.length co42] 34 (0, 0)) (bkq BK268.out) hb); have n7_ := Aside0.mk (below_step (by repeat (first | (with_reducible first | exact HB.out | apply below_alloc | apply pw_below_drewN | apply below_drew1 | refine below_set ?_ GE258.out | refine below_set ?_ GE268.out) | exact HB.out)) hb); clear HO264; clear HO267; clear HO271; clear HO274; clear BK258; clear BK268; clear HB; have HO264 := n0_; have HO267 := n1_; have HO271 := n2_; have HO274 := n3_; have HO277 := n4_; have BK258 := n5_; have BK268 := n6_; have HB := n7_; clear n0_ n1_ n2_ n3_ n4_ n5_ n6_ n7_; (try clear hb); (try clear hb2); (try clear hk); (try clear hi); (try clear ho0); obtain ⟨Ao48, co48, eo48⟩ := Kd.S_slice HO277.out; subst eo48) | (go_at_call 20; (with_reducible refine (marblerunref01_Same.calls kj1 _ _ t269 _ _ t275 true _ ?side1 ?side2 ?side3 ?side4 A18.out).mono ?_); (case side1 => repeat (first | exact (Kd.S_reads' HO271.out).2.2 | (with_reducible refine Kd.C_alloc ?_ _) | (with_reducible refine Kd.C_drewN ?_ _) | (with_reducible refine Kd.C_drew ?_))); (case side2 => exact (Kd.S_reads' HO271.out).2.1); (case side3 => repeat (first | exact (Kd.S_reads' HO277.out).2.2 | (with_reducible refine Kd.C_alloc ?_ _) | (with_reducible refine Kd.C_drewN ?_ _) | (with_reducible refine Kd.C_drew ?_))); (case side4 => exact (Kd.S_reads' HO277.out).2.1); rintro e w' ⟨rfl, ⟨nd, rfl⟩⟩; (try first | exact ⟨rfl, _, World.drewN_drewN _ _ _⟩ | exact ⟨rfl, _, Eq.trans (World.drewN_drewN _ _ _) (congrArg (World.drewN _) (Nat.add_assoc _ _ _))⟩); have hcz49_0 : w47.cell? ⟨gb268, 0, none⟩ = some (.slice Ao39 t262.length co39) := (blk_cell BK268.out 0).trans rfl; have hcz49_1 : w47.cell? ⟨gb268, 1, none⟩ = some (.slice Ao42 t265.length co42) := (blk_cell BK268.out 1).trans rfl; have hfz49_0 := blk_frozen BK268.out 0; have hfz49_1 := blk_frozen BK268.out 1))); go_wp2_with (first | (go_at_call 17; (with_reducible refine (marblerunref05_Make.calls kj1 _ _ l0_0 _ _ l0_1 t262 t265 _ ?side1 ?side2 ?side3 ?side4 A14.out).mono ?_); (case side1 => repeat (first | exact (Kd.C_below HR0_0.out HB.out) | (with_reducible refine Kd.C_alloc ?_ _) | (with_reducible refine Kd.C_drewN ?_ _) | (with_reducible refine Kd.C_drew ?_))); (case side2 => exact HC0_0.out); (case side3 => repeat (first | exact (Kd.C_below HR0_1.out HB.out) | (with_reducible refine Kd.C_alloc ?_ _) | (with_reducible refine Kd.C_drewN ?_ _) | (with_reducible refine Kd.C_drew ?_))); (case side4 => exact HC0_1.out); rintro e w37 ⟨v263, v266, rfl, ho0, ho1, hb⟩; have n0_ := Aside0.mk (Kd.R_lower ho0 (below_size (by repeat (first | (with_reducible first | exact HB.out | apply below_alloc | apply pw_below_drewN | apply below_drew1 | refine below_set ?_ GE258.out) | exact HB.out)))); have n1_ := Aside0.mk (Kd.S_lower ho1 (below_size (by repeat (first | (with_reducible first | exact HB.out | apply below_alloc | apply pw_below_drewN | apply below_drew1 | refine below_set ?_ GE258.out) | exact HB.out)))); have n2_ := Aside0.mk (blk_below (g := gb258) (o := .cells #[.slice A0_0 l0_0.length c0_0, .slice A0_1 l0_1.length c0_1] 29 (0, 0)) (bkq BK258.out) hb); have n3_ := Aside0.mk (below_step (by repeat (first | (with_reducible first | exact HB.out | apply below_alloc | apply pw_below_drewN | apply below_drew1 | refine below_set ?_ GE258.out) | exact HB.out)) hb); clear BK258; clear HB; have HO264 := n0_; have HO267 := n1_; have BK258 := n2_; have HB := n3_; clear n0_ n1_ n2_ n3_; (try clear hb); (try clear hb2); (try clear hk); (try clear hi); (try clear ho0); (try clear ho1)) | ((with_reducible refine gate_dst (N := 3) rfl ?_); (try (refine gate_guard (by rfl) ?_; dsimp only)); refine box_event ?hg (N := 3) ?hd (cs := #[.slice none 0 0, .slice none 0 0]) (t := 34) ?hr ?_; (case hd => rfl); (case hg => rfl); (case hr => first | (go_simp; done) | (go_simp; rfl)); intro gb268 hg w38 hbox hb; have n0_ := Aside0.mk (Kd.R_below (kq_R HO264.out) hb); have n1_ := Aside0.mk (Kd.S_below (kq_S HO267.out) hb); have n2_ := Aside0.mk (blk_below (g := gb258) (o := .cells #[.slice A0_0 l0_0.length c0_0, .slice A0_1 l0_1.length c0_1] 29 (0, 0)) (bkq BK258.out) hb); have n3_ := Aside0.mk (below_step (by repeat (first | (with_reducible first | exact HB.out | apply below_alloc | apply pw_below_drewN | apply below_drew1 | refine below_set ?_ GE258.out) | exact HB.out)) hb); have n4_ := Aside0.mk (hbox); have n5_ := Aside0.mk ((by rw [hg]; exact (below_size (by repeat (first | (with_reducible first | exact HB.out | apply below_alloc | apply pw_below_drewN | apply below_drew1 | refine below_set ?_ GE258.out) | exact HB.out))) : w.heap.size ≤ gb268)); have n6_ := Aside0.mk ((by rw [hg]; exact (below_size (by repeat (first | (with_reducible first | exact HB.out | apply below_alloc | apply pw_below_drewN | apply below_drew1 | refine below_set ?_ GE258.out) | exact HB.out))) : w.heap.size ≤ gb268)); have n7_ := Aside0.mk ((by rw [hg]; exact Nat.ne_of_lt (blk_lt (g := gb258) (o := .cells #[.slice A0_0 l0_0.length c0_0, .slice A0_1 l0_1.length c0_1] 29 (0, 0)) (bkq BK258.out)) : gb258 ≠ gb268)); have n8_ := Aside0.mk ((by rw [hg]; exact Nat.ne_of_gt (blk_lt (g := gb258) (o := .cells #[.slice A0_0 l0_0.length c0_0, .slice A0_1 l0_1.length c0_1] 29 (0, 0)) (bkq BK258.out)) : gb268 ≠ gb258)); clear HO264; clear HO267; clear BK258; clear HB; have HO264 := n0_; have HO267 := n1_; have BK258 := n2_; have HB := n3_; have BK268 := n4_; have GW268 := n5_; have GE268 := n6_; have NB258_268 := n7_; have NB268_258 := n8_; clear n0_ n1_ n2_ n3_ n4_ n5_ n6_ n7_ n8_; clear hb hbox hg; obtain ⟨Ao39, co39, eo39⟩ := Kd.R_slice HO264.out; subst eo39; have hnb40 := NB268_258.out; have hnc40 := NB258_268.out; have hcz41_0 : w38.cell? ⟨gb268, 0, none⟩ = some (.slice none 0 0) := (blk_cell BK268.out 0).trans rfl; have hcz41_1 : w38.cell? ⟨gb268, 1, none⟩ = some (.slice none 0 0) := (blk_cell BK268.out 1).trans rfl; have hfz41_0 := blk_frozen BK268.out 0; have hfz41_1 := blk_frozen BK268.out 1; obtain ⟨Ao42, co42, eo42⟩ := Kd.S_slice HO267.out; subst eo42) | (go_at_call 18; (with_reducible refine (matrix_Of.calls kj1 _ _ t262 _ _ t265 t269 _ ?side1 ?side2 ?side3 ?side4 A15.out).mono ?_); (case side1 => refine (Kd.R_reads' (e := 52) (base := w.heap.size) (ok := fun k_ => True) (n := t262.length) (c := co39) ?_).2.2; exact (by (with_reducible repeat (first | apply Kd.R_alloc | apply Kd.R_drewN | apply Kd.R_drew)); exact (Kd.R_mono (Kd.R_far (p := ⟨gb268, 1, none⟩) (Kd.R_far (p := ⟨gb268, 0, none⟩) (Kd.R_types HO264.out BK268.out (by decide)) (fun _ hk => hk.2) (.slice Ao39 t262.length co39)) (fun _ hk => hk.2) (.slice Ao42 t265.length co42)) (fun _ h_ => h_.1)))); (case side2 => exact (Kd.R_reads' HO264.out).2.1); (case side3 => refine (Kd.S_reads' (e := 64) (base := w.heap.size) (ok := fun k_ => True) (n := t265.length) (c := co42) ?_).2.2; exact (by (with_reducible repeat (first | apply Kd.S_alloc | apply Kd.S_drewN | apply Kd.S_drew)); exact (Kd.S_mono (Kd.S_far (p := ⟨gb268, 1, none⟩) (Kd.S_far (p := ⟨gb268, 0, none⟩) (Kd.S_types HO267.out BK268.out (by decide)) (fun _ hk => hk.2) (.slice Ao39 t262.length co39)) (fun _ hk => hk.2) (.slice Ao42 t265.length co42)) (fun _ h_ => h_.1)))); (case side4 => exact (Kd.S_reads' HO267.out).2.1); rintro e w43 ⟨v270, rfl, ho0, hb⟩; have n0_ := Aside0.mk (Kd.R_below (by (with_reducible repeat (first | apply Kd.R_alloc | apply Kd.R_drewN | apply Kd.R_drew)); exact (Kd.R_mono (Kd.R_far (p := ⟨gb268, 1, none⟩) (Kd.R_far (p := ⟨gb268, 0, none⟩) (Kd.R_types HO264.out BK268.out (by decide)) (fun _ hk => hk.2) (.slice Ao39 t262.length co39)) (fun _ hk => hk.2) (.slice Ao42 t265.length co42)) (fun _ h_ => h_.1))) hb); have n1_ := Aside0.mk (Kd.S_below (by (with_reducible repeat (first | apply Kd.S_alloc | apply Kd.S_drewN | apply Kd.S_drew)); exact (Kd.S_mono (Kd.S_far (p := ⟨gb268, 1, none⟩) (Kd.S_far (p := ⟨gb268, 0, none⟩) (Kd.S_types HO267.out BK268.out (by decide)) (fun _ hk => hk.2) (.slice Ao39 t262.length co39)) (fun _ hk => hk.2) (.slice Ao42 t265.length co42)) (fun _ h_ => h_.1))) hb); have n2_ := Aside0.mk (Kd.S_lower ho0 (below_size (by repeat (first | (with_reducible first | exact HB.out | apply below_alloc | apply pw_below_drewN | apply below_drew1 | refine below_set ?_ GE258.out | refine below_set ?_ GE268.out) | exact HB.out)))); have n3_ := Aside0.mk (blk_below (g := gb258) (o := .cells #[.slice A0_0 l0_0.length c0_0, .slice A0_1 l0_1.length c0_1] 29 (0, 0)) (by (with_reducible repeat (first | refine blk_drewN ?_ _ | refine blk_drew ?_ | refine blk_alloc ?_ _)); refine blk_far ?_ NB258_268.out _; (with_reducible repeat (first | refine blk_drewN ?_ _ | refine blk_drew ?_ | refine blk_alloc ?_ _)); refine blk_far ?_ NB258_268.out _; (with_reducible repeat (first | refine blk_drewN ?_ _ | refine blk_drew ?_ | refine blk_alloc ?_ _)); exact BK258.out) hb); have n4_ := Aside0.mk (blk_below (g := gb268) (o := .cells #[.slice Ao39 t262.length co39, .slice Ao42 t265.length co42] 34 (0, 0)) (by (with_reducible repeat (first | refine blk_drewN ?_ _ | refine blk_drew ?_ | refine blk_alloc ?_ _)); refine blk_put (cs := #[.slice Ao39 t262.length co39, .slice none 0 0]) ?_ 1 _ rfl; (with_reducible repeat (first | refine blk_drewN ?_ _ | refine blk_drew ?_ | refine blk_alloc ?_ _)); refine blk_put (cs := #[.slice none 0 0, .slice none 0 0]) ?_ 0 _ rfl; (with_reducible repeat (first | refine blk_drewN ?_ _ | refine blk_drew ?_ | refine blk_alloc ?_ _)); exact BK268.out) hb); have n5_ := Aside0.mk (below_step (by repeat (first | (with_reducible first | exact HB.out | apply below_alloc | apply pw_below_drewN | apply below_drew1 | refine below_set ?_ GE258.out | refine below_set ?_ GE268.out) | exact HB.out)) hb); clear HO264; clear HO267; clear BK258; clear BK268; clear HB; have HO264 := n0_; have HO267 := n1_; have HO271 := n2_; have BK258 := n3_; have BK268 := n4_; have HB := n5_; clear n0_ n1_ n2_ n3_ n4_ n5_; (try clear hb); (try clear hb2); (try clear hk); (try clear hi); (try clear ho0); obtain ⟨Ao44, co44, eo44⟩ := Kd.S_slice HO271.out; subst eo44) | (go_at_call 19; (with_reducible refine (matrix_Turn.calls kj1 _ _ t269 t272 _ ?side1 ?side2 A16.out).mono ?_); (case side1 => repeat (first | exact (Kd.S_reads' HO271.out).2.2 | (with_reducible refine Kd.C_alloc ?_ _) | (with_reducible refine Kd.C_drewN ?_ _) | (with_reducible refine Kd.C_drew ?_))); (case side2 => exact (Kd.S_reads' HO271.out).2.1); rintro e w45 ⟨v273, rfl, ho0, hb⟩; have n0_ := Aside0.mk (Kd.R_below (kq_R HO264.out) hb); have n1_ := Aside0.mk (Kd.S_below (kq_S HO267.out) hb); have n2_ := Aside0.mk (Kd.S_elder' (kq_S HO271.out) (Kd.S_base ho0) hb); have n3_ := Aside0.mk (Kd.S_lower (Kd.S_new' ho0 (Kd.S_lt (kq_S HO271.out))) (below_size (by repeat (first | (with_reducible first | exact HB.out | apply below_alloc | apply pw_below_drewN | apply below_drew1 | refine below_set ?_ GE258.out | refine below_set ?_ GE268.out) | exact HB.out)))); have n4_ := Aside0.mk (blk_below (g := gb258) (o := .cells #[.slice A0_0 l0_0.length c0_0, .slice A0_1 l0_1.length c0_1] 29 (0, 0)) (bkq BK258.out) hb); have n5_ := Aside0.mk (blk_below (g := gb268) (o := .cells #[.slice Ao39 t262.length co39, .slice Ao42 t265.length co42] 34 (0, 0)) (bkq BK268.out) hb); have n6_ := Aside0.mk (below_step (by repeat (first | (with_reducible first | exact HB.out | apply below_alloc | apply pw_below_drewN | apply below_drew1 | refine below_set ?_ GE258.out | refine below_set ?_ GE268.out) | exact HB.out)) hb); clear HO264; clear HO267; clear HO271; clear BK258; clear BK268; clear HB; have HO264 := n0_; have HO267 := n1_; have HO271 := n2_; have HO274 := n3_; have BK258 := n4_; have BK268 := n5_; have HB := n6_; clear n0_ n1_ n2_ n3_ n4_ n5_ n6_; (try clear hb); (try clear hb2); (try clear hk); (try clear hi); (try clear ho0); have hcz46_0 : w45.cell? ⟨gb268, 0, none⟩ = some (.slice Ao39 t262.length co39) := (blk_cell BK268.out 0).trans rfl; have hcz46_1 : w45.cell? ⟨gb268, 1, none⟩ = some (.slice Ao42 t265.length co42) := (blk_cell BK268.out 1).trans rfl; have hfz46_0 := blk_frozen BK268.out 0; have hfz46_1 := blk_frozen BK268.out 1) | (go_at_call 21; (with_reducible refine (marblerunref11_Change.calls kj1 _ _ t262 _ _ t265 t275 _ ?side1 ?side2 ?side3 ?side4 A17.out).mono ?_); (case side1 => repeat (first | exact (Kd.R_reads' HO264.out).2.2 | (with_reducible refine Kd.C_alloc ?_ _) | (with_reducible refine Kd.C_drewN ?_ _) | (with_reducible refine Kd.C_drew ?_))); (case side2 => exact (Kd.R_reads' HO264.out).2.1); (case side3 => repeat (first | exact (Kd.S_reads' HO267.out).2.2 | (with_reducible refine Kd.C_alloc ?_ _) | (with_reducible refine Kd.C_drewN ?_ _) | (with_reducible refine Kd.C_drew ?_))); (case side4 => exact (Kd.S_reads' HO267.out).2.1); rintro e w47 ⟨v276, rfl, ho0, hb⟩; have n0_ := Aside0.mk (Kd.R_below (kq_R HO264.out) hb); have n1_ := Aside0.mk (Kd.S_below (kq_S HO267.out) hb); have n2_ := Aside0.mk (Kd.S_elder' (kq_S HO271.out) (Kd.S_base ho0) hb); have n3_ := Aside0.mk (Kd.S_elder' (kq_S HO274.out) (Kd.S_base ho0) hb); have n4_ := Aside0.mk (Kd.S_lower (Kd.S_new' (Kd.S_new' ho0 (Kd.S_lt (kq_S HO271.out))) (Kd.S_lt (kq_S HO274.out))) (below_size (by repeat (first | (with_reducible first | exact HB.out | apply below_alloc | apply pw_below_drewN | apply below_drew1 | refine below_set ?_ GE258.out | refine below_set ?_ GE268.out) | exact HB.out)))); have n5_ := Aside0.mk (blk_below (g := gb258) (o := .cells #[.slice A0_0 l0_0.length c0_0, .slice A0_1 l0_1.length c0_1] 29 (0, 0)) (bkq BK258.out) hb); have n6_ := Aside0.mk (blk_below (g := gb268) (o := .cells #[.slice Ao39 t262.length co39, .slice Ao42 t265.length co42] 34 (0, 0)) (bkq BK268.out) hb); have n7_ := Aside0.mk (below_step (by repeat (first | (with_reducible first | exact HB.out | apply below_alloc | apply pw_below_drewN | apply below_drew1 | refine below_set ?_ GE258.out | refine below_set ?_ GE268.out) | exact HB.out)) hb); clear HO264; clear HO267; clear HO271; clear HO274; clear BK258; clear BK268; clear HB; have HO264 := n0_; have HO267 := n1_; have HO271 := n2_; have HO274 := n3_; have HO277 := n4_; have BK258 := n5_; have BK268 := n6_; have HB := n7_; clear n0_ n1_ n2_ n3_ n4_ n5_ n6_ n7_; (try clear hb); (try clear hb2); (try clear hk); (try clear hi); (try clear ho0); obtain ⟨Ao48, co48, eo48⟩ := Kd.S_slice HO277.out; subst eo48) | (go_at_call 20; (with_reducible refine (marblerunref01_Same.calls kj1 _ _ t269 _ _ t275 true _ ?side1 ?side2 ?side3 ?side4 A18.out).mono ?_); (case side1 => repeat (first | exact (Kd.S_reads' HO271.out).2.2 | (with_reducible refine Kd.C_alloc ?_ _) | (with_reducible refine Kd.C_drewN ?_ _) | (with_reducible refine Kd.C_drew ?_))); (case side2 => exact (Kd.S_reads' HO271.out).2.1); (case side3 => repeat (first | exact (Kd.S_reads' HO277.out).2.2 | (with_reducible refine Kd.C_alloc ?_ _) | (with_reducible refine Kd.C_drewN ?_ _) | (with_reducible refine Kd.C_drew ?_))); (case side4 => exact (Kd.S_reads' HO277.out).2.1); rintro e w' ⟨rfl, ⟨nd, rfl⟩⟩; (try first | exact ⟨rfl, _, World.drewN_drewN _ _ _⟩ | exact ⟨rfl, _, Eq.trans (World.drewN_drewN _ _ _) (congrArg (World.drewN _) (Nat.add_assoc _ _ _))⟩); have hcz49_0 : w47.cell? ⟨gb268, 0, none⟩ = some (.slice Ao39 t262.length co39) := (blk_cell BK268.out 0).trans rfl; have hcz49_1 : w47.cell? ⟨gb268, 1, none⟩ = some (.slice Ao42 t265.length co42) := (blk_cell BK268.out 1).trans rfl; have hfz49_0 := blk_frozen BK268.out 0; have hfz49_1 := blk_frozen BK268.out 1)))
      go_loopg [6] kj1 (fun kq v6 w' => ∃ (x6_2 : Int), v6 = .int .i64 x6_2 ∧ Aside0 (marblerunlaw11_MatrixOf.l0 kq t269 t272 x6_2 = some r) ∧ Aside0 (kq ≤ kj1) ∧ Aside0 (Kd.S (Kd.slice 3 (Kd.int .i64)) 22 w' w.heap.size (fun k_ => some k_ ≠ (v273 : Value).ownBlock) (.slice Ao44 t269.length co44) t269) ∧ Aside0 (Kd.S (Kd.slice 3 (Kd.int .i64)) 22 w' w.heap.size (fun k_ => some k_ ≠ ((.slice Ao44 t269.length co44) : Value).ownBlock) v273 t272) ∧ Aside0 (Kd.R k52 52 w' w.heap.size (fun _ => True) (.slice Ao39 t262.length co39) t262) ∧ Aside0 (Kd.S k64 64 w' w.heap.size (fun _ => True) (.slice Ao42 t265.length co42) t265) ∧ Aside0 (w'.heap[gb258]? = some (.cells #[(.slice A0_0 l0_0.length c0_0), (.slice A0_1 l0_1.length c0_1)] 29 (0, 0))) ∧ Aside0 (w'.heap[gb268]? = some (.cells #[(.slice Ao39 t262.length co39), (.slice Ao42 t265.length co42)] 34 (0, 0))) ∧ Aside0 (Below w.heap.size w w'))
      case atStart => exact ⟨(0), (by first | rfl | (simp; done) | (simp [*]; done)), H', ⟨Nat.le_refl _⟩, ⟨by (with_reducible repeat (first | apply Kd.S_alloc | apply Kd.S_drewN | apply Kd.S_drew)); exact Kd.S_mono HO271.out (fun _ hk => hk.1.2)⟩, ⟨by (with_reducible repeat (first | apply Kd.S_alloc | apply Kd.S_drewN | apply Kd.S_drew)); exact Kd.S_mono HO274.out (fun _ hk => hk.1.2)⟩, ⟨by (with_reducible repeat (first | apply Kd.R_alloc | apply Kd.R_drewN | apply Kd.R_drew)); exact HO264.out⟩, ⟨by (with_reducible repeat (first | apply Kd.S_alloc | apply Kd.S_drewN | apply Kd.S_drew)); exact HO267.out⟩, ⟨by (with_reducible repeat (first | refine blk_drewN ?_ _ | refine blk_drew ?_ | refine blk_alloc ?_ _)); exact BK258.out⟩, ⟨by (with_reducible repeat (first | refine blk_drewN ?_ _ | refine blk_drew ?_ | refine blk_alloc ?_ _)); exact BK268.out⟩, ⟨by repeat (first | (with_reducible first | exact HB.out | apply below_alloc | apply pw_below_drewN | apply below_drew1 | refine below_set ?_ GE258.out | refine below_set ?_ GE268.out) | exact HB.out)⟩⟩
      clear H'
      try clear c1
      try clear c2
      try clear p2
      try clear c4
      try clear c5
      try clear c11
      try clear c19
      try clear c20
      try clear c20b0
      try clear c20b1
      try clear c20b2
      try clear c25
      try clear c40
      try clear hcz21_0
      try clear hcz21_1
      try clear hcz26_0
      try clear hcz26_1
      try clear hcz31_0
      try clear hcz31_1
      try clear hcz34_0
      try clear hcz34_1
      try clear hcz36_0
      try clear hcz36_1
      try clear hcz41_0
      try clear hcz41_1
      try clear hcz46_0
      try clear hcz46_1
      try clear hcz49_0
      try clear hcz49_1
      try clear hcz8_0
      try clear hcz8_1
      try clear hfz21_0
      try clear hfz21_1
      try clear hfz26_0
      try clear hfz26_1
      try clear hfz31_0
      try clear hfz31_1
      try clear hfz34_0
      try clear hfz34_1
      try clear hfz36_0
      try clear hfz36_1
      try clear hfz41_0
      try clear hfz41_1
      try clear hfz46_0
      try clear hfz46_1
      try clear hfz49_0
      try clear hfz49_1
      try clear hfz8_0
      try clear hfz8_1
      try clear p2
      obtain ⟨x6_2, rfl, HA, HK2, HO_4, HO_5, HO_269000, HO_269001, BK258, BK268, HB⟩ := hrel
      cases gk with
      | zero => exact absurd HA.out (by simp [marblerunlaw11_MatrixOf.l0])
      | succ k2 =>
        have H := HA.out
        clear HA
        simp only [marblerunlaw11_MatrixOf.l0] at H
        by_cases c50 : x6_2 < (t269.length : Int)
        · rw [if_pos c50] at H
          have c50b0 : decide (x6_2 < (t269.length : Int)) = true := decide_eq_true c50
          clear c50
          have H' := Aside0.mk H
          clear H
          go_wp2
          repeat (go_quiet (fail); try go_wp2)
          go_loopg [7] k2 (fun kq v7 w' => ∃ (x7_3 : Int), v7 = .int .i64 x7_3 ∧ Aside0 (marblerunlaw11_MatrixOf.l1 kq t269 t272 x6_2 x7_3 = some r) ∧ Aside0 (kq ≤ k2) ∧ Aside0 (Kd.S (Kd.slice 3 (Kd.int .i64)) 22 w' w.heap.size (fun k_ => some k_ ≠ (v273 : Value).ownBlock) (.slice Ao44 t269.length co44) t269) ∧ Aside0 (Kd.S (Kd.slice 3 (Kd.int .i64)) 22 w' w.heap.size (fun k_ => some k_ ≠ ((.slice Ao44 t269.length co44) : Value).ownBlock) v273 t272) ∧ Aside0 (Kd.R k52 52 w' w.heap.size (fun _ => True) (.slice Ao39 t262.length co39) t262) ∧ Aside0 (Kd.S k64 64 w' w.heap.size (fun _ => True) (.slice Ao42 t265.length co42) t265) ∧ Aside0 (w'.heap[gb258]? = some (.cells #[(.slice A0_0 l0_0.length c0_0), (.slice A0_1 l0_1.length c0_1)] 29 (0, 0))) ∧ Aside0 (w'.heap[gb268]? = some (.cells #[(.slice Ao39 t262.length co39), (.slice Ao42 t265.length co42)] 34 (0, 0))) ∧ Aside0 (Below w.heap.size w w'))
          case atStart => exact ⟨(0), (by first | rfl | (simp; done) | (simp [*]; done)), H', ⟨Nat.le_refl _⟩, ⟨by (with_reducible repeat (first | apply Kd.S_alloc | apply Kd.S_drewN | apply Kd.S_drew)); exact HO_4.out⟩, ⟨by (with_reducible repeat (first | apply Kd.S_alloc | apply Kd.S_drewN | apply Kd.S_drew)); exact HO_5.out⟩, ⟨by (with_reducible repeat (first | apply Kd.R_alloc | apply Kd.R_drewN | apply Kd.R_drew)); exact HO_269000.out⟩, ⟨by (with_reducible repeat (first | apply Kd.S_alloc | apply Kd.S_drewN | apply Kd.S_drew)); exact HO_269001.out⟩, ⟨by (with_reducible repeat (first | refine blk_drewN ?_ _ | refine blk_drew ?_ | refine blk_alloc ?_ _)); exact BK258.out⟩, ⟨by (with_reducible repeat (first | refine blk_drewN ?_ _ | refine blk_drew ?_ | refine blk_alloc ?_ _)); exact BK268.out⟩, ⟨by repeat (first | (with_reducible first | exact HB.out | apply below_alloc | apply pw_below_drewN | apply below_drew1 | refine below_set ?_ GE258.out | refine below_set ?_ GE268.out) | exact HB.out)⟩⟩
          clear H'
          try clear c1
          try clear c2
          try clear p2
          try clear c4
          try clear c5
          try clear c11
          try clear c19
          try clear c20
          try clear c20b0
          try clear c20b1
          try clear c20b2
          try clear c25
          try clear c40
          try clear c50
          try clear c50b0
          try clear hcz21_0
          try clear hcz21_1
          try clear hcz26_0
          try clear hcz26_1
          try clear hcz31_0
          try clear hcz31_1
          try clear hcz34_0
          try clear hcz34_1
          try clear hcz36_0
          try clear hcz36_1
          try clear hcz41_0
          try clear hcz41_1
          try clear hcz46_0
          try clear hcz46_1
          try clear hcz49_0
          try clear hcz49_1
          try clear hcz8_0
          try clear hcz8_1
          try clear hfz21_0
          try clear hfz21_1
          try clear hfz26_0
          try clear hfz26_1
          try clear hfz31_0
          try clear hfz31_1
          try clear hfz34_0
          try clear hfz34_1
          try clear hfz36_0
          try clear hfz36_1
          try clear hfz41_0
          try clear hfz41_1
          try clear hfz46_0
          try clear hfz46_1
          try clear hfz49_0
          try clear hfz49_1
          try clear hfz8_0
          try clear hfz8_1
          try clear p2
          obtain ⟨x7_3, rfl, HA, HK3, HO_4, HO_5, HO_269000, HO_269001, BK258, BK268, HB⟩ := hrel
          cases gk with
          | zero => exact absurd HA.out (by simp [marblerunlaw11_MatrixOf.l1])
          | succ k3 =>
            have H := HA.out
            clear HA
            simp only [marblerunlaw11_MatrixOf.l1] at H
            by_cases c51 : 0 ≤ x6_2
            case neg => rw [if_neg c51] at H; exact absurd H (by simp)
            rw [if_pos c51] at H
            have c51b0 : decide (0 ≤ x6_2) = true := decide_eq_true c51
            clear c51
            by_cases c52 : x6_2 < (t269.length : Int)
            case neg => rw [if_neg c52] at H; exact absurd H (by simp)
            rw [if_pos c52] at H
            have c52b0 : decide (x6_2 < (t269.length : Int)) = true := decide_eq_true c52
            clear c52
            by_cases c53 : x7_3 < ((rd_L1 t269 x6_2).length : Int)
            · rw [if_pos c53] at H
              have c53b0 : decide (x7_3 < ((rd_L1 t269 x6_2).length : Int)) = true := decide_eq_true c53
              clear c53
              by_cases c54 : (t272.length : Int) = ((rd_L1 t269 x6_2).length : Int)
              · rw [if_pos c54] at H
                have c54b0 : ((t272.length : Int) == ((rd_L1 t269 x6_2).length : Int)) = true := beq_iff_eq.mpr c54
                have c54b1 : ((t272.length : Int) != ((rd_L1 t269 x6_2).length : Int)) = false := bne_eq_false_iff_eq.mpr c54
                have c54b2 : (t272.length == (rd_L1 t269 x6_2).length) = true := by first | simpa using c54 | (simp at c54 ⊢; omega)
                clear c54
                by_cases c55 : 0 ≤ x7_3
                case neg => rw [if_neg c55] at H; exact absurd H (by simp)
                rw [if_pos c55] at H
                have c55b0 : decide (0 ≤ x7_3) = true := decide_eq_true c55
                clear c55
                by_cases c56 : x7_3 < (t272.length : Int)
                case neg => rw [if_neg c56] at H; exact absurd H (by simp)
                rw [if_pos c56] at H
                have c56b0 : decide (x7_3 < (t272.length : Int)) = true := decide_eq_true c56
                clear c56
                by_cases c57 : ((rd_L1 t272 x7_3).length : Int) = (t269.length : Int)
                · rw [if_pos c57] at H
                  have c57b0 : (((rd_L1 t272 x7_3).length : Int) == (t269.length : Int)) = true := beq_iff_eq.mpr c57
                  have c57b1 : (((rd_L1 t272 x7_3).length : Int) != (t269.length : Int)) = false := bne_eq_false_iff_eq.mpr c57
                  have c57b2 : ((rd_L1 t272 x7_3).length == t269.length) = true := by first | simpa using c57 | (simp at c57 ⊢; omega)
                  clear c57
                  by_cases c58 : x6_2 < ((rd_L1 t272 x7_3).length : Int)
                  case neg => rw [if_neg c58] at H; exact absurd H (by simp)
                  rw [if_pos c58] at H
                  have c58b0 : decide (x6_2 < ((rd_L1 t272 x7_3).length : Int)) = true := decide_eq_true c58
                  clear c58
                  by_cases c59 : (rd (rd_L1 t272 x7_3) x6_2) = (rd (rd_L1 t269 x6_2) x7_3)
                  · rw [if_pos c59] at H
                    have c59b0 : ((rd (rd_L1 t272 x7_3) x6_2) == (rd (rd_L1 t269 x6_2) x7_3)) = true := beq_iff_eq.mpr c59
                    have c59b1 : ((rd (rd_L1 t272 x7_3) x6_2) != (rd (rd_L1 t269 x6_2) x7_3)) = false := bne_eq_false_iff_eq.mpr c59
                    clear c59
                    have H' := Aside0.mk H
                    clear H
                    have p283 : 0 ≤ (x6_2 : Int) := of_decide_eq_true (by first | (with_reducible assumption) | assumption)
                    have q283 : x6_2 < (t269.length : Int) := of_decide_eq_true (by first | (with_reducible assumption) | assumption)
                    obtain ⟨ad283, A283_0, c283_0, e283, hx283_0, hl283_0, hi283_0⟩ := at_L1 (Kd.S_reads' HO_4.out).2.2 x6_2 p283 q283
                    cases e283
                    obtain ⟨ce283, hce283, hMe283, hcc283⟩ := Kd.S_get HO_4.out [] x6_2 p283 (by first | exact q283 | exact of_decide_eq_true (by first | (with_reducible assumption) | assumption) | (have e_ := (Kd.S_reads' HO_4.out).1; omega))
                    obtain ⟨ve283_0, rfl, ge283_0⟩ := hMe283
                    have hv283_0 := hcc283 0 _ rfl
                    rw [Nat.add_zero, show ((Kd.slice 3 (Kd.int .i64))).sz = 1 from rfl, Nat.mul_one] at hv283_0
                    replace hv283_0 := Option.some.inj (hv283_0.symm.trans hx283_0)
                    rw [hv283_0] at ge283_0
                    have HL283_0 := Aside0.mk (show Kd.R (Kd.int .i64) 3 _ _ _ _ (rd_L1 t269 x6_2) from ge283_0)
                    clear hv283_0 ge283_0
                    clear hcc283 hce283
                    have HR283_0 := Aside0.mk hi283_0
                    have HC283_0 := Aside0.mk hl283_0
                    clear hi283_0 hl283_0
                    replace p283 := eq_true p283
                    replace q283 := eq_true q283
                    obtain ⟨Ao60, co60, eo60⟩ := Kd.S_slice HO_5.out
                    subst eo60
                    have p284 : 0 ≤ (x6_2 : Int) := of_decide_eq_true (by first | (with_reducible assumption) | assumption)
                    have q284 : x6_2 < (t269.length : Int) := of_decide_eq_true (by first | (with_reducible assumption) | assumption)
                    obtain ⟨ad284, A284_0, c284_0, e284, hx284_0, hl284_0, hi284_0⟩ := at_L1 (Kd.S_reads' HO_4.out).2.2 x6_2 p284 q284
                    obtain rfl : ad283 = ad284 := (by injection e284)
                    obtain ⟨ce284, hce284, hMe284, hcc284⟩ := Kd.S_get HO_4.out [] x6_2 p284 (by first | exact q284 | exact of_decide_eq_true (by first | (with_reducible assumption) | assumption) | (have e_ := (Kd.S_reads' HO_4.out).1; omega))
                    obtain ⟨ve284_0, rfl, ge284_0⟩ := hMe284
                    have hv284_0 := hcc284 0 _ rfl
                    rw [Nat.add_zero, show ((Kd.slice 3 (Kd.int .i64))).sz = 1 from rfl, Nat.mul_one] at hv284_0
                    replace hv284_0 := Option.some.inj (hv284_0.symm.trans hx284_0)
                    rw [hv284_0] at ge284_0
                    have HL284_0 := Aside0.mk (show Kd.R (Kd.int .i64) 3 _ _ _ _ (rd_L1 t269 x6_2) from ge284_0)
                    clear hv284_0 ge284_0
                    clear hcc284 hce284
                    have HR284_0 := Aside0.mk hi284_0
                    have HC284_0 := Aside0.mk hl284_0
                    clear hi284_0 hl284_0
                    replace p284 := eq_true p284
                    replace q284 := eq_true q284
                    have ea_ := Option.some.inj (hx283_0.symm.trans hx284_0)
                    injection ea_ with ea_ en_ ec_
                    subst ea_
                    subst ec_
                    clear en_
                    have p285 : 0 ≤ (x7_3 : Int) := of_decide_eq_true (by first | (with_reducible assumption) | assumption)
                    have q285 : x7_3 < (t272.length : Int) := of_decide_eq_true (by first | (with_reducible assumption) | assumption)
                    obtain ⟨ad285, A285_0, c285_0, e285, hx285_0, hl285_0, hi285_0⟩ := at_L1 (Kd.S_reads' HO_5.out).2.2 x7_3 p285 q285
                    cases e285
                    obtain ⟨ce285, hce285, hMe285, hcc285⟩ := Kd.S_get HO_5.out [] x7_3 p285 (by first | exact q285 | exact of_decide_eq_true (by first | (with_reducible assumption) | assumption) | (have e_ := (Kd.S_reads' HO_5.out).1; omega))
                    obtain ⟨ve285_0, rfl, ge285_0⟩ := hMe285
                    have hv285_0 := hcc285 0 _ rfl
                    rw [Nat.add_zero, show ((Kd.slice 3 (Kd.int .i64))).sz = 1 from rfl, Nat.mul_one] at hv285_0
                    replace hv285_0 := Option.some.inj (hv285_0.symm.trans hx285_0)
                    rw [hv285_0] at ge285_0
                    have HL285_0 := Aside0.mk (show Kd.R (Kd.int .i64) 3 _ _ _ _ (rd_L1 t272 x7_3) from ge285_0)
                    clear hv285_0 ge285_0
                    clear hcc285 hce285
                    have HR285_0 := Aside0.mk hi285_0
                    have HC285_0 := Aside0.mk hl285_0
                    clear hi285_0 hl285_0
                    replace p285 := eq_true p285
                    replace q285 := eq_true q285
                    have p286 : 0 ≤ (x7_3 : Int) := of_decide_eq_true (by first | (with_reducible assumption) | assumption)
                    have q286 : x7_3 < (t272.length : Int) := of_decide_eq_true (by first | (with_reducible assumption) | assumption)
                    obtain ⟨ad286, A286_0, c286_0, e286, hx286_0, hl286_0, hi286_0⟩ := at_L1 (Kd.S_reads' HO_5.out).2.2 x7_3 p286 q286
                    obtain rfl : ad285 = ad286 := (by injection e286)
                    obtain ⟨ce286, hce286, hMe286, hcc286⟩ := Kd.S_get HO_5.out [] x7_3 p286 (by first | exact q286 | exact of_decide_eq_true (by first | (with_reducible assumption) | assumption) | (have e_ := (Kd.S_reads' HO_5.out).1; omega))
                    obtain ⟨ve286_0, rfl, ge286_0⟩ := hMe286
                    have hv286_0 := hcc286 0 _ rfl
                    rw [Nat.add_zero, show ((Kd.slice 3 (Kd.int .i64))).sz = 1 from rfl, Nat.mul_one] at hv286_0
                    replace hv286_0 := Option.some.inj (hv286_0.symm.trans hx286_0)
                    rw [hv286_0] at ge286_0
                    have HL286_0 := Aside0.mk (show Kd.R (Kd.int .i64) 3 _ _ _ _ (rd_L1 t272 x7_3) from ge286_0)
                    clear hv286_0 ge286_0
                    clear hcc286 hce286
                    have HR286_0 := Aside0.mk hi286_0
                    have HC286_0 := Aside0.mk hl286_0
                    clear hi286_0 hl286_0
                    replace p286 := eq_true p286
                    replace q286 := eq_true q286
                    have ea_ := Option.some.inj (hx285_0.symm.trans hx286_0)
                    injection ea_ with ea_ en_ ec_
                    subst ea_
                    subst ec_
                    clear en_
                    have p287 : 0 ≤ (x6_2 : Int) := of_decide_eq_true (by first | (with_reducible assumption) | assumption)
                    have q287 : x6_2 < ((rd_L1 t272 x7_3).length : Int) := of_decide_eq_true (by first | (with_reducible assumption) | assumption)
                    obtain ⟨ad287, e287, hx287_0⟩ := Kd.at_int (by repeat (first | (with_reducible exact HR286_0.out) | (with_reducible refine Kd.C_alloc ?_ _) | (with_reducible refine Kd.C_drewN ?_ _) | (with_reducible refine Kd.C_drew ?_) | exact HR286_0.out)) x6_2 p287 q287
                    cases e287
                    replace p287 := eq_true p287
                    replace q287 := eq_true q287
                    have p288 : 0 ≤ (x6_2 : Int) := of_decide_eq_true (by first | (with_reducible assumption) | assumption)
                    have q288 : x6_2 < (t269.length : Int) := of_decide_eq_true (by first | (with_reducible assumption) | assumption)
                    obtain ⟨ad288, A288_0, c288_0, e288, hx288_0, hl288_0, hi288_0⟩ := at_L1 (Kd.S_reads' HO_4.out).2.2 x6_2 p288 q288
                    obtain rfl : ad283 = ad288 := (by injection e288)
                    obtain ⟨ce288, hce288, hMe288, hcc288⟩ := Kd.S_get HO_4.out [] x6_2 p288 (by first | exact q288 | exact of_decide_eq_true (by first | (with_reducible assumption) | assumption) | (have e_ := (Kd.S_reads' HO_4.out).1; omega))
                    obtain ⟨ve288_0, rfl, ge288_0⟩ := hMe288
                    have hv288_0 := hcc288 0 _ rfl
                    rw [Nat.add_zero, show ((Kd.slice 3 (Kd.int .i64))).sz = 1 from rfl, Nat.mul_one] at hv288_0
                    replace hv288_0 := Option.some.inj (hv288_0.symm.trans hx288_0)
                    rw [hv288_0] at ge288_0
                    have HL288_0 := Aside0.mk (show Kd.R (Kd.int .i64) 3 _ _ _ _ (rd_L1 t269 x6_2) from ge288_0)
                    clear hv288_0 ge288_0
                    clear hcc288 hce288
                    have HR288_0 := Aside0.mk hi288_0
                    have HC288_0 := Aside0.mk hl288_0
                    clear hi288_0 hl288_0
                    replace p288 := eq_true p288
                    replace q288 := eq_true q288
                    have ea_ := Option.some.inj (hx283_0.symm.trans hx288_0)
                    injection ea_ with ea_ en_ ec_
                    subst ea_
                    subst ec_
                    clear en_
                    have p289 : 0 ≤ (x7_3 : Int) := of_decide_eq_true (by first | (with_reducible assumption) | assumption)
                    have q289 : x7_3 < ((rd_L1 t269 x6_2).length : Int) := of_decide_eq_true (by first | (with_reducible assumption) | assumption)
                    obtain ⟨ad289, e289, hx289_0⟩ := Kd.at_int (by repeat (first | (with_reducible exact HR288_0.out) | (with_reducible refine Kd.C_alloc ?_ _) | (with_reducible refine Kd.C_drewN ?_ _) | (with_reducible refine Kd.C_drew ?_) | exact HR288_0.out)) x7_3 p289 q289
                    cases e289
                    replace p289 := eq_true p289
                    replace q289 := eq_true q289
                    go_wp2
                    repeat (go_quiet (fail); try go_wp2)
                    go_roundg k3
                    case measure => have := HJ1.out; have := HK2.out; have := HK3.out; omega
                    case rel => exact ⟨(wrap64 (x7_3 + 1)), (by first | rfl | (simp; done) | (simp [*]; done)), H', ⟨by have := HJ1.out; have := HK2.out; have := HK3.out; omega⟩, ⟨by (with_reducible repeat (first | apply Kd.S_alloc | apply Kd.S_drewN | apply Kd.S_drew)); exact HO_4.out⟩, ⟨by (with_reducible repeat (first | apply Kd.S_alloc | apply Kd.S_drewN | apply Kd.S_drew)); exact HO_5.out⟩, ⟨by (with_reducible repeat (first | apply Kd.R_alloc | apply Kd.R_drewN | apply Kd.R_drew)); exact HO_269000.out⟩, ⟨by (with_reducible repeat (first | apply Kd.S_alloc | apply Kd.S_drewN | apply Kd.S_drew)); exact HO_269001.out⟩, ⟨by (with_reducible repeat (first | refine blk_drewN ?_ _ | refine blk_drew ?_ | refine blk_alloc ?_ _)); exact BK258.out⟩, ⟨by (with_reducible repeat (first | refine blk_drewN ?_ _ | refine blk_drew ?_ | refine blk_alloc ?_ _)); exact BK268.out⟩, ⟨by repeat (first | (with_reducible first | exact HB.out | apply below_alloc | apply pw_below_drewN | apply below_drew1 | refine below_set ?_ GE258.out | refine below_set ?_ GE268.out) | exact HB.out)⟩⟩
                  rw [if_neg c59] at H
                  have c59b0 : ((rd (rd_L1 t272 x7_3) x6_2) == (rd (rd_L1 t269 x6_2) x7_3)) = false := beq_eq_false_iff_ne.mpr c59
                  have c59b1 : ((rd (rd_L1 t272 x7_3) x6_2) != (rd (rd_L1 t269 x6_2) x7_3)) = true := bne_iff_ne.mpr c59
                  obtain rfl := Option.some.inj H
                  have p283 : 0 ≤ (x6_2 : Int) := of_decide_eq_true (by first | (with_reducible assumption) | assumption)
                  have q283 : x6_2 < (t269.length : Int) := of_decide_eq_true (by first | (with_reducible assumption) | assumption)
                  obtain ⟨ad283, A283_0, c283_0, e283, hx283_0, hl283_0, hi283_0⟩ := at_L1 (Kd.S_reads' HO_4.out).2.2 x6_2 p283 q283
                  cases e283
                  obtain ⟨ce283, hce283, hMe283, hcc283⟩ := Kd.S_get HO_4.out [] x6_2 p283 (by first | exact q283 | exact of_decide_eq_true (by first | (with_reducible assumption) | assumption) | (have e_ := (Kd.S_reads' HO_4.out).1; omega))
                  obtain ⟨ve283_0, rfl, ge283_0⟩ := hMe283
                  have hv283_0 := hcc283 0 _ rfl
                  rw [Nat.add_zero, show ((Kd.slice 3 (Kd.int .i64))).sz = 1 from rfl, Nat.mul_one] at hv283_0
                  replace hv283_0 := Option.some.inj (hv283_0.symm.trans hx283_0)
                  rw [hv283_0] at ge283_0
                  have HL283_0 := Aside0.mk (show Kd.R (Kd.int .i64) 3 _ _ _ _ (rd_L1 t269 x6_2) from ge283_0)
                  clear hv283_0 ge283_0
                  clear hcc283 hce283
                  have HR283_0 := Aside0.mk hi283_0
                  have HC283_0 := Aside0.mk hl283_0
                  clear hi283_0 hl283_0
                  replace p283 := eq_true p283
                  replace q283 := eq_true q283
                  obtain ⟨Ao61, co61, eo61⟩ := Kd.S_slice HO_5.out
                  subst eo61
                  have p284 : 0 ≤ (x6_2 : Int) := of_decide_eq_true (by first | (with_reducible assumption) | assumption)
                  have q284 : x6_2 < (t269.length : Int) := of_decide_eq_true (by first | (with_reducible assumption) | assumption)
                  obtain ⟨ad284, A284_0, c284_0, e284, hx284_0, hl284_0, hi284_0⟩ := at_L1 (Kd.S_reads' HO_4.out).2.2 x6_2 p284 q284
                  obtain rfl : ad283 = ad284 := (by injection e284)
                  obtain ⟨ce284, hce284, hMe284, hcc284⟩ := Kd.S_get HO_4.out [] x6_2 p284 (by first | exact q284 | exact of_decide_eq_true (by first | (with_reducible assumption) | assumption) | (have e_ := (Kd.S_reads' HO_4.out).1; omega))
                  obtain ⟨ve284_0, rfl, ge284_0⟩ := hMe284
                  have hv284_0 := hcc284 0 _ rfl
                  rw [Nat.add_zero, show ((Kd.slice 3 (Kd.int .i64))).sz = 1 from rfl, Nat.mul_one] at hv284_0
                  replace hv284_0 := Option.some.inj (hv284_0.symm.trans hx284_0)
                  rw [hv284_0] at ge284_0
                  have HL284_0 := Aside0.mk (show Kd.R (Kd.int .i64) 3 _ _ _ _ (rd_L1 t269 x6_2) from ge284_0)
                  clear hv284_0 ge284_0
                  clear hcc284 hce284
                  have HR284_0 := Aside0.mk hi284_0
                  have HC284_0 := Aside0.mk hl284_0
                  clear hi284_0 hl284_0
                  replace p284 := eq_true p284
                  replace q284 := eq_true q284
                  have ea_ := Option.some.inj (hx283_0.symm.trans hx284_0)
                  injection ea_ with ea_ en_ ec_
                  subst ea_
                  subst ec_
                  clear en_
                  have p285 : 0 ≤ (x7_3 : Int) := of_decide_eq_true (by first | (with_reducible assumption) | assumption)
                  have q285 : x7_3 < (t272.length : Int) := of_decide_eq_true (by first | (with_reducible assumption) | assumption)
                  obtain ⟨ad285, A285_0, c285_0, e285, hx285_0, hl285_0, hi285_0⟩ := at_L1 (Kd.S_reads' HO_5.out).2.2 x7_3 p285 q285
                  cases e285
                  obtain ⟨ce285, hce285, hMe285, hcc285⟩ := Kd.S_get HO_5.out [] x7_3 p285 (by first | exact q285 | exact of_decide_eq_true (by first | (with_reducible assumption) | assumption) | (have e_ := (Kd.S_reads' HO_5.out).1; omega))
                  obtain ⟨ve285_0, rfl, ge285_0⟩ := hMe285
                  have hv285_0 := hcc285 0 _ rfl
                  rw [Nat.add_zero, show ((Kd.slice 3 (Kd.int .i64))).sz = 1 from rfl, Nat.mul_one] at hv285_0
                  replace hv285_0 := Option.some.inj (hv285_0.symm.trans hx285_0)
                  rw [hv285_0] at ge285_0
                  have HL285_0 := Aside0.mk (show Kd.R (Kd.int .i64) 3 _ _ _ _ (rd_L1 t272 x7_3) from ge285_0)
                  clear hv285_0 ge285_0
                  clear hcc285 hce285
                  have HR285_0 := Aside0.mk hi285_0
                  have HC285_0 := Aside0.mk hl285_0
                  clear hi285_0 hl285_0
                  replace p285 := eq_true p285
                  replace q285 := eq_true q285
                  have p286 : 0 ≤ (x7_3 : Int) := of_decide_eq_true (by first | (with_reducible assumption) | assumption)
                  have q286 : x7_3 < (t272.length : Int) := of_decide_eq_true (by first | (with_reducible assumption) | assumption)
                  obtain ⟨ad286, A286_0, c286_0, e286, hx286_0, hl286_0, hi286_0⟩ := at_L1 (Kd.S_reads' HO_5.out).2.2 x7_3 p286 q286
                  obtain rfl : ad285 = ad286 := (by injection e286)
                  obtain ⟨ce286, hce286, hMe286, hcc286⟩ := Kd.S_get HO_5.out [] x7_3 p286 (by first | exact q286 | exact of_decide_eq_true (by first | (with_reducible assumption) | assumption) | (have e_ := (Kd.S_reads' HO_5.out).1; omega))
                  obtain ⟨ve286_0, rfl, ge286_0⟩ := hMe286
                  have hv286_0 := hcc286 0 _ rfl
                  rw [Nat.add_zero, show ((Kd.slice 3 (Kd.int .i64))).sz = 1 from rfl, Nat.mul_one] at hv286_0
                  replace hv286_0 := Option.some.inj (hv286_0.symm.trans hx286_0)
                  rw [hv286_0] at ge286_0
                  have HL286_0 := Aside0.mk (show Kd.R (Kd.int .i64) 3 _ _ _ _ (rd_L1 t272 x7_3) from ge286_0)
                  clear hv286_0 ge286_0
                  clear hcc286 hce286
                  have HR286_0 := Aside0.mk hi286_0
                  have HC286_0 := Aside0.mk hl286_0
                  clear hi286_0 hl286_0
                  replace p286 := eq_true p286
                  replace q286 := eq_true q286
                  have ea_ := Option.some.inj (hx285_0.symm.trans hx286_0)
                  injection ea_ with ea_ en_ ec_
                  subst ea_
                  subst ec_
                  clear en_
                  have p287 : 0 ≤ (x6_2 : Int) := of_decide_eq_true (by first | (with_reducible assumption) | assumption)
                  have q287 : x6_2 < ((rd_L1 t272 x7_3).length : Int) := of_decide_eq_true (by first | (with_reducible assumption) | assumption)
                  obtain ⟨ad287, e287, hx287_0⟩ := Kd.at_int (by repeat (first | (with_reducible exact HR286_0.out) | (with_reducible refine Kd.C_alloc ?_ _) | (with_reducible refine Kd.C_drewN ?_ _) | (with_reducible refine Kd.C_drew ?_) | exact HR286_0.out)) x6_2 p287 q287
                  cases e287
                  replace p287 := eq_true p287
                  replace q287 := eq_true q287
                  have p288 : 0 ≤ (x6_2 : Int) := of_decide_eq_true (by first | (with_reducible assumption) | assumption)
                  have q288 : x6_2 < (t269.length : Int) := of_decide_eq_true (by first | (with_reducible assumption) | assumption)
                  obtain ⟨ad288, A288_0, c288_0, e288, hx288_0, hl288_0, hi288_0⟩ := at_L1 (Kd.S_reads' HO_4.out).2.2 x6_2 p288 q288
                  obtain rfl : ad283 = ad288 := (by injection e288)
                  obtain ⟨ce288, hce288, hMe288, hcc288⟩ := Kd.S_get HO_4.out [] x6_2 p288 (by first | exact q288 | exact of_decide_eq_true (by first | (with_reducible assumption) | assumption) | (have e_ := (Kd.S_reads' HO_4.out).1; omega))
                  obtain ⟨ve288_0, rfl, ge288_0⟩ := hMe288
                  have hv288_0 := hcc288 0 _ rfl
                  rw [Nat.add_zero, show ((Kd.slice 3 (Kd.int .i64))).sz = 1 from rfl, Nat.mul_one] at hv288_0
                  replace hv288_0 := Option.some.inj (hv288_0.symm.trans hx288_0)
                  rw [hv288_0] at ge288_0
                  have HL288_0 := Aside0.mk (show Kd.R (Kd.int .i64) 3 _ _ _ _ (rd_L1 t269 x6_2) from ge288_0)
                  clear hv288_0 ge288_0
                  clear hcc288 hce288
                  have HR288_0 := Aside0.mk hi288_0
                  have HC288_0 := Aside0.mk hl288_0
                  clear hi288_0 hl288_0
                  replace p288 := eq_true p288
                  replace q288 := eq_true q288
                  have ea_ := Option.some.inj (hx283_0.symm.trans hx288_0)
                  injection ea_ with ea_ en_ ec_
                  subst ea_
                  subst ec_
                  clear en_
                  have p289 : 0 ≤ (x7_3 : Int) := of_decide_eq_true (by first | (with_reducible assumption) | assumption)
                  have q289 : x7_3 < ((rd_L1 t269 x6_2).length : Int) := of_decide_eq_true (by first | (with_reducible assumption) | assumption)
                  obtain ⟨ad289, e289, hx289_0⟩ := Kd.at_int (by repeat (first | (with_reducible exact HR288_0.out) | (with_reducible refine Kd.C_alloc ?_ _) | (with_reducible refine Kd.C_drewN ?_ _) | (with_reducible refine Kd.C_drew ?_) | exact HR288_0.out)) x7_3 p289 q289
                  cases e289
                  replace p289 := eq_true p289
                  replace q289 := eq_true q289
                  go_wp2
                  repeat (go_quiet (fail); try go_wp2)
                  go_ret
                  exact ⟨by first | rfl | (simp [errW_none, errW_some] <;> rfl) | (simp [*, errW_none, errW_some] <;> rfl), by repeat (first | (with_reducible first | exact HB.out | apply below_alloc | apply pw_below_drewN | apply below_drew1 | refine below_set ?_ GE258.out | refine below_set ?_ GE268.out) | exact HB.out)⟩
                rw [if_neg c57] at H
                have c57b0 : (((rd_L1 t272 x7_3).length : Int) == (t269.length : Int)) = false := beq_eq_false_iff_ne.mpr c57
                have c57b1 : (((rd_L1 t272 x7_3).length : Int) != (t269.length : Int)) = true := bne_iff_ne.mpr c57
                have c57b2 : ((rd_L1 t272 x7_3).length == t269.length) = false := by first | simpa using c57 | (simp at c57 ⊢; omega)
                obtain rfl := Option.some.inj H
                have p283 : 0 ≤ (x6_2 : Int) := of_decide_eq_true (by first | (with_reducible assumption) | assumption)
                have q283 : x6_2 < (t269.length : Int) := of_decide_eq_true (by first | (with_reducible assumption) | assumption)
                obtain ⟨ad283, A283_0, c283_0, e283, hx283_0, hl283_0, hi283_0⟩ := at_L1 (Kd.S_reads' HO_4.out).2.2 x6_2 p283 q283
                cases e283
                obtain ⟨ce283, hce283, hMe283, hcc283⟩ := Kd.S_get HO_4.out [] x6_2 p283 (by first | exact q283 | exact of_decide_eq_true (by first | (with_reducible assumption) | assumption) | (have e_ := (Kd.S_reads' HO_4.out).1; omega))
                obtain ⟨ve283_0, rfl, ge283_0⟩ := hMe283
                have hv283_0 := hcc283 0 _ rfl
                rw [Nat.add_zero, show ((Kd.slice 3 (Kd.int .i64))).sz = 1 from rfl, Nat.mul_one] at hv283_0
                replace hv283_0 := Option.some.inj (hv283_0.symm.trans hx283_0)
                rw [hv283_0] at ge283_0
                have HL283_0 := Aside0.mk (show Kd.R (Kd.int .i64) 3 _ _ _ _ (rd_L1 t269 x6_2) from ge283_0)
                clear hv283_0 ge283_0
                clear hcc283 hce283
                have HR283_0 := Aside0.mk hi283_0
                have HC283_0 := Aside0.mk hl283_0
                clear hi283_0 hl283_0
                replace p283 := eq_true p283
                replace q283 := eq_true q283
                obtain ⟨Ao62, co62, eo62⟩ := Kd.S_slice HO_5.out
                subst eo62
                have p284 : 0 ≤ (x6_2 : Int) := of_decide_eq_true (by first | (with_reducible assumption) | assumption)
                have q284 : x6_2 < (t269.length : Int) := of_decide_eq_true (by first | (with_reducible assumption) | assumption)
                obtain ⟨ad284, A284_0, c284_0, e284, hx284_0, hl284_0, hi284_0⟩ := at_L1 (Kd.S_reads' HO_4.out).2.2 x6_2 p284 q284
                obtain rfl : ad283 = ad284 := (by injection e284)
                obtain ⟨ce284, hce284, hMe284, hcc284⟩ := Kd.S_get HO_4.out [] x6_2 p284 (by first | exact q284 | exact of_decide_eq_true (by first | (with_reducible assumption) | assumption) | (have e_ := (Kd.S_reads' HO_4.out).1; omega))
                obtain ⟨ve284_0, rfl, ge284_0⟩ := hMe284
                have hv284_0 := hcc284 0 _ rfl
                rw [Nat.add_zero, show ((Kd.slice 3 (Kd.int .i64))).sz = 1 from rfl, Nat.mul_one] at hv284_0
                replace hv284_0 := Option.some.inj (hv284_0.symm.trans hx284_0)
                rw [hv284_0] at ge284_0
                have HL284_0 := Aside0.mk (show Kd.R (Kd.int .i64) 3 _ _ _ _ (rd_L1 t269 x6_2) from ge284_0)
                clear hv284_0 ge284_0
                clear hcc284 hce284
                have HR284_0 := Aside0.mk hi284_0
                have HC284_0 := Aside0.mk hl284_0
                clear hi284_0 hl284_0
                replace p284 := eq_true p284
                replace q284 := eq_true q284
                have ea_ := Option.some.inj (hx283_0.symm.trans hx284_0)
                injection ea_ with ea_ en_ ec_
                subst ea_
                subst ec_
                clear en_
                have p285 : 0 ≤ (x7_3 : Int) := of_decide_eq_true (by first | (with_reducible assumption) | assumption)
                have q285 : x7_3 < (t272.length : Int) := of_decide_eq_true (by first | (with_reducible assumption) | assumption)
                obtain ⟨ad285, A285_0, c285_0, e285, hx285_0, hl285_0, hi285_0⟩ := at_L1 (Kd.S_reads' HO_5.out).2.2 x7_3 p285 q285
                cases e285
                obtain ⟨ce285, hce285, hMe285, hcc285⟩ := Kd.S_get HO_5.out [] x7_3 p285 (by first | exact q285 | exact of_decide_eq_true (by first | (with_reducible assumption) | assumption) | (have e_ := (Kd.S_reads' HO_5.out).1; omega))
                obtain ⟨ve285_0, rfl, ge285_0⟩ := hMe285
                have hv285_0 := hcc285 0 _ rfl
                rw [Nat.add_zero, show ((Kd.slice 3 (Kd.int .i64))).sz = 1 from rfl, Nat.mul_one] at hv285_0
                replace hv285_0 := Option.some.inj (hv285_0.symm.trans hx285_0)
                rw [hv285_0] at ge285_0
                have HL285_0 := Aside0.mk (show Kd.R (Kd.int .i64) 3 _ _ _ _ (rd_L1 t272 x7_3) from ge285_0)
                clear hv285_0 ge285_0
                clear hcc285 hce285
                have HR285_0 := Aside0.mk hi285_0
                have HC285_0 := Aside0.mk hl285_0
                clear hi285_0 hl285_0
                replace p285 := eq_true p285
                replace q285 := eq_true q285
                go_wp2
                repeat (go_quiet (fail); try go_wp2)
                go_ret
                exact ⟨by first | rfl | (simp [errW_none, errW_some] <;> rfl) | (simp [*, errW_none, errW_some] <;> rfl), by repeat (first | (with_reducible first | exact HB.out | apply below_alloc | apply pw_below_drewN | apply below_drew1 | refine below_set ?_ GE258.out | refine below_set ?_ GE268.out) | exact HB.out)⟩
              rw [if_neg c54] at H
              have c54b0 : ((t272.length : Int) == ((rd_L1 t269 x6_2).length : Int)) = false := beq_eq_false_iff_ne.mpr c54
              have c54b1 : ((t272.length : Int) != ((rd_L1 t269 x6_2).length : Int)) = true := bne_iff_ne.mpr c54
              have c54b2 : (t272.length == (rd_L1 t269 x6_2).length) = false := by first | simpa using c54 | (simp at c54 ⊢; omega)
              obtain rfl := Option.some.inj H
              have p283 : 0 ≤ (x6_2 : Int) := of_decide_eq_true (by first | (with_reducible assumption) | assumption)
              have q283 : x6_2 < (t269.length : Int) := of_decide_eq_true (by first | (with_reducible assumption) | assumption)
              obtain ⟨ad283, A283_0, c283_0, e283, hx283_0, hl283_0, hi283_0⟩ := at_L1 (Kd.S_reads' HO_4.out).2.2 x6_2 p283 q283
              cases e283
              obtain ⟨ce283, hce283, hMe283, hcc283⟩ := Kd.S_get HO_4.out [] x6_2 p283 (by first | exact q283 | exact of_decide_eq_true (by first | (with_reducible assumption) | assumption) | (have e_ := (Kd.S_reads' HO_4.out).1; omega))
              obtain ⟨ve283_0, rfl, ge283_0⟩ := hMe283
              have hv283_0 := hcc283 0 _ rfl
              rw [Nat.add_zero, show ((Kd.slice 3 (Kd.int .i64))).sz = 1 from rfl, Nat.mul_one] at hv283_0
              replace hv283_0 := Option.some.inj (hv283_0.symm.trans hx283_0)
              rw [hv283_0] at ge283_0
              have HL283_0 := Aside0.mk (show Kd.R (Kd.int .i64) 3 _ _ _ _ (rd_L1 t269 x6_2) from ge283_0)
              clear hv283_0 ge283_0
              clear hcc283 hce283
              have HR283_0 := Aside0.mk hi283_0
              have HC283_0 := Aside0.mk hl283_0
              clear hi283_0 hl283_0
              replace p283 := eq_true p283
              replace q283 := eq_true q283
              obtain ⟨Ao63, co63, eo63⟩ := Kd.S_slice HO_5.out
              subst eo63
              have p284 : 0 ≤ (x6_2 : Int) := of_decide_eq_true (by first | (with_reducible assumption) | assumption)
              have q284 : x6_2 < (t269.length : Int) := of_decide_eq_true (by first | (with_reducible assumption) | assumption)
              obtain ⟨ad284, A284_0, c284_0, e284, hx284_0, hl284_0, hi284_0⟩ := at_L1 (Kd.S_reads' HO_4.out).2.2 x6_2 p284 q284
              obtain rfl : ad283 = ad284 := (by injection e284)
              obtain ⟨ce284, hce284, hMe284, hcc284⟩ := Kd.S_get HO_4.out [] x6_2 p284 (by first | exact q284 | exact of_decide_eq_true (by first | (with_reducible assumption) | assumption) | (have e_ := (Kd.S_reads' HO_4.out).1; omega))
              obtain ⟨ve284_0, rfl, ge284_0⟩ := hMe284
              have hv284_0 := hcc284 0 _ rfl
              rw [Nat.add_zero, show ((Kd.slice 3 (Kd.int .i64))).sz = 1 from rfl, Nat.mul_one] at hv284_0
              replace hv284_0 := Option.some.inj (hv284_0.symm.trans hx284_0)
              rw [hv284_0] at ge284_0
              have HL284_0 := Aside0.mk (show Kd.R (Kd.int .i64) 3 _ _ _ _ (rd_L1 t269 x6_2) from ge284_0)
              clear hv284_0 ge284_0
              clear hcc284 hce284
              have HR284_0 := Aside0.mk hi284_0
              have HC284_0 := Aside0.mk hl284_0
              clear hi284_0 hl284_0
              replace p284 := eq_true p284
              replace q284 := eq_true q284
              have ea_ := Option.some.inj (hx283_0.symm.trans hx284_0)
              injection ea_ with ea_ en_ ec_
              subst ea_
              subst ec_
              clear en_
              go_wp2
              repeat (go_quiet (fail); try go_wp2)
              go_ret
              exact ⟨by first | rfl | (simp [errW_none, errW_some] <;> rfl) | (simp [*, errW_none, errW_some] <;> rfl), by repeat (first | (with_reducible first | exact HB.out | apply below_alloc | apply pw_below_drewN | apply below_drew1 | refine below_set ?_ GE258.out | refine below_set ?_ GE268.out) | exact HB.out)⟩
            rw [if_neg c53] at H
            have c53b0 : decide (x7_3 < ((rd_L1 t269 x6_2).length : Int)) = false := decide_eq_false c53
            clear c53
            have H' := Aside0.mk H
            clear H
            have p283 : 0 ≤ (x6_2 : Int) := of_decide_eq_true (by first | (with_reducible assumption) | assumption)
            have q283 : x6_2 < (t269.length : Int) := of_decide_eq_true (by first | (with_reducible assumption) | assumption)
            obtain ⟨ad283, A283_0, c283_0, e283, hx283_0, hl283_0, hi283_0⟩ := at_L1 (Kd.S_reads' HO_4.out).2.2 x6_2 p283 q283
            cases e283
            obtain ⟨ce283, hce283, hMe283, hcc283⟩ := Kd.S_get HO_4.out [] x6_2 p283 (by first | exact q283 | exact of_decide_eq_true (by first | (with_reducible assumption) | assumption) | (have e_ := (Kd.S_reads' HO_4.out).1; omega))
            obtain ⟨ve283_0, rfl, ge283_0⟩ := hMe283
            have hv283_0 := hcc283 0 _ rfl
            rw [Nat.add_zero, show ((Kd.slice 3 (Kd.int .i64))).sz = 1 from rfl, Nat.mul_one] at hv283_0
            replace hv283_0 := Option.some.inj (hv283_0.symm.trans hx283_0)
            rw [hv283_0] at ge283_0
            have HL283_0 := Aside0.mk (show Kd.R (Kd.int .i64) 3 _ _ _ _ (rd_L1 t269 x6_2) from ge283_0)
            clear hv283_0 ge283_0
            clear hcc283 hce283
            have HR283_0 := Aside0.mk hi283_0
            have HC283_0 := Aside0.mk hl283_0
            clear hi283_0 hl283_0
            replace p283 := eq_true p283
            replace q283 := eq_true q283
            go_wp2
            repeat (go_quiet (fail); try go_wp2)
            go_roundg k3
            case measure => have := HJ1.out; have := HK2.out; have := HK3.out; omega
            case rel => exact ⟨(wrap64 (x6_2 + 1)), (by first | rfl | (simp; done) | (simp [*]; done)), H', ⟨by have := HJ1.out; have := HK2.out; have := HK3.out; omega⟩, ⟨by (with_reducible repeat (first | apply Kd.S_alloc | apply Kd.S_drewN | apply Kd.S_drew)); exact HO_4.out⟩, ⟨by (with_reducible repeat (first | apply Kd.S_alloc | apply Kd.S_drewN | apply Kd.S_drew)); exact HO_5.out⟩, ⟨by (with_reducible repeat (first | apply Kd.R_alloc | apply Kd.R_drewN | apply Kd.R_drew)); exact HO_269000.out⟩, ⟨by (with_reducible repeat (first | apply Kd.S_alloc | apply Kd.S_drewN | apply Kd.S_drew)); exact HO_269001.out⟩, ⟨by (with_reducible repeat (first | refine blk_drewN ?_ _ | refine blk_drew ?_ | refine blk_alloc ?_ _)); exact BK258.out⟩, ⟨by (with_reducible repeat (first | refine blk_drewN ?_ _ | refine blk_drew ?_ | refine blk_alloc ?_ _)); exact BK268.out⟩, ⟨by repeat (first | (with_reducible first | exact HB.out | apply below_alloc | apply pw_below_drewN | apply below_drew1 | refine below_set ?_ GE258.out | refine below_set ?_ GE268.out) | exact HB.out)⟩⟩
        rw [if_neg c50] at H
        have c50b0 : decide (x6_2 < (t269.length : Int)) = false := decide_eq_false c50
        clear c50
        replace H := Option.bind_eq_some_iff.mp H
        obtain ⟨t279, A640, H⟩ := H
        replace H : ((marblerunref01_Same.f k2 t279 t269).bind fun t282 => (some t282)) = some r := H
        have A64 := Aside0.mk A640
        clear A640
        replace H := Option.bind_eq_some_iff.mp H
        obtain ⟨t282, A650, H⟩ := H
        replace H : (some t282) = some r := H
        have A65 := Aside0.mk A650
        clear A650
        obtain rfl := Option.some.inj H
        obtain ⟨Ao66, co66, eo66⟩ := Kd.S_slice HO_5.out
        subst eo66
        iterate 3 ((try go_quiet (first | (go_at_call 19; (with_reducible refine (matrix_Turn.calls k2 _ _ t272 t279 _ ?side1 ?side2 A64.out).mono ?_); (case side1 => repeat (first | exact (Kd.S_reads' HO_5.out).2.2 | (with_reducible refine Kd.C_alloc ?_ _) | (with_reducible refine Kd.C_drewN ?_ _) | (with_reducible refine Kd.C_drew ?_))); (case side2 => exact (Kd.S_reads' HO_5.out).2.1); rintro e w67 ⟨v280, rfl, ho0, hb⟩; have n0_ := Aside0.mk (Kd.S_elder' (kq_S HO_4.out) (Kd.S_base ho0) hb); have n1_ := Aside0.mk (Kd.S_elder' (kq_S HO_5.out) (Kd.S_base ho0) hb); have n2_ := Aside0.mk (Kd.R_below (kq_R HO_269000.out) hb); have n3_ := Aside0.mk (Kd.S_below (kq_S HO_269001.out) hb); have n4_ := Aside0.mk (Kd.S_lower (Kd.S_new' (Kd.S_new' ho0 (Kd.S_lt (kq_S HO_4.out))) (Kd.S_lt (kq_S HO_5.out))) (below_size (by repeat (first | (with_reducible first | exact HB.out | apply below_alloc | apply pw_below_drewN | apply below_drew1 | refine below_set ?_ GE258.out | refine below_set ?_ GE268.out) | exact HB.out)))); have n5_ := Aside0.mk (blk_below (g := gb258) (o := .cells #[.slice A0_0 l0_0.length c0_0, .slice A0_1 l0_1.length c0_1] 29 (0, 0)) (bkq BK258.out) hb); have n6_ := Aside0.mk (blk_below (g := gb268) (o := .cells #[.slice Ao39 t262.length co39, .slice Ao42 t265.length co42] 34 (0, 0)) (bkq BK268.out) hb); have n7_ := Aside0.mk (below_step (by repeat (first | (with_reducible first | exact HB.out | apply below_alloc | apply pw_below_drewN | apply below_drew1 | refine below_set ?_ GE258.out | refine below_set ?_ GE268.out) | exact HB.out)) hb); clear HO_4; clear HO_5; clear HO_269000; clear HO_269001; clear BK258; clear BK268; clear HB; have HO_4 := n0_; have HO_5 := n1_; have HO_269000 := n2_; have HO_269001 := n3_; have HO281 := n4_; have BK258 := n5_; have BK268 := n6_; have HB := n7_; clear n0_ n1_ n2_ n3_ n4_ n5_ n6_ n7_; (try clear hb); (try clear hb2); (try clear hk); (try clear hi); (try clear ho0); obtain ⟨Ao68, co68, eo68⟩ := Kd.S_slice HO281.out; subst eo68) | (go_at_call 20; (with_reducible refine (marblerunref01_Same.calls k2 _ _ t279 _ _ t269 t282 _ ?side1 ?side2 ?side3 ?side4 A65.out).mono ?_); (case side1 => repeat (first | exact (Kd.S_reads' HO281.out).2.2 | (with_reducible refine Kd.C_alloc ?_ _) | (with_reducible refine Kd.C_drewN ?_ _) | (with_reducible refine Kd.C_drew ?_))); (case side2 => exact (Kd.S_reads' HO281.out).2.1); (case side3 => repeat (first | exact (Kd.S_reads' HO_4.out).2.2 | (with_reducible refine Kd.C_alloc ?_ _) | (with_reducible refine Kd.C_drewN ?_ _) | (with_reducible refine Kd.C_drew ?_))); (case side4 => exact (Kd.S_reads' HO_4.out).2.1); rintro e w' ⟨rfl, ⟨nd, rfl⟩⟩; (try first | exact ⟨rfl, _, World.drewN_drewN _ _ _⟩ | exact ⟨rfl, _, Eq.trans (World.drewN_drewN _ _ _) (congrArg (World.drewN _) (Nat.add_assoc _ _ _))⟩)))); go_wp2_with (first | (go_at_call 19; (with_reducible refine (matrix_Turn.calls k2 _ _ t272 t279 _ ?side1 ?side2 A64.out).mono ?_); (case side1 => repeat (first | exact (Kd.S_reads' HO_5.out).2.2 | (with_reducible refine Kd.C_alloc ?_ _) | (with_reducible refine Kd.C_drewN ?_ _) | (with_reducible refine Kd.C_drew ?_))); (case side2 => exact (Kd.S_reads' HO_5.out).2.1); rintro e w67 ⟨v280, rfl, ho0, hb⟩; have n0_ := Aside0.mk (Kd.S_elder' (kq_S HO_4.out) (Kd.S_base ho0) hb); have n1_ := Aside0.mk (Kd.S_elder' (kq_S HO_5.out) (Kd.S_base ho0) hb); have n2_ := Aside0.mk (Kd.R_below (kq_R HO_269000.out) hb); have n3_ := Aside0.mk (Kd.S_below (kq_S HO_269001.out) hb); have n4_ := Aside0.mk (Kd.S_lower (Kd.S_new' (Kd.S_new' ho0 (Kd.S_lt (kq_S HO_4.out))) (Kd.S_lt (kq_S HO_5.out))) (below_size (by repeat (first | (with_reducible first | exact HB.out | apply below_alloc | apply pw_below_drewN | apply below_drew1 | refine below_set ?_ GE258.out | refine below_set ?_ GE268.out) | exact HB.out)))); have n5_ := Aside0.mk (blk_below (g := gb258) (o := .cells #[.slice A0_0 l0_0.length c0_0, .slice A0_1 l0_1.length c0_1] 29 (0, 0)) (bkq BK258.out) hb); have n6_ := Aside0.mk (blk_below (g := gb268) (o := .cells #[.slice Ao39 t262.length co39, .slice Ao42 t265.length co42] 34 (0, 0)) (bkq BK268.out) hb); have n7_ := Aside0.mk (below_step (by repeat (first | (with_reducible first | exact HB.out | apply below_alloc | apply pw_below_drewN | apply below_drew1 | refine below_set ?_ GE258.out | refine below_set ?_ GE268.out) | exact HB.out)) hb); clear HO_4; clear HO_5; clear HO_269000; clear HO_269001; clear BK258; clear BK268; clear HB; have HO_4 := n0_; have HO_5 := n1_; have HO_269000 := n2_; have HO_269001 := n3_; have HO281 := n4_; have BK258 := n5_; have BK268 := n6_; have HB := n7_; clear n0_ n1_ n2_ n3_ n4_ n5_ n6_ n7_; (try clear hb); (try clear hb2); (try clear hk); (try clear hi); (try clear ho0); obtain ⟨Ao68, co68, eo68⟩ := Kd.S_slice HO281.out; subst eo68) | (go_at_call 20; (with_reducible refine (marblerunref01_Same.calls k2 _ _ t279 _ _ t269 t282 _ ?side1 ?side2 ?side3 ?side4 A65.out).mono ?_); (case side1 => repeat (first | exact (Kd.S_reads' HO281.out).2.2 | (with_reducible refine Kd.C_alloc ?_ _) | (with_reducible refine Kd.C_drewN ?_ _) | (with_reducible refine Kd.C_drew ?_))); (case side2 => exact (Kd.S_reads' HO281.out).2.1); (case side3 => repeat (first | exact (Kd.S_reads' HO_4.out).2.2 | (with_reducible refine Kd.C_alloc ?_ _) | (with_reducible refine Kd.C_drewN ?_ _) | (with_reducible refine Kd.C_drew ?_))); (case side4 => exact (Kd.S_reads' HO_4.out).2.1); rintro e w' ⟨rfl, ⟨nd, rfl⟩⟩; (try first | exact ⟨rfl, _, World.drewN_drewN _ _ _⟩ | exact ⟨rfl, _, Eq.trans (World.drewN_drewN _ _ _) (congrArg (World.drewN _) (Nat.add_assoc _ _ _))⟩))))
        go_ret
        exact ⟨by first | rfl | (simp [errW_none, errW_some] <;> rfl) | (simp [*, errW_none, errW_some] <;> rfl), by repeat (first | (with_reducible first | exact HB.out | apply below_alloc | apply pw_below_drewN | apply below_drew1 | refine below_set ?_ GE258.out | refine below_set ?_ GE268.out) | exact HB.out)⟩
    replace c19 := Bool.eq_false_iff.mpr c19
    subst c19
    have H1 : (some false) = some r := by rw [if_neg (show ¬ (false = true) by decide)] at H; exact H
    clear H
    have H := H1
    clear H1
    obtain rfl := Option.some.inj H
    have hcz69_0 : wc.cell? ⟨gb258, 0, none⟩ = some (.slice A0_0 l0_0.length c0_0) := (blk_cell BK258.out 0).trans rfl
    have hcz69_1 : wc.cell? ⟨gb258, 1, none⟩ = some (.slice A0_1 l0_1.length c0_1) := (blk_cell BK258.out 1).trans rfl
    have hfz69_0 := blk_frozen BK258.out 0
    have hfz69_1 := blk_frozen BK258.out 1
    iterate 3 ((try go_quiet (first | (go_at_call 17; (with_reducible refine (marblerunref05_Make.calls kj1 _ _ l0_0 _ _ l0_1 t262 t265 _ ?side1 ?side2 ?side3 ?side4 A14.out).mono ?_); (case side1 => repeat (first | exact (Kd.C_below HR0_0.out HB.out) | (with_reducible refine Kd.C_alloc ?_ _) | (with_reducible refine Kd.C_drewN ?_ _) | (with_reducible refine Kd.C_drew ?_))); (case side2 => exact HC0_0.out); (case side3 => repeat (first | exact (Kd.C_below HR0_1.out HB.out) | (with_reducible refine Kd.C_alloc ?_ _) | (with_reducible refine Kd.C_drewN ?_ _) | (with_reducible refine Kd.C_drew ?_))); (case side4 => exact HC0_1.out); rintro e w70 ⟨v263, v266, rfl, ho0, ho1, hb⟩; have n0_ := Aside0.mk (Kd.R_lower ho0 (below_size (by repeat (first | (with_reducible first | exact HB.out | apply below_alloc | apply pw_below_drewN | apply below_drew1 | refine below_set ?_ GE258.out) | exact HB.out)))); have n1_ := Aside0.mk (Kd.S_lower ho1 (below_size (by repeat (first | (with_reducible first | exact HB.out | apply below_alloc | apply pw_below_drewN | apply below_drew1 | refine below_set ?_ GE258.out) | exact HB.out)))); have n2_ := Aside0.mk (blk_below (g := gb258) (o := .cells #[.slice A0_0 l0_0.length c0_0, .slice A0_1 l0_1.length c0_1] 29 (0, 0)) (bkq BK258.out) hb); have n3_ := Aside0.mk (below_step (by repeat (first | (with_reducible first | exact HB.out | apply below_alloc | apply pw_below_drewN | apply below_drew1 | refine below_set ?_ GE258.out) | exact HB.out)) hb); clear BK258; clear HB; have HO264 := n0_; have HO267 := n1_; have BK258 := n2_; have HB := n3_; clear n0_ n1_ n2_ n3_; (try clear hb); (try clear hb2); (try clear hk); (try clear hi); (try clear ho0); (try clear ho1)) | (go_at_call 18; (with_reducible refine (matrix_Of.calls kj1 _ _ t262 _ _ t265 t269 _ ?side1 ?side2 ?side3 ?side4 A15.out).mono ?_); (case side1 => refine (Kd.R_reads' (e := 52) (base := w.heap.size) (ok := fun k_ => True) (n := t262.length) (c := co72) ?_).2.2; exact (by (with_reducible repeat (first | apply Kd.R_alloc | apply Kd.R_drewN | apply Kd.R_drew)); exact (Kd.R_mono (Kd.R_far (p := ⟨gb268, 1, none⟩) (Kd.R_far (p := ⟨gb268, 0, none⟩) (Kd.R_types HO264.out BK268.out (by decide)) (fun _ hk => hk.2) (.slice Ao72 t262.length co72)) (fun _ hk => hk.2) (.slice Ao75 t265.length co75)) (fun _ h_ => h_.1)))); (case side2 => exact (Kd.R_reads' HO264.out).2.1); (case side3 => refine (Kd.S_reads' (e := 64) (base := w.heap.size) (ok := fun k_ => True) (n := t265.length) (c := co75) ?_).2.2; exact (by (with_reducible repeat (first | apply Kd.S_alloc | apply Kd.S_drewN | apply Kd.S_drew)); exact (Kd.S_mono (Kd.S_far (p := ⟨gb268, 1, none⟩) (Kd.S_far (p := ⟨gb268, 0, none⟩) (Kd.S_types HO267.out BK268.out (by decide)) (fun _ hk => hk.2) (.slice Ao72 t262.length co72)) (fun _ hk => hk.2) (.slice Ao75 t265.length co75)) (fun _ h_ => h_.1)))); (case side4 => exact (Kd.S_reads' HO267.out).2.1); rintro e w76 ⟨v270, rfl, ho0, hb⟩; have n0_ := Aside0.mk (Kd.R_below (by (with_reducible repeat (first | apply Kd.R_alloc | apply Kd.R_drewN | apply Kd.R_drew)); exact (Kd.R_mono (Kd.R_far (p := ⟨gb268, 1, none⟩) (Kd.R_far (p := ⟨gb268, 0, none⟩) (Kd.R_types HO264.out BK268.out (by decide)) (fun _ hk => hk.2) (.slice Ao72 t262.length co72)) (fun _ hk => hk.2) (.slice Ao75 t265.length co75)) (fun _ h_ => h_.1))) hb); have n1_ := Aside0.mk (Kd.S_below (by (with_reducible repeat (first | apply Kd.S_alloc | apply Kd.S_drewN | apply Kd.S_drew)); exact (Kd.S_mono (Kd.S_far (p := ⟨gb268, 1, none⟩) (Kd.S_far (p := ⟨gb268, 0, none⟩) (Kd.S_types HO267.out BK268.out (by decide)) (fun _ hk => hk.2) (.slice Ao72 t262.length co72)) (fun _ hk => hk.2) (.slice Ao75 t265.length co75)) (fun _ h_ => h_.1))) hb); have n2_ := Aside0.mk (Kd.S_lower ho0 (below_size (by repeat (first | (with_reducible first | exact HB.out | apply below_alloc | apply pw_below_drewN | apply below_drew1 | refine below_set ?_ GE258.out | refine below_set ?_ GE268.out) | exact HB.out)))); have n3_ := Aside0.mk (blk_below (g := gb258) (o := .cells #[.slice A0_0 l0_0.length c0_0, .slice A0_1 l0_1.length c0_1] 29 (0, 0)) (by (with_reducible repeat (first | refine blk_drewN ?_ _ | refine blk_drew ?_ | refine blk_alloc ?_ _)); refine blk_far ?_ NB258_268.out _; (with_reducible repeat (first | refine blk_drewN ?_ _ | refine blk_drew ?_ | refine blk_alloc ?_ _)); refine blk_far ?_ NB258_268.out _; (with_reducible repeat (first | refine blk_drewN ?_ _ | refine blk_drew ?_ | refine blk_alloc ?_ _)); exact BK258.out) hb); have n4_ := Aside0.mk (blk_below (g := gb268) (o := .cells #[.slice Ao72 t262.length co72, .slice Ao75 t265.length co75] 34 (0, 0)) (by (with_reducible repeat (first | refine blk_drewN ?_ _ | refine blk_drew ?_ | refine blk_alloc ?_ _)); refine blk_put (cs := #[.slice Ao72 t262.length co72, .slice none 0 0]) ?_ 1 _ rfl; (with_reducible repeat (first | refine blk_drewN ?_ _ | refine blk_drew ?_ | refine blk_alloc ?_ _)); refine blk_put (cs := #[.slice none 0 0, .slice none 0 0]) ?_ 0 _ rfl; (with_reducible repeat (first | refine blk_drewN ?_ _ | refine blk_drew ?_ | refine blk_alloc ?_ _)); exact BK268.out) hb); have n5_ := Aside0.mk (below_step (by repeat (first | (with_reducible first | exact HB.out | apply below_alloc | apply pw_below_drewN | apply below_drew1 | refine below_set ?_ GE258.out | refine below_set ?_ GE268.out) | exact HB.out)) hb); clear HO264; clear HO267; clear BK258; clear BK268; clear HB; have HO264 := n0_; have HO267 := n1_; have HO271 := n2_; have BK258 := n3_; have BK268 := n4_; have HB := n5_; clear n0_ n1_ n2_ n3_ n4_ n5_; (try clear hb); (try clear hb2); (try clear hk); (try clear hi); (try clear ho0); obtain ⟨Ao77, co77, eo77⟩ := Kd.S_slice HO271.out; subst eo77) | (go_at_call 19; (with_reducible refine (matrix_Turn.calls kj1 _ _ t269 t272 _ ?side1 ?side2 A16.out).mono ?_); (case side1 => repeat (first | exact (Kd.S_reads' HO271.out).2.2 | (with_reducible refine Kd.C_alloc ?_ _) | (with_reducible refine Kd.C_drewN ?_ _) | (with_reducible refine Kd.C_drew ?_))); (case side2 => exact (Kd.S_reads' HO271.out).2.1); rintro e w78 ⟨v273, rfl, ho0, hb⟩; have n0_ := Aside0.mk (Kd.R_below (kq_R HO264.out) hb); have n1_ := Aside0.mk (Kd.S_below (kq_S HO267.out) hb); have n2_ := Aside0.mk (Kd.S_elder' (kq_S HO271.out) (Kd.S_base ho0) hb); have n3_ := Aside0.mk (Kd.S_lower (Kd.S_new' ho0 (Kd.S_lt (kq_S HO271.out))) (below_size (by repeat (first | (with_reducible first | exact HB.out | apply below_alloc | apply pw_below_drewN | apply below_drew1 | refine below_set ?_ GE258.out | refine below_set ?_ GE268.out) | exact HB.out)))); have n4_ := Aside0.mk (blk_below (g := gb258) (o := .cells #[.slice A0_0 l0_0.length c0_0, .slice A0_1 l0_1.length c0_1] 29 (0, 0)) (bkq BK258.out) hb); have n5_ := Aside0.mk (blk_below (g := gb268) (o := .cells #[.slice Ao72 t262.length co72, .slice Ao75 t265.length co75] 34 (0, 0)) (bkq BK268.out) hb); have n6_ := Aside0.mk (below_step (by repeat (first | (with_reducible first | exact HB.out | apply below_alloc | apply pw_below_drewN | apply below_drew1 | refine below_set ?_ GE258.out | refine below_set ?_ GE268.out) | exact HB.out)) hb); clear HO264; clear HO267; clear HO271; clear BK258; clear BK268; clear HB; have HO264 := n0_; have HO267 := n1_; have HO271 := n2_; have HO274 := n3_; have BK258 := n4_; have BK268 := n5_; have HB := n6_; clear n0_ n1_ n2_ n3_ n4_ n5_ n6_; (try clear hb); (try clear hb2); (try clear hk); (try clear hi); (try clear ho0); have hcz79_0 : w78.cell? ⟨gb268, 0, none⟩ = some (.slice Ao72 t262.length co72) := (blk_cell BK268.out 0).trans rfl; have hcz79_1 : w78.cell? ⟨gb268, 1, none⟩ = some (.slice Ao75 t265.length co75) := (blk_cell BK268.out 1).trans rfl; have hfz79_0 := blk_frozen BK268.out 0; have hfz79_1 := blk_frozen BK268.out 1) | (go_at_call 21; (with_reducible refine (marblerunref11_Change.calls kj1 _ _ t262 _ _ t265 t275 _ ?side1 ?side2 ?side3 ?side4 A17.out).mono ?_); (case side1 => repeat (first | exact (Kd.R_reads' HO264.out).2.2 | (with_reducible refine Kd.C_alloc ?_ _) | (with_reducible refine Kd.C_drewN ?_ _) | (with_reducible refine Kd.C_drew ?_))); (case side2 => exact (Kd.R_reads' HO264.out).2.1); (case side3 => repeat (first | exact (Kd.S_reads' HO267.out).2.2 | (with_reducible refine Kd.C_alloc ?_ _) | (with_reducible refine Kd.C_drewN ?_ _) | (with_reducible refine Kd.C_drew ?_))); (case side4 => exact (Kd.S_reads' HO267.out).2.1); rintro e w80 ⟨v276, rfl, ho0, hb⟩; have n0_ := Aside0.mk (Kd.R_below (kq_R HO264.out) hb); have n1_ := Aside0.mk (Kd.S_below (kq_S HO267.out) hb); have n2_ := Aside0.mk (Kd.S_elder' (kq_S HO271.out) (Kd.S_base ho0) hb); have n3_ := Aside0.mk (Kd.S_elder' (kq_S HO274.out) (Kd.S_base ho0) hb); have n4_ := Aside0.mk (Kd.S_lower (Kd.S_new' (Kd.S_new' ho0 (Kd.S_lt (kq_S HO271.out))) (Kd.S_lt (kq_S HO274.out))) (below_size (by repeat (first | (with_reducible first | exact HB.out | apply below_alloc | apply pw_below_drewN | apply below_drew1 | refine below_set ?_ GE258.out | refine below_set ?_ GE268.out) | exact HB.out)))); have n5_ := Aside0.mk (blk_below (g := gb258) (o := .cells #[.slice A0_0 l0_0.length c0_0, .slice A0_1 l0_1.length c0_1] 29 (0, 0)) (bkq BK258.out) hb); have n6_ := Aside0.mk (blk_below (g := gb268) (o := .cells #[.slice Ao72 t262.length co72, .slice Ao75 t265.length co75] 34 (0, 0)) (bkq BK268.out) hb); have n7_ := Aside0.mk (below_step (by repeat (first | (with_reducible first | exact HB.out | apply below_alloc | apply pw_below_drewN | apply below_drew1 | refine below_set ?_ GE258.out | refine below_set ?_ GE268.out) | exact HB.out)) hb); clear HO264; clear HO267; clear HO271; clear HO274; clear BK258; clear BK268; clear HB; have HO264 := n0_; have HO267 := n1_; have HO271 := n2_; have HO274 := n3_; have HO277 := n4_; have BK258 := n5_; have BK268 := n6_; have HB := n7_; clear n0_ n1_ n2_ n3_ n4_ n5_ n6_ n7_; (try clear hb); (try clear hb2); (try clear hk); (try clear hi); (try clear ho0); obtain ⟨Ao81, co81, eo81⟩ := Kd.S_slice HO277.out; subst eo81) | (go_at_call 20; (with_reducible refine (marblerunref01_Same.calls kj1 _ _ t269 _ _ t275 false _ ?side1 ?side2 ?side3 ?side4 A18.out).mono ?_); (case side1 => repeat (first | exact (Kd.S_reads' HO271.out).2.2 | (with_reducible refine Kd.C_alloc ?_ _) | (with_reducible refine Kd.C_drewN ?_ _) | (with_reducible refine Kd.C_drew ?_))); (case side2 => exact (Kd.S_reads' HO271.out).2.1); (case side3 => repeat (first | exact (Kd.S_reads' HO277.out).2.2 | (with_reducible refine Kd.C_alloc ?_ _) | (with_reducible refine Kd.C_drewN ?_ _) | (with_reducible refine Kd.C_drew ?_))); (case side4 => exact (Kd.S_reads' HO277.out).2.1); rintro e w' ⟨rfl, ⟨nd, rfl⟩⟩; (try first | exact ⟨rfl, _, World.drewN_drewN _ _ _⟩ | exact ⟨rfl, _, Eq.trans (World.drewN_drewN _ _ _) (congrArg (World.drewN _) (Nat.add_assoc _ _ _))⟩)))); go_wp2_with (first | (go_at_call 17; (with_reducible refine (marblerunref05_Make.calls kj1 _ _ l0_0 _ _ l0_1 t262 t265 _ ?side1 ?side2 ?side3 ?side4 A14.out).mono ?_); (case side1 => repeat (first | exact (Kd.C_below HR0_0.out HB.out) | (with_reducible refine Kd.C_alloc ?_ _) | (with_reducible refine Kd.C_drewN ?_ _) | (with_reducible refine Kd.C_drew ?_))); (case side2 => exact HC0_0.out); (case side3 => repeat (first | exact (Kd.C_below HR0_1.out HB.out) | (with_reducible refine Kd.C_alloc ?_ _) | (with_reducible refine Kd.C_drewN ?_ _) | (with_reducible refine Kd.C_drew ?_))); (case side4 => exact HC0_1.out); rintro e w70 ⟨v263, v266, rfl, ho0, ho1, hb⟩; have n0_ := Aside0.mk (Kd.R_lower ho0 (below_size (by repeat (first | (with_reducible first | exact HB.out | apply below_alloc | apply pw_below_drewN | apply below_drew1 | refine below_set ?_ GE258.out) | exact HB.out)))); have n1_ := Aside0.mk (Kd.S_lower ho1 (below_size (by repeat (first | (with_reducible first | exact HB.out | apply below_alloc | apply pw_below_drewN | apply below_drew1 | refine below_set ?_ GE258.out) | exact HB.out)))); have n2_ := Aside0.mk (blk_below (g := gb258) (o := .cells #[.slice A0_0 l0_0.length c0_0, .slice A0_1 l0_1.length c0_1] 29 (0, 0)) (bkq BK258.out) hb); have n3_ := Aside0.mk (below_step (by repeat (first | (with_reducible first | exact HB.out | apply below_alloc | apply pw_below_drewN | apply below_drew1 | refine below_set ?_ GE258.out) | exact HB.out)) hb); clear BK258; clear HB; have HO264 := n0_; have HO267 := n1_; have BK258 := n2_; have HB := n3_; clear n0_ n1_ n2_ n3_; (try clear hb); (try clear hb2); (try clear hk); (try clear hi); (try clear ho0); (try clear ho1)) | ((with_reducible refine gate_dst (N := 3) rfl ?_); (try (refine gate_guard (by rfl) ?_; dsimp only)); refine box_event ?hg (N := 3) ?hd (cs := #[.slice none 0 0, .slice none 0 0]) (t := 34) ?hr ?_; (case hd => rfl); (case hg => rfl); (case hr => first | (go_simp; done) | (go_simp; rfl)); intro gb268 hg w71 hbox hb; have n0_ := Aside0.mk (Kd.R_below (kq_R HO264.out) hb); have n1_ := Aside0.mk (Kd.S_below (kq_S HO267.out) hb); have n2_ := Aside0.mk (blk_below (g := gb258) (o := .cells #[.slice A0_0 l0_0.length c0_0, .slice A0_1 l0_1.length c0_1] 29 (0, 0)) (bkq BK258.out) hb); have n3_ := Aside0.mk (below_step (by repeat (first | (with_reducible first | exact HB.out | apply below_alloc | apply pw_below_drewN | apply below_drew1 | refine below_set ?_ GE258.out) | exact HB.out)) hb); have n4_ := Aside0.mk (hbox); have n5_ := Aside0.mk ((by rw [hg]; exact (below_size (by repeat (first | (with_reducible first | exact HB.out | apply below_alloc | apply pw_below_drewN | apply below_drew1 | refine below_set ?_ GE258.out) | exact HB.out))) : w.heap.size ≤ gb268)); have n6_ := Aside0.mk ((by rw [hg]; exact (below_size (by repeat (first | (with_reducible first | exact HB.out | apply below_alloc | apply pw_below_drewN | apply below_drew1 | refine below_set ?_ GE258.out) | exact HB.out))) : w.heap.size ≤ gb268)); have n7_ := Aside0.mk ((by rw [hg]; exact Nat.ne_of_lt (blk_lt (g := gb258) (o := .cells #[.slice A0_0 l0_0.length c0_0, .slice A0_1 l0_1.length c0_1] 29 (0, 0)) (bkq BK258.out)) : gb258 ≠ gb268)); have n8_ := Aside0.mk ((by rw [hg]; exact Nat.ne_of_gt (blk_lt (g := gb258) (o := .cells #[.slice A0_0 l0_0.length c0_0, .slice A0_1 l0_1.length c0_1] 29 (0, 0)) (bkq BK258.out)) : gb268 ≠ gb258)); clear HO264; clear HO267; clear BK258; clear HB; have HO264 := n0_; have HO267 := n1_; have BK258 := n2_; have HB := n3_; have BK268 := n4_; have GW268 := n5_; have GE268 := n6_; have NB258_268 := n7_; have NB268_258 := n8_; clear n0_ n1_ n2_ n3_ n4_ n5_ n6_ n7_ n8_; clear hb hbox hg; obtain ⟨Ao72, co72, eo72⟩ := Kd.R_slice HO264.out; subst eo72; have hnb73 := NB268_258.out; have hnc73 := NB258_268.out; have hcz74_0 : w71.cell? ⟨gb268, 0, none⟩ = some (.slice none 0 0) := (blk_cell BK268.out 0).trans rfl; have hcz74_1 : w71.cell? ⟨gb268, 1, none⟩ = some (.slice none 0 0) := (blk_cell BK268.out 1).trans rfl; have hfz74_0 := blk_frozen BK268.out 0; have hfz74_1 := blk_frozen BK268.out 1; obtain ⟨Ao75, co75, eo75⟩ := Kd.S_slice HO267.out; subst eo75) | (go_at_call 18; (with_reducible refine (matrix_Of.calls kj1 _ _ t262 _ _ t265 t269 _ ?side1 ?side2 ?side3 ?side4 A15.out).mono ?_); (case side1 => refine (Kd.R_reads' (e := 52) (base := w.heap.size) (ok := fun k_ => True) (n := t262.length) (c := co72) ?_).2.2; exact (by (with_reducible repeat (first | apply Kd.R_alloc | apply Kd.R_drewN | apply Kd.R_drew)); exact (Kd.R_mono (Kd.R_far (p := ⟨gb268, 1, none⟩) (Kd.R_far (p := ⟨gb268, 0, none⟩) (Kd.R_types HO264.out BK268.out (by decide)) (fun _ hk => hk.2) (.slice Ao72 t262.length co72)) (fun _ hk => hk.2) (.slice Ao75 t265.length co75)) (fun _ h_ => h_.1)))); (case side2 => exact (Kd.R_reads' HO264.out).2.1); (case side3 => refine (Kd.S_reads' (e := 64) (base := w.heap.size) (ok := fun k_ => True) (n := t265.length) (c := co75) ?_).2.2; exact (by (with_reducible repeat (first | apply Kd.S_alloc | apply Kd.S_drewN | apply Kd.S_drew)); exact (Kd.S_mono (Kd.S_far (p := ⟨gb268, 1, none⟩) (Kd.S_far (p := ⟨gb268, 0, none⟩) (Kd.S_types HO267.out BK268.out (by decide)) (fun _ hk => hk.2) (.slice Ao72 t262.length co72)) (fun _ hk => hk.2) (.slice Ao75 t265.length co75)) (fun _ h_ => h_.1)))); (case side4 => exact (Kd.S_reads' HO267.out).2.1); rintro e w76 ⟨v270, rfl, ho0, hb⟩; have n0_ := Aside0.mk (Kd.R_below (by (with_reducible repeat (first | apply Kd.R_alloc | apply Kd.R_drewN | apply Kd.R_drew)); exact (Kd.R_mono (Kd.R_far (p := ⟨gb268, 1, none⟩) (Kd.R_far (p := ⟨gb268, 0, none⟩) (Kd.R_types HO264.out BK268.out (by decide)) (fun _ hk => hk.2) (.slice Ao72 t262.length co72)) (fun _ hk => hk.2) (.slice Ao75 t265.length co75)) (fun _ h_ => h_.1))) hb); have n1_ := Aside0.mk (Kd.S_below (by (with_reducible repeat (first | apply Kd.S_alloc | apply Kd.S_drewN | apply Kd.S_drew)); exact (Kd.S_mono (Kd.S_far (p := ⟨gb268, 1, none⟩) (Kd.S_far (p := ⟨gb268, 0, none⟩) (Kd.S_types HO267.out BK268.out (by decide)) (fun _ hk => hk.2) (.slice Ao72 t262.length co72)) (fun _ hk => hk.2) (.slice Ao75 t265.length co75)) (fun _ h_ => h_.1))) hb); have n2_ := Aside0.mk (Kd.S_lower ho0 (below_size (by repeat (first | (with_reducible first | exact HB.out | apply below_alloc | apply pw_below_drewN | apply below_drew1 | refine below_set ?_ GE258.out | refine below_set ?_ GE268.out) | exact HB.out)))); have n3_ := Aside0.mk (blk_below (g := gb258) (o := .cells #[.slice A0_0 l0_0.length c0_0, .slice A0_1 l0_1.length c0_1] 29 (0, 0)) (by (with_reducible repeat (first | refine blk_drewN ?_ _ | refine blk_drew ?_ | refine blk_alloc ?_ _)); refine blk_far ?_ NB258_268.out _; (with_reducible repeat (first | refine blk_drewN ?_ _ | refine blk_drew ?_ | refine blk_alloc ?_ _)); refine blk_far ?_ NB258_268.out _; (with_reducible repeat (first | refine blk_drewN ?_ _ | refine blk_drew ?_ | refine blk_alloc ?_ _)); exact BK258.out) hb); have n4_ := Aside0.mk (blk_below (g := gb268) (o := .cells #[.slice Ao72 t262.length co72, .slice Ao75 t265.length co75] 34 (0, 0)) (by (with_reducible repeat (first | refine blk_drewN ?_ _ | refine blk_drew ?_ | refine blk_alloc ?_ _)); refine blk_put (cs := #[.slice Ao72 t262.length co72, .slice none 0 0]) ?_ 1 _ rfl; (with_reducible repeat (first | refine blk_drewN ?_ _ | refine blk_drew ?_ | refine blk_alloc ?_ _)); refine blk_put (cs := #[.slice none 0 0, .slice none 0 0]) ?_ 0 _ rfl; (with_reducible repeat (first | refine blk_drewN ?_ _ | refine blk_drew ?_ | refine blk_alloc ?_ _)); exact BK268.out) hb); have n5_ := Aside0.mk (below_step (by repeat (first | (with_reducible first | exact HB.out | apply below_alloc | apply pw_below_drewN | apply below_drew1 | refine below_set ?_ GE258.out | refine below_set ?_ GE268.out) | exact HB.out)) hb); clear HO264; clear HO267; clear BK258; clear BK268; clear HB; have HO264 := n0_; have HO267 := n1_; have HO271 := n2_; have BK258 := n3_; have BK268 := n4_; have HB := n5_; clear n0_ n1_ n2_ n3_ n4_ n5_; (try clear hb); (try clear hb2); (try clear hk); (try clear hi); (try clear ho0); obtain ⟨Ao77, co77, eo77⟩ := Kd.S_slice HO271.out; subst eo77) | (go_at_call 19; (with_reducible refine (matrix_Turn.calls kj1 _ _ t269 t272 _ ?side1 ?side2 A16.out).mono ?_); (case side1 => repeat (first | exact (Kd.S_reads' HO271.out).2.2 | (with_reducible refine Kd.C_alloc ?_ _) | (with_reducible refine Kd.C_drewN ?_ _) | (with_reducible refine Kd.C_drew ?_))); (case side2 => exact (Kd.S_reads' HO271.out).2.1); rintro e w78 ⟨v273, rfl, ho0, hb⟩; have n0_ := Aside0.mk (Kd.R_below (kq_R HO264.out) hb); have n1_ := Aside0.mk (Kd.S_below (kq_S HO267.out) hb); have n2_ := Aside0.mk (Kd.S_elder' (kq_S HO271.out) (Kd.S_base ho0) hb); have n3_ := Aside0.mk (Kd.S_lower (Kd.S_new' ho0 (Kd.S_lt (kq_S HO271.out))) (below_size (by repeat (first | (with_reducible first | exact HB.out | apply below_alloc | apply pw_below_drewN | apply below_drew1 | refine below_set ?_ GE258.out | refine below_set ?_ GE268.out) | exact HB.out)))); have n4_ := Aside0.mk (blk_below (g := gb258) (o := .cells #[.slice A0_0 l0_0.length c0_0, .slice A0_1 l0_1.length c0_1] 29 (0, 0)) (bkq BK258.out) hb); have n5_ := Aside0.mk (blk_below (g := gb268) (o := .cells #[.slice Ao72 t262.length co72, .slice Ao75 t265.length co75] 34 (0, 0)) (bkq BK268.out) hb); have n6_ := Aside0.mk (below_step (by repeat (first | (with_reducible first | exact HB.out | apply below_alloc | apply pw_below_drewN | apply below_drew1 | refine below_set ?_ GE258.out | refine below_set ?_ GE268.out) | exact HB.out)) hb); clear HO264; clear HO267; clear HO271; clear BK258; clear BK268; clear HB; have HO264 := n0_; have HO267 := n1_; have HO271 := n2_; have HO274 := n3_; have BK258 := n4_; have BK268 := n5_; have HB := n6_; clear n0_ n1_ n2_ n3_ n4_ n5_ n6_; (try clear hb); (try clear hb2); (try clear hk); (try clear hi); (try clear ho0); have hcz79_0 : w78.cell? ⟨gb268, 0, none⟩ = some (.slice Ao72 t262.length co72) := (blk_cell BK268.out 0).trans rfl; have hcz79_1 : w78.cell? ⟨gb268, 1, none⟩ = some (.slice Ao75 t265.length co75) := (blk_cell BK268.out 1).trans rfl; have hfz79_0 := blk_frozen BK268.out 0; have hfz79_1 := blk_frozen BK268.out 1) | (go_at_call 21; (with_reducible refine (marblerunref11_Change.calls kj1 _ _ t262 _ _ t265 t275 _ ?side1 ?side2 ?side3 ?side4 A17.out).mono ?_); (case side1 => repeat (first | exact (Kd.R_reads' HO264.out).2.2 | (with_reducible refine Kd.C_alloc ?_ _) | (with_reducible refine Kd.C_drewN ?_ _) | (with_reducible refine Kd.C_drew ?_))); (case side2 => exact (Kd.R_reads' HO264.out).2.1); (case side3 => repeat (first | exact (Kd.S_reads' HO267.out).2.2 | (with_reducible refine Kd.C_alloc ?_ _) | (with_reducible refine Kd.C_drewN ?_ _) | (with_reducible refine Kd.C_drew ?_))); (case side4 => exact (Kd.S_reads' HO267.out).2.1); rintro e w80 ⟨v276, rfl, ho0, hb⟩; have n0_ := Aside0.mk (Kd.R_below (kq_R HO264.out) hb); have n1_ := Aside0.mk (Kd.S_below (kq_S HO267.out) hb); have n2_ := Aside0.mk (Kd.S_elder' (kq_S HO271.out) (Kd.S_base ho0) hb); have n3_ := Aside0.mk (Kd.S_elder' (kq_S HO274.out) (Kd.S_base ho0) hb); have n4_ := Aside0.mk (Kd.S_lower (Kd.S_new' (Kd.S_new' ho0 (Kd.S_lt (kq_S HO271.out))) (Kd.S_lt (kq_S HO274.out))) (below_size (by repeat (first | (with_reducible first | exact HB.out | apply below_alloc | apply pw_below_drewN | apply below_drew1 | refine below_set ?_ GE258.out | refine below_set ?_ GE268.out) | exact HB.out)))); have n5_ := Aside0.mk (blk_below (g := gb258) (o := .cells #[.slice A0_0 l0_0.length c0_0, .slice A0_1 l0_1.length c0_1] 29 (0, 0)) (bkq BK258.out) hb); have n6_ := Aside0.mk (blk_below (g := gb268) (o := .cells #[.slice Ao72 t262.length co72, .slice Ao75 t265.length co75] 34 (0, 0)) (bkq BK268.out) hb); have n7_ := Aside0.mk (below_step (by repeat (first | (with_reducible first | exact HB.out | apply below_alloc | apply pw_below_drewN | apply below_drew1 | refine below_set ?_ GE258.out | refine below_set ?_ GE268.out) | exact HB.out)) hb); clear HO264; clear HO267; clear HO271; clear HO274; clear BK258; clear BK268; clear HB; have HO264 := n0_; have HO267 := n1_; have HO271 := n2_; have HO274 := n3_; have HO277 := n4_; have BK258 := n5_; have BK268 := n6_; have HB := n7_; clear n0_ n1_ n2_ n3_ n4_ n5_ n6_ n7_; (try clear hb); (try clear hb2); (try clear hk); (try clear hi); (try clear ho0); obtain ⟨Ao81, co81, eo81⟩ := Kd.S_slice HO277.out; subst eo81) | (go_at_call 20; (with_reducible refine (marblerunref01_Same.calls kj1 _ _ t269 _ _ t275 false _ ?side1 ?side2 ?side3 ?side4 A18.out).mono ?_); (case side1 => repeat (first | exact (Kd.S_reads' HO271.out).2.2 | (with_reducible refine Kd.C_alloc ?_ _) | (with_reducible refine Kd.C_drewN ?_ _) | (with_reducible refine Kd.C_drew ?_))); (case side2 => exact (Kd.S_reads' HO271.out).2.1); (case side3 => repeat (first | exact (Kd.S_reads' HO277.out).2.2 | (with_reducible refine Kd.C_alloc ?_ _) | (with_reducible refine Kd.C_drewN ?_ _) | (with_reducible refine Kd.C_drew ?_))); (case side4 => exact (Kd.S_reads' HO277.out).2.1); rintro e w' ⟨rfl, ⟨nd, rfl⟩⟩; (try first | exact ⟨rfl, _, World.drewN_drewN _ _ _⟩ | exact ⟨rfl, _, Eq.trans (World.drewN_drewN _ _ _) (congrArg (World.drewN _) (Nat.add_assoc _ _ _))⟩))))
    go_ret
    exact ⟨by first | rfl | (simp [errW_none, errW_some] <;> rfl) | (simp [*, errW_none, errW_some] <;> rfl), by repeat (first | (with_reducible first | exact HB.out | apply below_alloc | apply pw_below_drewN | apply below_drew1 | refine below_set ?_ GE258.out | refine below_set ?_ GE268.out) | exact HB.out)⟩

end Go.Proofs.Ytigpmhicdmjbeaa.PMatrixOf
