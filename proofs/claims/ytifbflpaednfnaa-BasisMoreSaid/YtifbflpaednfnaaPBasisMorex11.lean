/- What the functions that this law reaches answer, in whatever memory, and the row of the law; no condition. Written by a program of this session (mk.sh). -/
import Derived.Test.YtifbflpaednfnaaPBasisMorex0
import Derived.Test.YtifbflpaednfnaaPBasisMorex9
import Derived.Test.YtifbflpaednfnaaPBasisMorex10
namespace Go.Proofs.Ytifbflpaednfnaa.PBasisMore
open Go.RowKit Go.Proofs.YtifbflpaednfnaaW.PrintWords Go.Proofs.YtifbflpaednfnaaW.PrintLast Go.Proofs.YtifbflpaednfnaaW.PrintMore
attribute [local go_sem] max2_int min2_int max_two min_two max_three min_three max_four min_four   -- for this text's walks alone
set_option linter.unusedVariables false
set_option linter.unusedSimpArgs false

/-! ### marblerunlaw12_BasisMore: function 6 -/
mutual
def marblerunlaw12_BasisMore.j0 : Nat → Bool → List Int → List (S60) → Option (Bool)
 | 0, _, _, _ => none
 | k + 1, x15, x377000, x377001 => if x15 = true then ((marblerunlaw12_awake.f k).bind fun t379 => (some t379)) else ((marblerunref05_Make.f k x377000 x377001).bind fun bt380 => (if bt380.1.length < 5864062014805 then ((some (bt380.1 ++ [(⟨(⟨#[97, 108, 111, 110, 101]⟩ : ByteArray), 0⟩ : S46)] : List (S46))).bind fun y387 => ((basis_Places.f k y387 bt380.2).bind fun bt390 => (if bt390.2 = 0 then (marblerunlaw12_BasisMore.l0 k bt390.1 0 0 y387 bt380.2) else (some true)))) else (none)))
def marblerunlaw12_BasisMore.l0 : Nat → List (List Int) → Int → Int → List (S46) → List (S54) → Option (Bool)
 | 0, _, _, _, _, _ => none
 | k + 1, x4, x6, x7, x387000, x387001 => if x7 < (x4.length : Int) then (if 0 ≤ x7 then (if 0 ≤ (wrap64 ((x387000.length : Int) - 1)) then (if (wrap64 ((x387000.length : Int) - 1)) < ((rd_L1 x4 x7).length : Int) then (if (rd (rd_L1 x4 x7) (wrap64 ((x387000.length : Int) - 1))) = 0 then (marblerunlaw12_BasisMore.l0 k x4 x6 (wrap64 (x7 + 1)) x387000 x387001) else (marblerunlaw12_BasisMore.l1 k x4 (wrap64 (x6 + 1)) x7 0 x387000 x387001)) else (none)) else (none)) else (none)) else (some (x6 == 1))
def marblerunlaw12_BasisMore.l1 : Nat → List (List Int) → Int → Int → Int → List (S46) → List (S54) → Option (Bool)
 | 0, _, _, _, _, _, _ => none
 | k + 1, x4, x6, x7, x8, x387000, x387001 => if (wrap64 (x8 + 1)) < (x387000.length : Int) then (if 0 ≤ x7 then (if x7 < (x4.length : Int) then (if 0 ≤ x8 then (if x8 < ((rd_L1 x4 x7).length : Int) then (if (rd (rd_L1 x4 x7) x8) = 0 then (marblerunlaw12_BasisMore.l1 k x4 x6 x7 (wrap64 (x8 + 1)) x387000 x387001) else (some false)) else (none)) else (none)) else (none)) else (none)) else (marblerunlaw12_BasisMore.l0 k x4 x6 (wrap64 (x7 + 1)) x387000 x387001)
end
def marblerunlaw12_BasisMore.f (k : Nat) (l0_0 : List Int) (l0_1 : List (S60)) : Option (Bool) := (marblerunlaw12_awake.f k).bind fun t377 => (if t377 = true then ((marblerunlaw12_few.f l0_0 l0_1).bind fun t378 => (marblerunlaw12_BasisMore.j0 k (!t378) l0_0 l0_1)) else (marblerunlaw12_BasisMore.j0 k true l0_0 l0_1))
theorem marblerunlaw12_BasisMore.mono_l : ∀ k, (∀ y0 y1 y2, LeO (marblerunlaw12_BasisMore.j0 k y0 y1 y2) (marblerunlaw12_BasisMore.j0 (k + 1) y0 y1 y2)) ∧ (∀ y0 y1 y2 y3 y4, LeO (marblerunlaw12_BasisMore.l0 k y0 y1 y2 y3 y4) (marblerunlaw12_BasisMore.l0 (k + 1) y0 y1 y2 y3 y4)) ∧ (∀ y0 y1 y2 y3 y4 y5, LeO (marblerunlaw12_BasisMore.l1 k y0 y1 y2 y3 y4 y5) (marblerunlaw12_BasisMore.l1 (k + 1) y0 y1 y2 y3 y4 y5))
 | 0 => ⟨fun _ _ _ r h => by simp [marblerunlaw12_BasisMore.j0] at h, fun _ _ _ _ _ r h => by simp [marblerunlaw12_BasisMore.l0] at h, fun _ _ _ _ _ _ r h => by simp [marblerunlaw12_BasisMore.l1] at h⟩
 | k + 1 => by
  obtain ⟨ih0, ih1, ih2⟩ := marblerunlaw12_BasisMore.mono_l k
  refine ⟨?_, ?_, ?_⟩
  all_goals
   intros
   first
   | unfold marblerunlaw12_BasisMore.j0
   | unfold marblerunlaw12_BasisMore.l0
   | unfold marblerunlaw12_BasisMore.l1
   repeat' first
   | (with_reducible exact ih0 _ _ _)
   | (with_reducible exact ih1 _ _ _ _ _)
   | (with_reducible exact ih2 _ _ _ _ _ _)
   | (with_reducible exact basis_Places.mono _ _ _)
   | (with_reducible exact marblerunlaw12_awake.mono _)
   | (with_reducible exact marblerunref05_Make.mono _ _ _)
   | (with_reducible exact LeO.refl _)
   | (with_reducible exact LeO.none _)
   | (with_reducible refine LeO.ite ?_ ?_)
   | (with_reducible refine LeO.bind ?_ (fun _ => ?_))
   | exact ih0 _ _ _
   | exact ih1 _ _ _ _ _
   | exact ih2 _ _ _ _ _ _
   | exact basis_Places.mono _ _ _
   | exact marblerunlaw12_awake.mono _
   | exact marblerunref05_Make.mono _ _ _
   | exact LeO.none _
   | refine LeO.ite ?_ ?_
   | refine LeO.bind ?_ (fun _ => ?_)
theorem marblerunlaw12_BasisMore.mono : ∀ a0 a1 k, LeO (marblerunlaw12_BasisMore.f k a0 a1) (marblerunlaw12_BasisMore.f (k + 1) a0 a1) := by
 intro a0 a1 k
 obtain ⟨ih0, ih1, ih2⟩ := marblerunlaw12_BasisMore.mono_l k
 unfold marblerunlaw12_BasisMore.f
 repeat' first
  | (with_reducible exact ih0 _ _ _)
  | (with_reducible exact ih1 _ _ _ _ _)
  | (with_reducible exact ih2 _ _ _ _ _ _)
  | (with_reducible exact basis_Places.mono _ _ _)
  | (with_reducible exact marblerunlaw12_awake.mono _)
  | (with_reducible exact marblerunref05_Make.mono _ _ _)
  | (with_reducible exact LeO.refl _)
  | (with_reducible exact LeO.none _)
  | (with_reducible refine LeO.ite ?_ ?_)
  | (with_reducible refine LeO.bind ?_ (fun _ => ?_))
  | exact ih0 _ _ _
  | exact ih1 _ _ _ _ _
  | exact ih2 _ _ _ _ _ _
  | exact basis_Places.mono _ _ _
  | exact marblerunlaw12_awake.mono _
  | exact marblerunref05_Make.mono _ _ _
  | exact LeO.none _
  | refine LeO.ite ?_ ?_
  | refine LeO.bind ?_ (fun _ => ?_)
set_option maxHeartbeats 8000000 in
set_option maxRecDepth 100000 in
theorem marblerunlaw12_BasisMore.calls (k : Nat) (A0_0 : Option Addr) (c0_0 : Nat) (l0_0 : List Int) (A0_1 : Option Addr) (c0_1 : Nat) (l0_1 : List (S60)) (r : Bool) (w : World) (hr0_0 : Kd.C (Kd.int .u8) w A0_0 l0_0.length l0_0) (hc0_0 : l0_0.length ≤ c0_0) (hr0_1 : Kd.C k60 w A0_1 l0_1.length l0_1) (hc0_1 : l0_1.length ≤ c0_1) (h : marblerunlaw12_BasisMore.f k l0_0 l0_1 = some r) :
 Calls Try.prog 6 #[.agg #[.slice A0_0 l0_0.length c0_0, .slice A0_1 l0_1.length c0_1]] w fun e w' => e = .returned (.bool r) ∧ Below w.heap.size w w' := by
 have hu25 := Try.underlying25
 have hu31 := Try.underlying31
 have hu46 := Try.underlying46
 have HR0_0 := Aside0.mk hr0_0
 have HC0_0 := Aside0.mk hc0_0
 clear hr0_0 hc0_0
 have HR0_1 := Aside0.mk hr0_1
 have HC0_1 := Aside0.mk hc0_1
 clear hr0_1 hc0_1
 have HB := Aside0.mk (Below.refl w.heap.size w)
 have H : ((marblerunlaw12_awake.f k).bind fun t377 => (if t377 = true then ((marblerunlaw12_few.f l0_0 l0_1).bind fun t378 => (marblerunlaw12_BasisMore.j0 k (!t378) l0_0 l0_1)) else (marblerunlaw12_BasisMore.j0 k true l0_0 l0_1))) = some r := h
 clear h
 have HC2 := Aside0.mk H
 clear H
 go_enter Try.func6, Try.ntmps6
 go_upto_region 1 with (first | ((with_reducible refine gate_dst (N := 1) rfl ?_); refine box_event ?hg (N := 1) ?hd (cs := #[.slice A0_0 l0_0.length c0_0, .slice A0_1 l0_1.length c0_1]) (t := 25) ?hr ?_; (case hd => rfl); (case hg => rfl); (case hr => first | (go_simp; done) | (go_simp; rfl)); intro gb376 hg w3 hbox hb; have n0_ := Aside0.mk (below_step (hbq HB.out) hb); have n1_ := Aside0.mk (hbox); have n2_ := Aside0.mk ((by rw [hg]; exact (below_size (hbq HB.out)) : w.heap.size ≤ gb376)); have n3_ := Aside0.mk ((by rw [hg]; exact (below_size (hbq HB.out)) : w.heap.size ≤ gb376)); clear HB; have HB := n0_; have BK376 := n1_; have GW376 := n2_; have GE376 := n3_; clear n0_ n1_ n2_ n3_; clear hb hbox hg))
 repeat (go_quiet (first | ((with_reducible refine gate_dst (N := 1) rfl ?_); refine box_event ?hg (N := 1) ?hd (cs := #[.slice A0_0 l0_0.length c0_0, .slice A0_1 l0_1.length c0_1]) (t := 25) ?hr ?_; (case hd => rfl); (case hg => rfl); (case hr => first | (go_simp; done) | (go_simp; rfl)); intro gb376 hg w3 hbox hb; have n0_ := Aside0.mk (below_step (hbq HB.out) hb); have n1_ := Aside0.mk (hbox); have n2_ := Aside0.mk ((by rw [hg]; exact (below_size (hbq HB.out)) : w.heap.size ≤ gb376)); have n3_ := Aside0.mk ((by rw [hg]; exact (below_size (hbq HB.out)) : w.heap.size ≤ gb376)); clear HB; have HB := n0_; have BK376 := n1_; have GW376 := n2_; have GE376 := n3_; clear n0_ n1_ n2_ n3_; clear hb hbox hg)); go_upto_region 1 with (first | ((with_reducible refine gate_dst (N := 1) rfl ?_); refine box_event ?hg (N := 1) ?hd (cs := #[.slice A0_0 l0_0.length c0_0, .slice A0_1 l0_1.length c0_1]) (t := 25) ?hr ?_; (case hd => rfl); (case hg => rfl); (case hr => first | (go_simp; done) | (go_simp; rfl)); intro gb376 hg w3 hbox hb; have n0_ := Aside0.mk (below_step (hbq HB.out) hb); have n1_ := Aside0.mk (hbox); have n2_ := Aside0.mk ((by rw [hg]; exact (below_size (hbq HB.out)) : w.heap.size ≤ gb376)); have n3_ := Aside0.mk ((by rw [hg]; exact (below_size (hbq HB.out)) : w.heap.size ≤ gb376)); clear HB; have HB := n0_; have BK376 := n1_; have GW376 := n2_; have GE376 := n3_; clear n0_ n1_ n2_ n3_; clear hb hbox hg)))
 (try simp only [Act.put, List.setIfInBounds_toArray, List.set_cons_zero, List.set_cons_succ])
 go_cut [15] (fun v15 wc => ∃ (kq : Nat) (x15_1 : Bool), v15 = .bool x15_1 ∧ Aside0 (marblerunlaw12_BasisMore.j0 kq x15_1 l0_0 l0_1 = some r) ∧ Aside0 (kq ≤ k) ∧ Aside0 (wc.heap[gb376]? = some (.cells #[(.slice A0_0 l0_0.length c0_0), (.slice A0_1 l0_1.length c0_1)] 25 (0, 0))) ∧ Aside0 (Below w.heap.size w wc))
 case first =>
  have H := HC2.out
  clear HC2
  replace H := Option.bind_eq_some_iff.mp H
  obtain ⟨t377, A40, H⟩ := H
  replace H : (if t377 = true then ((marblerunlaw12_few.f l0_0 l0_1).bind fun t378 => (marblerunlaw12_BasisMore.j0 k (!t378) l0_0 l0_1)) else (marblerunlaw12_BasisMore.j0 k true l0_0 l0_1)) = some r := H
  have A4 := Aside0.mk A40
  clear A40
  by_cases c5 : t377 = true
  ·subst c5
   have H1 : ((marblerunlaw12_few.f l0_0 l0_1).bind fun t378 => (marblerunlaw12_BasisMore.j0 k (!t378) l0_0 l0_1)) = some r := by rw [if_pos rfl] at H; exact H
   clear H
   have H := H1
   clear H1
   replace H := Option.bind_eq_some_iff.mp H
   obtain ⟨t378, A60, H⟩ := H
   replace H : (marblerunlaw12_BasisMore.j0 k (!t378) l0_0 l0_1) = some r := H
   have A6 := Aside0.mk A60
   clear A60
   have H' := Aside0.mk H
   clear H
   iterate 3 ((try go_quiet (first | (go_at_call 10; (with_reducible refine (marblerunlaw12_awake.calls k  true _ A4.out).mono ?_); rintro e w7 ⟨rfl, hb⟩; have n0_ := Aside0.mk (blk_below (g := gb376) (o := .cells #[.slice A0_0 l0_0.length c0_0, .slice A0_1 l0_1.length c0_1] 25 (0, 0)) (bkq BK376.out) hb); have n1_ := Aside0.mk (below_step (hbq HB.out) hb); clear BK376; clear HB; have BK376 := n0_; have HB := n1_; clear n0_ n1_; (try clear hb); (try clear hb2); (try clear hk); (try clear hi); have hcz8_0 : w7.cell? ⟨gb376, 0, none⟩ = some (.slice A0_0 l0_0.length c0_0) := (blk_cell BK376.out 0).trans rfl; have hcz8_1 : w7.cell? ⟨gb376, 1, none⟩ = some (.slice A0_1 l0_1.length c0_1) := (blk_cell BK376.out 1).trans rfl; have hfz8_0 := blk_frozen BK376.out 0; have hfz8_1 := blk_frozen BK376.out 1) | (go_at_call 11; (with_reducible refine (marblerunlaw12_few.calls _ _ l0_0 _ _ l0_1 t378 _ ?side1 ?side2 ?side3 ?side4 A6.out).mono ?_); (case side1 => repeat (first | exact (Kd.C_below HR0_0.out HB.out) | (with_reducible refine Kd.C_alloc ?_ _) | (with_reducible refine Kd.C_drewN ?_ _) | (with_reducible refine Kd.C_drew ?_))); (case side2 => exact HC0_0.out); (case side3 => repeat (first | exact (Kd.C_below HR0_1.out HB.out) | (with_reducible refine Kd.C_alloc ?_ _) | (with_reducible refine Kd.C_drewN ?_ _) | (with_reducible refine Kd.C_drew ?_))); (case side4 => exact HC0_1.out); rintro e w9 ⟨rfl, hb⟩; have n0_ := Aside0.mk (blk_below (g := gb376) (o := .cells #[.slice A0_0 l0_0.length c0_0, .slice A0_1 l0_1.length c0_1] 25 (0, 0)) (bkq BK376.out) hb); have n1_ := Aside0.mk (below_step (hbq HB.out) hb); clear BK376; clear HB; have BK376 := n0_; have HB := n1_; clear n0_ n1_; (try clear hb); (try clear hb2); (try clear hk); (try clear hi)))); go_wp2_with (first | (go_at_call 10; (with_reducible refine (marblerunlaw12_awake.calls k  true _ A4.out).mono ?_); rintro e w7 ⟨rfl, hb⟩; have n0_ := Aside0.mk (blk_below (g := gb376) (o := .cells #[.slice A0_0 l0_0.length c0_0, .slice A0_1 l0_1.length c0_1] 25 (0, 0)) (bkq BK376.out) hb); have n1_ := Aside0.mk (below_step (hbq HB.out) hb); clear BK376; clear HB; have BK376 := n0_; have HB := n1_; clear n0_ n1_; (try clear hb); (try clear hb2); (try clear hk); (try clear hi); have hcz8_0 : w7.cell? ⟨gb376, 0, none⟩ = some (.slice A0_0 l0_0.length c0_0) := (blk_cell BK376.out 0).trans rfl; have hcz8_1 : w7.cell? ⟨gb376, 1, none⟩ = some (.slice A0_1 l0_1.length c0_1) := (blk_cell BK376.out 1).trans rfl; have hfz8_0 := blk_frozen BK376.out 0; have hfz8_1 := blk_frozen BK376.out 1) | (go_at_call 11; (with_reducible refine (marblerunlaw12_few.calls _ _ l0_0 _ _ l0_1 t378 _ ?side1 ?side2 ?side3 ?side4 A6.out).mono ?_); (case side1 => repeat (first | exact (Kd.C_below HR0_0.out HB.out) | (with_reducible refine Kd.C_alloc ?_ _) | (with_reducible refine Kd.C_drewN ?_ _) | (with_reducible refine Kd.C_drew ?_))); (case side2 => exact HC0_0.out); (case side3 => repeat (first | exact (Kd.C_below HR0_1.out HB.out) | (with_reducible refine Kd.C_alloc ?_ _) | (with_reducible refine Kd.C_drewN ?_ _) | (with_reducible refine Kd.C_drew ?_))); (case side4 => exact HC0_1.out); rintro e w9 ⟨rfl, hb⟩; have n0_ := Aside0.mk (blk_below (g := gb376) (o := .cells #[.slice A0_0 l0_0.length c0_0, .slice A0_1 l0_1.length c0_1] 25 (0, 0)) (bkq BK376.out) hb); have n1_ := Aside0.mk (below_step (hbq HB.out) hb); clear BK376; clear HB; have BK376 := n0_; have HB := n1_; clear n0_ n1_; (try clear hb); (try clear hb2); (try clear hk); (try clear hi))))
   go_meet
   case rel => exact ⟨_, (!t378), (by first | rfl | (simp; done) | (simp [*]; done)), H', ⟨by first | omega | exact Nat.le_refl _⟩, ⟨by refine bkq ?_; exact BK376.out⟩, ⟨hbq HB.out⟩⟩
  replace c5 := Bool.eq_false_iff.mpr c5
  subst c5
  have H1 : (marblerunlaw12_BasisMore.j0 k true l0_0 l0_1) = some r := by rw [if_neg (show ¬ (false = true) by decide)] at H; exact H
  clear H
  have H := H1
  clear H1
  have H' := Aside0.mk H
  clear H
  iterate 3 ((try go_quiet (first | (go_at_call 10; (with_reducible refine (marblerunlaw12_awake.calls k  false _ A4.out).mono ?_); rintro e w10 ⟨rfl, hb⟩; have n0_ := Aside0.mk (blk_below (g := gb376) (o := .cells #[.slice A0_0 l0_0.length c0_0, .slice A0_1 l0_1.length c0_1] 25 (0, 0)) (bkq BK376.out) hb); have n1_ := Aside0.mk (below_step (hbq HB.out) hb); clear BK376; clear HB; have BK376 := n0_; have HB := n1_; clear n0_ n1_; (try clear hb); (try clear hb2); (try clear hk); (try clear hi)))); go_wp2_with (first | (go_at_call 10; (with_reducible refine (marblerunlaw12_awake.calls k  false _ A4.out).mono ?_); rintro e w10 ⟨rfl, hb⟩; have n0_ := Aside0.mk (blk_below (g := gb376) (o := .cells #[.slice A0_0 l0_0.length c0_0, .slice A0_1 l0_1.length c0_1] 25 (0, 0)) (bkq BK376.out) hb); have n1_ := Aside0.mk (below_step (hbq HB.out) hb); clear BK376; clear HB; have BK376 := n0_; have HB := n1_; clear n0_ n1_; (try clear hb); (try clear hb2); (try clear hk); (try clear hi))))
  go_meet
  case rel => exact ⟨_, (true), (by first | rfl | (simp; done) | (simp [*]; done)), H', ⟨by first | omega | exact Nat.le_refl _⟩, ⟨by refine bkq ?_; exact BK376.out⟩, ⟨hbq HB.out⟩⟩
 clear HC2
 try clear p2
 try clear c5
 try clear c6
 try clear hcz8_0
 try clear hcz8_1
 try clear hfz8_0
 try clear hfz8_1
 obtain ⟨kq, x15_1, rfl, HA, HJ1, BK376, HB⟩ := hcut
 cases kq with
 | zero => exact absurd HA.out (by simp [marblerunlaw12_BasisMore.j0])
 | succ kj1 =>
  have H := HA.out
  clear HA
  simp only [marblerunlaw12_BasisMore.j0] at H
  by_cases c11 : x15_1 = true
  ·subst c11
   have H1 : ((marblerunlaw12_awake.f kj1).bind fun t379 => (some t379)) = some r := by rw [if_pos rfl] at H; exact H
   clear H
   have H := H1
   clear H1
   replace H := Option.bind_eq_some_iff.mp H
   obtain ⟨t379, A120, H⟩ := H
   replace H : (some t379) = some r := H
   have A12 := Aside0.mk A120
   clear A120
   obtain rfl := Option.some.inj H
   iterate 3 ((try go_quiet (first | (go_at_call 10; (with_reducible refine (marblerunlaw12_awake.calls kj1  t379 _ A12.out).mono ?_); rintro e w13 ⟨rfl, hb⟩; have n0_ := Aside0.mk (blk_below (g := gb376) (o := .cells #[.slice A0_0 l0_0.length c0_0, .slice A0_1 l0_1.length c0_1] 25 (0, 0)) (bkq BK376.out) hb); have n1_ := Aside0.mk (below_step (hbq HB.out) hb); clear BK376; clear HB; have BK376 := n0_; have HB := n1_; clear n0_ n1_; (try clear hb); (try clear hb2); (try clear hk); (try clear hi)))); go_wp2_with (first | (go_at_call 10; (with_reducible refine (marblerunlaw12_awake.calls kj1  t379 _ A12.out).mono ?_); rintro e w13 ⟨rfl, hb⟩; have n0_ := Aside0.mk (blk_below (g := gb376) (o := .cells #[.slice A0_0 l0_0.length c0_0, .slice A0_1 l0_1.length c0_1] 25 (0, 0)) (bkq BK376.out) hb); have n1_ := Aside0.mk (below_step (hbq HB.out) hb); clear BK376; clear HB; have BK376 := n0_; have HB := n1_; clear n0_ n1_; (try clear hb); (try clear hb2); (try clear hk); (try clear hi))))
   go_ret
   exact ⟨by first | rfl | (simp [errW_none, errW_some] <;> rfl) | (simp [*, errW_none, errW_some] <;> rfl), hbq HB.out⟩
  replace c11 := Bool.eq_false_iff.mpr c11
  subst c11
  have H1 : ((marblerunref05_Make.f kj1 l0_0 l0_1).bind fun bt380 => (if bt380.1.length < 5864062014805 then ((some (bt380.1 ++ [(⟨(⟨#[97, 108, 111, 110, 101]⟩ : ByteArray), 0⟩ : S46)] : List (S46))).bind fun y387 => ((basis_Places.f kj1 y387 bt380.2).bind fun bt390 => (if bt390.2 = 0 then (marblerunlaw12_BasisMore.l0 kj1 bt390.1 0 0 y387 bt380.2) else (some true)))) else (none))) = some r := by rw [if_neg (show ¬ (false = true) by decide)] at H; exact H
  clear H
  have H := H1
  clear H1
  replace H := Option.bind_eq_some_iff.mp H
  obtain ⟨⟨t380, t383⟩, A140, H⟩ := H
  replace H : (if t380.length < 5864062014805 then ((some (t380 ++ [(⟨(⟨#[97, 108, 111, 110, 101]⟩ : ByteArray), 0⟩ : S46)] : List (S46))).bind fun y387 => ((basis_Places.f kj1 y387 t383).bind fun bt390 => (if bt390.2 = 0 then (marblerunlaw12_BasisMore.l0 kj1 bt390.1 0 0 y387 t383) else (some true)))) else (none)) = some r := H
  have A14 := Aside0.mk A140
  clear A140
  by_cases c15 : t380.length < 5864062014805
  case neg => rw [if_neg c15] at H; exact absurd H (by simp)
  rw [if_pos c15] at H
  have LMc15 := Aside0.mk c15
  clear c15
  obtain ⟨y387, hy387⟩ : ∃ y_ : List (S46), y_ = (t380 ++ [(⟨(⟨#[97, 108, 111, 110, 101]⟩ : ByteArray), 0⟩ : S46)]) := ⟨_, rfl⟩
  replace H : ((basis_Places.f kj1 y387 t383).bind fun bt390 => (if bt390.2 = 0 then (marblerunlaw12_BasisMore.l0 kj1 bt390.1 0 0 y387 t383) else (some true))) = some r := by first | (rw [hy387]; with_reducible exact H) | (have H2_ := (Option.bind_some _ _).symm.trans H; rw [hy387]; with_reducible exact H2_) | (have H2_ := (Option.bind_some _ _).symm.trans H; with_reducible exact H2_) | with_reducible exact H | (rw [hy387]; exact H) | exact H
  have Ny387 := Aside0.mk hy387
  clear hy387
  replace H := Option.bind_eq_some_iff.mp H
  obtain ⟨⟨t390, t393⟩, A160, H⟩ := H
  replace H : (if t393 = 0 then (marblerunlaw12_BasisMore.l0 kj1 t390 0 0 y387 t383) else (some true)) = some r := H
  have A16 := Aside0.mk A160
  clear A160
  by_cases c17 : t393 = 0
  ·rw [if_pos c17] at H
   have c17b0 : (t393 == 0) = true := beq_iff_eq.mpr c17
   have c17b1 : (t393 != 0) = false := bne_eq_false_iff_eq.mpr c17
   clear c17
   have H' := Aside0.mk H
   clear H
   have hcz18_0 : wc.cell? ⟨gb376, 0, none⟩ = some (.slice A0_0 l0_0.length c0_0) := (blk_cell BK376.out 0).trans rfl
   have hcz18_1 : wc.cell? ⟨gb376, 1, none⟩ = some (.slice A0_1 l0_1.length c0_1) := (blk_cell BK376.out 1).trans rfl
   have hfz18_0 := blk_frozen BK376.out 0
   have hfz18_1 := blk_frozen BK376.out 1
   iterate 3 ((try go_quiet (first | (go_at_call 12; (with_reducible refine (marblerunref05_Make.calls kj1 _ _ l0_0 _ _ l0_1 t380 t383 _ ?side1 ?side2 ?side3 ?side4 A14.out).mono ?_); (case side1 => repeat (first | exact (Kd.C_below HR0_0.out HB.out) | (with_reducible refine Kd.C_alloc ?_ _) | (with_reducible refine Kd.C_drewN ?_ _) | (with_reducible refine Kd.C_drew ?_))); (case side2 => exact HC0_0.out); (case side3 => repeat (first | exact (Kd.C_below HR0_1.out HB.out) | (with_reducible refine Kd.C_alloc ?_ _) | (with_reducible refine Kd.C_drewN ?_ _) | (with_reducible refine Kd.C_drew ?_))); (case side4 => exact HC0_1.out); rintro e w19 ⟨v381, v384, rfl, ho0, ho1, hb⟩; have n0_ := Aside0.mk (Kd.R_lower ho0 (below_size (hbq HB.out))); have n1_ := Aside0.mk (Kd.N_lower (Kd.N_mono (ok' := fun k_ => some k_ ≠ (v381 : Value).ownBlock ∧ k_ ≠ gb376) (Kd.S_N (Kd.S_bound (Kd.S_apart' ho1 (Kd.R_typed ho0) (by decide)))) (fun k_ hk_ => ⟨hk_.1.2, (Kd.freshB (g := gb376) (o := .cells #[.slice A0_0 l0_0.length c0_0, .slice A0_1 l0_1.length c0_1] 25 (0, 0)) (bkq BK376.out) k_ hk_.2.1)⟩)) (below_size (hbq HB.out))); have n2_ := Aside0.mk (blk_below (g := gb376) (o := .cells #[.slice A0_0 l0_0.length c0_0, .slice A0_1 l0_1.length c0_1] 25 (0, 0)) (bkq BK376.out) hb); have n3_ := Aside0.mk (below_step (hbq HB.out) hb); clear BK376; clear HB; have HO382 := n0_; have HO385 := n1_; have BK376 := n2_; have HB := n3_; clear n0_ n1_ n2_ n3_; (try clear hb); (try clear hb2); (try clear hk); (try clear hi); (try clear ho0); (try clear ho1)) | (go_at_call 13; (with_reducible refine (basis_Places.calls kj1 _ _ y387 _ _ t383 t390 t393 _ ?side1 ?side2 ?side3 ?side4 A16.out).mono ?_); (case side1 => refine (Kd.R_reads' (e := 46) (base := w.heap.size) (ok := fun k_ => True) (n := y387.length) (c := co26) ?_).2.2; exact (by refine kq_R ?_; exact (Kd.R_mono (Kd.R_far (p := ⟨gb386, 0, none⟩) (Kd.R_types HO389.out BK386.out (by decide)) (fun _ hk => hk.2) (.slice Ao26 y387.length co26)) (fun _ h_ => h_.1)))); (case side2 => exact (Kd.R_reads' HO389.out).2.1); (case side3 => refine (Kd.N_reads' (e := 54) (base := w.heap.size) (ok := fun k_ => ((k_ ≠ gb376 ∧ k_ ≠ gb386) ∧ some k_ ≠ (.slice Ao26 y387.length co26 : Value).ownBlock)) (n := t383.length) (c := co24) ?_).2.2; exact (by refine kq_N ?_; exact (Kd.N_mono (Kd.N_far (p := ⟨gb386, 0, none⟩) (Kd.N_mono HO385.out (fun k_ hk => (⟨hk, hk.1.2⟩ : _ ∧ k_ ≠ gb386))) (fun _ hk => hk.2) (.slice Ao26 y387.length co26)) (fun _ h_ => h_.1)))); (case side4 => exact (Kd.N_reads' HO385.out).2.1); rintro e w28 ⟨v391, rfl, ho0, hb⟩; have n0_ := Aside0.mk (Kd.N_elder' (by refine kq_N ?_; exact (Kd.N_mono (Kd.N_far (p := ⟨gb386, 0, none⟩) (Kd.N_mono HO385.out (fun k_ hk => (⟨hk, hk.1.2⟩ : _ ∧ k_ ≠ gb386))) (fun _ hk => hk.2) (.slice Ao26 y387.length co26)) (fun _ h_ => h_.1))) (Kd.N_base ho0) hb); have n1_ := Aside0.mk (Kd.R_below (by refine kq_R ?_; exact (Kd.R_mono (Kd.R_far (p := ⟨gb386, 0, none⟩) (Kd.R_types HO389.out BK386.out (by decide)) (fun _ hk => hk.2) (.slice Ao26 y387.length co26)) (fun _ h_ => h_.1))) hb); have n2_ := Aside0.mk (Kd.N_lower (Kd.N_mono (ok' := fun k_ => some k_ ≠ (.slice Ao24 t383.length co24 : Value).ownBlock ∧ some k_ ≠ (.slice Ao26 y387.length co26 : Value).ownBlock ∧ k_ ≠ gb376 ∧ k_ ≠ gb386) ho0 (fun k_ hk_ => ⟨(Kd.fresh' (Kd.N_lt (by refine kq_N ?_; exact (Kd.N_mono (Kd.N_far (p := ⟨gb386, 0, none⟩) (Kd.N_mono HO385.out (fun k_ hk => (⟨hk, hk.1.2⟩ : _ ∧ k_ ≠ gb386))) (fun _ hk => hk.2) (.slice Ao26 y387.length co26)) (fun _ h_ => h_.1)))) k_ hk_), (Kd.fresh' (Kd.R_lt (by refine kq_R ?_; exact (Kd.R_mono (Kd.R_far (p := ⟨gb386, 0, none⟩) (Kd.R_types HO389.out BK386.out (by decide)) (fun _ hk => hk.2) (.slice Ao26 y387.length co26)) (fun _ h_ => h_.1)))) k_ hk_), (Kd.freshB (g := gb376) (o := .cells #[.slice A0_0 l0_0.length c0_0, .slice A0_1 l0_1.length c0_1] 25 (0, 0)) (by refine bkq ?_; refine blk_far ?_ NB376_386.out _; refine bkq ?_; exact BK376.out) k_ hk_), (Kd.freshB (g := gb386) (o := .cells #[.slice Ao26 y387.length co26, .slice Ao24 t383.length co24] 31 (0, 0)) (by refine bkq ?_; refine blk_put (cs := #[.slice Ao21 t380.length co21, .slice Ao24 t383.length co24]) ?_ 0 _ rfl; refine bkq ?_; exact BK386.out) k_ hk_)⟩)) (below_size (hbq HB.out))); have n3_ := Aside0.mk (blk_below (g := gb376) (o := .cells #[.slice A0_0 l0_0.length c0_0, .slice A0_1 l0_1.length c0_1] 25 (0, 0)) (by refine bkq ?_; refine blk_far ?_ NB376_386.out _; refine bkq ?_; exact BK376.out) hb); have n4_ := Aside0.mk (blk_below (g := gb386) (o := .cells #[.slice Ao26 y387.length co26, .slice Ao24 t383.length co24] 31 (0, 0)) (by refine bkq ?_; refine blk_put (cs := #[.slice Ao21 t380.length co21, .slice Ao24 t383.length co24]) ?_ 0 _ rfl; refine bkq ?_; exact BK386.out) hb); have n5_ := Aside0.mk (below_step (hbq HB.out) hb); clear HO385; clear HO389; clear BK376; clear BK386; clear HB; have HO385 := n0_; have HO389 := n1_; have HO392 := n2_; have BK376 := n3_; have BK386 := n4_; have HB := n5_; clear n0_ n1_ n2_ n3_ n4_ n5_; (try clear hb); (try clear hb2); (try clear hk); (try clear hi); (try clear ho0)))); go_wp2_with (first | (go_at_call 12; (with_reducible refine (marblerunref05_Make.calls kj1 _ _ l0_0 _ _ l0_1 t380 t383 _ ?side1 ?side2 ?side3 ?side4 A14.out).mono ?_); (case side1 => repeat (first | exact (Kd.C_below HR0_0.out HB.out) | (with_reducible refine Kd.C_alloc ?_ _) | (with_reducible refine Kd.C_drewN ?_ _) | (with_reducible refine Kd.C_drew ?_))); (case side2 => exact HC0_0.out); (case side3 => repeat (first | exact (Kd.C_below HR0_1.out HB.out) | (with_reducible refine Kd.C_alloc ?_ _) | (with_reducible refine Kd.C_drewN ?_ _) | (with_reducible refine Kd.C_drew ?_))); (case side4 => exact HC0_1.out); rintro e w19 ⟨v381, v384, rfl, ho0, ho1, hb⟩; have n0_ := Aside0.mk (Kd.R_lower ho0 (below_size (hbq HB.out))); have n1_ := Aside0.mk (Kd.N_lower (Kd.N_mono (ok' := fun k_ => some k_ ≠ (v381 : Value).ownBlock ∧ k_ ≠ gb376) (Kd.S_N (Kd.S_bound (Kd.S_apart' ho1 (Kd.R_typed ho0) (by decide)))) (fun k_ hk_ => ⟨hk_.1.2, (Kd.freshB (g := gb376) (o := .cells #[.slice A0_0 l0_0.length c0_0, .slice A0_1 l0_1.length c0_1] 25 (0, 0)) (bkq BK376.out) k_ hk_.2.1)⟩)) (below_size (hbq HB.out))); have n2_ := Aside0.mk (blk_below (g := gb376) (o := .cells #[.slice A0_0 l0_0.length c0_0, .slice A0_1 l0_1.length c0_1] 25 (0, 0)) (bkq BK376.out) hb); have n3_ := Aside0.mk (below_step (hbq HB.out) hb); clear BK376; clear HB; have HO382 := n0_; have HO385 := n1_; have BK376 := n2_; have HB := n3_; clear n0_ n1_ n2_ n3_; (try clear hb); (try clear hb2); (try clear hk); (try clear hi); (try clear ho0); (try clear ho1)) | ((with_reducible refine gate_dst (N := 3) rfl ?_); refine box_event ?hg (N := 3) ?hd (cs := #[.slice none 0 0, .slice none 0 0]) (t := 31) ?hr ?_; (case hd => rfl); (case hg => rfl); (case hr => first | (go_simp; done) | (go_simp; rfl)); intro gb386 hg w20 hbox hb; have n0_ := Aside0.mk (Kd.R_below (kq_R HO382.out) hb); have n1_ := Aside0.mk (Kd.N_below (Kd.N_elderB (kq_N HO385.out) gb386 (Nat.le_of_eq hg.symm)) hb); have n2_ := Aside0.mk (blk_below (g := gb376) (o := .cells #[.slice A0_0 l0_0.length c0_0, .slice A0_1 l0_1.length c0_1] 25 (0, 0)) (bkq BK376.out) hb); have n3_ := Aside0.mk (below_step (hbq HB.out) hb); have n4_ := Aside0.mk (hbox); have n5_ := Aside0.mk ((by rw [hg]; exact (below_size (hbq HB.out)) : w.heap.size ≤ gb386)); have n6_ := Aside0.mk ((by rw [hg]; exact (below_size (hbq HB.out)) : w.heap.size ≤ gb386)); have n7_ := Aside0.mk ((by rw [hg]; exact Nat.ne_of_lt (blk_lt (g := gb376) (o := .cells #[.slice A0_0 l0_0.length c0_0, .slice A0_1 l0_1.length c0_1] 25 (0, 0)) (bkq BK376.out)) : gb376 ≠ gb386)); have n8_ := Aside0.mk ((by rw [hg]; exact Nat.ne_of_gt (blk_lt (g := gb376) (o := .cells #[.slice A0_0 l0_0.length c0_0, .slice A0_1 l0_1.length c0_1] 25 (0, 0)) (bkq BK376.out)) : gb386 ≠ gb376)); clear HO382; clear HO385; clear BK376; clear HB; have HO382 := n0_; have HO385 := n1_; have BK376 := n2_; have HB := n3_; have BK386 := n4_; have GW386 := n5_; have GE386 := n6_; have NB376_386 := n7_; have NB386_376 := n8_; clear n0_ n1_ n2_ n3_ n4_ n5_ n6_ n7_ n8_; clear hb hbox hg; obtain ⟨Ao21, co21, eo21⟩ := Kd.R_slice HO382.out; subst eo21; have hnb22 := NB386_376.out; have hnc22 := NB376_386.out; have hcz23_0 : w20.cell? ⟨gb386, 0, none⟩ = some (.slice none 0 0) := (blk_cell BK386.out 0).trans rfl; have hcz23_1 : w20.cell? ⟨gb386, 1, none⟩ = some (.slice none 0 0) := (blk_cell BK386.out 1).trans rfl; have hfz23_0 := blk_frozen BK386.out 0; have hfz23_1 := blk_frozen BK386.out 1; obtain ⟨Ao24, co24, eo24⟩ := Kd.N_slice HO385.out; subst eo24) | ((with_reducible refine gate_builtin (b := .append) (xs := #[.tmp 20, .tmp 22]) rfl ?_); at_builtin; refine Kd.R_append k46 (w0 := w) w.heap.size rfl (.tmp 20) (.tmp 22) 28 46 (.agg #[(.string ⟨#[]⟩), (.int .i64 0)]) 24 rfl Try.underlying28 info46 rfl (by decide) (by omega) (.slice Ao21 t380.length co21) t380 (⟨(⟨#[97, 108, 111, 110, 101]⟩ : ByteArray), 0⟩ : S46) [.string (⟨#[97, 108, 111, 110, 101]⟩ : ByteArray), .int .i64 0] (fun _ => True) (fun _ => False) rfl (by first | (go_simp; done) | (go_simp; rfl)) ?aP (fun _ hk => hk.elim) ?aF ?aO ?aB ?aS ?aL ?_; (case aP => exact k46_mkM _ _ _ (⟨(⟨#[97, 108, 111, 110, 101]⟩ : ByteArray), 0⟩ : S46)); (case aB => exact (hbq HB.out)); (case aF => exact (fun _ _ => trivial)); (case aO => exact (by refine kq_R ?_; exact Kd.R_mono (Kd.R_far (p := ⟨gb386, 1, none⟩) (Kd.R_far (p := ⟨gb386, 0, none⟩) (Kd.R_types HO382.out BK386.out (by decide)) (fun _ hk => hk.2) (.slice Ao21 t380.length co21)) (fun _ hk => hk.2) (.slice Ao24 t383.length co24)) (fun _ hk => trivial))); (case aS => exact (below_size (hbq HB.out))); (case aL => have := LMc15.out; omega); intro v388 w25 ho hb hg hat; rw [← Ny387.out] at ho; have n0_ := Aside0.mk (blk_grown (g := gb376) (o := .cells #[.slice A0_0 l0_0.length c0_0, .slice A0_1 l0_1.length c0_1] 25 (0, 0)) (by refine bkq ?_; refine blk_far ?_ NB376_386.out _; refine bkq ?_; refine blk_far ?_ NB376_386.out _; refine bkq ?_; exact BK376.out) hg (Kd.R_ne HO382.out BK376.out (by decide))); have n1_ := Aside0.mk (Kd.N_afterv (ok := (fun k_ => k_ ≠ gb376 ∧ k_ ≠ gb386)) (by refine kq_N ?_; exact Kd.N_mono (Kd.N_far (p := ⟨gb386, 1, none⟩) (Kd.N_far (p := ⟨gb386, 0, none⟩) (Kd.N_mono HO385.out (fun k_ hk => (⟨hk, hk.2⟩ : _ ∧ k_ ≠ gb386))) (fun _ hk => hk.2) (.slice Ao21 t380.length co21)) (fun _ hk => hk.2) (.slice Ao24 t383.length co24)) (fun _ hk => ⟨⟨hk.1.1.2, hk.1.2⟩, hk.1.1.1⟩)) hg hat); have n2_ := Aside0.mk (blk_grown (g := gb386) (o := .cells #[.slice Ao21 t380.length co21, .slice Ao24 t383.length co24] 31 (0, 0)) (by refine bkq ?_; refine blk_put (cs := #[.slice Ao21 t380.length co21, .slice none 0 0]) ?_ 1 _ rfl; refine bkq ?_; refine blk_put (cs := #[.slice none 0 0, .slice none 0 0]) ?_ 0 _ rfl; refine bkq ?_; exact BK386.out) hg (Kd.R_ne HO382.out BK386.out (by decide))); have n3_ := Aside0.mk (hb); have n4_ := Aside0.mk (ho); clear BK376; clear HO385; clear BK386; clear HB; clear HO382; have BK376 := n0_; have HO385 := n1_; have BK386 := n2_; have HB := n3_; have HO389 := n4_; clear n0_ n1_ n2_ n3_ n4_; clear ho hb hg hat; obtain ⟨Ao26, co26, eo26⟩ := Kd.R_slice HO389.out; subst eo26; have hcz27_0 : w25.cell? ⟨gb386, 0, none⟩ = some (.slice Ao21 t380.length co21) := (blk_cell BK386.out 0).trans rfl; have hcz27_1 : w25.cell? ⟨gb386, 1, none⟩ = some (.slice Ao24 t383.length co24) := (blk_cell BK386.out 1).trans rfl; have hfz27_0 := blk_frozen BK386.out 0; have hfz27_1 := blk_frozen BK386.out 1) | (go_at_call 13; (with_reducible refine (basis_Places.calls kj1 _ _ y387 _ _ t383 t390 t393 _ ?side1 ?side2 ?side3 ?side4 A16.out).mono ?_); (case side1 => refine (Kd.R_reads' (e := 46) (base := w.heap.size) (ok := fun k_ => True) (n := y387.length) (c := co26) ?_).2.2; exact (by refine kq_R ?_; exact (Kd.R_mono (Kd.R_far (p := ⟨gb386, 0, none⟩) (Kd.R_types HO389.out BK386.out (by decide)) (fun _ hk => hk.2) (.slice Ao26 y387.length co26)) (fun _ h_ => h_.1)))); (case side2 => exact (Kd.R_reads' HO389.out).2.1); (case side3 => refine (Kd.N_reads' (e := 54) (base := w.heap.size) (ok := fun k_ => ((k_ ≠ gb376 ∧ k_ ≠ gb386) ∧ some k_ ≠ (.slice Ao26 y387.length co26 : Value).ownBlock)) (n := t383.length) (c := co24) ?_).2.2; exact (by refine kq_N ?_; exact (Kd.N_mono (Kd.N_far (p := ⟨gb386, 0, none⟩) (Kd.N_mono HO385.out (fun k_ hk => (⟨hk, hk.1.2⟩ : _ ∧ k_ ≠ gb386))) (fun _ hk => hk.2) (.slice Ao26 y387.length co26)) (fun _ h_ => h_.1)))); (case side4 => exact (Kd.N_reads' HO385.out).2.1); rintro e w28 ⟨v391, rfl, ho0, hb⟩; have n0_ := Aside0.mk (Kd.N_elder' (by refine kq_N ?_; exact (Kd.N_mono (Kd.N_far (p := ⟨gb386, 0, none⟩) (Kd.N_mono HO385.out (fun k_ hk => (⟨hk, hk.1.2⟩ : _ ∧ k_ ≠ gb386))) (fun _ hk => hk.2) (.slice Ao26 y387.length co26)) (fun _ h_ => h_.1))) (Kd.N_base ho0) hb); have n1_ := Aside0.mk (Kd.R_below (by refine kq_R ?_; exact (Kd.R_mono (Kd.R_far (p := ⟨gb386, 0, none⟩) (Kd.R_types HO389.out BK386.out (by decide)) (fun _ hk => hk.2) (.slice Ao26 y387.length co26)) (fun _ h_ => h_.1))) hb); have n2_ := Aside0.mk (Kd.N_lower (Kd.N_mono (ok' := fun k_ => some k_ ≠ (.slice Ao24 t383.length co24 : Value).ownBlock ∧ some k_ ≠ (.slice Ao26 y387.length co26 : Value).ownBlock ∧ k_ ≠ gb376 ∧ k_ ≠ gb386) ho0 (fun k_ hk_ => ⟨(Kd.fresh' (Kd.N_lt (by refine kq_N ?_; exact (Kd.N_mono (Kd.N_far (p := ⟨gb386, 0, none⟩) (Kd.N_mono HO385.out (fun k_ hk => (⟨hk, hk.1.2⟩ : _ ∧ k_ ≠ gb386))) (fun _ hk => hk.2) (.slice Ao26 y387.length co26)) (fun _ h_ => h_.1)))) k_ hk_), (Kd.fresh' (Kd.R_lt (by refine kq_R ?_; exact (Kd.R_mono (Kd.R_far (p := ⟨gb386, 0, none⟩) (Kd.R_types HO389.out BK386.out (by decide)) (fun _ hk => hk.2) (.slice Ao26 y387.length co26)) (fun _ h_ => h_.1)))) k_ hk_), (Kd.freshB (g := gb376) (o := .cells #[.slice A0_0 l0_0.length c0_0, .slice A0_1 l0_1.length c0_1] 25 (0, 0)) (by refine bkq ?_; refine blk_far ?_ NB376_386.out _; refine bkq ?_; exact BK376.out) k_ hk_), (Kd.freshB (g := gb386) (o := .cells #[.slice Ao26 y387.length co26, .slice Ao24 t383.length co24] 31 (0, 0)) (by refine bkq ?_; refine blk_put (cs := #[.slice Ao21 t380.length co21, .slice Ao24 t383.length co24]) ?_ 0 _ rfl; refine bkq ?_; exact BK386.out) k_ hk_)⟩)) (below_size (hbq HB.out))); have n3_ := Aside0.mk (blk_below (g := gb376) (o := .cells #[.slice A0_0 l0_0.length c0_0, .slice A0_1 l0_1.length c0_1] 25 (0, 0)) (by refine bkq ?_; refine blk_far ?_ NB376_386.out _; refine bkq ?_; exact BK376.out) hb); have n4_ := Aside0.mk (blk_below (g := gb386) (o := .cells #[.slice Ao26 y387.length co26, .slice Ao24 t383.length co24] 31 (0, 0)) (by refine bkq ?_; refine blk_put (cs := #[.slice Ao21 t380.length co21, .slice Ao24 t383.length co24]) ?_ 0 _ rfl; refine bkq ?_; exact BK386.out) hb); have n5_ := Aside0.mk (below_step (hbq HB.out) hb); clear HO385; clear HO389; clear BK376; clear BK386; clear HB; have HO385 := n0_; have HO389 := n1_; have HO392 := n2_; have BK376 := n3_; have BK386 := n4_; have HB := n5_; clear n0_ n1_ n2_ n3_ n4_ n5_; (try clear hb); (try clear hb2); (try clear hk); (try clear hi); (try clear ho0))))
   go_loopg [6, 7] kj1 (fun kq v6 v7 w' => ∃ (x6_2 : Int) (x7_2 : Int), v6 = .int .i64 x6_2 ∧ v7 = .int .i64 x7_2 ∧ Aside0 (marblerunlaw12_BasisMore.l0 kq t390 x6_2 x7_2 y387 t383 = some r) ∧ Aside0 (kq ≤ kj1) ∧ Aside0 (Kd.N (Kd.slice 3 (Kd.int .i64)) 37 w' w.heap.size (fun k_ => some k_ ≠ ((.slice Ao26 y387.length co26) : Value).ownBlock ∧ some k_ ≠ ((.slice Ao24 t383.length co24) : Value).ownBlock ∧ k_ ≠ gb376 ∧ k_ ≠ gb386) v391 t390) ∧ Aside0 (Kd.R k46 46 w' w.heap.size (fun _ => True) (.slice Ao26 y387.length co26) y387) ∧ Aside0 (Kd.N k54 54 w' w.heap.size (fun k_ => some k_ ≠ (v391 : Value).ownBlock ∧ some k_ ≠ ((.slice Ao26 y387.length co26) : Value).ownBlock ∧ k_ ≠ gb376 ∧ k_ ≠ gb386) (.slice Ao24 t383.length co24) t383) ∧ Aside0 (w'.heap[gb376]? = some (.cells #[(.slice A0_0 l0_0.length c0_0), (.slice A0_1 l0_1.length c0_1)] 25 (0, 0))) ∧ Aside0 (w'.heap[gb386]? = some (.cells #[(.slice Ao26 y387.length co26), (.slice Ao24 t383.length co24)] 31 (0, 0))) ∧ Aside0 (Below w.heap.size w w'))
   case atStart => exact ⟨(0), (0), (by first | rfl | (simp; done) | (simp [*]; done)), (by first | rfl | (simp; done) | (simp [*]; done)), H', ⟨Nat.le_refl _⟩, ⟨by refine kq_N ?_; exact Kd.N_mono HO392.out (fun _ hk => ⟨hk.2.1, ⟨hk.1, ⟨hk.2.2.1, hk.2.2.2⟩⟩⟩)⟩, ⟨by refine kq_R ?_; exact HO389.out⟩, ⟨by refine kq_N ?_; exact Kd.N_mono HO385.out (fun _ hk => ⟨hk.2, ⟨hk.1.2, ⟨hk.1.1.1, hk.1.1.2⟩⟩⟩)⟩, ⟨by refine bkq ?_; exact BK376.out⟩, ⟨by refine bkq ?_; exact BK386.out⟩, ⟨hbq HB.out⟩⟩
   clear H'
   try clear c1
   try clear c2
   try clear p2
   try clear c5
   try clear c6
   try clear c11
   try clear c15
   try clear c17
   try clear c17b0
   try clear c17b1
   try clear c22
   try clear hcz18_0
   try clear hcz18_1
   try clear hcz23_0
   try clear hcz23_1
   try clear hcz27_0
   try clear hcz27_1
   try clear hcz8_0
   try clear hcz8_1
   try clear hfz18_0
   try clear hfz18_1
   try clear hfz23_0
   try clear hfz23_1
   try clear hfz27_0
   try clear hfz27_1
   try clear hfz8_0
   try clear hfz8_1
   try clear p2
   obtain ⟨x6_2, x7_2, rfl, rfl, HA, HK2, HO_4, HO_387000, HO_387001, BK376, BK386, HB⟩ := hrel
   cases gk with
   | zero => exact absurd HA.out (by simp [marblerunlaw12_BasisMore.l0])
   | succ k2 =>
    have H := HA.out
    clear HA
    simp only [marblerunlaw12_BasisMore.l0] at H
    by_cases c29 : x7_2 < (t390.length : Int)
    ·rw [if_pos c29] at H
     have c29b0 : decide (x7_2 < (t390.length : Int)) = true := decide_eq_true c29
     clear c29
     by_cases c30 : 0 ≤ x7_2
     case neg => rw [if_neg c30] at H; exact absurd H (by simp)
     rw [if_pos c30] at H
     have c30b0 : decide (0 ≤ x7_2) = true := decide_eq_true c30
     clear c30
     obtain ⟨ji31, hji31⟩ : ∃ j_ : Int, (wrap64 ((y387.length : Int) - 1)) = j_ := ⟨_, rfl⟩
     replace H : (if 0 ≤ (ji31) then (if (ji31) < ((rd_L1 t390 x7_2).length : Int) then (if (rd (rd_L1 t390 x7_2) (ji31)) = 0 then (marblerunlaw12_BasisMore.l0 k2 t390 x6_2 (wrap64 (x7_2 + 1)) y387 t383) else (marblerunlaw12_BasisMore.l1 k2 t390 (wrap64 (x6_2 + 1)) x7_2 0 y387 t383)) else (none)) else (none)) = some r := by first | (rw [hji31] at H; exact H) | (simp only [hji31] at H ⊢; exact H)
     have hji31w : (IntKind.i64.wrap ((y387.length : Int) - 1)) = ji31 := (i64_w _).trans hji31
     by_cases c32 : 0 ≤ (ji31)
     case neg => rw [if_neg c32] at H; exact absurd H (by simp)
     rw [if_pos c32] at H
     have c32b0 : decide (0 ≤ (ji31)) = true := decide_eq_true c32
     clear c32
     by_cases c33 : (ji31) < ((rd_L1 t390 x7_2).length : Int)
     case neg => rw [if_neg c33] at H; exact absurd H (by simp)
     rw [if_pos c33] at H
     have c33b0 : decide ((ji31) < ((rd_L1 t390 x7_2).length : Int)) = true := decide_eq_true c33
     clear c33
     by_cases c34 : (rd (rd_L1 t390 x7_2) (ji31)) = 0
     ·rw [if_pos c34] at H
      have c34b0 : ((rd (rd_L1 t390 x7_2) (ji31)) == 0) = true := beq_iff_eq.mpr c34
      have c34b1 : ((rd (rd_L1 t390 x7_2) (ji31)) != 0) = false := bne_eq_false_iff_eq.mpr c34
      clear c34
      have H' := Aside0.mk H
      clear H
      obtain ⟨Ao35, co35, eo35⟩ := Kd.N_slice HO_4.out
      subst eo35
      have p394 : 0 ≤ (x7_2 : Int) := of_decide_eq_true (by first | (with_reducible assumption) | assumption)
      have q394 : x7_2 < (t390.length : Int) := of_decide_eq_true (by first | (with_reducible assumption) | assumption)
      obtain ⟨ad394, A394_0, c394_0, e394, hx394_0, hl394_0, hi394_0⟩ := at_L1 (Kd.N_reads' HO_4.out).2.2 x7_2 p394 q394
      cases e394
      obtain ⟨ce394, hce394, hMe394, hcc394⟩ := Kd.N_get HO_4.out [] x7_2 p394 (by first | exact q394 | exact of_decide_eq_true (by first | (with_reducible assumption) | assumption) | (have e_ := (Kd.N_reads' HO_4.out).1; omega))
      obtain ⟨ua394_0, uc394_0, rfl, ul394_0, ge394_0⟩ := Kd.FK_slice_open hMe394
      have hv394_0 := hcc394 0 _ rfl
      rw [Nat.add_zero, show ((Kd.slice 3 (Kd.int .i64))).sz = 1 from rfl, Nat.mul_one] at hv394_0
      replace hv394_0 := Option.some.inj (hv394_0.symm.trans hx394_0)
      injection hv394_0 with hva_ hvn_ hvc_
      rw [hva_] at ge394_0
      rw [hvc_] at ul394_0
      have HL394_0 := Aside0.mk (show Kd.V (Kd.int .i64) 3 _ w.heap.size _ _ (rd_L1 t390 x7_2) from Kd.V_mk ul394_0 ge394_0)
      clear hva_ hvn_ hvc_ ge394_0 ul394_0
      clear hcc394 hce394
      have HR394_0 := Aside0.mk hi394_0
      have HC394_0 := Aside0.mk hl394_0
      clear hi394_0 hl394_0
      replace p394 := eq_true p394
      replace q394 := eq_true q394
      have hnb36 := NB386_376.out
      have hnc36 := NB376_386.out
      have hcz37_0 : wr.cell? ⟨gb386, 0, none⟩ = some (.slice Ao26 y387.length co26) := (blk_cell BK386.out 0).trans rfl
      have hcz37_1 : wr.cell? ⟨gb386, 1, none⟩ = some (.slice Ao24 t383.length co24) := (blk_cell BK386.out 1).trans rfl
      have hfz37_0 := blk_frozen BK386.out 0
      have hfz37_1 := blk_frozen BK386.out 1
      have p395 : 0 ≤ ((ji31) : Int) := of_decide_eq_true (by first | (with_reducible assumption) | assumption)
      have q395 : (ji31) < ((rd_L1 t390 x7_2).length : Int) := of_decide_eq_true (by first | (with_reducible assumption) | assumption)
      obtain ⟨ad395, e395, hx395_0⟩ := Kd.at_int (by repeat (first | (with_reducible exact HR394_0.out) | (with_reducible refine Kd.C_alloc ?_ _) | (with_reducible refine Kd.C_drewN ?_ _) | (with_reducible refine Kd.C_drew ?_) | exact HR394_0.out)) (ji31) p395 q395
      cases e395
      replace p395 := eq_true p395
      replace q395 := eq_true q395
      go_wp2
      repeat (go_quiet (fail); try go_wp2)
      (try simp only [← hji31])
      (try simp only [← hji31] at H')
      go_roundg k2
      case measure => have := HJ1.out; have := HK2.out; omega
      case rel => exact ⟨(x6_2), (wrap64 (x7_2 + 1)), (by first | rfl | (simp; done) | (simp [*]; done)), (by first | rfl | (simp; done) | (simp [*]; done)), H', ⟨by have := HJ1.out; have := HK2.out; omega⟩, ⟨by refine kq_N ?_; exact HO_4.out⟩, ⟨by refine kq_R ?_; exact HO_387000.out⟩, ⟨by refine kq_N ?_; exact HO_387001.out⟩, ⟨by refine bkq ?_; exact BK376.out⟩, ⟨by refine bkq ?_; exact BK386.out⟩, ⟨hbq HB.out⟩⟩
     rw [if_neg c34] at H
     have c34b0 : ((rd (rd_L1 t390 x7_2) (ji31)) == 0) = false := beq_eq_false_iff_ne.mpr c34
     have c34b1 : ((rd (rd_L1 t390 x7_2) (ji31)) != 0) = true := bne_iff_ne.mpr c34
     have H' := Aside0.mk H
     clear H
     obtain ⟨Ao38, co38, eo38⟩ := Kd.N_slice HO_4.out
     subst eo38
     have p394 : 0 ≤ (x7_2 : Int) := of_decide_eq_true (by first | (with_reducible assumption) | assumption)
     have q394 : x7_2 < (t390.length : Int) := of_decide_eq_true (by first | (with_reducible assumption) | assumption)
     obtain ⟨ad394, A394_0, c394_0, e394, hx394_0, hl394_0, hi394_0⟩ := at_L1 (Kd.N_reads' HO_4.out).2.2 x7_2 p394 q394
     cases e394
     obtain ⟨ce394, hce394, hMe394, hcc394⟩ := Kd.N_get HO_4.out [] x7_2 p394 (by first | exact q394 | exact of_decide_eq_true (by first | (with_reducible assumption) | assumption) | (have e_ := (Kd.N_reads' HO_4.out).1; omega))
     obtain ⟨ua394_0, uc394_0, rfl, ul394_0, ge394_0⟩ := Kd.FK_slice_open hMe394
     have hv394_0 := hcc394 0 _ rfl
     rw [Nat.add_zero, show ((Kd.slice 3 (Kd.int .i64))).sz = 1 from rfl, Nat.mul_one] at hv394_0
     replace hv394_0 := Option.some.inj (hv394_0.symm.trans hx394_0)
     injection hv394_0 with hva_ hvn_ hvc_
     rw [hva_] at ge394_0
     rw [hvc_] at ul394_0
     have HL394_0 := Aside0.mk (show Kd.V (Kd.int .i64) 3 _ w.heap.size _ _ (rd_L1 t390 x7_2) from Kd.V_mk ul394_0 ge394_0)
     clear hva_ hvn_ hvc_ ge394_0 ul394_0
     clear hcc394 hce394
     have HR394_0 := Aside0.mk hi394_0
     have HC394_0 := Aside0.mk hl394_0
     clear hi394_0 hl394_0
     replace p394 := eq_true p394
     replace q394 := eq_true q394
     have hnb39 := NB386_376.out
     have hnc39 := NB376_386.out
     have hcz40_0 : wr.cell? ⟨gb386, 0, none⟩ = some (.slice Ao26 y387.length co26) := (blk_cell BK386.out 0).trans rfl
     have hcz40_1 : wr.cell? ⟨gb386, 1, none⟩ = some (.slice Ao24 t383.length co24) := (blk_cell BK386.out 1).trans rfl
     have hfz40_0 := blk_frozen BK386.out 0
     have hfz40_1 := blk_frozen BK386.out 1
     have p395 : 0 ≤ ((ji31) : Int) := of_decide_eq_true (by first | (with_reducible assumption) | assumption)
     have q395 : (ji31) < ((rd_L1 t390 x7_2).length : Int) := of_decide_eq_true (by first | (with_reducible assumption) | assumption)
     obtain ⟨ad395, e395, hx395_0⟩ := Kd.at_int (by repeat (first | (with_reducible exact HR394_0.out) | (with_reducible refine Kd.C_alloc ?_ _) | (with_reducible refine Kd.C_drewN ?_ _) | (with_reducible refine Kd.C_drew ?_) | exact HR394_0.out)) (ji31) p395 q395
     cases e395
     replace p395 := eq_true p395
     replace q395 := eq_true q395
     go_wp2
     repeat (go_quiet (fail); try go_wp2)
     go_loopg [8] k2 (fun kq v8 w' => ∃ (x8_3 : Int), v8 = .int .i64 x8_3 ∧ Aside0 (marblerunlaw12_BasisMore.l1 kq t390 (wrap64 (x6_2 + 1)) x7_2 x8_3 y387 t383 = some r) ∧ Aside0 (kq ≤ k2) ∧ Aside0 (Kd.N (Kd.slice 3 (Kd.int .i64)) 37 w' w.heap.size (fun k_ => some k_ ≠ ((.slice Ao26 y387.length co26) : Value).ownBlock ∧ some k_ ≠ ((.slice Ao24 t383.length co24) : Value).ownBlock ∧ k_ ≠ gb376 ∧ k_ ≠ gb386) (.slice (some ad394) t390.length co38) t390) ∧ Aside0 (Kd.R k46 46 w' w.heap.size (fun _ => True) (.slice Ao26 y387.length co26) y387) ∧ Aside0 (Kd.N k54 54 w' w.heap.size (fun k_ => some k_ ≠ ((.slice (some ad394) t390.length co38) : Value).ownBlock ∧ some k_ ≠ ((.slice Ao26 y387.length co26) : Value).ownBlock ∧ k_ ≠ gb376 ∧ k_ ≠ gb386) (.slice Ao24 t383.length co24) t383) ∧ Aside0 (w'.heap[gb376]? = some (.cells #[(.slice A0_0 l0_0.length c0_0), (.slice A0_1 l0_1.length c0_1)] 25 (0, 0))) ∧ Aside0 (w'.heap[gb386]? = some (.cells #[(.slice Ao26 y387.length co26), (.slice Ao24 t383.length co24)] 31 (0, 0))) ∧ Aside0 (Kd.C (Kd.int .i64) w' (some ad395) (rd_L1 t390 x7_2).length (rd_L1 t390 x7_2)) ∧ Aside0 (Below w.heap.size w w'))
     case atStart => exact ⟨(0), (by first | rfl | (simp; done) | (simp [*]; done)), H', ⟨Nat.le_refl _⟩, ⟨by refine kq_N ?_; exact HO_4.out⟩, ⟨by refine kq_R ?_; exact HO_387000.out⟩, ⟨by refine kq_N ?_; exact HO_387001.out⟩, ⟨by refine bkq ?_; exact BK376.out⟩, ⟨by refine bkq ?_; exact BK386.out⟩, ⟨by repeat (first | (with_reducible exact HR394_0.out) | (with_reducible refine Kd.C_alloc ?_ _) | (with_reducible refine Kd.C_drewN ?_ _) | (with_reducible refine Kd.C_drew ?_) | exact HR394_0.out)⟩, ⟨hbq HB.out⟩⟩
     clear H'
     try clear c1
     try clear c2
     try clear p2
     try clear c3
     try clear p3
     try clear q3
     try clear hx3
     try clear c5
     try clear c6
     try clear p6
     try clear c11
     try clear c15
     try clear c17
     try clear c17b0
     try clear c17b1
     try clear c22
     try clear c29
     try clear c29b0
     try clear c30
     try clear c30b0
     try clear c32
     try clear c32b0
     try clear c33
     try clear c33b0
     try clear c34
     try clear c34b0
     try clear c34b1
     try clear c36
     try clear c39
     try clear p39
     try clear q39
     try clear hx39
     try clear hcz18_0
     try clear hcz18_1
     try clear hcz23_0
     try clear hcz23_1
     try clear hcz27_0
     try clear hcz27_1
     try clear hcz37_0
     try clear hcz37_1
     try clear hcz40_0
     try clear hcz40_1
     try clear hcz8_0
     try clear hcz8_1
     try clear hfz18_0
     try clear hfz18_1
     try clear hfz23_0
     try clear hfz23_1
     try clear hfz27_0
     try clear hfz27_1
     try clear hfz37_0
     try clear hfz37_1
     try clear hfz40_0
     try clear hfz40_1
     try clear hfz8_0
     try clear hfz8_1
     try clear hx394_0
     try clear hx395_0
     try clear p2
     try clear p394
     try clear p395
     try clear q394
     try clear q395
     obtain ⟨x8_3, rfl, HA, HK3, HO_4, HO_387000, HO_387001, BK376, BK386, HR394_0, HB⟩ := hrel
     cases gk with
     | zero => exact absurd HA.out (by simp [marblerunlaw12_BasisMore.l1])
     | succ k3 =>
      have H := HA.out
      clear HA
      simp only [marblerunlaw12_BasisMore.l1] at H
      by_cases c41 : (wrap64 (x8_3 + 1)) < (y387.length : Int)
      ·rw [if_pos c41] at H
       have c41b0 : decide ((wrap64 (x8_3 + 1)) < (y387.length : Int)) = true := decide_eq_true c41
       clear c41
       by_cases c42 : 0 ≤ x7_2
       case neg => rw [if_neg c42] at H; exact absurd H (by simp)
       rw [if_pos c42] at H
       have c42b0 : decide (0 ≤ x7_2) = true := decide_eq_true c42
       clear c42
       by_cases c43 : x7_2 < (t390.length : Int)
       case neg => rw [if_neg c43] at H; exact absurd H (by simp)
       rw [if_pos c43] at H
       have c43b0 : decide (x7_2 < (t390.length : Int)) = true := decide_eq_true c43
       clear c43
       by_cases c44 : 0 ≤ x8_3
       case neg => rw [if_neg c44] at H; exact absurd H (by simp)
       rw [if_pos c44] at H
       have c44b0 : decide (0 ≤ x8_3) = true := decide_eq_true c44
       clear c44
       by_cases c45 : x8_3 < ((rd_L1 t390 x7_2).length : Int)
       case neg => rw [if_neg c45] at H; exact absurd H (by simp)
       rw [if_pos c45] at H
       have c45b0 : decide (x8_3 < ((rd_L1 t390 x7_2).length : Int)) = true := decide_eq_true c45
       clear c45
       by_cases c46 : (rd (rd_L1 t390 x7_2) x8_3) = 0
       ·rw [if_pos c46] at H
        have c46b0 : ((rd (rd_L1 t390 x7_2) x8_3) == 0) = true := beq_iff_eq.mpr c46
        have c46b1 : ((rd (rd_L1 t390 x7_2) x8_3) != 0) = false := bne_eq_false_iff_eq.mpr c46
        clear c46
        have H' := Aside0.mk H
        clear H
        have hnb47 := NB386_376.out
        have hnc47 := NB376_386.out
        have hcz48_0 : wr.cell? ⟨gb386, 0, none⟩ = some (.slice Ao26 y387.length co26) := (blk_cell BK386.out 0).trans rfl
        have hcz48_1 : wr.cell? ⟨gb386, 1, none⟩ = some (.slice Ao24 t383.length co24) := (blk_cell BK386.out 1).trans rfl
        have hfz48_0 := blk_frozen BK386.out 0
        have hfz48_1 := blk_frozen BK386.out 1
        have p396 : 0 ≤ (x7_2 : Int) := of_decide_eq_true (by first | (with_reducible assumption) | assumption)
        have q396 : x7_2 < (t390.length : Int) := of_decide_eq_true (by first | (with_reducible assumption) | assumption)
        obtain ⟨ad396, A396_0, c396_0, e396, hx396_0, hl396_0, hi396_0⟩ := at_L1 (Kd.N_reads' HO_4.out).2.2 x7_2 p396 q396
        obtain rfl : ad394 = ad396 := (by injection e396)
        obtain ⟨ce396, hce396, hMe396, hcc396⟩ := Kd.N_get HO_4.out [] x7_2 p396 (by first | exact q396 | exact of_decide_eq_true (by first | (with_reducible assumption) | assumption) | (have e_ := (Kd.N_reads' HO_4.out).1; omega))
        obtain ⟨ua396_0, uc396_0, rfl, ul396_0, ge396_0⟩ := Kd.FK_slice_open hMe396
        have hv396_0 := hcc396 0 _ rfl
        rw [Nat.add_zero, show ((Kd.slice 3 (Kd.int .i64))).sz = 1 from rfl, Nat.mul_one] at hv396_0
        replace hv396_0 := Option.some.inj (hv396_0.symm.trans hx396_0)
        injection hv396_0 with hva_ hvn_ hvc_
        rw [hva_] at ge396_0
        rw [hvc_] at ul396_0
        have HL396_0 := Aside0.mk (show Kd.V (Kd.int .i64) 3 _ w.heap.size _ _ (rd_L1 t390 x7_2) from Kd.V_mk ul396_0 ge396_0)
        clear hva_ hvn_ hvc_ ge396_0 ul396_0
        clear hcc396 hce396
        have HR396_0 := Aside0.mk hi396_0
        have HC396_0 := Aside0.mk hl396_0
        clear hi396_0 hl396_0
        replace p396 := eq_true p396
        replace q396 := eq_true q396
        have p397 : 0 ≤ (x8_3 : Int) := of_decide_eq_true (by first | (with_reducible assumption) | assumption)
        have q397 : x8_3 < ((rd_L1 t390 x7_2).length : Int) := of_decide_eq_true (by first | (with_reducible assumption) | assumption)
        obtain ⟨ad397, e397, hx397_0⟩ := Kd.at_int (by repeat (first | (with_reducible exact HR396_0.out) | (with_reducible refine Kd.C_alloc ?_ _) | (with_reducible refine Kd.C_drewN ?_ _) | (with_reducible refine Kd.C_drew ?_) | exact HR396_0.out)) x8_3 p397 q397
        cases e397
        replace p397 := eq_true p397
        replace q397 := eq_true q397
        go_wp2
        repeat (go_quiet (fail); try go_wp2)
        go_roundg k3
        case measure => have := HJ1.out; have := HK2.out; have := HK3.out; omega
        case rel => exact ⟨(wrap64 (x8_3 + 1)), (by first | rfl | (simp; done) | (simp [*]; done)), H', ⟨by have := HJ1.out; have := HK2.out; have := HK3.out; omega⟩, ⟨by refine kq_N ?_; exact HO_4.out⟩, ⟨by refine kq_R ?_; exact HO_387000.out⟩, ⟨by refine kq_N ?_; exact HO_387001.out⟩, ⟨by refine bkq ?_; exact BK376.out⟩, ⟨by refine bkq ?_; exact BK386.out⟩, ⟨by repeat (first | (with_reducible exact HR394_0.out) | (with_reducible refine Kd.C_alloc ?_ _) | (with_reducible refine Kd.C_drewN ?_ _) | (with_reducible refine Kd.C_drew ?_) | exact HR394_0.out)⟩, ⟨hbq HB.out⟩⟩
       rw [if_neg c46] at H
       have c46b0 : ((rd (rd_L1 t390 x7_2) x8_3) == 0) = false := beq_eq_false_iff_ne.mpr c46
       have c46b1 : ((rd (rd_L1 t390 x7_2) x8_3) != 0) = true := bne_iff_ne.mpr c46
       obtain rfl := Option.some.inj H
       have hnb49 := NB386_376.out
       have hnc49 := NB376_386.out
       have hcz50_0 : wr.cell? ⟨gb386, 0, none⟩ = some (.slice Ao26 y387.length co26) := (blk_cell BK386.out 0).trans rfl
       have hcz50_1 : wr.cell? ⟨gb386, 1, none⟩ = some (.slice Ao24 t383.length co24) := (blk_cell BK386.out 1).trans rfl
       have hfz50_0 := blk_frozen BK386.out 0
       have hfz50_1 := blk_frozen BK386.out 1
       have p396 : 0 ≤ (x7_2 : Int) := of_decide_eq_true (by first | (with_reducible assumption) | assumption)
       have q396 : x7_2 < (t390.length : Int) := of_decide_eq_true (by first | (with_reducible assumption) | assumption)
       obtain ⟨ad396, A396_0, c396_0, e396, hx396_0, hl396_0, hi396_0⟩ := at_L1 (Kd.N_reads' HO_4.out).2.2 x7_2 p396 q396
       obtain rfl : ad394 = ad396 := (by injection e396)
       obtain ⟨ce396, hce396, hMe396, hcc396⟩ := Kd.N_get HO_4.out [] x7_2 p396 (by first | exact q396 | exact of_decide_eq_true (by first | (with_reducible assumption) | assumption) | (have e_ := (Kd.N_reads' HO_4.out).1; omega))
       obtain ⟨ua396_0, uc396_0, rfl, ul396_0, ge396_0⟩ := Kd.FK_slice_open hMe396
       have hv396_0 := hcc396 0 _ rfl
       rw [Nat.add_zero, show ((Kd.slice 3 (Kd.int .i64))).sz = 1 from rfl, Nat.mul_one] at hv396_0
       replace hv396_0 := Option.some.inj (hv396_0.symm.trans hx396_0)
       injection hv396_0 with hva_ hvn_ hvc_
       rw [hva_] at ge396_0
       rw [hvc_] at ul396_0
       have HL396_0 := Aside0.mk (show Kd.V (Kd.int .i64) 3 _ w.heap.size _ _ (rd_L1 t390 x7_2) from Kd.V_mk ul396_0 ge396_0)
       clear hva_ hvn_ hvc_ ge396_0 ul396_0
       clear hcc396 hce396
       have HR396_0 := Aside0.mk hi396_0
       have HC396_0 := Aside0.mk hl396_0
       clear hi396_0 hl396_0
       replace p396 := eq_true p396
       replace q396 := eq_true q396
       have p397 : 0 ≤ (x8_3 : Int) := of_decide_eq_true (by first | (with_reducible assumption) | assumption)
       have q397 : x8_3 < ((rd_L1 t390 x7_2).length : Int) := of_decide_eq_true (by first | (with_reducible assumption) | assumption)
       obtain ⟨ad397, e397, hx397_0⟩ := Kd.at_int (by repeat (first | (with_reducible exact HR396_0.out) | (with_reducible refine Kd.C_alloc ?_ _) | (with_reducible refine Kd.C_drewN ?_ _) | (with_reducible refine Kd.C_drew ?_) | exact HR396_0.out)) x8_3 p397 q397
       cases e397
       replace p397 := eq_true p397
       replace q397 := eq_true q397
       go_wp2
       repeat (go_quiet (fail); try go_wp2)
       go_ret
       exact ⟨by first | rfl | (simp [errW_none, errW_some] <;> rfl) | (simp only [← hji31]; first | rfl | (simp [errW_none, errW_some] <;> rfl)) | (simp [*, errW_none, errW_some] <;> rfl), hbq HB.out⟩
      rw [if_neg c41] at H
      have c41b0 : decide ((wrap64 (x8_3 + 1)) < (y387.length : Int)) = false := decide_eq_false c41
      clear c41
      have H' := Aside0.mk H
      clear H
      have hnb51 := NB386_376.out
      have hnc51 := NB376_386.out
      have hcz52_0 : wr.cell? ⟨gb386, 0, none⟩ = some (.slice Ao26 y387.length co26) := (blk_cell BK386.out 0).trans rfl
      have hcz52_1 : wr.cell? ⟨gb386, 1, none⟩ = some (.slice Ao24 t383.length co24) := (blk_cell BK386.out 1).trans rfl
      have hfz52_0 := blk_frozen BK386.out 0
      have hfz52_1 := blk_frozen BK386.out 1
      go_wp2
      repeat (go_quiet (fail); try go_wp2)
      (try simp only [← hji31])
      (try simp only [← hji31] at H')
      go_roundg k3
      case measure => have := HJ1.out; have := HK2.out; have := HK3.out; omega
      case rel => exact ⟨((wrap64 (x6_2 + 1))), (wrap64 (x7_2 + 1)), (by first | rfl | (simp; done) | (simp [*]; done)), (by first | rfl | (simp; done) | (simp [*]; done)), H', ⟨by have := HJ1.out; have := HK2.out; have := HK3.out; omega⟩, ⟨by refine kq_N ?_; exact HO_4.out⟩, ⟨by refine kq_R ?_; exact HO_387000.out⟩, ⟨by refine kq_N ?_; exact HO_387001.out⟩, ⟨by refine bkq ?_; exact BK376.out⟩, ⟨by refine bkq ?_; exact BK386.out⟩, ⟨hbq HB.out⟩⟩
    rw [if_neg c29] at H
    have c29b0 : decide (x7_2 < (t390.length : Int)) = false := decide_eq_false c29
    clear c29
    obtain rfl := Option.some.inj H
    obtain ⟨Ao53, co53, eo53⟩ := Kd.N_slice HO_4.out
    subst eo53
    go_wp2
    repeat (go_quiet (fail); try go_wp2)
    go_ret
    exact ⟨by first | rfl | (simp [errW_none, errW_some] <;> rfl) | (simp [*, errW_none, errW_some] <;> rfl), hbq HB.out⟩
  rw [if_neg c17] at H
  have c17b0 : (t393 == 0) = false := beq_eq_false_iff_ne.mpr c17
  have c17b1 : (t393 != 0) = true := bne_iff_ne.mpr c17
  obtain rfl := Option.some.inj H
  have hcz54_0 : wc.cell? ⟨gb376, 0, none⟩ = some (.slice A0_0 l0_0.length c0_0) := (blk_cell BK376.out 0).trans rfl
  have hcz54_1 : wc.cell? ⟨gb376, 1, none⟩ = some (.slice A0_1 l0_1.length c0_1) := (blk_cell BK376.out 1).trans rfl
  have hfz54_0 := blk_frozen BK376.out 0
  have hfz54_1 := blk_frozen BK376.out 1
  iterate 3 ((try go_quiet (first | (go_at_call 12; (with_reducible refine (marblerunref05_Make.calls kj1 _ _ l0_0 _ _ l0_1 t380 t383 _ ?side1 ?side2 ?side3 ?side4 A14.out).mono ?_); (case side1 => repeat (first | exact (Kd.C_below HR0_0.out HB.out) | (with_reducible refine Kd.C_alloc ?_ _) | (with_reducible refine Kd.C_drewN ?_ _) | (with_reducible refine Kd.C_drew ?_))); (case side2 => exact HC0_0.out); (case side3 => repeat (first | exact (Kd.C_below HR0_1.out HB.out) | (with_reducible refine Kd.C_alloc ?_ _) | (with_reducible refine Kd.C_drewN ?_ _) | (with_reducible refine Kd.C_drew ?_))); (case side4 => exact HC0_1.out); rintro e w55 ⟨v381, v384, rfl, ho0, ho1, hb⟩; have n0_ := Aside0.mk (Kd.R_lower ho0 (below_size (hbq HB.out))); have n1_ := Aside0.mk (Kd.N_lower (Kd.N_mono (ok' := fun k_ => some k_ ≠ (v381 : Value).ownBlock ∧ k_ ≠ gb376) (Kd.S_N (Kd.S_bound (Kd.S_apart' ho1 (Kd.R_typed ho0) (by decide)))) (fun k_ hk_ => ⟨hk_.1.2, (Kd.freshB (g := gb376) (o := .cells #[.slice A0_0 l0_0.length c0_0, .slice A0_1 l0_1.length c0_1] 25 (0, 0)) (bkq BK376.out) k_ hk_.2.1)⟩)) (below_size (hbq HB.out))); have n2_ := Aside0.mk (blk_below (g := gb376) (o := .cells #[.slice A0_0 l0_0.length c0_0, .slice A0_1 l0_1.length c0_1] 25 (0, 0)) (bkq BK376.out) hb); have n3_ := Aside0.mk (below_step (hbq HB.out) hb); clear BK376; clear HB; have HO382 := n0_; have HO385 := n1_; have BK376 := n2_; have HB := n3_; clear n0_ n1_ n2_ n3_; (try clear hb); (try clear hb2); (try clear hk); (try clear hi); (try clear ho0); (try clear ho1)) | (go_at_call 13; (with_reducible refine (basis_Places.calls kj1 _ _ y387 _ _ t383 t390 t393 _ ?side1 ?side2 ?side3 ?side4 A16.out).mono ?_); (case side1 => refine (Kd.R_reads' (e := 46) (base := w.heap.size) (ok := fun k_ => True) (n := y387.length) (c := co62) ?_).2.2; exact (by refine kq_R ?_; exact (Kd.R_mono (Kd.R_far (p := ⟨gb386, 0, none⟩) (Kd.R_types HO389.out BK386.out (by decide)) (fun _ hk => hk.2) (.slice Ao62 y387.length co62)) (fun _ h_ => h_.1)))); (case side2 => exact (Kd.R_reads' HO389.out).2.1); (case side3 => refine (Kd.N_reads' (e := 54) (base := w.heap.size) (ok := fun k_ => ((k_ ≠ gb376 ∧ k_ ≠ gb386) ∧ some k_ ≠ (.slice Ao62 y387.length co62 : Value).ownBlock)) (n := t383.length) (c := co60) ?_).2.2; exact (by refine kq_N ?_; exact (Kd.N_mono (Kd.N_far (p := ⟨gb386, 0, none⟩) (Kd.N_mono HO385.out (fun k_ hk => (⟨hk, hk.1.2⟩ : _ ∧ k_ ≠ gb386))) (fun _ hk => hk.2) (.slice Ao62 y387.length co62)) (fun _ h_ => h_.1)))); (case side4 => exact (Kd.N_reads' HO385.out).2.1); rintro e w64 ⟨v391, rfl, ho0, hb⟩; have n0_ := Aside0.mk (Kd.N_elder' (by refine kq_N ?_; exact (Kd.N_mono (Kd.N_far (p := ⟨gb386, 0, none⟩) (Kd.N_mono HO385.out (fun k_ hk => (⟨hk, hk.1.2⟩ : _ ∧ k_ ≠ gb386))) (fun _ hk => hk.2) (.slice Ao62 y387.length co62)) (fun _ h_ => h_.1))) (Kd.N_base ho0) hb); have n1_ := Aside0.mk (Kd.R_below (by refine kq_R ?_; exact (Kd.R_mono (Kd.R_far (p := ⟨gb386, 0, none⟩) (Kd.R_types HO389.out BK386.out (by decide)) (fun _ hk => hk.2) (.slice Ao62 y387.length co62)) (fun _ h_ => h_.1))) hb); have n2_ := Aside0.mk (Kd.N_lower (Kd.N_mono (ok' := fun k_ => some k_ ≠ (.slice Ao60 t383.length co60 : Value).ownBlock ∧ some k_ ≠ (.slice Ao62 y387.length co62 : Value).ownBlock ∧ k_ ≠ gb376 ∧ k_ ≠ gb386) ho0 (fun k_ hk_ => ⟨(Kd.fresh' (Kd.N_lt (by refine kq_N ?_; exact (Kd.N_mono (Kd.N_far (p := ⟨gb386, 0, none⟩) (Kd.N_mono HO385.out (fun k_ hk => (⟨hk, hk.1.2⟩ : _ ∧ k_ ≠ gb386))) (fun _ hk => hk.2) (.slice Ao62 y387.length co62)) (fun _ h_ => h_.1)))) k_ hk_), (Kd.fresh' (Kd.R_lt (by refine kq_R ?_; exact (Kd.R_mono (Kd.R_far (p := ⟨gb386, 0, none⟩) (Kd.R_types HO389.out BK386.out (by decide)) (fun _ hk => hk.2) (.slice Ao62 y387.length co62)) (fun _ h_ => h_.1)))) k_ hk_), (Kd.freshB (g := gb376) (o := .cells #[.slice A0_0 l0_0.length c0_0, .slice A0_1 l0_1.length c0_1] 25 (0, 0)) (by refine bkq ?_; refine blk_far ?_ NB376_386.out _; refine bkq ?_; exact BK376.out) k_ hk_), (Kd.freshB (g := gb386) (o := .cells #[.slice Ao62 y387.length co62, .slice Ao60 t383.length co60] 31 (0, 0)) (by refine bkq ?_; refine blk_put (cs := #[.slice Ao57 t380.length co57, .slice Ao60 t383.length co60]) ?_ 0 _ rfl; refine bkq ?_; exact BK386.out) k_ hk_)⟩)) (below_size (hbq HB.out))); have n3_ := Aside0.mk (blk_below (g := gb376) (o := .cells #[.slice A0_0 l0_0.length c0_0, .slice A0_1 l0_1.length c0_1] 25 (0, 0)) (by refine bkq ?_; refine blk_far ?_ NB376_386.out _; refine bkq ?_; exact BK376.out) hb); have n4_ := Aside0.mk (blk_below (g := gb386) (o := .cells #[.slice Ao62 y387.length co62, .slice Ao60 t383.length co60] 31 (0, 0)) (by refine bkq ?_; refine blk_put (cs := #[.slice Ao57 t380.length co57, .slice Ao60 t383.length co60]) ?_ 0 _ rfl; refine bkq ?_; exact BK386.out) hb); have n5_ := Aside0.mk (below_step (hbq HB.out) hb); clear HO385; clear HO389; clear BK376; clear BK386; clear HB; have HO385 := n0_; have HO389 := n1_; have HO392 := n2_; have BK376 := n3_; have BK386 := n4_; have HB := n5_; clear n0_ n1_ n2_ n3_ n4_ n5_; (try clear hb); (try clear hb2); (try clear hk); (try clear hi); (try clear ho0)))); go_wp2_with (first | (go_at_call 12; (with_reducible refine (marblerunref05_Make.calls kj1 _ _ l0_0 _ _ l0_1 t380 t383 _ ?side1 ?side2 ?side3 ?side4 A14.out).mono ?_); (case side1 => repeat (first | exact (Kd.C_below HR0_0.out HB.out) | (with_reducible refine Kd.C_alloc ?_ _) | (with_reducible refine Kd.C_drewN ?_ _) | (with_reducible refine Kd.C_drew ?_))); (case side2 => exact HC0_0.out); (case side3 => repeat (first | exact (Kd.C_below HR0_1.out HB.out) | (with_reducible refine Kd.C_alloc ?_ _) | (with_reducible refine Kd.C_drewN ?_ _) | (with_reducible refine Kd.C_drew ?_))); (case side4 => exact HC0_1.out); rintro e w55 ⟨v381, v384, rfl, ho0, ho1, hb⟩; have n0_ := Aside0.mk (Kd.R_lower ho0 (below_size (hbq HB.out))); have n1_ := Aside0.mk (Kd.N_lower (Kd.N_mono (ok' := fun k_ => some k_ ≠ (v381 : Value).ownBlock ∧ k_ ≠ gb376) (Kd.S_N (Kd.S_bound (Kd.S_apart' ho1 (Kd.R_typed ho0) (by decide)))) (fun k_ hk_ => ⟨hk_.1.2, (Kd.freshB (g := gb376) (o := .cells #[.slice A0_0 l0_0.length c0_0, .slice A0_1 l0_1.length c0_1] 25 (0, 0)) (bkq BK376.out) k_ hk_.2.1)⟩)) (below_size (hbq HB.out))); have n2_ := Aside0.mk (blk_below (g := gb376) (o := .cells #[.slice A0_0 l0_0.length c0_0, .slice A0_1 l0_1.length c0_1] 25 (0, 0)) (bkq BK376.out) hb); have n3_ := Aside0.mk (below_step (hbq HB.out) hb); clear BK376; clear HB; have HO382 := n0_; have HO385 := n1_; have BK376 := n2_; have HB := n3_; clear n0_ n1_ n2_ n3_; (try clear hb); (try clear hb2); (try clear hk); (try clear hi); (try clear ho0); (try clear ho1)) | ((with_reducible refine gate_dst (N := 3) rfl ?_); refine box_event ?hg (N := 3) ?hd (cs := #[.slice none 0 0, .slice none 0 0]) (t := 31) ?hr ?_; (case hd => rfl); (case hg => rfl); (case hr => first | (go_simp; done) | (go_simp; rfl)); intro gb386 hg w56 hbox hb; have n0_ := Aside0.mk (Kd.R_below (kq_R HO382.out) hb); have n1_ := Aside0.mk (Kd.N_below (Kd.N_elderB (kq_N HO385.out) gb386 (Nat.le_of_eq hg.symm)) hb); have n2_ := Aside0.mk (blk_below (g := gb376) (o := .cells #[.slice A0_0 l0_0.length c0_0, .slice A0_1 l0_1.length c0_1] 25 (0, 0)) (bkq BK376.out) hb); have n3_ := Aside0.mk (below_step (hbq HB.out) hb); have n4_ := Aside0.mk (hbox); have n5_ := Aside0.mk ((by rw [hg]; exact (below_size (hbq HB.out)) : w.heap.size ≤ gb386)); have n6_ := Aside0.mk ((by rw [hg]; exact (below_size (hbq HB.out)) : w.heap.size ≤ gb386)); have n7_ := Aside0.mk ((by rw [hg]; exact Nat.ne_of_lt (blk_lt (g := gb376) (o := .cells #[.slice A0_0 l0_0.length c0_0, .slice A0_1 l0_1.length c0_1] 25 (0, 0)) (bkq BK376.out)) : gb376 ≠ gb386)); have n8_ := Aside0.mk ((by rw [hg]; exact Nat.ne_of_gt (blk_lt (g := gb376) (o := .cells #[.slice A0_0 l0_0.length c0_0, .slice A0_1 l0_1.length c0_1] 25 (0, 0)) (bkq BK376.out)) : gb386 ≠ gb376)); clear HO382; clear HO385; clear BK376; clear HB; have HO382 := n0_; have HO385 := n1_; have BK376 := n2_; have HB := n3_; have BK386 := n4_; have GW386 := n5_; have GE386 := n6_; have NB376_386 := n7_; have NB386_376 := n8_; clear n0_ n1_ n2_ n3_ n4_ n5_ n6_ n7_ n8_; clear hb hbox hg; obtain ⟨Ao57, co57, eo57⟩ := Kd.R_slice HO382.out; subst eo57; have hnb58 := NB386_376.out; have hnc58 := NB376_386.out; have hcz59_0 : w56.cell? ⟨gb386, 0, none⟩ = some (.slice none 0 0) := (blk_cell BK386.out 0).trans rfl; have hcz59_1 : w56.cell? ⟨gb386, 1, none⟩ = some (.slice none 0 0) := (blk_cell BK386.out 1).trans rfl; have hfz59_0 := blk_frozen BK386.out 0; have hfz59_1 := blk_frozen BK386.out 1; obtain ⟨Ao60, co60, eo60⟩ := Kd.N_slice HO385.out; subst eo60) | ((with_reducible refine gate_builtin (b := .append) (xs := #[.tmp 20, .tmp 22]) rfl ?_); at_builtin; refine Kd.R_append k46 (w0 := w) w.heap.size rfl (.tmp 20) (.tmp 22) 28 46 (.agg #[(.string ⟨#[]⟩), (.int .i64 0)]) 24 rfl Try.underlying28 info46 rfl (by decide) (by omega) (.slice Ao57 t380.length co57) t380 (⟨(⟨#[97, 108, 111, 110, 101]⟩ : ByteArray), 0⟩ : S46) [.string (⟨#[97, 108, 111, 110, 101]⟩ : ByteArray), .int .i64 0] (fun _ => True) (fun _ => False) rfl (by first | (go_simp; done) | (go_simp; rfl)) ?aP (fun _ hk => hk.elim) ?aF ?aO ?aB ?aS ?aL ?_; (case aP => exact k46_mkM _ _ _ (⟨(⟨#[97, 108, 111, 110, 101]⟩ : ByteArray), 0⟩ : S46)); (case aB => exact (hbq HB.out)); (case aF => exact (fun _ _ => trivial)); (case aO => exact (by refine kq_R ?_; exact Kd.R_mono (Kd.R_far (p := ⟨gb386, 1, none⟩) (Kd.R_far (p := ⟨gb386, 0, none⟩) (Kd.R_types HO382.out BK386.out (by decide)) (fun _ hk => hk.2) (.slice Ao57 t380.length co57)) (fun _ hk => hk.2) (.slice Ao60 t383.length co60)) (fun _ hk => trivial))); (case aS => exact (below_size (hbq HB.out))); (case aL => have := LMc15.out; omega); intro v388 w61 ho hb hg hat; rw [← Ny387.out] at ho; have n0_ := Aside0.mk (blk_grown (g := gb376) (o := .cells #[.slice A0_0 l0_0.length c0_0, .slice A0_1 l0_1.length c0_1] 25 (0, 0)) (by refine bkq ?_; refine blk_far ?_ NB376_386.out _; refine bkq ?_; refine blk_far ?_ NB376_386.out _; refine bkq ?_; exact BK376.out) hg (Kd.R_ne HO382.out BK376.out (by decide))); have n1_ := Aside0.mk (Kd.N_afterv (ok := (fun k_ => k_ ≠ gb376 ∧ k_ ≠ gb386)) (by refine kq_N ?_; exact Kd.N_mono (Kd.N_far (p := ⟨gb386, 1, none⟩) (Kd.N_far (p := ⟨gb386, 0, none⟩) (Kd.N_mono HO385.out (fun k_ hk => (⟨hk, hk.2⟩ : _ ∧ k_ ≠ gb386))) (fun _ hk => hk.2) (.slice Ao57 t380.length co57)) (fun _ hk => hk.2) (.slice Ao60 t383.length co60)) (fun _ hk => ⟨⟨hk.1.1.2, hk.1.2⟩, hk.1.1.1⟩)) hg hat); have n2_ := Aside0.mk (blk_grown (g := gb386) (o := .cells #[.slice Ao57 t380.length co57, .slice Ao60 t383.length co60] 31 (0, 0)) (by refine bkq ?_; refine blk_put (cs := #[.slice Ao57 t380.length co57, .slice none 0 0]) ?_ 1 _ rfl; refine bkq ?_; refine blk_put (cs := #[.slice none 0 0, .slice none 0 0]) ?_ 0 _ rfl; refine bkq ?_; exact BK386.out) hg (Kd.R_ne HO382.out BK386.out (by decide))); have n3_ := Aside0.mk (hb); have n4_ := Aside0.mk (ho); clear BK376; clear HO385; clear BK386; clear HB; clear HO382; have BK376 := n0_; have HO385 := n1_; have BK386 := n2_; have HB := n3_; have HO389 := n4_; clear n0_ n1_ n2_ n3_ n4_; clear ho hb hg hat; obtain ⟨Ao62, co62, eo62⟩ := Kd.R_slice HO389.out; subst eo62; have hcz63_0 : w61.cell? ⟨gb386, 0, none⟩ = some (.slice Ao57 t380.length co57) := (blk_cell BK386.out 0).trans rfl; have hcz63_1 : w61.cell? ⟨gb386, 1, none⟩ = some (.slice Ao60 t383.length co60) := (blk_cell BK386.out 1).trans rfl; have hfz63_0 := blk_frozen BK386.out 0; have hfz63_1 := blk_frozen BK386.out 1) | (go_at_call 13; (with_reducible refine (basis_Places.calls kj1 _ _ y387 _ _ t383 t390 t393 _ ?side1 ?side2 ?side3 ?side4 A16.out).mono ?_); (case side1 => refine (Kd.R_reads' (e := 46) (base := w.heap.size) (ok := fun k_ => True) (n := y387.length) (c := co62) ?_).2.2; exact (by refine kq_R ?_; exact (Kd.R_mono (Kd.R_far (p := ⟨gb386, 0, none⟩) (Kd.R_types HO389.out BK386.out (by decide)) (fun _ hk => hk.2) (.slice Ao62 y387.length co62)) (fun _ h_ => h_.1)))); (case side2 => exact (Kd.R_reads' HO389.out).2.1); (case side3 => refine (Kd.N_reads' (e := 54) (base := w.heap.size) (ok := fun k_ => ((k_ ≠ gb376 ∧ k_ ≠ gb386) ∧ some k_ ≠ (.slice Ao62 y387.length co62 : Value).ownBlock)) (n := t383.length) (c := co60) ?_).2.2; exact (by refine kq_N ?_; exact (Kd.N_mono (Kd.N_far (p := ⟨gb386, 0, none⟩) (Kd.N_mono HO385.out (fun k_ hk => (⟨hk, hk.1.2⟩ : _ ∧ k_ ≠ gb386))) (fun _ hk => hk.2) (.slice Ao62 y387.length co62)) (fun _ h_ => h_.1)))); (case side4 => exact (Kd.N_reads' HO385.out).2.1); rintro e w64 ⟨v391, rfl, ho0, hb⟩; have n0_ := Aside0.mk (Kd.N_elder' (by refine kq_N ?_; exact (Kd.N_mono (Kd.N_far (p := ⟨gb386, 0, none⟩) (Kd.N_mono HO385.out (fun k_ hk => (⟨hk, hk.1.2⟩ : _ ∧ k_ ≠ gb386))) (fun _ hk => hk.2) (.slice Ao62 y387.length co62)) (fun _ h_ => h_.1))) (Kd.N_base ho0) hb); have n1_ := Aside0.mk (Kd.R_below (by refine kq_R ?_; exact (Kd.R_mono (Kd.R_far (p := ⟨gb386, 0, none⟩) (Kd.R_types HO389.out BK386.out (by decide)) (fun _ hk => hk.2) (.slice Ao62 y387.length co62)) (fun _ h_ => h_.1))) hb); have n2_ := Aside0.mk (Kd.N_lower (Kd.N_mono (ok' := fun k_ => some k_ ≠ (.slice Ao60 t383.length co60 : Value).ownBlock ∧ some k_ ≠ (.slice Ao62 y387.length co62 : Value).ownBlock ∧ k_ ≠ gb376 ∧ k_ ≠ gb386) ho0 (fun k_ hk_ => ⟨(Kd.fresh' (Kd.N_lt (by refine kq_N ?_; exact (Kd.N_mono (Kd.N_far (p := ⟨gb386, 0, none⟩) (Kd.N_mono HO385.out (fun k_ hk => (⟨hk, hk.1.2⟩ : _ ∧ k_ ≠ gb386))) (fun _ hk => hk.2) (.slice Ao62 y387.length co62)) (fun _ h_ => h_.1)))) k_ hk_), (Kd.fresh' (Kd.R_lt (by refine kq_R ?_; exact (Kd.R_mono (Kd.R_far (p := ⟨gb386, 0, none⟩) (Kd.R_types HO389.out BK386.out (by decide)) (fun _ hk => hk.2) (.slice Ao62 y387.length co62)) (fun _ h_ => h_.1)))) k_ hk_), (Kd.freshB (g := gb376) (o := .cells #[.slice A0_0 l0_0.length c0_0, .slice A0_1 l0_1.length c0_1] 25 (0, 0)) (by refine bkq ?_; refine blk_far ?_ NB376_386.out _; refine bkq ?_; exact BK376.out) k_ hk_), (Kd.freshB (g := gb386) (o := .cells #[.slice Ao62 y387.length co62, .slice Ao60 t383.length co60] 31 (0, 0)) (by refine bkq ?_; refine blk_put (cs := #[.slice Ao57 t380.length co57, .slice Ao60 t383.length co60]) ?_ 0 _ rfl; refine bkq ?_; exact BK386.out) k_ hk_)⟩)) (below_size (hbq HB.out))); have n3_ := Aside0.mk (blk_below (g := gb376) (o := .cells #[.slice A0_0 l0_0.length c0_0, .slice A0_1 l0_1.length c0_1] 25 (0, 0)) (by refine bkq ?_; refine blk_far ?_ NB376_386.out _; refine bkq ?_; exact BK376.out) hb); have n4_ := Aside0.mk (blk_below (g := gb386) (o := .cells #[.slice Ao62 y387.length co62, .slice Ao60 t383.length co60] 31 (0, 0)) (by refine bkq ?_; refine blk_put (cs := #[.slice Ao57 t380.length co57, .slice Ao60 t383.length co60]) ?_ 0 _ rfl; refine bkq ?_; exact BK386.out) hb); have n5_ := Aside0.mk (below_step (hbq HB.out) hb); clear HO385; clear HO389; clear BK376; clear BK386; clear HB; have HO385 := n0_; have HO389 := n1_; have HO392 := n2_; have BK376 := n3_; have BK386 := n4_; have HB := n5_; clear n0_ n1_ n2_ n3_ n4_ n5_; (try clear hb); (try clear hb2); (try clear hk); (try clear hi); (try clear ho0))))
  go_ret
  exact ⟨by first | rfl | (simp [errW_none, errW_some] <;> rfl) | (simp [*, errW_none, errW_some] <;> rfl), hbq HB.out⟩

end Go.Proofs.Ytifbflpaednfnaa.PBasisMore
