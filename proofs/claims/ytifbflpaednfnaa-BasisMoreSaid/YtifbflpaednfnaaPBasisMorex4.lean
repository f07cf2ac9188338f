/- What the functions that this law reaches answer, in whatever memory, and the row of the law; no condition. Written by a program of this session (mk.sh). -/
import Derived.Test.YtifbflpaednfnaaPBasisMorex0
import Derived.Test.YtifbflpaednfnaaPBasisMorex1
import Derived.Test.YtifbflpaednfnaaPBasisMorex2
import Derived.Test.YtifbflpaednfnaaPBasisMorex3
namespace Go.Proofs.Ytifbflpaednfnaa.PBasisMore
open Go.RowKit Go.Proofs.YtifbflpaednfnaaW.PrintWords Go.Proofs.YtifbflpaednfnaaW.PrintLast Go.Proofs.YtifbflpaednfnaaW.PrintMore
attribute [local go_sem] max2_int min2_int max_two min_two max_three min_three max_four min_four   -- for this text's walks alone
set_option linter.unusedVariables false
set_option linter.unusedSimpArgs false

/-! ### basis_join: function 34 -/
def basis_join.j0 : Nat → List Int → List Int → Bool → Option (List Int × List Int × Bool)
 | 0, _, _, _ => none
 | k + 1, x11, x13, x68 => if x68 = true then (some (([] : List Int), ([] : List Int), false)) else ((slices_Clone_int_int.f x11).bind fun t154 => (if t154.length + x13.length < 17592186044416 then ((whole_Norm.f k (t154 ++ x13)).bind fun t160 => (if 0 ≤ (x11.length : Int) then (if (x11.length : Int) ≤ (t160.length : Int) then (some ((t160.take ((x11.length : Int) : Int).toNat), (t160.drop ((x11.length : Int) : Int).toNat), true)) else (none)) else (none))) else (none)))
def basis_join.f (k : Nat) (l0_0 : List Int) (l0_1 : List Int) (l1_0 : List Int) (l1_1 : List Int) (a2 : Int) : Option (List Int × List Int × Bool) := if 0 ≤ a2 then (if a2 < (l0_1.length : Int) then (if a2 < (l1_1.length : Int) then ((whole_Gcd.f k (rd l0_1 a2) (rd l1_1 a2)).bind fun t141 => ((basis_abs.f (rd l1_1 a2)).bind fun t143 => (if t141 = 0 then (none) else ((basis_abs.f (rd l0_1 a2)).bind fun t145 => ((whole_Mix.f k (wrap64 (Int.tdiv t143 t141)) l0_0 (wrap64 (Int.tdiv t145 t141)) l1_0).bind fun bt146 => ((whole_Mix.f k (wrap64 (Int.tdiv t143 t141)) l0_1 (wrap64 (Int.tdiv t145 t141)) l1_1).bind fun bt150 => (if bt146.2 = true then (basis_join.j0 k bt146.1 bt150.1 (!bt150.2)) else (basis_join.j0 k bt146.1 bt150.1 true)))))))) else (none)) else (none)) else (none)
theorem basis_join.mono_l : ∀ k, (∀ y0 y1 y2, LeO (basis_join.j0 k y0 y1 y2) (basis_join.j0 (k + 1) y0 y1 y2))
 | 0 => fun _ _ _ r h => by simp [basis_join.j0] at h
 | k + 1 => by
  have ih0 := basis_join.mono_l k
  ·intro y0 y1 y2
   unfold basis_join.j0
   repeat' first
   | (with_reducible exact ih0 _ _ _)
   | (with_reducible exact whole_Gcd.mono _ _ _)
   | (with_reducible exact whole_Mix.mono _ _ _ _ _)
   | (with_reducible exact whole_Norm.mono _ _)
   | (with_reducible exact LeO.refl _)
   | (with_reducible exact LeO.none _)
   | (with_reducible refine LeO.ite ?_ ?_)
   | (with_reducible refine LeO.bind ?_ (fun _ => ?_))
   | exact ih0 _ _ _
   | exact whole_Gcd.mono _ _ _
   | exact whole_Mix.mono _ _ _ _ _
   | exact whole_Norm.mono _ _
   | exact LeO.none _
   | refine LeO.ite ?_ ?_
   | refine LeO.bind ?_ (fun _ => ?_)
theorem basis_join.mono : ∀ a0 a1 a2 a3 a4 k, LeO (basis_join.f k a0 a1 a2 a3 a4) (basis_join.f (k + 1) a0 a1 a2 a3 a4) := by
 intro a0 a1 a2 a3 a4 k
 have ih0 := basis_join.mono_l k
 unfold basis_join.f
 repeat' first
  | (with_reducible exact ih0 _ _ _)
  | (with_reducible exact whole_Gcd.mono _ _ _)
  | (with_reducible exact whole_Mix.mono _ _ _ _ _)
  | (with_reducible exact whole_Norm.mono _ _)
  | (with_reducible exact LeO.refl _)
  | (with_reducible exact LeO.none _)
  | (with_reducible refine LeO.ite ?_ ?_)
  | (with_reducible refine LeO.bind ?_ (fun _ => ?_))
  | exact ih0 _ _ _
  | exact whole_Gcd.mono _ _ _
  | exact whole_Mix.mono _ _ _ _ _
  | exact whole_Norm.mono _ _
  | exact LeO.none _
  | refine LeO.ite ?_ ?_
  | refine LeO.bind ?_ (fun _ => ?_)
def basis_join.T1 : Bool × List (List Nat × List Nat) := (true, [([], []), ([0], [0]), ([], []), ([1, 2], [1, 2]), ([3], [3]), ([], []), ([5], [5]), ([], []), ([6, 7], [6, 7]), ([8], [8]), ([4, 9], [4, 9]), ([10, 10, 0, 1, 2, 3, 4, 5, 6, 7, 8, 9, 10], [10])])
def basis_join.B1 : List Nat := [0, 1, 0, 7, 15, 0, 32, 0, 224, 480, 1023, 2047]
theorem basis_join.tab1 : rtab .any (opsOf Try.f34 1) = basis_join.T1 := by kernel_rfl
theorem basis_join.bits1 : waitsOk basis_join.T1.2 basis_join.B1 = true := by kernel_rfl
def basis_join.T2 : Bool × List (List Nat × List Nat) := (true, [([], []), ([0], [0]), ([], []), ([1, 2], [1, 2]), ([3], [3]), ([4], [4]), ([], []), ([5, 6], [5, 6]), ([], []), ([8], [8]), ([], []), ([9, 10], [9, 10]), ([11], [11]), ([12, 5], [12]), ([], []), ([13, 14], [13, 14]), ([7, 13, 0, 1, 2, 3, 4, 5, 6, 7], [7]), ([15, 16, 0, 1, 2, 3, 4, 5, 6, 7, 8, 9, 10, 11, 12, 13, 14, 15, 16], [15])])
def basis_join.B2 : List Nat := [0, 1, 0, 7, 15, 31, 0, 127, 0, 256, 0, 1792, 3840, 7999, 0, 32575, 16383, 131071]
theorem basis_join.tab2 : rtab .any (opsOf Try.f34 2) = basis_join.T2 := by kernel_rfl
theorem basis_join.bits2 : waitsOk basis_join.T2.2 basis_join.B2 = true := by kernel_rfl
def basis_join.T8 : Bool × List (List Nat × List Nat) := (true, [([], []), ([], []), ([1], [1]), ([0, 2], [0, 2]), ([], []), ([], []), ([5], [5]), ([4, 6], [4, 6]), ([3, 7], [3, 7]), ([8, 0, 1, 2, 3, 4, 5, 6, 7, 8], [8]), ([9, 0, 1, 2, 3, 4, 5, 6, 7, 8, 9], [])])
def basis_join.B8 : List Nat := [0, 0, 2, 7, 0, 0, 32, 112, 255, 511, 1023]
theorem basis_join.tab8 : rtab .any (opsOf Try.f34 8) = basis_join.T8 := by kernel_rfl
theorem basis_join.bits8 : waitsOk basis_join.T8.2 basis_join.B8 = true := by kernel_rfl
set_option maxHeartbeats 8000000 in
set_option maxRecDepth 100000 in
theorem basis_join.calls (k : Nat) (A0_0 : Option Addr) (c0_0 : Nat) (l0_0 : List Int) (A0_1 : Option Addr) (c0_1 : Nat) (l0_1 : List Int) (A1_0 : Option Addr) (c1_0 : Nat) (l1_0 : List Int) (A1_1 : Option Addr) (c1_1 : Nat) (l1_1 : List Int) (a2 : Int) (r1 : List Int) (r2 : List Int) (r3 : Bool) (w : World) (hr0_0 : Kd.C (Kd.int .i64) w A0_0 l0_0.length l0_0) (hc0_0 : l0_0.length ≤ c0_0) (hr0_1 : Kd.C (Kd.int .i64) w A0_1 l0_1.length l0_1) (hc0_1 : l0_1.length ≤ c0_1) (hr1_0 : Kd.C (Kd.int .i64) w A1_0 l1_0.length l1_0) (hc1_0 : l1_0.length ≤ c1_0) (hr1_1 : Kd.C (Kd.int .i64) w A1_1 l1_1.length l1_1) (hc1_1 : l1_1.length ≤ c1_1) (h : basis_join.f k l0_0 l0_1 l1_0 l1_1 a2 = some (r1, r2, r3)) :
 Calls Try.prog 34 #[.agg #[.slice A0_0 l0_0.length c0_0, .slice A0_1 l0_1.length c0_1], .agg #[.slice A1_0 l1_0.length c1_0, .slice A1_1 l1_1.length c1_1], .int .i64 a2] w fun e w' => ∃ v0_ v1_ : Value, e = .returned (.tuple #[.agg #[v0_, v1_], .bool r3]) ∧ Kd.V (Kd.int .i64) 3 w' w.heap.size (fun k_ => (w.heap.size ≤ k_)) v0_ r1 ∧ Kd.V (Kd.int .i64) 3 w' w.heap.size (fun k_ => (w.heap.size ≤ k_)) v1_ r2 ∧ Below w.heap.size w w' := by
 have hu66 := Try.underlying66
 have HR0_0 := Aside0.mk hr0_0
 have HC0_0 := Aside0.mk hc0_0
 clear hr0_0 hc0_0
 have HR0_1 := Aside0.mk hr0_1
 have HC0_1 := Aside0.mk hc0_1
 clear hr0_1 hc0_1
 have HR1_0 := Aside0.mk hr1_0
 have HC1_0 := Aside0.mk hc1_0
 clear hr1_0 hc1_0
 have HR1_1 := Aside0.mk hr1_1
 have HC1_1 := Aside0.mk hc1_1
 clear hr1_1 hc1_1
 have HB := Aside0.mk (Below.refl w.heap.size w)
 have H : (if 0 ≤ a2 then (if a2 < (l0_1.length : Int) then (if a2 < (l1_1.length : Int) then ((whole_Gcd.f k (rd l0_1 a2) (rd l1_1 a2)).bind fun t141 => ((basis_abs.f (rd l1_1 a2)).bind fun t143 => (if t141 = 0 then (none) else ((basis_abs.f (rd l0_1 a2)).bind fun t145 => ((whole_Mix.f k (wrap64 (Int.tdiv t143 t141)) l0_0 (wrap64 (Int.tdiv t145 t141)) l1_0).bind fun bt146 => ((whole_Mix.f k (wrap64 (Int.tdiv t143 t141)) l0_1 (wrap64 (Int.tdiv t145 t141)) l1_1).bind fun bt150 => (if bt146.2 = true then (basis_join.j0 k bt146.1 bt150.1 (!bt150.2)) else (basis_join.j0 k bt146.1 bt150.1 true)))))))) else (none)) else (none)) else (none)) = some (r1, r2, r3) := h
 clear h
 by_cases c4 : 0 ≤ a2
 case neg => rw [if_neg c4] at H; exact absurd H (by simp)
 rw [if_pos c4] at H
 have c4b0 : decide (0 ≤ a2) = true := decide_eq_true c4
 clear c4
 by_cases c5 : a2 < (l0_1.length : Int)
 case neg => rw [if_neg c5] at H; exact absurd H (by simp)
 rw [if_pos c5] at H
 have c5b0 : decide (a2 < (l0_1.length : Int)) = true := decide_eq_true c5
 clear c5
 by_cases c6 : a2 < (l1_1.length : Int)
 case neg => rw [if_neg c6] at H; exact absurd H (by simp)
 rw [if_pos c6] at H
 have c6b0 : decide (a2 < (l1_1.length : Int)) = true := decide_eq_true c6
 clear c6
 replace H := Option.bind_eq_some_iff.mp H
 obtain ⟨t141, A70, H⟩ := H
 replace H : ((basis_abs.f (rd l1_1 a2)).bind fun t143 => (if t141 = 0 then (none) else ((basis_abs.f (rd l0_1 a2)).bind fun t145 => ((whole_Mix.f k (wrap64 (Int.tdiv t143 t141)) l0_0 (wrap64 (Int.tdiv t145 t141)) l1_0).bind fun bt146 => ((whole_Mix.f k (wrap64 (Int.tdiv t143 t141)) l0_1 (wrap64 (Int.tdiv t145 t141)) l1_1).bind fun bt150 => (if bt146.2 = true then (basis_join.j0 k bt146.1 bt150.1 (!bt150.2)) else (basis_join.j0 k bt146.1 bt150.1 true))))))) = some (r1, r2, r3) := H
 have A7 := Aside0.mk A70
 clear A70
 replace H := Option.bind_eq_some_iff.mp H
 obtain ⟨t143, A80, H⟩ := H
 replace H : (if t141 = 0 then (none) else ((basis_abs.f (rd l0_1 a2)).bind fun t145 => ((whole_Mix.f k (wrap64 (Int.tdiv t143 t141)) l0_0 (wrap64 (Int.tdiv t145 t141)) l1_0).bind fun bt146 => ((whole_Mix.f k (wrap64 (Int.tdiv t143 t141)) l0_1 (wrap64 (Int.tdiv t145 t141)) l1_1).bind fun bt150 => (if bt146.2 = true then (basis_join.j0 k bt146.1 bt150.1 (!bt150.2)) else (basis_join.j0 k bt146.1 bt150.1 true)))))) = some (r1, r2, r3) := H
 have A8 := Aside0.mk A80
 clear A80
 by_cases c9 : t141 = 0
 case pos => rw [if_pos c9] at H; exact absurd H (by simp)
 rw [if_neg c9] at H
 have c9b0 : (t141 == 0) = false := beq_eq_false_iff_ne.mpr c9
 have c9b1 : (t141 != 0) = true := bne_iff_ne.mpr c9
 replace H := Option.bind_eq_some_iff.mp H
 obtain ⟨t145, A100, H⟩ := H
 replace H : ((whole_Mix.f k (wrap64 (Int.tdiv t143 t141)) l0_0 (wrap64 (Int.tdiv t145 t141)) l1_0).bind fun bt146 => ((whole_Mix.f k (wrap64 (Int.tdiv t143 t141)) l0_1 (wrap64 (Int.tdiv t145 t141)) l1_1).bind fun bt150 => (if bt146.2 = true then (basis_join.j0 k bt146.1 bt150.1 (!bt150.2)) else (basis_join.j0 k bt146.1 bt150.1 true)))) = some (r1, r2, r3) := H
 have A10 := Aside0.mk A100
 clear A100
 replace H := Option.bind_eq_some_iff.mp H
 obtain ⟨⟨t146, t147⟩, A110, H⟩ := H
 replace H : ((whole_Mix.f k (wrap64 (Int.tdiv t143 t141)) l0_1 (wrap64 (Int.tdiv t145 t141)) l1_1).bind fun bt150 => (if t147 = true then (basis_join.j0 k t146 bt150.1 (!bt150.2)) else (basis_join.j0 k t146 bt150.1 true))) = some (r1, r2, r3) := H
 have A11 := Aside0.mk A110
 clear A110
 replace H := Option.bind_eq_some_iff.mp H
 obtain ⟨⟨t150, t151⟩, A120, H⟩ := H
 replace H : (if t147 = true then (basis_join.j0 k t146 t150 (!t151)) else (basis_join.j0 k t146 t150 true)) = some (r1, r2, r3) := H
 have A12 := Aside0.mk A120
 clear A120
 have HC13 := Aside0.mk H
 clear H
 go_enter Try.func34, Try.ntmps34
 try go_wp2_with (first | ((with_reducible refine gate_dst (N := 3) rfl ?_); refine box_event ?hg (N := 3) ?hd (cs := #[.slice A0_0 l0_0.length c0_0, .slice A0_1 l0_1.length c0_1]) (t := 66) ?hr ?_; (case hd => rfl); (case hg => rfl); (case hr => first | (go_simp; done) | (go_simp; rfl)); intro gb136 hg w14 hbox hb; have n0_ := Aside0.mk (below_step (hbq HB.out) hb); have n1_ := Aside0.mk (hbox); have n2_ := Aside0.mk ((by rw [hg]; exact (below_size (hbq HB.out)) : w.heap.size ≤ gb136)); have n3_ := Aside0.mk ((by rw [hg]; exact (below_size (hbq HB.out)) : w.heap.size ≤ gb136)); clear HB; have HB := n0_; have BK136 := n1_; have GW136 := n2_; have GE136 := n3_; clear n0_ n1_ n2_ n3_; clear hb hbox hg) | ((with_reducible refine gate_dst (N := 4) rfl ?_); refine box_event ?hg (N := 4) ?hd (cs := #[.slice A1_0 l1_0.length c1_0, .slice A1_1 l1_1.length c1_1]) (t := 66) ?hr ?_; (case hd => rfl); (case hg => rfl); (case hr => first | (go_simp; done) | (go_simp; rfl)); intro gb137 hg w15 hbox hb; have n0_ := Aside0.mk (blk_below (g := gb136) (o := .cells #[.slice A0_0 l0_0.length c0_0, .slice A0_1 l0_1.length c0_1] 66 (0, 0)) (bkq BK136.out) hb); have n1_ := Aside0.mk (below_step (hbq HB.out) hb); have n2_ := Aside0.mk (hbox); have n3_ := Aside0.mk ((by rw [hg]; exact (below_size (hbq HB.out)) : w.heap.size ≤ gb137)); have n4_ := Aside0.mk ((by rw [hg]; exact (below_size (hbq HB.out)) : w.heap.size ≤ gb137)); have n5_ := Aside0.mk ((by rw [hg]; exact Nat.ne_of_lt (blk_lt (g := gb136) (o := .cells #[.slice A0_0 l0_0.length c0_0, .slice A0_1 l0_1.length c0_1] 66 (0, 0)) (bkq BK136.out)) : gb136 ≠ gb137)); have n6_ := Aside0.mk ((by rw [hg]; exact Nat.ne_of_gt (blk_lt (g := gb136) (o := .cells #[.slice A0_0 l0_0.length c0_0, .slice A0_1 l0_1.length c0_1] 66 (0, 0)) (bkq BK136.out)) : gb137 ≠ gb136)); clear BK136; clear HB; have BK136 := n0_; have HB := n1_; have BK137 := n2_; have GW137 := n3_; have GE137 := n4_; have NB136_137 := n5_; have NB137_136 := n6_; clear n0_ n1_ n2_ n3_ n4_ n5_ n6_; clear hb hbox hg) | ((with_reducible refine gate_dst (N := 6) rfl ?_); refine box_event ?hg (N := 6) ?hd (cs := #[.slice none 0 0, .slice none 0 0]) (t := 66) ?hr ?_; (case hd => rfl); (case hg => rfl); (case hr => first | (go_simp; done) | (go_simp; rfl)); intro gb138 hg w16 hbox hb; have n0_ := Aside0.mk (blk_below (g := gb136) (o := .cells #[.slice A0_0 l0_0.length c0_0, .slice A0_1 l0_1.length c0_1] 66 (0, 0)) (bkq BK136.out) hb); have n1_ := Aside0.mk (blk_below (g := gb137) (o := .cells #[.slice A1_0 l1_0.length c1_0, .slice A1_1 l1_1.length c1_1] 66 (0, 0)) (bkq BK137.out) hb); have n2_ := Aside0.mk (below_step (hbq HB.out) hb); have n3_ := Aside0.mk (hbox); have n4_ := Aside0.mk ((by rw [hg]; exact (below_size (hbq HB.out)) : w.heap.size ≤ gb138)); have n5_ := Aside0.mk ((by rw [hg]; exact (below_size (hbq HB.out)) : w.heap.size ≤ gb138)); have n6_ := Aside0.mk ((by rw [hg]; exact Nat.ne_of_lt (blk_lt (g := gb136) (o := .cells #[.slice A0_0 l0_0.length c0_0, .slice A0_1 l0_1.length c0_1] 66 (0, 0)) (bkq BK136.out)) : gb136 ≠ gb138)); have n7_ := Aside0.mk ((by rw [hg]; exact Nat.ne_of_gt (blk_lt (g := gb136) (o := .cells #[.slice A0_0 l0_0.length c0_0, .slice A0_1 l0_1.length c0_1] 66 (0, 0)) (bkq BK136.out)) : gb138 ≠ gb136)); have n8_ := Aside0.mk ((by rw [hg]; exact Nat.ne_of_lt (blk_lt (g := gb137) (o := .cells #[.slice A1_0 l1_0.length c1_0, .slice A1_1 l1_1.length c1_1] 66 (0, 0)) (bkq BK137.out)) : gb137 ≠ gb138)); have n9_ := Aside0.mk ((by rw [hg]; exact Nat.ne_of_gt (blk_lt (g := gb137) (o := .cells #[.slice A1_0 l1_0.length c1_0, .slice A1_1 l1_1.length c1_1] 66 (0, 0)) (bkq BK137.out)) : gb138 ≠ gb137)); clear BK136; clear BK137; clear HB; have BK136 := n0_; have BK137 := n1_; have HB := n2_; have BK138 := n3_; have GW138 := n4_; have GE138 := n5_; have NB136_138 := n6_; have NB138_136 := n7_; have NB137_138 := n8_; have NB138_137 := n9_; clear n0_ n1_ n2_ n3_ n4_ n5_ n6_ n7_ n8_ n9_; clear hb hbox hg))
 have n0_ := Aside0.mk (blk_drew BK136.out)
 have n1_ := Aside0.mk (blk_drew BK137.out)
 have n2_ := Aside0.mk (blk_drew BK138.out)
 have n3_ := Aside0.mk (below_drew1 HB.out)
 clear BK136
 clear BK137
 clear BK138
 clear HB
 have BK136 := n0_
 have BK137 := n1_
 have BK138 := n2_
 have HB := n3_
 clear n0_ n1_ n2_ n3_
 have p139 : 0 ≤ (a2 : Int) := of_decide_eq_true (by first | (with_reducible assumption) | assumption)
 have q139 : a2 < (l0_1.length : Int) := of_decide_eq_true (by first | (with_reducible assumption) | assumption)
 obtain ⟨ad139, e139, hx139_0⟩ := Kd.at_int HR0_1.out a2 p139 q139
 have hw139_0 := hx139_0
 cases e139
 replace hx139_0 := (HB.out.cell (World.block_lt_of_cell? w _ hx139_0)).trans hx139_0
 replace p139 := eq_true p139
 replace q139 := eq_true q139
 have p140 : 0 ≤ (a2 : Int) := of_decide_eq_true (by first | (with_reducible assumption) | assumption)
 have q140 : a2 < (l1_1.length : Int) := of_decide_eq_true (by first | (with_reducible assumption) | assumption)
 obtain ⟨ad140, e140, hx140_0⟩ := Kd.at_int HR1_1.out a2 p140 q140
 have hw140_0 := hx140_0
 cases e140
 replace hx140_0 := (HB.out.cell (World.block_lt_of_cell? w _ hx140_0)).trans hx140_0
 replace p140 := eq_true p140
 replace q140 := eq_true q140
 refine start_ (n := 12) (S := fun w' => w'.cell? ⟨gb136, 0, none⟩ = some (.slice A0_0 l0_0.length c0_0) ∧ w'.cell? ⟨gb136, 1, none⟩ = some (.slice (some ad139) l0_1.length c0_1) ∧ w'.cell? ⟨gb137, 0, none⟩ = some (.slice A1_0 l1_0.length c1_0) ∧ w'.cell? ⟨gb137, 1, none⟩ = some (.slice (some ad140) l1_1.length c1_1) ∧ w'.cell? (ad139.add (a2).toNat) = some (.int .i64 (rd l0_1 a2)) ∧ w'.cell? (ad140.add (a2).toNat) = some (.int .i64 (rd l1_1 a2))) (ds := []) (az [0, 12]) (by kernel_rfl) rfl rfl ⟨(blk_cell BK136.out 0).trans rfl, (blk_cell BK136.out 1).trans rfl, (blk_cell BK137.out 0).trans rfl, (blk_cell BK137.out 1).trans rfl, ((HB.out.cell (World.block_lt_of_cell? w _ hw139_0)).trans hw139_0), ((HB.out.cell (World.block_lt_of_cell? w _ hw140_0)).trans hw140_0)⟩ (fun hHeld => ?_); refine with_tabW basis_join.tab1 basis_join.bits1 (fun HT_ HW_ => ?_)
 generalize w16.drew = w17 at BK136 BK137 BK138 HB hx139_0 hx140_0 hHeld ⊢
 refine pure_ (i := 0) (N := some 16) (v := ?_) (a' := ?_) (az [1, 11]) rfl rfl (any_of HT_.out (by kernel_rfl)) (fun _ _ _ h => h) (Or.inl ⟨by rfl, ?_⟩) ?_ ?_
 rotate_left
 ·intro w'
  go_simp
  with_reducible rfl
 rotate_left
 ·simp only [Act.put, List.setIfInBounds_toArray, List.set_cons_zero, List.set_cons_succ, i64_w, i32_w]
  rfl
 refine pure_ (i := 2) (N := some 18) (v := ?_) (a' := ?_) (az [1, 1, 1, 9]) rfl rfl (any_of HT_.out (by kernel_rfl)) (fun _ _ _ h => h) (Or.inl ⟨by rfl, ?_⟩) ?_ ?_
 rotate_left
 ·intro w'
  go_simp
  with_reducible rfl
 rotate_left
 ·simp only [Act.put, List.setIfInBounds_toArray, List.set_cons_zero, List.set_cons_succ, i64_w, i32_w]
  rfl
 refine pure_ (i := 5) (N := some 21) (v := ?_) (a' := ?_) (az [1, 1, 1, 2, 1, 6]) rfl rfl (any_of HT_.out (by kernel_rfl)) (fun _ _ _ h => h) (Or.inl ⟨by rfl, ?_⟩) ?_ ?_
 rotate_left
 ·intro w'
  go_simp
  with_reducible rfl
 rotate_left
 ·simp only [Act.put, List.setIfInBounds_toArray, List.set_cons_zero, List.set_cons_succ, i64_w, i32_w]
  rfl
 refine pure_ (i := 7) (N := some 23) (v := ?_) (a' := ?_) (az [1, 1, 1, 2, 1, 1, 1, 4]) rfl rfl (any_of HT_.out (by kernel_rfl)) (fun _ _ _ h => h) (Or.inl ⟨by rfl, ?_⟩) ?_ ?_
 rotate_left
 ·intro w'
  go_simp
  with_reducible rfl
 rotate_left
 ·simp only [Act.put, List.setIfInBounds_toArray, List.set_cons_zero, List.set_cons_succ, i64_w, i32_w]
  rfl
 refine take_ (i := 1) (N := some 17) (v := ?_) (a' := ?_) (az [3, 2, 1, 1, 1, 4]) rfl rfl (take_ofW HT_.out HW_.out (by kernel_rfl)) (fun _ _ _ h => h) (Or.inl ⟨by rfl, ?_⟩) hHeld ?_ ?_
 rotate_left
 ·rintro w' ⟨s0, s1, s2, s3, s4, s5⟩
  go_simp
  with_reducible rfl
 rotate_left
 ·simp only [Act.put, List.setIfInBounds_toArray, List.set_cons_zero, List.set_cons_succ, i64_w, i32_w]
  rfl
 refine pure_ (i := 3) (N := some 19) (v := ?_) (a' := ?_) (az [4, 1, 1, 1, 1, 4]) rfl rfl (any_of HT_.out (by kernel_rfl)) (fun _ _ _ h => h) (Or.inl ⟨by rfl, ?_⟩) ?_ ?_
 rotate_left
 ·intro w'
  go_simp
  with_reducible rfl
 rotate_left
 ·simp only [Act.put, List.setIfInBounds_toArray, List.set_cons_zero, List.set_cons_succ, i64_w, i32_w]
  rfl
 refine take_ (i := 4) (N := some 20) (v := ?_) (a' := ?_) (az [6, 1, 1, 4]) rfl rfl (take_ofW HT_.out HW_.out (by kernel_rfl)) (fun _ _ _ h => h) (Or.inl ⟨by rfl, ?_⟩) hHeld ?_ ?_
 rotate_left
 ·rintro w' ⟨s0, s1, s2, s3, s4, s5⟩
  go_simp
  with_reducible rfl
 rotate_left
 ·simp only [Act.put, List.setIfInBounds_toArray, List.set_cons_zero, List.set_cons_succ, i64_w, i32_w]
  rfl
 refine take_ (i := 6) (N := some 22) (v := ?_) (a' := ?_) (az [8, 4]) rfl rfl (take_ofW HT_.out HW_.out (by kernel_rfl)) (fun _ _ _ h => h) (Or.inl ⟨by rfl, ?_⟩) hHeld ?_ ?_
 rotate_left
 ·rintro w' ⟨s0, s1, s2, s3, s4, s5⟩
  go_simp
  with_reducible rfl
 rotate_left
 ·simp only [Act.put, List.setIfInBounds_toArray, List.set_cons_zero, List.set_cons_succ, i64_w, i32_w]
  rfl
 refine pure_ (i := 8) (N := some 24) (v := ?_) (a' := ?_) (az [9, 3]) rfl rfl (any_of HT_.out (by kernel_rfl)) (fun _ _ _ h => h) (Or.inl ⟨by rfl, ?_⟩) ?_ ?_
 rotate_left
 ·intro w'
  go_simp
  with_reducible rfl
 rotate_left
 ·simp only [Act.put, List.setIfInBounds_toArray, List.set_cons_zero, List.set_cons_succ, i64_w, i32_w]
  rfl
 refine take_ (i := 9) (N := some 25) (v := ?_) (a' := ?_) (az [10, 2]) rfl rfl (take_ofW HT_.out HW_.out (by kernel_rfl)) (fun _ _ _ h => h) (Or.inl ⟨by rfl, ?_⟩) hHeld ?_ ?_
 rotate_left
 ·rintro w' ⟨s0, s1, s2, s3, s4, s5⟩
  go_simp
  with_reducible rfl
 rotate_left
 ·simp only [Act.put, List.setIfInBounds_toArray, List.set_cons_zero, List.set_cons_succ, i64_w, i32_w]
  rfl
 refine one_ (i := 10) (N := some 26) (az [11, 1]) rfl rfl (one_of HT_.out (by kernel_rfl)) (by decide) (fun K hK => ?_)
 refine goes_ Try.func38 (by kernel_rfl) rfl #[.int .i64 (rd l0_1 a2), .int .i64 (rd l1_1 a2)] (by rfl) rfl rfl (by (try simp only [List.map_toArray, List.map_cons, List.map_nil]); first | done | rfl | (simp only [List.length_drop, List.length_take]; rfl)) ?_
 with_reducible refine (whole_Gcd.calls k (rd l0_1 a2) (rd l1_1 a2) t141 _ A7.out).mono ?_
 rintro e w' ⟨rfl, ⟨nd, rfl⟩⟩
 refine ⟨_, rfl, ?_⟩
 refine hK.out _ _ ⟨(blk_cell BK136.out 0).trans rfl, (blk_cell BK136.out 1).trans rfl, (blk_cell BK137.out 0).trans rfl, (blk_cell BK137.out 1).trans rfl, ((HB.out.cell (World.block_lt_of_cell? w _ hw139_0)).trans hw139_0), ((HB.out.cell (World.block_lt_of_cell? w _ hw140_0)).trans hw140_0)⟩ (fun hHeld => ?_)
 clear hK K
 refine norm_ (a' := ?_) ?_ ?_
 rotate_left
 ·show Act.put _ (some 26) _ = _
  simp only [Act.put, List.setIfInBounds_toArray, List.set_cons_zero, List.set_cons_succ, i64_w, i32_w]
  rfl
 refine pure_ (i := 11) (N := some 8) (v := ?_) (a' := ?_) (az [12]) rfl rfl (any_of HT_.out (by kernel_rfl)) (fun _ _ _ h => h) (Or.inl ⟨by rfl, ?_⟩) ?_ ?_
 rotate_left
 ·intro w'
  go_simp
  with_reducible rfl
 rotate_left
 ·simp only [Act.put, List.setIfInBounds_toArray, List.set_cons_zero, List.set_cons_succ, i64_w, i32_w]
  rfl
 refine done_ (done_of HT_.out (by kernel_rfl)) ?_
 try go_wp2
 (try (rw [drewN_self w17]; generalize hq_ : World.drewN w17 _ = w17; have n0_ : Aside0 (w17.heap[gb136]? = some (.cells #[.slice A0_0 l0_0.length c0_0, .slice (some ad139) l0_1.length c0_1] 66 (0, 0))) := ⟨by rw [← hq_]; exact (bkq BK136.out)⟩; have n1_ : Aside0 (w17.heap[gb137]? = some (.cells #[.slice A1_0 l1_0.length c1_0, .slice (some ad140) l1_1.length c1_1] 66 (0, 0))) := ⟨by rw [← hq_]; exact (bkq BK137.out)⟩; have n2_ : Aside0 (w17.heap[gb138]? = some (.cells #[.slice none 0 0, .slice none 0 0] 66 (0, 0))) := ⟨by rw [← hq_]; exact (bkq BK138.out)⟩; have n3_ : Aside0 (Below w.heap.size w w17) := ⟨by rw [← hq_]; exact (hbq HB.out)⟩; clear BK136 BK137 BK138 HB hq_; have BK136 := n0_; have BK137 := n1_; have BK138 := n2_; have HB := n3_; clear n0_ n1_ n2_ n3_))
 have n0_ := Aside0.mk (blk_drew BK136.out)
 have n1_ := Aside0.mk (blk_drew BK137.out)
 have n2_ := Aside0.mk (blk_drew BK138.out)
 have n3_ := Aside0.mk (below_drew1 HB.out)
 clear BK136
 clear BK137
 clear BK138
 clear HB
 have BK136 := n0_
 have BK137 := n1_
 have BK138 := n2_
 have HB := n3_
 clear n0_ n1_ n2_ n3_
 have p142 : 0 ≤ (a2 : Int) := of_decide_eq_true (by first | (with_reducible assumption) | assumption)
 have q142 : a2 < (l1_1.length : Int) := of_decide_eq_true (by first | (with_reducible assumption) | assumption)
 obtain ⟨ad142, e142, hx142_0⟩ := Kd.at_int HR1_1.out a2 p142 q142
 have hw142_0 := hx142_0
 obtain rfl : ad140 = ad142 := (by injection e142)
 replace hx142_0 := (HB.out.cell (World.block_lt_of_cell? w _ hx142_0)).trans hx142_0
 replace p142 := eq_true p142
 replace q142 := eq_true q142
 have p144 : 0 ≤ (a2 : Int) := of_decide_eq_true (by first | (with_reducible assumption) | assumption)
 have q144 : a2 < (l0_1.length : Int) := of_decide_eq_true (by first | (with_reducible assumption) | assumption)
 obtain ⟨ad144, e144, hx144_0⟩ := Kd.at_int HR0_1.out a2 p144 q144
 have hw144_0 := hx144_0
 obtain rfl : ad139 = ad144 := (by injection e144)
 replace hx144_0 := (HB.out.cell (World.block_lt_of_cell? w _ hx144_0)).trans hx144_0
 replace p144 := eq_true p144
 replace q144 := eq_true q144
 refine start_ (n := 18) (S := fun w' => w'.cell? ⟨gb137, 0, none⟩ = some (.slice A1_0 l1_0.length c1_0) ∧ w'.cell? ⟨gb137, 1, none⟩ = some (.slice (some ad140) l1_1.length c1_1) ∧ w'.cell? ⟨gb136, 0, none⟩ = some (.slice A0_0 l0_0.length c0_0) ∧ w'.cell? ⟨gb136, 1, none⟩ = some (.slice (some ad139) l0_1.length c0_1) ∧ w'.cell? (ad140.add (a2).toNat) = some (.int .i64 (rd l1_1 a2)) ∧ w'.cell? (ad139.add (a2).toNat) = some (.int .i64 (rd l0_1 a2))) (ds := []) (az [0, 18]) (by kernel_rfl) rfl rfl ⟨(blk_cell BK137.out 0).trans rfl, (blk_cell BK137.out 1).trans rfl, (blk_cell BK136.out 0).trans rfl, (blk_cell BK136.out 1).trans rfl, ((HB.out.cell (World.block_lt_of_cell? w _ hw142_0)).trans hw142_0), ((HB.out.cell (World.block_lt_of_cell? w _ hw144_0)).trans hw144_0)⟩ (fun hHeld => ?_); refine with_tabW basis_join.tab2 basis_join.bits2 (fun HT_ HW_ => ?_)
 generalize w17.drew = w18 at BK136 BK137 BK138 HB hx142_0 hx144_0 hHeld ⊢
 refine pure_ (i := 0) (N := some 27) (v := ?_) (a' := ?_) (az [1, 17]) rfl rfl (any_of HT_.out (by kernel_rfl)) (fun _ _ _ h => h) (Or.inl ⟨by rfl, ?_⟩) ?_ ?_
 rotate_left
 ·intro w'
  go_simp
  with_reducible rfl
 rotate_left
 ·simp only [Act.put, List.setIfInBounds_toArray, List.set_cons_zero, List.set_cons_succ, i64_w, i32_w]
  rfl
 refine pure_ (i := 2) (N := some 29) (v := ?_) (a' := ?_) (az [1, 1, 1, 15]) rfl rfl (any_of HT_.out (by kernel_rfl)) (fun _ _ _ h => h) (Or.inl ⟨by rfl, ?_⟩) ?_ ?_
 rotate_left
 ·intro w'
  go_simp
  with_reducible rfl
 rotate_left
 ·simp only [Act.put, List.setIfInBounds_toArray, List.set_cons_zero, List.set_cons_succ, i64_w, i32_w]
  rfl
 refine pure_ (i := 6) (N := some 33) (v := ?_) (a' := ?_) (az [1, 1, 1, 3, 1, 11]) rfl rfl (any_of HT_.out (by kernel_rfl)) (fun _ _ _ h => h) (Or.inl ⟨by rfl, ?_⟩) ?_ ?_
 rotate_left
 ·intro w'
  go_simp
  with_reducible rfl
 rotate_left
 ·simp only [Act.put, List.setIfInBounds_toArray, List.set_cons_zero, List.set_cons_succ, i64_w, i32_w]
  rfl
 refine pure_ (i := 8) (N := some 35) (v := ?_) (a' := ?_) (az [1, 1, 1, 3, 1, 1, 1, 9]) rfl rfl (any_of HT_.out (by kernel_rfl)) (fun _ _ _ h => h) (Or.inl ⟨by rfl, ?_⟩) ?_ ?_
 rotate_left
 ·intro w'
  go_simp
  with_reducible rfl
 rotate_left
 ·simp only [Act.put, List.setIfInBounds_toArray, List.set_cons_zero, List.set_cons_succ, i64_w, i32_w]
  rfl
 refine pure_ (i := 10) (N := some 37) (v := ?_) (a' := ?_) (az [1, 1, 1, 3, 1, 1, 1, 1, 1, 7]) rfl rfl (any_of HT_.out (by kernel_rfl)) (fun _ _ _ h => h) (Or.inl ⟨by rfl, ?_⟩) ?_ ?_
 rotate_left
 ·intro w'
  go_simp
  with_reducible rfl
 rotate_left
 ·simp only [Act.put, List.setIfInBounds_toArray, List.set_cons_zero, List.set_cons_succ, i64_w, i32_w]
  rfl
 refine pure_ (i := 14) (N := some 41) (v := ?_) (a' := ?_) (az [1, 1, 1, 3, 1, 1, 1, 1, 1, 3, 1, 3]) rfl rfl (any_of HT_.out (by kernel_rfl)) (fun _ _ _ h => h) (Or.inl ⟨by rfl, ?_⟩) ?_ ?_
 rotate_left
 ·intro w'
  go_simp
  with_reducible rfl
 rotate_left
 ·simp only [Act.put, List.setIfInBounds_toArray, List.set_cons_zero, List.set_cons_succ, i64_w, i32_w]
  rfl
 refine take_ (i := 1) (N := some 28) (v := ?_) (a' := ?_) (az [3, 3, 1, 1, 1, 1, 1, 3, 1, 3]) rfl rfl (take_ofW HT_.out HW_.out (by kernel_rfl)) (fun _ _ _ h => h) (Or.inl ⟨by rfl, ?_⟩) hHeld ?_ ?_
 rotate_left
 ·rintro w' ⟨s0, s1, s2, s3, s4, s5⟩
  go_simp
  with_reducible rfl
 rotate_left
 ·simp only [Act.put, List.setIfInBounds_toArray, List.set_cons_zero, List.set_cons_succ, i64_w, i32_w]
  rfl
 refine pure_ (i := 3) (N := some 30) (v := ?_) (a' := ?_) (az [4, 2, 1, 1, 1, 1, 1, 3, 1, 3]) rfl rfl (any_of HT_.out (by kernel_rfl)) (fun _ _ _ h => h) (Or.inl ⟨by rfl, ?_⟩) ?_ ?_
 rotate_left
 ·intro w'
  go_simp
  with_reducible rfl
 rotate_left
 ·simp only [Act.put, List.setIfInBounds_toArray, List.set_cons_zero, List.set_cons_succ, i64_w, i32_w]
  rfl
 refine take_ (i := 4) (N := some 31) (v := ?_) (a' := ?_) (az [5, 1, 1, 1, 1, 1, 1, 3, 1, 3]) rfl rfl (take_ofW HT_.out HW_.out (by kernel_rfl)) (fun _ _ _ h => h) (Or.inl ⟨by rfl, ?_⟩) hHeld ?_ ?_
 rotate_left
 ·rintro w' ⟨s0, s1, s2, s3, s4, s5⟩
  go_simp
  with_reducible rfl
 rotate_left
 ·simp only [Act.put, List.setIfInBounds_toArray, List.set_cons_zero, List.set_cons_succ, i64_w, i32_w]
  rfl
 refine take_ (i := 9) (N := some 36) (v := ?_) (a' := ?_) (az [5, 1, 1, 1, 3, 3, 1, 3]) rfl rfl (take_ofW HT_.out HW_.out (by kernel_rfl)) (fun _ _ _ h => h) (Or.inl ⟨by rfl, ?_⟩) hHeld ?_ ?_
 rotate_left
 ·rintro w' ⟨s0, s1, s2, s3, s4, s5⟩
  go_simp
  with_reducible rfl
 rotate_left
 ·simp only [Act.put, List.setIfInBounds_toArray, List.set_cons_zero, List.set_cons_succ, i64_w, i32_w]
  rfl
 refine pure_ (i := 11) (N := some 38) (v := ?_) (a' := ?_) (az [5, 1, 1, 1, 4, 2, 1, 3]) rfl rfl (any_of HT_.out (by kernel_rfl)) (fun _ _ _ h => h) (Or.inl ⟨by rfl, ?_⟩) ?_ ?_
 rotate_left
 ·intro w'
  go_simp
  with_reducible rfl
 rotate_left
 ·simp only [Act.put, List.setIfInBounds_toArray, List.set_cons_zero, List.set_cons_succ, i64_w, i32_w]
  rfl
 refine take_ (i := 12) (N := some 39) (v := ?_) (a' := ?_) (az [5, 1, 1, 1, 5, 1, 1, 3]) rfl rfl (take_ofW HT_.out HW_.out (by kernel_rfl)) (fun _ _ _ h => h) (Or.inl ⟨by rfl, ?_⟩) hHeld ?_ ?_
 rotate_left
 ·rintro w' ⟨s0, s1, s2, s3, s4, s5⟩
  go_simp
  with_reducible rfl
 rotate_left
 ·simp only [Act.put, List.setIfInBounds_toArray, List.set_cons_zero, List.set_cons_succ, i64_w, i32_w]
  rfl
 refine one_ (i := 5) (N := some 32) (az [7, 1, 5, 1, 1, 3]) rfl rfl (one_of HT_.out (by kernel_rfl)) (by decide) (fun K hK => ?_)
 refine goes_ Try.func39 (by kernel_rfl) rfl #[.int .i64 (rd l1_1 a2)] (by rfl) rfl rfl (by (try simp only [List.map_toArray, List.map_cons, List.map_nil]); first | done | rfl | (simp only [List.length_drop, List.length_take]; rfl)) ?_
 with_reducible refine (basis_abs.calls (rd l1_1 a2) t143 _ A8.out).mono ?_
 rintro e w19 ⟨rfl, hb⟩
 refine ⟨_, rfl, ?_⟩
 have n0_ := Aside0.mk (blk_below (g := gb136) (o := .cells #[.slice A0_0 l0_0.length c0_0, .slice (some ad139) l0_1.length c0_1] 66 (0, 0)) (bkq BK136.out) hb)
 have n1_ := Aside0.mk (blk_below (g := gb137) (o := .cells #[.slice A1_0 l1_0.length c1_0, .slice (some ad140) l1_1.length c1_1] 66 (0, 0)) (bkq BK137.out) hb)
 have n2_ := Aside0.mk (blk_below (g := gb138) (o := .cells #[.slice none 0 0, .slice none 0 0] 66 (0, 0)) (bkq BK138.out) hb)
 have n3_ := Aside0.mk (below_step (hbq HB.out) hb)
 clear BK136
 clear BK137
 clear BK138
 clear HB
 have BK136 := n0_
 have BK137 := n1_
 have BK138 := n2_
 have HB := n3_
 clear n0_ n1_ n2_ n3_
 (try clear hb)
 (try clear hb2)
 (try clear hk)
 (try clear hi)
 refine hK.out _ _ ⟨(blk_cell BK137.out 0).trans rfl, (blk_cell BK137.out 1).trans rfl, (blk_cell BK136.out 0).trans rfl, (blk_cell BK136.out 1).trans rfl, ((HB.out.cell (World.block_lt_of_cell? w _ hw142_0)).trans hw142_0), ((HB.out.cell (World.block_lt_of_cell? w _ hw144_0)).trans hw144_0)⟩ (fun hHeld => ?_)
 clear hK K
 refine norm_ (a' := ?_) ?_ ?_
 rotate_left
 ·show Act.put _ (some 32) _ = _
  simp only [Act.put, List.setIfInBounds_toArray, List.set_cons_zero, List.set_cons_succ, i64_w, i32_w]
  rfl
 refine pure_ (i := 7) (N := some 34) (v := ?_) (a' := ?_) (az [13, 1, 1, 3]) rfl rfl (any_of HT_.out (by kernel_rfl)) (fun _ _ _ h => h) (Or.inl ⟨by rfl, ?_⟩) ?_ ?_
 rotate_left
 ·intro w'
  go_simp
  with_reducible rfl
 rotate_left
 ·simp only [Act.put, List.setIfInBounds_toArray, List.set_cons_zero, List.set_cons_succ, i64_w, i32_w]
  rfl
 refine one_ (i := 13) (N := some 40) (az [15, 3]) rfl rfl (one_of HT_.out (by kernel_rfl)) (by decide) (fun K hK => ?_)
 refine goes_ Try.func39 (by kernel_rfl) rfl #[.int .i64 (rd l0_1 a2)] (by rfl) rfl rfl (by (try simp only [List.map_toArray, List.map_cons, List.map_nil]); first | done | rfl | (simp only [List.length_drop, List.length_take]; rfl)) ?_
 with_reducible refine (basis_abs.calls (rd l0_1 a2) t145 _ A10.out).mono ?_
 rintro e w20 ⟨rfl, hb⟩
 refine ⟨_, rfl, ?_⟩
 have n0_ := Aside0.mk (blk_below (g := gb136) (o := .cells #[.slice A0_0 l0_0.length c0_0, .slice (some ad139) l0_1.length c0_1] 66 (0, 0)) (bkq BK136.out) hb)
 have n1_ := Aside0.mk (blk_below (g := gb137) (o := .cells #[.slice A1_0 l1_0.length c1_0, .slice (some ad140) l1_1.length c1_1] 66 (0, 0)) (bkq BK137.out) hb)
 have n2_ := Aside0.mk (blk_below (g := gb138) (o := .cells #[.slice none 0 0, .slice none 0 0] 66 (0, 0)) (bkq BK138.out) hb)
 have n3_ := Aside0.mk (below_step (hbq HB.out) hb)
 clear BK136
 clear BK137
 clear BK138
 clear HB
 have BK136 := n0_
 have BK137 := n1_
 have BK138 := n2_
 have HB := n3_
 clear n0_ n1_ n2_ n3_
 (try clear hb)
 (try clear hb2)
 (try clear hk)
 (try clear hi)
 refine hK.out _ _ ⟨(blk_cell BK137.out 0).trans rfl, (blk_cell BK137.out 1).trans rfl, (blk_cell BK136.out 0).trans rfl, (blk_cell BK136.out 1).trans rfl, ((HB.out.cell (World.block_lt_of_cell? w _ hw142_0)).trans hw142_0), ((HB.out.cell (World.block_lt_of_cell? w _ hw144_0)).trans hw144_0)⟩ (fun hHeld => ?_)
 clear hK K
 refine norm_ (a' := ?_) ?_ ?_
 rotate_left
 ·show Act.put _ (some 40) _ = _
  simp only [Act.put, List.setIfInBounds_toArray, List.set_cons_zero, List.set_cons_succ, i64_w, i32_w]
  rfl
 refine pure_ (i := 15) (N := some 42) (v := ?_) (a' := ?_) (az [16, 2]) rfl rfl (any_of HT_.out (by kernel_rfl)) (fun _ _ _ h => h) (Or.inl ⟨by rfl, ?_⟩) ?_ ?_
 rotate_left
 ·intro w'
  go_simp
  with_reducible rfl
 rotate_left
 ·simp only [Act.put, List.setIfInBounds_toArray, List.set_cons_zero, List.set_cons_succ, i64_w, i32_w]
  rfl
 refine pure_ (i := 16) (N := some 9) (v := ?_) (a' := ?_) (az [17, 1]) rfl rfl (any_of HT_.out (by kernel_rfl)) (fun _ _ _ h => h) (Or.inl ⟨by rfl, ?_⟩) ?_ ?_
 rotate_left
 ·intro w'
  go_simp
  with_reducible rfl
 rotate_left
 ·simp only [Act.put, List.setIfInBounds_toArray, List.set_cons_zero, List.set_cons_succ, i64_w, i32_w]
  rfl
 refine pure_ (i := 17) (N := some 10) (v := ?_) (a' := ?_) (az [18]) rfl rfl (any_of HT_.out (by kernel_rfl)) (fun _ _ _ h => h) (Or.inl ⟨by rfl, ?_⟩) ?_ ?_
 rotate_left
 ·intro w'
  go_simp
  with_reducible rfl
 rotate_left
 ·simp only [Act.put, List.setIfInBounds_toArray, List.set_cons_zero, List.set_cons_succ, i64_w, i32_w]
  rfl
 refine done_ (done_of HT_.out (by kernel_rfl)) ?_
 have hnb21 := NB136_137.out
 have hnc21 := NB137_136.out
 have hnb22 := NB136_138.out
 have hnc22 := NB138_136.out
 have hcz23_0 : w20.cell? ⟨gb136, 0, none⟩ = some (.slice A0_0 l0_0.length c0_0) := (blk_cell BK136.out 0).trans rfl
 have hcz23_1 : w20.cell? ⟨gb136, 1, none⟩ = some (.slice (some ad139) l0_1.length c0_1) := (blk_cell BK136.out 1).trans rfl
 have hfz23_0 := blk_frozen BK136.out 0
 have hfz23_1 := blk_frozen BK136.out 1
 have hnb24 := NB137_138.out
 have hnc24 := NB138_137.out
 have hcz25_0 : w20.cell? ⟨gb137, 0, none⟩ = some (.slice A1_0 l1_0.length c1_0) := (blk_cell BK137.out 0).trans rfl
 have hcz25_1 : w20.cell? ⟨gb137, 1, none⟩ = some (.slice (some ad140) l1_1.length c1_1) := (blk_cell BK137.out 1).trans rfl
 have hfz25_0 := blk_frozen BK137.out 0
 have hfz25_1 := blk_frozen BK137.out 1
 go_upto_region 5 with (first | ((with_reducible refine gate_callee (f := 40) rfl ?_); refine goesL_ (some 50) rfl rfl Try.func40 (by kernel_rfl) rfl #[.int .i64 (wrap64 (Int.tdiv t143 t141)), .slice A0_0 l0_0.length c0_0, .int .i64 (wrap64 (Int.tdiv t145 t141)), .slice A1_0 l1_0.length c1_0] rfl (by (try simp only [List.map_toArray, List.map_cons, List.map_nil]); first | done | rfl | (simp only [List.length_drop, List.length_take]; rfl)) ?_; (with_reducible refine (whole_Mix.calls k (wrap64 (Int.tdiv t143 t141)) _ _ l0_0 (wrap64 (Int.tdiv t145 t141)) _ _ l1_0 t146 t147 _ ?side1 ?side2 ?side3 ?side4 A11.out).mono ?_); (case side1 => repeat (first | exact (Kd.C_below HR0_0.out HB.out) | (with_reducible refine Kd.C_alloc ?_ _) | (with_reducible refine Kd.C_drewN ?_ _) | (with_reducible refine Kd.C_drew ?_))); (case side2 => exact HC0_0.out); (case side3 => repeat (first | exact (Kd.C_below HR1_0.out HB.out) | (with_reducible refine Kd.C_alloc ?_ _) | (with_reducible refine Kd.C_drewN ?_ _) | (with_reducible refine Kd.C_drew ?_))); (case side4 => exact HC1_0.out); rintro e w26 ⟨v148, rfl, ho0, hb⟩; refine ⟨_, rfl, ?_⟩; have n0_ := Aside0.mk (Kd.R_lower (Kd.R_newM (M := fun k_ => (w.heap.size ≤ k_)) ho0 (below_size (hbq HB.out)) (fun k_ h_ => h_)) (below_size (hbq HB.out))); have n1_ := Aside0.mk (blk_below (g := gb136) (o := .cells #[.slice A0_0 l0_0.length c0_0, .slice (some ad139) l0_1.length c0_1] 66 (0, 0)) (bkq BK136.out) hb); have n2_ := Aside0.mk (blk_below (g := gb137) (o := .cells #[.slice A1_0 l1_0.length c1_0, .slice (some ad140) l1_1.length c1_1] 66 (0, 0)) (bkq BK137.out) hb); have n3_ := Aside0.mk (blk_below (g := gb138) (o := .cells #[.slice none 0 0, .slice none 0 0] 66 (0, 0)) (bkq BK138.out) hb); have n4_ := Aside0.mk (below_step (hbq HB.out) hb); clear BK136; clear BK137; clear BK138; clear HB; have HO149 := n0_; have BK136 := n1_; have BK137 := n2_; have BK138 := n3_; have HB := n4_; clear n0_ n1_ n2_ n3_ n4_; (try clear hb); (try clear hb2); (try clear hk); (try clear hi); (try clear ho0); have hcz27_0 : w26.cell? ⟨gb136, 0, none⟩ = some (.slice A0_0 l0_0.length c0_0) := (blk_cell BK136.out 0).trans rfl; have hcz27_1 : w26.cell? ⟨gb136, 1, none⟩ = some (.slice (some ad139) l0_1.length c0_1) := (blk_cell BK136.out 1).trans rfl; have hfz27_0 := blk_frozen BK136.out 0; have hfz27_1 := blk_frozen BK136.out 1; have hcz28_0 : w26.cell? ⟨gb137, 0, none⟩ = some (.slice A1_0 l1_0.length c1_0) := (blk_cell BK137.out 0).trans rfl; have hcz28_1 : w26.cell? ⟨gb137, 1, none⟩ = some (.slice (some ad140) l1_1.length c1_1) := (blk_cell BK137.out 1).trans rfl; have hfz28_0 := blk_frozen BK137.out 0; have hfz28_1 := blk_frozen BK137.out 1) | ((with_reducible refine gate_callee (f := 40) rfl ?_); refine goesL_ (some 60) rfl rfl Try.func40 (by kernel_rfl) rfl #[.int .i64 (wrap64 (Int.tdiv t143 t141)), .slice (some ad139) l0_1.length c0_1, .int .i64 (wrap64 (Int.tdiv t145 t141)), .slice (some ad140) l1_1.length c1_1] rfl (by (try simp only [List.map_toArray, List.map_cons, List.map_nil]); first | done | rfl | (simp only [List.length_drop, List.length_take]; rfl)) ?_; (with_reducible refine (whole_Mix.calls k (wrap64 (Int.tdiv t143 t141)) _ _ l0_1 (wrap64 (Int.tdiv t145 t141)) _ _ l1_1 t150 t151 _ ?side1 ?side2 ?side3 ?side4 A12.out).mono ?_); (case side1 => repeat (first | exact (Kd.C_below HR0_1.out HB.out) | (with_reducible refine Kd.C_alloc ?_ _) | (with_reducible refine Kd.C_drewN ?_ _) | (with_reducible refine Kd.C_drew ?_))); (case side2 => exact HC0_1.out); (case side3 => repeat (first | exact (Kd.C_below HR1_1.out HB.out) | (with_reducible refine Kd.C_alloc ?_ _) | (with_reducible refine Kd.C_drewN ?_ _) | (with_reducible refine Kd.C_drew ?_))); (case side4 => exact HC1_1.out); rintro e w29 ⟨v152, rfl, ho0, hb⟩; refine ⟨_, rfl, ?_⟩; have n0_ := Aside0.mk (Kd.R_elder' (kq_R HO149.out) (Kd.R_base ho0) hb); have n1_ := Aside0.mk (Kd.R_lower (Kd.R_new' (Kd.R_newM (M := fun k_ => (w.heap.size ≤ k_)) ho0 (below_size (hbq HB.out)) (fun k_ h_ => h_)) (Kd.R_lt (kq_R HO149.out))) (below_size (hbq HB.out))); have n2_ := Aside0.mk (blk_below (g := gb136) (o := .cells #[.slice A0_0 l0_0.length c0_0, .slice (some ad139) l0_1.length c0_1] 66 (0, 0)) (bkq BK136.out) hb); have n3_ := Aside0.mk (blk_below (g := gb137) (o := .cells #[.slice A1_0 l1_0.length c1_0, .slice (some ad140) l1_1.length c1_1] 66 (0, 0)) (bkq BK137.out) hb); have n4_ := Aside0.mk (blk_below (g := gb138) (o := .cells #[.slice none 0 0, .slice none 0 0] 66 (0, 0)) (bkq BK138.out) hb); have n5_ := Aside0.mk (below_step (hbq HB.out) hb); clear HO149; clear BK136; clear BK137; clear BK138; clear HB; have HO149 := n0_; have HO153 := n1_; have BK136 := n2_; have BK137 := n3_; have BK138 := n4_; have HB := n5_; clear n0_ n1_ n2_ n3_ n4_ n5_; (try clear hb); (try clear hb2); (try clear hk); (try clear hi); (try clear ho0)))
 (try simp only [Act.put, List.setIfInBounds_toArray, List.set_cons_zero, List.set_cons_succ])
 go_cut [68] (fun v68 wc => ∃ (kq : Nat) (x68_12 : Bool), v68 = .bool x68_12 ∧ Aside0 (basis_join.j0 kq t146 t150 x68_12 = some (r1, r2, r3)) ∧ Aside0 (kq ≤ k) ∧ Aside0 (Kd.R (Kd.int .i64) 3 wc w.heap.size (fun k_ => (w.heap.size ≤ k_) ∧ some k_ ≠ (v152 : Value).ownBlock) v148 t146) ∧ Aside0 (Kd.R (Kd.int .i64) 3 wc w.heap.size (fun k_ => (w.heap.size ≤ k_) ∧ some k_ ≠ (v148 : Value).ownBlock) v152 t150) ∧ Aside0 (wc.heap[gb136]? = some (.cells #[(.slice A0_0 l0_0.length c0_0), (.slice (some ad139) l0_1.length c0_1)] 66 (0, 0))) ∧ Aside0 (wc.heap[gb137]? = some (.cells #[(.slice A1_0 l1_0.length c1_0), (.slice (some ad140) l1_1.length c1_1)] 66 (0, 0))) ∧ Aside0 (wc.heap[gb138]? = some (.cells #[(.slice none 0 0), (.slice none 0 0)] 66 (0, 0))) ∧ Aside0 (Below w.heap.size w wc))
 case first =>
  have H := HC13.out
  clear HC13
  by_cases c30 : t147 = true
  ·subst c30
   have H1 : (basis_join.j0 k t146 t150 (!t151)) = some (r1, r2, r3) := by rw [if_pos rfl] at H; exact H
   clear H
   have H := H1
   clear H1
   have H' := Aside0.mk H
   clear H
   go_wp2
   go_meet
   case rel => exact ⟨_, (!t151), (by first | rfl | (simp; done) | (simp [*]; done)), H', ⟨by first | omega | exact Nat.le_refl _⟩, ⟨by refine kq_R ?_; exact Kd.R_mono HO149.out (fun _ hk => ⟨hk.1.1, hk.2⟩)⟩, ⟨by refine kq_R ?_; exact Kd.R_mono HO153.out (fun _ hk => ⟨hk.1.1, hk.2⟩)⟩, ⟨by refine bkq ?_; exact BK136.out⟩, ⟨by refine bkq ?_; exact BK137.out⟩, ⟨by refine bkq ?_; exact BK138.out⟩, ⟨hbq HB.out⟩⟩
  replace c30 := Bool.eq_false_iff.mpr c30
  subst c30
  have H1 : (basis_join.j0 k t146 t150 true) = some (r1, r2, r3) := by rw [if_neg (show ¬ (false = true) by decide)] at H; exact H
  clear H
  have H := H1
  clear H1
  have H' := Aside0.mk H
  clear H
  go_wp2
  go_meet
  case rel => exact ⟨_, (true), (by first | rfl | (simp; done) | (simp [*]; done)), H', ⟨by first | omega | exact Nat.le_refl _⟩, ⟨by refine kq_R ?_; exact Kd.R_mono HO149.out (fun _ hk => ⟨hk.1.1, hk.2⟩)⟩, ⟨by refine kq_R ?_; exact Kd.R_mono HO153.out (fun _ hk => ⟨hk.1.1, hk.2⟩)⟩, ⟨by refine bkq ?_; exact BK136.out⟩, ⟨by refine bkq ?_; exact BK137.out⟩, ⟨by refine bkq ?_; exact BK138.out⟩, ⟨hbq HB.out⟩⟩
 clear HC13
 try clear c1
 try clear p1
 try clear q1
 try clear hx1
 try clear c2
 try clear p2
 try clear c3
 try clear c4
 try clear c4b0
 try clear c5
 try clear c5b0
 try clear c6
 try clear c6b0
 try clear p6
 try clear c9
 try clear c9b0
 try clear c9b1
 try clear p13
 try clear q13
 try clear hx13
 try clear p14
 try clear q14
 try clear hx14
 try clear c21
 try clear c22
 try clear c24
 try clear c30
 try clear hcz23_0
 try clear hcz23_1
 try clear hcz25_0
 try clear hcz25_1
 try clear hcz27_0
 try clear hcz27_1
 try clear hcz28_0
 try clear hcz28_1
 try clear hfz23_0
 try clear hfz23_1
 try clear hfz25_0
 try clear hfz25_1
 try clear hfz27_0
 try clear hfz27_1
 try clear hfz28_0
 try clear hfz28_1
 try clear hx139_0
 try clear hx140_0
 try clear hx142_0
 try clear hx144_0
 try clear p139
 try clear p140
 try clear p142
 try clear p144
 try clear q139
 try clear q140
 try clear q142
 try clear q144
 obtain ⟨kq, x68_12, rfl, HA, HJ12, HO_11, HO_13, BK136, BK137, BK138, HB⟩ := hcut
 cases kq with
 | zero => exact absurd HA.out (by simp [basis_join.j0])
 | succ kj12 =>
  have H := HA.out
  clear HA
  simp only [basis_join.j0] at H
  by_cases c31 : x68_12 = true
  ·subst c31
   have H1 : (some (([] : List Int), ([] : List Int), false)) = some (r1, r2, r3) := by rw [if_pos rfl] at H; exact H
   clear H
   have H := H1
   clear H1
   simp only [Option.some.injEq, Prod.mk.injEq] at H
   obtain ⟨rfl, rfl, rfl⟩ := H
   have hnb32 := NB138_136.out
   have hnc32 := NB136_138.out
   have hnb33 := NB138_137.out
   have hnc33 := NB137_138.out
   have hcz34_0 : wc.cell? ⟨gb138, 0, none⟩ = some (.slice none 0 0) := (blk_cell BK138.out 0).trans rfl
   have hcz34_1 : wc.cell? ⟨gb138, 1, none⟩ = some (.slice none 0 0) := (blk_cell BK138.out 1).trans rfl
   have hfz34_0 := blk_frozen BK138.out 0
   have hfz34_1 := blk_frozen BK138.out 1
   go_wp2
   refine bodyPost_ret (results_ct rfl _ _ gb138 66 #[.slice none 0 0, .slice none 0 0] (0, 0) _ rfl (by refine bkq ?_; refine blk_put (cs := #[.slice none 0 0, .slice none 0 0]) ?_ 1 _ rfl; refine bkq ?_; refine blk_put (cs := #[.slice none 0 0, .slice none 0 0]) ?_ 0 _ rfl; refine bkq ?_; exact BK138.out) Try.underlying66 rfl (by kernel_rfl)) rfl ?_
   exact ⟨_, _, by first | rfl | (simp [errW_none, errW_some] <;> rfl) | (simp [*, errW_none, errW_some] <;> rfl), Kd.R_V (base := 0) (by first | exact Kd.R_nil _ _ _ _ _ | exact Kd.N_nil _ _ _ _ _ | exact Kd.V_nil _ _ _ _ _ | exact Kd.Q_nil _ _ _ _ _ | exact Kd.S_nil _ _ _ _ _), Kd.R_V (base := 0) (by first | exact Kd.R_nil _ _ _ _ _ | exact Kd.N_nil _ _ _ _ _ | exact Kd.V_nil _ _ _ _ _ | exact Kd.Q_nil _ _ _ _ _ | exact Kd.S_nil _ _ _ _ _), hbq HB.out⟩
  replace c31 := Bool.eq_false_iff.mpr c31
  subst c31
  have H1 : ((slices_Clone_int_int.f t146).bind fun t154 => (if t154.length + t150.length < 17592186044416 then ((whole_Norm.f kj12 (t154 ++ t150)).bind fun t160 => (if 0 ≤ (t146.length : Int) then (if (t146.length : Int) ≤ (t160.length : Int) then (some ((t160.take ((t146.length : Int) : Int).toNat), (t160.drop ((t146.length : Int) : Int).toNat), true)) else (none)) else (none))) else (none))) = some (r1, r2, r3) := by rw [if_neg (show ¬ (false = true) by decide)] at H; exact H
  clear H
  have H := H1
  clear H1
  replace H := Option.bind_eq_some_iff.mp H
  obtain ⟨t154, A350, H⟩ := H
  replace H : (if t154.length + t150.length < 17592186044416 then ((whole_Norm.f kj12 (t154 ++ t150)).bind fun t160 => (if 0 ≤ (t146.length : Int) then (if (t146.length : Int) ≤ (t160.length : Int) then (some ((t160.take ((t146.length : Int) : Int).toNat), (t160.drop ((t146.length : Int) : Int).toNat), true)) else (none)) else (none))) else (none)) = some (r1, r2, r3) := H
  have A35 := Aside0.mk A350
  clear A350
  by_cases c36 : t154.length + t150.length < 17592186044416
  case neg => rw [if_neg c36] at H; exact absurd H (by simp)
  rw [if_pos c36] at H
  have LMc36 := Aside0.mk c36
  clear c36
  obtain ⟨y157, hy157⟩ : ∃ y_ : List Int, y_ = (t154 ++ t150) := ⟨_, rfl⟩
  replace H : ((whole_Norm.f kj12 y157).bind fun t160 => (if 0 ≤ (t146.length : Int) then (if (t146.length : Int) ≤ (t160.length : Int) then (some ((t160.take ((t146.length : Int) : Int).toNat), (t160.drop ((t146.length : Int) : Int).toNat), true)) else (none)) else (none))) = some (r1, r2, r3) := by first | (rw [hy157]; with_reducible exact H) | (have H2_ := (Option.bind_some _ _).symm.trans H; rw [hy157]; with_reducible exact H2_) | (have H2_ := (Option.bind_some _ _).symm.trans H; with_reducible exact H2_) | with_reducible exact H | (rw [hy157]; exact H) | exact H
  have Ny157 := Aside0.mk hy157
  clear hy157
  replace H := Option.bind_eq_some_iff.mp H
  obtain ⟨t160, A370, H⟩ := H
  replace H : (if 0 ≤ (t146.length : Int) then (if (t146.length : Int) ≤ (t160.length : Int) then (some ((t160.take ((t146.length : Int) : Int).toNat), (t160.drop ((t146.length : Int) : Int).toNat), true)) else (none)) else (none)) = some (r1, r2, r3) := H
  have A37 := Aside0.mk A370
  clear A370
  by_cases c38 : 0 ≤ (t146.length : Int)
  case neg => rw [if_neg c38] at H; exact absurd H (by simp)
  rw [if_pos c38] at H
  have c38b0 := eq_true c38
  have c38b1 : decide (0 ≤ (t146.length : Int)) = true := decide_eq_true c38
  clear c38
  by_cases c39 : (t146.length : Int) ≤ (t160.length : Int)
  case neg => rw [if_neg c39] at H; exact absurd H (by simp)
  rw [if_pos c39] at H
  have c39b0 := eq_true c39
  have c39b1 : decide ((t146.length : Int) ≤ (t160.length : Int)) = true := decide_eq_true c39
  clear c39
  obtain ⟨y163, hy163⟩ : ∃ y_ : List Int, y_ = (t160.take ((t146.length : Int) : Int).toNat) := ⟨_, rfl⟩
  replace H : (some (y163, (t160.drop ((t146.length : Int) : Int).toNat), true)) = some (r1, r2, r3) := by first | (rw [hy163]; with_reducible exact H) | (have H2_ := (Option.bind_some _ _).symm.trans H; rw [hy163]; with_reducible exact H2_) | (have H2_ := (Option.bind_some _ _).symm.trans H; with_reducible exact H2_) | with_reducible exact H | (rw [hy163]; exact H) | exact H
  have Ny163 := Aside0.mk hy163
  clear hy163
  have c40b0 := eq_true (of_decide_eq_true (by first | (with_reducible assumption) | assumption) : 0 ≤ (t146.length : Int))
  have c41b0 := eq_true (of_decide_eq_true (by first | (with_reducible assumption) | assumption) : (t146.length : Int) ≤ (t160.length : Int))
  obtain ⟨y168, hy168⟩ : ∃ y_ : List Int, y_ = (t160.drop ((t146.length : Int) : Int).toNat) := ⟨_, rfl⟩
  replace H : (some (y163, y168, true)) = some (r1, r2, r3) := by first | (rw [hy168]; with_reducible exact H) | (have H2_ := (Option.bind_some _ _).symm.trans H; rw [hy168]; with_reducible exact H2_) | (have H2_ := (Option.bind_some _ _).symm.trans H; with_reducible exact H2_) | with_reducible exact H | (rw [hy168]; exact H) | exact H
  have Ny168 := Aside0.mk hy168
  clear hy168
  simp only [Option.some.injEq, Prod.mk.injEq] at H
  obtain ⟨rfl, rfl, rfl⟩ := H
  obtain ⟨Ao42, co42, eo42⟩ := Kd.R_slice HO_11.out
  subst eo42
  try go_wp2_with (first | ((with_reducible refine gate_callee (f := 25) rfl ?_); refine goesL_ (some 71) rfl rfl Try.func25 (by kernel_rfl) rfl #[.slice Ao42 t146.length co42] rfl (by (try simp only [List.map_toArray, List.map_cons, List.map_nil]); first | done | rfl | (simp only [List.length_drop, List.length_take]; rfl)) ?_; (with_reducible refine (slices_Clone_int_int.calls _ _ t146 t154 _ ?side1 ?side2 A35.out).mono ?_); (case side1 => repeat (first | exact (Kd.R_reads' HO_11.out).2.2 | (with_reducible refine Kd.C_alloc ?_ _) | (with_reducible refine Kd.C_drewN ?_ _) | (with_reducible refine Kd.C_drew ?_))); (case side2 => exact (Kd.R_reads' HO_11.out).2.1); rintro e w43 ⟨v155, rfl, ho0, hb⟩; refine ⟨_, rfl, ?_⟩; have n0_ := Aside0.mk (Kd.R_elder' (kq_R HO_11.out) (Kd.R_base ho0) hb); have n1_ := Aside0.mk (Kd.R_elder' (kq_R HO_13.out) (Kd.R_base ho0) hb); have n2_ := Aside0.mk (Kd.R_lower (Kd.R_new' (Kd.R_new' (Kd.R_newM (M := fun k_ => (w.heap.size ≤ k_)) ho0 (below_size (hbq HB.out)) (fun k_ h_ => h_)) (Kd.R_lt (kq_R HO_11.out))) (Kd.R_lt (kq_R HO_13.out))) (below_size (hbq HB.out))); have n3_ := Aside0.mk (blk_below (g := gb136) (o := .cells #[.slice A0_0 l0_0.length c0_0, .slice (some ad139) l0_1.length c0_1] 66 (0, 0)) (bkq BK136.out) hb); have n4_ := Aside0.mk (blk_below (g := gb137) (o := .cells #[.slice A1_0 l1_0.length c1_0, .slice (some ad140) l1_1.length c1_1] 66 (0, 0)) (bkq BK137.out) hb); have n5_ := Aside0.mk (blk_below (g := gb138) (o := .cells #[.slice none 0 0, .slice none 0 0] 66 (0, 0)) (bkq BK138.out) hb); have n6_ := Aside0.mk (below_step (hbq HB.out) hb); clear HO_11; clear HO_13; clear BK136; clear BK137; clear BK138; clear HB; have HO_11 := n0_; have HO_13 := n1_; have HO156 := n2_; have BK136 := n3_; have BK137 := n4_; have BK138 := n5_; have HB := n6_; clear n0_ n1_ n2_ n3_ n4_ n5_ n6_; (try clear hb); (try clear hb2); (try clear hk); (try clear hi); (try clear ho0); obtain ⟨Ao45, co45, eo45⟩ := Kd.R_slice HO_13.out; subst eo45) | ((with_reducible refine gate_builtin (b := .append) (xs := #[.tmp 71, .tmp 72]) rfl ?_); at_builtin; refine Kd.R_append_rows (Kd.int .i64) (w0 := w) w.heap.size rfl (.tmp 71) (.tmp 72) 37 3 (.int .i64 0) 8 rfl Try.underlying37 info3 rfl (by decide) (by omega) v155 t154 t150 _ _ _ (fun k_ => (w.heap.size ≤ k_) ∧ some k_ ≠ (.slice Ao42 t146.length co42 : Value).ownBlock ∧ some k_ ≠ (.slice Ao45 t150.length co45 : Value).ownBlock) (fun _ => False) rfl rfl ?aO ?aR (fun _ _ h => h) (fun _ h => h.elim) ?aF ?aB ?aS ?aL ?_; (case aR => repeat (first | exact (Kd.R_reads' HO_13.out).2.2 | (with_reducible refine Kd.C_alloc ?_ _) | (with_reducible refine Kd.C_drewN ?_ _) | (with_reducible refine Kd.C_drew ?_))); (case aB => exact (hbq HB.out)); (case aF => exact (fun k_ hk => ⟨(Nat.le_trans (below_size (hbq HB.out)) hk), Kd.fresh' (Kd.R_lt (kq_R HO_11.out)) k_ hk, Kd.fresh' (Kd.R_lt (kq_R HO_13.out)) k_ hk⟩)); (case aO => exact (by refine kq_R ?_; exact Kd.R_mono HO156.out (fun _ hk => ⟨hk.1.1.1, ⟨hk.1.2, hk.2⟩⟩))); (case aS => exact (below_size (hbq HB.out))); (case aL => have := LMc36.out; omega); intro v158 w44 ho hb hg hat; rw [← Ny157.out] at ho; have n0_ := Aside0.mk (Kd.R_after (ok := (fun k_ => (w.heap.size ≤ k_) ∧ some k_ ≠ (.slice Ao45 t150.length co45 : Value).ownBlock)) (kq_R HO_11.out) hg hat); have n1_ := Aside0.mk (Kd.R_after (ok := (fun k_ => (w.heap.size ≤ k_) ∧ some k_ ≠ (.slice Ao42 t146.length co42 : Value).ownBlock)) (kq_R HO_13.out) hg hat); have n2_ := Aside0.mk (blk_grown (g := gb136) (o := .cells #[.slice A0_0 l0_0.length c0_0, .slice (some ad139) l0_1.length c0_1] 66 (0, 0)) (bkq BK136.out) hg (Kd.R_ne HO156.out BK136.out (by decide))); have n3_ := Aside0.mk (blk_grown (g := gb137) (o := .cells #[.slice A1_0 l1_0.length c1_0, .slice (some ad140) l1_1.length c1_1] 66 (0, 0)) (bkq BK137.out) hg (Kd.R_ne HO156.out BK137.out (by decide))); have n4_ := Aside0.mk (blk_grown (g := gb138) (o := .cells #[.slice none 0 0, .slice none 0 0] 66 (0, 0)) (bkq BK138.out) hg (Kd.R_ne HO156.out BK138.out (by decide))); have n5_ := Aside0.mk (hb); have n6_ := Aside0.mk (ho); clear HO_11; clear HO_13; clear BK136; clear BK137; clear BK138; clear HB; clear HO156; have HO_11 := n0_; have HO_13 := n1_; have BK136 := n2_; have BK137 := n3_; have BK138 := n4_; have HB := n5_; have HO159 := n6_; clear n0_ n1_ n2_ n3_ n4_ n5_ n6_; clear ho hb hg hat; obtain ⟨Ao46, co46, eo46⟩ := Kd.R_slice HO159.out; subst eo46) | ((with_reducible refine gate_callee (f := 41) rfl ?_); refine goesL_ (some 74) rfl rfl Try.func41 (by kernel_rfl) rfl #[.slice Ao46 y157.length co46] rfl (by (try simp only [List.map_toArray, List.map_cons, List.map_nil]); first | done | rfl | (simp only [List.length_drop, List.length_take]; rfl)) ?_; (with_reducible refine (whole_Norm.calls kj12 _ _ y157 t160 _ ?side1 ?side2 A37.out).mono ?_); (case side1 => repeat (first | exact (Kd.R_reads' HO159.out).2.2 | (with_reducible refine Kd.C_alloc ?_ _) | (with_reducible refine Kd.C_drewN ?_ _) | (with_reducible refine Kd.C_drew ?_))); (case side2 => exact (Kd.R_reads' HO159.out).2.1); rintro e w47 ⟨v161, rfl, ho0, hb⟩; refine ⟨_, rfl, ?_⟩; have n0_ := Aside0.mk (Kd.R_elder' (kq_R HO_11.out) (Kd.R_base ho0) hb); have n1_ := Aside0.mk (Kd.R_elder' (kq_R HO_13.out) (Kd.R_base ho0) hb); have n2_ := Aside0.mk (Kd.R_elder' (kq_R HO159.out) (Kd.R_base ho0) hb); have n3_ := Aside0.mk (Kd.R_lower (Kd.R_new' (Kd.R_new' (Kd.R_new' (Kd.R_newM (M := fun k_ => (w.heap.size ≤ k_)) ho0 (below_size (hbq HB.out)) (fun k_ h_ => h_)) (Kd.R_lt (kq_R HO_11.out))) (Kd.R_lt (kq_R HO_13.out))) (Kd.R_lt (kq_R HO159.out))) (below_size (hbq HB.out))); have n4_ := Aside0.mk (blk_below (g := gb136) (o := .cells #[.slice A0_0 l0_0.length c0_0, .slice (some ad139) l0_1.length c0_1] 66 (0, 0)) (bkq BK136.out) hb); have n5_ := Aside0.mk (blk_below (g := gb137) (o := .cells #[.slice A1_0 l1_0.length c1_0, .slice (some ad140) l1_1.length c1_1] 66 (0, 0)) (bkq BK137.out) hb); have n6_ := Aside0.mk (blk_below (g := gb138) (o := .cells #[.slice none 0 0, .slice none 0 0] 66 (0, 0)) (bkq BK138.out) hb); have n7_ := Aside0.mk (below_step (hbq HB.out) hb); clear HO_11; clear HO_13; clear HO159; clear BK136; clear BK137; clear BK138; clear HB; have HO_11 := n0_; have HO_13 := n1_; have HO159 := n2_; have HO162 := n3_; have BK136 := n4_; have BK137 := n5_; have BK138 := n6_; have HB := n7_; clear n0_ n1_ n2_ n3_ n4_ n5_ n6_ n7_; (try clear hb); (try clear hb2); (try clear hk); (try clear hi); (try clear ho0)))
  have n0_ := Aside0.mk (Kd.R_drew HO_11.out)
  have n1_ := Aside0.mk (Kd.R_drew HO_13.out)
  have n2_ := Aside0.mk (Kd.R_drew HO159.out)
  have n3_ := Aside0.mk (Kd.R_drew HO162.out)
  have n4_ := Aside0.mk (blk_drew BK136.out)
  have n5_ := Aside0.mk (blk_drew BK137.out)
  have n6_ := Aside0.mk (blk_drew BK138.out)
  have n7_ := Aside0.mk (below_drew1 HB.out)
  clear HO_11
  clear HO_13
  clear HO159
  clear HO162
  clear BK136
  clear BK137
  clear BK138
  clear HB
  have HO_11 := n0_
  have HO_13 := n1_
  have HO159 := n2_
  have HO162 := n3_
  have BK136 := n4_
  have BK137 := n5_
  have BK138 := n6_
  have HB := n7_
  clear n0_ n1_ n2_ n3_ n4_ n5_ n6_ n7_
  obtain ⟨Ao50, co50, eo50⟩ := Kd.R_slice HO162.out
  (first | subst eo50 | (injection eo50 with f1_ f2_ f3_; have f4_ := f1_.symm; have f5_ := f3_.symm; clear f1_ f2_ f3_; subst f4_; subst f5_))
  have q49 : ((t146.length : Int) : Int) ≤ ((t160.length : Int) : Int) := of_decide_eq_true (by first | (with_reducible assumption) | assumption)
  obtain ⟨i049, hi049, _, hsz49, _⟩ := info_parts info3
  have hroom49 : t160.length ≤ co50 := (Kd.R_reads' HO162.out).2.1
  have hC49 : Kd.F (Kd.int .i64) _ _ Ao50 t160.length t160 := (Kd.V_at (base := w.heap.size) (Kd.R_V (Kd.R_types (Kd.R_types (Kd.R_types (HO162.out) BK136.out (by decide)) BK137.out (by decide)) BK138.out (by decide)))).2.2
  have hcut49 := cut_to (P := Try.prog) 37 3 .i64 Try.underlying37 hi049 Ao50 t160.length co50 (t146.length : Int) (of_decide_eq_true (by first | (with_reducible assumption) | assumption)) q49 hroom49
  have hr49 := Kd.F_take (m := ((t146.length : Int) : Int).toNat) hC49 (by omega)
  have hy49 : y163.length = ((t146.length : Int) : Int).toNat := (by rw [Ny163.out, List.length_take]; omega)
  rw [← Ny163.out] at hr49
  rw [← hy49] at hcut49
  have HO167 := Aside0.mk (show Kd.V (Kd.int .i64) 3 _ w.heap.size _ (.slice Ao50 y163.length co50) y163 from Kd.V_mk (by omega) hr49)
  have HC167 := Aside0.mk (show y163.length ≤ co50 from by omega)
  clear hr49 hC49 hroom49 hi049 hsz49
  have KY49 := Aside0.mk hy49
  clear hy49
  replace q49 := eq_true q49
  have q51 : ((t146.length : Int) : Int) ≤ ((t160.length : Int) : Int) := of_decide_eq_true (by first | (with_reducible assumption) | assumption)
  obtain ⟨i051, hi051, _, hsz51, _⟩ := info_parts info3
  have hroom51 : t160.length ≤ co50 := (Kd.R_reads' HO162.out).2.1
  have hC51 : Kd.F (Kd.int .i64) _ _ Ao50 t160.length t160 := (Kd.V_at (base := w.heap.size) (Kd.R_V (Kd.R_types (Kd.R_types (Kd.R_types (HO162.out) BK136.out (by decide)) BK137.out (by decide)) BK138.out (by decide)))).2.2
  have q051 : (0 : Int) ≤ ((t146.length : Int) : Int) := of_decide_eq_true (by first | (with_reducible assumption) | assumption)
  have hcut51 := cut_from (P := Try.prog) 37 3 .i64 Try.underlying37 hi051 1 hsz51 Ao50 t160.length co50 (t146.length : Int) q051 q51
  have hr51 := Kd.F_cut (m := ((t146.length : Int) : Int).toNat) (c := co50) hC51 (by omega) hroom51
  obtain ⟨A51, hA51⟩ : ∃ A1, A1 = (if co50 = ((t146.length : Int) : Int).toNat then Ao50 else (Ao50 : Option Addr).map (·.add (((t146.length : Int) : Int).toNat * 1))) := ⟨_, rfl⟩
  obtain ⟨c51, hc51⟩ : ∃ c1, c1 = co50 - ((t146.length : Int) : Int).toNat := ⟨_, rfl⟩
  have hy51 : y168.length = t160.length - ((t146.length : Int) : Int).toNat := (by rw [Ny168.out, List.length_drop] <;> omega)
  rw [show (t160).drop ((t146.length : Int) : Int).toNat = y168 from Ny168.out.symm] at hr51
  replace hr51 : Kd.F (Kd.int .i64) _ _ A51 y168.length y168 := (by rw [hA51]; exact hr51)
  rw [← hy51, ← hA51, ← hc51] at hcut51
  have HO172 := Aside0.mk (show Kd.V (Kd.int .i64) 3 _ w.heap.size _ (.slice A51 y168.length c51) y168 from Kd.V_mk (by rw [hy51, hc51]; exact Nat.sub_le_sub_right hroom51 _) hr51)
  have HC172 := Aside0.mk (show y168.length ≤ c51 from by rw [hy51, hc51]; exact Nat.sub_le_sub_right hroom51 _)
  clear hr51 hC51 hroom51 hi051 hsz51 hc51
  have KY51 := Aside0.mk hy51
  have KA51 := Aside0.mk hA51
  clear hy51 hA51
  replace q51 := eq_true q51
  refine start_ (n := 11) (S := fun w' => True) (ds := []) (az [0, 11]) (by kernel_rfl) rfl rfl trivial (fun hHeld => ?_); refine with_tabW basis_join.tab8 basis_join.bits8 (fun HT_ HW_ => ?_)
  generalize w47.drew = w48 at HO_11 HO_13 HO159 HO162 BK136 BK137 BK138 HB HO167 HO172 hHeld ⊢
  refine pure_ (i := 0) (N := some 75) (v := ?_) (a' := ?_) (az [1, 10]) rfl rfl (any_of HT_.out (by kernel_rfl)) (fun _ _ _ h => h) (Or.inl ⟨by rfl, ?_⟩) ?_ ?_
  rotate_left
  ·intro w'
   go_simp
   with_reducible rfl
  rotate_left
  ·simp only [Act.put, List.setIfInBounds_toArray, List.set_cons_zero, List.set_cons_succ, i64_w, i32_w]
   rfl
  refine pure_ (i := 1) (N := some 76) (v := ?_) (a' := ?_) (az [2, 9]) rfl rfl (any_of HT_.out (by kernel_rfl)) (fun _ _ _ h => h) (Or.inl ⟨by rfl, ?_⟩) ?_ ?_
  rotate_left
  ·intro w'
   go_simp
   with_reducible rfl
  rotate_left
  ·simp only [Act.put, List.setIfInBounds_toArray, List.set_cons_zero, List.set_cons_succ, i64_w, i32_w]
   rfl
  refine pure_ (i := 2) (N := some 77) (v := ?_) (a' := ?_) (az [3, 8]) rfl rfl (any_of HT_.out (by kernel_rfl)) (fun _ _ _ h => h) (Or.inl ⟨by rfl, ?_⟩) ?_ ?_
  rotate_left
  ·intro w'
   go_simp
   with_reducible rfl
  rotate_left
  ·simp only [Act.put, List.setIfInBounds_toArray, List.set_cons_zero, List.set_cons_succ, i64_w, i32_w]
   rfl
  refine pure_ (i := 3) (N := some 78) (v := ?_) (a' := ?_) (az [4, 7]) rfl rfl (any_of HT_.out (by kernel_rfl)) (fun _ _ _ h => h) (Or.inl ⟨by rfl, ?_⟩) ?_ ?_
  rotate_left
  ·intro w'
   go_simp
   with_reducible rfl
  rotate_left
  ·simp only [Act.put, List.setIfInBounds_toArray, List.set_cons_zero, List.set_cons_succ, i64_w, i32_w]
   rfl
  refine pure_ (i := 4) (N := some 79) (v := ?_) (a' := ?_) (az [5, 6]) rfl rfl (any_of HT_.out (by kernel_rfl)) (fun _ _ _ h => h) (Or.inl ⟨by rfl, ?_⟩) ?_ ?_
  rotate_left
  ·intro w'
   go_simp
   with_reducible rfl
  rotate_left
  ·simp only [Act.put, List.setIfInBounds_toArray, List.set_cons_zero, List.set_cons_succ, i64_w, i32_w]
   rfl
  refine pure_ (i := 5) (N := some 80) (v := ?_) (a' := ?_) (az [6, 5]) rfl rfl (any_of HT_.out (by kernel_rfl)) (fun _ _ _ h => h) (Or.inl ⟨by rfl, ?_⟩) ?_ ?_
  rotate_left
  ·intro w'
   go_simp
   with_reducible rfl
  rotate_left
  ·simp only [Act.put, List.setIfInBounds_toArray, List.set_cons_zero, List.set_cons_succ, i64_w, i32_w]
   rfl
  refine pure_ (i := 6) (N := some 81) (v := ?_) (a' := ?_) (az [7, 4]) rfl rfl (any_of HT_.out (by kernel_rfl)) (fun _ _ _ h => h) (Or.inl ⟨by rfl, ?_⟩) ?_ ?_
  rotate_left
  ·intro w'
   go_simp
   with_reducible rfl
  rotate_left
  ·simp only [Act.put, List.setIfInBounds_toArray, List.set_cons_zero, List.set_cons_succ, i64_w, i32_w]
   rfl
  refine pure_ (i := 7) (N := some 82) (v := ?_) (a' := ?_) (az [8, 3]) rfl rfl (any_of HT_.out (by kernel_rfl)) (fun _ _ _ h => h) (Or.inl ⟨by rfl, ?_⟩) ?_ ?_
  rotate_left
  ·intro w'
   go_simp
   with_reducible rfl
  rotate_left
  ·simp only [Act.put, List.setIfInBounds_toArray, List.set_cons_zero, List.set_cons_succ, i64_w, i32_w]
   rfl
  refine pure_ (i := 8) (N := some 83) (v := ?_) (a' := ?_) (az [9, 2]) rfl rfl (any_of HT_.out (by kernel_rfl)) (fun _ _ _ h => h) (Or.inl ⟨by rfl, ?_⟩) ?_ ?_
  rotate_left
  ·intro w'
   go_simp
   with_reducible rfl
  rotate_left
  ·simp only [Act.put, List.setIfInBounds_toArray, List.set_cons_zero, List.set_cons_succ, i64_w, i32_w]
   rfl
  refine one_ (i := 9) (N := none) (az [10, 1]) rfl rfl (one_of HT_.out (by kernel_rfl)) (by decide) (fun K hK => ?_)
  have hs52 : w48.cell? ⟨gb138, 0, none⟩ = some (.slice none 0 0) := (blk_cell BK138.out 0).trans rfl
  have hfs52 := blk_frozen BK138.out 0
  have hns52_0 := NB136_138.out
  have hns52_1 := NB137_138.out
  have hms52_0 := NB138_136.out
  have hms52_1 := NB138_137.out
  have hs53 : w48.cell? ⟨gb138, 1, none⟩ = some (.slice none 0 0) := (blk_cell BK138.out 1).trans rfl
  have hfs53 := blk_frozen BK138.out 1
  have hns53_0 := NB136_138.out
  have hns53_1 := NB137_138.out
  have hms53_0 := NB138_136.out
  have hms53_1 := NB138_137.out
  refine skip_ (w1 := ?_) (by rfl) rfl ?_ ?_
  rotate_left
  ·go_simp
   rfl
  refine hK.out _ _ trivial (fun hHeld => ?_)
  clear hK K
  refine pure_ (i := 10) (N := some 7) (v := ?_) (a' := ?_) (az [11]) rfl rfl (any_of HT_.out (by kernel_rfl)) (fun _ _ _ h => h) (Or.inl ⟨by rfl, ?_⟩) ?_ ?_
  rotate_left
  ·intro w'
   go_simp
   with_reducible rfl
  rotate_left
  ·simp only [Act.put, List.setIfInBounds_toArray, List.set_cons_zero, List.set_cons_succ, i64_w, i32_w]
   rfl
  refine done_ (done_of HT_.out (by kernel_rfl)) ?_
  try go_wp2
  refine bodyPost_ret (results_ct rfl _ _ gb138 66 #[.slice Ao50 y163.length co50, .slice A51 y168.length c51] (0, 0) _ rfl (by refine bkq ?_; refine blk_put (cs := #[.slice Ao50 y163.length co50, .slice none 0 0]) ?_ 1 _ rfl; refine bkq ?_; refine blk_put (cs := #[.slice none 0 0, .slice none 0 0]) ?_ 0 _ rfl; refine bkq ?_; exact BK138.out) Try.underlying66 rfl (by kernel_rfl)) rfl ?_
  exact ⟨_, _, by first | rfl | (simp [errW_none, errW_some] <;> rfl) | (simp [*, errW_none, errW_some] <;> rfl), by refine kq_V ?_; exact Kd.V_mono (Kd.V_far (p := ⟨gb138, 1, none⟩) (Kd.V_far (p := ⟨gb138, 0, none⟩) (Kd.V_mono HO167.out (fun k_ hk => (⟨hk, hk.2⟩ : _ ∧ k_ ≠ gb138))) (fun _ hk => hk.2) (.slice Ao50 y163.length co50)) (fun _ hk => hk.2) (.slice A51 y168.length c51)) (fun _ hk => hk.1.1.1.1.1.1.1.1), by refine kq_V ?_; exact Kd.V_mono (Kd.V_far (p := ⟨gb138, 1, none⟩) (Kd.V_far (p := ⟨gb138, 0, none⟩) (Kd.V_mono HO172.out (fun k_ hk => (⟨hk, hk.2⟩ : _ ∧ k_ ≠ gb138))) (fun _ hk => hk.2) (.slice Ao50 y163.length co50)) (fun _ hk => hk.2) (.slice A51 y168.length c51)) (fun _ hk => hk.1.1.1.1.1.1.1.1), hbq HB.out⟩

end Go.Proofs.Ytifbflpaednfnaa.PBasisMore
