/- What the functions that this law reaches answer, in whatever memory, and the row of the law; no condition. Written by a program of this session (mk.sh). -/
import Derived.Test.YtifbflpaednfnaaPBasisMorex0
namespace Go.Proofs.Ytifbflpaednfnaa.PBasisMore
open Go.RowKit Go.Proofs.YtifbflpaednfnaaW.PrintWords Go.Proofs.YtifbflpaednfnaaW.PrintLast Go.Proofs.YtifbflpaednfnaaW.PrintMore
attribute [local go_sem] max2_int min2_int max_two min_two max_three min_three max_four min_four   -- for this text's walks alone
set_option linter.unusedVariables false
set_option linter.unusedSimpArgs false

/-! ### matrix_Of: function 24 -/
mutual
def matrix_Of.l0 : Nat → List (List Int) → Int → Int → List (S46) → List (S54) → Option ((List (List Int)))
 | 0, _, _, _, _, _ => none
 | k + 1, x3, x16, x17, x239000, x239001 => if x17 < x16 then (if 0 ≤ (x239001.length : Int) then (if ((x239001.length : Int) : Int).toNat ≤ 35184372088832 then (if 0 ≤ x17 then (if x17 < (x3.length : Int) then (matrix_Of.l0 k (x3.set (x17 : Int).toNat (List.replicate ((x239001.length : Int) : Int).toNat 0)) x16 (wrap64 (x17 + 1)) x239000 x239001) else (none)) else (none)) else (none)) else (none)) else (matrix_Of.l1 k x3 x239001 (x239001.length : Int) 0)
def matrix_Of.l1 : Nat → List (List Int) → List (S54) → Int → Int → Option ((List (List Int)))
 | 0, _, _, _, _ => none
 | k + 1, x3, x29, x30, x31 => if x31 < x30 then (if 0 ≤ x31 then (if x31 < (x29.length : Int) then (matrix_Of.l2 k x3 x31 x29 x30 x31 ((rd_T54 x29 x31).f3) (((rd_T54 x29 x31).f3).length : Int) 0 ((rd_T54 x29 x31).f0) ((rd_T54 x29 x31).f1) ((rd_T54 x29 x31).f2) ((rd_T54 x29 x31).f3) ((rd_T54 x29 x31).f4) ((rd_T54 x29 x31).f5)) else (none)) else (none)) else (some x3)
def matrix_Of.l2 : Nat → List (List Int) → Int → List (S54) → Int → Int → List (S51) → Int → Int → ByteArray → Int → Int → List (S51) → List (S51) → List (S51) → Option ((List (List Int)))
 | 0, _, _, _, _, _, _, _, _, _, _, _, _, _, _ => none
 | k + 1, x3, x5, x29, x30, x31, x37, x38, x39, x248000, x248001, x248002, x248003, x248004, x248005 => if x39 < x38 then (if 0 ≤ x39 then (if x39 < (x37.length : Int) then (if 0 ≤ ((rd_T51 x37 x39).f0) then (if ((rd_T51 x37 x39).f0) < (x3.length : Int) then (if 0 ≤ x5 then (if x5 < ((rd_L1 x3 ((rd_T51 x37 x39).f0)).length : Int) then (matrix_Of.l2 k (x3.set (((rd_T51 x37 x39).f0) : Int).toNat ((rd_L1 x3 ((rd_T51 x37 x39).f0)).set (x5 : Int).toNat (wrap64 ((rd (rd_L1 x3 ((rd_T51 x37 x39).f0)) x5) - ((rd_T51 x37 x39).f1))))) x5 x29 x30 x31 x37 x38 (wrap64 (x39 + 1)) x248000 x248001 x248002 x248003 x248004 x248005) else (none)) else (none)) else (none)) else (none)) else (none)) else (none)) else (matrix_Of.l3 k x3 x5 x29 x30 x31 x248005 (x248005.length : Int) 0)
def matrix_Of.l3 : Nat → List (List Int) → Int → List (S54) → Int → Int → List (S51) → Int → Int → Option ((List (List Int)))
 | 0, _, _, _, _, _, _, _, _ => none
 | k + 1, x3, x5, x29, x30, x31, x57, x58, x59 => if x59 < x58 then (if 0 ≤ x59 then (if x59 < (x57.length : Int) then (if 0 ≤ ((rd_T51 x57 x59).f0) then (if ((rd_T51 x57 x59).f0) < (x3.length : Int) then (if 0 ≤ x5 then (if x5 < ((rd_L1 x3 ((rd_T51 x57 x59).f0)).length : Int) then (matrix_Of.l3 k (x3.set (((rd_T51 x57 x59).f0) : Int).toNat ((rd_L1 x3 ((rd_T51 x57 x59).f0)).set (x5 : Int).toNat (wrap64 ((rd (rd_L1 x3 ((rd_T51 x57 x59).f0)) x5) + ((rd_T51 x57 x59).f1))))) x5 x29 x30 x31 x57 x58 (wrap64 (x59 + 1))) else (none)) else (none)) else (none)) else (none)) else (none)) else (none)) else (matrix_Of.l1 k x3 x29 x30 (wrap64 (x31 + 1)))
end
def matrix_Of.f (k : Nat) (l0_0 : List (S46)) (l0_1 : List (S54)) : Option ((List (List Int))) := if 0 ≤ (l0_0.length : Int) then (if ((l0_0.length : Int) : Int).toNat ≤ 11728124029610 then ((some (List.replicate ((l0_0.length : Int) : Int).toNat [] : List (List Int))).bind fun y239 => (matrix_Of.l0 k y239 (y239.length : Int) 0 l0_0 l0_1)) else (none)) else (none)
theorem matrix_Of.mono_l : ∀ k, (∀ y0 y1 y2 y3 y4, LeO (matrix_Of.l0 k y0 y1 y2 y3 y4) (matrix_Of.l0 (k + 1) y0 y1 y2 y3 y4)) ∧ (∀ y0 y1 y2 y3, LeO (matrix_Of.l1 k y0 y1 y2 y3) (matrix_Of.l1 (k + 1) y0 y1 y2 y3)) ∧ (∀ y0 y1 y2 y3 y4 y5 y6 y7 y8 y9 y10 y11 y12 y13, LeO (matrix_Of.l2 k y0 y1 y2 y3 y4 y5 y6 y7 y8 y9 y10 y11 y12 y13) (matrix_Of.l2 (k + 1) y0 y1 y2 y3 y4 y5 y6 y7 y8 y9 y10 y11 y12 y13)) ∧ (∀ y0 y1 y2 y3 y4 y5 y6 y7, LeO (matrix_Of.l3 k y0 y1 y2 y3 y4 y5 y6 y7) (matrix_Of.l3 (k + 1) y0 y1 y2 y3 y4 y5 y6 y7))
 | 0 => ⟨fun _ _ _ _ _ r h => by simp [matrix_Of.l0] at h, fun _ _ _ _ r h => by simp [matrix_Of.l1] at h, fun _ _ _ _ _ _ _ _ _ _ _ _ _ _ r h => by simp [matrix_Of.l2] at h, fun _ _ _ _ _ _ _ _ r h => by simp [matrix_Of.l3] at h⟩
 | k + 1 => by
  obtain ⟨ih0, ih1, ih2, ih3⟩ := matrix_Of.mono_l k
  refine ⟨?_, ?_, ?_, ?_⟩
  all_goals
   intros
   first
   | unfold matrix_Of.l0
   | unfold matrix_Of.l1
   | unfold matrix_Of.l2
   | unfold matrix_Of.l3
   repeat' first
   | (with_reducible exact ih0 _ _ _ _ _)
   | (with_reducible exact ih1 _ _ _ _)
   | (with_reducible exact ih2 _ _ _ _ _ _ _ _ _ _ _ _ _ _)
   | (with_reducible exact ih3 _ _ _ _ _ _ _ _)
   | (with_reducible exact LeO.refl _)
   | (with_reducible exact LeO.none _)
   | (with_reducible refine LeO.ite ?_ ?_)
   | (with_reducible refine LeO.bind ?_ (fun _ => ?_))
   | exact ih0 _ _ _ _ _
   | exact ih1 _ _ _ _
   | exact ih2 _ _ _ _ _ _ _ _ _ _ _ _ _ _
   | exact ih3 _ _ _ _ _ _ _ _
   | exact LeO.none _
   | refine LeO.ite ?_ ?_
   | refine LeO.bind ?_ (fun _ => ?_)
theorem matrix_Of.mono : ∀ a0 a1 k, LeO (matrix_Of.f k a0 a1) (matrix_Of.f (k + 1) a0 a1) := by
 intro a0 a1 k
 obtain ⟨ih0, ih1, ih2, ih3⟩ := matrix_Of.mono_l k
 unfold matrix_Of.f
 repeat' first
  | (with_reducible exact ih0 _ _ _ _ _)
  | (with_reducible exact ih1 _ _ _ _)
  | (with_reducible exact ih2 _ _ _ _ _ _ _ _ _ _ _ _ _ _)
  | (with_reducible exact ih3 _ _ _ _ _ _ _ _)
  | (with_reducible exact LeO.refl _)
  | (with_reducible exact LeO.none _)
  | (with_reducible refine LeO.ite ?_ ?_)
  | (with_reducible refine LeO.bind ?_ (fun _ => ?_))
  | exact ih0 _ _ _ _ _
  | exact ih1 _ _ _ _
  | exact ih2 _ _ _ _ _ _ _ _ _ _ _ _ _ _
  | exact ih3 _ _ _ _ _ _ _ _
  | exact LeO.none _
  | refine LeO.ite ?_ ?_
  | refine LeO.bind ?_ (fun _ => ?_)
def matrix_Of.T13 : Bool × List (List Nat × List Nat) := (true, [([], []), ([], []), ([1], [1]), ([0, 2], [0, 2]), ([3], [3]), ([], []), ([4, 5], [4, 5]), ([6], [6]), ([], []), ([8], [8]), ([7, 9], [7, 9]), ([4, 5, 0, 1, 2, 3, 4, 5, 6, 7, 8, 9, 10], [4, 5]), ([11, 10, 0, 1, 2, 3, 4, 5, 6, 7, 8, 9, 10], [10, 11])])
def matrix_Of.B13 : List Nat := [0, 0, 2, 7, 15, 0, 63, 127, 0, 256, 1023, 2047, 4095]
theorem matrix_Of.tab13 : rtab .any (opsOf Try.f24 13) = matrix_Of.T13 := by kernel_rfl
theorem matrix_Of.bits13 : waitsOk matrix_Of.T13.2 matrix_Of.B13 = true := by kernel_rfl
def matrix_Of.T18 : Bool × List (List Nat × List Nat) := (true, [([], []), ([], []), ([1], [1]), ([0, 2], [0, 2]), ([3], [3]), ([], []), ([4, 5], [4, 5]), ([6], [6]), ([], []), ([8], [8]), ([7, 9], [7, 9]), ([4, 5, 0, 1, 2, 3, 4, 5, 6, 7, 8, 9, 10], [4, 5]), ([11, 10, 0, 1, 2, 3, 4, 5, 6, 7, 8, 9, 10], [10, 11])])
def matrix_Of.B18 : List Nat := [0, 0, 2, 7, 15, 0, 63, 127, 0, 256, 1023, 2047, 4095]
theorem matrix_Of.tab18 : rtab .any (opsOf Try.f24 18) = matrix_Of.T18 := by kernel_rfl
theorem matrix_Of.bits18 : waitsOk matrix_Of.T18.2 matrix_Of.B18 = true := by kernel_rfl
set_option maxHeartbeats 8000000 in
set_option maxRecDepth 100000 in
theorem matrix_Of.calls (k : Nat) (A0_0 : Option Addr) (c0_0 : Nat) (l0_0 : List (S46)) (A0_1 : Option Addr) (c0_1 : Nat) (l0_1 : List (S54)) (r : List (List Int)) (w : World) (hr0_0 : Kd.C k46 w A0_0 l0_0.length l0_0) (hc0_0 : l0_0.length ≤ c0_0) (hr0_1 : Kd.C k54 w A0_1 l0_1.length l0_1) (hc0_1 : l0_1.length ≤ c0_1) (h : matrix_Of.f k l0_0 l0_1 = some r) :
 Calls Try.prog 24 #[.agg #[.slice A0_0 l0_0.length c0_0, .slice A0_1 l0_1.length c0_1]] w fun e w' => ∃ v0_ : Value, e = .returned (v0_) ∧ Kd.S (Kd.slice 3 (Kd.int .i64)) 37 w' w.heap.size (fun _ => True) v0_ r ∧ Below w.heap.size w w' := by
 have hu31 := Try.underlying31
 have hu54 := Try.underlying54
 have hu51 := Try.underlying51
 have HR0_0 := Aside0.mk hr0_0
 have HC0_0 := Aside0.mk hc0_0
 clear hr0_0 hc0_0
 have HR0_1 := Aside0.mk hr0_1
 have HC0_1 := Aside0.mk hc0_1
 clear hr0_1 hc0_1
 have HB := Aside0.mk (Below.refl w.heap.size w)
 have H : (if 0 ≤ (l0_0.length : Int) then (if ((l0_0.length : Int) : Int).toNat ≤ 11728124029610 then ((some (List.replicate ((l0_0.length : Int) : Int).toNat [] : List (List Int))).bind fun y239 => (matrix_Of.l0 k y239 (y239.length : Int) 0 l0_0 l0_1)) else (none)) else (none)) = some r := h
 clear h
 by_cases c2 : 0 ≤ (l0_0.length : Int)
 case neg => rw [if_neg c2] at H; exact absurd H (by simp)
 rw [if_pos c2] at H
 have c2b0 := eq_true c2
 have c2b1 : decide (0 ≤ (l0_0.length : Int)) = true := decide_eq_true c2
 clear c2
 by_cases c3 : ((l0_0.length : Int) : Int).toNat ≤ 11728124029610
 case neg => rw [if_neg c3] at H; exact absurd H (by simp)
 rw [if_pos c3] at H
 have c3b0 := eq_true c3
 have c3b1 : decide (((l0_0.length : Int) : Int).toNat ≤ 11728124029610) = true := decide_eq_true c3
 clear c3
 obtain ⟨y239, hy239⟩ : ∃ y_ : List (List Int), y_ = (List.replicate ((l0_0.length : Int) : Int).toNat []) := ⟨_, rfl⟩
 replace H : (matrix_Of.l0 k y239 (y239.length : Int) 0 l0_0 l0_1) = some r := by first | (rw [hy239]; with_reducible exact H) | (have H2_ := (Option.bind_some _ _).symm.trans H; rw [hy239]; with_reducible exact H2_) | (have H2_ := (Option.bind_some _ _).symm.trans H; with_reducible exact H2_) | with_reducible exact H | (rw [hy239]; exact H) | exact H
 have Ny239 := Aside0.mk hy239
 clear hy239
 have H' := Aside0.mk H
 clear H
 go_enter Try.func24, Try.ntmps24
 go_wp2_with (first | ((with_reducible refine gate_dst (N := 1) rfl ?_); refine box_event ?hg (N := 1) ?hd (cs := #[.slice A0_0 l0_0.length c0_0, .slice A0_1 l0_1.length c0_1]) (t := 31) ?hr ?_; (case hd => rfl); (case hg => rfl); (case hr => first | (go_simp; done) | (go_simp; rfl)); intro gb238 hg w4 hbox hb; have n0_ := Aside0.mk (below_step (hbq HB.out) hb); have n1_ := Aside0.mk (hbox); have n2_ := Aside0.mk ((by rw [hg]; exact (below_size (hbq HB.out)) : w.heap.size ≤ gb238)); have n3_ := Aside0.mk ((by rw [hg]; exact (below_size (hbq HB.out)) : w.heap.size ≤ gb238)); clear HB; have HB := n0_; have BK238 := n1_; have GW238 := n2_; have GE238 := n3_; clear n0_ n1_ n2_ n3_; clear hb hbox hg; have hcz5_0 : w4.cell? ⟨gb238, 0, none⟩ = some (.slice A0_0 l0_0.length c0_0) := (blk_cell BK238.out 0).trans rfl; have hcz5_1 : w4.cell? ⟨gb238, 1, none⟩ = some (.slice A0_1 l0_1.length c0_1) := (blk_cell BK238.out 1).trans rfl; have hfz5_0 := blk_frozen BK238.out 0; have hfz5_1 := blk_frozen BK238.out 1) | ((with_reducible refine gate_dst (N := 14) rfl ?_); refine Kd.S_make (Kd.slice 3 (Kd.int .i64)) _ 37 rfl (N := 14) rfl 38 _ _ rfl (l0_0.length : Int) rfl rfl Try.underlying38 (.slice none 0 0) 24 info37 rfl (by decide) (by omega) [] (ok := fun _ => True) (okp := fun _ => True) ⟨_, rfl, Kd.R_nil _ _ _ _ _⟩ (fun _ hk => hk) trivial (of_decide_eq_true (by first | (with_reducible assumption) | assumption)) (Nat.le_trans (Nat.mul_le_mul_right _ (of_decide_eq_true (by first | (with_reducible assumption) | assumption) : (l0_0.length : Int).toNat ≤ 11728124029610)) (by omega)) (Below.refl _ _) (Nat.le_refl _) ?_; intro v240 w6 ho7 hb hg_ hnew_; clear hg_ hnew_; (first | rw [← Ny239.out] at ho7 | (simp only [Int.reduceToNat] at ho7; rw [← Ny239.out] at ho7)); have n0_ := Aside0.mk (Kd.S_lower ho7 (below_size (hbq HB.out))); have n1_ := Aside0.mk (blk_below (g := gb238) (o := .cells #[.slice A0_0 l0_0.length c0_0, .slice A0_1 l0_1.length c0_1] 31 (0, 0)) (bkq BK238.out) hb); have n2_ := Aside0.mk (below_step (hbq HB.out) hb); clear BK238; clear HB; have HO241 := n0_; have BK238 := n1_; have HB := n2_; clear n0_ n1_ n2_; clear hb ho7; obtain ⟨Ao8, co8, eo8⟩ := Kd.S_slice HO241.out; subst eo8))
 go_loopg [17] k (fun kq v17 w' => ∃ (x3_1 : List (List Int)) (x17_1 : Int), v17 = .int .i64 x17_1 ∧ Aside0 (matrix_Of.l0 kq x3_1 (y239.length : Int) x17_1 l0_0 l0_1 = some r) ∧ Aside0 (kq ≤ k) ∧ Aside0 (Kd.S (Kd.slice 3 (Kd.int .i64)) 37 w' w.heap.size (fun _ => True) (.slice Ao8 y239.length co8) x3_1) ∧ Aside0 (w'.heap[gb238]? = some (.cells #[(.slice A0_0 l0_0.length c0_0), (.slice A0_1 l0_1.length c0_1)] 31 (0, 0))) ∧ Aside0 (Below w.heap.size w w'))
 case atStart => exact ⟨(y239), (0), (by first | rfl | (simp; done) | (simp [*]; done)), H', ⟨Nat.le_refl _⟩, ⟨by refine kq_S ?_; exact HO241.out⟩, ⟨by refine bkq ?_; exact BK238.out⟩, ⟨hbq HB.out⟩⟩
 clear H'
 try clear c2
 try clear c2b0
 try clear c2b1
 try clear p2
 try clear c3
 try clear c3b0
 try clear c3b1
 try clear hcz5_0
 try clear hcz5_1
 try clear hfz5_0
 try clear hfz5_1
 obtain ⟨x3_1, x17_1, rfl, HA, HK1, HO_3, BK238, HB⟩ := hrel
 have hl3_1 := (Kd.S_reads' HO_3.out).1
 rw [hl3_1] at HO_3
 (try simp only [hl3_1])
 (try simp only [hl3_1] at BK238)
 cases gk with
 | zero => exact absurd HA.out (by simp [matrix_Of.l0])
 | succ k1 =>
  have H := HA.out
  clear HA
  simp only [matrix_Of.l0] at H
  by_cases c9 : x17_1 < (y239.length : Int)
  ·rw [if_pos c9] at H
   have c9b0 : decide (x17_1 < (y239.length : Int)) = true := decide_eq_true c9
   (try (have c9g0 := c9b0; simp only [hl3_1] at c9g0))
   clear c9
   by_cases c10 : 0 ≤ (l0_1.length : Int)
   case neg => rw [if_neg c10] at H; exact absurd H (by simp)
   rw [if_pos c10] at H
   have c10b0 := eq_true c10
   have c10b1 : decide (0 ≤ (l0_1.length : Int)) = true := decide_eq_true c10
   clear c10
   by_cases c11 : ((l0_1.length : Int) : Int).toNat ≤ 35184372088832
   case neg => rw [if_neg c11] at H; exact absurd H (by simp)
   rw [if_pos c11] at H
   have c11b0 := eq_true c11
   have c11b1 : decide (((l0_1.length : Int) : Int).toNat ≤ 35184372088832) = true := decide_eq_true c11
   clear c11
   obtain ⟨y242, hy242⟩ : ∃ y_ : List Int, y_ = (List.replicate ((l0_1.length : Int) : Int).toNat 0) := ⟨_, rfl⟩
   replace H : (if 0 ≤ x17_1 then (if x17_1 < (x3_1.length : Int) then (matrix_Of.l0 k1 (x3_1.set (x17_1 : Int).toNat y242) (y239.length : Int) (wrap64 (x17_1 + 1)) l0_0 l0_1) else (none)) else (none)) = some r := by first | (rw [hy242]; with_reducible exact H) | (have H2_ := (Option.bind_some _ _).symm.trans H; rw [hy242]; with_reducible exact H2_) | (have H2_ := (Option.bind_some _ _).symm.trans H; with_reducible exact H2_) | with_reducible exact H | (rw [hy242]; exact H) | exact H
   have Ny242 := Aside0.mk hy242
   clear hy242
   by_cases c12 : 0 ≤ x17_1
   case neg => rw [if_neg c12] at H; exact absurd H (by simp)
   rw [if_pos c12] at H
   have c12b0 : decide (0 ≤ x17_1) = true := decide_eq_true c12
   clear c12
   by_cases c13 : x17_1 < (x3_1.length : Int)
   case neg => rw [if_neg c13] at H; exact absurd H (by simp)
   rw [if_pos c13] at H
   have c13b0 : decide (x17_1 < (x3_1.length : Int)) = true := decide_eq_true c13
   (try (have c13g0 := c13b0; simp only [hl3_1] at c13g0))
   clear c13
   obtain ⟨y245, hy245⟩ : ∃ y_ : List (List Int), y_ = (x3_1.set (x17_1 : Int).toNat y242) := ⟨_, rfl⟩
   replace H : (matrix_Of.l0 k1 y245 (y239.length : Int) (wrap64 (x17_1 + 1)) l0_0 l0_1) = some r := by first | (rw [hy245]; with_reducible exact H) | (have H2_ := (Option.bind_some _ _).symm.trans H; rw [hy245]; with_reducible exact H2_) | (have H2_ := (Option.bind_some _ _).symm.trans H; with_reducible exact H2_) | with_reducible exact H | (rw [hy245]; exact H) | exact H
   have Ny245 := Aside0.mk hy245
   clear hy245
   have H' := Aside0.mk H
   clear H
   have hcz15_0 : wr.cell? ⟨gb238, 0, none⟩ = some (.slice A0_0 l0_0.length c0_0) := (blk_cell BK238.out 0).trans rfl
   have hcz15_1 : wr.cell? ⟨gb238, 1, none⟩ = some (.slice A0_1 l0_1.length c0_1) := (blk_cell BK238.out 1).trans rfl
   have hfz15_0 := blk_frozen BK238.out 0
   have hfz15_1 := blk_frozen BK238.out 1
   go_wp2_with (first | ((with_reducible refine gate_dst (N := 25) rfl ?_); refine Kd.R_make (Kd.int .i64) _ 3 rfl (N := 25) rfl 37 _ _ rfl (l0_1.length : Int) rfl rfl Try.underlying37 (.int .i64 0) 8 info3 rfl (by decide) (by omega) 0 (ok := fun _ => True) (okp := fun _ => True) rfl (fun _ hk => hk) trivial (of_decide_eq_true (by first | (with_reducible assumption) | assumption)) (Nat.le_trans (Nat.mul_le_mul_right _ (of_decide_eq_true (by first | (with_reducible assumption) | assumption) : (l0_1.length : Int).toNat ≤ 35184372088832)) (by omega)) (Below.refl _ _) (Nat.le_refl _) ?_; intro v243 w16 ho17 hb hg_ hnew_; clear hg_ hnew_; (first | rw [← Ny242.out] at ho17 | (simp only [Int.reduceToNat] at ho17; rw [← Ny242.out] at ho17)); have n0_ := Aside0.mk (Kd.S_elder' (kq_S HO_3.out) (Kd.R_base ho17) hb); have n1_ := Aside0.mk (Kd.R_lower ho17 (below_size (hbq HB.out))); have n2_ := Aside0.mk (blk_below (g := gb238) (o := .cells #[.slice A0_0 l0_0.length c0_0, .slice A0_1 l0_1.length c0_1] 31 (0, 0)) (bkq BK238.out) hb); have n3_ := Aside0.mk (below_step (hbq HB.out) hb); clear HO_3; clear BK238; clear HB; have HO_3 := n0_; have HO244 := n1_; have BK238 := n2_; have HB := n3_; clear n0_ n1_ n2_ n3_; clear hb ho17; have p14 : 0 ≤ (x17_1 : Int) := of_decide_eq_true (by first | (with_reducible assumption) | assumption); have q14 : (x17_1 : Int) < ((x3_1.length : Int) : Int) := of_decide_eq_true (by first | (with_reducible assumption) | assumption); obtain ⟨go14, co14, eo14, gb14, gl14, cl14, HG14⟩ := Kd.S_form HO_3.out (by omega); (first | cases eo14 | (injection eo14 with ea_ en_ ec_; (first | subst ea_ | (injection ea_ with ea_; subst ea_)); subst ec_; clear en_)); have GB14 := Aside0.mk gb14; have GG14 := Aside0.mk HG14; clear gb14 gl14 HG14; obtain ⟨_, ce14, hcl14, hM14, hcc14, hfr14, _, _⟩ := Kd.S_elem HO_3.out [] (x17_1 : Int) p14 q14; obtain ⟨ve14_0, rfl, ge14_0⟩ := id hM14; have hx14_0 := hcc14 0 _ rfl; have hf14_0 := hfr14 0; (try simp only [show ((Kd.slice 3 (Kd.int .i64))).sz = 1 from rfl, Nat.mul_one, Nat.add_zero] at hx14_0); (try simp only [show ((Kd.slice 3 (Kd.int .i64))).sz = 1 from rfl, Nat.mul_one, Nat.add_zero] at hf14_0); clear hcl14 hcc14 hfr14 hM14; replace p14 := eq_true p14; replace q14 := eq_true q14; obtain ⟨Ao18, co18, eo18⟩ := Kd.R_slice HO244.out; subst eo18; have n_ := Aside0.mk (Kd.S_mono (ok' := (fun k_ => some k_ ≠ (.slice Ao18 y242.length co18 : Value).ownBlock)) HO_3.out (fun k_ hk => hk.2)); clear HO_3; have HO_3 := n_; clear n_; have HX19 := Aside0.mk (show Kd.S (Kd.slice 3 (Kd.int .i64)) 37 w16 w.heap.size (fun k_ => ((fun _ => True)) k_ ∧ ¬ ((fun k_ => some k_ = (.slice Ao18 y242.length co18 : Value).ownBlock)) k_) (.slice (some ⟨go14, 0, none⟩) x3_1.length co8) x3_1 from (by refine kq_S ?_; exact Kd.S_mono HO_3.out (fun k_ hk => ⟨trivial, fun e_ => hk e_⟩))); obtain ⟨oki19, ce19, hcl19, hM19, hcc19, hfr19, hoki19, hH19⟩ := Kd.S_elem HX19.out [] (x17_1 : Int) (of_decide_eq_true (by first | (with_reducible assumption) | assumption)) (by have h_ : (x17_1 : Int) < ((x3_1.length : Int) : Int) := of_decide_eq_true (by first | (with_reducible assumption) | assumption); first | exact h_ | (have e_ := (Kd.S_reads' HO_3.out).1; omega) | simpa using h_); obtain ⟨ve19_0, rfl, ge19_0⟩ := id hM19; have HP19 := Kd.S_seg hH19 (of_decide_eq_true (by first | (with_reducible assumption) | assumption)) (by have h_ : (x17_1 : Int) < ((x3_1.length : Int) : Int) := of_decide_eq_true (by first | (with_reducible assumption) | assumption); first | exact h_ | (have e_ := (Kd.S_reads' HO_3.out).1; omega) | simpa using h_) (seg := [.slice Ao18 y242.length co18]) (j := 0) (show 1 ≤ 1 from by decide) (x' := y242) (Kd.M_row (Kd.R_mono (Kd.R_tight rfl (Kd.R_mono (ok' := fun k_ => ((fun _ => True)) k_ ∧ k_ ≠ go14) (Kd.R_apart' (HO244.out) (Kd.S_typed HO_3.out) (by decide)) (fun k_ hk => ⟨trivial, fun e_ => (hk.2) (by rw [e_]; rfl)⟩))) (fun _ h_ => Or.inr (h_)))) (fun _ hk => hk) (fun k_ hk_ => ((Kd.R_mono (ok' := fun k_ => ((fun _ => True)) k_ ∧ k_ ≠ go14) (Kd.R_apart' (HO244.out) (Kd.S_typed HO_3.out) (by decide)) (fun k_ hk => ⟨trivial, fun e_ => (hk.2) (by rw [e_]; rfl)⟩))).1 k_ hk_.symm); have hx19_0 := hcc19 0 _ rfl; (try simp only [show ((Kd.slice 3 (Kd.int .i64))).sz = 1 from rfl, Nat.mul_one, Nat.add_zero] at hx19_0); have hf19_0 := hfr19 0; (try simp only [show ((Kd.slice 3 (Kd.int .i64))).sz = 1 from rfl, Nat.mul_one, Nat.add_zero] at hf19_0); clear hcl19 hcc19 hfr19 hM19 hoki19 hH19; (try simp only [show ((Kd.slice 3 (Kd.int .i64))).sz = 1 from rfl, Nat.mul_one, Nat.add_zero] at HP19)) | ((with_reducible refine gate_store (t := 37) (p := 26) rfl ?_); refine store_event (t := 37) (p := 26) (v := ?vo_w20) (w1 := (w16.setCell ⟨go14, (x17_1 : Int).toNat, none⟩ (.slice Ao18 y242.length co18))) ?hg ?ho ?hn ?hr ?_; (case ho => rfl); (case hg => rfl); (case hn => rfl); (case hr => first | (go_simp; done) | (go_simp; rfl)); intro w20 hw; have hg : w16.grownBy w20 (some go14) := (by rw [hw]; exact HP19.2); have hp_ : Kd.S (Kd.slice 3 (Kd.int .i64)) 37 w20 w.heap.size (fun _ => True) (.slice (some ⟨go14, 0, none⟩) x3_1.length co8) y245 := (by rw [hw, Ny245.out]; exact HP19.1); clear HP19; have n0_ := Aside0.mk (hp_); have n1_ := Aside0.mk (blk_grown (g := gb238) (o := .cells #[.slice A0_0 l0_0.length c0_0, .slice A0_1 l0_1.length c0_1] 31 (0, 0)) (bkq BK238.out) hg (Kd.S_ne HO_3.out BK238.out (by decide))); have n2_ := Aside0.mk ((by rw [hw]; exact below_set (HB.out) GB14.out : Below w.heap.size w w20)); clear HO_3; clear BK238; clear HB; clear HO244; have HO_3 := n0_; have BK238 := n1_; have HB := n2_; clear n0_ n1_ n2_; clear hg hw hp_))
   (try simp only [← hl3_1])
   go_roundg k1
   case measure => have := HK1.out; omega
   case rel => exact ⟨(y245), (wrap64 (x17_1 + 1)), (by first | rfl | (simp; done) | (simp [*]; done)), H', ⟨by have := HK1.out; omega⟩, ⟨by (try simp only [hl3_1]); refine kq_S ?_; exact HO_3.out⟩, ⟨by (try simp only [hl3_1]); refine bkq ?_; exact BK238.out⟩, ⟨hbq HB.out⟩⟩
  rw [if_neg c9] at H
  have c9b0 : decide (x17_1 < (y239.length : Int)) = false := decide_eq_false c9
  (try (have c9g0 := c9b0; simp only [hl3_1] at c9g0))
  clear c9
  have H' := Aside0.mk H
  clear H
  have hcz21_0 : wr.cell? ⟨gb238, 0, none⟩ = some (.slice A0_0 l0_0.length c0_0) := (blk_cell BK238.out 0).trans rfl
  have hcz21_1 : wr.cell? ⟨gb238, 1, none⟩ = some (.slice A0_1 l0_1.length c0_1) := (blk_cell BK238.out 1).trans rfl
  have hfz21_0 := blk_frozen BK238.out 0
  have hfz21_1 := blk_frozen BK238.out 1
  go_wp2
  go_loopg [31] k1 (fun kq v31 w' => ∃ (x3_2 : List (List Int)) (x31_2 : Int), v31 = .int .i64 x31_2 ∧ Aside0 (matrix_Of.l1 kq x3_2 l0_1 (l0_1.length : Int) x31_2 = some r) ∧ Aside0 (kq ≤ k1) ∧ Aside0 (Kd.S (Kd.slice 3 (Kd.int .i64)) 37 w' w.heap.size (fun _ => True) (.slice Ao8 x3_1.length co8) x3_2) ∧ Aside0 (w'.heap[gb238]? = some (.cells #[(.slice A0_0 l0_0.length c0_0), (.slice A0_1 l0_1.length c0_1)] 31 (0, 0))) ∧ Aside0 (Below w.heap.size w w'))
  case atStart => exact ⟨(x3_1), (0), (by first | rfl | (simp; done) | (simp [*]; done)), H', ⟨Nat.le_refl _⟩, ⟨by (try simp only [hl3_1]); refine kq_S ?_; exact HO_3.out⟩, ⟨by (try simp only [hl3_1]); refine bkq ?_; exact BK238.out⟩, ⟨hbq HB.out⟩⟩
  clear H'
  try clear c1
  try clear p1
  try clear q1
  try clear hx1
  try clear hf1
  try clear c2
  try clear c2b0
  try clear c2b1
  try clear p2
  try clear c3
  try clear c3b0
  try clear c3b1
  try clear p6
  try clear c9
  try clear c9b0
  try clear c10
  try clear c10b0
  try clear c10b1
  try clear c11
  try clear c11b0
  try clear c11b1
  try clear c12
  try clear c12b0
  try clear c13
  try clear c13b0
  try clear c14
  try clear p14
  try clear q14
  try clear hx14
  try clear hf14
  try clear c19
  try clear hx19
  try clear hf19
  try clear hcz15_0
  try clear hcz15_1
  try clear hcz21_0
  try clear hcz21_1
  try clear hcz5_0
  try clear hcz5_1
  try clear hfz15_0
  try clear hfz15_1
  try clear hfz21_0
  try clear hfz21_1
  try clear hfz5_0
  try clear hfz5_1
  try clear hx14_0
  try clear hx19_0
  try clear p14
  try clear p2
  try clear q14
  obtain ⟨x3_2, x31_2, rfl, HA, HK2, HO_3, BK238, HB⟩ := hrel
  have hl3_2 := (Kd.S_reads' HO_3.out).1
  rw [hl3_2] at HO_3
  (try simp only [hl3_2])
  (try simp only [hl3_2] at BK238)
  cases gk with
  | zero => exact absurd HA.out (by simp [matrix_Of.l1])
  | succ k2 =>
   have H := HA.out
   clear HA
   simp only [matrix_Of.l1] at H
   by_cases c22 : x31_2 < (l0_1.length : Int)
   ·rw [if_pos c22] at H
    have c22b0 : decide (x31_2 < (l0_1.length : Int)) = true := decide_eq_true c22
    (try (have c22g0 := c22b0; simp only [hl3_1, hl3_2] at c22g0))
    clear c22
    by_cases c23 : 0 ≤ x31_2
    case neg => rw [if_neg c23] at H; exact absurd H (by simp)
    rw [if_pos c23] at H
    have c23b0 : decide (0 ≤ x31_2) = true := decide_eq_true c23
    clear c23
    by_cases c24 : x31_2 < (l0_1.length : Int)
    case neg => rw [if_neg c24] at H; exact absurd H (by simp)
    rw [if_pos c24] at H
    have c24b0 : decide (x31_2 < (l0_1.length : Int)) = true := decide_eq_true c24
    (try (have c24g0 := c24b0; simp only [hl3_1, hl3_2] at c24g0))
    clear c24
    have H' := Aside0.mk H
    clear H
    have p246 : 0 ≤ (x31_2 : Int) := of_decide_eq_true (by first | (with_reducible assumption) | assumption)
    have q246 : x31_2 < (l0_1.length : Int) := of_decide_eq_true (by first | (with_reducible assumption) | assumption)
    obtain ⟨ad246, A246_3, c246_3, A246_4, c246_4, A246_5, c246_5, e246, hx246_0, hx246_1, hx246_2, hx246_3, hx246_4, hx246_5, hl246_3, hi246_3, hl246_4, hi246_4, hl246_5, hi246_5⟩ := at_T54 HR0_1.out x31_2 p246 q246
    cases e246
    replace hx246_0 := (HB.out.cell (World.block_lt_of_cell? w _ hx246_0)).trans hx246_0
    replace hx246_1 := (HB.out.cell (World.block_lt_of_cell? w _ hx246_1)).trans hx246_1
    replace hx246_2 := (HB.out.cell (World.block_lt_of_cell? w _ hx246_2)).trans hx246_2
    replace hx246_3 := (HB.out.cell (World.block_lt_of_cell? w _ hx246_3)).trans hx246_3
    replace hx246_4 := (HB.out.cell (World.block_lt_of_cell? w _ hx246_4)).trans hx246_4
    replace hx246_5 := (HB.out.cell (World.block_lt_of_cell? w _ hx246_5)).trans hx246_5
    have HR246_3 := Aside0.mk hi246_3
    have HC246_3 := Aside0.mk hl246_3
    clear hi246_3 hl246_3
    have HR246_4 := Aside0.mk hi246_4
    have HC246_4 := Aside0.mk hl246_4
    clear hi246_4 hl246_4
    have HR246_5 := Aside0.mk hi246_5
    have HC246_5 := Aside0.mk hl246_5
    clear hi246_5 hl246_5
    replace p246 := eq_true p246
    replace q246 := eq_true q246
    go_wp2_with (first | ((with_reducible refine gate_dst (N := 6) rfl ?_); refine box_event ?hg (N := 6) ?hd (cs := #[.string (⟨#[]⟩ : ByteArray), .int .i64 0, .int .i64 0, .slice none 0 0, .slice none 0 0, .slice none 0 0]) (t := 54) ?hr ?_; (case hd => rfl); (case hg => rfl); (case hr => first | (go_simp; done) | (go_simp; rfl)); intro gb247 hg w25 hbox hb; have n0_ := Aside0.mk (Kd.S_below (kq_S HO_3.out) hb); have n1_ := Aside0.mk (blk_below (g := gb238) (o := .cells #[.slice A0_0 l0_0.length c0_0, .slice (some ad246) l0_1.length c0_1] 31 (0, 0)) (bkq BK238.out) hb); have n2_ := Aside0.mk (below_step (hbq HB.out) hb); have n3_ := Aside0.mk (hbox); have n4_ := Aside0.mk ((by rw [hg]; exact (below_size (hbq HB.out)) : w.heap.size ≤ gb247)); have n5_ := Aside0.mk ((by rw [hg]; exact (below_size (hbq HB.out)) : w.heap.size ≤ gb247)); have n6_ := Aside0.mk ((by rw [hg]; exact Nat.ne_of_lt (blk_lt (g := gb238) (o := .cells #[.slice A0_0 l0_0.length c0_0, .slice (some ad246) l0_1.length c0_1] 31 (0, 0)) (bkq BK238.out)) : gb238 ≠ gb247)); have n7_ := Aside0.mk ((by rw [hg]; exact Nat.ne_of_gt (blk_lt (g := gb238) (o := .cells #[.slice A0_0 l0_0.length c0_0, .slice (some ad246) l0_1.length c0_1] 31 (0, 0)) (bkq BK238.out)) : gb247 ≠ gb238)); clear HO_3; clear BK238; clear HB; have HO_3 := n0_; have BK238 := n1_; have HB := n2_; have BK247 := n3_; have GW247 := n4_; have GE247 := n5_; have NB238_247 := n6_; have NB247_238 := n7_; clear n0_ n1_ n2_ n3_ n4_ n5_ n6_ n7_; clear hb hbox hg; have hnb26 := NB247_238.out; have hnc26 := NB238_247.out; have hcz27_0 : w25.cell? ⟨gb247, 0, none⟩ = some (.string (⟨#[]⟩ : ByteArray)) := (blk_cell BK247.out 0).trans rfl; have hcz27_1 : w25.cell? ⟨gb247, 1, none⟩ = some (.int .i64 0) := (blk_cell BK247.out 1).trans rfl; have hcz27_2 : w25.cell? ⟨gb247, 2, none⟩ = some (.int .i64 0) := (blk_cell BK247.out 2).trans rfl; have hcz27_3 : w25.cell? ⟨gb247, 3, none⟩ = some (.slice none 0 0) := (blk_cell BK247.out 3).trans rfl; have hcz27_4 : w25.cell? ⟨gb247, 4, none⟩ = some (.slice none 0 0) := (blk_cell BK247.out 4).trans rfl; have hcz27_5 : w25.cell? ⟨gb247, 5, none⟩ = some (.slice none 0 0) := (blk_cell BK247.out 5).trans rfl; have hfz27_0 := blk_frozen BK247.out 0; have hfz27_1 := blk_frozen BK247.out 1; have hfz27_2 := blk_frozen BK247.out 2; have hfz27_3 := blk_frozen BK247.out 3; have hfz27_4 := blk_frozen BK247.out 4; have hfz27_5 := blk_frozen BK247.out 5))
    go_loopg [39] k2 (fun kq v39 w' => ∃ (x3_3 : List (List Int)) (x39_3 : Int), v39 = .int .i64 x39_3 ∧ Aside0 (matrix_Of.l2 kq x3_3 x31_2 l0_1 (l0_1.length : Int) x31_2 ((rd_T54 l0_1 x31_2).f3) (((rd_T54 l0_1 x31_2).f3).length : Int) x39_3 ((rd_T54 l0_1 x31_2).f0) ((rd_T54 l0_1 x31_2).f1) ((rd_T54 l0_1 x31_2).f2) ((rd_T54 l0_1 x31_2).f3) ((rd_T54 l0_1 x31_2).f4) ((rd_T54 l0_1 x31_2).f5) = some r) ∧ Aside0 (kq ≤ k2) ∧ Aside0 (Kd.S (Kd.slice 3 (Kd.int .i64)) 37 w' w.heap.size (fun _ => True) (.slice Ao8 x3_2.length co8) x3_3) ∧ Aside0 (w'.heap[gb238]? = some (.cells #[(.slice A0_0 l0_0.length c0_0), (.slice (some ad246) l0_1.length c0_1)] 31 (0, 0))) ∧ Aside0 (w'.heap[gb247]? = some (.cells #[.string ((rd_T54 l0_1 x31_2).f0), .int .i64 ((rd_T54 l0_1 x31_2).f1), .int .i64 ((rd_T54 l0_1 x31_2).f2), (.slice A246_3 ((rd_T54 l0_1 x31_2).f3).length c246_3), (.slice A246_4 ((rd_T54 l0_1 x31_2).f4).length c246_4), (.slice A246_5 ((rd_T54 l0_1 x31_2).f5).length c246_5)] 54 (0, 0))) ∧ Aside0 (Below w.heap.size w w'))
    case atStart => exact ⟨(x3_2), (0), (by first | rfl | (simp; done) | (simp [*]; done)), H', ⟨Nat.le_refl _⟩, ⟨by (try simp only [hl3_1]); (try simp only [hl3_2]); refine kq_S ?_; exact Kd.S_mono (Kd.S_far (p := ⟨gb247, 5, none⟩) (Kd.S_far (p := ⟨gb247, 4, none⟩) (Kd.S_far (p := ⟨gb247, 3, none⟩) (Kd.S_far (p := ⟨gb247, 2, none⟩) (Kd.S_far (p := ⟨gb247, 1, none⟩) (Kd.S_far (p := ⟨gb247, 0, none⟩) (Kd.S_types HO_3.out BK247.out (by decide)) (fun _ hk => hk.2) (.string ((rd_T54 l0_1 x31_2).f0))) (fun _ hk => hk.2) (.int .i64 ((rd_T54 l0_1 x31_2).f1))) (fun _ hk => hk.2) (.int .i64 ((rd_T54 l0_1 x31_2).f2))) (fun _ hk => hk.2) (.slice A246_3 ((rd_T54 l0_1 x31_2).f3).length c246_3)) (fun _ hk => hk.2) (.slice A246_4 ((rd_T54 l0_1 x31_2).f4).length c246_4)) (fun _ hk => hk.2) (.slice A246_5 ((rd_T54 l0_1 x31_2).f5).length c246_5)) (fun _ hk => trivial)⟩, ⟨by (try simp only [hl3_1]); (try simp only [hl3_2]); refine bkq ?_; refine blk_far ?_ NB238_247.out _; refine bkq ?_; refine blk_far ?_ NB238_247.out _; refine bkq ?_; refine blk_far ?_ NB238_247.out _; refine bkq ?_; refine blk_far ?_ NB238_247.out _; refine bkq ?_; refine blk_far ?_ NB238_247.out _; refine bkq ?_; refine blk_far ?_ NB238_247.out _; refine bkq ?_; exact BK238.out⟩, ⟨by (try simp only [hl3_1]); (try simp only [hl3_2]); refine bkq ?_; refine blk_put (cs := #[.string ((rd_T54 l0_1 x31_2).f0), .int .i64 ((rd_T54 l0_1 x31_2).f1), .int .i64 ((rd_T54 l0_1 x31_2).f2), .slice A246_3 ((rd_T54 l0_1 x31_2).f3).length c246_3, .slice A246_4 ((rd_T54 l0_1 x31_2).f4).length c246_4, .slice none 0 0]) ?_ 5 _ rfl; refine bkq ?_; refine blk_put (cs := #[.string ((rd_T54 l0_1 x31_2).f0), .int .i64 ((rd_T54 l0_1 x31_2).f1), .int .i64 ((rd_T54 l0_1 x31_2).f2), .slice A246_3 ((rd_T54 l0_1 x31_2).f3).length c246_3, .slice none 0 0, .slice none 0 0]) ?_ 4 _ rfl; refine bkq ?_; refine blk_put (cs := #[.string ((rd_T54 l0_1 x31_2).f0), .int .i64 ((rd_T54 l0_1 x31_2).f1), .int .i64 ((rd_T54 l0_1 x31_2).f2), .slice none 0 0, .slice none 0 0, .slice none 0 0]) ?_ 3 _ rfl; refine bkq ?_; refine blk_put (cs := #[.string ((rd_T54 l0_1 x31_2).f0), .int .i64 ((rd_T54 l0_1 x31_2).f1), .int .i64 0, .slice none 0 0, .slice none 0 0, .slice none 0 0]) ?_ 2 _ rfl; refine bkq ?_; refine blk_put (cs := #[.string ((rd_T54 l0_1 x31_2).f0), .int .i64 0, .int .i64 0, .slice none 0 0, .slice none 0 0, .slice none 0 0]) ?_ 1 _ rfl; refine bkq ?_; refine blk_put (cs := #[.string (⟨#[]⟩ : ByteArray), .int .i64 0, .int .i64 0, .slice none 0 0, .slice none 0 0, .slice none 0 0]) ?_ 0 _ rfl; refine bkq ?_; exact BK247.out⟩, ⟨hbq HB.out⟩⟩
    clear H'
    try clear c1
    try clear p1
    try clear q1
    try clear hx1
    try clear hf1
    try clear c2
    try clear c2b0
    try clear c2b1
    try clear p2
    try clear q2
    try clear hx2
    try clear c3
    try clear c3b0
    try clear c3b1
    try clear p6
    try clear c9
    try clear c9b0
    try clear c10
    try clear c10b0
    try clear c10b1
    try clear c11
    try clear c11b0
    try clear c11b1
    try clear c12
    try clear c12b0
    try clear c13
    try clear c13b0
    try clear c14
    try clear p14
    try clear q14
    try clear hx14
    try clear hf14
    try clear c19
    try clear hx19
    try clear hf19
    try clear c22
    try clear c22b0
    try clear c23
    try clear c23b0
    try clear c24
    try clear c24b0
    try clear p24
    try clear q24
    try clear hx24
    try clear c26
    try clear hcz15_0
    try clear hcz15_1
    try clear hcz21_0
    try clear hcz21_1
    try clear hcz27_0
    try clear hcz27_1
    try clear hcz27_2
    try clear hcz27_3
    try clear hcz27_4
    try clear hcz27_5
    try clear hcz5_0
    try clear hcz5_1
    try clear hfz15_0
    try clear hfz15_1
    try clear hfz21_0
    try clear hfz21_1
    try clear hfz27_0
    try clear hfz27_1
    try clear hfz27_2
    try clear hfz27_3
    try clear hfz27_4
    try clear hfz27_5
    try clear hfz5_0
    try clear hfz5_1
    try clear hx14_0
    try clear hx19_0
    try clear hx246_0
    try clear hx246_1
    try clear hx246_2
    try clear hx246_3
    try clear hx246_4
    try clear hx246_5
    try clear p1
    try clear p14
    try clear p2
    try clear p246
    try clear p6
    try clear q1
    try clear q14
    try clear q246
    obtain ⟨x3_3, x39_3, rfl, HA, HK3, HO_3, BK238, BK247, HB⟩ := hrel
    have hl3_3 := (Kd.S_reads' HO_3.out).1
    rw [hl3_3] at HO_3
    (try simp only [hl3_3])
    (try simp only [hl3_3] at BK238)
    (try simp only [hl3_3] at BK247)
    cases gk with
    | zero => exact absurd HA.out (by simp [matrix_Of.l2])
    | succ k3 =>
     have H := HA.out
     clear HA
     simp only [matrix_Of.l2] at H
     by_cases c28 : x39_3 < (((rd_T54 l0_1 x31_2).f3).length : Int)
     ·rw [if_pos c28] at H
      have c28b0 : decide (x39_3 < (((rd_T54 l0_1 x31_2).f3).length : Int)) = true := decide_eq_true c28
      (try (have c28g0 := c28b0; simp only [hl3_1, hl3_2, hl3_3] at c28g0))
      clear c28
      by_cases c29 : 0 ≤ x39_3
      case neg => rw [if_neg c29] at H; exact absurd H (by simp)
      rw [if_pos c29] at H
      have c29b0 : decide (0 ≤ x39_3) = true := decide_eq_true c29
      clear c29
      by_cases c30 : x39_3 < (((rd_T54 l0_1 x31_2).f3).length : Int)
      case neg => rw [if_neg c30] at H; exact absurd H (by simp)
      rw [if_pos c30] at H
      have c30b0 : decide (x39_3 < (((rd_T54 l0_1 x31_2).f3).length : Int)) = true := decide_eq_true c30
      (try (have c30g0 := c30b0; simp only [hl3_1, hl3_2, hl3_3] at c30g0))
      clear c30
      by_cases c31 : 0 ≤ ((rd_T51 ((rd_T54 l0_1 x31_2).f3) x39_3).f0)
      case neg => rw [if_neg c31] at H; exact absurd H (by simp)
      rw [if_pos c31] at H
      have c31b0 : decide (0 ≤ ((rd_T51 ((rd_T54 l0_1 x31_2).f3) x39_3).f0)) = true := decide_eq_true c31
      clear c31
      by_cases c32 : ((rd_T51 ((rd_T54 l0_1 x31_2).f3) x39_3).f0) < (x3_3.length : Int)
      case neg => rw [if_neg c32] at H; exact absurd H (by simp)
      rw [if_pos c32] at H
      have c32b0 : decide (((rd_T51 ((rd_T54 l0_1 x31_2).f3) x39_3).f0) < (x3_3.length : Int)) = true := decide_eq_true c32
      (try (have c32g0 := c32b0; simp only [hl3_1, hl3_2, hl3_3] at c32g0))
      clear c32
      by_cases c33 : 0 ≤ x31_2
      case neg => rw [if_neg c33] at H; exact absurd H (by simp)
      rw [if_pos c33] at H
      have c33b0 : decide (0 ≤ x31_2) = true := decide_eq_true c33
      clear c33
      by_cases c34 : x31_2 < ((rd_L1 x3_3 ((rd_T51 ((rd_T54 l0_1 x31_2).f3) x39_3).f0)).length : Int)
      case neg => rw [if_neg c34] at H; exact absurd H (by simp)
      rw [if_pos c34] at H
      have c34b0 : decide (x31_2 < ((rd_L1 x3_3 ((rd_T51 ((rd_T54 l0_1 x31_2).f3) x39_3).f0)).length : Int)) = true := decide_eq_true c34
      (try (have c34g0 := c34b0; simp only [hl3_1, hl3_2, hl3_3] at c34g0))
      clear c34
      obtain ⟨y252, hy252⟩ : ∃ y_ : List Int, y_ = ((rd_L1 x3_3 ((rd_T51 ((rd_T54 l0_1 x31_2).f3) x39_3).f0)).set (x31_2 : Int).toNat (wrap64 ((rd (rd_L1 x3_3 ((rd_T51 ((rd_T54 l0_1 x31_2).f3) x39_3).f0)) x31_2) - ((rd_T51 ((rd_T54 l0_1 x31_2).f3) x39_3).f1)))) := ⟨_, rfl⟩
      replace H : (matrix_Of.l2 k3 (x3_3.set (((rd_T51 ((rd_T54 l0_1 x31_2).f3) x39_3).f0) : Int).toNat y252) x31_2 l0_1 (l0_1.length : Int) x31_2 ((rd_T54 l0_1 x31_2).f3) (((rd_T54 l0_1 x31_2).f3).length : Int) (wrap64 (x39_3 + 1)) ((rd_T54 l0_1 x31_2).f0) ((rd_T54 l0_1 x31_2).f1) ((rd_T54 l0_1 x31_2).f2) ((rd_T54 l0_1 x31_2).f3) ((rd_T54 l0_1 x31_2).f4) ((rd_T54 l0_1 x31_2).f5)) = some r := by first | (rw [hy252]; with_reducible exact H) | (have H2_ := (Option.bind_some _ _).symm.trans H; rw [hy252]; with_reducible exact H2_) | (have H2_ := (Option.bind_some _ _).symm.trans H; with_reducible exact H2_) | with_reducible exact H | (rw [hy252]; exact H) | exact H
      have Ny252 := Aside0.mk hy252
      clear hy252
      obtain ⟨y254, hy254⟩ : ∃ y_ : List (List Int), y_ = (x3_3.set (((rd_T51 ((rd_T54 l0_1 x31_2).f3) x39_3).f0) : Int).toNat y252) := ⟨_, rfl⟩
      replace H : (matrix_Of.l2 k3 y254 x31_2 l0_1 (l0_1.length : Int) x31_2 ((rd_T54 l0_1 x31_2).f3) (((rd_T54 l0_1 x31_2).f3).length : Int) (wrap64 (x39_3 + 1)) ((rd_T54 l0_1 x31_2).f0) ((rd_T54 l0_1 x31_2).f1) ((rd_T54 l0_1 x31_2).f2) ((rd_T54 l0_1 x31_2).f3) ((rd_T54 l0_1 x31_2).f4) ((rd_T54 l0_1 x31_2).f5)) = some r := by first | (rw [hy254]; with_reducible exact H) | (have H2_ := (Option.bind_some _ _).symm.trans H; rw [hy254]; with_reducible exact H2_) | (have H2_ := (Option.bind_some _ _).symm.trans H; with_reducible exact H2_) | with_reducible exact H | (rw [hy254]; exact H) | exact H
      have Ny254 := Aside0.mk hy254
      clear hy254
      have H' := Aside0.mk H
      clear H
      have p248 : 0 ≤ (x39_3 : Int) := of_decide_eq_true (by first | (with_reducible assumption) | assumption)
      have q248 : x39_3 < (((rd_T54 l0_1 x31_2).f3).length : Int) := of_decide_eq_true (by first | (with_reducible assumption) | assumption)
      obtain ⟨ad248, e248, hx248_0, hx248_1⟩ := at_T51 HR246_3.out x39_3 p248 q248
      cases e248
      replace hx248_0 := (HB.out.cell (World.block_lt_of_cell? w _ hx248_0)).trans hx248_0
      replace hx248_1 := (HB.out.cell (World.block_lt_of_cell? w _ hx248_1)).trans hx248_1
      replace p248 := eq_true p248
      replace q248 := eq_true q248
      try go_wp2_with (first | ((with_reducible refine gate_dst (N := 8) rfl ?_); refine box_event ?hg (N := 8) ?hd (cs := #[.int .i64 0, .int .i64 0]) (t := 51) ?hr ?_; (case hd => rfl); (case hg => rfl); (case hr => first | (go_simp; done) | (go_simp; rfl)); intro gb249 hg w36 hbox hb; have n0_ := Aside0.mk (Kd.S_below (kq_S HO_3.out) hb); have n1_ := Aside0.mk (blk_below (g := gb238) (o := .cells #[.slice A0_0 l0_0.length c0_0, .slice (some ad246) l0_1.length c0_1] 31 (0, 0)) (bkq BK238.out) hb); have n2_ := Aside0.mk (blk_below (g := gb247) (o := .cells #[.string ((rd_T54 l0_1 x31_2).f0), .int .i64 ((rd_T54 l0_1 x31_2).f1), .int .i64 ((rd_T54 l0_1 x31_2).f2), .slice (some ad248) ((rd_T54 l0_1 x31_2).f3).length c246_3, .slice A246_4 ((rd_T54 l0_1 x31_2).f4).length c246_4, .slice A246_5 ((rd_T54 l0_1 x31_2).f5).length c246_5] 54 (0, 0)) (bkq BK247.out) hb); have n3_ := Aside0.mk (below_step (hbq HB.out) hb); have n4_ := Aside0.mk (hbox); have n5_ := Aside0.mk ((by rw [hg]; exact (below_size (hbq HB.out)) : w.heap.size ≤ gb249)); have n6_ := Aside0.mk ((by rw [hg]; exact (below_size (hbq HB.out)) : w.heap.size ≤ gb249)); have n7_ := Aside0.mk ((by rw [hg]; exact Nat.ne_of_lt (blk_lt (g := gb238) (o := .cells #[.slice A0_0 l0_0.length c0_0, .slice (some ad246) l0_1.length c0_1] 31 (0, 0)) (bkq BK238.out)) : gb238 ≠ gb249)); have n8_ := Aside0.mk ((by rw [hg]; exact Nat.ne_of_gt (blk_lt (g := gb238) (o := .cells #[.slice A0_0 l0_0.length c0_0, .slice (some ad246) l0_1.length c0_1] 31 (0, 0)) (bkq BK238.out)) : gb249 ≠ gb238)); have n9_ := Aside0.mk ((by rw [hg]; exact Nat.ne_of_lt (blk_lt (g := gb247) (o := .cells #[.string ((rd_T54 l0_1 x31_2).f0), .int .i64 ((rd_T54 l0_1 x31_2).f1), .int .i64 ((rd_T54 l0_1 x31_2).f2), .slice (some ad248) ((rd_T54 l0_1 x31_2).f3).length c246_3, .slice A246_4 ((rd_T54 l0_1 x31_2).f4).length c246_4, .slice A246_5 ((rd_T54 l0_1 x31_2).f5).length c246_5] 54 (0, 0)) (bkq BK247.out)) : gb247 ≠ gb249)); have n10_ := Aside0.mk ((by rw [hg]; exact Nat.ne_of_gt (blk_lt (g := gb247) (o := .cells #[.string ((rd_T54 l0_1 x31_2).f0), .int .i64 ((rd_T54 l0_1 x31_2).f1), .int .i64 ((rd_T54 l0_1 x31_2).f2), .slice (some ad248) ((rd_T54 l0_1 x31_2).f3).length c246_3, .slice A246_4 ((rd_T54 l0_1 x31_2).f4).length c246_4, .slice A246_5 ((rd_T54 l0_1 x31_2).f5).length c246_5] 54 (0, 0)) (bkq BK247.out)) : gb249 ≠ gb247)); clear HO_3; clear BK238; clear BK247; clear HB; have HO_3 := n0_; have BK238 := n1_; have BK247 := n2_; have HB := n3_; have BK249 := n4_; have GW249 := n5_; have GE249 := n6_; have NB238_249 := n7_; have NB249_238 := n8_; have NB247_249 := n9_; have NB249_247 := n10_; clear n0_ n1_ n2_ n3_ n4_ n5_ n6_ n7_ n8_ n9_ n10_; clear hb hbox hg; have hnb37 := NB249_238.out; have hnc37 := NB238_249.out; have hnb38 := NB249_247.out; have hnc38 := NB247_249.out; have hcz39_0 : w36.cell? ⟨gb249, 0, none⟩ = some (.int .i64 0) := (blk_cell BK249.out 0).trans rfl; have hcz39_1 : w36.cell? ⟨gb249, 1, none⟩ = some (.int .i64 0) := (blk_cell BK249.out 1).trans rfl; have hfz39_0 := blk_frozen BK249.out 0; have hfz39_1 := blk_frozen BK249.out 1))
      have n0_ : Aside0 (Kd.S (Kd.slice 3 (Kd.int .i64)) 37 ((w36.setCell ⟨gb249, 0, none⟩ (.int .i64 ((rd_T51 ((rd_T54 l0_1 x31_2).f3) x39_3).f0))).setCell ⟨gb249, 1, none⟩ (.int .i64 ((rd_T51 ((rd_T54 l0_1 x31_2).f3) x39_3).f1))) w.heap.size (fun _ => True) (.slice Ao8 x3_3.length co8) x3_3) := ⟨by refine kq_S ?_; exact Kd.S_mono (Kd.S_far (p := ⟨gb249, 1, none⟩) (Kd.S_far (p := ⟨gb249, 0, none⟩) (Kd.S_types HO_3.out BK249.out (by decide)) (fun _ hk => hk.2) (.int .i64 ((rd_T51 ((rd_T54 l0_1 x31_2).f3) x39_3).f0))) (fun _ hk => hk.2) (.int .i64 ((rd_T51 ((rd_T54 l0_1 x31_2).f3) x39_3).f1))) (fun _ hk => trivial)⟩
      have n1_ : Aside0 (((w36.setCell ⟨gb249, 0, none⟩ (.int .i64 ((rd_T51 ((rd_T54 l0_1 x31_2).f3) x39_3).f0))).setCell ⟨gb249, 1, none⟩ (.int .i64 ((rd_T51 ((rd_T54 l0_1 x31_2).f3) x39_3).f1))).heap[gb238]? = some (.cells #[.slice A0_0 l0_0.length c0_0, .slice (some ad246) l0_1.length c0_1] 31 (0, 0))) := ⟨by refine bkq ?_; refine blk_far ?_ NB238_249.out _; refine bkq ?_; refine blk_far ?_ NB238_249.out _; refine bkq ?_; exact BK238.out⟩
      have n2_ : Aside0 (((w36.setCell ⟨gb249, 0, none⟩ (.int .i64 ((rd_T51 ((rd_T54 l0_1 x31_2).f3) x39_3).f0))).setCell ⟨gb249, 1, none⟩ (.int .i64 ((rd_T51 ((rd_T54 l0_1 x31_2).f3) x39_3).f1))).heap[gb247]? = some (.cells #[.string ((rd_T54 l0_1 x31_2).f0), .int .i64 ((rd_T54 l0_1 x31_2).f1), .int .i64 ((rd_T54 l0_1 x31_2).f2), .slice (some ad248) ((rd_T54 l0_1 x31_2).f3).length c246_3, .slice A246_4 ((rd_T54 l0_1 x31_2).f4).length c246_4, .slice A246_5 ((rd_T54 l0_1 x31_2).f5).length c246_5] 54 (0, 0))) := ⟨by refine bkq ?_; refine blk_far ?_ NB247_249.out _; refine bkq ?_; refine blk_far ?_ NB247_249.out _; refine bkq ?_; exact BK247.out⟩
      have n3_ : Aside0 (((w36.setCell ⟨gb249, 0, none⟩ (.int .i64 ((rd_T51 ((rd_T54 l0_1 x31_2).f3) x39_3).f0))).setCell ⟨gb249, 1, none⟩ (.int .i64 ((rd_T51 ((rd_T54 l0_1 x31_2).f3) x39_3).f1))).heap[gb249]? = some (.cells #[.int .i64 ((rd_T51 ((rd_T54 l0_1 x31_2).f3) x39_3).f0), .int .i64 ((rd_T51 ((rd_T54 l0_1 x31_2).f3) x39_3).f1)] 51 (0, 0))) := ⟨by refine bkq ?_; refine blk_put (cs := #[.int .i64 ((rd_T51 ((rd_T54 l0_1 x31_2).f3) x39_3).f0), .int .i64 0]) ?_ 1 _ rfl; refine bkq ?_; refine blk_put (cs := #[.int .i64 0, .int .i64 0]) ?_ 0 _ rfl; refine bkq ?_; exact BK249.out⟩
      have n4_ : Aside0 (Below w.heap.size w ((w36.setCell ⟨gb249, 0, none⟩ (.int .i64 ((rd_T51 ((rd_T54 l0_1 x31_2).f3) x39_3).f0))).setCell ⟨gb249, 1, none⟩ (.int .i64 ((rd_T51 ((rd_T54 l0_1 x31_2).f3) x39_3).f1)))) := ⟨hbq HB.out⟩
      (try clear HO_3)
      (try clear BK238)
      (try clear BK247)
      (try clear BK249)
      (try clear HB)
      generalize ((w36.setCell ⟨gb249, 0, none⟩ (.int .i64 ((rd_T51 ((rd_T54 l0_1 x31_2).f3) x39_3).f0))).setCell ⟨gb249, 1, none⟩ (.int .i64 ((rd_T51 ((rd_T54 l0_1 x31_2).f3) x39_3).f1))) = w40 at n0_ n1_ n2_ n3_ n4_ ⊢
      have HO_3 := n0_
      have BK238 := n1_
      have BK247 := n2_
      have BK249 := n3_
      have HB := n4_
      clear n0_ n1_ n2_ n3_ n4_
      have n0_ := Aside0.mk (Kd.S_drew HO_3.out)
      have n1_ := Aside0.mk (blk_drew BK238.out)
      have n2_ := Aside0.mk (blk_drew BK247.out)
      have n3_ := Aside0.mk (blk_drew BK249.out)
      have n4_ := Aside0.mk (below_drew1 HB.out)
      clear HO_3
      clear BK238
      clear BK247
      clear BK249
      clear HB
      have HO_3 := n0_
      have BK238 := n1_
      have BK247 := n2_
      have BK249 := n3_
      have HB := n4_
      clear n0_ n1_ n2_ n3_ n4_
      have p250 : 0 ≤ (((rd_T51 ((rd_T54 l0_1 x31_2).f3) x39_3).f0) : Int) := of_decide_eq_true (by first | (with_reducible assumption) | assumption)
      have q250 : ((rd_T51 ((rd_T54 l0_1 x31_2).f3) x39_3).f0) < (x3_3.length : Int) := of_decide_eq_true (by first | (with_reducible assumption) | assumption)
      obtain ⟨ad250, A250_0, c250_0, e250, hx250_0, hl250_0, hi250_0⟩ := at_L1 (Kd.S_reads' HO_3.out).2.2 ((rd_T51 ((rd_T54 l0_1 x31_2).f3) x39_3).f0) p250 q250
      cases e250
      obtain ⟨ce250, hce250, hMe250, hcc250⟩ := Kd.S_get HO_3.out [] ((rd_T51 ((rd_T54 l0_1 x31_2).f3) x39_3).f0) p250 (by first | exact q250 | exact of_decide_eq_true (by first | (with_reducible assumption) | assumption) | (have e_ := (Kd.S_reads' HO_3.out).1; omega))
      obtain ⟨ve250_0, rfl, ge250_0⟩ := hMe250
      have hv250_0 := hcc250 0 _ rfl
      rw [Nat.add_zero, show ((Kd.slice 3 (Kd.int .i64))).sz = 1 from rfl, Nat.mul_one] at hv250_0
      replace hv250_0 := Option.some.inj (hv250_0.symm.trans hx250_0)
      rw [hv250_0] at ge250_0
      have HL250_0 := Aside0.mk (show Kd.R (Kd.int .i64) 3 _ _ _ _ (rd_L1 x3_3 ((rd_T51 ((rd_T54 l0_1 x31_2).f3) x39_3).f0)) from ge250_0)
      clear hv250_0 ge250_0
      have HX250_0 := Aside0.mk hx250_0
      clear hcc250 hce250
      have HR250_0 := Aside0.mk hi250_0
      have HC250_0 := Aside0.mk hl250_0
      clear hi250_0 hl250_0
      replace p250 := eq_true p250
      replace q250 := eq_true q250
      have p251 : 0 ≤ (x31_2 : Int) := of_decide_eq_true (by first | (with_reducible assumption) | assumption)
      have q251 : x31_2 < ((rd_L1 x3_3 ((rd_T51 ((rd_T54 l0_1 x31_2).f3) x39_3).f0)).length : Int) := of_decide_eq_true (by first | (with_reducible assumption) | assumption)
      obtain ⟨ad251, e251, hx251_0⟩ := Kd.at_int (by repeat (first | (with_reducible exact HR250_0.out) | (with_reducible refine Kd.C_alloc ?_ _) | (with_reducible refine Kd.C_drewN ?_ _) | (with_reducible refine Kd.C_drew ?_) | exact HR250_0.out)) x31_2 p251 q251
      cases e251
      replace p251 := eq_true p251
      replace q251 := eq_true q251
      have p35 : 0 ≤ (x31_2 : Int) := of_decide_eq_true (by first | (with_reducible assumption) | assumption)
      have q35 : (x31_2 : Int) < (((rd_L1 x3_3 ((rd_T51 ((rd_T54 l0_1 x31_2).f3) x39_3).f0)).length : Int) : Int) := of_decide_eq_true (by first | (with_reducible assumption) | assumption)
      obtain ⟨go35, co35, eo35, gb35, gl35, cl35, HG35⟩ := Kd.R_form HL250_0.out (by omega)
      (first | cases eo35 | (injection eo35 with ea_ en_ ec_; (first | subst ea_ | (injection ea_ with ea_; subst ea_)); subst ec_; clear en_))
      have GB35 := Aside0.mk gb35
      have GG35 := Aside0.mk HG35
      clear gb35 gl35 HG35
      (first | simp only [add_plain] at hx251_0 | skip)
      obtain ⟨hx35_0, hf35_0⟩ := Kd.R_celln 0 HL250_0.out (x31_2 : Int) p35 q35
      replace p35 := eq_true p35
      replace q35 := eq_true q35
      have hq42 : (((rd_T51 ((rd_T54 l0_1 x31_2).f3) x39_3).f0) : Int) < (x3_3.length : Int) := (by have h_ : (((rd_T51 ((rd_T54 l0_1 x31_2).f3) x39_3).f0) : Int) < ((x3_3.length : Int) : Int) := of_decide_eq_true (by first | (with_reducible assumption) | assumption); first | exact h_ | (have e_ := (Kd.S_reads' HO_3.out).1; omega) | simpa only [List.length_set, List.length_set] using h_)
      obtain ⟨oki42, ce42, hcl42, hM42, hcc42, hok42, hbk42⟩ := Kd.S_borrow HO_3.out [] (((rd_T51 ((rd_T54 l0_1 x31_2).f3) x39_3).f0) : Int) (of_decide_eq_true (by first | (with_reducible assumption) | assumption)) hq42
      obtain ⟨ve42_0, rfl, ge42_0⟩ := hM42
      have hv42 := hcc42 0 _ rfl
      rw [Nat.add_zero, show ((Kd.slice 3 (Kd.int .i64))).sz = 1 from rfl, Nat.mul_one] at hv42
      replace hv42 := Option.some.inj (hv42.symm.trans HX250_0.out)
      subst hv42
      clear hcc42 hcl42
      replace ge42_0 := (show Kd.R (Kd.int .i64) 3 _ _ _ _ (rd_L1 x3_3 ((rd_T51 ((rd_T54 l0_1 x31_2).f3) x39_3).f0)) from ge42_0)
      have HP42 := Kd.R_putg ge42_0 (x31_2 : Int) (wrap64 ((rd (rd_L1 x3_3 ((rd_T51 ((rd_T54 l0_1 x31_2).f3) x39_3).f0)) x31_2) - ((rd_T51 ((rd_T54 l0_1 x31_2).f3) x39_3).f1)))
      rw [← Ny252.out] at HP42
      have HS42 := hbk42 HP42.2 (fun k_ e_ => by injection e_ with e_; subst e_; exact ge42_0.1 _ rfl) (x' := y252) (Kd.M_row HP42.1)
      rw [← Ny254.out] at HS42
      have HQ42 := Aside0.mk HS42
      clear HP42 HS42 hbk42 hok42
      refine start_ (n := 13) (S := fun w' => w'.cell? ⟨gb249, 0, none⟩ = some (.int .i64 ((rd_T51 ((rd_T54 l0_1 x31_2).f3) x39_3).f0)) ∧ w'.cell? ⟨gb249, 1, none⟩ = some (.int .i64 ((rd_T51 ((rd_T54 l0_1 x31_2).f3) x39_3).f1)) ∧ w'.cell? (ad250.add (((rd_T51 ((rd_T54 l0_1 x31_2).f3) x39_3).f0)).toNat) = some (.slice (some ⟨go35, 0, none⟩) (rd_L1 x3_3 ((rd_T51 ((rd_T54 l0_1 x31_2).f3) x39_3).f0)).length c250_0) ∧ w'.cell? ⟨go35, (x31_2).toNat, none⟩ = some (.int .i64 (rd (rd_L1 x3_3 ((rd_T51 ((rd_T54 l0_1 x31_2).f3) x39_3).f0)) x31_2))) (ds := [12]) (az [0, 13]) (by kernel_rfl) rfl rfl ⟨(blk_cell BK249.out 0).trans rfl, (blk_cell BK249.out 1).trans rfl, hx250_0, hx251_0⟩ (fun hHeld => ?_); refine with_tabW matrix_Of.tab13 matrix_Of.bits13 (fun HT_ HW_ => ?_)
      generalize w40.drew = w41 at HO_3 BK238 BK247 BK249 HB GG35 HL250_0 HQ42 HR250_0 HX250_0 hf35_0 hx250_0 hx251_0 hx35_0 hHeld ⊢
      refine pure_ (i := 0) (N := some 43) (v := ?_) (a' := ?_) (az [1, 12]) rfl rfl (any_of HT_.out (by kernel_rfl)) (fun _ _ _ h => h) (Or.inl ⟨by rfl, ?_⟩) ?_ ?_
      rotate_left
      ·intro w'
       go_simp
       with_reducible rfl
      rotate_left
      ·simp only [Act.put, List.setIfInBounds_toArray, List.set_cons_zero, List.set_cons_succ, i64_w, i32_w]
       rfl
      refine pure_ (i := 1) (N := some 44) (v := ?_) (a' := ?_) (az [2, 11]) rfl rfl (any_of HT_.out (by kernel_rfl)) (fun _ _ _ h => h) (Or.inl ⟨by rfl, ?_⟩) ?_ ?_
      rotate_left
      ·intro w'
       go_simp
       with_reducible rfl
      rotate_left
      ·simp only [Act.put, List.setIfInBounds_toArray, List.set_cons_zero, List.set_cons_succ, i64_w, i32_w]
       rfl
      refine pure_ (i := 5) (N := some 48) (v := ?_) (a' := ?_) (az [2, 3, 1, 7]) rfl rfl (any_of HT_.out (by kernel_rfl)) (fun _ _ _ h => h) (Or.inl ⟨by rfl, ?_⟩) ?_ ?_
      rotate_left
      ·intro w'
       go_simp
       with_reducible rfl
      rotate_left
      ·simp only [Act.put, List.setIfInBounds_toArray, List.set_cons_zero, List.set_cons_succ, i64_w, i32_w]
       rfl
      refine pure_ (i := 8) (N := some 51) (v := ?_) (a' := ?_) (az [2, 3, 1, 2, 1, 4]) rfl rfl (any_of HT_.out (by kernel_rfl)) (fun _ _ _ h => h) (Or.inl ⟨by rfl, ?_⟩) ?_ ?_
      rotate_left
      ·intro w'
       go_simp
       with_reducible rfl
      rotate_left
      ·simp only [Act.put, List.setIfInBounds_toArray, List.set_cons_zero, List.set_cons_succ, i64_w, i32_w]
       rfl
      refine take_ (i := 2) (N := some 45) (v := ?_) (a' := ?_) (az [3, 2, 1, 2, 1, 4]) rfl rfl (take_ofW HT_.out HW_.out (by kernel_rfl)) (fun _ _ _ h => h) (Or.inl ⟨by rfl, ?_⟩) hHeld ?_ ?_
      rotate_left
      ·rintro w' ⟨s0, s1, s2, s3⟩
       go_simp
       with_reducible rfl
      rotate_left
      ·simp only [Act.put, List.setIfInBounds_toArray, List.set_cons_zero, List.set_cons_succ, i64_w, i32_w]
       rfl
      refine pure_ (i := 3) (N := some 46) (v := ?_) (a' := ?_) (az [4, 1, 1, 2, 1, 4]) rfl rfl (any_of HT_.out (by kernel_rfl)) (fun _ _ _ h => h) (Or.inl ⟨by rfl, ?_⟩) ?_ ?_
      rotate_left
      ·intro w'
       go_simp
       with_reducible rfl
      rotate_left
      ·simp only [Act.put, List.setIfInBounds_toArray, List.set_cons_zero, List.set_cons_succ, i64_w, i32_w]
       rfl
      refine take_ (i := 4) (N := some 47) (v := ?_) (a' := ?_) (az [6, 2, 1, 4]) rfl rfl (take_ofW HT_.out HW_.out (by kernel_rfl)) (fun _ _ _ h => h) (Or.inl ⟨by rfl, ?_⟩) hHeld ?_ ?_
      rotate_left
      ·rintro w' ⟨s0, s1, s2, s3⟩
       go_simp
       with_reducible rfl
      rotate_left
      ·simp only [Act.put, List.setIfInBounds_toArray, List.set_cons_zero, List.set_cons_succ, i64_w, i32_w]
       rfl
      refine pure_ (i := 6) (N := some 49) (v := ?_) (a' := ?_) (az [7, 1, 1, 4]) rfl rfl (any_of HT_.out (by kernel_rfl)) (fun _ _ _ h => h) (Or.inl ⟨by rfl, ?_⟩) ?_ ?_
      rotate_left
      ·intro w'
       go_simp
       with_reducible rfl
      rotate_left
      ·simp only [Act.put, List.setIfInBounds_toArray, List.set_cons_zero, List.set_cons_succ, i64_w, i32_w]
       rfl
      refine take_ (i := 7) (N := some 50) (v := ?_) (a' := ?_) (az [9, 4]) rfl rfl (take_ofW HT_.out HW_.out (by kernel_rfl)) (fun _ _ _ h => h) (Or.inl ⟨by rfl, ?_⟩) hHeld ?_ ?_
      rotate_left
      ·rintro w' ⟨s0, s1, s2, s3⟩
       go_simp
       with_reducible rfl
      rotate_left
      ·simp only [Act.put, List.setIfInBounds_toArray, List.set_cons_zero, List.set_cons_succ, i64_w, i32_w]
       rfl
      refine take_ (i := 9) (N := some 52) (v := ?_) (a' := ?_) (az [10, 3]) rfl rfl (take_ofW HT_.out HW_.out (by kernel_rfl)) (fun _ _ _ h => h) (Or.inl ⟨by rfl, ?_⟩) hHeld ?_ ?_
      rotate_left
      ·rintro w' ⟨s0, s1, s2, s3⟩
       go_simp
       with_reducible rfl
      rotate_left
      ·simp only [Act.put, List.setIfInBounds_toArray, List.set_cons_zero, List.set_cons_succ, i64_w, i32_w]
       rfl
      refine pure_ (i := 10) (N := some 53) (v := ?_) (a' := ?_) (az [11, 2]) rfl rfl (any_of HT_.out (by kernel_rfl)) (fun _ _ _ h => h) (Or.inl ⟨by rfl, ?_⟩) ?_ ?_
      rotate_left
      ·intro w'
       go_simp
       with_reducible rfl
      rotate_left
      ·simp only [Act.put, List.setIfInBounds_toArray, List.set_cons_zero, List.set_cons_succ, i64_w, i32_w]
       rfl
      refine pure_ (i := 11) (N := some 54) (v := ?_) (a' := ?_) (az [12, 1]) rfl rfl (any_of HT_.out (by kernel_rfl)) (fun _ _ _ h => h) (Or.inl ⟨by rfl, ?_⟩) ?_ ?_
      rotate_left
      ·intro w'
       go_simp
       with_reducible rfl
      rotate_left
      ·simp only [Act.put, List.setIfInBounds_toArray, List.set_cons_zero, List.set_cons_succ, i64_w, i32_w]
       rfl
      refine last_ (i := 12) (N := none) (az [13]) rfl rfl (one_of HT_.out (by kernel_rfl)) (by decide) (fun K hK => ?_)
      refine skip_ (w1 := ?_) (by rfl) rfl ?_ ?_
      rotate_left
      ·go_simp
       rfl
      refine hK.out _ _ ?_
      clear hK K
      refine done_ (done_of HT_.out (by kernel_rfl)) ?_
      try go_wp2
      (try simp only [← hl3_3])
      go_roundg k3
      case measure => have := HK1.out; have := HK2.out; have := HK3.out; omega
      case rel => exact ⟨(y254), (wrap64 (x39_3 + 1)), (by first | rfl | (simp; done) | (simp [*]; done)), H', ⟨by have := HK1.out; have := HK2.out; have := HK3.out; omega⟩, ⟨by (try simp only [hl3_1]); (try simp only [hl3_2]); (try simp only [hl3_3]); refine kq_S ?_; exact HQ42.out⟩, ⟨by (try simp only [hl3_1]); (try simp only [hl3_2]); (try simp only [hl3_3]); refine bkq ?_; refine blk_far ?_ (by have h_ := Kd.R_ne HL250_0.out BK238.out (by decide); intro e_; exact h_ (by rw [e_]; rfl)) _; refine bkq ?_; exact BK238.out⟩, ⟨by (try simp only [hl3_1]); (try simp only [hl3_2]); (try simp only [hl3_3]); refine bkq ?_; refine blk_far ?_ (by have h_ := Kd.R_ne HL250_0.out BK247.out (by decide); intro e_; exact h_ (by rw [e_]; rfl)) _; refine bkq ?_; exact BK247.out⟩, ⟨by repeat (first | (with_reducible first | exact HB.out | apply below_alloc | apply pw_below_drewN | apply below_drew1 | refine below_set ?_ GB35.out | refine below_set ?_ GE238.out | refine below_set ?_ GE247.out | refine below_set ?_ GE249.out) | exact HB.out)⟩⟩
     rw [if_neg c28] at H
     have c28b0 : decide (x39_3 < (((rd_T54 l0_1 x31_2).f3).length : Int)) = false := decide_eq_false c28
     (try (have c28g0 := c28b0; simp only [hl3_1, hl3_2, hl3_3] at c28g0))
     clear c28
     have H' := Aside0.mk H
     clear H
     have hnb44 := NB247_238.out
     have hnc44 := NB238_247.out
     have hcz45_0 : wr.cell? ⟨gb247, 0, none⟩ = some (.string ((rd_T54 l0_1 x31_2).f0)) := (blk_cell BK247.out 0).trans rfl
     have hcz45_1 : wr.cell? ⟨gb247, 1, none⟩ = some (.int .i64 ((rd_T54 l0_1 x31_2).f1)) := (blk_cell BK247.out 1).trans rfl
     have hcz45_2 : wr.cell? ⟨gb247, 2, none⟩ = some (.int .i64 ((rd_T54 l0_1 x31_2).f2)) := (blk_cell BK247.out 2).trans rfl
     have hcz45_3 : wr.cell? ⟨gb247, 3, none⟩ = some (.slice A246_3 ((rd_T54 l0_1 x31_2).f3).length c246_3) := (blk_cell BK247.out 3).trans rfl
     have hcz45_4 : wr.cell? ⟨gb247, 4, none⟩ = some (.slice A246_4 ((rd_T54 l0_1 x31_2).f4).length c246_4) := (blk_cell BK247.out 4).trans rfl
     have hcz45_5 : wr.cell? ⟨gb247, 5, none⟩ = some (.slice A246_5 ((rd_T54 l0_1 x31_2).f5).length c246_5) := (blk_cell BK247.out 5).trans rfl
     have hfz45_0 := blk_frozen BK247.out 0
     have hfz45_1 := blk_frozen BK247.out 1
     have hfz45_2 := blk_frozen BK247.out 2
     have hfz45_3 := blk_frozen BK247.out 3
     have hfz45_4 := blk_frozen BK247.out 4
     have hfz45_5 := blk_frozen BK247.out 5
     go_wp2
     go_loopg [59] k3 (fun kq v59 w' => ∃ (x3_4 : List (List Int)) (x59_4 : Int), v59 = .int .i64 x59_4 ∧ Aside0 (matrix_Of.l3 kq x3_4 x31_2 l0_1 (l0_1.length : Int) x31_2 ((rd_T54 l0_1 x31_2).f5) (((rd_T54 l0_1 x31_2).f5).length : Int) x59_4 = some r) ∧ Aside0 (kq ≤ k3) ∧ Aside0 (Kd.S (Kd.slice 3 (Kd.int .i64)) 37 w' w.heap.size (fun _ => True) (.slice Ao8 x3_3.length co8) x3_4) ∧ Aside0 (w'.heap[gb238]? = some (.cells #[(.slice A0_0 l0_0.length c0_0), (.slice (some ad246) l0_1.length c0_1)] 31 (0, 0))) ∧ Aside0 (w'.heap[gb247]? = some (.cells #[.string ((rd_T54 l0_1 x31_2).f0), .int .i64 ((rd_T54 l0_1 x31_2).f1), .int .i64 ((rd_T54 l0_1 x31_2).f2), (.slice A246_3 ((rd_T54 l0_1 x31_2).f3).length c246_3), (.slice A246_4 ((rd_T54 l0_1 x31_2).f4).length c246_4), (.slice A246_5 ((rd_T54 l0_1 x31_2).f5).length c246_5)] 54 (0, 0))) ∧ Aside0 (Below w.heap.size w w'))
     case atStart => exact ⟨(x3_3), (0), (by first | rfl | (simp; done) | (simp [*]; done)), H', ⟨Nat.le_refl _⟩, ⟨by (try simp only [hl3_1]); (try simp only [hl3_2]); (try simp only [hl3_3]); refine kq_S ?_; exact HO_3.out⟩, ⟨by (try simp only [hl3_1]); (try simp only [hl3_2]); (try simp only [hl3_3]); refine bkq ?_; exact BK238.out⟩, ⟨by (try simp only [hl3_1]); (try simp only [hl3_2]); (try simp only [hl3_3]); refine bkq ?_; exact BK247.out⟩, ⟨hbq HB.out⟩⟩
     clear H'
     try clear c1
     try clear p1
     try clear q1
     try clear hx1
     try clear hf1
     try clear c2
     try clear c2b0
     try clear c2b1
     try clear p2
     try clear q2
     try clear hx2
     try clear c3
     try clear c3b0
     try clear c3b1
     try clear p3
     try clear q3
     try clear hx3
     try clear hf3
     try clear c4
     try clear q4
     try clear p6
     try clear c9
     try clear c9b0
     try clear c10
     try clear c10b0
     try clear c10b1
     try clear c11
     try clear c11b0
     try clear c11b1
     try clear c12
     try clear c12b0
     try clear c13
     try clear c13b0
     try clear c14
     try clear p14
     try clear q14
     try clear hx14
     try clear hf14
     try clear c19
     try clear hx19
     try clear hf19
     try clear c22
     try clear c22b0
     try clear c23
     try clear c23b0
     try clear c24
     try clear c24b0
     try clear p24
     try clear q24
     try clear hx24
     try clear c25
     try clear p25
     try clear q25
     try clear hx25
     try clear c26
     try clear c28
     try clear c28b0
     try clear c29
     try clear c29b0
     try clear c30
     try clear c30b0
     try clear c31
     try clear c31b0
     try clear c32
     try clear c32b0
     try clear c33
     try clear c33b0
     try clear c34
     try clear c34b0
     try clear p35
     try clear q35
     try clear hx35
     try clear hf35
     try clear c37
     try clear c38
     try clear c42
     try clear q42
     try clear c44
     try clear hcz15_0
     try clear hcz15_1
     try clear hcz21_0
     try clear hcz21_1
     try clear hcz27_0
     try clear hcz27_1
     try clear hcz27_2
     try clear hcz27_3
     try clear hcz27_4
     try clear hcz27_5
     try clear hcz39_0
     try clear hcz39_1
     try clear hcz45_0
     try clear hcz45_1
     try clear hcz45_2
     try clear hcz45_3
     try clear hcz45_4
     try clear hcz45_5
     try clear hcz5_0
     try clear hcz5_1
     try clear hfz15_0
     try clear hfz15_1
     try clear hfz21_0
     try clear hfz21_1
     try clear hfz27_0
     try clear hfz27_1
     try clear hfz27_2
     try clear hfz27_3
     try clear hfz27_4
     try clear hfz27_5
     try clear hfz39_0
     try clear hfz39_1
     try clear hfz45_0
     try clear hfz45_1
     try clear hfz45_2
     try clear hfz45_3
     try clear hfz45_4
     try clear hfz45_5
     try clear hfz5_0
     try clear hfz5_1
     try clear hx14_0
     try clear hx19_0
     try clear hx246_0
     try clear hx246_1
     try clear hx246_2
     try clear hx246_3
     try clear hx246_4
     try clear hx246_5
     try clear hx248_0
     try clear hx248_1
     try clear hx250_0
     try clear hx251_0
     try clear hx35_0
     try clear p1
     try clear p14
     try clear p2
     try clear p24
     try clear p246
     try clear p248
     try clear p250
     try clear p251
     try clear p35
     try clear p6
     try clear q1
     try clear q14
     try clear q2
     try clear q24
     try clear q246
     try clear q248
     try clear q250
     try clear q251
     try clear q35
     obtain ⟨x3_4, x59_4, rfl, HA, HK4, HO_3, BK238, BK247, HB⟩ := hrel
     have hl3_4 := (Kd.S_reads' HO_3.out).1
     rw [hl3_4] at HO_3
     (try simp only [hl3_4])
     (try simp only [hl3_4] at BK238)
     (try simp only [hl3_4] at BK247)
     cases gk with
     | zero => exact absurd HA.out (by simp [matrix_Of.l3])
     | succ k4 =>
      have H := HA.out
      clear HA
      simp only [matrix_Of.l3] at H
      by_cases c46 : x59_4 < (((rd_T54 l0_1 x31_2).f5).length : Int)
      ·rw [if_pos c46] at H
       have c46b0 : decide (x59_4 < (((rd_T54 l0_1 x31_2).f5).length : Int)) = true := decide_eq_true c46
       (try (have c46g0 := c46b0; simp only [hl3_1, hl3_2, hl3_3, hl3_4] at c46g0))
       clear c46
       by_cases c47 : 0 ≤ x59_4
       case neg => rw [if_neg c47] at H; exact absurd H (by simp)
       rw [if_pos c47] at H
       have c47b0 : decide (0 ≤ x59_4) = true := decide_eq_true c47
       clear c47
       by_cases c48 : x59_4 < (((rd_T54 l0_1 x31_2).f5).length : Int)
       case neg => rw [if_neg c48] at H; exact absurd H (by simp)
       rw [if_pos c48] at H
       have c48b0 : decide (x59_4 < (((rd_T54 l0_1 x31_2).f5).length : Int)) = true := decide_eq_true c48
       (try (have c48g0 := c48b0; simp only [hl3_1, hl3_2, hl3_3, hl3_4] at c48g0))
       clear c48
       by_cases c49 : 0 ≤ ((rd_T51 ((rd_T54 l0_1 x31_2).f5) x59_4).f0)
       case neg => rw [if_neg c49] at H; exact absurd H (by simp)
       rw [if_pos c49] at H
       have c49b0 : decide (0 ≤ ((rd_T51 ((rd_T54 l0_1 x31_2).f5) x59_4).f0)) = true := decide_eq_true c49
       clear c49
       by_cases c50 : ((rd_T51 ((rd_T54 l0_1 x31_2).f5) x59_4).f0) < (x3_4.length : Int)
       case neg => rw [if_neg c50] at H; exact absurd H (by simp)
       rw [if_pos c50] at H
       have c50b0 : decide (((rd_T51 ((rd_T54 l0_1 x31_2).f5) x59_4).f0) < (x3_4.length : Int)) = true := decide_eq_true c50
       (try (have c50g0 := c50b0; simp only [hl3_1, hl3_2, hl3_3, hl3_4] at c50g0))
       clear c50
       by_cases c51 : 0 ≤ x31_2
       case neg => rw [if_neg c51] at H; exact absurd H (by simp)
       rw [if_pos c51] at H
       have c51b0 : decide (0 ≤ x31_2) = true := decide_eq_true c51
       clear c51
       by_cases c52 : x31_2 < ((rd_L1 x3_4 ((rd_T51 ((rd_T54 l0_1 x31_2).f5) x59_4).f0)).length : Int)
       case neg => rw [if_neg c52] at H; exact absurd H (by simp)
       rw [if_pos c52] at H
       have c52b0 : decide (x31_2 < ((rd_L1 x3_4 ((rd_T51 ((rd_T54 l0_1 x31_2).f5) x59_4).f0)).length : Int)) = true := decide_eq_true c52
       (try (have c52g0 := c52b0; simp only [hl3_1, hl3_2, hl3_3, hl3_4] at c52g0))
       clear c52
       obtain ⟨y259, hy259⟩ : ∃ y_ : List Int, y_ = ((rd_L1 x3_4 ((rd_T51 ((rd_T54 l0_1 x31_2).f5) x59_4).f0)).set (x31_2 : Int).toNat (wrap64 ((rd (rd_L1 x3_4 ((rd_T51 ((rd_T54 l0_1 x31_2).f5) x59_4).f0)) x31_2) + ((rd_T51 ((rd_T54 l0_1 x31_2).f5) x59_4).f1)))) := ⟨_, rfl⟩
       replace H : (matrix_Of.l3 k4 (x3_4.set (((rd_T51 ((rd_T54 l0_1 x31_2).f5) x59_4).f0) : Int).toNat y259) x31_2 l0_1 (l0_1.length : Int) x31_2 ((rd_T54 l0_1 x31_2).f5) (((rd_T54 l0_1 x31_2).f5).length : Int) (wrap64 (x59_4 + 1))) = some r := by first | (rw [hy259]; with_reducible exact H) | (have H2_ := (Option.bind_some _ _).symm.trans H; rw [hy259]; with_reducible exact H2_) | (have H2_ := (Option.bind_some _ _).symm.trans H; with_reducible exact H2_) | with_reducible exact H | (rw [hy259]; exact H) | exact H
       have Ny259 := Aside0.mk hy259
       clear hy259
       obtain ⟨y261, hy261⟩ : ∃ y_ : List (List Int), y_ = (x3_4.set (((rd_T51 ((rd_T54 l0_1 x31_2).f5) x59_4).f0) : Int).toNat y259) := ⟨_, rfl⟩
       replace H : (matrix_Of.l3 k4 y261 x31_2 l0_1 (l0_1.length : Int) x31_2 ((rd_T54 l0_1 x31_2).f5) (((rd_T54 l0_1 x31_2).f5).length : Int) (wrap64 (x59_4 + 1))) = some r := by first | (rw [hy261]; with_reducible exact H) | (have H2_ := (Option.bind_some _ _).symm.trans H; rw [hy261]; with_reducible exact H2_) | (have H2_ := (Option.bind_some _ _).symm.trans H; with_reducible exact H2_) | with_reducible exact H | (rw [hy261]; exact H) | exact H
       have Ny261 := Aside0.mk hy261
       clear hy261
       have H' := Aside0.mk H
       clear H
       have p255 : 0 ≤ (x59_4 : Int) := of_decide_eq_true (by first | (with_reducible assumption) | assumption)
       have q255 : x59_4 < (((rd_T54 l0_1 x31_2).f5).length : Int) := of_decide_eq_true (by first | (with_reducible assumption) | assumption)
       obtain ⟨ad255, e255, hx255_0, hx255_1⟩ := at_T51 HR246_5.out x59_4 p255 q255
       cases e255
       replace hx255_0 := (HB.out.cell (World.block_lt_of_cell? w _ hx255_0)).trans hx255_0
       replace hx255_1 := (HB.out.cell (World.block_lt_of_cell? w _ hx255_1)).trans hx255_1
       replace p255 := eq_true p255
       replace q255 := eq_true q255
       try go_wp2_with (first | ((with_reducible refine gate_dst (N := 10) rfl ?_); refine box_event ?hg (N := 10) ?hd (cs := #[.int .i64 0, .int .i64 0]) (t := 51) ?hr ?_; (case hd => rfl); (case hg => rfl); (case hr => first | (go_simp; done) | (go_simp; rfl)); intro gb256 hg w54 hbox hb; have n0_ := Aside0.mk (Kd.S_below (kq_S HO_3.out) hb); have n1_ := Aside0.mk (blk_below (g := gb238) (o := .cells #[.slice A0_0 l0_0.length c0_0, .slice (some ad246) l0_1.length c0_1] 31 (0, 0)) (bkq BK238.out) hb); have n2_ := Aside0.mk (blk_below (g := gb247) (o := .cells #[.string ((rd_T54 l0_1 x31_2).f0), .int .i64 ((rd_T54 l0_1 x31_2).f1), .int .i64 ((rd_T54 l0_1 x31_2).f2), .slice A246_3 ((rd_T54 l0_1 x31_2).f3).length c246_3, .slice A246_4 ((rd_T54 l0_1 x31_2).f4).length c246_4, .slice (some ad255) ((rd_T54 l0_1 x31_2).f5).length c246_5] 54 (0, 0)) (bkq BK247.out) hb); have n3_ := Aside0.mk (below_step (hbq HB.out) hb); have n4_ := Aside0.mk (hbox); have n5_ := Aside0.mk ((by rw [hg]; exact (below_size (hbq HB.out)) : w.heap.size ≤ gb256)); have n6_ := Aside0.mk ((by rw [hg]; exact (below_size (hbq HB.out)) : w.heap.size ≤ gb256)); have n7_ := Aside0.mk ((by rw [hg]; exact Nat.ne_of_lt (blk_lt (g := gb238) (o := .cells #[.slice A0_0 l0_0.length c0_0, .slice (some ad246) l0_1.length c0_1] 31 (0, 0)) (bkq BK238.out)) : gb238 ≠ gb256)); have n8_ := Aside0.mk ((by rw [hg]; exact Nat.ne_of_gt (blk_lt (g := gb238) (o := .cells #[.slice A0_0 l0_0.length c0_0, .slice (some ad246) l0_1.length c0_1] 31 (0, 0)) (bkq BK238.out)) : gb256 ≠ gb238)); have n9_ := Aside0.mk ((by rw [hg]; exact Nat.ne_of_lt (blk_lt (g := gb247) (o := .cells #[.string ((rd_T54 l0_1 x31_2).f0), .int .i64 ((rd_T54 l0_1 x31_2).f1), .int .i64 ((rd_T54 l0_1 x31_2).f2), .slice A246_3 ((rd_T54 l0_1 x31_2).f3).length c246_3, .slice A246_4 ((rd_T54 l0_1 x31_2).f4).length c246_4, .slice (some ad255) ((rd_T54 l0_1 x31_2).f5).length c246_5] 54 (0, 0)) (bkq BK247.out)) : gb247 ≠ gb256)); have n10_ := Aside0.mk ((by rw [hg]; exact Nat.ne_of_gt (blk_lt (g := gb247) (o := .cells #[.string ((rd_T54 l0_1 x31_2).f0), .int .i64 ((rd_T54 l0_1 x31_2).f1), .int .i64 ((rd_T54 l0_1 x31_2).f2), .slice A246_3 ((rd_T54 l0_1 x31_2).f3).length c246_3, .slice A246_4 ((rd_T54 l0_1 x31_2).f4).length c246_4, .slice (some ad255) ((rd_T54 l0_1 x31_2).f5).length c246_5] 54 (0, 0)) (bkq BK247.out)) : gb256 ≠ gb247)); clear HO_3; clear BK238; clear BK247; clear HB; have HO_3 := n0_; have BK238 := n1_; have BK247 := n2_; have HB := n3_; have BK256 := n4_; have GW256 := n5_; have GE256 := n6_; have NB238_256 := n7_; have NB256_238 := n8_; have NB247_256 := n9_; have NB256_247 := n10_; clear n0_ n1_ n2_ n3_ n4_ n5_ n6_ n7_ n8_ n9_ n10_; clear hb hbox hg; have hnb55 := NB256_238.out; have hnc55 := NB238_256.out; have hnb56 := NB256_247.out; have hnc56 := NB247_256.out; have hcz57_0 : w54.cell? ⟨gb256, 0, none⟩ = some (.int .i64 0) := (blk_cell BK256.out 0).trans rfl; have hcz57_1 : w54.cell? ⟨gb256, 1, none⟩ = some (.int .i64 0) := (blk_cell BK256.out 1).trans rfl; have hfz57_0 := blk_frozen BK256.out 0; have hfz57_1 := blk_frozen BK256.out 1))
       have n0_ : Aside0 (Kd.S (Kd.slice 3 (Kd.int .i64)) 37 ((w54.setCell ⟨gb256, 0, none⟩ (.int .i64 ((rd_T51 ((rd_T54 l0_1 x31_2).f5) x59_4).f0))).setCell ⟨gb256, 1, none⟩ (.int .i64 ((rd_T51 ((rd_T54 l0_1 x31_2).f5) x59_4).f1))) w.heap.size (fun _ => True) (.slice Ao8 x3_4.length co8) x3_4) := ⟨by refine kq_S ?_; exact Kd.S_mono (Kd.S_far (p := ⟨gb256, 1, none⟩) (Kd.S_far (p := ⟨gb256, 0, none⟩) (Kd.S_types HO_3.out BK256.out (by decide)) (fun _ hk => hk.2) (.int .i64 ((rd_T51 ((rd_T54 l0_1 x31_2).f5) x59_4).f0))) (fun _ hk => hk.2) (.int .i64 ((rd_T51 ((rd_T54 l0_1 x31_2).f5) x59_4).f1))) (fun _ hk => trivial)⟩
       have n1_ : Aside0 (((w54.setCell ⟨gb256, 0, none⟩ (.int .i64 ((rd_T51 ((rd_T54 l0_1 x31_2).f5) x59_4).f0))).setCell ⟨gb256, 1, none⟩ (.int .i64 ((rd_T51 ((rd_T54 l0_1 x31_2).f5) x59_4).f1))).heap[gb238]? = some (.cells #[.slice A0_0 l0_0.length c0_0, .slice (some ad246) l0_1.length c0_1] 31 (0, 0))) := ⟨by refine bkq ?_; refine blk_far ?_ NB238_256.out _; refine bkq ?_; refine blk_far ?_ NB238_256.out _; refine bkq ?_; exact BK238.out⟩
       have n2_ : Aside0 (((w54.setCell ⟨gb256, 0, none⟩ (.int .i64 ((rd_T51 ((rd_T54 l0_1 x31_2).f5) x59_4).f0))).setCell ⟨gb256, 1, none⟩ (.int .i64 ((rd_T51 ((rd_T54 l0_1 x31_2).f5) x59_4).f1))).heap[gb247]? = some (.cells #[.string ((rd_T54 l0_1 x31_2).f0), .int .i64 ((rd_T54 l0_1 x31_2).f1), .int .i64 ((rd_T54 l0_1 x31_2).f2), .slice A246_3 ((rd_T54 l0_1 x31_2).f3).length c246_3, .slice A246_4 ((rd_T54 l0_1 x31_2).f4).length c246_4, .slice (some ad255) ((rd_T54 l0_1 x31_2).f5).length c246_5] 54 (0, 0))) := ⟨by refine bkq ?_; refine blk_far ?_ NB247_256.out _; refine bkq ?_; refine blk_far ?_ NB247_256.out _; refine bkq ?_; exact BK247.out⟩
       have n3_ : Aside0 (((w54.setCell ⟨gb256, 0, none⟩ (.int .i64 ((rd_T51 ((rd_T54 l0_1 x31_2).f5) x59_4).f0))).setCell ⟨gb256, 1, none⟩ (.int .i64 ((rd_T51 ((rd_T54 l0_1 x31_2).f5) x59_4).f1))).heap[gb256]? = some (.cells #[.int .i64 ((rd_T51 ((rd_T54 l0_1 x31_2).f5) x59_4).f0), .int .i64 ((rd_T51 ((rd_T54 l0_1 x31_2).f5) x59_4).f1)] 51 (0, 0))) := ⟨by refine bkq ?_; refine blk_put (cs := #[.int .i64 ((rd_T51 ((rd_T54 l0_1 x31_2).f5) x59_4).f0), .int .i64 0]) ?_ 1 _ rfl; refine bkq ?_; refine blk_put (cs := #[.int .i64 0, .int .i64 0]) ?_ 0 _ rfl; refine bkq ?_; exact BK256.out⟩
       have n4_ : Aside0 (Below w.heap.size w ((w54.setCell ⟨gb256, 0, none⟩ (.int .i64 ((rd_T51 ((rd_T54 l0_1 x31_2).f5) x59_4).f0))).setCell ⟨gb256, 1, none⟩ (.int .i64 ((rd_T51 ((rd_T54 l0_1 x31_2).f5) x59_4).f1)))) := ⟨hbq HB.out⟩
       (try clear HO_3)
       (try clear BK238)
       (try clear BK247)
       (try clear BK256)
       (try clear HB)
       generalize ((w54.setCell ⟨gb256, 0, none⟩ (.int .i64 ((rd_T51 ((rd_T54 l0_1 x31_2).f5) x59_4).f0))).setCell ⟨gb256, 1, none⟩ (.int .i64 ((rd_T51 ((rd_T54 l0_1 x31_2).f5) x59_4).f1))) = w58 at n0_ n1_ n2_ n3_ n4_ ⊢
       have HO_3 := n0_
       have BK238 := n1_
       have BK247 := n2_
       have BK256 := n3_
       have HB := n4_
       clear n0_ n1_ n2_ n3_ n4_
       have n0_ := Aside0.mk (Kd.S_drew HO_3.out)
       have n1_ := Aside0.mk (blk_drew BK238.out)
       have n2_ := Aside0.mk (blk_drew BK247.out)
       have n3_ := Aside0.mk (blk_drew BK256.out)
       have n4_ := Aside0.mk (below_drew1 HB.out)
       clear HO_3
       clear BK238
       clear BK247
       clear BK256
       clear HB
       have HO_3 := n0_
       have BK238 := n1_
       have BK247 := n2_
       have BK256 := n3_
       have HB := n4_
       clear n0_ n1_ n2_ n3_ n4_
       have p257 : 0 ≤ (((rd_T51 ((rd_T54 l0_1 x31_2).f5) x59_4).f0) : Int) := of_decide_eq_true (by first | (with_reducible assumption) | assumption)
       have q257 : ((rd_T51 ((rd_T54 l0_1 x31_2).f5) x59_4).f0) < (x3_4.length : Int) := of_decide_eq_true (by first | (with_reducible assumption) | assumption)
       obtain ⟨ad257, A257_0, c257_0, e257, hx257_0, hl257_0, hi257_0⟩ := at_L1 (Kd.S_reads' HO_3.out).2.2 ((rd_T51 ((rd_T54 l0_1 x31_2).f5) x59_4).f0) p257 q257
       cases e257
       obtain ⟨ce257, hce257, hMe257, hcc257⟩ := Kd.S_get HO_3.out [] ((rd_T51 ((rd_T54 l0_1 x31_2).f5) x59_4).f0) p257 (by first | exact q257 | exact of_decide_eq_true (by first | (with_reducible assumption) | assumption) | (have e_ := (Kd.S_reads' HO_3.out).1; omega))
       obtain ⟨ve257_0, rfl, ge257_0⟩ := hMe257
       have hv257_0 := hcc257 0 _ rfl
       rw [Nat.add_zero, show ((Kd.slice 3 (Kd.int .i64))).sz = 1 from rfl, Nat.mul_one] at hv257_0
       replace hv257_0 := Option.some.inj (hv257_0.symm.trans hx257_0)
       rw [hv257_0] at ge257_0
       have HL257_0 := Aside0.mk (show Kd.R (Kd.int .i64) 3 _ _ _ _ (rd_L1 x3_4 ((rd_T51 ((rd_T54 l0_1 x31_2).f5) x59_4).f0)) from ge257_0)
       clear hv257_0 ge257_0
       have HX257_0 := Aside0.mk hx257_0
       clear hcc257 hce257
       have HR257_0 := Aside0.mk hi257_0
       have HC257_0 := Aside0.mk hl257_0
       clear hi257_0 hl257_0
       replace p257 := eq_true p257
       replace q257 := eq_true q257
       have p258 : 0 ≤ (x31_2 : Int) := of_decide_eq_true (by first | (with_reducible assumption) | assumption)
       have q258 : x31_2 < ((rd_L1 x3_4 ((rd_T51 ((rd_T54 l0_1 x31_2).f5) x59_4).f0)).length : Int) := of_decide_eq_true (by first | (with_reducible assumption) | assumption)
       obtain ⟨ad258, e258, hx258_0⟩ := Kd.at_int (by repeat (first | (with_reducible exact HR257_0.out) | (with_reducible refine Kd.C_alloc ?_ _) | (with_reducible refine Kd.C_drewN ?_ _) | (with_reducible refine Kd.C_drew ?_) | exact HR257_0.out)) x31_2 p258 q258
       cases e258
       replace p258 := eq_true p258
       replace q258 := eq_true q258
       have p53 : 0 ≤ (x31_2 : Int) := of_decide_eq_true (by first | (with_reducible assumption) | assumption)
       have q53 : (x31_2 : Int) < (((rd_L1 x3_4 ((rd_T51 ((rd_T54 l0_1 x31_2).f5) x59_4).f0)).length : Int) : Int) := of_decide_eq_true (by first | (with_reducible assumption) | assumption)
       obtain ⟨go53, co53, eo53, gb53, gl53, cl53, HG53⟩ := Kd.R_form HL257_0.out (by omega)
       (first | cases eo53 | (injection eo53 with ea_ en_ ec_; (first | subst ea_ | (injection ea_ with ea_; subst ea_)); subst ec_; clear en_))
       have GB53 := Aside0.mk gb53
       have GG53 := Aside0.mk HG53
       clear gb53 gl53 HG53
       (first | simp only [add_plain] at hx258_0 | skip)
       obtain ⟨hx53_0, hf53_0⟩ := Kd.R_celln 0 HL257_0.out (x31_2 : Int) p53 q53
       replace p53 := eq_true p53
       replace q53 := eq_true q53
       have hq60 : (((rd_T51 ((rd_T54 l0_1 x31_2).f5) x59_4).f0) : Int) < (x3_4.length : Int) := (by have h_ : (((rd_T51 ((rd_T54 l0_1 x31_2).f5) x59_4).f0) : Int) < ((x3_4.length : Int) : Int) := of_decide_eq_true (by first | (with_reducible assumption) | assumption); first | exact h_ | (have e_ := (Kd.S_reads' HO_3.out).1; omega) | simpa only [List.length_set, List.length_set] using h_)
       obtain ⟨oki60, ce60, hcl60, hM60, hcc60, hok60, hbk60⟩ := Kd.S_borrow HO_3.out [] (((rd_T51 ((rd_T54 l0_1 x31_2).f5) x59_4).f0) : Int) (of_decide_eq_true (by first | (with_reducible assumption) | assumption)) hq60
       obtain ⟨ve60_0, rfl, ge60_0⟩ := hM60
       have hv60 := hcc60 0 _ rfl
       rw [Nat.add_zero, show ((Kd.slice 3 (Kd.int .i64))).sz = 1 from rfl, Nat.mul_one] at hv60
       replace hv60 := Option.some.inj (hv60.symm.trans HX257_0.out)
       subst hv60
       clear hcc60 hcl60
       replace ge60_0 := (show Kd.R (Kd.int .i64) 3 _ _ _ _ (rd_L1 x3_4 ((rd_T51 ((rd_T54 l0_1 x31_2).f5) x59_4).f0)) from ge60_0)
       have HP60 := Kd.R_putg ge60_0 (x31_2 : Int) (wrap64 ((rd (rd_L1 x3_4 ((rd_T51 ((rd_T54 l0_1 x31_2).f5) x59_4).f0)) x31_2) + ((rd_T51 ((rd_T54 l0_1 x31_2).f5) x59_4).f1)))
       rw [← Ny259.out] at HP60
       have HS60 := hbk60 HP60.2 (fun k_ e_ => by injection e_ with e_; subst e_; exact ge60_0.1 _ rfl) (x' := y259) (Kd.M_row HP60.1)
       rw [← Ny261.out] at HS60
       have HQ60 := Aside0.mk HS60
       clear HP60 HS60 hbk60 hok60
       refine start_ (n := 13) (S := fun w' => w'.cell? ⟨gb256, 0, none⟩ = some (.int .i64 ((rd_T51 ((rd_T54 l0_1 x31_2).f5) x59_4).f0)) ∧ w'.cell? ⟨gb256, 1, none⟩ = some (.int .i64 ((rd_T51 ((rd_T54 l0_1 x31_2).f5) x59_4).f1)) ∧ w'.cell? (ad257.add (((rd_T51 ((rd_T54 l0_1 x31_2).f5) x59_4).f0)).toNat) = some (.slice (some ⟨go53, 0, none⟩) (rd_L1 x3_4 ((rd_T51 ((rd_T54 l0_1 x31_2).f5) x59_4).f0)).length c257_0) ∧ w'.cell? ⟨go53, (x31_2).toNat, none⟩ = some (.int .i64 (rd (rd_L1 x3_4 ((rd_T51 ((rd_T54 l0_1 x31_2).f5) x59_4).f0)) x31_2))) (ds := [12]) (az [0, 13]) (by kernel_rfl) rfl rfl ⟨(blk_cell BK256.out 0).trans rfl, (blk_cell BK256.out 1).trans rfl, hx257_0, hx258_0⟩ (fun hHeld => ?_); refine with_tabW matrix_Of.tab18 matrix_Of.bits18 (fun HT_ HW_ => ?_)
       generalize w58.drew = w59 at HO_3 BK238 BK247 BK256 HB GG53 HL257_0 HQ60 HR257_0 HX257_0 hf53_0 hx257_0 hx258_0 hx53_0 hHeld ⊢
       refine pure_ (i := 0) (N := some 63) (v := ?_) (a' := ?_) (az [1, 12]) rfl rfl (any_of HT_.out (by kernel_rfl)) (fun _ _ _ h => h) (Or.inl ⟨by rfl, ?_⟩) ?_ ?_
       rotate_left
       ·intro w'
        go_simp
        with_reducible rfl
       rotate_left
       ·simp only [Act.put, List.setIfInBounds_toArray, List.set_cons_zero, List.set_cons_succ, i64_w, i32_w]
        rfl
       refine pure_ (i := 1) (N := some 64) (v := ?_) (a' := ?_) (az [2, 11]) rfl rfl (any_of HT_.out (by kernel_rfl)) (fun _ _ _ h => h) (Or.inl ⟨by rfl, ?_⟩) ?_ ?_
       rotate_left
       ·intro w'
        go_simp
        with_reducible rfl
       rotate_left
       ·simp only [Act.put, List.setIfInBounds_toArray, List.set_cons_zero, List.set_cons_succ, i64_w, i32_w]
        rfl
       refine pure_ (i := 5) (N := some 68) (v := ?_) (a' := ?_) (az [2, 3, 1, 7]) rfl rfl (any_of HT_.out (by kernel_rfl)) (fun _ _ _ h => h) (Or.inl ⟨by rfl, ?_⟩) ?_ ?_
       rotate_left
       ·intro w'
        go_simp
        with_reducible rfl
       rotate_left
       ·simp only [Act.put, List.setIfInBounds_toArray, List.set_cons_zero, List.set_cons_succ, i64_w, i32_w]
        rfl
       refine pure_ (i := 8) (N := some 71) (v := ?_) (a' := ?_) (az [2, 3, 1, 2, 1, 4]) rfl rfl (any_of HT_.out (by kernel_rfl)) (fun _ _ _ h => h) (Or.inl ⟨by rfl, ?_⟩) ?_ ?_
       rotate_left
       ·intro w'
        go_simp
        with_reducible rfl
       rotate_left
       ·simp only [Act.put, List.setIfInBounds_toArray, List.set_cons_zero, List.set_cons_succ, i64_w, i32_w]
        rfl
       refine take_ (i := 2) (N := some 65) (v := ?_) (a' := ?_) (az [3, 2, 1, 2, 1, 4]) rfl rfl (take_ofW HT_.out HW_.out (by kernel_rfl)) (fun _ _ _ h => h) (Or.inl ⟨by rfl, ?_⟩) hHeld ?_ ?_
       rotate_left
       ·rintro w' ⟨s0, s1, s2, s3⟩
        go_simp
        with_reducible rfl
       rotate_left
       ·simp only [Act.put, List.setIfInBounds_toArray, List.set_cons_zero, List.set_cons_succ, i64_w, i32_w]
        rfl
       refine pure_ (i := 3) (N := some 66) (v := ?_) (a' := ?_) (az [4, 1, 1, 2, 1, 4]) rfl rfl (any_of HT_.out (by kernel_rfl)) (fun _ _ _ h => h) (Or.inl ⟨by rfl, ?_⟩) ?_ ?_
       rotate_left
       ·intro w'
        go_simp
        with_reducible rfl
       rotate_left
       ·simp only [Act.put, List.setIfInBounds_toArray, List.set_cons_zero, List.set_cons_succ, i64_w, i32_w]
        rfl
       refine take_ (i := 4) (N := some 67) (v := ?_) (a' := ?_) (az [6, 2, 1, 4]) rfl rfl (take_ofW HT_.out HW_.out (by kernel_rfl)) (fun _ _ _ h => h) (Or.inl ⟨by rfl, ?_⟩) hHeld ?_ ?_
       rotate_left
       ·rintro w' ⟨s0, s1, s2, s3⟩
        go_simp
        with_reducible rfl
       rotate_left
       ·simp only [Act.put, List.setIfInBounds_toArray, List.set_cons_zero, List.set_cons_succ, i64_w, i32_w]
        rfl
       refine pure_ (i := 6) (N := some 69) (v := ?_) (a' := ?_) (az [7, 1, 1, 4]) rfl rfl (any_of HT_.out (by kernel_rfl)) (fun _ _ _ h => h) (Or.inl ⟨by rfl, ?_⟩) ?_ ?_
       rotate_left
       ·intro w'
        go_simp
        with_reducible rfl
       rotate_left
       ·simp only [Act.put, List.setIfInBounds_toArray, List.set_cons_zero, List.set_cons_succ, i64_w, i32_w]
        rfl
       refine take_ (i := 7) (N := some 70) (v := ?_) (a' := ?_) (az [9, 4]) rfl rfl (take_ofW HT_.out HW_.out (by kernel_rfl)) (fun _ _ _ h => h) (Or.inl ⟨by rfl, ?_⟩) hHeld ?_ ?_
       rotate_left
       ·rintro w' ⟨s0, s1, s2, s3⟩
        go_simp
        with_reducible rfl
       rotate_left
       ·simp only [Act.put, List.setIfInBounds_toArray, List.set_cons_zero, List.set_cons_succ, i64_w, i32_w]
        rfl
       refine take_ (i := 9) (N := some 72) (v := ?_) (a' := ?_) (az [10, 3]) rfl rfl (take_ofW HT_.out HW_.out (by kernel_rfl)) (fun _ _ _ h => h) (Or.inl ⟨by rfl, ?_⟩) hHeld ?_ ?_
       rotate_left
       ·rintro w' ⟨s0, s1, s2, s3⟩
        go_simp
        with_reducible rfl
       rotate_left
       ·simp only [Act.put, List.setIfInBounds_toArray, List.set_cons_zero, List.set_cons_succ, i64_w, i32_w]
        rfl
       refine pure_ (i := 10) (N := some 73) (v := ?_) (a' := ?_) (az [11, 2]) rfl rfl (any_of HT_.out (by kernel_rfl)) (fun _ _ _ h => h) (Or.inl ⟨by rfl, ?_⟩) ?_ ?_
       rotate_left
       ·intro w'
        go_simp
        with_reducible rfl
       rotate_left
       ·simp only [Act.put, List.setIfInBounds_toArray, List.set_cons_zero, List.set_cons_succ, i64_w, i32_w]
        rfl
       refine pure_ (i := 11) (N := some 74) (v := ?_) (a' := ?_) (az [12, 1]) rfl rfl (any_of HT_.out (by kernel_rfl)) (fun _ _ _ h => h) (Or.inl ⟨by rfl, ?_⟩) ?_ ?_
       rotate_left
       ·intro w'
        go_simp
        with_reducible rfl
       rotate_left
       ·simp only [Act.put, List.setIfInBounds_toArray, List.set_cons_zero, List.set_cons_succ, i64_w, i32_w]
        rfl
       refine last_ (i := 12) (N := none) (az [13]) rfl rfl (one_of HT_.out (by kernel_rfl)) (by decide) (fun K hK => ?_)
       refine skip_ (w1 := ?_) (by rfl) rfl ?_ ?_
       rotate_left
       ·go_simp
        rfl
       refine hK.out _ _ ?_
       clear hK K
       refine done_ (done_of HT_.out (by kernel_rfl)) ?_
       try go_wp2
       (try simp only [← hl3_4])
       go_roundg k4
       case measure => have := HK1.out; have := HK2.out; have := HK3.out; have := HK4.out; omega
       case rel => exact ⟨(y261), (wrap64 (x59_4 + 1)), (by first | rfl | (simp; done) | (simp [*]; done)), H', ⟨by have := HK1.out; have := HK2.out; have := HK3.out; have := HK4.out; omega⟩, ⟨by (try simp only [hl3_1]); (try simp only [hl3_2]); (try simp only [hl3_3]); (try simp only [hl3_4]); refine kq_S ?_; exact HQ60.out⟩, ⟨by (try simp only [hl3_1]); (try simp only [hl3_2]); (try simp only [hl3_3]); (try simp only [hl3_4]); refine bkq ?_; refine blk_far ?_ (by have h_ := Kd.R_ne HL257_0.out BK238.out (by decide); intro e_; exact h_ (by rw [e_]; rfl)) _; refine bkq ?_; exact BK238.out⟩, ⟨by (try simp only [hl3_1]); (try simp only [hl3_2]); (try simp only [hl3_3]); (try simp only [hl3_4]); refine bkq ?_; refine blk_far ?_ (by have h_ := Kd.R_ne HL257_0.out BK247.out (by decide); intro e_; exact h_ (by rw [e_]; rfl)) _; refine bkq ?_; exact BK247.out⟩, ⟨by repeat (first | (with_reducible first | exact HB.out | apply below_alloc | apply pw_below_drewN | apply below_drew1 | refine below_set ?_ GB53.out | refine below_set ?_ GE238.out | refine below_set ?_ GE247.out | refine below_set ?_ GE256.out) | exact HB.out)⟩⟩
      rw [if_neg c46] at H
      have c46b0 : decide (x59_4 < (((rd_T54 l0_1 x31_2).f5).length : Int)) = false := decide_eq_false c46
      (try (have c46g0 := c46b0; simp only [hl3_1, hl3_2, hl3_3, hl3_4] at c46g0))
      clear c46
      have H' := Aside0.mk H
      clear H
      go_wp2
      (try simp only [← hl3_2, ← hl3_3, ← hl3_4])
      go_roundg k4
      case measure => have := HK1.out; have := HK2.out; have := HK3.out; have := HK4.out; omega
      case rel => exact ⟨(x3_4), (wrap64 (x31_2 + 1)), (by first | rfl | (simp; done) | (simp [*]; done)), H', ⟨by have := HK1.out; have := HK2.out; have := HK3.out; have := HK4.out; omega⟩, ⟨by (try simp only [hl3_1]); (try simp only [hl3_2]); (try simp only [hl3_3]); (try simp only [hl3_4]); refine kq_S ?_; exact HO_3.out⟩, ⟨by (try simp only [hl3_1]); (try simp only [hl3_2]); (try simp only [hl3_3]); (try simp only [hl3_4]); refine bkq ?_; exact BK238.out⟩, ⟨hbq HB.out⟩⟩
   rw [if_neg c22] at H
   have c22b0 : decide (x31_2 < (l0_1.length : Int)) = false := decide_eq_false c22
   (try (have c22g0 := c22b0; simp only [hl3_1, hl3_2] at c22g0))
   clear c22
   obtain rfl := Option.some.inj H
   go_wp2
   go_ret
   exact ⟨_, by first | rfl | (simp [errW_none, errW_some] <;> rfl) | (simp [*, errW_none, errW_some] <;> rfl), by refine kq_S ?_; exact HO_3.out, hbq HB.out⟩

end Go.Proofs.Ytifbflpaednfnaa.PBasisMore
