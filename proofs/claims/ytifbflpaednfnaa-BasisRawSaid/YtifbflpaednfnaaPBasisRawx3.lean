/- What the functions that this law reaches answer, in whatever memory, and the row of the law; no condition. Written by a program of this session (mk.sh). -/
import Derived.Test.YtifbflpaednfnaaPBasisRawx0
import Derived.Test.YtifbflpaednfnaaPBasisRawx1
namespace Go.Proofs.Ytifbflpaednfnaa.PBasisRaw
open Go.RowKit Go.Proofs.YtifbflpaednfnaaW.PrintWords Go.Proofs.YtifbflpaednfnaaW.PrintLast Go.Proofs.YtifbflpaednfnaaW.PrintMore
attribute [local go_sem] max2_int min2_int max_two min_two max_three min_three max_four min_four   -- for this text's walks alone
set_option linter.unusedVariables false
set_option linter.unusedSimpArgs false

/-! ### whole_Norm: function 41 -/
mutual
def whole_Norm.l0 : Nat → List Int → Int → List Int → Int → Int → Option (List Int)
 | 0, _, _, _, _, _ => none
 | k + 1, x0, x3, x8, x9, x10 => if x10 < x9 then (if 0 ≤ x10 then (if x10 < (x8.length : Int) then ((whole_Gcd.f k x3 (rd x8 x10)).bind fun t129 => (whole_Norm.l0 k x0 t129 x8 x9 (wrap64 (x10 + 1)))) else (none)) else (none)) else (if 0 ≤ (x0.length : Int) then (if ((x0.length : Int) : Int).toNat ≤ 35184372088832 then ((some (List.replicate ((x0.length : Int) : Int).toNat 0 : List Int)).bind fun y130 => (whole_Norm.l1 k x3 (x0.take (min x0.length y130.length) ++ y130.drop (min x0.length y130.length)) (y130.length : Int) 0)) else (none)) else (none))
def whole_Norm.l1 : Nat → Int → List Int → Int → Int → Option (List Int)
 | 0, _, _, _, _ => none
 | k + 1, x3, x6, x25, x26 => if x26 < x25 then (if x3 > 1 then (if 0 ≤ x26 then (if x26 < (x6.length : Int) then (if x3 = 0 then (none) else (whole_Norm.l1 k x3 (x6.set (x26 : Int).toNat (wrap64 (Int.tdiv (rd x6 x26) x3))) x25 (wrap64 (x26 + 1)))) else (none)) else (none)) else (whole_Norm.l1 k x3 x6 x25 (wrap64 (x26 + 1)))) else (some x6)
end
def whole_Norm.f (k : Nat) (l0 : List Int) : Option (List Int) := whole_Norm.l0 k l0 0 l0 (l0.length : Int) 0
theorem whole_Norm.mono_l : ∀ k, (∀ y0 y1 y2 y3 y4, LeO (whole_Norm.l0 k y0 y1 y2 y3 y4) (whole_Norm.l0 (k + 1) y0 y1 y2 y3 y4)) ∧ (∀ y0 y1 y2 y3, LeO (whole_Norm.l1 k y0 y1 y2 y3) (whole_Norm.l1 (k + 1) y0 y1 y2 y3))
 | 0 => ⟨fun _ _ _ _ _ r h => by simp [whole_Norm.l0] at h, fun _ _ _ _ r h => by simp [whole_Norm.l1] at h⟩
 | k + 1 => by
  obtain ⟨ih0, ih1⟩ := whole_Norm.mono_l k
  refine ⟨?_, ?_⟩
  all_goals
   intros
   first
   | unfold whole_Norm.l0
   | unfold whole_Norm.l1
   repeat' first
   | (with_reducible exact ih0 _ _ _ _ _)
   | (with_reducible exact ih1 _ _ _ _)
   | (with_reducible exact whole_Gcd.mono _ _ _)
   | (with_reducible exact LeO.refl _)
   | (with_reducible exact LeO.none _)
   | (with_reducible refine LeO.ite ?_ ?_)
   | (with_reducible refine LeO.bind ?_ (fun _ => ?_))
   | exact ih0 _ _ _ _ _
   | exact ih1 _ _ _ _
   | exact whole_Gcd.mono _ _ _
   | exact LeO.none _
   | refine LeO.ite ?_ ?_
   | refine LeO.bind ?_ (fun _ => ?_)
theorem whole_Norm.mono : ∀ a0 k, LeO (whole_Norm.f k a0) (whole_Norm.f (k + 1) a0) := by
 intro a0 k
 obtain ⟨ih0, ih1⟩ := whole_Norm.mono_l k
 unfold whole_Norm.f
 repeat' first
  | (with_reducible exact ih0 _ _ _ _ _)
  | (with_reducible exact ih1 _ _ _ _)
  | (with_reducible exact whole_Gcd.mono _ _ _)
  | (with_reducible exact LeO.refl _)
  | (with_reducible exact LeO.none _)
  | (with_reducible refine LeO.ite ?_ ?_)
  | (with_reducible refine LeO.bind ?_ (fun _ => ?_))
  | exact ih0 _ _ _ _ _
  | exact ih1 _ _ _ _
  | exact whole_Gcd.mono _ _ _
  | exact LeO.none _
  | refine LeO.ite ?_ ?_
  | refine LeO.bind ?_ (fun _ => ?_)
set_option maxHeartbeats 8000000 in
set_option maxRecDepth 100000 in
theorem whole_Norm.calls (k : Nat) (A0 : Option Addr) (c0 : Nat) (l0 : List Int) (r : List Int) (w : World) (hr0 : Kd.C (Kd.int .i64) w A0 l0.length l0) (hc0 : l0.length ≤ c0) (h : whole_Norm.f k l0 = some r) :
 Calls Try.prog 41 #[.slice A0 l0.length c0] w fun e w' => ∃ v0_ : Value, e = .returned (v0_) ∧ Kd.R (Kd.int .i64) 3 w' w.heap.size (fun _ => True) v0_ r ∧ Below w.heap.size w w' := by
 have HR0 := Aside0.mk hr0; have HC0 := Aside0.mk hc0; clear hr0 hc0; have HB := Aside0.mk (Below.refl w.heap.size w); have H : (whole_Norm.l0 k l0 0 l0 (l0.length : Int) 0) = some r := h; clear h; have H' := Aside0.mk H; clear H; go_enter Try.func41, Try.ntmps41; go_wp2; go_loopg [3, 10] k (fun kq v3 v10 w' => ∃ (x3_1 : Int) (x10_1 : Int), v3 = .int .i64 x3_1 ∧ v10 = .int .i64 x10_1 ∧ Aside0 (whole_Norm.l0 kq l0 x3_1 l0 (l0.length : Int) x10_1 = some r) ∧ Aside0 (kq ≤ k) ∧ Aside0 (Below w.heap.size w w'))
 case atStart => exact ⟨(0), (0), (by first | rfl | (simp; done) | (simp [*]; done)), (by first | rfl | (simp; done) | (simp [*]; done)), H', ⟨Nat.le_refl _⟩, ⟨hbq HB.out⟩⟩
 clear H'; obtain ⟨x3_1, x10_1, rfl, rfl, HA, HK1, HB⟩ := hrel; cases gk with
 | zero => exact absurd HA.out (by simp [whole_Norm.l0])
 | succ k1 =>
  have H := HA.out; clear HA; simp only [whole_Norm.l0] at H
  by_cases c2 : x10_1 < (l0.length : Int)
  ·rw [if_pos c2] at H; have c2b0 : decide (x10_1 < (l0.length : Int)) = true := decide_eq_true c2; clear c2
   by_cases c3 : 0 ≤ x10_1
   case neg => rw [if_neg c3] at H; exact absurd H (by simp)
   rw [if_pos c3] at H; have c3b0 : decide (0 ≤ x10_1) = true := decide_eq_true c3; clear c3
   by_cases c4 : x10_1 < (l0.length : Int)
   case neg => rw [if_neg c4] at H; exact absurd H (by simp)
   rw [if_pos c4] at H; have c4b0 : decide (x10_1 < (l0.length : Int)) = true := decide_eq_true c4; clear c4; replace H := Option.bind_eq_some_iff.mp H; obtain ⟨t129, A50, H⟩ := H; replace H : (whole_Norm.l0 k1 l0 t129 l0 (l0.length : Int) (wrap64 (x10_1 + 1))) = some r := H; have A5 := Aside0.mk A50; clear A50; have H' := Aside0.mk H; clear H; have p128 : 0 ≤ (x10_1 : Int) := oa; have q128 : x10_1 < (l0.length : Int) := oa; obtain ⟨ad128, e128, hx128_0⟩ := Kd.at_int HR0.out x10_1 p128 q128; cases e128; replace hx128_0 := (HB.out.cell (World.block_lt_of_cell? w _ hx128_0)).trans hx128_0; replace p128 := eq_true p128; replace q128 := eq_true q128; go_wp2_with (first | ((with_reducible refine gate_callee (f := 38) rfl ?_); refine goesL_ (some 16) rfl rfl Try.func38 (by kernel_rfl) rfl #[.int .i64 x3_1, .int .i64 (rd l0 x10_1)] rfl (by (try simp only [List.map_toArray, List.map_cons, List.map_nil]); first | done | rfl | (simp only [List.length_drop, List.length_take]; rfl)) ?_; (with_reducible refine (whole_Gcd.calls k1 x3_1 (rd l0 x10_1) t129 _ A5.out).mono ?_); rintro e w' ⟨rfl, ⟨nd, rfl⟩⟩; refine ⟨_, rfl, ?_⟩)); go_roundg k1
   case measure => have := HK1.out; omega
   case rel => exact ⟨(t129), (wrap64 (x10_1 + 1)), (by first | rfl | (simp; done) | (simp [*]; done)), (by first | rfl | (simp; done) | (simp [*]; done)), H', ⟨by have := HK1.out; omega⟩, ⟨hbq HB.out⟩⟩
  rw [if_neg c2] at H; have c2b0 : decide (x10_1 < (l0.length : Int)) = false := decide_eq_false c2; clear c2
  by_cases c6 : 0 ≤ (l0.length : Int)
  case neg => rw [if_neg c6] at H; exact absurd H (by simp)
  rw [if_pos c6] at H; have c6b0 := eq_true c6; have c6b1 : decide (0 ≤ (l0.length : Int)) = true := decide_eq_true c6; clear c6
  by_cases c7 : ((l0.length : Int) : Int).toNat ≤ 35184372088832
  case neg => rw [if_neg c7] at H; exact absurd H (by simp)
  rw [if_pos c7] at H; have c7b0 := eq_true c7; have c7b1 : decide (((l0.length : Int) : Int).toNat ≤ 35184372088832) = true := decide_eq_true c7; clear c7; obtain ⟨y130, hy130⟩ : ∃ y_ : List Int, y_ = (List.replicate ((l0.length : Int) : Int).toNat 0) := ⟨_, rfl⟩; replace H : (whole_Norm.l1 k1 x3_1 (l0.take (min l0.length y130.length) ++ y130.drop (min l0.length y130.length)) (y130.length : Int) 0) = some r := by first | (rw [hy130]; with_reducible exact H) | (have H2_ := (Option.bind_some _ _).symm.trans H; rw [hy130]; with_reducible exact H2_) | (have H2_ := (Option.bind_some _ _).symm.trans H; with_reducible exact H2_) | with_reducible exact H | (rw [hy130]; exact H) | exact H
  have Ny130 := Aside0.mk hy130; clear hy130; obtain ⟨y133, hy133⟩ : ∃ y_ : List Int, y_ = (l0.take (min l0.length y130.length) ++ y130.drop (min l0.length y130.length)) := ⟨_, rfl⟩; replace H : (whole_Norm.l1 k1 x3_1 y133 (y130.length : Int) 0) = some r := by first | (rw [hy133]; with_reducible exact H) | (have H2_ := (Option.bind_some _ _).symm.trans H; rw [hy133]; with_reducible exact H2_) | (have H2_ := (Option.bind_some _ _).symm.trans H; with_reducible exact H2_) | with_reducible exact H | (rw [hy133]; exact H) | exact H
  have Ny133 := Aside0.mk hy133; clear hy133; have H' := Aside0.mk H; clear H; go_wp2_with (first | ((with_reducible refine gate_dst (N := 20) rfl ?_); refine Kd.R_make (Kd.int .i64) _ 3 rfl (N := 20) rfl 37 _ _ rfl (l0.length : Int) rfl rfl Try.underlying37 (.int .i64 0) 8 info3 rfl (by decide) (by omega) 0 (ok := fun _ => True) (okp := fun _ => True) rfl (fun _ hk => hk) trivial (oa) (Nat.le_trans (Nat.mul_le_mul_right _ (oa : (l0.length : Int).toNat ≤ 35184372088832)) (by omega)) (Below.refl _ _) (Nat.le_refl _) ?_; intro v131 w8 ho9 hb hg_ hnew_; clear hg_ hnew_; (first | rw [← Ny130.out] at ho9 | (simp only [Int.reduceToNat] at ho9; rw [← Ny130.out] at ho9)); have HO132 := Aside0.mk (Kd.R_lower ho9 (below_size (hbq HB.out))); replace HB := Aside0.mk (below_step (hbq HB.out) hb); clear hb ho9; obtain ⟨Ao10, co10, eo10⟩ := Kd.R_slice HO132.out; subst eo10) | ((with_reducible refine gate_builtin (b := .copy) (xs := #[.tmp 21, .tmp 22]) rfl ?_); refine Kd.R_copy (enc := (Value.int .i64)) (h1 := fun _ => rfl) 0 (w0 := w) w.heap.size rfl (.tmp 21) (.tmp 22) 37 37 3 rfl Try.underlying37 (by kernel_rfl) (.slice Ao10 y130.length co10) y130 l0 _ _ _ (fun _ => True) rfl rfl ?aO ?aR ?aB ?aS ?_; (case aO => exact (kq_R HO132.out)); (case aR => repeat (first | exact (Kd.C_below HR0.out HB.out) | (with_reducible refine Kd.C_alloc ?_ _) | (with_reducible refine Kd.C_drewN ?_ _) | (with_reducible refine Kd.C_drew ?_))); (case aB => exact (hbq HB.out)); (case aS => exact (below_size (hbq HB.out))); intro w11 hp_ hb hg; rw [← Ny133.out] at hp_; replace HO132 := Aside0.mk (hp_); replace HB := Aside0.mk (hb); clear hp_ hb hg)); go_loopg [26] k1 (fun kq v26 w' => ∃ (x6_2 : List Int) (x26_2 : Int), v26 = .int .i64 x26_2 ∧ Aside0 (whole_Norm.l1 kq x3_1 x6_2 (y130.length : Int) x26_2 = some r) ∧ Aside0 (kq ≤ k1) ∧ Aside0 (Kd.R (Kd.int .i64) 3 w' w.heap.size (fun _ => True) (.slice Ao10 y130.length co10) x6_2) ∧ Aside0 (Below w.heap.size w w'))
  case atStart => exact ⟨(y133), (0), (by first | rfl | (simp; done) | (simp [*]; done)), H', ⟨Nat.le_refl _⟩, ⟨by refine kq_R ?_; exact HO132.out⟩, ⟨hbq HB.out⟩⟩
  clear H'; (try clear p1); (try clear q1); (try clear hx1); (try clear c2); (try clear c2b0); (try clear p2); (try clear c3); (try clear c3b0); (try clear c4); (try clear c4b0); (try clear c6); (try clear c6b0); (try clear c6b1); (try clear p6); (try clear c7); (try clear c7b0); (try clear c7b1); (try clear hx128_0); (try clear p128); (try clear q128); obtain ⟨x6_2, x26_2, rfl, HA, HK2, HO_6, HB⟩ := hrel; have hl6_2 := (Kd.R_reads' HO_6.out).1; rw [hl6_2] at HO_6; (try simp only [hl6_2]); cases gk with
  | zero => exact absurd HA.out (by simp [whole_Norm.l1])
  | succ k2 =>
   have H := HA.out; clear HA; simp only [whole_Norm.l1] at H
   by_cases c12 : x26_2 < (y130.length : Int)
   ·rw [if_pos c12] at H; have c12b0 : decide (x26_2 < (y130.length : Int)) = true := decide_eq_true c12; (try (have c12g0 := c12b0; simp only [hl6_2] at c12g0)); clear c12
    by_cases c13 : x3_1 > 1
    ·rw [if_pos c13] at H; have c13b0 : decide (1 < x3_1) = true := decide_eq_true c13; clear c13
     by_cases c14 : 0 ≤ x26_2
     case neg => rw [if_neg c14] at H; exact absurd H (by simp)
     rw [if_pos c14] at H; have c14b0 : decide (0 ≤ x26_2) = true := decide_eq_true c14; clear c14
     by_cases c15 : x26_2 < (x6_2.length : Int)
     case neg => rw [if_neg c15] at H; exact absurd H (by simp)
     rw [if_pos c15] at H; have c15b0 : decide (x26_2 < (x6_2.length : Int)) = true := decide_eq_true c15; (try (have c15g0 := c15b0; simp only [hl6_2] at c15g0)); clear c15
     by_cases c16 : x3_1 = 0
     case pos => rw [if_pos c16] at H; exact absurd H (by simp)
     rw [if_neg c16] at H; have c16b0 : (x3_1 == 0) = false := beq_eq_false_iff_ne.mpr c16; have c16b1 : (x3_1 != 0) = true := bne_iff_ne.mpr c16; obtain ⟨y135, hy135⟩ : ∃ y_ : List Int, y_ = (x6_2.set (x26_2 : Int).toNat (wrap64 (Int.tdiv (rd x6_2 x26_2) x3_1))) := ⟨_, rfl⟩; replace H : (whole_Norm.l1 k2 x3_1 y135 (y130.length : Int) (wrap64 (x26_2 + 1))) = some r := by first | (rw [hy135]; with_reducible exact H) | (have H2_ := (Option.bind_some _ _).symm.trans H; rw [hy135]; with_reducible exact H2_) | (have H2_ := (Option.bind_some _ _).symm.trans H; with_reducible exact H2_) | with_reducible exact H | (rw [hy135]; exact H) | exact H
     have Ny135 := Aside0.mk hy135; clear hy135; have H' := Aside0.mk H; clear H; have p134 : 0 ≤ (x26_2 : Int) := oa; have q134 : x26_2 < (x6_2.length : Int) := oa; obtain ⟨ad134, e134, hx134_0⟩ := Kd.at_int (Kd.R_reads' HO_6.out).2.2 x26_2 p134 q134; cases e134; replace p134 := eq_true p134; replace q134 := eq_true q134; have p17 : 0 ≤ (x26_2 : Int) := oa; have q17 : (x26_2 : Int) < ((x6_2.length : Int) : Int) := oa; obtain ⟨go17, co17, eo17, gb17, gl17, cl17, HG17⟩ := Kd.R_form HO_6.out (by omega); (first | cases eo17 | (injection eo17 with ea_ en_ ec_; (first | subst ea_ | (injection ea_ with ea_; subst ea_)); subst ec_; clear en_)); have GB17 := Aside0.mk gb17; have GG17 := Aside0.mk HG17; clear gb17 gl17 HG17; (first | simp only [add_plain] at hx134_0 | skip); obtain ⟨hx17_0, hf17_0⟩ := Kd.R_celln 0 HO_6.out (x26_2 : Int) p17 q17; replace p17 := eq_true p17; replace q17 := eq_true q17; have HP18 := Kd.R_putg HO_6.out (x26_2 : Int) (wrap64 (Int.tdiv (rd x6_2 x26_2) x3_1)); go_wp2_with (first | ((with_reducible refine gate_store (t := 3) (p := 37) rfl ?_); refine store_event (t := 3) (p := 37) (v := ?vo_w19) (w1 := (wr.setCell ⟨go17, (x26_2 : Int).toNat, none⟩ (.int .i64 (wrap64 (Int.tdiv (rd x6_2 x26_2) x3_1))))) ?hg ?ho ?hn ?hr ?_; (case ho => rfl); (case hg => rfl); (case hn => rfl); (case hr => first | (go_simp; done) | (go_simp; rfl)); intro w19 hw; have hg : wr.grownBy w19 (some go17) := (by rw [hw]; exact HP18.2); have hp_ : Kd.R (Kd.int .i64) 3 w19 w.heap.size (fun _ => True) (.slice (some ⟨go17, 0, none⟩) x6_2.length co10) y135 := (by rw [hw, Ny135.out]; exact HP18.1); clear HP18; replace HO_6 := Aside0.mk (hp_); replace HB := Aside0.mk ((by rw [hw]; exact below_set (HB.out) GB17.out : Below w.heap.size w w19)); clear hg hw hp_)); (try simp only [← hl6_2]); go_roundg k2
     case measure => have := HK1.out; have := HK2.out; omega
     case rel => exact ⟨(y135), (wrap64 (x26_2 + 1)), (by first | rfl | (simp; done) | (simp [*]; done)), H', ⟨by have := HK1.out; have := HK2.out; omega⟩, ⟨by (try simp only [hl6_2]); refine kq_R ?_; exact HO_6.out⟩, ⟨hbq HB.out⟩⟩
    rw [if_neg c13] at H; have c13b0 : decide (1 < x3_1) = false := decide_eq_false c13; clear c13; have H' := Aside0.mk H; clear H; go_wp2; (try simp only [← hl6_2]); go_roundg k2
    case measure => have := HK1.out; have := HK2.out; omega
    case rel => exact ⟨(x6_2), (wrap64 (x26_2 + 1)), (by first | rfl | (simp; done) | (simp [*]; done)), H', ⟨by have := HK1.out; have := HK2.out; omega⟩, ⟨by (try simp only [hl6_2]); refine kq_R ?_; exact HO_6.out⟩, ⟨hbq HB.out⟩⟩
   rw [if_neg c12] at H; have c12b0 : decide (x26_2 < (y130.length : Int)) = false := decide_eq_false c12; (try (have c12g0 := c12b0; simp only [hl6_2] at c12g0)); clear c12; obtain rfl := Option.some.inj H; go_wp2; go_ret; exact ⟨_, by first | rfl | (simp [errW_none, errW_some] <;> rfl) | (simp [*, errW_none, errW_some] <;> rfl), by refine kq_R ?_; exact HO_6.out, hbq HB.out⟩

end Go.Proofs.Ytifbflpaednfnaa.PBasisRaw
