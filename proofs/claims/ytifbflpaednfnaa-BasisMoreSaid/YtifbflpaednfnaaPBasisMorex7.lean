/- What the functions that this law reaches answer, in whatever memory, and the row of the law; no condition. Written by a program of this session (mk.sh). -/
import Derived.Test.YtifbflpaednfnaaPBasisMorex0
import Derived.Test.YtifbflpaednfnaaPBasisMorex1
import Derived.Test.YtifbflpaednfnaaPBasisMorex6
namespace Go.Proofs.Ytifbflpaednfnaa.PBasisMore
open Go.RowKit Go.Proofs.YtifbflpaednfnaaW.PrintWords Go.Proofs.YtifbflpaednfnaaW.PrintLast Go.Proofs.YtifbflpaednfnaaW.PrintMore
attribute [local go_sem] max2_int min2_int max_two min_two max_three min_three max_four min_four   -- for this text's walks alone
set_option linter.unusedVariables false
set_option linter.unusedSimpArgs false

/-! ### basis_Find: function 14 -/
mutual
def basis_Find.l0 : Nat → List (List Int) → List (S66) → Int → Int → Option ((List (List Int)) × Int)
 | 0, _, _, _, _ => none
 | k + 1, x0, x4, x14, x15 => if x15 < x14 then (if 0 ≤ (x0.length : Int) then (if ((x0.length : Int) : Int).toNat ≤ 35184372088832 then ((some (List.replicate ((x0.length : Int) : Int).toNat 0 : List Int)).bind fun y217 => (if 0 ≤ x15 then (if x15 < (y217.length : Int) then (if x15 < (x0.length : Int) then ((slices_Clone_int_int.f (rd_L1 x0 x15)).bind fun t222 => (if x4.length < 2932031007402 then (basis_Find.l0 k x0 (x4 ++ [(⟨(y217.set (x15 : Int).toNat 1), t222⟩ : S66)]) x14 (wrap64 (x15 + 1))) else (none))) else (none)) else (none)) else (none))) else (none)) else (none)) else ((basis_width.f x0).bind fun t228 => (basis_Find.l1 k x4 t228 0))
def basis_Find.l1 : Nat → List (S66) → Int → Int → Option ((List (List Int)) × Int)
 | 0, _, _, _ => none
 | k + 1, x4, x36, x37 => if x37 < x36 then ((basis_column.f k x4 x37).bind fun bt229 => (if bt229.2 = 0 then (basis_Find.l1 k bt229.1 x36 (wrap64 (x37 + 1))) else (some (([] : List (List Int)), bt229.2)))) else (basis_Find.l2 k ([] : List (List Int)) x4 (x4.length : Int) 0)
def basis_Find.l2 : Nat → List (List Int) → List (S66) → Int → Int → Option ((List (List Int)) × Int)
 | 0, _, _, _, _ => none
 | k + 1, x10, x51, x52, x53 => if x53 < x52 then (if 0 ≤ x53 then (if x53 < (x51.length : Int) then (if x10.length < 5864062014805 then (basis_Find.l2 k (x10 ++ [(rd_T66 x51 x53).f0]) x51 x52 (wrap64 (x53 + 1))) else (none)) else (none)) else (none)) else (some (x10, 0))
end
def basis_Find.f (k : Nat) (l0 : List (List Int)) : Option ((List (List Int)) × Int) := basis_Find.l0 k l0 ([] : List (S66)) (l0.length : Int) 0
theorem basis_Find.mono_l : ∀ k, (∀ y0 y1 y2 y3, LeO (basis_Find.l0 k y0 y1 y2 y3) (basis_Find.l0 (k + 1) y0 y1 y2 y3)) ∧ (∀ y0 y1 y2, LeO (basis_Find.l1 k y0 y1 y2) (basis_Find.l1 (k + 1) y0 y1 y2)) ∧ (∀ y0 y1 y2 y3, LeO (basis_Find.l2 k y0 y1 y2 y3) (basis_Find.l2 (k + 1) y0 y1 y2 y3))
 | 0 => ⟨fun _ _ _ _ r h => by simp [basis_Find.l0] at h, fun _ _ _ r h => by simp [basis_Find.l1] at h, fun _ _ _ _ r h => by simp [basis_Find.l2] at h⟩
 | k + 1 => by
  obtain ⟨ih0, ih1, ih2⟩ := basis_Find.mono_l k
  refine ⟨?_, ?_, ?_⟩
  all_goals
   intros
   first
   | unfold basis_Find.l0
   | unfold basis_Find.l1
   | unfold basis_Find.l2
   repeat' first
   | (with_reducible exact ih0 _ _ _ _)
   | (with_reducible exact ih1 _ _ _)
   | (with_reducible exact ih2 _ _ _ _)
   | (with_reducible exact basis_column.mono _ _ _)
   | (with_reducible exact LeO.refl _)
   | (with_reducible exact LeO.none _)
   | (with_reducible refine LeO.ite ?_ ?_)
   | (with_reducible refine LeO.bind ?_ (fun _ => ?_))
   | exact ih0 _ _ _ _
   | exact ih1 _ _ _
   | exact ih2 _ _ _ _
   | exact basis_column.mono _ _ _
   | exact LeO.none _
   | refine LeO.ite ?_ ?_
   | refine LeO.bind ?_ (fun _ => ?_)
theorem basis_Find.mono : ∀ a0 k, LeO (basis_Find.f k a0) (basis_Find.f (k + 1) a0) := by
 intro a0 k
 obtain ⟨ih0, ih1, ih2⟩ := basis_Find.mono_l k
 unfold basis_Find.f
 repeat' first
  | (with_reducible exact ih0 _ _ _ _)
  | (with_reducible exact ih1 _ _ _)
  | (with_reducible exact ih2 _ _ _ _)
  | (with_reducible exact basis_column.mono _ _ _)
  | (with_reducible exact LeO.refl _)
  | (with_reducible exact LeO.none _)
  | (with_reducible refine LeO.ite ?_ ?_)
  | (with_reducible refine LeO.bind ?_ (fun _ => ?_))
  | exact ih0 _ _ _ _
  | exact ih1 _ _ _
  | exact ih2 _ _ _ _
  | exact basis_column.mono _ _ _
  | exact LeO.none _
  | refine LeO.ite ?_ ?_
  | refine LeO.bind ?_ (fun _ => ?_)
set_option maxHeartbeats 8000000 in
set_option maxRecDepth 100000 in
theorem basis_Find.calls (k : Nat) (A0 : Option Addr) (c0 : Nat) (l0 : List (List Int)) (r1 : List (List Int)) (r2 : Int) (w : World) (hr0 : Kd.C (Kd.slice 3 (Kd.int .i64)) w A0 l0.length l0) (hc0 : l0.length ≤ c0) (h : basis_Find.f k l0 = some (r1, r2)) :
 Calls Try.prog 14 #[.slice A0 l0.length c0] w fun e w' => ∃ v0_ : Value, e = .returned (.tuple #[v0_, .int .i64 r2]) ∧ Kd.N (Kd.slice 3 (Kd.int .i64)) 37 w' w.heap.size (fun k_ => (w.heap.size ≤ k_)) v0_ r1 ∧ Below w.heap.size w w' := by
 have hu66 := Try.underlying66
 have HR0 := Aside0.mk hr0
 have HC0 := Aside0.mk hc0
 clear hr0 hc0
 have HB := Aside0.mk (Below.refl w.heap.size w)
 have H : (basis_Find.l0 k l0 ([] : List (S66)) (l0.length : Int) 0) = some (r1, r2) := h
 clear h
 have H' := Aside0.mk H
 clear H
 go_enter Try.func14, Try.ntmps14
 go_wp2
 go_loopg [4, 15] k (fun kq v4 v15 w' => ∃ (x4_1 : List (S66)) (x15_1 : Int), v15 = .int .i64 x15_1 ∧ Aside0 (basis_Find.l0 kq l0 x4_1 (l0.length : Int) x15_1 = some (r1, r2)) ∧ Aside0 (kq ≤ k) ∧ Aside0 (Kd.N k66 66 w' w.heap.size (fun k_ => (w.heap.size ≤ k_)) v4 x4_1) ∧ Aside0 (Below w.heap.size w w'))
 case atStart => exact ⟨(([] : List (S66))), (0), (by first | rfl | (simp; done) | (simp [*]; done)), H', ⟨Nat.le_refl _⟩, ⟨by first | exact Kd.S_nil _ _ _ _ _ | exact Kd.N_nil _ _ _ _ _ | exact Kd.V_nil _ _ _ _ _ | exact Kd.Q_nil _ _ _ _ _ | exact Kd.R_nil _ _ _ _ _⟩, ⟨hbq HB.out⟩⟩
 clear H'
 try clear c1
 obtain ⟨x4_1, x15_1, rfl, HA, HK1, HO_4, HB⟩ := hrel
 cases gk with
 | zero => exact absurd HA.out (by simp [basis_Find.l0])
 | succ k1 =>
  have H := HA.out
  clear HA
  simp only [basis_Find.l0] at H
  by_cases c2 : x15_1 < (l0.length : Int)
  ·rw [if_pos c2] at H
   have c2b0 : decide (x15_1 < (l0.length : Int)) = true := decide_eq_true c2
   clear c2
   by_cases c3 : 0 ≤ (l0.length : Int)
   case neg => rw [if_neg c3] at H; exact absurd H (by simp)
   rw [if_pos c3] at H
   have c3b0 := eq_true c3
   have c3b1 : decide (0 ≤ (l0.length : Int)) = true := decide_eq_true c3
   clear c3
   by_cases c4 : ((l0.length : Int) : Int).toNat ≤ 35184372088832
   case neg => rw [if_neg c4] at H; exact absurd H (by simp)
   rw [if_pos c4] at H
   have c4b0 := eq_true c4
   have c4b1 : decide (((l0.length : Int) : Int).toNat ≤ 35184372088832) = true := decide_eq_true c4
   clear c4
   obtain ⟨y217, hy217⟩ : ∃ y_ : List Int, y_ = (List.replicate ((l0.length : Int) : Int).toNat 0) := ⟨_, rfl⟩
   replace H : (if 0 ≤ x15_1 then (if x15_1 < (y217.length : Int) then (if x15_1 < (l0.length : Int) then ((slices_Clone_int_int.f (rd_L1 l0 x15_1)).bind fun t222 => (if x4_1.length < 2932031007402 then (basis_Find.l0 k1 l0 (x4_1 ++ [(⟨(y217.set (x15_1 : Int).toNat 1), t222⟩ : S66)]) (l0.length : Int) (wrap64 (x15_1 + 1))) else (none))) else (none)) else (none)) else (none)) = some (r1, r2) := by first | (rw [hy217]; with_reducible exact H) | (have H2_ := (Option.bind_some _ _).symm.trans H; rw [hy217]; with_reducible exact H2_) | (have H2_ := (Option.bind_some _ _).symm.trans H; with_reducible exact H2_) | with_reducible exact H | (rw [hy217]; exact H) | exact H
   have Ny217 := Aside0.mk hy217
   clear hy217
   by_cases c5 : 0 ≤ x15_1
   case neg => rw [if_neg c5] at H; exact absurd H (by simp)
   rw [if_pos c5] at H
   have c5b0 : decide (0 ≤ x15_1) = true := decide_eq_true c5
   clear c5
   by_cases c6 : x15_1 < (y217.length : Int)
   case neg => rw [if_neg c6] at H; exact absurd H (by simp)
   rw [if_pos c6] at H
   have c6b0 : decide (x15_1 < (y217.length : Int)) = true := decide_eq_true c6
   clear c6
   obtain ⟨y220, hy220⟩ : ∃ y_ : List Int, y_ = (y217.set (x15_1 : Int).toNat 1) := ⟨_, rfl⟩
   replace H : (if x15_1 < (l0.length : Int) then ((slices_Clone_int_int.f (rd_L1 l0 x15_1)).bind fun t222 => (if x4_1.length < 2932031007402 then (basis_Find.l0 k1 l0 (x4_1 ++ [(⟨y220, t222⟩ : S66)]) (l0.length : Int) (wrap64 (x15_1 + 1))) else (none))) else (none)) = some (r1, r2) := by first | (rw [hy220]; with_reducible exact H) | (have H2_ := (Option.bind_some _ _).symm.trans H; rw [hy220]; with_reducible exact H2_) | (have H2_ := (Option.bind_some _ _).symm.trans H; with_reducible exact H2_) | with_reducible exact H | (rw [hy220]; exact H) | exact H
   have Ny220 := Aside0.mk hy220
   clear hy220
   by_cases c8 : x15_1 < (l0.length : Int)
   case neg => rw [if_neg c8] at H; exact absurd H (by simp)
   rw [if_pos c8] at H
   have c8b0 : decide (x15_1 < (l0.length : Int)) = true := decide_eq_true c8
   clear c8
   replace H := Option.bind_eq_some_iff.mp H
   obtain ⟨t222, A90, H⟩ := H
   replace H : (if x4_1.length < 2932031007402 then (basis_Find.l0 k1 l0 (x4_1 ++ [(⟨y220, t222⟩ : S66)]) (l0.length : Int) (wrap64 (x15_1 + 1))) else (none)) = some (r1, r2) := H
   have A9 := Aside0.mk A90
   clear A90
   by_cases c10 : x4_1.length < 2932031007402
   case neg => rw [if_neg c10] at H; exact absurd H (by simp)
   rw [if_pos c10] at H
   have LMc10 := Aside0.mk c10
   clear c10
   obtain ⟨y225, hy225⟩ : ∃ y_ : List (S66), y_ = (x4_1 ++ [(⟨y220, t222⟩ : S66)]) := ⟨_, rfl⟩
   replace H : (basis_Find.l0 k1 l0 y225 (l0.length : Int) (wrap64 (x15_1 + 1))) = some (r1, r2) := by first | (rw [hy225]; with_reducible exact H) | (have H2_ := (Option.bind_some _ _).symm.trans H; rw [hy225]; with_reducible exact H2_) | (have H2_ := (Option.bind_some _ _).symm.trans H; with_reducible exact H2_) | with_reducible exact H | (rw [hy225]; exact H) | exact H
   have Ny225 := Aside0.mk hy225
   clear hy225
   have H' := Aside0.mk H
   clear H
   go_wp2_with (first | ((with_reducible refine gate_dst (N := 20) rfl ?_); refine Kd.R_make (Kd.int .i64) _ 3 rfl (N := 20) rfl 37 _ _ rfl (l0.length : Int) rfl rfl Try.underlying37 (.int .i64 0) 8 info3 rfl (by decide) (by omega) 0 (ok := fun _ => True) (okp := fun _ => True) rfl (fun _ hk => hk) trivial (of_decide_eq_true (by first | (with_reducible assumption) | assumption)) (Nat.le_trans (Nat.mul_le_mul_right _ (of_decide_eq_true (by first | (with_reducible assumption) | assumption) : (l0.length : Int).toNat ≤ 35184372088832)) (by omega)) (Below.refl _ _) (Nat.le_refl _) ?_; intro v218 w11 ho12 hb hg_ hnew_; clear hg_ hnew_; (first | rw [← Ny217.out] at ho12 | (simp only [Int.reduceToNat] at ho12; rw [← Ny217.out] at ho12)); have n0_ := Aside0.mk (Kd.N_elder' (kq_N HO_4.out) (Kd.R_base ho12) hb); have n1_ := Aside0.mk (Kd.R_lower (Kd.R_newM (M := fun k_ => (w.heap.size ≤ k_)) ho12 (below_size (hbq HB.out)) (fun k_ h_ => h_)) (below_size (hbq HB.out))); have n2_ := Aside0.mk (below_step (hbq HB.out) hb); clear HO_4; clear HB; have HO_4 := n0_; have HO219 := n1_; have HB := n2_; clear n0_ n1_ n2_; clear hb ho12; have p7 : 0 ≤ (x15_1 : Int) := of_decide_eq_true (by first | (with_reducible assumption) | assumption); have q7 : (x15_1 : Int) < ((y217.length : Int) : Int) := of_decide_eq_true (by first | (with_reducible assumption) | assumption); obtain ⟨go7, co7, eo7, gb7, gl7, cl7, HG7⟩ := Kd.R_form HO219.out (by omega); (first | cases eo7 | (injection eo7 with ea_ en_ ec_; (first | subst ea_ | (injection ea_ with ea_; subst ea_)); subst ec_; clear en_)); have GB7 := Aside0.mk gb7; have GG7 := Aside0.mk HG7; clear gb7 gl7 HG7; obtain ⟨hx7_0, hf7_0⟩ := Kd.R_celln 0 HO219.out (x15_1 : Int) p7 q7; replace p7 := eq_true p7; replace q7 := eq_true q7; have n_ := Aside0.mk (Kd.R_mono (ok' := (fun k_ => (w.heap.size ≤ k_))) HO219.out (fun k_ hk => hk.1)); clear HO219; have HO219 := n_; clear n_; obtain ⟨hy13_, hz13_⟩ := Kd.R_celln 0 HO219.out (x15_1 : Int) (of_decide_eq_true (by first | (with_reducible assumption) | assumption)) (of_decide_eq_true (by first | (with_reducible assumption) | assumption)); have HP13 := Kd.R_putg HO219.out (x15_1 : Int) 1) | ((with_reducible refine gate_store (t := 3) (p := 23) rfl ?_); refine store_event (t := 3) (p := 23) (v := ?vo_w14) (w1 := (w11.setCell ⟨go7, (x15_1 : Int).toNat, none⟩ (.int .i64 1))) ?hg ?ho ?hn ?hr ?_; (case ho => rfl); (case hg => rfl); (case hn => rfl); (case hr => first | (go_simp; done) | (go_simp; rfl)); intro w14 hw; have hg : w11.grownBy w14 (some go7) := (by rw [hw]; exact HP13.2); have hp_ : Kd.R (Kd.int .i64) 3 w14 w.heap.size (fun k_ => (w.heap.size ≤ k_)) (.slice (some ⟨go7, 0, none⟩) y217.length co7) y220 := (by rw [hw, Ny220.out]; exact HP13.1); clear HP13; have n0_ := Aside0.mk (Kd.N_afterv (v := (.slice (some ⟨go7, 0, none⟩) y217.length co7)) (v1 := (.slice (some ⟨go7, 0, none⟩) y217.length co7)) (ok := (fun k_ => (w.heap.size ≤ k_))) (kq_N HO_4.out) hg (.inl rfl)); have n1_ := Aside0.mk (hp_); have n2_ := Aside0.mk ((by rw [hw]; exact below_set (HB.out) GB7.out : Below w.heap.size w w14)); clear HO_4; clear HO219; clear HB; have HO_4 := n0_; have HO219 := n1_; have HB := n2_; clear n0_ n1_ n2_; clear hg hw hp_; have p221 : 0 ≤ (x15_1 : Int) := of_decide_eq_true (by first | (with_reducible assumption) | assumption); have q221 : x15_1 < (l0.length : Int) := of_decide_eq_true (by first | (with_reducible assumption) | assumption); obtain ⟨ad221, A221_0, c221_0, e221, hx221_0, hl221_0, hi221_0⟩ := at_L1 HR0.out x15_1 p221 q221; cases e221; replace hx221_0 := (HB.out.cell (World.block_lt_of_cell? w _ hx221_0)).trans hx221_0; have HR221_0 := Aside0.mk hi221_0; have HC221_0 := Aside0.mk hl221_0; clear hi221_0 hl221_0; replace p221 := eq_true p221; replace q221 := eq_true q221) | ((with_reducible refine gate_callee (f := 25) rfl ?_); refine goesL_ (some 30) rfl rfl Try.func25 (by kernel_rfl) rfl #[.slice A221_0 (rd_L1 l0 x15_1).length c221_0] rfl (by (try simp only [List.map_toArray, List.map_cons, List.map_nil]); first | done | rfl | (simp only [List.length_drop, List.length_take]; rfl)) ?_; (with_reducible refine (slices_Clone_int_int.calls _ _ (rd_L1 l0 x15_1) t222 _ ?side1 ?side2 A9.out).mono ?_); (case side1 => repeat (first | exact (Kd.C_below HR221_0.out HB.out) | (with_reducible refine Kd.C_alloc ?_ _) | (with_reducible refine Kd.C_drewN ?_ _) | (with_reducible refine Kd.C_drew ?_))); (case side2 => exact HC221_0.out); rintro e w15 ⟨v223, rfl, ho0, hb⟩; refine ⟨_, rfl, ?_⟩; have n0_ := Aside0.mk (Kd.N_elder' (kq_N HO_4.out) (Kd.R_base ho0) hb); have n1_ := Aside0.mk (Kd.R_elder' (kq_R HO219.out) (Kd.R_base ho0) hb); have n2_ := Aside0.mk (Kd.R_lower (Kd.R_new' (Kd.R_newM (M := fun k_ => (w.heap.size ≤ k_)) ho0 (below_size (hbq HB.out)) (fun k_ h_ => h_)) (Kd.R_lt (kq_R HO219.out))) (below_size (hbq HB.out))); have n3_ := Aside0.mk (below_step (hbq HB.out) hb); clear HO_4; clear HO219; clear HB; have HO_4 := n0_; have HO219 := n1_; have HO224 := n2_; have HB := n3_; clear n0_ n1_ n2_ n3_; (try clear hb); (try clear hb2); (try clear hk); (try clear hi); (try clear ho0); obtain ⟨Ao16, co16, eo16⟩ := Kd.R_slice HO224.out; subst eo16) | ((with_reducible refine gate_builtin (b := .append) (xs := #[.tmp 24, .tmp 32]) rfl ?_); at_builtin; refine Kd.N_append k66 (w0 := w) w.heap.size rfl (.tmp 24) (.tmp 32) 63 66 (.agg #[(.slice none 0 0), (.slice none 0 0)]) 48 rfl Try.underlying63 info66 rfl (by decide) (by omega) u4 x4_1 (⟨y220, t222⟩ : S66) [.slice (some ⟨go7, 0, none⟩) y217.length co7, .slice Ao16 t222.length co16] (fun k_ => (w.heap.size ≤ k_)) (fun k_ => ((fun k_ => (w.heap.size ≤ k_))) k_ ∧ some k_ ≠ (u4 : Value).ownBlock) rfl rfl ?aP (fun _ hk => hk) ?aF ?aO ?aB ?aS ?aL ?_; (case aP => first | exact (k66_mkF _ _ (⟨y220, t222⟩ : S66) (Kd.R_reads' (Kd.R_mono (ok' := (fun k_ => ((fun k_ => (w.heap.size ≤ k_))) k_ ∧ some k_ ≠ (u4 : Value).ownBlock)) (Kd.R_apart' (HO219.out) (Kd.N_typed HO_4.out) (by decide)) (fun k_ hk => ⟨hk.1.1, hk.2⟩))).2.1 (Kd.R_F (Kd.R_mono (ok' := (fun k_ => ((fun k_ => (w.heap.size ≤ k_))) k_ ∧ some k_ ≠ (u4 : Value).ownBlock)) (Kd.R_apart' (HO219.out) (Kd.N_typed HO_4.out) (by decide)) (fun k_ hk => ⟨hk.1.1, hk.2⟩))) (Kd.R_reads' (Kd.R_mono (ok' := (fun k_ => ((fun k_ => (w.heap.size ≤ k_))) k_ ∧ some k_ ≠ (u4 : Value).ownBlock)) (Kd.R_apart' (HO224.out) (Kd.N_typed HO_4.out) (by decide)) (fun k_ hk => ⟨hk.1.1.1, hk.2⟩))).2.1 (Kd.R_F (Kd.R_mono (ok' := (fun k_ => ((fun k_ => (w.heap.size ≤ k_))) k_ ∧ some k_ ≠ (u4 : Value).ownBlock)) (Kd.R_apart' (HO224.out) (Kd.N_typed HO_4.out) (by decide)) (fun k_ hk => ⟨hk.1.1.1, hk.2⟩)))) | (have e_ : y217.length = y220.length := (by rw [Ny220.out]; simp); have h_ := HO219.out; rw [e_] at h_; have HO219 := Aside0.mk h_; rw [e_]; exact (k66_mkF _ _ (⟨y220, t222⟩ : S66) (Kd.R_reads' (Kd.R_mono (ok' := (fun k_ => ((fun k_ => (w.heap.size ≤ k_))) k_ ∧ some k_ ≠ (u4 : Value).ownBlock)) (Kd.R_apart' (HO219.out) (Kd.N_typed HO_4.out) (by decide)) (fun k_ hk => ⟨hk.1.1, hk.2⟩))).2.1 (Kd.R_F (Kd.R_mono (ok' := (fun k_ => ((fun k_ => (w.heap.size ≤ k_))) k_ ∧ some k_ ≠ (u4 : Value).ownBlock)) (Kd.R_apart' (HO219.out) (Kd.N_typed HO_4.out) (by decide)) (fun k_ hk => ⟨hk.1.1, hk.2⟩))) (Kd.R_reads' (Kd.R_mono (ok' := (fun k_ => ((fun k_ => (w.heap.size ≤ k_))) k_ ∧ some k_ ≠ (u4 : Value).ownBlock)) (Kd.R_apart' (HO224.out) (Kd.N_typed HO_4.out) (by decide)) (fun k_ hk => ⟨hk.1.1.1, hk.2⟩))).2.1 (Kd.R_F (Kd.R_mono (ok' := (fun k_ => ((fun k_ => (w.heap.size ≤ k_))) k_ ∧ some k_ ≠ (u4 : Value).ownBlock)) (Kd.R_apart' (HO224.out) (Kd.N_typed HO_4.out) (by decide)) (fun k_ hk => ⟨hk.1.1.1, hk.2⟩)))))); (case aB => exact (hbq HB.out)); (case aF => exact (fun k_ hk => (Nat.le_trans (below_size (hbq HB.out)) hk))); (case aO => exact (by refine kq_N ?_; exact Kd.N_mono HO_4.out (fun _ hk => hk.1.1))); (case aS => exact (below_size (hbq HB.out))); (case aL => have := LMc10.out; omega); intro v226 w17 ho hb hg hat; rw [← Ny225.out] at ho; have n0_ := Aside0.mk (hb); have n1_ := Aside0.mk (ho); clear HB; clear HO_4; clear HO219; clear HO224; have HB := n0_; have HO227 := n1_; clear n0_ n1_; clear ho hb hg hat))
   go_roundg k1
   case measure => have := HK1.out; omega
   case rel => exact ⟨(y225), (wrap64 (x15_1 + 1)), (by first | rfl | (simp; done) | (simp [*]; done)), H', ⟨by have := HK1.out; omega⟩, ⟨by refine kq_N ?_; exact HO227.out⟩, ⟨hbq HB.out⟩⟩
  rw [if_neg c2] at H
  have c2b0 : decide (x15_1 < (l0.length : Int)) = false := decide_eq_false c2
  clear c2
  replace H := Option.bind_eq_some_iff.mp H
  obtain ⟨t228, A180, H⟩ := H
  replace H : (basis_Find.l1 k1 x4_1 t228 0) = some (r1, r2) := H
  have A18 := Aside0.mk A180
  clear A180
  have H' := Aside0.mk H
  clear H
  go_wp2_with (first | ((with_reducible refine gate_callee (f := 26) rfl ?_); refine goesL_ (some 36) rfl rfl Try.func26 (by kernel_rfl) rfl #[.slice A0 l0.length c0] rfl (by (try simp only [List.map_toArray, List.map_cons, List.map_nil]); first | done | rfl | (simp only [List.length_drop, List.length_take]; rfl)) ?_; (with_reducible refine (basis_width.calls _ _ l0 t228 _ ?side1 ?side2 A18.out).mono ?_); (case side1 => repeat (first | exact (Kd.C_below HR0.out HB.out) | (with_reducible refine Kd.C_alloc ?_ _) | (with_reducible refine Kd.C_drewN ?_ _) | (with_reducible refine Kd.C_drew ?_))); (case side2 => exact HC0.out); rintro e w' ⟨rfl, ⟨nd, rfl⟩⟩; refine ⟨_, rfl, ?_⟩))
  go_loopg [4, 37] k1 (fun kq v4 v37 w' => ∃ (x4_2 : List (S66)) (x37_2 : Int), v37 = .int .i64 x37_2 ∧ Aside0 (basis_Find.l1 kq x4_2 t228 x37_2 = some (r1, r2)) ∧ Aside0 (kq ≤ k1) ∧ Aside0 (Kd.N k66 66 w' w.heap.size (fun k_ => (w.heap.size ≤ k_)) v4 x4_2) ∧ Aside0 (Below w.heap.size w w'))
  case atStart => exact ⟨(x4_1), (0), (by first | rfl | (simp; done) | (simp [*]; done)), H', ⟨Nat.le_refl _⟩, ⟨by refine kq_N ?_; exact HO_4.out⟩, ⟨hbq HB.out⟩⟩
  clear H'
  try clear c1
  try clear c2
  try clear c2b0
  try clear p2
  try clear q2
  try clear hx2
  try clear c3
  try clear c3b0
  try clear c3b1
  try clear c4
  try clear c4b0
  try clear c4b1
  try clear c5
  try clear c5b0
  try clear c6
  try clear c6b0
  try clear p6
  try clear p7
  try clear q7
  try clear hx7
  try clear hf7
  try clear c8
  try clear c8b0
  try clear c10
  try clear c14
  try clear hx221_0
  try clear hx7_0
  try clear p221
  try clear p7
  try clear q221
  try clear q7
  obtain ⟨x4_2, x37_2, rfl, HA, HK2, HO_4, HB⟩ := hrel
  cases gk with
  | zero => exact absurd HA.out (by simp [basis_Find.l1])
  | succ k2 =>
   have H := HA.out
   clear HA
   simp only [basis_Find.l1] at H
   by_cases c19 : x37_2 < t228
   ·rw [if_pos c19] at H
    have c19b0 : decide (x37_2 < t228) = true := decide_eq_true c19
    clear c19
    replace H := Option.bind_eq_some_iff.mp H
    obtain ⟨⟨t229, t232⟩, A200, H⟩ := H
    replace H : (if t232 = 0 then (basis_Find.l1 k2 t229 t228 (wrap64 (x37_2 + 1))) else (some (([] : List (List Int)), t232))) = some (r1, r2) := H
    have A20 := Aside0.mk A200
    clear A200
    by_cases c21 : t232 = 0
    ·rw [if_pos c21] at H
     have c21b0 : (t232 == 0) = true := beq_iff_eq.mpr c21
     have c21b1 : (t232 != 0) = false := bne_eq_false_iff_eq.mpr c21
     clear c21
     have H' := Aside0.mk H
     clear H
     obtain ⟨Ao22, co22, eo22⟩ := Kd.N_slice HO_4.out
     subst eo22
     go_wp2_with (first | ((with_reducible refine gate_callee (f := 27) rfl ?_); refine goesL_ (some 43) rfl rfl Try.func27 (by kernel_rfl) rfl #[.slice Ao22 x4_2.length co22, .int .i64 x37_2] rfl (by (try simp only [List.map_toArray, List.map_cons, List.map_nil]); first | done | rfl | (simp only [List.length_drop, List.length_take]; rfl)) ?_; (with_reducible refine (basis_column.calls k2 (fun k_ => (w.heap.size ≤ k_)) _ _ x4_2 x37_2 t229 t232 _ ?side1 A20.out).mono ?_); (case side1 => exact Kd.N_V (HO_4.out)); rintro e w23 ⟨v230, rfl, ho0, hb⟩; refine ⟨_, rfl, ?_⟩; have n0_ := Aside0.mk (Kd.N_elder' (kq_N HO_4.out) (Kd.N_base ho0) hb); have n1_ := Aside0.mk (Kd.N_lower (Kd.N_mono (ok' := fun k_ => (w.heap.size ≤ k_)) ho0 (fun k_ hk_ => Or.elim hk_ (fun hs_ => hs_) (fun hn_ => (Nat.le_trans (below_size (hbq HB.out)) hn_)))) (below_size (hbq HB.out))); have n2_ := Aside0.mk (below_step (hbq HB.out) hb); clear HO_4; clear HB; have HO_4 := n0_; have HO231 := n1_; have HB := n2_; clear n0_ n1_ n2_; (try clear hb); (try clear hb2); (try clear hk); (try clear hi); (try clear ho0)))
     go_roundg k2
     case measure => have := HK1.out; have := HK2.out; omega
     case rel => exact ⟨(t229), (wrap64 (x37_2 + 1)), (by first | rfl | (simp; done) | (simp [*]; done)), H', ⟨by have := HK1.out; have := HK2.out; omega⟩, ⟨by refine kq_N ?_; exact HO231.out⟩, ⟨hbq HB.out⟩⟩
    rw [if_neg c21] at H
    have c21b0 : (t232 == 0) = false := beq_eq_false_iff_ne.mpr c21
    have c21b1 : (t232 != 0) = true := bne_iff_ne.mpr c21
    simp only [Option.some.injEq, Prod.mk.injEq] at H
    obtain ⟨rfl, rfl⟩ := H
    obtain ⟨Ao24, co24, eo24⟩ := Kd.N_slice HO_4.out
    subst eo24
    go_wp2_with (first | ((with_reducible refine gate_callee (f := 27) rfl ?_); refine goesL_ (some 43) rfl rfl Try.func27 (by kernel_rfl) rfl #[.slice Ao24 x4_2.length co24, .int .i64 x37_2] rfl (by (try simp only [List.map_toArray, List.map_cons, List.map_nil]); first | done | rfl | (simp only [List.length_drop, List.length_take]; rfl)) ?_; (with_reducible refine (basis_column.calls k2 (fun k_ => (w.heap.size ≤ k_)) _ _ x4_2 x37_2 t229 t232 _ ?side1 A20.out).mono ?_); (case side1 => exact Kd.N_V (HO_4.out)); rintro e w25 ⟨v230, rfl, ho0, hb⟩; refine ⟨_, rfl, ?_⟩; have n0_ := Aside0.mk (Kd.N_elder' (kq_N HO_4.out) (Kd.N_base ho0) hb); have n1_ := Aside0.mk (Kd.N_lower (Kd.N_mono (ok' := fun k_ => (w.heap.size ≤ k_)) ho0 (fun k_ hk_ => Or.elim hk_ (fun hs_ => hs_) (fun hn_ => (Nat.le_trans (below_size (hbq HB.out)) hn_)))) (below_size (hbq HB.out))); have n2_ := Aside0.mk (below_step (hbq HB.out) hb); clear HO_4; clear HB; have HO_4 := n0_; have HO231 := n1_; have HB := n2_; clear n0_ n1_ n2_; (try clear hb); (try clear hb2); (try clear hk); (try clear hi); (try clear ho0)))
    go_ret2
    exact ⟨_, by first | rfl | (simp [errW_none, errW_some] <;> rfl) | (simp [*, errW_none, errW_some] <;> rfl), by first | exact Kd.S_nil _ _ _ _ _ | exact Kd.N_nil _ _ _ _ _ | exact Kd.V_nil _ _ _ _ _ | exact Kd.Q_nil _ _ _ _ _ | exact Kd.R_nil _ _ _ _ _, hbq HB.out⟩
   rw [if_neg c19] at H
   have c19b0 : decide (x37_2 < t228) = false := decide_eq_false c19
   clear c19
   have H' := Aside0.mk H
   clear H
   obtain ⟨Ao26, co26, eo26⟩ := Kd.N_slice HO_4.out
   subst eo26
   go_wp2
   go_loopg [10, 53] k2 (fun kq v10 v53 w' => ∃ (x10_3 : List (List Int)) (x53_3 : Int), v53 = .int .i64 x53_3 ∧ Aside0 (basis_Find.l2 kq x10_3 x4_2 (x4_2.length : Int) x53_3 = some (r1, r2)) ∧ Aside0 (kq ≤ k2) ∧ Aside0 (Kd.N (Kd.slice 3 (Kd.int .i64)) 37 w' w.heap.size (fun k_ => (w.heap.size ≤ k_) ∧ some k_ ≠ ((.slice Ao26 x4_2.length co26) : Value).ownBlock) v10 x10_3) ∧ Aside0 (Kd.N k66 66 w' w.heap.size (fun k_ => (w.heap.size ≤ k_) ∧ some k_ ≠ (v10 : Value).ownBlock) (.slice Ao26 x4_2.length co26) x4_2) ∧ Aside0 (Below w.heap.size w w'))
   case atStart => exact ⟨(([] : List (List Int))), (0), (by first | rfl | (simp; done) | (simp [*]; done)), H', ⟨Nat.le_refl _⟩, ⟨by first | exact Kd.S_nil _ _ _ _ _ | exact Kd.N_nil _ _ _ _ _ | exact Kd.V_nil _ _ _ _ _ | exact Kd.Q_nil _ _ _ _ _ | exact Kd.R_nil _ _ _ _ _⟩, ⟨by refine kq_N ?_; exact Kd.N_mono HO_4.out (fun _ hk => ⟨hk, (by simp [Value.ownBlock])⟩)⟩, ⟨hbq HB.out⟩⟩
   clear H'
   try clear c1
   try clear c2
   try clear c2b0
   try clear p2
   try clear q2
   try clear hx2
   try clear c3
   try clear c3b0
   try clear c3b1
   try clear c4
   try clear c4b0
   try clear c4b1
   try clear c5
   try clear c5b0
   try clear c6
   try clear c6b0
   try clear p6
   try clear p7
   try clear q7
   try clear hx7
   try clear hf7
   try clear c8
   try clear c8b0
   try clear c10
   try clear c14
   try clear c19
   try clear c19b0
   try clear c21
   try clear c21b0
   try clear c21b1
   try clear c22
   try clear p22
   try clear q22
   try clear hx22
   try clear c25
   try clear c26
   try clear hx221_0
   try clear hx7_0
   try clear p2
   try clear p221
   try clear p6
   try clear p7
   try clear q2
   try clear q221
   try clear q7
   obtain ⟨x10_3, x53_3, rfl, HA, HK3, HO_10, HO_51, HB⟩ := hrel
   cases gk with
   | zero => exact absurd HA.out (by simp [basis_Find.l2])
   | succ k3 =>
    have H := HA.out
    clear HA
    simp only [basis_Find.l2] at H
    by_cases c27 : x53_3 < (x4_2.length : Int)
    ·rw [if_pos c27] at H
     have c27b0 : decide (x53_3 < (x4_2.length : Int)) = true := decide_eq_true c27
     clear c27
     by_cases c28 : 0 ≤ x53_3
     case neg => rw [if_neg c28] at H; exact absurd H (by simp)
     rw [if_pos c28] at H
     have c28b0 : decide (0 ≤ x53_3) = true := decide_eq_true c28
     clear c28
     by_cases c29 : x53_3 < (x4_2.length : Int)
     case neg => rw [if_neg c29] at H; exact absurd H (by simp)
     rw [if_pos c29] at H
     have c29b0 : decide (x53_3 < (x4_2.length : Int)) = true := decide_eq_true c29
     clear c29
     by_cases c30 : x10_3.length < 5864062014805
     case neg => rw [if_neg c30] at H; exact absurd H (by simp)
     rw [if_pos c30] at H
     have LMc30 := Aside0.mk c30
     clear c30
     obtain ⟨y235, hy235⟩ : ∃ y_ : List (List Int), y_ = (x10_3 ++ [(rd_T66 x4_2 x53_3).f0]) := ⟨_, rfl⟩
     replace H : (basis_Find.l2 k3 y235 x4_2 (x4_2.length : Int) (wrap64 (x53_3 + 1))) = some (r1, r2) := by first | (rw [hy235]; with_reducible exact H) | (have H2_ := (Option.bind_some _ _).symm.trans H; rw [hy235]; with_reducible exact H2_) | (have H2_ := (Option.bind_some _ _).symm.trans H; with_reducible exact H2_) | with_reducible exact H | (rw [hy235]; exact H) | exact H
     have Ny235 := Aside0.mk hy235
     clear hy235
     have H' := Aside0.mk H
     clear H
     have p233 : 0 ≤ (x53_3 : Int) := of_decide_eq_true (by first | (with_reducible assumption) | assumption)
     have q233 : x53_3 < (x4_2.length : Int) := of_decide_eq_true (by first | (with_reducible assumption) | assumption)
     obtain ⟨ad233, A233_0, c233_0, A233_1, c233_1, e233, hx233_0, hx233_1, hl233_0, hi233_0, hl233_1, hi233_1⟩ := at_T66 (Kd.N_reads' HO_51.out).2.2 x53_3 p233 q233
     cases e233
     obtain ⟨ce233, hce233, hMe233, hcc233⟩ := Kd.N_get HO_51.out z66 x53_3 p233 (by first | exact q233 | exact of_decide_eq_true (by first | (with_reducible assumption) | assumption) | (have e_ := (Kd.N_reads' HO_51.out).1; omega))
     obtain ⟨ua233_0, uc233_0, ua233_1, uc233_1, rfl, ul233_0, ge233_0, ul233_1, ge233_1⟩ := k66_openF hMe233
     have hv233_0 := hcc233 0 _ rfl
     rw [Nat.add_zero] at hv233_0
     replace hv233_0 := Option.some.inj (hv233_0.symm.trans hx233_0)
     injection hv233_0 with hva_ hvn_ hvc_
     rw [hva_] at ge233_0
     rw [hvc_] at ul233_0
     have HL233_0 := Aside0.mk (show Kd.V (Kd.int .i64) 3 _ w.heap.size _ _ ((rd_T66 x4_2 x53_3).f0) from Kd.V_mk ul233_0 ge233_0)
     clear hva_ hvn_ hvc_ ge233_0 ul233_0
     have hv233_1 := hcc233 1 _ rfl
     rw [add_field _ _ 1 (by omega)] at hv233_1
     replace hv233_1 := Option.some.inj (hv233_1.symm.trans hx233_1)
     injection hv233_1 with hva_ hvn_ hvc_
     rw [hva_] at ge233_1
     rw [hvc_] at ul233_1
     have HL233_1 := Aside0.mk (show Kd.V (Kd.int .i64) 3 _ w.heap.size _ _ ((rd_T66 x4_2 x53_3).f1) from Kd.V_mk ul233_1 ge233_1)
     clear hva_ hvn_ hvc_ ge233_1 ul233_1
     clear hcc233 hce233
     have HR233_0 := Aside0.mk hi233_0
     have HC233_0 := Aside0.mk hl233_0
     clear hi233_0 hl233_0
     have HR233_1 := Aside0.mk hi233_1
     have HC233_1 := Aside0.mk hl233_1
     clear hi233_1 hl233_1
     replace p233 := eq_true p233
     replace q233 := eq_true q233
     go_wp2_with (first | ((with_reducible refine gate_dst (N := 12) rfl ?_); refine box_event ?hg (N := 12) ?hd (cs := #[.slice none 0 0, .slice none 0 0]) (t := 66) ?hr ?_; (case hd => rfl); (case hg => rfl); (case hr => first | (go_simp; done) | (go_simp; rfl)); intro gb234 hg w31 hbox hb; have n0_ := Aside0.mk (Kd.N_below (Kd.N_elderB (kq_N HO_10.out) gb234 (Nat.le_of_eq hg.symm)) hb); have n1_ := Aside0.mk (Kd.N_below (Kd.N_elderB (kq_N HO_51.out) gb234 (Nat.le_of_eq hg.symm)) hb); have n2_ := Aside0.mk (Kd.V_below (Kd.V_elderB (kq_V HL233_0.out) gb234 (Nat.le_of_eq hg.symm)) hb); have n3_ := Aside0.mk (Kd.V_below (Kd.V_elderB (kq_V HL233_1.out) gb234 (Nat.le_of_eq hg.symm)) hb); have n4_ := Aside0.mk (Kd.C_below (by repeat (first | (with_reducible exact HR233_0.out) | (with_reducible refine Kd.C_alloc ?_ _) | (with_reducible refine Kd.C_drewN ?_ _) | (with_reducible refine Kd.C_drew ?_) | exact HR233_0.out)) hb); have n5_ := Aside0.mk (Kd.C_below (by repeat (first | (with_reducible exact HR233_1.out) | (with_reducible refine Kd.C_alloc ?_ _) | (with_reducible refine Kd.C_drewN ?_ _) | (with_reducible refine Kd.C_drew ?_) | exact HR233_1.out)) hb); have n6_ := Aside0.mk (below_step (hbq HB.out) hb); have n7_ := Aside0.mk (hbox); have n8_ := Aside0.mk ((by rw [hg]; exact (below_size (hbq HB.out)) : w.heap.size ≤ gb234)); have n9_ := Aside0.mk ((by rw [hg]; exact (below_size (hbq HB.out)) : w.heap.size ≤ gb234)); clear HO_10; clear HO_51; clear HL233_0; clear HL233_1; clear HR233_0; clear HR233_1; clear HB; have HO_10 := n0_; have HO_51 := n1_; have HL233_0 := n2_; have HL233_1 := n3_; have HR233_0 := n4_; have HR233_1 := n5_; have HB := n6_; have BK234 := n7_; have GW234 := n8_; have GE234 := n9_; clear n0_ n1_ n2_ n3_ n4_ n5_ n6_ n7_ n8_ n9_; clear hb hbox hg; have hcz32_0 : w31.cell? ⟨gb234, 0, none⟩ = some (.slice none 0 0) := (blk_cell BK234.out 0).trans rfl; have hcz32_1 : w31.cell? ⟨gb234, 1, none⟩ = some (.slice none 0 0) := (blk_cell BK234.out 1).trans rfl; have hfz32_0 := blk_frozen BK234.out 0; have hfz32_1 := blk_frozen BK234.out 1) | ((with_reducible refine gate_store (t := 66) (p := 12) rfl ?_); refine store_event (t := 66) (p := 12) (v := ?vo_w33) (w1 := ((w31.setCell ⟨gb234, 0, none⟩ (.slice A233_0 ((rd_T66 x4_2 x53_3).f0).length c233_0)).setCell ⟨gb234, 1, none⟩ (.slice A233_1 ((rd_T66 x4_2 x53_3).f1).length c233_1))) ?hg ?ho ?hn ?hr ?_; (case ho => rfl); (case hg => rfl); (case hn => rfl); (case hr => first | (go_simp; done) | (go_simp; rfl)); intro w33 hw; have n0_ : Aside0 (Kd.N (Kd.slice 3 (Kd.int .i64)) 37 w33 w.heap.size (fun k_ => (w.heap.size ≤ k_) ∧ some k_ ≠ (.slice (some ad233) x4_2.length co26 : Value).ownBlock ∧ k_ ≠ gb234) u10 x10_3) := ⟨(by rw [hw]; exact (by refine kq_N ?_; exact Kd.N_mono (Kd.N_far (p := ⟨gb234, 1, none⟩) (Kd.N_far (p := ⟨gb234, 0, none⟩) (Kd.N_mono HO_10.out (fun k_ hk => (⟨hk, hk.2⟩ : _ ∧ k_ ≠ gb234))) (fun _ hk => hk.2) (.slice A233_0 ((rd_T66 x4_2 x53_3).f0).length c233_0)) (fun _ hk => hk.2) (.slice A233_1 ((rd_T66 x4_2 x53_3).f1).length c233_1)) (fun _ hk => ⟨hk.1.1.1, ⟨hk.1.1.2, hk.1.2⟩⟩)))⟩; have n1_ : Aside0 (Kd.N k66 66 w33 w.heap.size (fun k_ => (w.heap.size ≤ k_) ∧ some k_ ≠ (u10 : Value).ownBlock ∧ k_ ≠ gb234) (.slice (some ad233) x4_2.length co26) x4_2) := ⟨(by rw [hw]; exact (by refine kq_N ?_; exact Kd.N_mono (Kd.N_far (p := ⟨gb234, 1, none⟩) (Kd.N_far (p := ⟨gb234, 0, none⟩) (Kd.N_mono HO_51.out (fun k_ hk => (⟨hk, hk.2⟩ : _ ∧ k_ ≠ gb234))) (fun _ hk => hk.2) (.slice A233_0 ((rd_T66 x4_2 x53_3).f0).length c233_0)) (fun _ hk => hk.2) (.slice A233_1 ((rd_T66 x4_2 x53_3).f1).length c233_1)) (fun _ hk => ⟨hk.1.1.1, ⟨hk.1.1.2, hk.1.2⟩⟩)))⟩; have n2_ : Aside0 (Kd.V (Kd.int .i64) 3 w33 w.heap.size (fun k_ => (w.heap.size ≤ k_) ∧ some k_ ≠ (u10 : Value).ownBlock ∧ some k_ ≠ (.slice (some ad233) x4_2.length co26 : Value).ownBlock ∧ k_ ≠ gb234) (.slice A233_0 ((rd_T66 x4_2 x53_3).f0).length c233_0) ((rd_T66 x4_2 x53_3).f0)) := ⟨(by rw [hw]; exact (by refine kq_V ?_; exact Kd.V_mono (Kd.V_far (p := ⟨gb234, 1, none⟩) (Kd.V_far (p := ⟨gb234, 0, none⟩) (Kd.V_mono HL233_0.out (fun k_ hk => (⟨hk, hk.2⟩ : _ ∧ k_ ≠ gb234))) (fun _ hk => hk.2) (.slice A233_0 ((rd_T66 x4_2 x53_3).f0).length c233_0)) (fun _ hk => hk.2) (.slice A233_1 ((rd_T66 x4_2 x53_3).f1).length c233_1)) (fun _ hk => ⟨hk.1.1.1.1, ⟨hk.1.1.1.2, ⟨hk.1.1.2, hk.1.2⟩⟩⟩)))⟩; have n3_ : Aside0 (Kd.V (Kd.int .i64) 3 w33 w.heap.size (fun k_ => (w.heap.size ≤ k_) ∧ some k_ ≠ (u10 : Value).ownBlock ∧ some k_ ≠ (.slice (some ad233) x4_2.length co26 : Value).ownBlock ∧ k_ ≠ gb234) (.slice A233_1 ((rd_T66 x4_2 x53_3).f1).length c233_1) ((rd_T66 x4_2 x53_3).f1)) := ⟨(by rw [hw]; exact (by refine kq_V ?_; exact Kd.V_mono (Kd.V_far (p := ⟨gb234, 1, none⟩) (Kd.V_far (p := ⟨gb234, 0, none⟩) (Kd.V_mono HL233_1.out (fun k_ hk => (⟨hk, hk.2⟩ : _ ∧ k_ ≠ gb234))) (fun _ hk => hk.2) (.slice A233_0 ((rd_T66 x4_2 x53_3).f0).length c233_0)) (fun _ hk => hk.2) (.slice A233_1 ((rd_T66 x4_2 x53_3).f1).length c233_1)) (fun _ hk => ⟨hk.1.1.1.1, ⟨hk.1.1.1.2, ⟨hk.1.1.2, hk.1.2⟩⟩⟩)))⟩; have n4_ : Aside0 (w33.heap[gb234]? = some (.cells #[.slice A233_0 ((rd_T66 x4_2 x53_3).f0).length c233_0, .slice A233_1 ((rd_T66 x4_2 x53_3).f1).length c233_1] 66 (0, 0))) := ⟨(by rw [hw]; exact (by refine bkq ?_; refine blk_put (cs := #[.slice A233_0 ((rd_T66 x4_2 x53_3).f0).length c233_0, .slice none 0 0]) ?_ 1 _ rfl; refine bkq ?_; refine blk_put (cs := #[.slice none 0 0, .slice none 0 0]) ?_ 0 _ rfl; refine bkq ?_; exact BK234.out))⟩; have n5_ : Aside0 (Below w.heap.size w w33) := ⟨(by rw [hw]; exact (hbq HB.out))⟩; clear hw; clear HO_10; clear HO_51; clear HL233_0; clear HL233_1; clear BK234; clear HB; have HO_10 := n0_; have HO_51 := n1_; have HL233_0 := n2_; have HL233_1 := n3_; have BK234 := n4_; have HB := n5_; clear n0_ n1_ n2_ n3_ n4_ n5_; have hcz34_0 : w33.cell? ⟨gb234, 0, none⟩ = some (.slice A233_0 ((rd_T66 x4_2 x53_3).f0).length c233_0) := (blk_cell BK234.out 0).trans rfl; have hcz34_1 : w33.cell? ⟨gb234, 1, none⟩ = some (.slice A233_1 ((rd_T66 x4_2 x53_3).f1).length c233_1) := (blk_cell BK234.out 1).trans rfl; have hfz34_0 := blk_frozen BK234.out 0; have hfz34_1 := blk_frozen BK234.out 1) | ((with_reducible refine gate_builtin (b := .append) (xs := #[.tmp 57, .tmp 60]) rfl ?_); at_builtin; refine Kd.N_append (Kd.slice 3 (Kd.int .i64)) (w0 := w) w.heap.size rfl (.tmp 57) (.tmp 60) 33 37 (.slice none 0 0) 24 rfl Try.underlying33 info37 rfl (by decide) (by omega) u10 x10_3 ((rd_T66 x4_2 x53_3).f0) [.slice A233_0 ((rd_T66 x4_2 x53_3).f0).length c233_0] (fun k_ => (w.heap.size ≤ k_) ∧ some k_ ≠ (.slice (some ad233) x4_2.length co26 : Value).ownBlock ∧ k_ ≠ gb234) (fun k_ => ((fun k_ => (w.heap.size ≤ k_) ∧ some k_ ≠ (.slice (some ad233) x4_2.length co26 : Value).ownBlock ∧ k_ ≠ gb234)) k_ ∧ some k_ ≠ (u10 : Value).ownBlock) rfl rfl ?aP (fun _ hk => hk) ?aF ?aO ?aB ?aS ?aL ?_; (case aP => exact (Kd.FK_slice_mk (Kd.V_reads' (Kd.V_mono (ok' := (fun k_ => ((fun k_ => (w.heap.size ≤ k_) ∧ some k_ ≠ (.slice (some ad233) x4_2.length co26 : Value).ownBlock ∧ k_ ≠ gb234)) k_ ∧ some k_ ≠ (u10 : Value).ownBlock)) (HL233_0.out) (fun k_ hk => ⟨⟨hk.1, ⟨hk.2.2.1, hk.2.2.2⟩⟩, hk.2.1⟩))).2.1 (Kd.V_F (Kd.V_mono (ok' := (fun k_ => ((fun k_ => (w.heap.size ≤ k_) ∧ some k_ ≠ (.slice (some ad233) x4_2.length co26 : Value).ownBlock ∧ k_ ≠ gb234)) k_ ∧ some k_ ≠ (u10 : Value).ownBlock)) (HL233_0.out) (fun k_ hk => ⟨⟨hk.1, ⟨hk.2.2.1, hk.2.2.2⟩⟩, hk.2.1⟩))))); (case aB => exact (hbq HB.out)); (case aF => exact (fun k_ hk => ⟨(Nat.le_trans (below_size (hbq HB.out)) hk), Kd.fresh' (Kd.N_lt (kq_N HO_51.out)) k_ hk, Kd.freshB (g := gb234) (o := .cells #[.slice A233_0 ((rd_T66 x4_2 x53_3).f0).length c233_0, .slice A233_1 ((rd_T66 x4_2 x53_3).f1).length c233_1] 66 (0, 0)) (bkq BK234.out) k_ hk⟩)); (case aO => exact (kq_N HO_10.out)); (case aS => exact (below_size (hbq HB.out))); (case aL => have := LMc30.out; omega); intro v236 w35 ho hb hg hat; rw [← Ny235.out] at ho; have n0_ := Aside0.mk (Kd.N_afterv (ok := (fun k_ => (w.heap.size ≤ k_) ∧ k_ ≠ gb234)) (by refine kq_N ?_; exact Kd.N_mono HO_51.out (fun _ hk => ⟨⟨hk.1, hk.2.2⟩, hk.2.1⟩)) hg hat); have n1_ := Aside0.mk (Kd.V_afterv (ok := (fun k_ => (w.heap.size ≤ k_) ∧ some k_ ≠ (.slice (some ad233) x4_2.length co26 : Value).ownBlock ∧ k_ ≠ gb234)) (by refine kq_V ?_; exact Kd.V_mono HL233_0.out (fun _ hk => ⟨⟨hk.1, ⟨hk.2.2.1, hk.2.2.2⟩⟩, hk.2.1⟩)) hg hat); have n2_ := Aside0.mk (Kd.V_afterv (ok := (fun k_ => (w.heap.size ≤ k_) ∧ some k_ ≠ (.slice (some ad233) x4_2.length co26 : Value).ownBlock ∧ k_ ≠ gb234)) (by refine kq_V ?_; exact Kd.V_mono HL233_1.out (fun _ hk => ⟨⟨hk.1, ⟨hk.2.2.1, hk.2.2.2⟩⟩, hk.2.1⟩)) hg hat); have n3_ := Aside0.mk (blk_grown (g := gb234) (o := .cells #[.slice A233_0 ((rd_T66 x4_2 x53_3).f0).length c233_0, .slice A233_1 ((rd_T66 x4_2 x53_3).f1).length c233_1] 66 (0, 0)) (bkq BK234.out) hg (Kd.N_ne HO_10.out BK234.out (by decide))); have n4_ := Aside0.mk (hb); have n5_ := Aside0.mk (ho); clear HO_51; clear HL233_0; clear HL233_1; clear BK234; clear HB; clear HO_10; have HO_51 := n0_; have HL233_0 := n1_; have HL233_1 := n2_; have BK234 := n3_; have HB := n4_; have HO237 := n5_; clear n0_ n1_ n2_ n3_ n4_ n5_; clear ho hb hg hat))
     go_roundg k3
     case measure => have := HK1.out; have := HK2.out; have := HK3.out; omega
     case rel => exact ⟨(y235), (wrap64 (x53_3 + 1)), (by first | rfl | (simp; done) | (simp [*]; done)), H', ⟨by have := HK1.out; have := HK2.out; have := HK3.out; omega⟩, ⟨by refine kq_N ?_; exact Kd.N_mono HO237.out (fun _ hk => ⟨hk.1, hk.2.1⟩)⟩, ⟨by refine kq_N ?_; exact Kd.N_mono HO_51.out (fun _ hk => ⟨hk.1.1, hk.2⟩)⟩, ⟨hbq HB.out⟩⟩
    rw [if_neg c27] at H
    have c27b0 : decide (x53_3 < (x4_2.length : Int)) = false := decide_eq_false c27
    clear c27
    simp only [Option.some.injEq, Prod.mk.injEq] at H
    obtain ⟨rfl, rfl⟩ := H
    go_wp2
    go_ret2
    exact ⟨_, by first | rfl | (simp [errW_none, errW_some] <;> rfl) | (simp [*, errW_none, errW_some] <;> rfl), by refine kq_N ?_; exact Kd.N_mono HO_10.out (fun _ hk => hk.1), hbq HB.out⟩

end Go.Proofs.Ytifbflpaednfnaa.PBasisMore
