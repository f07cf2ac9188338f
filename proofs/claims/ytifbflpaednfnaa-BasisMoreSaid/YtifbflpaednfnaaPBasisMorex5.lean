/- What the functions that this law reaches answer, in whatever memory, and the row of the law; no condition. Written by a program of this session (mk.sh). -/
import Derived.Test.YtifbflpaednfnaaPBasisMorex0
namespace Go.Proofs.Ytifbflpaednfnaa.PBasisMore
open Go.RowKit Go.Proofs.YtifbflpaednfnaaW.PrintWords Go.Proofs.YtifbflpaednfnaaW.PrintLast Go.Proofs.YtifbflpaednfnaaW.PrintMore
attribute [local go_sem] max2_int min2_int max_two min_two max_three min_three max_four min_four   -- for this text's walks alone
set_option linter.unusedVariables false
set_option linter.unusedSimpArgs false

/-! ### basis_within: function 42 -/
def basis_within.l0 : Nat → List Int → List Int → Int → Int → Option (Bool)
 | 0, _, _, _, _ => none
 | k + 1, x0, x1, x7, x8 => if x8 < x7 then (if 0 ≤ x8 then (if x8 < (x0.length : Int) then (if (rd x0 x8) = 0 then (basis_within.l0 k x0 x1 x7 (wrap64 (x8 + 1))) else (if x8 < (x1.length : Int) then (if (rd x1 x8) = 0 then (some false) else (basis_within.l0 k x0 x1 x7 (wrap64 (x8 + 1)))) else (none))) else (none)) else (none)) else (some true)
def basis_within.f (k : Nat) (l0 : List Int) (l1 : List Int) : Option (Bool) := basis_within.l0 k l0 l1 (l0.length : Int) 0
theorem basis_within.mono_l : ∀ k, (∀ y0 y1 y2 y3, LeO (basis_within.l0 k y0 y1 y2 y3) (basis_within.l0 (k + 1) y0 y1 y2 y3))
 | 0 => fun _ _ _ _ r h => by simp [basis_within.l0] at h
 | k + 1 => by
  have ih0 := basis_within.mono_l k
  ·intro y0 y1 y2 y3
   unfold basis_within.l0
   repeat' first
   | (with_reducible exact ih0 _ _ _ _)
   | (with_reducible exact LeO.refl _)
   | (with_reducible exact LeO.none _)
   | (with_reducible refine LeO.ite ?_ ?_)
   | (with_reducible refine LeO.bind ?_ (fun _ => ?_))
   | exact ih0 _ _ _ _
   | exact LeO.none _
   | refine LeO.ite ?_ ?_
   | refine LeO.bind ?_ (fun _ => ?_)
theorem basis_within.mono : ∀ a0 a1 k, LeO (basis_within.f k a0 a1) (basis_within.f (k + 1) a0 a1) := by
 intro a0 a1 k
 have ih0 := basis_within.mono_l k
 unfold basis_within.f
 repeat' first
  | (with_reducible exact ih0 _ _ _ _)
  | (with_reducible exact LeO.refl _)
  | (with_reducible exact LeO.none _)
  | (with_reducible refine LeO.ite ?_ ?_)
  | (with_reducible refine LeO.bind ?_ (fun _ => ?_))
  | exact ih0 _ _ _ _
  | exact LeO.none _
  | refine LeO.ite ?_ ?_
  | refine LeO.bind ?_ (fun _ => ?_)
set_option maxHeartbeats 8000000 in
set_option maxRecDepth 100000 in
theorem basis_within.calls (k : Nat) (A0 : Option Addr) (c0 : Nat) (l0 : List Int) (A1 : Option Addr) (c1 : Nat) (l1 : List Int) (r : Bool) (w : World) (hr0 : Kd.C (Kd.int .i64) w A0 l0.length l0) (hc0 : l0.length ≤ c0) (hr1 : Kd.C (Kd.int .i64) w A1 l1.length l1) (hc1 : l1.length ≤ c1) (h : basis_within.f k l0 l1 = some r) :
 Calls Try.prog 42 #[.slice A0 l0.length c0, .slice A1 l1.length c1] w fun e w' => e = .returned (.bool r) ∧ Drawn0 w w' := by
 have HR0 := Aside0.mk hr0
 have HC0 := Aside0.mk hc0
 clear hr0 hc0
 have HR1 := Aside0.mk hr1
 have HC1 := Aside0.mk hc1
 clear hr1 hc1
 have H : (basis_within.l0 k l0 l1 (l0.length : Int) 0) = some r := h
 clear h
 have H' := Aside0.mk H
 clear H
 go_enter Try.func42, Try.ntmps42
 go_wp2
 go_loopg [8] k (fun kq v8 w' => ∃ (x8_1 : Int), v8 = .int .i64 x8_1 ∧ Aside0 (basis_within.l0 kq l0 l1 (l0.length : Int) x8_1 = some r) ∧ Aside0 (kq ≤ k) ∧ Drawn0 w w')
 case atStart => exact ⟨(0), (by first | rfl | (simp; done) | (simp [*]; done)), H', ⟨Nat.le_refl _⟩, by repeat (first | exact Drawn0.refl _ | apply Drawn0.step)⟩
 clear H'
 try clear c1
 try clear p2
 obtain ⟨x8_1, rfl, HA, HK1, ⟨m1, rfl⟩⟩ := hrel
 cases gk with
 | zero => exact absurd HA.out (by simp [basis_within.l0])
 | succ k1 =>
  have H := HA.out
  clear HA
  simp only [basis_within.l0] at H
  by_cases c3 : x8_1 < (l0.length : Int)
  ·rw [if_pos c3] at H
   have c3b0 : decide (x8_1 < (l0.length : Int)) = true := decide_eq_true c3
   clear c3
   by_cases c4 : 0 ≤ x8_1
   case neg => rw [if_neg c4] at H; exact absurd H (by simp)
   rw [if_pos c4] at H
   have c4b0 : decide (0 ≤ x8_1) = true := decide_eq_true c4
   clear c4
   by_cases c5 : x8_1 < (l0.length : Int)
   case neg => rw [if_neg c5] at H; exact absurd H (by simp)
   rw [if_pos c5] at H
   have c5b0 : decide (x8_1 < (l0.length : Int)) = true := decide_eq_true c5
   clear c5
   by_cases c6 : (rd l0 x8_1) = 0
   ·rw [if_pos c6] at H
    have c6b0 : ((rd l0 x8_1) == 0) = true := beq_iff_eq.mpr c6
    have c6b1 : ((rd l0 x8_1) != 0) = false := bne_eq_false_iff_eq.mpr c6
    clear c6
    have H' := Aside0.mk H
    clear H
    have p173 : 0 ≤ (x8_1 : Int) := of_decide_eq_true (by first | (with_reducible assumption) | assumption)
    have q173 : x8_1 < (l0.length : Int) := of_decide_eq_true (by first | (with_reducible assumption) | assumption)
    obtain ⟨ad173, e173, hx173_0⟩ := Kd.at_int HR0.out x8_1 p173 q173
    cases e173
    replace p173 := eq_true p173
    replace q173 := eq_true q173
    go_wp2
    go_roundg k1
    case measure => have := HK1.out; omega
    case rel => exact ⟨(wrap64 (x8_1 + 1)), (by first | rfl | (simp; done) | (simp [*]; done)), H', ⟨by have := HK1.out; omega⟩, by repeat (first | exact Drawn0.refl _ | apply Drawn0.step)⟩
   rw [if_neg c6] at H
   have c6b0 : ((rd l0 x8_1) == 0) = false := beq_eq_false_iff_ne.mpr c6
   have c6b1 : ((rd l0 x8_1) != 0) = true := bne_iff_ne.mpr c6
   by_cases c7 : x8_1 < (l1.length : Int)
   case neg => rw [if_neg c7] at H; exact absurd H (by simp)
   rw [if_pos c7] at H
   have c7b0 : decide (x8_1 < (l1.length : Int)) = true := decide_eq_true c7
   clear c7
   by_cases c8 : (rd l1 x8_1) = 0
   ·rw [if_pos c8] at H
    have c8b0 : ((rd l1 x8_1) == 0) = true := beq_iff_eq.mpr c8
    have c8b1 : ((rd l1 x8_1) != 0) = false := bne_eq_false_iff_eq.mpr c8
    clear c8
    obtain rfl := Option.some.inj H
    have p173 : 0 ≤ (x8_1 : Int) := of_decide_eq_true (by first | (with_reducible assumption) | assumption)
    have q173 : x8_1 < (l0.length : Int) := of_decide_eq_true (by first | (with_reducible assumption) | assumption)
    obtain ⟨ad173, e173, hx173_0⟩ := Kd.at_int HR0.out x8_1 p173 q173
    cases e173
    replace p173 := eq_true p173
    replace q173 := eq_true q173
    have p174 : 0 ≤ (x8_1 : Int) := of_decide_eq_true (by first | (with_reducible assumption) | assumption)
    have q174 : x8_1 < (l1.length : Int) := of_decide_eq_true (by first | (with_reducible assumption) | assumption)
    obtain ⟨ad174, e174, hx174_0⟩ := Kd.at_int HR1.out x8_1 p174 q174
    cases e174
    replace p174 := eq_true p174
    replace q174 := eq_true q174
    go_wp2
    go_ret
    exact ⟨by first | rfl | (simp; done) | (simp [*]; done), by repeat (first | exact Drawn0.refl _ | apply Drawn0.step)⟩
   rw [if_neg c8] at H
   have c8b0 : ((rd l1 x8_1) == 0) = false := beq_eq_false_iff_ne.mpr c8
   have c8b1 : ((rd l1 x8_1) != 0) = true := bne_iff_ne.mpr c8
   have H' := Aside0.mk H
   clear H
   have p173 : 0 ≤ (x8_1 : Int) := of_decide_eq_true (by first | (with_reducible assumption) | assumption)
   have q173 : x8_1 < (l0.length : Int) := of_decide_eq_true (by first | (with_reducible assumption) | assumption)
   obtain ⟨ad173, e173, hx173_0⟩ := Kd.at_int HR0.out x8_1 p173 q173
   cases e173
   replace p173 := eq_true p173
   replace q173 := eq_true q173
   have p174 : 0 ≤ (x8_1 : Int) := of_decide_eq_true (by first | (with_reducible assumption) | assumption)
   have q174 : x8_1 < (l1.length : Int) := of_decide_eq_true (by first | (with_reducible assumption) | assumption)
   obtain ⟨ad174, e174, hx174_0⟩ := Kd.at_int HR1.out x8_1 p174 q174
   cases e174
   replace p174 := eq_true p174
   replace q174 := eq_true q174
   go_wp2
   go_roundg k1
   case measure => have := HK1.out; omega
   case rel => exact ⟨(wrap64 (x8_1 + 1)), (by first | rfl | (simp; done) | (simp [*]; done)), H', ⟨by have := HK1.out; omega⟩, by repeat (first | exact Drawn0.refl _ | apply Drawn0.step)⟩
  rw [if_neg c3] at H
  have c3b0 : decide (x8_1 < (l0.length : Int)) = false := decide_eq_false c3
  clear c3
  obtain rfl := Option.some.inj H
  go_wp2
  go_ret
  exact ⟨by first | rfl | (simp; done) | (simp [*]; done), by repeat (first | exact Drawn0.refl _ | apply Drawn0.step)⟩

/-! ### basis_least: function 35 -/
mutual
def basis_least.l0 : Nat → List (S66) → List (S66) → List (S66) → Int → Int → Option ((List (S66)))
 | 0, _, _, _, _, _ => none
 | k + 1, x0, x3, x8, x9, x10 => if x10 < x9 then (if 0 ≤ x10 then (if x10 < (x8.length : Int) then (basis_least.l1 k x0 x3 x10 x8 x9 x10 x0 (x0.length : Int) 0 ((rd_T66 x8 x10).f0) ((rd_T66 x8 x10).f1)) else (none)) else (none)) else (some x3)
def basis_least.l1 : Nat → List (S66) → List (S66) → Int → List (S66) → Int → Int → List (S66) → Int → Int → List Int → List Int → Option ((List (S66)))
 | 0, _, _, _, _, _, _, _, _, _, _, _ => none
 | k + 1, x0, x3, x4, x8, x9, x10, x15, x16, x17, x177000, x177001 => if x17 < x16 then (if 0 ≤ x17 then (if x17 < (x15.length : Int) then (if x17 = x4 then (basis_least.l1 k x0 x3 x4 x8 x9 x10 x15 x16 (wrap64 (x17 + 1)) x177000 x177001) else ((basis_within.f k ((rd_T66 x15 x17).f0) x177000).bind fun t182 => (if t182 = true then ((basis_within.f k x177000 ((rd_T66 x15 x17).f0)).bind fun t183 => (if t183 = true then (if x17 < x4 then (basis_least.l0 k x0 x3 x8 x9 (wrap64 (x10 + 1))) else (basis_least.l1 k x0 x3 x4 x8 x9 x10 x15 x16 (wrap64 (x17 + 1)) x177000 x177001)) else (basis_least.l0 k x0 x3 x8 x9 (wrap64 (x10 + 1))))) else (basis_least.l1 k x0 x3 x4 x8 x9 x10 x15 x16 (wrap64 (x17 + 1)) x177000 x177001)))) else (none)) else (none)) else (if x3.length < 2932031007402 then (basis_least.l0 k x0 (x3 ++ [(⟨x177000, x177001⟩ : S66)]) x8 x9 (wrap64 (x10 + 1))) else (none))
end
def basis_least.f (k : Nat) (l0 : List (S66)) : Option ((List (S66))) := basis_least.l0 k l0 ([] : List (S66)) l0 (l0.length : Int) 0
theorem basis_least.mono_l : ∀ k, (∀ y0 y1 y2 y3 y4, LeO (basis_least.l0 k y0 y1 y2 y3 y4) (basis_least.l0 (k + 1) y0 y1 y2 y3 y4)) ∧ (∀ y0 y1 y2 y3 y4 y5 y6 y7 y8 y9 y10, LeO (basis_least.l1 k y0 y1 y2 y3 y4 y5 y6 y7 y8 y9 y10) (basis_least.l1 (k + 1) y0 y1 y2 y3 y4 y5 y6 y7 y8 y9 y10))
 | 0 => ⟨fun _ _ _ _ _ r h => by simp [basis_least.l0] at h, fun _ _ _ _ _ _ _ _ _ _ _ r h => by simp [basis_least.l1] at h⟩
 | k + 1 => by
  obtain ⟨ih0, ih1⟩ := basis_least.mono_l k
  refine ⟨?_, ?_⟩
  all_goals
   intros
   first
   | unfold basis_least.l0
   | unfold basis_least.l1
   repeat' first
   | (with_reducible exact ih0 _ _ _ _ _)
   | (with_reducible exact ih1 _ _ _ _ _ _ _ _ _ _ _)
   | (with_reducible exact basis_within.mono _ _ _)
   | (with_reducible exact LeO.refl _)
   | (with_reducible exact LeO.none _)
   | (with_reducible refine LeO.ite ?_ ?_)
   | (with_reducible refine LeO.bind ?_ (fun _ => ?_))
   | exact ih0 _ _ _ _ _
   | exact ih1 _ _ _ _ _ _ _ _ _ _ _
   | exact basis_within.mono _ _ _
   | exact LeO.none _
   | refine LeO.ite ?_ ?_
   | refine LeO.bind ?_ (fun _ => ?_)
theorem basis_least.mono : ∀ a0 k, LeO (basis_least.f k a0) (basis_least.f (k + 1) a0) := by
 intro a0 k
 obtain ⟨ih0, ih1⟩ := basis_least.mono_l k
 unfold basis_least.f
 repeat' first
  | (with_reducible exact ih0 _ _ _ _ _)
  | (with_reducible exact ih1 _ _ _ _ _ _ _ _ _ _ _)
  | (with_reducible exact basis_within.mono _ _ _)
  | (with_reducible exact LeO.refl _)
  | (with_reducible exact LeO.none _)
  | (with_reducible refine LeO.ite ?_ ?_)
  | (with_reducible refine LeO.bind ?_ (fun _ => ?_))
  | exact ih0 _ _ _ _ _
  | exact ih1 _ _ _ _ _ _ _ _ _ _ _
  | exact basis_within.mono _ _ _
  | exact LeO.none _
  | refine LeO.ite ?_ ?_
  | refine LeO.bind ?_ (fun _ => ?_)
set_option maxHeartbeats 8000000 in
set_option maxRecDepth 100000 in
theorem basis_least.calls (k : Nat) (P0_ : Nat → Prop) (A0 : Option Addr) (c0 : Nat) (l0 : List (S66)) (r : List (S66)) (w : World) (hs0 : Kd.V k66 66 w w.heap.size (fun k_ => P0_ k_) (.slice A0 l0.length c0) l0) (h : basis_least.f k l0 = some r) :
 Calls Try.prog 35 #[.slice A0 l0.length c0] w fun e w' => ∃ v0_ : Value, e = .returned (v0_) ∧ Kd.N k66 66 w' w.heap.size (fun k_ => (P0_ k_ ∨ w.heap.size ≤ k_)) v0_ r ∧ Below w.heap.size w w' := by
 have hu66 := Try.underlying66
 have HO0 := Aside0.mk (show Kd.V k66 66 w w.heap.size (fun k_ => (P0_ k_ ∨ w.heap.size ≤ k_)) (.slice A0 l0.length c0) l0 from Kd.V_mono hs0 (fun k_ hk => .inl hk))
 have HB := Aside0.mk (Below.refl w.heap.size w)
 have H : (basis_least.l0 k l0 ([] : List (S66)) l0 (l0.length : Int) 0) = some r := h
 clear h
 have H' := Aside0.mk H
 clear H
 go_enter Try.func35, Try.ntmps35
 iterate 3 ((try go_step3); (try go_wp2))
 go_wp2
 go_loopg [3, 10] k (fun kq v3 v10 w' => ∃ (x3_1 : List (S66)) (x10_1 : Int), v10 = .int .i64 x10_1 ∧ Aside0 (basis_least.l0 kq l0 x3_1 l0 (l0.length : Int) x10_1 = some r) ∧ Aside0 (kq ≤ k) ∧ Aside0 (Kd.V k66 66 w' w.heap.size (fun k_ => (P0_ k_ ∨ w.heap.size ≤ k_) ∧ some k_ ≠ (v3 : Value).ownBlock) (.slice A0 l0.length c0) l0) ∧ Aside0 (Kd.N k66 66 w' w.heap.size (fun k_ => (P0_ k_ ∨ w.heap.size ≤ k_)) v3 x3_1) ∧ Aside0 (Kd.V k66 66 w' w.heap.size (fun k_ => (P0_ k_ ∨ w.heap.size ≤ k_) ∧ some k_ ≠ (v3 : Value).ownBlock) (.slice A0 l0.length c0) l0) ∧ Aside0 (Below w.heap.size w w'))
 case atStart => exact ⟨(([] : List (S66))), (0), (by first | rfl | (simp; done) | (simp [*]; done)), H', ⟨Nat.le_refl _⟩, ⟨by refine kq_V ?_; exact Kd.V_mono HO0.out (fun _ hk => ⟨hk, (by simp [Value.ownBlock])⟩)⟩, ⟨by first | exact Kd.S_nil _ _ _ _ _ | exact Kd.N_nil _ _ _ _ _ | exact Kd.V_nil _ _ _ _ _ | exact Kd.Q_nil _ _ _ _ _ | exact Kd.R_nil _ _ _ _ _⟩, ⟨by refine kq_V ?_; exact Kd.V_mono HO0.out (fun _ hk => ⟨hk, (by simp [Value.ownBlock])⟩)⟩, ⟨hbq HB.out⟩⟩
 clear H'
 obtain ⟨x3_1, x10_1, rfl, HA, HK1, HO_0, HO_3, HO_8, HB⟩ := hrel
 cases gk with
 | zero => exact absurd HA.out (by simp [basis_least.l0])
 | succ k1 =>
  have H := HA.out
  clear HA
  simp only [basis_least.l0] at H
  by_cases c2 : x10_1 < (l0.length : Int)
  ·rw [if_pos c2] at H
   have c2b0 : decide (x10_1 < (l0.length : Int)) = true := decide_eq_true c2
   clear c2
   by_cases c3 : 0 ≤ x10_1
   case neg => rw [if_neg c3] at H; exact absurd H (by simp)
   rw [if_pos c3] at H
   have c3b0 : decide (0 ≤ x10_1) = true := decide_eq_true c3
   clear c3
   by_cases c4 : x10_1 < (l0.length : Int)
   case neg => rw [if_neg c4] at H; exact absurd H (by simp)
   rw [if_pos c4] at H
   have c4b0 : decide (x10_1 < (l0.length : Int)) = true := decide_eq_true c4
   clear c4
   have H' := Aside0.mk H
   clear H
   have p175 : 0 ≤ (x10_1 : Int) := of_decide_eq_true (by first | (with_reducible assumption) | assumption)
   have q175 : x10_1 < (l0.length : Int) := of_decide_eq_true (by first | (with_reducible assumption) | assumption)
   obtain ⟨ad175, A175_0, c175_0, A175_1, c175_1, e175, hx175_0, hx175_1, hl175_0, hi175_0, hl175_1, hi175_1⟩ := at_T66 (Kd.V_reads' HO_8.out).2.2 x10_1 p175 q175
   cases e175
   obtain ⟨ce175, hce175, hMe175, hcc175⟩ := Kd.V_get HO_8.out z66 x10_1 p175 (by first | exact q175 | exact of_decide_eq_true (by first | (with_reducible assumption) | assumption) | (have e_ := (Kd.V_reads' HO_8.out).1; omega))
   obtain ⟨ua175_0, uc175_0, ua175_1, uc175_1, rfl, ul175_0, ge175_0, ul175_1, ge175_1⟩ := k66_openF hMe175
   have hv175_0 := hcc175 0 _ rfl
   rw [Nat.add_zero] at hv175_0
   replace hv175_0 := Option.some.inj (hv175_0.symm.trans hx175_0)
   injection hv175_0 with hva_ hvn_ hvc_
   rw [hva_] at ge175_0
   rw [hvc_] at ul175_0
   have HL175_0 := Aside0.mk (show Kd.V (Kd.int .i64) 3 _ w.heap.size _ _ ((rd_T66 l0 x10_1).f0) from Kd.V_mk ul175_0 ge175_0)
   clear hva_ hvn_ hvc_ ge175_0 ul175_0
   have hv175_1 := hcc175 1 _ rfl
   rw [add_field _ _ 1 (by omega)] at hv175_1
   replace hv175_1 := Option.some.inj (hv175_1.symm.trans hx175_1)
   injection hv175_1 with hva_ hvn_ hvc_
   rw [hva_] at ge175_1
   rw [hvc_] at ul175_1
   have HL175_1 := Aside0.mk (show Kd.V (Kd.int .i64) 3 _ w.heap.size _ _ ((rd_T66 l0 x10_1).f1) from Kd.V_mk ul175_1 ge175_1)
   clear hva_ hvn_ hvc_ ge175_1 ul175_1
   clear hcc175 hce175
   have HR175_0 := Aside0.mk hi175_0
   have HC175_0 := Aside0.mk hl175_0
   clear hi175_0 hl175_0
   have HR175_1 := Aside0.mk hi175_1
   have HC175_1 := Aside0.mk hl175_1
   clear hi175_1 hl175_1
   replace p175 := eq_true p175
   replace q175 := eq_true q175
   go_wp2_with (first | ((with_reducible refine gate_dst (N := 5) rfl ?_); refine box_event ?hg (N := 5) ?hd (cs := #[.slice none 0 0, .slice none 0 0]) (t := 66) ?hr ?_; (case hd => rfl); (case hg => rfl); (case hr => first | (go_simp; done) | (go_simp; rfl)); intro gb176 hg w5 hbox hb; have n0_ := Aside0.mk (Kd.V_below (Kd.V_elderB (kq_V HO_0.out) gb176 (Nat.le_of_eq hg.symm)) hb); have n1_ := Aside0.mk (Kd.N_below (Kd.N_elderB (kq_N HO_3.out) gb176 (Nat.le_of_eq hg.symm)) hb); have n2_ := Aside0.mk (Kd.V_below (Kd.V_elderB (kq_V HO_8.out) gb176 (Nat.le_of_eq hg.symm)) hb); have n3_ := Aside0.mk (Kd.V_below (Kd.V_elderB (kq_V HL175_0.out) gb176 (Nat.le_of_eq hg.symm)) hb); have n4_ := Aside0.mk (Kd.V_below (Kd.V_elderB (kq_V HL175_1.out) gb176 (Nat.le_of_eq hg.symm)) hb); have n5_ := Aside0.mk (Kd.C_below (by repeat (first | (with_reducible exact HR175_0.out) | (with_reducible refine Kd.C_alloc ?_ _) | (with_reducible refine Kd.C_drewN ?_ _) | (with_reducible refine Kd.C_drew ?_) | exact HR175_0.out)) hb); have n6_ := Aside0.mk (Kd.C_below (by repeat (first | (with_reducible exact HR175_1.out) | (with_reducible refine Kd.C_alloc ?_ _) | (with_reducible refine Kd.C_drewN ?_ _) | (with_reducible refine Kd.C_drew ?_) | exact HR175_1.out)) hb); have n7_ := Aside0.mk (below_step (hbq HB.out) hb); have n8_ := Aside0.mk (hbox); have n9_ := Aside0.mk ((by rw [hg]; exact (below_size (hbq HB.out)) : w.heap.size ≤ gb176)); have n10_ := Aside0.mk ((by rw [hg]; exact (below_size (hbq HB.out)) : w.heap.size ≤ gb176)); clear HO_0; clear HO_3; clear HO_8; clear HL175_0; clear HL175_1; clear HR175_0; clear HR175_1; clear HB; have HO_0 := n0_; have HO_3 := n1_; have HO_8 := n2_; have HL175_0 := n3_; have HL175_1 := n4_; have HR175_0 := n5_; have HR175_1 := n6_; have HB := n7_; have BK176 := n8_; have GW176 := n9_; have GE176 := n10_; clear n0_ n1_ n2_ n3_ n4_ n5_ n6_ n7_ n8_ n9_ n10_; clear hb hbox hg; have hcz6_0 : w5.cell? ⟨gb176, 0, none⟩ = some (.slice none 0 0) := (blk_cell BK176.out 0).trans rfl; have hcz6_1 : w5.cell? ⟨gb176, 1, none⟩ = some (.slice none 0 0) := (blk_cell BK176.out 1).trans rfl; have hfz6_0 := blk_frozen BK176.out 0; have hfz6_1 := blk_frozen BK176.out 1))
   go_loopg [17] k1 (fun kq v17 w' => ∃ (x17_2 : Int), v17 = .int .i64 x17_2 ∧ Aside0 (basis_least.l1 kq l0 x3_1 x10_1 l0 (l0.length : Int) x10_1 l0 (l0.length : Int) x17_2 ((rd_T66 l0 x10_1).f0) ((rd_T66 l0 x10_1).f1) = some r) ∧ Aside0 (kq ≤ k1) ∧ Aside0 (Kd.V k66 66 w' w.heap.size (fun k_ => (P0_ k_ ∨ w.heap.size ≤ k_) ∧ some k_ ≠ (u3 : Value).ownBlock ∧ k_ ≠ gb176) (.slice (some ad175) l0.length c0) l0) ∧ Aside0 (Kd.N k66 66 w' w.heap.size (fun k_ => (P0_ k_ ∨ w.heap.size ≤ k_) ∧ k_ ≠ gb176) u3 x3_1) ∧ Aside0 (Kd.V k66 66 w' w.heap.size (fun k_ => (P0_ k_ ∨ w.heap.size ≤ k_) ∧ some k_ ≠ (u3 : Value).ownBlock ∧ k_ ≠ gb176) (.slice (some ad175) l0.length c0) l0) ∧ Aside0 (Kd.V k66 66 w' w.heap.size (fun k_ => (P0_ k_ ∨ w.heap.size ≤ k_) ∧ some k_ ≠ (u3 : Value).ownBlock ∧ k_ ≠ gb176) (.slice (some ad175) l0.length c0) l0) ∧ Aside0 (Kd.V (Kd.int .i64) 3 w' w.heap.size (fun k_ => (P0_ k_ ∨ w.heap.size ≤ k_) ∧ some k_ ≠ (u3 : Value).ownBlock ∧ k_ ≠ gb176) (.slice A175_0 ((rd_T66 l0 x10_1).f0).length c175_0) ((rd_T66 l0 x10_1).f0)) ∧ Aside0 (Kd.V (Kd.int .i64) 3 w' w.heap.size (fun k_ => (P0_ k_ ∨ w.heap.size ≤ k_) ∧ some k_ ≠ (u3 : Value).ownBlock ∧ k_ ≠ gb176) (.slice A175_1 ((rd_T66 l0 x10_1).f1).length c175_1) ((rd_T66 l0 x10_1).f1)) ∧ Aside0 (w'.heap[gb176]? = some (.cells #[(.slice A175_0 ((rd_T66 l0 x10_1).f0).length c175_0), (.slice A175_1 ((rd_T66 l0 x10_1).f1).length c175_1)] 66 (0, 0))) ∧ Aside0 (Below w.heap.size w w'))
   case atStart => exact ⟨(0), (by first | rfl | (simp; done) | (simp [*]; done)), H', ⟨Nat.le_refl _⟩, ⟨by refine kq_V ?_; exact Kd.V_mono (Kd.V_far (p := ⟨gb176, 1, none⟩) (Kd.V_far (p := ⟨gb176, 0, none⟩) (Kd.V_mono HO_0.out (fun k_ hk => (⟨hk, hk.2⟩ : _ ∧ k_ ≠ gb176))) (fun _ hk => hk.2) (.slice A175_0 ((rd_T66 l0 x10_1).f0).length c175_0)) (fun _ hk => hk.2) (.slice A175_1 ((rd_T66 l0 x10_1).f1).length c175_1)) (fun _ hk => ⟨hk.1.1.1, ⟨hk.1.1.2, hk.1.2⟩⟩)⟩, ⟨by refine kq_N ?_; exact Kd.N_mono (Kd.N_far (p := ⟨gb176, 1, none⟩) (Kd.N_far (p := ⟨gb176, 0, none⟩) (Kd.N_mono HO_3.out (fun k_ hk => (⟨hk, hk.2⟩ : _ ∧ k_ ≠ gb176))) (fun _ hk => hk.2) (.slice A175_0 ((rd_T66 l0 x10_1).f0).length c175_0)) (fun _ hk => hk.2) (.slice A175_1 ((rd_T66 l0 x10_1).f1).length c175_1)) (fun _ hk => ⟨hk.1.1, hk.1.2⟩)⟩, ⟨by refine kq_V ?_; exact Kd.V_mono (Kd.V_far (p := ⟨gb176, 1, none⟩) (Kd.V_far (p := ⟨gb176, 0, none⟩) (Kd.V_mono HO_8.out (fun k_ hk => (⟨hk, hk.2⟩ : _ ∧ k_ ≠ gb176))) (fun _ hk => hk.2) (.slice A175_0 ((rd_T66 l0 x10_1).f0).length c175_0)) (fun _ hk => hk.2) (.slice A175_1 ((rd_T66 l0 x10_1).f1).length c175_1)) (fun _ hk => ⟨hk.1.1.1, ⟨hk.1.1.2, hk.1.2⟩⟩)⟩, ⟨by refine kq_V ?_; exact Kd.V_mono (Kd.V_far (p := ⟨gb176, 1, none⟩) (Kd.V_far (p := ⟨gb176, 0, none⟩) (Kd.V_mono HO_0.out (fun k_ hk => (⟨hk, hk.2⟩ : _ ∧ k_ ≠ gb176))) (fun _ hk => hk.2) (.slice A175_0 ((rd_T66 l0 x10_1).f0).length c175_0)) (fun _ hk => hk.2) (.slice A175_1 ((rd_T66 l0 x10_1).f1).length c175_1)) (fun _ hk => ⟨hk.1.1.1, ⟨hk.1.1.2, hk.1.2⟩⟩)⟩, ⟨by refine kq_V ?_; exact Kd.V_mono (Kd.V_far (p := ⟨gb176, 1, none⟩) (Kd.V_far (p := ⟨gb176, 0, none⟩) (Kd.V_mono HL175_0.out (fun k_ hk => (⟨hk, hk.2⟩ : _ ∧ k_ ≠ gb176))) (fun _ hk => hk.2) (.slice A175_0 ((rd_T66 l0 x10_1).f0).length c175_0)) (fun _ hk => hk.2) (.slice A175_1 ((rd_T66 l0 x10_1).f1).length c175_1)) (fun _ hk => ⟨hk.1.1.1, ⟨hk.1.1.2, hk.1.2⟩⟩)⟩, ⟨by refine kq_V ?_; exact Kd.V_mono (Kd.V_far (p := ⟨gb176, 1, none⟩) (Kd.V_far (p := ⟨gb176, 0, none⟩) (Kd.V_mono HL175_1.out (fun k_ hk => (⟨hk, hk.2⟩ : _ ∧ k_ ≠ gb176))) (fun _ hk => hk.2) (.slice A175_0 ((rd_T66 l0 x10_1).f0).length c175_0)) (fun _ hk => hk.2) (.slice A175_1 ((rd_T66 l0 x10_1).f1).length c175_1)) (fun _ hk => ⟨hk.1.1.1, ⟨hk.1.1.2, hk.1.2⟩⟩)⟩, ⟨by refine bkq ?_; refine blk_put (cs := #[.slice A175_0 ((rd_T66 l0 x10_1).f0).length c175_0, .slice none 0 0]) ?_ 1 _ rfl; refine bkq ?_; refine blk_put (cs := #[.slice none 0 0, .slice none 0 0]) ?_ 0 _ rfl; refine bkq ?_; exact BK176.out⟩, ⟨hbq HB.out⟩⟩
   clear H'
   try clear c1
   try clear p1
   try clear q1
   try clear hx1
   try clear c2
   try clear c2b0
   try clear p2
   try clear c3
   try clear c3b0
   try clear c4
   try clear c4b0
   try clear hcz6_0
   try clear hcz6_1
   try clear hfz6_0
   try clear hfz6_1
   try clear hx175_0
   try clear hx175_1
   try clear p175
   try clear q175
   obtain ⟨x17_2, rfl, HA, HK2, HO_0, HO_3, HO_8, HO_15, HO_177000, HO_177001, BK176, HB⟩ := hrel
   cases gk with
   | zero => exact absurd HA.out (by simp [basis_least.l1])
   | succ k2 =>
    have H := HA.out
    clear HA
    simp only [basis_least.l1] at H
    by_cases c7 : x17_2 < (l0.length : Int)
    ·rw [if_pos c7] at H
     have c7b0 : decide (x17_2 < (l0.length : Int)) = true := decide_eq_true c7
     clear c7
     by_cases c8 : 0 ≤ x17_2
     case neg => rw [if_neg c8] at H; exact absurd H (by simp)
     rw [if_pos c8] at H
     have c8b0 : decide (0 ≤ x17_2) = true := decide_eq_true c8
     clear c8
     by_cases c9 : x17_2 < (l0.length : Int)
     case neg => rw [if_neg c9] at H; exact absurd H (by simp)
     rw [if_pos c9] at H
     have c9b0 : decide (x17_2 < (l0.length : Int)) = true := decide_eq_true c9
     clear c9
     by_cases c10 : x17_2 = x10_1
     ·rw [if_pos c10] at H
      have c10b0 : (x17_2 == x10_1) = true := beq_iff_eq.mpr c10
      have c10b1 : (x17_2 != x10_1) = false := bne_eq_false_iff_eq.mpr c10
      clear c10
      have H' := Aside0.mk H
      clear H
      have p180 : 0 ≤ (x17_2 : Int) := of_decide_eq_true (by first | (with_reducible assumption) | assumption)
      have q180 : x17_2 < (l0.length : Int) := of_decide_eq_true (by first | (with_reducible assumption) | assumption)
      obtain ⟨ad180, A180_0, c180_0, A180_1, c180_1, e180, hx180_0, hx180_1, hl180_0, hi180_0, hl180_1, hi180_1⟩ := at_T66 (Kd.V_reads' HO_15.out).2.2 x17_2 p180 q180
      obtain rfl : ad175 = ad180 := (by injection e180)
      obtain ⟨ce180, hce180, hMe180, hcc180⟩ := Kd.V_get HO_15.out z66 x17_2 p180 (by first | exact q180 | exact of_decide_eq_true (by first | (with_reducible assumption) | assumption) | (have e_ := (Kd.V_reads' HO_15.out).1; omega))
      obtain ⟨ua180_0, uc180_0, ua180_1, uc180_1, rfl, ul180_0, ge180_0, ul180_1, ge180_1⟩ := k66_openF hMe180
      have hv180_0 := hcc180 0 _ rfl
      rw [Nat.add_zero] at hv180_0
      replace hv180_0 := Option.some.inj (hv180_0.symm.trans hx180_0)
      injection hv180_0 with hva_ hvn_ hvc_
      rw [hva_] at ge180_0
      rw [hvc_] at ul180_0
      have HL180_0 := Aside0.mk (show Kd.V (Kd.int .i64) 3 _ w.heap.size _ _ ((rd_T66 l0 x17_2).f0) from Kd.V_mk ul180_0 ge180_0)
      clear hva_ hvn_ hvc_ ge180_0 ul180_0
      have hv180_1 := hcc180 1 _ rfl
      rw [add_field _ _ 1 (by omega)] at hv180_1
      replace hv180_1 := Option.some.inj (hv180_1.symm.trans hx180_1)
      injection hv180_1 with hva_ hvn_ hvc_
      rw [hva_] at ge180_1
      rw [hvc_] at ul180_1
      have HL180_1 := Aside0.mk (show Kd.V (Kd.int .i64) 3 _ w.heap.size _ _ ((rd_T66 l0 x17_2).f1) from Kd.V_mk ul180_1 ge180_1)
      clear hva_ hvn_ hvc_ ge180_1 ul180_1
      clear hcc180 hce180
      have HR180_0 := Aside0.mk hi180_0
      have HC180_0 := Aside0.mk hl180_0
      clear hi180_0 hl180_0
      have HR180_1 := Aside0.mk hi180_1
      have HC180_1 := Aside0.mk hl180_1
      clear hi180_1 hl180_1
      replace p180 := eq_true p180
      replace q180 := eq_true q180
      go_wp2_with (first | ((with_reducible refine gate_dst (N := 7) rfl ?_); refine box_event ?hg (N := 7) ?hd (cs := #[.slice none 0 0, .slice none 0 0]) (t := 66) ?hr ?_; (case hd => rfl); (case hg => rfl); (case hr => first | (go_simp; done) | (go_simp; rfl)); intro gb181 hg w11 hbox hb; have n0_ := Aside0.mk (Kd.V_below (Kd.V_elderB (kq_V HO_0.out) gb181 (Nat.le_of_eq hg.symm)) hb); have n1_ := Aside0.mk (Kd.N_below (Kd.N_elderB (kq_N HO_3.out) gb181 (Nat.le_of_eq hg.symm)) hb); have n2_ := Aside0.mk (Kd.V_below (Kd.V_elderB (kq_V HO_8.out) gb181 (Nat.le_of_eq hg.symm)) hb); have n3_ := Aside0.mk (Kd.V_below (Kd.V_elderB (kq_V HO_15.out) gb181 (Nat.le_of_eq hg.symm)) hb); have n4_ := Aside0.mk (Kd.V_below (Kd.V_elderB (kq_V HO_177000.out) gb181 (Nat.le_of_eq hg.symm)) hb); have n5_ := Aside0.mk (Kd.V_below (Kd.V_elderB (kq_V HO_177001.out) gb181 (Nat.le_of_eq hg.symm)) hb); have n6_ := Aside0.mk (Kd.V_below (Kd.V_elderB (kq_V HL180_0.out) gb181 (Nat.le_of_eq hg.symm)) hb); have n7_ := Aside0.mk (Kd.V_below (Kd.V_elderB (kq_V HL180_1.out) gb181 (Nat.le_of_eq hg.symm)) hb); have n8_ := Aside0.mk (blk_below (g := gb176) (o := .cells #[.slice A175_0 ((rd_T66 l0 x10_1).f0).length c175_0, .slice A175_1 ((rd_T66 l0 x10_1).f1).length c175_1] 66 (0, 0)) (bkq BK176.out) hb); have n9_ := Aside0.mk (Kd.C_below (by repeat (first | (with_reducible exact HR180_0.out) | (with_reducible refine Kd.C_alloc ?_ _) | (with_reducible refine Kd.C_drewN ?_ _) | (with_reducible refine Kd.C_drew ?_) | exact HR180_0.out)) hb); have n10_ := Aside0.mk (Kd.C_below (by repeat (first | (with_reducible exact HR180_1.out) | (with_reducible refine Kd.C_alloc ?_ _) | (with_reducible refine Kd.C_drewN ?_ _) | (with_reducible refine Kd.C_drew ?_) | exact HR180_1.out)) hb); have n11_ := Aside0.mk (below_step (hbq HB.out) hb); have n12_ := Aside0.mk (hbox); have n13_ := Aside0.mk ((by rw [hg]; exact (below_size (hbq HB.out)) : w.heap.size ≤ gb181)); have n14_ := Aside0.mk ((by rw [hg]; exact (below_size (hbq HB.out)) : w.heap.size ≤ gb181)); have n15_ := Aside0.mk ((by rw [hg]; exact Nat.ne_of_lt (blk_lt (g := gb176) (o := .cells #[.slice A175_0 ((rd_T66 l0 x10_1).f0).length c175_0, .slice A175_1 ((rd_T66 l0 x10_1).f1).length c175_1] 66 (0, 0)) (bkq BK176.out)) : gb176 ≠ gb181)); have n16_ := Aside0.mk ((by rw [hg]; exact Nat.ne_of_gt (blk_lt (g := gb176) (o := .cells #[.slice A175_0 ((rd_T66 l0 x10_1).f0).length c175_0, .slice A175_1 ((rd_T66 l0 x10_1).f1).length c175_1] 66 (0, 0)) (bkq BK176.out)) : gb181 ≠ gb176)); clear HO_0; clear HO_3; clear HO_8; clear HO_15; clear HO_177000; clear HO_177001; clear HL180_0; clear HL180_1; clear BK176; clear HR180_0; clear HR180_1; clear HB; have HO_0 := n0_; have HO_3 := n1_; have HO_8 := n2_; have HO_15 := n3_; have HO_177000 := n4_; have HO_177001 := n5_; have HL180_0 := n6_; have HL180_1 := n7_; have BK176 := n8_; have HR180_0 := n9_; have HR180_1 := n10_; have HB := n11_; have BK181 := n12_; have GW181 := n13_; have GE181 := n14_; have NB176_181 := n15_; have NB181_176 := n16_; clear n0_ n1_ n2_ n3_ n4_ n5_ n6_ n7_ n8_ n9_ n10_ n11_ n12_ n13_ n14_ n15_ n16_; clear hb hbox hg; have hnb12 := NB181_176.out; have hnc12 := NB176_181.out; have hcz13_0 : w11.cell? ⟨gb181, 0, none⟩ = some (.slice none 0 0) := (blk_cell BK181.out 0).trans rfl; have hcz13_1 : w11.cell? ⟨gb181, 1, none⟩ = some (.slice none 0 0) := (blk_cell BK181.out 1).trans rfl; have hfz13_0 := blk_frozen BK181.out 0; have hfz13_1 := blk_frozen BK181.out 1))
      go_roundg k2
      case measure => have := HK1.out; have := HK2.out; omega
      case rel => exact ⟨(wrap64 (x17_2 + 1)), (by first | rfl | (simp; done) | (simp [*]; done)), H', ⟨by have := HK1.out; have := HK2.out; omega⟩, ⟨by refine kq_V ?_; exact Kd.V_mono (Kd.V_far (p := ⟨gb181, 1, none⟩) (Kd.V_far (p := ⟨gb181, 0, none⟩) (Kd.V_mono HO_0.out (fun k_ hk => (⟨hk, hk.2⟩ : _ ∧ k_ ≠ gb181))) (fun _ hk => hk.2) (.slice A180_0 ((rd_T66 l0 x17_2).f0).length c180_0)) (fun _ hk => hk.2) (.slice A180_1 ((rd_T66 l0 x17_2).f1).length c180_1)) (fun _ hk => ⟨hk.1.1.1, ⟨hk.1.1.2.1, hk.1.1.2.2⟩⟩)⟩, ⟨by refine kq_N ?_; exact Kd.N_mono (Kd.N_far (p := ⟨gb181, 1, none⟩) (Kd.N_far (p := ⟨gb181, 0, none⟩) (Kd.N_mono HO_3.out (fun k_ hk => (⟨hk, hk.2⟩ : _ ∧ k_ ≠ gb181))) (fun _ hk => hk.2) (.slice A180_0 ((rd_T66 l0 x17_2).f0).length c180_0)) (fun _ hk => hk.2) (.slice A180_1 ((rd_T66 l0 x17_2).f1).length c180_1)) (fun _ hk => ⟨hk.1.1.1, hk.1.1.2⟩)⟩, ⟨by refine kq_V ?_; exact Kd.V_mono (Kd.V_far (p := ⟨gb181, 1, none⟩) (Kd.V_far (p := ⟨gb181, 0, none⟩) (Kd.V_mono HO_8.out (fun k_ hk => (⟨hk, hk.2⟩ : _ ∧ k_ ≠ gb181))) (fun _ hk => hk.2) (.slice A180_0 ((rd_T66 l0 x17_2).f0).length c180_0)) (fun _ hk => hk.2) (.slice A180_1 ((rd_T66 l0 x17_2).f1).length c180_1)) (fun _ hk => ⟨hk.1.1.1, ⟨hk.1.1.2.1, hk.1.1.2.2⟩⟩)⟩, ⟨by refine kq_V ?_; exact Kd.V_mono (Kd.V_far (p := ⟨gb181, 1, none⟩) (Kd.V_far (p := ⟨gb181, 0, none⟩) (Kd.V_mono HO_15.out (fun k_ hk => (⟨hk, hk.2⟩ : _ ∧ k_ ≠ gb181))) (fun _ hk => hk.2) (.slice A180_0 ((rd_T66 l0 x17_2).f0).length c180_0)) (fun _ hk => hk.2) (.slice A180_1 ((rd_T66 l0 x17_2).f1).length c180_1)) (fun _ hk => ⟨hk.1.1.1, ⟨hk.1.1.2.1, hk.1.1.2.2⟩⟩)⟩, ⟨by refine kq_V ?_; exact Kd.V_mono (Kd.V_far (p := ⟨gb181, 1, none⟩) (Kd.V_far (p := ⟨gb181, 0, none⟩) (Kd.V_mono HO_177000.out (fun k_ hk => (⟨hk, hk.2⟩ : _ ∧ k_ ≠ gb181))) (fun _ hk => hk.2) (.slice A180_0 ((rd_T66 l0 x17_2).f0).length c180_0)) (fun _ hk => hk.2) (.slice A180_1 ((rd_T66 l0 x17_2).f1).length c180_1)) (fun _ hk => ⟨hk.1.1.1, ⟨hk.1.1.2.1, hk.1.1.2.2⟩⟩)⟩, ⟨by refine kq_V ?_; exact Kd.V_mono (Kd.V_far (p := ⟨gb181, 1, none⟩) (Kd.V_far (p := ⟨gb181, 0, none⟩) (Kd.V_mono HO_177001.out (fun k_ hk => (⟨hk, hk.2⟩ : _ ∧ k_ ≠ gb181))) (fun _ hk => hk.2) (.slice A180_0 ((rd_T66 l0 x17_2).f0).length c180_0)) (fun _ hk => hk.2) (.slice A180_1 ((rd_T66 l0 x17_2).f1).length c180_1)) (fun _ hk => ⟨hk.1.1.1, ⟨hk.1.1.2.1, hk.1.1.2.2⟩⟩)⟩, ⟨by refine bkq ?_; refine blk_far ?_ NB176_181.out _; refine bkq ?_; refine blk_far ?_ NB176_181.out _; refine bkq ?_; exact BK176.out⟩, ⟨hbq HB.out⟩⟩
     rw [if_neg c10] at H
     have c10b0 : (x17_2 == x10_1) = false := beq_eq_false_iff_ne.mpr c10
     have c10b1 : (x17_2 != x10_1) = true := bne_iff_ne.mpr c10
     replace H := Option.bind_eq_some_iff.mp H
     obtain ⟨t182, A140, H⟩ := H
     replace H : (if t182 = true then ((basis_within.f k2 ((rd_T66 l0 x10_1).f0) ((rd_T66 l0 x17_2).f0)).bind fun t183 => (if t183 = true then (if x17_2 < x10_1 then (basis_least.l0 k2 l0 x3_1 l0 (l0.length : Int) (wrap64 (x10_1 + 1))) else (basis_least.l1 k2 l0 x3_1 x10_1 l0 (l0.length : Int) x10_1 l0 (l0.length : Int) (wrap64 (x17_2 + 1)) ((rd_T66 l0 x10_1).f0) ((rd_T66 l0 x10_1).f1))) else (basis_least.l0 k2 l0 x3_1 l0 (l0.length : Int) (wrap64 (x10_1 + 1))))) else (basis_least.l1 k2 l0 x3_1 x10_1 l0 (l0.length : Int) x10_1 l0 (l0.length : Int) (wrap64 (x17_2 + 1)) ((rd_T66 l0 x10_1).f0) ((rd_T66 l0 x10_1).f1))) = some r := H
     have A14 := Aside0.mk A140
     clear A140
     by_cases c15 : t182 = true
     ·subst c15
      have H1 : ((basis_within.f k2 ((rd_T66 l0 x10_1).f0) ((rd_T66 l0 x17_2).f0)).bind fun t183 => (if t183 = true then (if x17_2 < x10_1 then (basis_least.l0 k2 l0 x3_1 l0 (l0.length : Int) (wrap64 (x10_1 + 1))) else (basis_least.l1 k2 l0 x3_1 x10_1 l0 (l0.length : Int) x10_1 l0 (l0.length : Int) (wrap64 (x17_2 + 1)) ((rd_T66 l0 x10_1).f0) ((rd_T66 l0 x10_1).f1))) else (basis_least.l0 k2 l0 x3_1 l0 (l0.length : Int) (wrap64 (x10_1 + 1))))) = some r := by rw [if_pos rfl] at H; exact H
      clear H
      have H := H1
      clear H1
      replace H := Option.bind_eq_some_iff.mp H
      obtain ⟨t183, A160, H⟩ := H
      replace H : (if t183 = true then (if x17_2 < x10_1 then (basis_least.l0 k2 l0 x3_1 l0 (l0.length : Int) (wrap64 (x10_1 + 1))) else (basis_least.l1 k2 l0 x3_1 x10_1 l0 (l0.length : Int) x10_1 l0 (l0.length : Int) (wrap64 (x17_2 + 1)) ((rd_T66 l0 x10_1).f0) ((rd_T66 l0 x10_1).f1))) else (basis_least.l0 k2 l0 x3_1 l0 (l0.length : Int) (wrap64 (x10_1 + 1)))) = some r := H
      have A16 := Aside0.mk A160
      clear A160
      by_cases c17 : t183 = true
      ·subst c17
       have H1 : (if x17_2 < x10_1 then (basis_least.l0 k2 l0 x3_1 l0 (l0.length : Int) (wrap64 (x10_1 + 1))) else (basis_least.l1 k2 l0 x3_1 x10_1 l0 (l0.length : Int) x10_1 l0 (l0.length : Int) (wrap64 (x17_2 + 1)) ((rd_T66 l0 x10_1).f0) ((rd_T66 l0 x10_1).f1))) = some r := by rw [if_pos rfl] at H; exact H
       clear H
       have H := H1
       clear H1
       by_cases c18 : x17_2 < x10_1
       ·rw [if_pos c18] at H
        have c18b0 : decide (x17_2 < x10_1) = true := decide_eq_true c18
        clear c18
        have H' := Aside0.mk H
        clear H
        have p180 : 0 ≤ (x17_2 : Int) := of_decide_eq_true (by first | (with_reducible assumption) | assumption)
        have q180 : x17_2 < (l0.length : Int) := of_decide_eq_true (by first | (with_reducible assumption) | assumption)
        obtain ⟨ad180, A180_0, c180_0, A180_1, c180_1, e180, hx180_0, hx180_1, hl180_0, hi180_0, hl180_1, hi180_1⟩ := at_T66 (Kd.V_reads' HO_15.out).2.2 x17_2 p180 q180
        obtain rfl : ad175 = ad180 := (by injection e180)
        obtain ⟨ce180, hce180, hMe180, hcc180⟩ := Kd.V_get HO_15.out z66 x17_2 p180 (by first | exact q180 | exact of_decide_eq_true (by first | (with_reducible assumption) | assumption) | (have e_ := (Kd.V_reads' HO_15.out).1; omega))
        obtain ⟨ua180_0, uc180_0, ua180_1, uc180_1, rfl, ul180_0, ge180_0, ul180_1, ge180_1⟩ := k66_openF hMe180
        have hv180_0 := hcc180 0 _ rfl
        rw [Nat.add_zero] at hv180_0
        replace hv180_0 := Option.some.inj (hv180_0.symm.trans hx180_0)
        injection hv180_0 with hva_ hvn_ hvc_
        rw [hva_] at ge180_0
        rw [hvc_] at ul180_0
        have HL180_0 := Aside0.mk (show Kd.V (Kd.int .i64) 3 _ w.heap.size _ _ ((rd_T66 l0 x17_2).f0) from Kd.V_mk ul180_0 ge180_0)
        clear hva_ hvn_ hvc_ ge180_0 ul180_0
        have hv180_1 := hcc180 1 _ rfl
        rw [add_field _ _ 1 (by omega)] at hv180_1
        replace hv180_1 := Option.some.inj (hv180_1.symm.trans hx180_1)
        injection hv180_1 with hva_ hvn_ hvc_
        rw [hva_] at ge180_1
        rw [hvc_] at ul180_1
        have HL180_1 := Aside0.mk (show Kd.V (Kd.int .i64) 3 _ w.heap.size _ _ ((rd_T66 l0 x17_2).f1) from Kd.V_mk ul180_1 ge180_1)
        clear hva_ hvn_ hvc_ ge180_1 ul180_1
        clear hcc180 hce180
        have HR180_0 := Aside0.mk hi180_0
        have HC180_0 := Aside0.mk hl180_0
        clear hi180_0 hl180_0
        have HR180_1 := Aside0.mk hi180_1
        have HC180_1 := Aside0.mk hl180_1
        clear hi180_1 hl180_1
        replace p180 := eq_true p180
        replace q180 := eq_true q180
        go_wp2_with (first | ((with_reducible refine gate_dst (N := 7) rfl ?_); refine box_event ?hg (N := 7) ?hd (cs := #[.slice none 0 0, .slice none 0 0]) (t := 66) ?hr ?_; (case hd => rfl); (case hg => rfl); (case hr => first | (go_simp; done) | (go_simp; rfl)); intro gb181 hg w19 hbox hb; have n0_ := Aside0.mk (Kd.V_below (Kd.V_elderB (kq_V HO_0.out) gb181 (Nat.le_of_eq hg.symm)) hb); have n1_ := Aside0.mk (Kd.N_below (Kd.N_elderB (kq_N HO_3.out) gb181 (Nat.le_of_eq hg.symm)) hb); have n2_ := Aside0.mk (Kd.V_below (Kd.V_elderB (kq_V HO_8.out) gb181 (Nat.le_of_eq hg.symm)) hb); have n3_ := Aside0.mk (Kd.V_below (Kd.V_elderB (kq_V HO_15.out) gb181 (Nat.le_of_eq hg.symm)) hb); have n4_ := Aside0.mk (Kd.V_below (Kd.V_elderB (kq_V HO_177000.out) gb181 (Nat.le_of_eq hg.symm)) hb); have n5_ := Aside0.mk (Kd.V_below (Kd.V_elderB (kq_V HO_177001.out) gb181 (Nat.le_of_eq hg.symm)) hb); have n6_ := Aside0.mk (Kd.V_below (Kd.V_elderB (kq_V HL180_0.out) gb181 (Nat.le_of_eq hg.symm)) hb); have n7_ := Aside0.mk (Kd.V_below (Kd.V_elderB (kq_V HL180_1.out) gb181 (Nat.le_of_eq hg.symm)) hb); have n8_ := Aside0.mk (blk_below (g := gb176) (o := .cells #[.slice A175_0 ((rd_T66 l0 x10_1).f0).length c175_0, .slice A175_1 ((rd_T66 l0 x10_1).f1).length c175_1] 66 (0, 0)) (bkq BK176.out) hb); have n9_ := Aside0.mk (Kd.C_below (by repeat (first | (with_reducible exact HR180_0.out) | (with_reducible refine Kd.C_alloc ?_ _) | (with_reducible refine Kd.C_drewN ?_ _) | (with_reducible refine Kd.C_drew ?_) | exact HR180_0.out)) hb); have n10_ := Aside0.mk (Kd.C_below (by repeat (first | (with_reducible exact HR180_1.out) | (with_reducible refine Kd.C_alloc ?_ _) | (with_reducible refine Kd.C_drewN ?_ _) | (with_reducible refine Kd.C_drew ?_) | exact HR180_1.out)) hb); have n11_ := Aside0.mk (below_step (hbq HB.out) hb); have n12_ := Aside0.mk (hbox); have n13_ := Aside0.mk ((by rw [hg]; exact (below_size (hbq HB.out)) : w.heap.size ≤ gb181)); have n14_ := Aside0.mk ((by rw [hg]; exact (below_size (hbq HB.out)) : w.heap.size ≤ gb181)); have n15_ := Aside0.mk ((by rw [hg]; exact Nat.ne_of_lt (blk_lt (g := gb176) (o := .cells #[.slice A175_0 ((rd_T66 l0 x10_1).f0).length c175_0, .slice A175_1 ((rd_T66 l0 x10_1).f1).length c175_1] 66 (0, 0)) (bkq BK176.out)) : gb176 ≠ gb181)); have n16_ := Aside0.mk ((by rw [hg]; exact Nat.ne_of_gt (blk_lt (g := gb176) (o := .cells #[.slice A175_0 ((rd_T66 l0 x10_1).f0).length c175_0, .slice A175_1 ((rd_T66 l0 x10_1).f1).length c175_1] 66 (0, 0)) (bkq BK176.out)) : gb181 ≠ gb176)); clear HO_0; clear HO_3; clear HO_8; clear HO_15; clear HO_177000; clear HO_177001; clear HL180_0; clear HL180_1; clear BK176; clear HR180_0; clear HR180_1; clear HB; have HO_0 := n0_; have HO_3 := n1_; have HO_8 := n2_; have HO_15 := n3_; have HO_177000 := n4_; have HO_177001 := n5_; have HL180_0 := n6_; have HL180_1 := n7_; have BK176 := n8_; have HR180_0 := n9_; have HR180_1 := n10_; have HB := n11_; have BK181 := n12_; have GW181 := n13_; have GE181 := n14_; have NB176_181 := n15_; have NB181_176 := n16_; clear n0_ n1_ n2_ n3_ n4_ n5_ n6_ n7_ n8_ n9_ n10_ n11_ n12_ n13_ n14_ n15_ n16_; clear hb hbox hg; have hnb20 := NB181_176.out; have hnc20 := NB176_181.out; have hcz21_0 : w19.cell? ⟨gb181, 0, none⟩ = some (.slice none 0 0) := (blk_cell BK181.out 0).trans rfl; have hcz21_1 : w19.cell? ⟨gb181, 1, none⟩ = some (.slice none 0 0) := (blk_cell BK181.out 1).trans rfl; have hfz21_0 := blk_frozen BK181.out 0; have hfz21_1 := blk_frozen BK181.out 1; have hcz22_0 : w19.cell? ⟨gb176, 0, none⟩ = some (.slice A175_0 ((rd_T66 l0 x10_1).f0).length c175_0) := (blk_cell BK176.out 0).trans rfl; have hcz22_1 : w19.cell? ⟨gb176, 1, none⟩ = some (.slice A175_1 ((rd_T66 l0 x10_1).f1).length c175_1) := (blk_cell BK176.out 1).trans rfl; have hfz22_0 := blk_frozen BK176.out 0; have hfz22_1 := blk_frozen BK176.out 1) | (go_at_call 42; (with_reducible refine (basis_within.calls k2 _ _ ((rd_T66 l0 x17_2).f0) _ _ ((rd_T66 l0 x10_1).f0) true _ ?side1 ?side2 ?side3 ?side4 A14.out).mono ?_); (case side1 => refine (Kd.V_reads' (e := 3) (base := w.heap.size) (ok := fun k_ => (((P0_ k_ ∨ w.heap.size ≤ k_) ∧ (some k_ ≠ (u3 : Value).ownBlock ∧ k_ ≠ gb176)) ∧ k_ ≠ gb181)) (n := ((rd_T66 l0 x17_2).f0).length) (c := c180_0) ?_).2.2; exact (by refine kq_V ?_; exact (Kd.V_mono (Kd.V_far (p := ⟨gb181, 1, none⟩) (Kd.V_far (p := ⟨gb181, 0, none⟩) (Kd.V_mono HL180_0.out (fun k_ hk => (⟨hk, hk.2⟩ : _ ∧ k_ ≠ gb181))) (fun _ hk => hk.2) (.slice A180_0 ((rd_T66 l0 x17_2).f0).length c180_0)) (fun _ hk => hk.2) (.slice A180_1 ((rd_T66 l0 x17_2).f1).length c180_1)) (fun _ h_ => h_.1)))); (case side2 => exact (Kd.V_reads' HL180_0.out).2.1); (case side3 => refine (Kd.V_reads' (e := 3) (base := w.heap.size) (ok := fun k_ => (((P0_ k_ ∨ w.heap.size ≤ k_) ∧ (some k_ ≠ (u3 : Value).ownBlock ∧ k_ ≠ gb176)) ∧ k_ ≠ gb181)) (n := ((rd_T66 l0 x10_1).f0).length) (c := c175_0) ?_).2.2; exact (by refine kq_V ?_; exact (Kd.V_mono (Kd.V_far (p := ⟨gb181, 1, none⟩) (Kd.V_far (p := ⟨gb181, 0, none⟩) (Kd.V_mono HO_177000.out (fun k_ hk => (⟨hk, hk.2⟩ : _ ∧ k_ ≠ gb181))) (fun _ hk => hk.2) (.slice A180_0 ((rd_T66 l0 x17_2).f0).length c180_0)) (fun _ hk => hk.2) (.slice A180_1 ((rd_T66 l0 x17_2).f1).length c180_1)) (fun _ h_ => h_.1)))); (case side4 => exact (Kd.V_reads' HO_177000.out).2.1); rintro e w' ⟨rfl, ⟨nd, rfl⟩⟩) | (go_at_call 42; (with_reducible refine (basis_within.calls k2 _ _ ((rd_T66 l0 x10_1).f0) _ _ ((rd_T66 l0 x17_2).f0) true _ ?side1 ?side2 ?side3 ?side4 A16.out).mono ?_); (case side1 => refine (Kd.V_reads' (e := 3) (base := w.heap.size) (ok := fun k_ => (((P0_ k_ ∨ w.heap.size ≤ k_) ∧ (some k_ ≠ (u3 : Value).ownBlock ∧ k_ ≠ gb176)) ∧ k_ ≠ gb181)) (n := ((rd_T66 l0 x10_1).f0).length) (c := c175_0) ?_).2.2; exact (by refine kq_V ?_; exact (Kd.V_mono (Kd.V_far (p := ⟨gb181, 1, none⟩) (Kd.V_far (p := ⟨gb181, 0, none⟩) (Kd.V_mono HO_177000.out (fun k_ hk => (⟨hk, hk.2⟩ : _ ∧ k_ ≠ gb181))) (fun _ hk => hk.2) (.slice A180_0 ((rd_T66 l0 x17_2).f0).length c180_0)) (fun _ hk => hk.2) (.slice A180_1 ((rd_T66 l0 x17_2).f1).length c180_1)) (fun _ h_ => h_.1)))); (case side2 => exact (Kd.V_reads' HO_177000.out).2.1); (case side3 => refine (Kd.V_reads' (e := 3) (base := w.heap.size) (ok := fun k_ => (((P0_ k_ ∨ w.heap.size ≤ k_) ∧ (some k_ ≠ (u3 : Value).ownBlock ∧ k_ ≠ gb176)) ∧ k_ ≠ gb181)) (n := ((rd_T66 l0 x17_2).f0).length) (c := c180_0) ?_).2.2; exact (by refine kq_V ?_; exact (Kd.V_mono (Kd.V_far (p := ⟨gb181, 1, none⟩) (Kd.V_far (p := ⟨gb181, 0, none⟩) (Kd.V_mono HL180_0.out (fun k_ hk => (⟨hk, hk.2⟩ : _ ∧ k_ ≠ gb181))) (fun _ hk => hk.2) (.slice A180_0 ((rd_T66 l0 x17_2).f0).length c180_0)) (fun _ hk => hk.2) (.slice A180_1 ((rd_T66 l0 x17_2).f1).length c180_1)) (fun _ h_ => h_.1)))); (case side4 => exact (Kd.V_reads' HL180_0.out).2.1); rintro e w' ⟨rfl, ⟨nd, rfl⟩⟩))
        go_roundg k2
        case measure => have := HK1.out; have := HK2.out; omega
        case rel => exact ⟨(x3_1), (wrap64 (x10_1 + 1)), (by first | rfl | (simp; done) | (simp [*]; done)), H', ⟨by have := HK1.out; have := HK2.out; omega⟩, ⟨by refine kq_V ?_; exact Kd.V_mono (Kd.V_far (p := ⟨gb181, 1, none⟩) (Kd.V_far (p := ⟨gb181, 0, none⟩) (Kd.V_mono HO_0.out (fun k_ hk => (⟨hk, hk.2⟩ : _ ∧ k_ ≠ gb181))) (fun _ hk => hk.2) (.slice A180_0 ((rd_T66 l0 x17_2).f0).length c180_0)) (fun _ hk => hk.2) (.slice A180_1 ((rd_T66 l0 x17_2).f1).length c180_1)) (fun _ hk => ⟨hk.1.1.1, hk.1.1.2.1⟩)⟩, ⟨by refine kq_N ?_; exact Kd.N_mono (Kd.N_far (p := ⟨gb181, 1, none⟩) (Kd.N_far (p := ⟨gb181, 0, none⟩) (Kd.N_mono HO_3.out (fun k_ hk => (⟨hk, hk.2⟩ : _ ∧ k_ ≠ gb181))) (fun _ hk => hk.2) (.slice A180_0 ((rd_T66 l0 x17_2).f0).length c180_0)) (fun _ hk => hk.2) (.slice A180_1 ((rd_T66 l0 x17_2).f1).length c180_1)) (fun _ hk => hk.1.1.1)⟩, ⟨by refine kq_V ?_; exact Kd.V_mono (Kd.V_far (p := ⟨gb181, 1, none⟩) (Kd.V_far (p := ⟨gb181, 0, none⟩) (Kd.V_mono HO_8.out (fun k_ hk => (⟨hk, hk.2⟩ : _ ∧ k_ ≠ gb181))) (fun _ hk => hk.2) (.slice A180_0 ((rd_T66 l0 x17_2).f0).length c180_0)) (fun _ hk => hk.2) (.slice A180_1 ((rd_T66 l0 x17_2).f1).length c180_1)) (fun _ hk => ⟨hk.1.1.1, hk.1.1.2.1⟩)⟩, ⟨hbq HB.out⟩⟩
       rw [if_neg c18] at H
       have c18b0 : decide (x17_2 < x10_1) = false := decide_eq_false c18
       clear c18
       have H' := Aside0.mk H
       clear H
       have p180 : 0 ≤ (x17_2 : Int) := of_decide_eq_true (by first | (with_reducible assumption) | assumption)
       have q180 : x17_2 < (l0.length : Int) := of_decide_eq_true (by first | (with_reducible assumption) | assumption)
       obtain ⟨ad180, A180_0, c180_0, A180_1, c180_1, e180, hx180_0, hx180_1, hl180_0, hi180_0, hl180_1, hi180_1⟩ := at_T66 (Kd.V_reads' HO_15.out).2.2 x17_2 p180 q180
       obtain rfl : ad175 = ad180 := (by injection e180)
       obtain ⟨ce180, hce180, hMe180, hcc180⟩ := Kd.V_get HO_15.out z66 x17_2 p180 (by first | exact q180 | exact of_decide_eq_true (by first | (with_reducible assumption) | assumption) | (have e_ := (Kd.V_reads' HO_15.out).1; omega))
       obtain ⟨ua180_0, uc180_0, ua180_1, uc180_1, rfl, ul180_0, ge180_0, ul180_1, ge180_1⟩ := k66_openF hMe180
       have hv180_0 := hcc180 0 _ rfl
       rw [Nat.add_zero] at hv180_0
       replace hv180_0 := Option.some.inj (hv180_0.symm.trans hx180_0)
       injection hv180_0 with hva_ hvn_ hvc_
       rw [hva_] at ge180_0
       rw [hvc_] at ul180_0
       have HL180_0 := Aside0.mk (show Kd.V (Kd.int .i64) 3 _ w.heap.size _ _ ((rd_T66 l0 x17_2).f0) from Kd.V_mk ul180_0 ge180_0)
       clear hva_ hvn_ hvc_ ge180_0 ul180_0
       have hv180_1 := hcc180 1 _ rfl
       rw [add_field _ _ 1 (by omega)] at hv180_1
       replace hv180_1 := Option.some.inj (hv180_1.symm.trans hx180_1)
       injection hv180_1 with hva_ hvn_ hvc_
       rw [hva_] at ge180_1
       rw [hvc_] at ul180_1
       have HL180_1 := Aside0.mk (show Kd.V (Kd.int .i64) 3 _ w.heap.size _ _ ((rd_T66 l0 x17_2).f1) from Kd.V_mk ul180_1 ge180_1)
       clear hva_ hvn_ hvc_ ge180_1 ul180_1
       clear hcc180 hce180
       have HR180_0 := Aside0.mk hi180_0
       have HC180_0 := Aside0.mk hl180_0
       clear hi180_0 hl180_0
       have HR180_1 := Aside0.mk hi180_1
       have HC180_1 := Aside0.mk hl180_1
       clear hi180_1 hl180_1
       replace p180 := eq_true p180
       replace q180 := eq_true q180
       go_wp2_with (first | ((with_reducible refine gate_dst (N := 7) rfl ?_); refine box_event ?hg (N := 7) ?hd (cs := #[.slice none 0 0, .slice none 0 0]) (t := 66) ?hr ?_; (case hd => rfl); (case hg => rfl); (case hr => first | (go_simp; done) | (go_simp; rfl)); intro gb181 hg w23 hbox hb; have n0_ := Aside0.mk (Kd.V_below (Kd.V_elderB (kq_V HO_0.out) gb181 (Nat.le_of_eq hg.symm)) hb); have n1_ := Aside0.mk (Kd.N_below (Kd.N_elderB (kq_N HO_3.out) gb181 (Nat.le_of_eq hg.symm)) hb); have n2_ := Aside0.mk (Kd.V_below (Kd.V_elderB (kq_V HO_8.out) gb181 (Nat.le_of_eq hg.symm)) hb); have n3_ := Aside0.mk (Kd.V_below (Kd.V_elderB (kq_V HO_15.out) gb181 (Nat.le_of_eq hg.symm)) hb); have n4_ := Aside0.mk (Kd.V_below (Kd.V_elderB (kq_V HO_177000.out) gb181 (Nat.le_of_eq hg.symm)) hb); have n5_ := Aside0.mk (Kd.V_below (Kd.V_elderB (kq_V HO_177001.out) gb181 (Nat.le_of_eq hg.symm)) hb); have n6_ := Aside0.mk (Kd.V_below (Kd.V_elderB (kq_V HL180_0.out) gb181 (Nat.le_of_eq hg.symm)) hb); have n7_ := Aside0.mk (Kd.V_below (Kd.V_elderB (kq_V HL180_1.out) gb181 (Nat.le_of_eq hg.symm)) hb); have n8_ := Aside0.mk (blk_below (g := gb176) (o := .cells #[.slice A175_0 ((rd_T66 l0 x10_1).f0).length c175_0, .slice A175_1 ((rd_T66 l0 x10_1).f1).length c175_1] 66 (0, 0)) (bkq BK176.out) hb); have n9_ := Aside0.mk (Kd.C_below (by repeat (first | (with_reducible exact HR180_0.out) | (with_reducible refine Kd.C_alloc ?_ _) | (with_reducible refine Kd.C_drewN ?_ _) | (with_reducible refine Kd.C_drew ?_) | exact HR180_0.out)) hb); have n10_ := Aside0.mk (Kd.C_below (by repeat (first | (with_reducible exact HR180_1.out) | (with_reducible refine Kd.C_alloc ?_ _) | (with_reducible refine Kd.C_drewN ?_ _) | (with_reducible refine Kd.C_drew ?_) | exact HR180_1.out)) hb); have n11_ := Aside0.mk (below_step (hbq HB.out) hb); have n12_ := Aside0.mk (hbox); have n13_ := Aside0.mk ((by rw [hg]; exact (below_size (hbq HB.out)) : w.heap.size ≤ gb181)); have n14_ := Aside0.mk ((by rw [hg]; exact (below_size (hbq HB.out)) : w.heap.size ≤ gb181)); have n15_ := Aside0.mk ((by rw [hg]; exact Nat.ne_of_lt (blk_lt (g := gb176) (o := .cells #[.slice A175_0 ((rd_T66 l0 x10_1).f0).length c175_0, .slice A175_1 ((rd_T66 l0 x10_1).f1).length c175_1] 66 (0, 0)) (bkq BK176.out)) : gb176 ≠ gb181)); have n16_ := Aside0.mk ((by rw [hg]; exact Nat.ne_of_gt (blk_lt (g := gb176) (o := .cells #[.slice A175_0 ((rd_T66 l0 x10_1).f0).length c175_0, .slice A175_1 ((rd_T66 l0 x10_1).f1).length c175_1] 66 (0, 0)) (bkq BK176.out)) : gb181 ≠ gb176)); clear HO_0; clear HO_3; clear HO_8; clear HO_15; clear HO_177000; clear HO_177001; clear HL180_0; clear HL180_1; clear BK176; clear HR180_0; clear HR180_1; clear HB; have HO_0 := n0_; have HO_3 := n1_; have HO_8 := n2_; have HO_15 := n3_; have HO_177000 := n4_; have HO_177001 := n5_; have HL180_0 := n6_; have HL180_1 := n7_; have BK176 := n8_; have HR180_0 := n9_; have HR180_1 := n10_; have HB := n11_; have BK181 := n12_; have GW181 := n13_; have GE181 := n14_; have NB176_181 := n15_; have NB181_176 := n16_; clear n0_ n1_ n2_ n3_ n4_ n5_ n6_ n7_ n8_ n9_ n10_ n11_ n12_ n13_ n14_ n15_ n16_; clear hb hbox hg; have hnb24 := NB181_176.out; have hnc24 := NB176_181.out; have hcz25_0 : w23.cell? ⟨gb181, 0, none⟩ = some (.slice none 0 0) := (blk_cell BK181.out 0).trans rfl; have hcz25_1 : w23.cell? ⟨gb181, 1, none⟩ = some (.slice none 0 0) := (blk_cell BK181.out 1).trans rfl; have hfz25_0 := blk_frozen BK181.out 0; have hfz25_1 := blk_frozen BK181.out 1; have hcz26_0 : w23.cell? ⟨gb176, 0, none⟩ = some (.slice A175_0 ((rd_T66 l0 x10_1).f0).length c175_0) := (blk_cell BK176.out 0).trans rfl; have hcz26_1 : w23.cell? ⟨gb176, 1, none⟩ = some (.slice A175_1 ((rd_T66 l0 x10_1).f1).length c175_1) := (blk_cell BK176.out 1).trans rfl; have hfz26_0 := blk_frozen BK176.out 0; have hfz26_1 := blk_frozen BK176.out 1) | (go_at_call 42; (with_reducible refine (basis_within.calls k2 _ _ ((rd_T66 l0 x17_2).f0) _ _ ((rd_T66 l0 x10_1).f0) true _ ?side1 ?side2 ?side3 ?side4 A14.out).mono ?_); (case side1 => refine (Kd.V_reads' (e := 3) (base := w.heap.size) (ok := fun k_ => (((P0_ k_ ∨ w.heap.size ≤ k_) ∧ (some k_ ≠ (u3 : Value).ownBlock ∧ k_ ≠ gb176)) ∧ k_ ≠ gb181)) (n := ((rd_T66 l0 x17_2).f0).length) (c := c180_0) ?_).2.2; exact (by refine kq_V ?_; exact (Kd.V_mono (Kd.V_far (p := ⟨gb181, 1, none⟩) (Kd.V_far (p := ⟨gb181, 0, none⟩) (Kd.V_mono HL180_0.out (fun k_ hk => (⟨hk, hk.2⟩ : _ ∧ k_ ≠ gb181))) (fun _ hk => hk.2) (.slice A180_0 ((rd_T66 l0 x17_2).f0).length c180_0)) (fun _ hk => hk.2) (.slice A180_1 ((rd_T66 l0 x17_2).f1).length c180_1)) (fun _ h_ => h_.1)))); (case side2 => exact (Kd.V_reads' HL180_0.out).2.1); (case side3 => refine (Kd.V_reads' (e := 3) (base := w.heap.size) (ok := fun k_ => (((P0_ k_ ∨ w.heap.size ≤ k_) ∧ (some k_ ≠ (u3 : Value).ownBlock ∧ k_ ≠ gb176)) ∧ k_ ≠ gb181)) (n := ((rd_T66 l0 x10_1).f0).length) (c := c175_0) ?_).2.2; exact (by refine kq_V ?_; exact (Kd.V_mono (Kd.V_far (p := ⟨gb181, 1, none⟩) (Kd.V_far (p := ⟨gb181, 0, none⟩) (Kd.V_mono HO_177000.out (fun k_ hk => (⟨hk, hk.2⟩ : _ ∧ k_ ≠ gb181))) (fun _ hk => hk.2) (.slice A180_0 ((rd_T66 l0 x17_2).f0).length c180_0)) (fun _ hk => hk.2) (.slice A180_1 ((rd_T66 l0 x17_2).f1).length c180_1)) (fun _ h_ => h_.1)))); (case side4 => exact (Kd.V_reads' HO_177000.out).2.1); rintro e w' ⟨rfl, ⟨nd, rfl⟩⟩) | (go_at_call 42; (with_reducible refine (basis_within.calls k2 _ _ ((rd_T66 l0 x10_1).f0) _ _ ((rd_T66 l0 x17_2).f0) true _ ?side1 ?side2 ?side3 ?side4 A16.out).mono ?_); (case side1 => refine (Kd.V_reads' (e := 3) (base := w.heap.size) (ok := fun k_ => (((P0_ k_ ∨ w.heap.size ≤ k_) ∧ (some k_ ≠ (u3 : Value).ownBlock ∧ k_ ≠ gb176)) ∧ k_ ≠ gb181)) (n := ((rd_T66 l0 x10_1).f0).length) (c := c175_0) ?_).2.2; exact (by refine kq_V ?_; exact (Kd.V_mono (Kd.V_far (p := ⟨gb181, 1, none⟩) (Kd.V_far (p := ⟨gb181, 0, none⟩) (Kd.V_mono HO_177000.out (fun k_ hk => (⟨hk, hk.2⟩ : _ ∧ k_ ≠ gb181))) (fun _ hk => hk.2) (.slice A180_0 ((rd_T66 l0 x17_2).f0).length c180_0)) (fun _ hk => hk.2) (.slice A180_1 ((rd_T66 l0 x17_2).f1).length c180_1)) (fun _ h_ => h_.1)))); (case side2 => exact (Kd.V_reads' HO_177000.out).2.1); (case side3 => refine (Kd.V_reads' (e := 3) (base := w.heap.size) (ok := fun k_ => (((P0_ k_ ∨ w.heap.size ≤ k_) ∧ (some k_ ≠ (u3 : Value).ownBlock ∧ k_ ≠ gb176)) ∧ k_ ≠ gb181)) (n := ((rd_T66 l0 x17_2).f0).length) (c := c180_0) ?_).2.2; exact (by refine kq_V ?_; exact (Kd.V_mono (Kd.V_far (p := ⟨gb181, 1, none⟩) (Kd.V_far (p := ⟨gb181, 0, none⟩) (Kd.V_mono HL180_0.out (fun k_ hk => (⟨hk, hk.2⟩ : _ ∧ k_ ≠ gb181))) (fun _ hk => hk.2) (.slice A180_0 ((rd_T66 l0 x17_2).f0).length c180_0)) (fun _ hk => hk.2) (.slice A180_1 ((rd_T66 l0 x17_2).f1).length c180_1)) (fun _ h_ => h_.1)))); (case side4 => exact (Kd.V_reads' HL180_0.out).2.1); rintro e w' ⟨rfl, ⟨nd, rfl⟩⟩))
       go_roundg k2
       case measure => have := HK1.out; have := HK2.out; omega
       case rel => exact ⟨(wrap64 (x17_2 + 1)), (by first | rfl | (simp; done) | (simp [*]; done)), H', ⟨by have := HK1.out; have := HK2.out; omega⟩, ⟨by refine kq_V ?_; exact Kd.V_mono (Kd.V_far (p := ⟨gb181, 1, none⟩) (Kd.V_far (p := ⟨gb181, 0, none⟩) (Kd.V_mono HO_0.out (fun k_ hk => (⟨hk, hk.2⟩ : _ ∧ k_ ≠ gb181))) (fun _ hk => hk.2) (.slice A180_0 ((rd_T66 l0 x17_2).f0).length c180_0)) (fun _ hk => hk.2) (.slice A180_1 ((rd_T66 l0 x17_2).f1).length c180_1)) (fun _ hk => ⟨hk.1.1.1, ⟨hk.1.1.2.1, hk.1.1.2.2⟩⟩)⟩, ⟨by refine kq_N ?_; exact Kd.N_mono (Kd.N_far (p := ⟨gb181, 1, none⟩) (Kd.N_far (p := ⟨gb181, 0, none⟩) (Kd.N_mono HO_3.out (fun k_ hk => (⟨hk, hk.2⟩ : _ ∧ k_ ≠ gb181))) (fun _ hk => hk.2) (.slice A180_0 ((rd_T66 l0 x17_2).f0).length c180_0)) (fun _ hk => hk.2) (.slice A180_1 ((rd_T66 l0 x17_2).f1).length c180_1)) (fun _ hk => ⟨hk.1.1.1, hk.1.1.2⟩)⟩, ⟨by refine kq_V ?_; exact Kd.V_mono (Kd.V_far (p := ⟨gb181, 1, none⟩) (Kd.V_far (p := ⟨gb181, 0, none⟩) (Kd.V_mono HO_8.out (fun k_ hk => (⟨hk, hk.2⟩ : _ ∧ k_ ≠ gb181))) (fun _ hk => hk.2) (.slice A180_0 ((rd_T66 l0 x17_2).f0).length c180_0)) (fun _ hk => hk.2) (.slice A180_1 ((rd_T66 l0 x17_2).f1).length c180_1)) (fun _ hk => ⟨hk.1.1.1, ⟨hk.1.1.2.1, hk.1.1.2.2⟩⟩)⟩, ⟨by refine kq_V ?_; exact Kd.V_mono (Kd.V_far (p := ⟨gb181, 1, none⟩) (Kd.V_far (p := ⟨gb181, 0, none⟩) (Kd.V_mono HO_15.out (fun k_ hk => (⟨hk, hk.2⟩ : _ ∧ k_ ≠ gb181))) (fun _ hk => hk.2) (.slice A180_0 ((rd_T66 l0 x17_2).f0).length c180_0)) (fun _ hk => hk.2) (.slice A180_1 ((rd_T66 l0 x17_2).f1).length c180_1)) (fun _ hk => ⟨hk.1.1.1, ⟨hk.1.1.2.1, hk.1.1.2.2⟩⟩)⟩, ⟨by refine kq_V ?_; exact Kd.V_mono (Kd.V_far (p := ⟨gb181, 1, none⟩) (Kd.V_far (p := ⟨gb181, 0, none⟩) (Kd.V_mono HO_177000.out (fun k_ hk => (⟨hk, hk.2⟩ : _ ∧ k_ ≠ gb181))) (fun _ hk => hk.2) (.slice A180_0 ((rd_T66 l0 x17_2).f0).length c180_0)) (fun _ hk => hk.2) (.slice A180_1 ((rd_T66 l0 x17_2).f1).length c180_1)) (fun _ hk => ⟨hk.1.1.1, ⟨hk.1.1.2.1, hk.1.1.2.2⟩⟩)⟩, ⟨by refine kq_V ?_; exact Kd.V_mono (Kd.V_far (p := ⟨gb181, 1, none⟩) (Kd.V_far (p := ⟨gb181, 0, none⟩) (Kd.V_mono HO_177001.out (fun k_ hk => (⟨hk, hk.2⟩ : _ ∧ k_ ≠ gb181))) (fun _ hk => hk.2) (.slice A180_0 ((rd_T66 l0 x17_2).f0).length c180_0)) (fun _ hk => hk.2) (.slice A180_1 ((rd_T66 l0 x17_2).f1).length c180_1)) (fun _ hk => ⟨hk.1.1.1, ⟨hk.1.1.2.1, hk.1.1.2.2⟩⟩)⟩, ⟨by refine bkq ?_; refine blk_far ?_ NB176_181.out _; refine bkq ?_; refine blk_far ?_ NB176_181.out _; refine bkq ?_; exact BK176.out⟩, ⟨hbq HB.out⟩⟩
      replace c17 := Bool.eq_false_iff.mpr c17
      subst c17
      have H1 : (basis_least.l0 k2 l0 x3_1 l0 (l0.length : Int) (wrap64 (x10_1 + 1))) = some r := by rw [if_neg (show ¬ (false = true) by decide)] at H; exact H
      clear H
      have H := H1
      clear H1
      have H' := Aside0.mk H
      clear H
      have p180 : 0 ≤ (x17_2 : Int) := of_decide_eq_true (by first | (with_reducible assumption) | assumption)
      have q180 : x17_2 < (l0.length : Int) := of_decide_eq_true (by first | (with_reducible assumption) | assumption)
      obtain ⟨ad180, A180_0, c180_0, A180_1, c180_1, e180, hx180_0, hx180_1, hl180_0, hi180_0, hl180_1, hi180_1⟩ := at_T66 (Kd.V_reads' HO_15.out).2.2 x17_2 p180 q180
      obtain rfl : ad175 = ad180 := (by injection e180)
      obtain ⟨ce180, hce180, hMe180, hcc180⟩ := Kd.V_get HO_15.out z66 x17_2 p180 (by first | exact q180 | exact of_decide_eq_true (by first | (with_reducible assumption) | assumption) | (have e_ := (Kd.V_reads' HO_15.out).1; omega))
      obtain ⟨ua180_0, uc180_0, ua180_1, uc180_1, rfl, ul180_0, ge180_0, ul180_1, ge180_1⟩ := k66_openF hMe180
      have hv180_0 := hcc180 0 _ rfl
      rw [Nat.add_zero] at hv180_0
      replace hv180_0 := Option.some.inj (hv180_0.symm.trans hx180_0)
      injection hv180_0 with hva_ hvn_ hvc_
      rw [hva_] at ge180_0
      rw [hvc_] at ul180_0
      have HL180_0 := Aside0.mk (show Kd.V (Kd.int .i64) 3 _ w.heap.size _ _ ((rd_T66 l0 x17_2).f0) from Kd.V_mk ul180_0 ge180_0)
      clear hva_ hvn_ hvc_ ge180_0 ul180_0
      have hv180_1 := hcc180 1 _ rfl
      rw [add_field _ _ 1 (by omega)] at hv180_1
      replace hv180_1 := Option.some.inj (hv180_1.symm.trans hx180_1)
      injection hv180_1 with hva_ hvn_ hvc_
      rw [hva_] at ge180_1
      rw [hvc_] at ul180_1
      have HL180_1 := Aside0.mk (show Kd.V (Kd.int .i64) 3 _ w.heap.size _ _ ((rd_T66 l0 x17_2).f1) from Kd.V_mk ul180_1 ge180_1)
      clear hva_ hvn_ hvc_ ge180_1 ul180_1
      clear hcc180 hce180
      have HR180_0 := Aside0.mk hi180_0
      have HC180_0 := Aside0.mk hl180_0
      clear hi180_0 hl180_0
      have HR180_1 := Aside0.mk hi180_1
      have HC180_1 := Aside0.mk hl180_1
      clear hi180_1 hl180_1
      replace p180 := eq_true p180
      replace q180 := eq_true q180
      go_wp2_with (first | ((with_reducible refine gate_dst (N := 7) rfl ?_); refine box_event ?hg (N := 7) ?hd (cs := #[.slice none 0 0, .slice none 0 0]) (t := 66) ?hr ?_; (case hd => rfl); (case hg => rfl); (case hr => first | (go_simp; done) | (go_simp; rfl)); intro gb181 hg w27 hbox hb; have n0_ := Aside0.mk (Kd.V_below (Kd.V_elderB (kq_V HO_0.out) gb181 (Nat.le_of_eq hg.symm)) hb); have n1_ := Aside0.mk (Kd.N_below (Kd.N_elderB (kq_N HO_3.out) gb181 (Nat.le_of_eq hg.symm)) hb); have n2_ := Aside0.mk (Kd.V_below (Kd.V_elderB (kq_V HO_8.out) gb181 (Nat.le_of_eq hg.symm)) hb); have n3_ := Aside0.mk (Kd.V_below (Kd.V_elderB (kq_V HO_15.out) gb181 (Nat.le_of_eq hg.symm)) hb); have n4_ := Aside0.mk (Kd.V_below (Kd.V_elderB (kq_V HO_177000.out) gb181 (Nat.le_of_eq hg.symm)) hb); have n5_ := Aside0.mk (Kd.V_below (Kd.V_elderB (kq_V HO_177001.out) gb181 (Nat.le_of_eq hg.symm)) hb); have n6_ := Aside0.mk (Kd.V_below (Kd.V_elderB (kq_V HL180_0.out) gb181 (Nat.le_of_eq hg.symm)) hb); have n7_ := Aside0.mk (Kd.V_below (Kd.V_elderB (kq_V HL180_1.out) gb181 (Nat.le_of_eq hg.symm)) hb); have n8_ := Aside0.mk (blk_below (g := gb176) (o := .cells #[.slice A175_0 ((rd_T66 l0 x10_1).f0).length c175_0, .slice A175_1 ((rd_T66 l0 x10_1).f1).length c175_1] 66 (0, 0)) (bkq BK176.out) hb); have n9_ := Aside0.mk (Kd.C_below (by repeat (first | (with_reducible exact HR180_0.out) | (with_reducible refine Kd.C_alloc ?_ _) | (with_reducible refine Kd.C_drewN ?_ _) | (with_reducible refine Kd.C_drew ?_) | exact HR180_0.out)) hb); have n10_ := Aside0.mk (Kd.C_below (by repeat (first | (with_reducible exact HR180_1.out) | (with_reducible refine Kd.C_alloc ?_ _) | (with_reducible refine Kd.C_drewN ?_ _) | (with_reducible refine Kd.C_drew ?_) | exact HR180_1.out)) hb); have n11_ := Aside0.mk (below_step (hbq HB.out) hb); have n12_ := Aside0.mk (hbox); have n13_ := Aside0.mk ((by rw [hg]; exact (below_size (hbq HB.out)) : w.heap.size ≤ gb181)); have n14_ := Aside0.mk ((by rw [hg]; exact (below_size (hbq HB.out)) : w.heap.size ≤ gb181)); have n15_ := Aside0.mk ((by rw [hg]; exact Nat.ne_of_lt (blk_lt (g := gb176) (o := .cells #[.slice A175_0 ((rd_T66 l0 x10_1).f0).length c175_0, .slice A175_1 ((rd_T66 l0 x10_1).f1).length c175_1] 66 (0, 0)) (bkq BK176.out)) : gb176 ≠ gb181)); have n16_ := Aside0.mk ((by rw [hg]; exact Nat.ne_of_gt (blk_lt (g := gb176) (o := .cells #[.slice A175_0 ((rd_T66 l0 x10_1).f0).length c175_0, .slice A175_1 ((rd_T66 l0 x10_1).f1).length c175_1] 66 (0, 0)) (bkq BK176.out)) : gb181 ≠ gb176)); clear HO_0; clear HO_3; clear HO_8; clear HO_15; clear HO_177000; clear HO_177001; clear HL180_0; clear HL180_1; clear BK176; clear HR180_0; clear HR180_1; clear HB; have HO_0 := n0_; have HO_3 := n1_; have HO_8 := n2_; have HO_15 := n3_; have HO_177000 := n4_; have HO_177001 := n5_; have HL180_0 := n6_; have HL180_1 := n7_; have BK176 := n8_; have HR180_0 := n9_; have HR180_1 := n10_; have HB := n11_; have BK181 := n12_; have GW181 := n13_; have GE181 := n14_; have NB176_181 := n15_; have NB181_176 := n16_; clear n0_ n1_ n2_ n3_ n4_ n5_ n6_ n7_ n8_ n9_ n10_ n11_ n12_ n13_ n14_ n15_ n16_; clear hb hbox hg; have hnb28 := NB181_176.out; have hnc28 := NB176_181.out; have hcz29_0 : w27.cell? ⟨gb181, 0, none⟩ = some (.slice none 0 0) := (blk_cell BK181.out 0).trans rfl; have hcz29_1 : w27.cell? ⟨gb181, 1, none⟩ = some (.slice none 0 0) := (blk_cell BK181.out 1).trans rfl; have hfz29_0 := blk_frozen BK181.out 0; have hfz29_1 := blk_frozen BK181.out 1; have hcz30_0 : w27.cell? ⟨gb176, 0, none⟩ = some (.slice A175_0 ((rd_T66 l0 x10_1).f0).length c175_0) := (blk_cell BK176.out 0).trans rfl; have hcz30_1 : w27.cell? ⟨gb176, 1, none⟩ = some (.slice A175_1 ((rd_T66 l0 x10_1).f1).length c175_1) := (blk_cell BK176.out 1).trans rfl; have hfz30_0 := blk_frozen BK176.out 0; have hfz30_1 := blk_frozen BK176.out 1) | (go_at_call 42; (with_reducible refine (basis_within.calls k2 _ _ ((rd_T66 l0 x17_2).f0) _ _ ((rd_T66 l0 x10_1).f0) true _ ?side1 ?side2 ?side3 ?side4 A14.out).mono ?_); (case side1 => refine (Kd.V_reads' (e := 3) (base := w.heap.size) (ok := fun k_ => (((P0_ k_ ∨ w.heap.size ≤ k_) ∧ (some k_ ≠ (u3 : Value).ownBlock ∧ k_ ≠ gb176)) ∧ k_ ≠ gb181)) (n := ((rd_T66 l0 x17_2).f0).length) (c := c180_0) ?_).2.2; exact (by refine kq_V ?_; exact (Kd.V_mono (Kd.V_far (p := ⟨gb181, 1, none⟩) (Kd.V_far (p := ⟨gb181, 0, none⟩) (Kd.V_mono HL180_0.out (fun k_ hk => (⟨hk, hk.2⟩ : _ ∧ k_ ≠ gb181))) (fun _ hk => hk.2) (.slice A180_0 ((rd_T66 l0 x17_2).f0).length c180_0)) (fun _ hk => hk.2) (.slice A180_1 ((rd_T66 l0 x17_2).f1).length c180_1)) (fun _ h_ => h_.1)))); (case side2 => exact (Kd.V_reads' HL180_0.out).2.1); (case side3 => refine (Kd.V_reads' (e := 3) (base := w.heap.size) (ok := fun k_ => (((P0_ k_ ∨ w.heap.size ≤ k_) ∧ (some k_ ≠ (u3 : Value).ownBlock ∧ k_ ≠ gb176)) ∧ k_ ≠ gb181)) (n := ((rd_T66 l0 x10_1).f0).length) (c := c175_0) ?_).2.2; exact (by refine kq_V ?_; exact (Kd.V_mono (Kd.V_far (p := ⟨gb181, 1, none⟩) (Kd.V_far (p := ⟨gb181, 0, none⟩) (Kd.V_mono HO_177000.out (fun k_ hk => (⟨hk, hk.2⟩ : _ ∧ k_ ≠ gb181))) (fun _ hk => hk.2) (.slice A180_0 ((rd_T66 l0 x17_2).f0).length c180_0)) (fun _ hk => hk.2) (.slice A180_1 ((rd_T66 l0 x17_2).f1).length c180_1)) (fun _ h_ => h_.1)))); (case side4 => exact (Kd.V_reads' HO_177000.out).2.1); rintro e w' ⟨rfl, ⟨nd, rfl⟩⟩) | (go_at_call 42; (with_reducible refine (basis_within.calls k2 _ _ ((rd_T66 l0 x10_1).f0) _ _ ((rd_T66 l0 x17_2).f0) false _ ?side1 ?side2 ?side3 ?side4 A16.out).mono ?_); (case side1 => refine (Kd.V_reads' (e := 3) (base := w.heap.size) (ok := fun k_ => (((P0_ k_ ∨ w.heap.size ≤ k_) ∧ (some k_ ≠ (u3 : Value).ownBlock ∧ k_ ≠ gb176)) ∧ k_ ≠ gb181)) (n := ((rd_T66 l0 x10_1).f0).length) (c := c175_0) ?_).2.2; exact (by refine kq_V ?_; exact (Kd.V_mono (Kd.V_far (p := ⟨gb181, 1, none⟩) (Kd.V_far (p := ⟨gb181, 0, none⟩) (Kd.V_mono HO_177000.out (fun k_ hk => (⟨hk, hk.2⟩ : _ ∧ k_ ≠ gb181))) (fun _ hk => hk.2) (.slice A180_0 ((rd_T66 l0 x17_2).f0).length c180_0)) (fun _ hk => hk.2) (.slice A180_1 ((rd_T66 l0 x17_2).f1).length c180_1)) (fun _ h_ => h_.1)))); (case side2 => exact (Kd.V_reads' HO_177000.out).2.1); (case side3 => refine (Kd.V_reads' (e := 3) (base := w.heap.size) (ok := fun k_ => (((P0_ k_ ∨ w.heap.size ≤ k_) ∧ (some k_ ≠ (u3 : Value).ownBlock ∧ k_ ≠ gb176)) ∧ k_ ≠ gb181)) (n := ((rd_T66 l0 x17_2).f0).length) (c := c180_0) ?_).2.2; exact (by refine kq_V ?_; exact (Kd.V_mono (Kd.V_far (p := ⟨gb181, 1, none⟩) (Kd.V_far (p := ⟨gb181, 0, none⟩) (Kd.V_mono HL180_0.out (fun k_ hk => (⟨hk, hk.2⟩ : _ ∧ k_ ≠ gb181))) (fun _ hk => hk.2) (.slice A180_0 ((rd_T66 l0 x17_2).f0).length c180_0)) (fun _ hk => hk.2) (.slice A180_1 ((rd_T66 l0 x17_2).f1).length c180_1)) (fun _ h_ => h_.1)))); (case side4 => exact (Kd.V_reads' HL180_0.out).2.1); rintro e w' ⟨rfl, ⟨nd, rfl⟩⟩))
      go_roundg k2
      case measure => have := HK1.out; have := HK2.out; omega
      case rel => exact ⟨(x3_1), (wrap64 (x10_1 + 1)), (by first | rfl | (simp; done) | (simp [*]; done)), H', ⟨by have := HK1.out; have := HK2.out; omega⟩, ⟨by refine kq_V ?_; exact Kd.V_mono (Kd.V_far (p := ⟨gb181, 1, none⟩) (Kd.V_far (p := ⟨gb181, 0, none⟩) (Kd.V_mono HO_0.out (fun k_ hk => (⟨hk, hk.2⟩ : _ ∧ k_ ≠ gb181))) (fun _ hk => hk.2) (.slice A180_0 ((rd_T66 l0 x17_2).f0).length c180_0)) (fun _ hk => hk.2) (.slice A180_1 ((rd_T66 l0 x17_2).f1).length c180_1)) (fun _ hk => ⟨hk.1.1.1, hk.1.1.2.1⟩)⟩, ⟨by refine kq_N ?_; exact Kd.N_mono (Kd.N_far (p := ⟨gb181, 1, none⟩) (Kd.N_far (p := ⟨gb181, 0, none⟩) (Kd.N_mono HO_3.out (fun k_ hk => (⟨hk, hk.2⟩ : _ ∧ k_ ≠ gb181))) (fun _ hk => hk.2) (.slice A180_0 ((rd_T66 l0 x17_2).f0).length c180_0)) (fun _ hk => hk.2) (.slice A180_1 ((rd_T66 l0 x17_2).f1).length c180_1)) (fun _ hk => hk.1.1.1)⟩, ⟨by refine kq_V ?_; exact Kd.V_mono (Kd.V_far (p := ⟨gb181, 1, none⟩) (Kd.V_far (p := ⟨gb181, 0, none⟩) (Kd.V_mono HO_8.out (fun k_ hk => (⟨hk, hk.2⟩ : _ ∧ k_ ≠ gb181))) (fun _ hk => hk.2) (.slice A180_0 ((rd_T66 l0 x17_2).f0).length c180_0)) (fun _ hk => hk.2) (.slice A180_1 ((rd_T66 l0 x17_2).f1).length c180_1)) (fun _ hk => ⟨hk.1.1.1, hk.1.1.2.1⟩)⟩, ⟨hbq HB.out⟩⟩
     replace c15 := Bool.eq_false_iff.mpr c15
     subst c15
     have H1 : (basis_least.l1 k2 l0 x3_1 x10_1 l0 (l0.length : Int) x10_1 l0 (l0.length : Int) (wrap64 (x17_2 + 1)) ((rd_T66 l0 x10_1).f0) ((rd_T66 l0 x10_1).f1)) = some r := by rw [if_neg (show ¬ (false = true) by decide)] at H; exact H
     clear H
     have H := H1
     clear H1
     have H' := Aside0.mk H
     clear H
     have p180 : 0 ≤ (x17_2 : Int) := of_decide_eq_true (by first | (with_reducible assumption) | assumption)
     have q180 : x17_2 < (l0.length : Int) := of_decide_eq_true (by first | (with_reducible assumption) | assumption)
     obtain ⟨ad180, A180_0, c180_0, A180_1, c180_1, e180, hx180_0, hx180_1, hl180_0, hi180_0, hl180_1, hi180_1⟩ := at_T66 (Kd.V_reads' HO_15.out).2.2 x17_2 p180 q180
     obtain rfl : ad175 = ad180 := (by injection e180)
     obtain ⟨ce180, hce180, hMe180, hcc180⟩ := Kd.V_get HO_15.out z66 x17_2 p180 (by first | exact q180 | exact of_decide_eq_true (by first | (with_reducible assumption) | assumption) | (have e_ := (Kd.V_reads' HO_15.out).1; omega))
     obtain ⟨ua180_0, uc180_0, ua180_1, uc180_1, rfl, ul180_0, ge180_0, ul180_1, ge180_1⟩ := k66_openF hMe180
     have hv180_0 := hcc180 0 _ rfl
     rw [Nat.add_zero] at hv180_0
     replace hv180_0 := Option.some.inj (hv180_0.symm.trans hx180_0)
     injection hv180_0 with hva_ hvn_ hvc_
     rw [hva_] at ge180_0
     rw [hvc_] at ul180_0
     have HL180_0 := Aside0.mk (show Kd.V (Kd.int .i64) 3 _ w.heap.size _ _ ((rd_T66 l0 x17_2).f0) from Kd.V_mk ul180_0 ge180_0)
     clear hva_ hvn_ hvc_ ge180_0 ul180_0
     have hv180_1 := hcc180 1 _ rfl
     rw [add_field _ _ 1 (by omega)] at hv180_1
     replace hv180_1 := Option.some.inj (hv180_1.symm.trans hx180_1)
     injection hv180_1 with hva_ hvn_ hvc_
     rw [hva_] at ge180_1
     rw [hvc_] at ul180_1
     have HL180_1 := Aside0.mk (show Kd.V (Kd.int .i64) 3 _ w.heap.size _ _ ((rd_T66 l0 x17_2).f1) from Kd.V_mk ul180_1 ge180_1)
     clear hva_ hvn_ hvc_ ge180_1 ul180_1
     clear hcc180 hce180
     have HR180_0 := Aside0.mk hi180_0
     have HC180_0 := Aside0.mk hl180_0
     clear hi180_0 hl180_0
     have HR180_1 := Aside0.mk hi180_1
     have HC180_1 := Aside0.mk hl180_1
     clear hi180_1 hl180_1
     replace p180 := eq_true p180
     replace q180 := eq_true q180
     go_wp2_with (first | ((with_reducible refine gate_dst (N := 7) rfl ?_); refine box_event ?hg (N := 7) ?hd (cs := #[.slice none 0 0, .slice none 0 0]) (t := 66) ?hr ?_; (case hd => rfl); (case hg => rfl); (case hr => first | (go_simp; done) | (go_simp; rfl)); intro gb181 hg w31 hbox hb; have n0_ := Aside0.mk (Kd.V_below (Kd.V_elderB (kq_V HO_0.out) gb181 (Nat.le_of_eq hg.symm)) hb); have n1_ := Aside0.mk (Kd.N_below (Kd.N_elderB (kq_N HO_3.out) gb181 (Nat.le_of_eq hg.symm)) hb); have n2_ := Aside0.mk (Kd.V_below (Kd.V_elderB (kq_V HO_8.out) gb181 (Nat.le_of_eq hg.symm)) hb); have n3_ := Aside0.mk (Kd.V_below (Kd.V_elderB (kq_V HO_15.out) gb181 (Nat.le_of_eq hg.symm)) hb); have n4_ := Aside0.mk (Kd.V_below (Kd.V_elderB (kq_V HO_177000.out) gb181 (Nat.le_of_eq hg.symm)) hb); have n5_ := Aside0.mk (Kd.V_below (Kd.V_elderB (kq_V HO_177001.out) gb181 (Nat.le_of_eq hg.symm)) hb); have n6_ := Aside0.mk (Kd.V_below (Kd.V_elderB (kq_V HL180_0.out) gb181 (Nat.le_of_eq hg.symm)) hb); have n7_ := Aside0.mk (Kd.V_below (Kd.V_elderB (kq_V HL180_1.out) gb181 (Nat.le_of_eq hg.symm)) hb); have n8_ := Aside0.mk (blk_below (g := gb176) (o := .cells #[.slice A175_0 ((rd_T66 l0 x10_1).f0).length c175_0, .slice A175_1 ((rd_T66 l0 x10_1).f1).length c175_1] 66 (0, 0)) (bkq BK176.out) hb); have n9_ := Aside0.mk (Kd.C_below (by repeat (first | (with_reducible exact HR180_0.out) | (with_reducible refine Kd.C_alloc ?_ _) | (with_reducible refine Kd.C_drewN ?_ _) | (with_reducible refine Kd.C_drew ?_) | exact HR180_0.out)) hb); have n10_ := Aside0.mk (Kd.C_below (by repeat (first | (with_reducible exact HR180_1.out) | (with_reducible refine Kd.C_alloc ?_ _) | (with_reducible refine Kd.C_drewN ?_ _) | (with_reducible refine Kd.C_drew ?_) | exact HR180_1.out)) hb); have n11_ := Aside0.mk (below_step (hbq HB.out) hb); have n12_ := Aside0.mk (hbox); have n13_ := Aside0.mk ((by rw [hg]; exact (below_size (hbq HB.out)) : w.heap.size ≤ gb181)); have n14_ := Aside0.mk ((by rw [hg]; exact (below_size (hbq HB.out)) : w.heap.size ≤ gb181)); have n15_ := Aside0.mk ((by rw [hg]; exact Nat.ne_of_lt (blk_lt (g := gb176) (o := .cells #[.slice A175_0 ((rd_T66 l0 x10_1).f0).length c175_0, .slice A175_1 ((rd_T66 l0 x10_1).f1).length c175_1] 66 (0, 0)) (bkq BK176.out)) : gb176 ≠ gb181)); have n16_ := Aside0.mk ((by rw [hg]; exact Nat.ne_of_gt (blk_lt (g := gb176) (o := .cells #[.slice A175_0 ((rd_T66 l0 x10_1).f0).length c175_0, .slice A175_1 ((rd_T66 l0 x10_1).f1).length c175_1] 66 (0, 0)) (bkq BK176.out)) : gb181 ≠ gb176)); clear HO_0; clear HO_3; clear HO_8; clear HO_15; clear HO_177000; clear HO_177001; clear HL180_0; clear HL180_1; clear BK176; clear HR180_0; clear HR180_1; clear HB; have HO_0 := n0_; have HO_3 := n1_; have HO_8 := n2_; have HO_15 := n3_; have HO_177000 := n4_; have HO_177001 := n5_; have HL180_0 := n6_; have HL180_1 := n7_; have BK176 := n8_; have HR180_0 := n9_; have HR180_1 := n10_; have HB := n11_; have BK181 := n12_; have GW181 := n13_; have GE181 := n14_; have NB176_181 := n15_; have NB181_176 := n16_; clear n0_ n1_ n2_ n3_ n4_ n5_ n6_ n7_ n8_ n9_ n10_ n11_ n12_ n13_ n14_ n15_ n16_; clear hb hbox hg; have hnb32 := NB181_176.out; have hnc32 := NB176_181.out; have hcz33_0 : w31.cell? ⟨gb181, 0, none⟩ = some (.slice none 0 0) := (blk_cell BK181.out 0).trans rfl; have hcz33_1 : w31.cell? ⟨gb181, 1, none⟩ = some (.slice none 0 0) := (blk_cell BK181.out 1).trans rfl; have hfz33_0 := blk_frozen BK181.out 0; have hfz33_1 := blk_frozen BK181.out 1; have hcz34_0 : w31.cell? ⟨gb176, 0, none⟩ = some (.slice A175_0 ((rd_T66 l0 x10_1).f0).length c175_0) := (blk_cell BK176.out 0).trans rfl; have hcz34_1 : w31.cell? ⟨gb176, 1, none⟩ = some (.slice A175_1 ((rd_T66 l0 x10_1).f1).length c175_1) := (blk_cell BK176.out 1).trans rfl; have hfz34_0 := blk_frozen BK176.out 0; have hfz34_1 := blk_frozen BK176.out 1) | (go_at_call 42; (with_reducible refine (basis_within.calls k2 _ _ ((rd_T66 l0 x17_2).f0) _ _ ((rd_T66 l0 x10_1).f0) false _ ?side1 ?side2 ?side3 ?side4 A14.out).mono ?_); (case side1 => refine (Kd.V_reads' (e := 3) (base := w.heap.size) (ok := fun k_ => (((P0_ k_ ∨ w.heap.size ≤ k_) ∧ (some k_ ≠ (u3 : Value).ownBlock ∧ k_ ≠ gb176)) ∧ k_ ≠ gb181)) (n := ((rd_T66 l0 x17_2).f0).length) (c := c180_0) ?_).2.2; exact (by refine kq_V ?_; exact (Kd.V_mono (Kd.V_far (p := ⟨gb181, 1, none⟩) (Kd.V_far (p := ⟨gb181, 0, none⟩) (Kd.V_mono HL180_0.out (fun k_ hk => (⟨hk, hk.2⟩ : _ ∧ k_ ≠ gb181))) (fun _ hk => hk.2) (.slice A180_0 ((rd_T66 l0 x17_2).f0).length c180_0)) (fun _ hk => hk.2) (.slice A180_1 ((rd_T66 l0 x17_2).f1).length c180_1)) (fun _ h_ => h_.1)))); (case side2 => exact (Kd.V_reads' HL180_0.out).2.1); (case side3 => refine (Kd.V_reads' (e := 3) (base := w.heap.size) (ok := fun k_ => (((P0_ k_ ∨ w.heap.size ≤ k_) ∧ (some k_ ≠ (u3 : Value).ownBlock ∧ k_ ≠ gb176)) ∧ k_ ≠ gb181)) (n := ((rd_T66 l0 x10_1).f0).length) (c := c175_0) ?_).2.2; exact (by refine kq_V ?_; exact (Kd.V_mono (Kd.V_far (p := ⟨gb181, 1, none⟩) (Kd.V_far (p := ⟨gb181, 0, none⟩) (Kd.V_mono HO_177000.out (fun k_ hk => (⟨hk, hk.2⟩ : _ ∧ k_ ≠ gb181))) (fun _ hk => hk.2) (.slice A180_0 ((rd_T66 l0 x17_2).f0).length c180_0)) (fun _ hk => hk.2) (.slice A180_1 ((rd_T66 l0 x17_2).f1).length c180_1)) (fun _ h_ => h_.1)))); (case side4 => exact (Kd.V_reads' HO_177000.out).2.1); rintro e w' ⟨rfl, ⟨nd, rfl⟩⟩))
     go_roundg k2
     case measure => have := HK1.out; have := HK2.out; omega
     case rel => exact ⟨(wrap64 (x17_2 + 1)), (by first | rfl | (simp; done) | (simp [*]; done)), H', ⟨by have := HK1.out; have := HK2.out; omega⟩, ⟨by refine kq_V ?_; exact Kd.V_mono (Kd.V_far (p := ⟨gb181, 1, none⟩) (Kd.V_far (p := ⟨gb181, 0, none⟩) (Kd.V_mono HO_0.out (fun k_ hk => (⟨hk, hk.2⟩ : _ ∧ k_ ≠ gb181))) (fun _ hk => hk.2) (.slice A180_0 ((rd_T66 l0 x17_2).f0).length c180_0)) (fun _ hk => hk.2) (.slice A180_1 ((rd_T66 l0 x17_2).f1).length c180_1)) (fun _ hk => ⟨hk.1.1.1, ⟨hk.1.1.2.1, hk.1.1.2.2⟩⟩)⟩, ⟨by refine kq_N ?_; exact Kd.N_mono (Kd.N_far (p := ⟨gb181, 1, none⟩) (Kd.N_far (p := ⟨gb181, 0, none⟩) (Kd.N_mono HO_3.out (fun k_ hk => (⟨hk, hk.2⟩ : _ ∧ k_ ≠ gb181))) (fun _ hk => hk.2) (.slice A180_0 ((rd_T66 l0 x17_2).f0).length c180_0)) (fun _ hk => hk.2) (.slice A180_1 ((rd_T66 l0 x17_2).f1).length c180_1)) (fun _ hk => ⟨hk.1.1.1, hk.1.1.2⟩)⟩, ⟨by refine kq_V ?_; exact Kd.V_mono (Kd.V_far (p := ⟨gb181, 1, none⟩) (Kd.V_far (p := ⟨gb181, 0, none⟩) (Kd.V_mono HO_8.out (fun k_ hk => (⟨hk, hk.2⟩ : _ ∧ k_ ≠ gb181))) (fun _ hk => hk.2) (.slice A180_0 ((rd_T66 l0 x17_2).f0).length c180_0)) (fun _ hk => hk.2) (.slice A180_1 ((rd_T66 l0 x17_2).f1).length c180_1)) (fun _ hk => ⟨hk.1.1.1, ⟨hk.1.1.2.1, hk.1.1.2.2⟩⟩)⟩, ⟨by refine kq_V ?_; exact Kd.V_mono (Kd.V_far (p := ⟨gb181, 1, none⟩) (Kd.V_far (p := ⟨gb181, 0, none⟩) (Kd.V_mono HO_15.out (fun k_ hk => (⟨hk, hk.2⟩ : _ ∧ k_ ≠ gb181))) (fun _ hk => hk.2) (.slice A180_0 ((rd_T66 l0 x17_2).f0).length c180_0)) (fun _ hk => hk.2) (.slice A180_1 ((rd_T66 l0 x17_2).f1).length c180_1)) (fun _ hk => ⟨hk.1.1.1, ⟨hk.1.1.2.1, hk.1.1.2.2⟩⟩)⟩, ⟨by refine kq_V ?_; exact Kd.V_mono (Kd.V_far (p := ⟨gb181, 1, none⟩) (Kd.V_far (p := ⟨gb181, 0, none⟩) (Kd.V_mono HO_177000.out (fun k_ hk => (⟨hk, hk.2⟩ : _ ∧ k_ ≠ gb181))) (fun _ hk => hk.2) (.slice A180_0 ((rd_T66 l0 x17_2).f0).length c180_0)) (fun _ hk => hk.2) (.slice A180_1 ((rd_T66 l0 x17_2).f1).length c180_1)) (fun _ hk => ⟨hk.1.1.1, ⟨hk.1.1.2.1, hk.1.1.2.2⟩⟩)⟩, ⟨by refine kq_V ?_; exact Kd.V_mono (Kd.V_far (p := ⟨gb181, 1, none⟩) (Kd.V_far (p := ⟨gb181, 0, none⟩) (Kd.V_mono HO_177001.out (fun k_ hk => (⟨hk, hk.2⟩ : _ ∧ k_ ≠ gb181))) (fun _ hk => hk.2) (.slice A180_0 ((rd_T66 l0 x17_2).f0).length c180_0)) (fun _ hk => hk.2) (.slice A180_1 ((rd_T66 l0 x17_2).f1).length c180_1)) (fun _ hk => ⟨hk.1.1.1, ⟨hk.1.1.2.1, hk.1.1.2.2⟩⟩)⟩, ⟨by refine bkq ?_; refine blk_far ?_ NB176_181.out _; refine bkq ?_; refine blk_far ?_ NB176_181.out _; refine bkq ?_; exact BK176.out⟩, ⟨hbq HB.out⟩⟩
    rw [if_neg c7] at H
    have c7b0 : decide (x17_2 < (l0.length : Int)) = false := decide_eq_false c7
    clear c7
    by_cases c35 : x3_1.length < 2932031007402
    case neg => rw [if_neg c35] at H; exact absurd H (by simp)
    rw [if_pos c35] at H
    have LMc35 := Aside0.mk c35
    clear c35
    obtain ⟨y177, hy177⟩ : ∃ y_ : List (S66), y_ = (x3_1 ++ [(⟨((rd_T66 l0 x10_1).f0), ((rd_T66 l0 x10_1).f1)⟩ : S66)]) := ⟨_, rfl⟩
    replace H : (basis_least.l0 k2 l0 y177 l0 (l0.length : Int) (wrap64 (x10_1 + 1))) = some r := by first | (rw [hy177]; with_reducible exact H) | (have H2_ := (Option.bind_some _ _).symm.trans H; rw [hy177]; with_reducible exact H2_) | (have H2_ := (Option.bind_some _ _).symm.trans H; with_reducible exact H2_) | with_reducible exact H | (rw [hy177]; exact H) | exact H
    have Ny177 := Aside0.mk hy177
    clear hy177
    have H' := Aside0.mk H
    clear H
    have hcz36_0 : wr.cell? ⟨gb176, 0, none⟩ = some (.slice A175_0 ((rd_T66 l0 x10_1).f0).length c175_0) := (blk_cell BK176.out 0).trans rfl
    have hcz36_1 : wr.cell? ⟨gb176, 1, none⟩ = some (.slice A175_1 ((rd_T66 l0 x10_1).f1).length c175_1) := (blk_cell BK176.out 1).trans rfl
    have hfz36_0 := blk_frozen BK176.out 0
    have hfz36_1 := blk_frozen BK176.out 1
    go_wp2_with (first | ((with_reducible refine gate_builtin (b := .append) (xs := #[.tmp 46, .tmp 48]) rfl ?_); at_builtin; refine Kd.N_append k66 (w0 := w) w.heap.size rfl (.tmp 46) (.tmp 48) 63 66 (.agg #[(.slice none 0 0), (.slice none 0 0)]) 48 rfl Try.underlying63 info66 rfl (by decide) (by omega) u3 x3_1 (⟨((rd_T66 l0 x10_1).f0), ((rd_T66 l0 x10_1).f1)⟩ : S66) [.slice A175_0 ((rd_T66 l0 x10_1).f0).length c175_0, .slice A175_1 ((rd_T66 l0 x10_1).f1).length c175_1] (fun k_ => (P0_ k_ ∨ w.heap.size ≤ k_) ∧ k_ ≠ gb176) (fun k_ => ((fun k_ => (P0_ k_ ∨ w.heap.size ≤ k_) ∧ k_ ≠ gb176)) k_ ∧ some k_ ≠ (u3 : Value).ownBlock) rfl rfl ?aP (fun _ hk => hk) ?aF ?aO ?aB ?aS ?aL ?_; (case aP => exact (k66_mkF _ _ (⟨((rd_T66 l0 x10_1).f0), ((rd_T66 l0 x10_1).f1)⟩ : S66) (Kd.V_reads' (Kd.V_mono (ok' := (fun k_ => ((fun k_ => (P0_ k_ ∨ w.heap.size ≤ k_) ∧ k_ ≠ gb176)) k_ ∧ some k_ ≠ (u3 : Value).ownBlock)) (HO_177000.out) (fun k_ hk => ⟨⟨hk.1, hk.2.2⟩, hk.2.1⟩))).2.1 (Kd.V_F (Kd.V_mono (ok' := (fun k_ => ((fun k_ => (P0_ k_ ∨ w.heap.size ≤ k_) ∧ k_ ≠ gb176)) k_ ∧ some k_ ≠ (u3 : Value).ownBlock)) (HO_177000.out) (fun k_ hk => ⟨⟨hk.1, hk.2.2⟩, hk.2.1⟩))) (Kd.V_reads' (Kd.V_mono (ok' := (fun k_ => ((fun k_ => (P0_ k_ ∨ w.heap.size ≤ k_) ∧ k_ ≠ gb176)) k_ ∧ some k_ ≠ (u3 : Value).ownBlock)) (HO_177001.out) (fun k_ hk => ⟨⟨hk.1, hk.2.2⟩, hk.2.1⟩))).2.1 (Kd.V_F (Kd.V_mono (ok' := (fun k_ => ((fun k_ => (P0_ k_ ∨ w.heap.size ≤ k_) ∧ k_ ≠ gb176)) k_ ∧ some k_ ≠ (u3 : Value).ownBlock)) (HO_177001.out) (fun k_ hk => ⟨⟨hk.1, hk.2.2⟩, hk.2.1⟩))))); (case aB => exact (hbq HB.out)); (case aF => exact (fun k_ hk => ⟨(.inr (Nat.le_trans (below_size (hbq HB.out)) hk)), Kd.freshB (g := gb176) (o := .cells #[.slice A175_0 ((rd_T66 l0 x10_1).f0).length c175_0, .slice A175_1 ((rd_T66 l0 x10_1).f1).length c175_1] 66 (0, 0)) (bkq BK176.out) k_ hk⟩)); (case aO => exact (kq_N HO_3.out)); (case aS => exact (below_size (hbq HB.out))); (case aL => have := LMc35.out; omega); intro v178 w37 ho hb hg hat; rw [← Ny177.out] at ho; have n0_ := Aside0.mk (Kd.V_afterv (ok := (fun k_ => (P0_ k_ ∨ w.heap.size ≤ k_) ∧ k_ ≠ gb176)) (by refine kq_V ?_; exact Kd.V_mono HO_0.out (fun _ hk => ⟨⟨hk.1, hk.2.2⟩, hk.2.1⟩)) hg hat); have n1_ := Aside0.mk (Kd.V_afterv (ok := (fun k_ => (P0_ k_ ∨ w.heap.size ≤ k_) ∧ k_ ≠ gb176)) (by refine kq_V ?_; exact Kd.V_mono HO_8.out (fun _ hk => ⟨⟨hk.1, hk.2.2⟩, hk.2.1⟩)) hg hat); have n2_ := Aside0.mk (Kd.V_afterv (ok := (fun k_ => (P0_ k_ ∨ w.heap.size ≤ k_) ∧ k_ ≠ gb176)) (by refine kq_V ?_; exact Kd.V_mono HO_15.out (fun _ hk => ⟨⟨hk.1, hk.2.2⟩, hk.2.1⟩)) hg hat); have n3_ := Aside0.mk (Kd.V_afterv (ok := (fun k_ => (P0_ k_ ∨ w.heap.size ≤ k_) ∧ k_ ≠ gb176)) (by refine kq_V ?_; exact Kd.V_mono HO_177000.out (fun _ hk => ⟨⟨hk.1, hk.2.2⟩, hk.2.1⟩)) hg hat); have n4_ := Aside0.mk (Kd.V_afterv (ok := (fun k_ => (P0_ k_ ∨ w.heap.size ≤ k_) ∧ k_ ≠ gb176)) (by refine kq_V ?_; exact Kd.V_mono HO_177001.out (fun _ hk => ⟨⟨hk.1, hk.2.2⟩, hk.2.1⟩)) hg hat); have n5_ := Aside0.mk (blk_grown (g := gb176) (o := .cells #[.slice A175_0 ((rd_T66 l0 x10_1).f0).length c175_0, .slice A175_1 ((rd_T66 l0 x10_1).f1).length c175_1] 66 (0, 0)) (bkq BK176.out) hg (Kd.N_away HO_3.out (fun _ hk => hk.2))); have n6_ := Aside0.mk (hb); have n7_ := Aside0.mk (ho); clear HO_0; clear HO_8; clear HO_15; clear HO_177000; clear HO_177001; clear BK176; clear HB; clear HO_3; have HO_0 := n0_; have HO_8 := n1_; have HO_15 := n2_; have HO_177000 := n3_; have HO_177001 := n4_; have BK176 := n5_; have HB := n6_; have HO179 := n7_; clear n0_ n1_ n2_ n3_ n4_ n5_ n6_ n7_; clear ho hb hg hat))
    go_roundg k2
    case measure => have := HK1.out; have := HK2.out; omega
    case rel => exact ⟨(y177), (wrap64 (x10_1 + 1)), (by first | rfl | (simp; done) | (simp [*]; done)), H', ⟨by have := HK1.out; have := HK2.out; omega⟩, ⟨by refine kq_V ?_; exact Kd.V_mono HO_0.out (fun _ hk => ⟨hk.1.1, hk.2⟩)⟩, ⟨by refine kq_N ?_; exact Kd.N_mono HO179.out (fun _ hk => hk.1)⟩, ⟨by refine kq_V ?_; exact Kd.V_mono HO_8.out (fun _ hk => ⟨hk.1.1, hk.2⟩)⟩, ⟨hbq HB.out⟩⟩
  rw [if_neg c2] at H
  have c2b0 : decide (x10_1 < (l0.length : Int)) = false := decide_eq_false c2
  clear c2
  obtain rfl := Option.some.inj H
  go_wp2
  (try rw [Exit.noGoto_ret])
  go_ret
  exact ⟨_, by first | rfl | (simp [errW_none, errW_some] <;> rfl) | (simp [*, errW_none, errW_some] <;> rfl), by refine kq_N ?_; exact HO_3.out, hbq HB.out⟩

end Go.Proofs.Ytifbflpaednfnaa.PBasisMore
