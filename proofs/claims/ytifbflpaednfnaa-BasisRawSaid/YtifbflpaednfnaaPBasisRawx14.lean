/- What the functions that this law reaches answer, in whatever memory, and the row of the law; no condition. Written by a program of this session (mk.sh). -/
import Derived.Test.YtifbflpaednfnaaPBasisRawx0
import Derived.Test.YtifbflpaednfnaaPBasisRawx13
namespace Go.Proofs.Ytifbflpaednfnaa.PBasisRaw
open Go.RowKit Go.Proofs.YtifbflpaednfnaaW.PrintWords Go.Proofs.YtifbflpaednfnaaW.PrintLast Go.Proofs.YtifbflpaednfnaaW.PrintMore
attribute [local go_sem] max2_int min2_int max_two min_two max_three min_three max_four min_four   -- for this text's walks alone
set_option linter.unusedVariables false
set_option linter.unusedSimpArgs false

/-! ### marblerunlaw12_stays: function 18 -/
mutual
def marblerunlaw12_stays.l0 : Nat → List (List Int) → List (List Int) → Int → Option (Bool)
 | 0, _, _, _ => none
 | k + 1, x0, x1, x5 => if x5 < (x0.length : Int) then (if 0 ≤ x5 then (if ((rd_L1 x0 x5).length : Int) = (x1.length : Int) then ((matrix_Zero.f k (rd_L1 x0 x5)).bind fun t445 => (marblerunlaw12_stays.j1 k x0 x1 x5 t445)) else (marblerunlaw12_stays.j1 k x0 x1 x5 true)) else (none)) else (some true)
def marblerunlaw12_stays.j1 : Nat → List (List Int) → List (List Int) → Int → Bool → Option (Bool)
 | 0, _, _, _, _ => none
 | k + 1, x0, x1, x5, x30 => if x30 = true then (some false) else (marblerunlaw12_stays.l1 k x0 x1 x5 0)
def marblerunlaw12_stays.l1 : Nat → List (List Int) → List (List Int) → Int → Int → Option (Bool)
 | 0, _, _, _, _ => none
 | k + 1, x0, x1, x5, x6 => if 0 ≤ x5 then (if x5 < (x0.length : Int) then (if x6 < ((rd_L1 x0 x5).length : Int) then (if 0 ≤ x6 then (if (rd (rd_L1 x0 x5) x6) < 0 then (some false) else (marblerunlaw12_stays.l1 k x0 x1 x5 (wrap64 (x6 + 1)))) else (none)) else (marblerunlaw12_stays.l2 k x0 x1 x5 0)) else (none)) else (none)
def marblerunlaw12_stays.l2 : Nat → List (List Int) → List (List Int) → Int → Int → Option (Bool)
 | 0, _, _, _, _ => none
 | k + 1, x0, x1, x5, x7 => if (x1.length : Int) > 0 then (if 0 < (x1.length : Int) then (marblerunlaw12_stays.j4 k x0 x1 x5 x7 (decide (x7 < ((rd_L1 x1 0).length : Int)))) else (none)) else (marblerunlaw12_stays.j4 k x0 x1 x5 x7 false)
def marblerunlaw12_stays.j4 : Nat → List (List Int) → List (List Int) → Int → Int → Bool → Option (Bool)
 | 0, _, _, _, _, _ => none
 | k + 1, x0, x1, x5, x7, x58 => if x58 = true then (marblerunlaw12_stays.l3 k x0 x1 x5 x7 0 0) else (marblerunlaw12_stays.l0 k x0 x1 (wrap64 (x5 + 1)))
def marblerunlaw12_stays.l3 : Nat → List (List Int) → List (List Int) → Int → Int → Int → Int → Option (Bool)
 | 0, _, _, _, _, _, _ => none
 | k + 1, x0, x1, x5, x7, x8, x9 => if x9 < (x1.length : Int) then (if 0 ≤ x5 then (if x5 < (x0.length : Int) then (if 0 ≤ x9 then (if x9 < ((rd_L1 x0 x5).length : Int) then (if 0 ≤ x7 then (if x7 < ((rd_L1 x1 x9).length : Int) then (marblerunlaw12_stays.l3 k x0 x1 x5 x7 (wrap64 (x8 + (wrap64 ((rd (rd_L1 x0 x5) x9) * (rd (rd_L1 x1 x9) x7))))) (wrap64 (x9 + 1))) else (none)) else (none)) else (none)) else (none)) else (none)) else (none)) else (if x8 = 0 then (marblerunlaw12_stays.l2 k x0 x1 x5 (wrap64 (x7 + 1))) else (some false))
end
def marblerunlaw12_stays.f (k : Nat) (l0 : List (List Int)) (l1 : List (List Int)) : Option (Bool) := marblerunlaw12_stays.l0 k l0 l1 0
theorem marblerunlaw12_stays.mono_l : ∀ k, (∀ y0 y1 y2, LeO (marblerunlaw12_stays.l0 k y0 y1 y2) (marblerunlaw12_stays.l0 (k + 1) y0 y1 y2)) ∧ (∀ y0 y1 y2 y3, LeO (marblerunlaw12_stays.j1 k y0 y1 y2 y3) (marblerunlaw12_stays.j1 (k + 1) y0 y1 y2 y3)) ∧ (∀ y0 y1 y2 y3, LeO (marblerunlaw12_stays.l1 k y0 y1 y2 y3) (marblerunlaw12_stays.l1 (k + 1) y0 y1 y2 y3)) ∧ (∀ y0 y1 y2 y3, LeO (marblerunlaw12_stays.l2 k y0 y1 y2 y3) (marblerunlaw12_stays.l2 (k + 1) y0 y1 y2 y3)) ∧ (∀ y0 y1 y2 y3 y4, LeO (marblerunlaw12_stays.j4 k y0 y1 y2 y3 y4) (marblerunlaw12_stays.j4 (k + 1) y0 y1 y2 y3 y4)) ∧ (∀ y0 y1 y2 y3 y4 y5, LeO (marblerunlaw12_stays.l3 k y0 y1 y2 y3 y4 y5) (marblerunlaw12_stays.l3 (k + 1) y0 y1 y2 y3 y4 y5))
 | 0 => ⟨fun _ _ _ r h => by simp [marblerunlaw12_stays.l0] at h, fun _ _ _ _ r h => by simp [marblerunlaw12_stays.j1] at h, fun _ _ _ _ r h => by simp [marblerunlaw12_stays.l1] at h, fun _ _ _ _ r h => by simp [marblerunlaw12_stays.l2] at h, fun _ _ _ _ _ r h => by simp [marblerunlaw12_stays.j4] at h, fun _ _ _ _ _ _ r h => by simp [marblerunlaw12_stays.l3] at h⟩
 | k + 1 => by
  obtain ⟨ih0, ih1, ih2, ih3, ih4, ih5⟩ := marblerunlaw12_stays.mono_l k
  refine ⟨?_, ?_, ?_, ?_, ?_, ?_⟩
  all_goals
   intros
   first
   | unfold marblerunlaw12_stays.l0
   | unfold marblerunlaw12_stays.j1
   | unfold marblerunlaw12_stays.l1
   | unfold marblerunlaw12_stays.l2
   | unfold marblerunlaw12_stays.j4
   | unfold marblerunlaw12_stays.l3
   repeat' first
   | (with_reducible exact ih0 _ _ _)
   | (with_reducible exact ih1 _ _ _ _)
   | (with_reducible exact ih2 _ _ _ _)
   | (with_reducible exact ih3 _ _ _ _)
   | (with_reducible exact ih4 _ _ _ _ _)
   | (with_reducible exact ih5 _ _ _ _ _ _)
   | (with_reducible exact matrix_Zero.mono _ _)
   | (with_reducible exact LeO.refl _)
   | (with_reducible exact LeO.none _)
   | (with_reducible refine LeO.ite ?_ ?_)
   | (with_reducible refine LeO.bind ?_ (fun _ => ?_))
   | exact ih0 _ _ _
   | exact ih1 _ _ _ _
   | exact ih2 _ _ _ _
   | exact ih3 _ _ _ _
   | exact ih4 _ _ _ _ _
   | exact ih5 _ _ _ _ _ _
   | exact matrix_Zero.mono _ _
   | exact LeO.none _
   | refine LeO.ite ?_ ?_
   | refine LeO.bind ?_ (fun _ => ?_)
theorem marblerunlaw12_stays.mono : ∀ a0 a1 k, LeO (marblerunlaw12_stays.f k a0 a1) (marblerunlaw12_stays.f (k + 1) a0 a1) := by
 intro a0 a1 k
 obtain ⟨ih0, ih1, ih2, ih3, ih4, ih5⟩ := marblerunlaw12_stays.mono_l k
 unfold marblerunlaw12_stays.f
 repeat' first
  | (with_reducible exact ih0 _ _ _)
  | (with_reducible exact ih1 _ _ _ _)
  | (with_reducible exact ih2 _ _ _ _)
  | (with_reducible exact ih3 _ _ _ _)
  | (with_reducible exact ih4 _ _ _ _ _)
  | (with_reducible exact ih5 _ _ _ _ _ _)
  | (with_reducible exact matrix_Zero.mono _ _)
  | (with_reducible exact LeO.refl _)
  | (with_reducible exact LeO.none _)
  | (with_reducible refine LeO.ite ?_ ?_)
  | (with_reducible refine LeO.bind ?_ (fun _ => ?_))
  | exact ih0 _ _ _
  | exact ih1 _ _ _ _
  | exact ih2 _ _ _ _
  | exact ih3 _ _ _ _
  | exact ih4 _ _ _ _ _
  | exact ih5 _ _ _ _ _ _
  | exact matrix_Zero.mono _ _
  | exact LeO.none _
  | refine LeO.ite ?_ ?_
  | refine LeO.bind ?_ (fun _ => ?_)
set_option maxHeartbeats 8000000 in
set_option maxRecDepth 100000 in
theorem marblerunlaw12_stays.calls (k : Nat) (A0 : Option Addr) (c0 : Nat) (l0 : List (List Int)) (A1 : Option Addr) (c1 : Nat) (l1 : List (List Int)) (r : Bool) (w : World) (hr0 : Kd.C (Kd.slice 3 (Kd.int .i64)) w A0 l0.length l0) (hc0 : l0.length ≤ c0) (hr1 : Kd.C (Kd.slice 3 (Kd.int .i64)) w A1 l1.length l1) (hc1 : l1.length ≤ c1) (h : marblerunlaw12_stays.f k l0 l1 = some r) :
 Calls Try.prog 18 #[.slice A0 l0.length c0, .slice A1 l1.length c1] w fun e w' => e = .returned (.bool r) ∧ Drawn0 w w' := by
 have HR0 := Aside0.mk hr0; have HC0 := Aside0.mk hc0; clear hr0 hc0; have HR1 := Aside0.mk hr1; have HC1 := Aside0.mk hc1; clear hr1 hc1; have H : (marblerunlaw12_stays.l0 k l0 l1 0) = some r := h; clear h; have H' := Aside0.mk H; clear H; go_enter Try.func18, Try.ntmps18; go_wp2
 repeat (go_quiet (fail); try go_wp2)
 go_loopg [5] k (fun kq v5 w' => ∃ (x5_1 : Int), v5 = .int .i64 x5_1 ∧ Aside0 (marblerunlaw12_stays.l0 kq l0 l1 x5_1 = some r) ∧ Aside0 (kq ≤ k) ∧ Drawn0 w w')
 case atStart => exact ⟨(0), (by first | rfl | (simp; done) | (simp [*]; done)), H', ⟨Nat.le_refl _⟩, by repeat (first | exact Drawn0.refl _ | apply Drawn0.step)⟩
 clear H'; obtain ⟨x5_1, rfl, HA, HK1, ⟨m1, rfl⟩⟩ := hrel; cases gk with
 | zero => exact absurd HA.out (by simp [marblerunlaw12_stays.l0])
 | succ k1 =>
  have H := HA.out; clear HA; simp only [marblerunlaw12_stays.l0] at H
  by_cases c3 : x5_1 < (l0.length : Int)
  ·rw [if_pos c3] at H; have c3b0 : decide (x5_1 < (l0.length : Int)) = true := decide_eq_true c3; clear c3; have HC4 := Aside0.mk H; clear H; go_upto_region 4 with (fail)
   repeat (go_quiet (fail); go_upto_region 4 with (fail))
   go_cut [30] (fun v30 wc => ∃ (kq : Nat) (x30_3 : Bool), v30 = .bool x30_3 ∧ Aside0 (marblerunlaw12_stays.j1 kq l0 l1 x5_1 x30_3 = some r) ∧ Aside0 (kq ≤ k1) ∧ Drawn0 w wc)
   case first =>
    have H := HC4.out; clear HC4
    by_cases c5 : 0 ≤ x5_1
    case neg => rw [if_neg c5] at H; exact absurd H (by simp)
    rw [if_pos c5] at H; have c5b0 : decide (0 ≤ x5_1) = true := decide_eq_true c5; clear c5; (first | rw [c5b0] | (simp only [i64_w, i32_w]; rw [c5b0]) | skip)
    by_cases c6 : ((rd_L1 l0 x5_1).length : Int) = (l1.length : Int)
    ·rw [if_pos c6] at H; have c6b0 : (((rd_L1 l0 x5_1).length : Int) == (l1.length : Int)) = true := beq_iff_eq.mpr c6; have c6b1 : (((rd_L1 l0 x5_1).length : Int) != (l1.length : Int)) = false := bne_eq_false_iff_eq.mpr c6; have c6b2 : ((rd_L1 l0 x5_1).length == l1.length) = true := by first | simpa using c6 | (simp at c6 ⊢; omega)
     clear c6; replace H := Option.bind_eq_some_iff.mp H; obtain ⟨t445, A70, H⟩ := H; replace H : (marblerunlaw12_stays.j1 k1 l0 l1 x5_1 t445) = some r := H; have A7 := Aside0.mk A70; clear A70; have H' := Aside0.mk H; clear H; have p443 : 0 ≤ (x5_1 : Int) := oa; have q443 : x5_1 < (l0.length : Int) := oa; obtain ⟨ad443, A443_0, c443_0, e443, hx443_0, hl443_0, hi443_0⟩ := at_L1 HR0.out x5_1 p443 q443; cases e443; have HR443_0 := Aside0.mk hi443_0; have HC443_0 := Aside0.mk hl443_0; clear hi443_0 hl443_0; replace p443 := eq_true p443; replace q443 := eq_true q443; have p444 : 0 ≤ (x5_1 : Int) := oa; have q444 : x5_1 < (l0.length : Int) := oa; obtain ⟨ad444, A444_0, c444_0, e444, hx444_0, hl444_0, hi444_0⟩ := at_L1 HR0.out x5_1 p444 q444; obtain rfl : ad443 = ad444 := (by injection e444); have HR444_0 := Aside0.mk hi444_0; have HC444_0 := Aside0.mk hl444_0; clear hi444_0 hl444_0; replace p444 := eq_true p444; replace q444 := eq_true q444; have ea_ := Option.some.inj (hx443_0.symm.trans hx444_0); injection ea_ with ea_ en_ ec_; subst ea_; subst ec_; clear en_
     iterate 3 ((try go_quiet (first | (go_at_call 31; (with_reducible refine (matrix_Zero.calls k1 _ _ (rd_L1 l0 x5_1) t445 _ ?side1 ?side2 A7.out).mono ?_); (case side1 => exact kc HR444_0.out); (case side2 => exact HC444_0.out); rintro e w' ⟨rfl, ⟨nd, rfl⟩⟩; (try first | exact ⟨rfl, _, World.drewN_drewN _ _ _⟩ | exact ⟨rfl, _, Eq.trans (World.drewN_drewN _ _ _) (congrArg (World.drewN _) (Nat.add_assoc _ _ _))⟩)))); go_wp2_with (first | (go_at_call 31; (with_reducible refine (matrix_Zero.calls k1 _ _ (rd_L1 l0 x5_1) t445 _ ?side1 ?side2 A7.out).mono ?_); (case side1 => exact kc HR444_0.out); (case side2 => exact HC444_0.out); rintro e w' ⟨rfl, ⟨nd, rfl⟩⟩; (try first | exact ⟨rfl, _, World.drewN_drewN _ _ _⟩ | exact ⟨rfl, _, Eq.trans (World.drewN_drewN _ _ _) (congrArg (World.drewN _) (Nat.add_assoc _ _ _))⟩))))
     go_meet
     case rel => exact ⟨_, (t445), (by first | rfl | (simp; done) | (simp [*]; done)), H', ⟨by have := HK1.out; first | omega | exact Nat.le_refl _⟩, by repeat (first | exact Drawn0.refl _ | apply Drawn0.step)⟩
    rw [if_neg c6] at H; have c6b0 : (((rd_L1 l0 x5_1).length : Int) == (l1.length : Int)) = false := beq_eq_false_iff_ne.mpr c6; have c6b1 : (((rd_L1 l0 x5_1).length : Int) != (l1.length : Int)) = true := bne_iff_ne.mpr c6; have c6b2 : ((rd_L1 l0 x5_1).length == l1.length) = false := by first | simpa using c6 | (simp at c6 ⊢; omega)
    have H' := Aside0.mk H; clear H; have p443 : 0 ≤ (x5_1 : Int) := oa; have q443 : x5_1 < (l0.length : Int) := oa; obtain ⟨ad443, A443_0, c443_0, e443, hx443_0, hl443_0, hi443_0⟩ := at_L1 HR0.out x5_1 p443 q443; cases e443; have HR443_0 := Aside0.mk hi443_0; have HC443_0 := Aside0.mk hl443_0; clear hi443_0 hl443_0; replace p443 := eq_true p443; replace q443 := eq_true q443; go_wp2
    repeat (go_quiet (fail); try go_wp2)
    go_meet
    case rel => exact ⟨_, (true), (by first | rfl | (simp; done) | (simp [*]; done)), H', ⟨by have := HK1.out; first | omega | exact Nat.le_refl _⟩, by repeat (first | exact Drawn0.refl _ | apply Drawn0.step)⟩
   clear HC4; (try clear c3b0); obtain ⟨kq, x30_3, rfl, HA, HJ3, ⟨mc3, rfl⟩⟩ := hcut; cases kq with
   | zero => exact absurd HA.out (by simp [marblerunlaw12_stays.j1])
   | succ kj3 =>
    have H := HA.out; clear HA; simp only [marblerunlaw12_stays.j1] at H
    by_cases c8 : x30_3 = true
    ·subst c8; have H1 : (some false) = some r := by rw [if_pos rfl] at H; exact H
     clear H; have H := H1; clear H1; obtain rfl := Option.some.inj H; go_wp2
     repeat (go_quiet (fail); try go_wp2)
     go_ret; exact ⟨by first | rfl | (simp; done) | (simp [*]; done), by repeat (first | exact Drawn0.refl _ | apply Drawn0.step)⟩
    replace c8 := Bool.eq_false_iff.mpr c8; subst c8; have H1 : (marblerunlaw12_stays.l1 kj3 l0 l1 x5_1 0) = some r := by rw [if_neg (show ¬ (false = true) by decide)] at H; exact H
    clear H; have H := H1; clear H1; have H' := Aside0.mk H; clear H; go_wp2
    repeat (go_quiet (fail); try go_wp2)
    go_loopg [6] kj3 (fun kq v6 w' => ∃ (x6_3 : Int), v6 = .int .i64 x6_3 ∧ Aside0 (marblerunlaw12_stays.l1 kq l0 l1 x5_1 x6_3 = some r) ∧ Aside0 (kq ≤ kj3) ∧ Drawn0 w w')
    case atStart => exact ⟨(0), (by first | rfl | (simp; done) | (simp [*]; done)), H', ⟨Nat.le_refl _⟩, by repeat (first | exact Drawn0.refl _ | apply Drawn0.step)⟩
    clear H'; obtain ⟨x6_3, rfl, HA, HK3, ⟨m3, rfl⟩⟩ := hrel; cases gk with
    | zero => exact absurd HA.out (by simp [marblerunlaw12_stays.l1])
    | succ k3 =>
     have H := HA.out; clear HA; simp only [marblerunlaw12_stays.l1] at H
     by_cases c9 : 0 ≤ x5_1
     case neg => rw [if_neg c9] at H; exact absurd H (by simp)
     rw [if_pos c9] at H; have c9b0 : decide (0 ≤ x5_1) = true := decide_eq_true c9; clear c9
     by_cases c10 : x5_1 < (l0.length : Int)
     case neg => rw [if_neg c10] at H; exact absurd H (by simp)
     rw [if_pos c10] at H; have c10b0 : decide (x5_1 < (l0.length : Int)) = true := decide_eq_true c10; clear c10
     by_cases c11 : x6_3 < ((rd_L1 l0 x5_1).length : Int)
     ·rw [if_pos c11] at H; have c11b0 : decide (x6_3 < ((rd_L1 l0 x5_1).length : Int)) = true := decide_eq_true c11; clear c11
      by_cases c12 : 0 ≤ x6_3
      case neg => rw [if_neg c12] at H; exact absurd H (by simp)
      rw [if_pos c12] at H; have c12b0 : decide (0 ≤ x6_3) = true := decide_eq_true c12; clear c12
      by_cases c13 : (rd (rd_L1 l0 x5_1) x6_3) < 0
      ·rw [if_pos c13] at H; have c13b0 : decide ((rd (rd_L1 l0 x5_1) x6_3) < 0) = true := decide_eq_true c13; clear c13; obtain rfl := Option.some.inj H; have p446 : 0 ≤ (x5_1 : Int) := oa; have q446 : x5_1 < (l0.length : Int) := oa; obtain ⟨ad446, A446_0, c446_0, e446, hx446_0, hl446_0, hi446_0⟩ := at_L1 HR0.out x5_1 p446 q446; cases e446; have HR446_0 := Aside0.mk hi446_0; have HC446_0 := Aside0.mk hl446_0; clear hi446_0 hl446_0; replace p446 := eq_true p446; replace q446 := eq_true q446; have p447 : 0 ≤ (x5_1 : Int) := oa; have q447 : x5_1 < (l0.length : Int) := oa; obtain ⟨ad447, A447_0, c447_0, e447, hx447_0, hl447_0, hi447_0⟩ := at_L1 HR0.out x5_1 p447 q447; obtain rfl : ad446 = ad447 := (by injection e447); have HR447_0 := Aside0.mk hi447_0; have HC447_0 := Aside0.mk hl447_0; clear hi447_0 hl447_0; replace p447 := eq_true p447; replace q447 := eq_true q447; have ea_ := Option.some.inj (hx446_0.symm.trans hx447_0); injection ea_ with ea_ en_ ec_; subst ea_; subst ec_; clear en_; have p448 : 0 ≤ (x6_3 : Int) := oa; have q448 : x6_3 < ((rd_L1 l0 x5_1).length : Int) := oa; obtain ⟨ad448, e448, hx448_0⟩ := Kd.at_int HR447_0.out x6_3 p448 q448; cases e448; replace p448 := eq_true p448; replace q448 := eq_true q448; go_wp2
       repeat (go_quiet (fail); try go_wp2)
       go_ret; exact ⟨by first | rfl | (simp; done) | (simp [*]; done), by repeat (first | exact Drawn0.refl _ | apply Drawn0.step)⟩
      rw [if_neg c13] at H; have c13b0 : decide ((rd (rd_L1 l0 x5_1) x6_3) < 0) = false := decide_eq_false c13; clear c13; have H' := Aside0.mk H; clear H; have p446 : 0 ≤ (x5_1 : Int) := oa; have q446 : x5_1 < (l0.length : Int) := oa; obtain ⟨ad446, A446_0, c446_0, e446, hx446_0, hl446_0, hi446_0⟩ := at_L1 HR0.out x5_1 p446 q446; cases e446; have HR446_0 := Aside0.mk hi446_0; have HC446_0 := Aside0.mk hl446_0; clear hi446_0 hl446_0; replace p446 := eq_true p446; replace q446 := eq_true q446; have p447 : 0 ≤ (x5_1 : Int) := oa; have q447 : x5_1 < (l0.length : Int) := oa; obtain ⟨ad447, A447_0, c447_0, e447, hx447_0, hl447_0, hi447_0⟩ := at_L1 HR0.out x5_1 p447 q447; obtain rfl : ad446 = ad447 := (by injection e447); have HR447_0 := Aside0.mk hi447_0; have HC447_0 := Aside0.mk hl447_0; clear hi447_0 hl447_0; replace p447 := eq_true p447; replace q447 := eq_true q447; have ea_ := Option.some.inj (hx446_0.symm.trans hx447_0); injection ea_ with ea_ en_ ec_; subst ea_; subst ec_; clear en_; have p448 : 0 ≤ (x6_3 : Int) := oa; have q448 : x6_3 < ((rd_L1 l0 x5_1).length : Int) := oa; obtain ⟨ad448, e448, hx448_0⟩ := Kd.at_int HR447_0.out x6_3 p448 q448; cases e448; replace p448 := eq_true p448; replace q448 := eq_true q448; go_wp2
      repeat (go_quiet (fail); try go_wp2)
      go_roundg k3
      case measure => have := HK1.out; have := HJ3.out; have := HK3.out; omega
      case rel => exact ⟨(wrap64 (x6_3 + 1)), (by first | rfl | (simp; done) | (simp [*]; done)), H', ⟨by have := HK1.out; have := HJ3.out; have := HK3.out; omega⟩, by repeat (first | exact Drawn0.refl _ | apply Drawn0.step)⟩
     rw [if_neg c11] at H; have c11b0 : decide (x6_3 < ((rd_L1 l0 x5_1).length : Int)) = false := decide_eq_false c11; clear c11; have H' := Aside0.mk H; clear H; have p446 : 0 ≤ (x5_1 : Int) := oa; have q446 : x5_1 < (l0.length : Int) := oa; obtain ⟨ad446, A446_0, c446_0, e446, hx446_0, hl446_0, hi446_0⟩ := at_L1 HR0.out x5_1 p446 q446; cases e446; have HR446_0 := Aside0.mk hi446_0; have HC446_0 := Aside0.mk hl446_0; clear hi446_0 hl446_0; replace p446 := eq_true p446; replace q446 := eq_true q446; go_wp2
     repeat (go_quiet (fail); try go_wp2)
     go_loopg [7] k3 (fun kq v7 w' => ∃ (x7_4 : Int), v7 = .int .i64 x7_4 ∧ Aside0 (marblerunlaw12_stays.l2 kq l0 l1 x5_1 x7_4 = some r) ∧ Aside0 (kq ≤ k3) ∧ Drawn0 w w')
     case atStart => exact ⟨(0), (by first | rfl | (simp; done) | (simp [*]; done)), H', ⟨Nat.le_refl _⟩, by repeat (first | exact Drawn0.refl _ | apply Drawn0.step)⟩
     clear H'; (try clear c9b0); (try clear c10b0); (try clear c11b0); (try clear hx446_0); (try clear p446); (try clear q446); obtain ⟨x7_4, rfl, HA, HK4, ⟨m4, rfl⟩⟩ := hrel; cases gk with
     | zero => exact absurd HA.out (by simp [marblerunlaw12_stays.l2])
     | succ k4 =>
      have H := HA.out; clear HA; simp only [marblerunlaw12_stays.l2] at H; have HC14 := Aside0.mk H; clear H; go_upto_region 12 with (fail)
      repeat (go_quiet (fail); go_upto_region 12 with (fail))
      go_cut [58] (fun v58 wc => ∃ (kq : Nat) (x58_13 : Bool), v58 = .bool x58_13 ∧ Aside0 (marblerunlaw12_stays.j4 kq l0 l1 x5_1 x7_4 x58_13 = some r) ∧ Aside0 (kq ≤ k4) ∧ Drawn0 w wc)
      case first =>
       have H := HC14.out; clear HC14
       by_cases c15 : (l1.length : Int) > 0
       ·rw [if_pos c15] at H; have c15b0 : decide (0 < (l1.length : Int)) = true := decide_eq_true c15; have c15b1 : decide (0 < l1.length) = true := decide_eq_true (by omega); clear c15; (first | rw [c15b0] | (simp only [i64_w, i32_w]; rw [c15b0]) | skip)
        by_cases c16 : 0 < (l1.length : Int)
        case neg => rw [if_neg c16] at H; exact absurd H (by simp)
        rw [if_pos c16] at H; have c16b0 : decide (0 < (l1.length : Int)) = true := decide_eq_true c16; have c16b1 : decide (0 < l1.length) = true := decide_eq_true (by omega); clear c16; have H' := Aside0.mk H; clear H; have p449 : 0 ≤ (0 : Int) := (by omega); have q449 : 0 < (l1.length : Int) := oa; obtain ⟨ad449, A449_0, c449_0, e449, hx449_0, hl449_0, hi449_0⟩ := at_L1 HR1.out 0 p449 q449; cases e449; have qi449 : (0 < l1.length) = True := eq_true (by omega); (try rw [show ((0 : Int)).toNat = 0 from rfl] at hx449_0); (try rw [Addr.add_zero'] at hx449_0); have HR449_0 := Aside0.mk hi449_0; have HC449_0 := Aside0.mk hl449_0; clear hi449_0 hl449_0; replace p449 := eq_true p449; replace q449 := eq_true q449; go_wp2
        repeat (go_quiet (fail); try go_wp2)
        go_meet
        case rel => exact ⟨_, (decide (x7_4 < ((rd_L1 l1 0).length : Int))), (by first | rfl | (simp; done) | (simp [*]; done)), H', ⟨by have := HK1.out; have := HJ3.out; have := HK3.out; have := HK4.out; first | omega | exact Nat.le_refl _⟩, by repeat (first | exact Drawn0.refl _ | apply Drawn0.step)⟩
       rw [if_neg c15] at H; have c15b0 : decide (0 < (l1.length : Int)) = false := decide_eq_false c15; have c15b1 : decide (0 < l1.length) = false := decide_eq_false (by omega); clear c15; (first | rw [c15b0] | (simp only [i64_w, i32_w]; rw [c15b0]) | skip); have H' := Aside0.mk H; clear H; go_wp2
       repeat (go_quiet (fail); try go_wp2)
       go_meet
       case rel => exact ⟨_, (false), (by first | rfl | (simp; done) | (simp [*]; done)), H', ⟨by have := HK1.out; have := HJ3.out; have := HK3.out; have := HK4.out; first | omega | exact Nat.le_refl _⟩, by repeat (first | exact Drawn0.refl _ | apply Drawn0.step)⟩
      clear HC14; obtain ⟨kq, x58_13, rfl, HA, HJ13, ⟨mc13, rfl⟩⟩ := hcut; cases kq with
      | zero => exact absurd HA.out (by simp [marblerunlaw12_stays.j4])
      | succ kj13 =>
       have H := HA.out; clear HA; simp only [marblerunlaw12_stays.j4] at H
       by_cases c17 : x58_13 = true
       ·subst c17; have H1 : (marblerunlaw12_stays.l3 kj13 l0 l1 x5_1 x7_4 0 0) = some r := by rw [if_pos rfl] at H; exact H
        clear H; have H := H1; clear H1; have H' := Aside0.mk H; clear H; go_wp2
        repeat (go_quiet (fail); try go_wp2)
        go_loopg [8, 9] kj13 (fun kq v8 v9 w' => ∃ (x8_6 : Int) (x9_6 : Int), v8 = .int .i64 x8_6 ∧ v9 = .int .i64 x9_6 ∧ Aside0 (marblerunlaw12_stays.l3 kq l0 l1 x5_1 x7_4 x8_6 x9_6 = some r) ∧ Aside0 (kq ≤ kj13) ∧ Drawn0 w w')
        case atStart => exact ⟨(0), (0), (by first | rfl | (simp; done) | (simp [*]; done)), (by first | rfl | (simp; done) | (simp [*]; done)), H', ⟨Nat.le_refl _⟩, by repeat (first | exact Drawn0.refl _ | apply Drawn0.step)⟩
        clear H'; obtain ⟨x8_6, x9_6, rfl, rfl, HA, HK6, ⟨m6, rfl⟩⟩ := hrel; cases gk with
        | zero => exact absurd HA.out (by simp [marblerunlaw12_stays.l3])
        | succ k6 =>
         have H := HA.out; clear HA; simp only [marblerunlaw12_stays.l3] at H
         by_cases c18 : x9_6 < (l1.length : Int)
         ·rw [if_pos c18] at H; have c18b0 : decide (x9_6 < (l1.length : Int)) = true := decide_eq_true c18; clear c18
          by_cases c19 : 0 ≤ x5_1
          case neg => rw [if_neg c19] at H; exact absurd H (by simp)
          rw [if_pos c19] at H; have c19b0 : decide (0 ≤ x5_1) = true := decide_eq_true c19; clear c19
          by_cases c20 : x5_1 < (l0.length : Int)
          case neg => rw [if_neg c20] at H; exact absurd H (by simp)
          rw [if_pos c20] at H; have c20b0 : decide (x5_1 < (l0.length : Int)) = true := decide_eq_true c20; clear c20
          by_cases c21 : 0 ≤ x9_6
          case neg => rw [if_neg c21] at H; exact absurd H (by simp)
          rw [if_pos c21] at H; have c21b0 : decide (0 ≤ x9_6) = true := decide_eq_true c21; clear c21
          by_cases c22 : x9_6 < ((rd_L1 l0 x5_1).length : Int)
          case neg => rw [if_neg c22] at H; exact absurd H (by simp)
          rw [if_pos c22] at H; have c22b0 : decide (x9_6 < ((rd_L1 l0 x5_1).length : Int)) = true := decide_eq_true c22; clear c22
          by_cases c23 : 0 ≤ x7_4
          case neg => rw [if_neg c23] at H; exact absurd H (by simp)
          rw [if_pos c23] at H; have c23b0 : decide (0 ≤ x7_4) = true := decide_eq_true c23; clear c23
          by_cases c24 : x7_4 < ((rd_L1 l1 x9_6).length : Int)
          case neg => rw [if_neg c24] at H; exact absurd H (by simp)
          rw [if_pos c24] at H; have c24b0 : decide (x7_4 < ((rd_L1 l1 x9_6).length : Int)) = true := decide_eq_true c24; clear c24; have H' := Aside0.mk H; clear H; have p450 : 0 ≤ (x5_1 : Int) := oa; have q450 : x5_1 < (l0.length : Int) := oa; obtain ⟨ad450, A450_0, c450_0, e450, hx450_0, hl450_0, hi450_0⟩ := at_L1 HR0.out x5_1 p450 q450; obtain rfl : ad446 = ad450 := (by injection e450); have HR450_0 := Aside0.mk hi450_0; have HC450_0 := Aside0.mk hl450_0; clear hi450_0 hl450_0; replace p450 := eq_true p450; replace q450 := eq_true q450; have p451 : 0 ≤ (x9_6 : Int) := oa; have q451 : x9_6 < ((rd_L1 l0 x5_1).length : Int) := oa; obtain ⟨ad451, e451, hx451_0⟩ := Kd.at_int HR450_0.out x9_6 p451 q451; cases e451; replace p451 := eq_true p451; replace q451 := eq_true q451; have p452 : 0 ≤ (x9_6 : Int) := oa; have q452 : x9_6 < (l1.length : Int) := oa; obtain ⟨ad452, A452_0, c452_0, e452, hx452_0, hl452_0, hi452_0⟩ := at_L1 HR1.out x9_6 p452 q452; cases e452; have HR452_0 := Aside0.mk hi452_0; have HC452_0 := Aside0.mk hl452_0; clear hi452_0 hl452_0; replace p452 := eq_true p452; replace q452 := eq_true q452; have p453 : 0 ≤ (x7_4 : Int) := oa; have q453 : x7_4 < ((rd_L1 l1 x9_6).length : Int) := oa; obtain ⟨ad453, e453, hx453_0⟩ := Kd.at_int HR452_0.out x7_4 p453 q453; cases e453; replace p453 := eq_true p453; replace q453 := eq_true q453; go_wp2
          repeat (go_quiet (fail); try go_wp2)
          go_roundg k6
          case measure => have := HK1.out; have := HJ3.out; have := HK3.out; have := HK4.out; have := HJ13.out; have := HK6.out; omega
          case rel => exact ⟨(wrap64 (x8_6 + (wrap64 ((rd (rd_L1 l0 x5_1) x9_6) * (rd (rd_L1 l1 x9_6) x7_4))))), (wrap64 (x9_6 + 1)), (by first | rfl | (simp; done) | (simp [*]; done)), (by first | rfl | (simp; done) | (simp [*]; done)), H', ⟨by have := HK1.out; have := HJ3.out; have := HK3.out; have := HK4.out; have := HJ13.out; have := HK6.out; omega⟩, by repeat (first | exact Drawn0.refl _ | apply Drawn0.step)⟩
         rw [if_neg c18] at H; have c18b0 : decide (x9_6 < (l1.length : Int)) = false := decide_eq_false c18; clear c18
         by_cases c25 : x8_6 = 0
         ·rw [if_pos c25] at H; have c25b0 : (x8_6 == 0) = true := beq_iff_eq.mpr c25; have c25b1 : (x8_6 != 0) = false := bne_eq_false_iff_eq.mpr c25; clear c25; have H' := Aside0.mk H; clear H; go_wp2
          repeat (go_quiet (fail); try go_wp2)
          go_roundg k6
          case measure => have := HK1.out; have := HJ3.out; have := HK3.out; have := HK4.out; have := HJ13.out; have := HK6.out; omega
          case rel => exact ⟨(wrap64 (x7_4 + 1)), (by first | rfl | (simp; done) | (simp [*]; done)), H', ⟨by have := HK1.out; have := HJ3.out; have := HK3.out; have := HK4.out; have := HJ13.out; have := HK6.out; omega⟩, by repeat (first | exact Drawn0.refl _ | apply Drawn0.step)⟩
         rw [if_neg c25] at H; have c25b0 : (x8_6 == 0) = false := beq_eq_false_iff_ne.mpr c25; have c25b1 : (x8_6 != 0) = true := bne_iff_ne.mpr c25; obtain rfl := Option.some.inj H; go_wp2
         repeat (go_quiet (fail); try go_wp2)
         go_ret; exact ⟨by first | rfl | (simp; done) | (simp [*]; done), by repeat (first | exact Drawn0.refl _ | apply Drawn0.step)⟩
       replace c17 := Bool.eq_false_iff.mpr c17; subst c17; have H1 : (marblerunlaw12_stays.l0 kj13 l0 l1 (wrap64 (x5_1 + 1))) = some r := by rw [if_neg (show ¬ (false = true) by decide)] at H; exact H
       clear H; have H := H1; clear H1; have H' := Aside0.mk H; clear H; go_wp2
       repeat (go_quiet (fail); try go_wp2)
       go_roundg kj13
       case measure => have := HK1.out; have := HJ3.out; have := HK3.out; have := HK4.out; have := HJ13.out; omega
       case rel => exact ⟨(wrap64 (x5_1 + 1)), (by first | rfl | (simp; done) | (simp [*]; done)), H', ⟨by have := HK1.out; have := HJ3.out; have := HK3.out; have := HK4.out; have := HJ13.out; omega⟩, by repeat (first | exact Drawn0.refl _ | apply Drawn0.step)⟩
  rw [if_neg c3] at H; have c3b0 : decide (x5_1 < (l0.length : Int)) = false := decide_eq_false c3; clear c3; obtain rfl := Option.some.inj H; go_wp2
  repeat (go_quiet (fail); try go_wp2)
  go_ret; exact ⟨by first | rfl | (simp; done) | (simp [*]; done), by repeat (first | exact Drawn0.refl _ | apply Drawn0.step)⟩

end Go.Proofs.Ytifbflpaednfnaa.PBasisRaw
