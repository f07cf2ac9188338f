/- What the functions that this law reaches answer, in whatever memory, and the row of the law; no condition. Written by a program of this session (mk.sh). -/
import Derived.Test.YtifbflpaednfnaaPBasisRingx0
import Derived.Test.YtifbflpaednfnaaPBasisRingx9
import Derived.Test.YtifbflpaednfnaaPBasisRingx10
namespace Go.Proofs.Ytifbflpaednfnaa.PBasisRing
open Go.RowKit Go.Proofs.YtifbflpaednfnaaW.PrintWords Go.Proofs.YtifbflpaednfnaaW.PrintLast Go.Proofs.YtifbflpaednfnaaW.PrintMore
attribute [local go_sem] max2_int min2_int max_two min_two max_three min_three max_four min_four   -- for this text's walks alone
set_option linter.unusedVariables false
set_option linter.unusedSimpArgs false

/-! ### marblerunlaw12_BasisRing: function 8 -/
mutual
def marblerunlaw12_BasisRing.l0 : Nat → Int → Int → List (S46) → List (S54) → Option (Bool)
  | 0, _, _, _, _ => none
  | k + 1, x3, x5, x352000, x352001 => if x5 < x3 then ((some (([(wrap64 (97 + x5)) % 256] : List Int) : List Int)).bind fun y352 => (if 1 + (strOfNums y352).size ≤ 9223372036854775807 then (if x352000.length < 5864062014805 then ((some (([(wrap64 (97 + x5)) % 256] : List Int) : List Int)).bind fun y358 => (if 1 + (strOfNums y358).size ≤ 9223372036854775807 then (if x3 = 0 then (none) else (if x352001.length < 1353245080339 then (marblerunlaw12_BasisRing.l0 k x3 (wrap64 (x5 + 1)) (x352000 ++ [(⟨(⟨#[113]⟩ : ByteArray) ++ (strOfNums y352), 0⟩ : S46)]) (x352001 ++ [(⟨(⟨#[116]⟩ : ByteArray) ++ (strOfNums y358), 0, 0, (([(⟨x5, 1⟩ : S51)] : List (S51))), ([] : List (S51)), (([(⟨Int.tmod (wrap64 (x5 + 1)) x3, 1⟩ : S51)] : List (S51)))⟩ : S54)])) else (none))) else (none))) else (none)) else (none))) else ((basis_Places.f k x352000 x352001).bind fun bt370 => ((basis_Trans.f k x352000 x352001).bind fun bt374 => (if bt370.2 = 0 then (if bt374.2 = 0 then (if (bt370.1.length : Int) = 1 then (if (bt374.1.length : Int) = 1 then (if 0 < (bt370.1.length : Int) then (if ((rd_L1 bt370.1 0).length : Int) = x3 then (if 0 < (bt374.1.length : Int) then (marblerunlaw12_BasisRing.j1 k x3 bt370.1 bt374.1 (((rd_L1 bt374.1 0).length : Int) != x3)) else (none)) else (marblerunlaw12_BasisRing.j1 k x3 bt370.1 bt374.1 true)) else (none)) else (marblerunlaw12_BasisRing.j1 k x3 bt370.1 bt374.1 true)) else (marblerunlaw12_BasisRing.j1 k x3 bt370.1 bt374.1 true)) else (marblerunlaw12_BasisRing.j1 k x3 bt370.1 bt374.1 true)) else (marblerunlaw12_BasisRing.j1 k x3 bt370.1 bt374.1 true))))
def marblerunlaw12_BasisRing.j1 : Nat → Int → List (List Int) → List (List Int) → Bool → Option (Bool)
  | 0, _, _, _, _ => none
  | k + 1, x3, x6, x8, x94 => if x94 = true then (some false) else (marblerunlaw12_BasisRing.l1 k x3 x6 x8 0)
def marblerunlaw12_BasisRing.l1 : Nat → Int → List (List Int) → List (List Int) → Int → Option (Bool)
  | 0, _, _, _, _ => none
  | k + 1, x3, x6, x8, x10 => if x10 < x3 then (if 0 < (x6.length : Int) then (if 0 ≤ x10 then (if x10 < ((rd_L1 x6 0).length : Int) then (if (rd (rd_L1 x6 0) x10) = 1 then (if 0 < (x8.length : Int) then (if x10 < ((rd_L1 x8 0).length : Int) then (if (rd (rd_L1 x8 0) x10) = 1 then (marblerunlaw12_BasisRing.l1 k x3 x6 x8 (wrap64 (x10 + 1))) else (some false)) else (none)) else (none)) else (some false)) else (none)) else (none)) else (none)) else ((marblerunlaw12_awake.f k).bind fun t384 => (some t384))
end
def marblerunlaw12_BasisRing.f (k : Nat) (a0 : Int) : Option (Bool) := marblerunlaw12_BasisRing.l0 k (wrap64 (1 + (wrap64 (Int.tmod a0 20)))) 0 ([] : List (S46)) ([] : List (S54))
theorem marblerunlaw12_BasisRing.mono_l : ∀ k, (∀ y0 y1 y2 y3, LeO (marblerunlaw12_BasisRing.l0 k y0 y1 y2 y3) (marblerunlaw12_BasisRing.l0 (k + 1) y0 y1 y2 y3)) ∧ (∀ y0 y1 y2 y3, LeO (marblerunlaw12_BasisRing.j1 k y0 y1 y2 y3) (marblerunlaw12_BasisRing.j1 (k + 1) y0 y1 y2 y3)) ∧ (∀ y0 y1 y2 y3, LeO (marblerunlaw12_BasisRing.l1 k y0 y1 y2 y3) (marblerunlaw12_BasisRing.l1 (k + 1) y0 y1 y2 y3))
  | 0 => ⟨fun _ _ _ _ r h => by simp [marblerunlaw12_BasisRing.l0] at h, fun _ _ _ _ r h => by simp [marblerunlaw12_BasisRing.j1] at h, fun _ _ _ _ r h => by simp [marblerunlaw12_BasisRing.l1] at h⟩
  | k + 1 => by
    obtain ⟨ih0, ih1, ih2⟩ := marblerunlaw12_BasisRing.mono_l k
    refine ⟨?_, ?_, ?_⟩
    · intro y0 y1 y2 y3
      unfold marblerunlaw12_BasisRing.l0
      repeat' first
      | (with_reducible exact ih0 _ _ _ _)
      | (with_reducible exact ih1 _ _ _ _)
      | (with_reducible exact ih2 _ _ _ _)
      | (with_reducible exact basis_Places.mono _ _ _)
      | (with_reducible exact basis_Trans.mono _ _ _)
      | (with_reducible exact marblerunlaw12_awake.mono _)
      | (with_reducible exact LeO.refl _)
      | (with_reducible exact LeO.none _)
      | (with_reducible refine LeO.ite ?_ ?_)
      | (with_reducible refine LeO.bind ?_ (fun _ => ?_))
      | exact ih0 _ _ _ _
      | exact ih1 _ _ _ _
      | exact ih2 _ _ _ _
      | exact basis_Places.mono _ _ _
      | exact basis_Trans.mono _ _ _
      | exact marblerunlaw12_awake.mono _
      | exact LeO.none _
      | refine LeO.ite ?_ ?_
      | refine LeO.bind ?_ (fun _ => ?_)
    · intro y0 y1 y2 y3
      unfold marblerunlaw12_BasisRing.j1
      repeat' first
      | (with_reducible exact ih0 _ _ _ _)
      | (with_reducible exact ih1 _ _ _ _)
      | (with_reducible exact ih2 _ _ _ _)
      | (with_reducible exact basis_Places.mono _ _ _)
      | (with_reducible exact basis_Trans.mono _ _ _)
      | (with_reducible exact marblerunlaw12_awake.mono _)
      | (with_reducible exact LeO.refl _)
      | (with_reducible exact LeO.none _)
      | (with_reducible refine LeO.ite ?_ ?_)
      | (with_reducible refine LeO.bind ?_ (fun _ => ?_))
      | exact ih0 _ _ _ _
      | exact ih1 _ _ _ _
      | exact ih2 _ _ _ _
      | exact basis_Places.mono _ _ _
      | exact basis_Trans.mono _ _ _
      | exact marblerunlaw12_awake.mono _
      | exact LeO.none _
      | refine LeO.ite ?_ ?_
      | refine LeO.bind ?_ (fun _ => ?_)
    · intro y0 y1 y2 y3
      unfold marblerunlaw12_BasisRing.l1
      repeat' first
      | (with_reducible exact ih0 _ _ _ _)
      | (with_reducible exact ih1 _ _ _ _)
      | (with_reducible exact ih2 _ _ _ _)
      | (with_reducible exact basis_Places.mono _ _ _)
      | (with_reducible exact basis_Trans.mono _ _ _)
      | (with_reducible exact marblerunlaw12_awake.mono _)
      | (with_reducible exact LeO.refl _)
      | (with_reducible exact LeO.none _)
      | (with_reducible refine LeO.ite ?_ ?_)
      | (with_reducible refine LeO.bind ?_ (fun _ => ?_))
      | exact ih0 _ _ _ _
      | exact ih1 _ _ _ _
      | exact ih2 _ _ _ _
      | exact basis_Places.mono _ _ _
      | exact basis_Trans.mono _ _ _
      | exact marblerunlaw12_awake.mono _
      | exact LeO.none _
      | refine LeO.ite ?_ ?_
      | refine LeO.bind ?_ (fun _ => ?_)
theorem marblerunlaw12_BasisRing.mono : ∀ a0 k, LeO (marblerunlaw12_BasisRing.f k a0) (marblerunlaw12_BasisRing.f (k + 1) a0) := by
  intro a0 k
  obtain ⟨ih0, ih1, ih2⟩ := marblerunlaw12_BasisRing.mono_l k
  unfold marblerunlaw12_BasisRing.f
  repeat' first
      | (with_reducible exact ih0 _ _ _ _)
      | (with_reducible exact ih1 _ _ _ _)
      | (with_reducible exact ih2 _ _ _ _)
      | (with_reducible exact basis_Places.mono _ _ _)
      | (with_reducible exact basis_Trans.mono _ _ _)
      | (with_reducible exact marblerunlaw12_awake.mono _)
      | (with_reducible exact LeO.refl _)
      | (with_reducible exact LeO.none _)
      | (with_reducible refine LeO.ite ?_ ?_)
      | (with_reducible refine LeO.bind ?_ (fun _ => ?_))
      | exact ih0 _ _ _ _
      | exact ih1 _ _ _ _
      | exact ih2 _ _ _ _
      | exact basis_Places.mono _ _ _
      | exact basis_Trans.mono _ _ _
      | exact marblerunlaw12_awake.mono _
      | exact LeO.none _
      | refine LeO.ite ?_ ?_
      | refine LeO.bind ?_ (fun _ => ?_)
def marblerunlaw12_BasisRing.T7 : Bool × List (List Nat × List Nat) := (true, [([], []), ([0], [0]), ([], []), ([2], [2]), ([3], [3]), ([4], [4]), ([5], [5]), ([6], [6]), ([], []), ([8], [8]), ([9], [9]), ([], []), ([11], [11]), ([], []), ([12, 13], [12, 13]), ([14], [14]), ([15], [15]), ([7, 10, 16], [7, 10, 16]), ([17], [17]), ([1, 18], [1, 18]), ([0, 1, 2, 3, 4, 5, 6, 7, 8, 9, 10, 11, 12, 13, 14, 15, 16, 17, 18, 19], []), ([20, 19, 19, 0, 1, 2, 3, 4, 5, 6, 7, 8, 9, 10, 11, 12, 13, 14, 15, 16, 17, 18, 19], [19, 20])])
def marblerunlaw12_BasisRing.B7 : List Nat := [0, 1, 0, 4, 12, 28, 60, 124, 0, 256, 768, 0, 2048, 0, 14336, 30720, 63488, 131068, 262140, 524287, 1048575, 2097151]
theorem marblerunlaw12_BasisRing.tab7 : rtab .any (opsOf Try.f8 7) = marblerunlaw12_BasisRing.T7 := by kernel_rfl
theorem marblerunlaw12_BasisRing.bits7 : waitsOk marblerunlaw12_BasisRing.T7.2 marblerunlaw12_BasisRing.B7 = true := by kernel_rfl
set_option maxHeartbeats 8000000 in
set_option maxRecDepth 100000 in
theorem marblerunlaw12_BasisRing.calls (k : Nat) (a0 : Int) (r : Bool) (w : World) (h : marblerunlaw12_BasisRing.f k a0 = some r) :
    Calls Try.prog 8 #[.int .u8 a0] w fun e w' => e = .returned (.bool r) ∧ Below w.heap.size w w' := by
  have hu31 := Try.underlying31
  have hu46 := Try.underlying46
  have hu51 := Try.underlying51
  have hu54 := Try.underlying54
  have HB := Aside0.mk (Below.refl w.heap.size w)
  have H : (marblerunlaw12_BasisRing.l0 k (wrap64 (1 + (wrap64 (Int.tmod a0 20)))) 0 ([] : List (S46)) ([] : List (S54))) = some r := h
  clear h
  have H' := Aside0.mk H
  clear H
  go_enter Try.func8, Try.ntmps8
  go_wp2_with (first | ((with_reducible refine gate_dst (N := 4) rfl ?_); (try (refine gate_guard (by rfl) ?_; dsimp only)); refine box_event ?hg (N := 4) ?hd (cs := #[.slice none 0 0, .slice none 0 0]) (t := 31) ?hr ?_; (case hd => rfl); (case hg => rfl); (case hr => first | (go_simp; done) | (go_simp; rfl)); intro gb351 hg w2 hbox hb; have n0_ := Aside0.mk (below_step (by repeat (first | (with_reducible first | exact HB.out | apply below_alloc | apply pw_below_drewN | apply below_drew1) | exact HB.out)) hb); have n1_ := Aside0.mk (hbox); have n2_ := Aside0.mk ((by rw [hg]; exact (below_size (by repeat (first | (with_reducible first | exact HB.out | apply below_alloc | apply pw_below_drewN | apply below_drew1) | exact HB.out))) : w.heap.size ≤ gb351)); have n3_ := Aside0.mk ((by rw [hg]; exact (below_size (by repeat (first | (with_reducible first | exact HB.out | apply below_alloc | apply pw_below_drewN | apply below_drew1) | exact HB.out))) : w.heap.size ≤ gb351)); clear HB; have HB := n0_; have BK351 := n1_; have GW351 := n2_; have GE351 := n3_; clear n0_ n1_ n2_ n3_; clear hb hbox hg))
  go_loopg [5] k (fun kq v5 w' => ∃ (x5_1 : Int) (x352000_1 : List (S46)) (x352001_1 : List (S54)) (u352000 : Value) (u352001 : Value), v5 = .int .i64 x5_1 ∧ Aside0 (marblerunlaw12_BasisRing.l0 kq (wrap64 (1 + (wrap64 (Int.tmod a0 20)))) x5_1 x352000_1 x352001_1 = some r) ∧ Aside0 (kq ≤ k) ∧ Aside0 (Kd.R k46 46 w' w.heap.size (fun _ => True) u352000 x352000_1) ∧ Aside0 (Kd.N k54 54 w' w.heap.size (fun k_ => some k_ ≠ (u352000 : Value).ownBlock ∧ k_ ≠ gb351) u352001 x352001_1) ∧ Aside0 (w'.heap[gb351]? = some (.cells #[u352000, u352001] 31 (0, 0))) ∧ Aside0 (Below w.heap.size w w'))
  case atStart => exact ⟨(0), (([] : List (S46))), (([] : List (S54))), (.slice none 0 0), (.slice none 0 0), (by first | rfl | (simp; done) | (simp [*]; done)), H', ⟨Nat.le_refl _⟩, ⟨by first | exact Kd.R_nil _ _ _ _ _ | exact Kd.N_nil _ _ _ _ _ | exact Kd.V_nil _ _ _ _ _ | exact Kd.Q_nil _ _ _ _ _ | exact Kd.S_nil _ _ _ _ _⟩, ⟨by first | exact Kd.S_nil _ _ _ _ _ | exact Kd.N_nil _ _ _ _ _ | exact Kd.V_nil _ _ _ _ _ | exact Kd.Q_nil _ _ _ _ _ | exact Kd.R_nil _ _ _ _ _⟩, ⟨by (with_reducible repeat (first | refine blk_drewN ?_ _ | refine blk_drew ?_ | refine blk_alloc ?_ _)); exact BK351.out⟩, ⟨by repeat (first | (with_reducible first | exact HB.out | apply below_alloc | apply pw_below_drewN | apply below_drew1 | refine below_set ?_ GE351.out) | exact HB.out)⟩⟩
  clear H'
  try clear p2
  obtain ⟨x5_1, x352000_1, x352001_1, u352000, u352001, rfl, HA, HK1, HO_352000, HO_352001, BK351, HB⟩ := hrel
  cases gk with
  | zero => exact absurd HA.out (by simp [marblerunlaw12_BasisRing.l0])
  | succ k1 =>
    have H := HA.out
    clear HA
    simp only [marblerunlaw12_BasisRing.l0] at H
    by_cases c3 : x5_1 < (wrap64 (1 + (wrap64 (Int.tmod a0 20))))
    · rw [if_pos c3] at H
      have c3b0 : decide (x5_1 < (wrap64 (1 + (wrap64 (Int.tmod a0 20))))) = true := decide_eq_true c3
      clear c3
      obtain ⟨y352, hy352⟩ : ∃ y_ : List Int, y_ = (([(wrap64 (97 + x5_1)) % 256] : List Int)) := ⟨_, rfl⟩
      replace H : (if 1 + (strOfNums y352).size ≤ 9223372036854775807 then (if x352000_1.length < 5864062014805 then ((some (([(wrap64 (97 + x5_1)) % 256] : List Int) : List Int)).bind fun y358 => (if 1 + (strOfNums y358).size ≤ 9223372036854775807 then (if (wrap64 (1 + (wrap64 (Int.tmod a0 20)))) = 0 then (none) else (if x352001_1.length < 1353245080339 then (marblerunlaw12_BasisRing.l0 k1 (wrap64 (1 + (wrap64 (Int.tmod a0 20)))) (wrap64 (x5_1 + 1)) (x352000_1 ++ [(⟨(⟨#[113]⟩ : ByteArray) ++ (strOfNums y352), 0⟩ : S46)]) (x352001_1 ++ [(⟨(⟨#[116]⟩ : ByteArray) ++ (strOfNums y358), 0, 0, (([(⟨x5_1, 1⟩ : S51)] : List (S51))), ([] : List (S51)), (([(⟨Int.tmod (wrap64 (x5_1 + 1)) (wrap64 (1 + (wrap64 (Int.tmod a0 20)))), 1⟩ : S51)] : List (S51)))⟩ : S54)])) else (none))) else (none))) else (none)) else (none)) = some r := by first | (rw [hy352]; with_reducible exact H) | (have H2_ := (Option.bind_some _ _).symm.trans H; rw [hy352]; with_reducible exact H2_) | (have H2_ := (Option.bind_some _ _).symm.trans H; with_reducible exact H2_) | with_reducible exact H | (rw [hy352]; exact H) | exact H
      have Ny352 := Aside0.mk hy352
      clear hy352
      by_cases c4 : 1 + (strOfNums y352).size ≤ 9223372036854775807
      case neg => rw [if_neg c4] at H; exact absurd H (by simp)
      rw [if_pos c4] at H
      have c4b0 := eq_true c4
      have c4b1 : decide (1 + (strOfNums y352).size ≤ 9223372036854775807) = true := decide_eq_true c4
      try have c4b2 : (9223372036854775807 < 1 + (strOfNums y352).size) = False := eq_false (Nat.not_lt.2 c4)
      by_cases c5 : x352000_1.length < 5864062014805
      case neg => rw [if_neg c5] at H; exact absurd H (by simp)
      rw [if_pos c5] at H
      have LMc5 := Aside0.mk c5
      clear c5
      obtain ⟨y355, hy355⟩ : ∃ y_ : List (S46), y_ = (x352000_1 ++ [(⟨(⟨#[113]⟩ : ByteArray) ++ (strOfNums y352), 0⟩ : S46)]) := ⟨_, rfl⟩
      replace H : ((some (([(wrap64 (97 + x5_1)) % 256] : List Int) : List Int)).bind fun y358 => (if 1 + (strOfNums y358).size ≤ 9223372036854775807 then (if (wrap64 (1 + (wrap64 (Int.tmod a0 20)))) = 0 then (none) else (if x352001_1.length < 1353245080339 then (marblerunlaw12_BasisRing.l0 k1 (wrap64 (1 + (wrap64 (Int.tmod a0 20)))) (wrap64 (x5_1 + 1)) y355 (x352001_1 ++ [(⟨(⟨#[116]⟩ : ByteArray) ++ (strOfNums y358), 0, 0, (([(⟨x5_1, 1⟩ : S51)] : List (S51))), ([] : List (S51)), (([(⟨Int.tmod (wrap64 (x5_1 + 1)) (wrap64 (1 + (wrap64 (Int.tmod a0 20)))), 1⟩ : S51)] : List (S51)))⟩ : S54)])) else (none))) else (none))) = some r := by first | (rw [hy355]; with_reducible exact H) | (have H2_ := (Option.bind_some _ _).symm.trans H; rw [hy355]; with_reducible exact H2_) | (have H2_ := (Option.bind_some _ _).symm.trans H; with_reducible exact H2_) | with_reducible exact H | (rw [hy355]; exact H) | exact H
      have Ny355 := Aside0.mk hy355
      clear hy355
      obtain ⟨y358, hy358⟩ : ∃ y_ : List Int, y_ = (([(wrap64 (97 + x5_1)) % 256] : List Int)) := ⟨_, rfl⟩
      replace H : (if 1 + (strOfNums y358).size ≤ 9223372036854775807 then (if (wrap64 (1 + (wrap64 (Int.tmod a0 20)))) = 0 then (none) else (if x352001_1.length < 1353245080339 then (marblerunlaw12_BasisRing.l0 k1 (wrap64 (1 + (wrap64 (Int.tmod a0 20)))) (wrap64 (x5_1 + 1)) y355 (x352001_1 ++ [(⟨(⟨#[116]⟩ : ByteArray) ++ (strOfNums y358), 0, 0, (([(⟨x5_1, 1⟩ : S51)] : List (S51))), ([] : List (S51)), (([(⟨Int.tmod (wrap64 (x5_1 + 1)) (wrap64 (1 + (wrap64 (Int.tmod a0 20)))), 1⟩ : S51)] : List (S51)))⟩ : S54)])) else (none))) else (none)) = some r := by first | (rw [hy358]; with_reducible exact H) | (have H2_ := (Option.bind_some _ _).symm.trans H; rw [hy358]; with_reducible exact H2_) | (have H2_ := (Option.bind_some _ _).symm.trans H; with_reducible exact H2_) | with_reducible exact H | (rw [hy358]; exact H) | exact H
      have Ny358 := Aside0.mk hy358
      clear hy358
      by_cases c6 : 1 + (strOfNums y358).size ≤ 9223372036854775807
      case neg => rw [if_neg c6] at H; exact absurd H (by simp)
      rw [if_pos c6] at H
      have c6b0 := eq_true c6
      have c6b1 : decide (1 + (strOfNums y358).size ≤ 9223372036854775807) = true := decide_eq_true c6
      try have c6b2 : (9223372036854775807 < 1 + (strOfNums y358).size) = False := eq_false (Nat.not_lt.2 c6)
      obtain ⟨y361, hy361⟩ : ∃ y_ : List (S51), y_ = (([(⟨x5_1, 1⟩ : S51)] : List (S51))) := ⟨_, rfl⟩
      replace H : (if (wrap64 (1 + (wrap64 (Int.tmod a0 20)))) = 0 then (none) else (if x352001_1.length < 1353245080339 then (marblerunlaw12_BasisRing.l0 k1 (wrap64 (1 + (wrap64 (Int.tmod a0 20)))) (wrap64 (x5_1 + 1)) y355 (x352001_1 ++ [(⟨(⟨#[116]⟩ : ByteArray) ++ (strOfNums y358), 0, 0, y361, ([] : List (S51)), (([(⟨Int.tmod (wrap64 (x5_1 + 1)) (wrap64 (1 + (wrap64 (Int.tmod a0 20)))), 1⟩ : S51)] : List (S51)))⟩ : S54)])) else (none))) = some r := by first | (rw [hy361]; with_reducible exact H) | (have H2_ := (Option.bind_some _ _).symm.trans H; rw [hy361]; with_reducible exact H2_) | (have H2_ := (Option.bind_some _ _).symm.trans H; with_reducible exact H2_) | with_reducible exact H | (rw [hy361]; exact H) | exact H
      have Ny361 := Aside0.mk hy361
      clear hy361
      by_cases c7 : (wrap64 (1 + (wrap64 (Int.tmod a0 20)))) = 0
      case pos => rw [if_pos c7] at H; exact absurd H (by simp)
      rw [if_neg c7] at H
      have c7b0 : ((wrap64 (1 + (wrap64 (Int.tmod a0 20)))) == 0) = false := beq_eq_false_iff_ne.mpr c7
      have c7b1 : ((wrap64 (1 + (wrap64 (Int.tmod a0 20)))) != 0) = true := bne_iff_ne.mpr c7
      obtain ⟨y364, hy364⟩ : ∃ y_ : List (S51), y_ = (([(⟨Int.tmod (wrap64 (x5_1 + 1)) (wrap64 (1 + (wrap64 (Int.tmod a0 20)))), 1⟩ : S51)] : List (S51))) := ⟨_, rfl⟩
      replace H : (if x352001_1.length < 1353245080339 then (marblerunlaw12_BasisRing.l0 k1 (wrap64 (1 + (wrap64 (Int.tmod a0 20)))) (wrap64 (x5_1 + 1)) y355 (x352001_1 ++ [(⟨(⟨#[116]⟩ : ByteArray) ++ (strOfNums y358), 0, 0, y361, ([] : List (S51)), y364⟩ : S54)])) else (none)) = some r := by first | (rw [hy364]; with_reducible exact H) | (have H2_ := (Option.bind_some _ _).symm.trans H; rw [hy364]; with_reducible exact H2_) | (have H2_ := (Option.bind_some _ _).symm.trans H; with_reducible exact H2_) | with_reducible exact H | (rw [hy364]; exact H) | exact H
      have Ny364 := Aside0.mk hy364
      clear hy364
      by_cases c8 : x352001_1.length < 1353245080339
      case neg => rw [if_neg c8] at H; exact absurd H (by simp)
      rw [if_pos c8] at H
      have LMc8 := Aside0.mk c8
      clear c8
      obtain ⟨y367, hy367⟩ : ∃ y_ : List (S54), y_ = (x352001_1 ++ [(⟨(⟨#[116]⟩ : ByteArray) ++ (strOfNums y358), 0, 0, y361, ([] : List (S51)), y364⟩ : S54)]) := ⟨_, rfl⟩
      replace H : (marblerunlaw12_BasisRing.l0 k1 (wrap64 (1 + (wrap64 (Int.tmod a0 20)))) (wrap64 (x5_1 + 1)) y355 y367) = some r := by first | (rw [hy367]; with_reducible exact H) | (have H2_ := (Option.bind_some _ _).symm.trans H; rw [hy367]; with_reducible exact H2_) | (have H2_ := (Option.bind_some _ _).symm.trans H; with_reducible exact H2_) | with_reducible exact H | (rw [hy367]; exact H) | exact H
      have Ny367 := Aside0.mk hy367
      clear hy367
      have H' := Aside0.mk H
      clear H
      have hcz9_0 : wr.cell? ⟨gb351, 0, none⟩ = some (u352000) := (blk_cell BK351.out 0).trans rfl
      have hcz9_1 : wr.cell? ⟨gb351, 1, none⟩ = some (u352001) := (blk_cell BK351.out 1).trans rfl
      have hfz9_0 := blk_frozen BK351.out 0
      have hfz9_1 := blk_frozen BK351.out 1
      try go_wp2_with (first | ((with_reducible refine gate_dst (N := 25) rfl ?_); (try (refine gate_guard (by rfl) ?_; dsimp only)); refine Kd.R_lit (Kd.int .u8) _ 5 ?hg (N := 25) ?hd (xs := ([(wrap64 (97 + x5_1)) % 256] : List Int)) (inner := [.int .u8 ((wrap64 (97 + x5_1)) % 256)]) (ok := fun _ => True) (okp := fun _ => True) ?hr ?hp (fun _ hk => hk) trivial (Below.refl _ _) (Nat.le_refl _) (by simp) ?_; (case hd => rfl); (case hg => rfl); (case hr => first | (go_simp; done) | (go_simp; rfl)); (case hp => exact (Reps.one (show Kd.M (Kd.int .u8) _ _ _ ((wrap64 (97 + x5_1)) % 256) [.int .u8 ((wrap64 (97 + x5_1)) % 256)] from rfl) (Reps.none _ _))); intro v353 w10 ho11 hb hg_ hnew_; clear hg_ hnew_; (first | rw [← Ny352.out] at ho11 | (simp only [Int.reduceToNat] at ho11; rw [← Ny352.out] at ho11)); have n0_ := Aside0.mk (Kd.R_below (kq_R HO_352000.out) hb); have n1_ := Aside0.mk (Kd.N_elder' (kq_N HO_352001.out) (Kd.R_base ho11) hb); have n2_ := Aside0.mk (Kd.R_lower ho11 (below_size (by repeat (first | (with_reducible first | exact HB.out | apply below_alloc | apply pw_below_drewN | apply below_drew1 | refine below_set ?_ GE351.out) | exact HB.out)))); have n3_ := Aside0.mk (blk_below (g := gb351) (o := .cells #[u352000, u352001] 31 (0, 0)) (bkq BK351.out) hb); have n4_ := Aside0.mk (below_step (by repeat (first | (with_reducible first | exact HB.out | apply below_alloc | apply pw_below_drewN | apply below_drew1 | refine below_set ?_ GE351.out) | exact HB.out)) hb); clear HO_352000; clear HO_352001; clear BK351; clear HB; have HO_352000 := n0_; have HO_352001 := n1_; have HO354 := n2_; have BK351 := n3_; have HB := n4_; clear n0_ n1_ n2_ n3_ n4_; clear hb ho11; have hcv12 := own_string (P := Try.prog) Try.underlying22 Try.underlying5 Try.underlying9 (Kd.own_of_R HO354.out)) | ((with_reducible refine gate_builtin (b := .append) (xs := #[.tmp 21, .tmp 29]) rfl ?_); (try (refine gate_guard (by rfl) ?_; dsimp only)); at_builtin; refine Kd.R_append k46 (w0 := w) w.heap.size rfl (.tmp 21) (.tmp 29) 28 46 (.agg #[(.string ⟨#[]⟩), (.int .i64 0)]) 24 rfl Try.underlying28 info46 rfl (by decide) (by omega) u352000 x352000_1 (⟨(⟨#[113]⟩ : ByteArray) ++ (strOfNums y352), 0⟩ : S46) [.string ((⟨#[113]⟩ : ByteArray) ++ (strOfNums y352)), .int .i64 0] (fun _ => True) (fun _ => False) rfl rfl ?aP (fun _ hk => hk.elim) ?aF ?aO ?aB ?aS ?aL ?_; (case aP => exact k46_mkM _ _ _ (⟨(⟨#[113]⟩ : ByteArray) ++ (strOfNums y352), 0⟩ : S46)); (case aB => exact (by repeat (first | (with_reducible first | exact HB.out | apply below_alloc | apply pw_below_drewN | apply below_drew1 | refine below_set ?_ GE351.out) | exact HB.out))); (case aF => exact (fun _ _ => trivial)); (case aO => exact (kq_R HO_352000.out)); (case aS => exact (below_size (by repeat (first | (with_reducible first | exact HB.out | apply below_alloc | apply pw_below_drewN | apply below_drew1 | refine below_set ?_ GE351.out) | exact HB.out)))); (case aL => have := LMc5.out; omega); intro v356 w13 ho hb hg hat; rw [← Ny355.out] at ho; have n0_ := Aside0.mk (Kd.N_afterv (ok := (fun k_ => some k_ ≠ (v353 : Value).ownBlock ∧ k_ ≠ gb351)) (by (with_reducible repeat (first | apply Kd.N_alloc | apply Kd.N_drewN | apply Kd.N_drew)); exact Kd.N_mono HO_352001.out (fun _ hk => ⟨⟨hk.2, hk.1.2⟩, hk.1.1⟩)) hg hat); have n1_ := Aside0.mk (blk_grown (g := gb351) (o := .cells #[u352000, u352001] 31 (0, 0)) (bkq BK351.out) hg (Kd.R_ne HO_352000.out BK351.out (by decide))); have n2_ := Aside0.mk (Kd.R_over' (kq_R HO354.out) (Kd.R_typed (kq_R HO_352000.out)) (by decide) hg); have n3_ := Aside0.mk (hb); have n4_ := Aside0.mk (ho); clear HO_352001; clear BK351; clear HO354; clear HB; clear HO_352000; have HO_352001 := n0_; have BK351 := n1_; have HO354 := n2_; have HB := n3_; have HO357 := n4_; clear n0_ n1_ n2_ n3_ n4_; clear ho hb hg hat; obtain ⟨Ao14, co14, eo14⟩ := Kd.R_slice HO357.out; subst eo14; have hcz15_0 : w13.cell? ⟨gb351, 0, none⟩ = some (u352000) := (blk_cell BK351.out 0).trans rfl; have hcz15_1 : w13.cell? ⟨gb351, 1, none⟩ = some (u352001) := (blk_cell BK351.out 1).trans rfl; have hfz15_0 := blk_frozen BK351.out 0; have hfz15_1 := blk_frozen BK351.out 1; obtain ⟨Ao16, co16, eo16⟩ := Kd.N_slice HO_352001.out; subst eo16))
      have n0_ : Aside0 (Kd.N k54 54 (w13.setCell ⟨gb351, 0, none⟩ (.slice Ao14 y355.length co14)) w.heap.size (fun k_ => some k_ ≠ (v353 : Value).ownBlock ∧ some k_ ≠ (.slice Ao14 y355.length co14 : Value).ownBlock ∧ k_ ≠ gb351) (.slice Ao16 x352001_1.length co16) x352001_1) := ⟨by (with_reducible repeat (first | apply Kd.N_alloc | apply Kd.N_drewN | apply Kd.N_drew)); exact Kd.N_mono (Kd.N_far (p := ⟨gb351, 0, none⟩) (Kd.N_mono HO_352001.out (fun k_ hk => (⟨hk, hk.1.2⟩ : _ ∧ k_ ≠ gb351))) (fun _ hk => hk.2) (.slice Ao14 y355.length co14)) (fun _ hk => ⟨hk.1.1.1, ⟨hk.1.2, hk.1.1.2⟩⟩)⟩
      have n1_ : Aside0 (Kd.R (Kd.int .u8) 5 (w13.setCell ⟨gb351, 0, none⟩ (.slice Ao14 y355.length co14)) w.heap.size (fun _ => True) v353 y352) := ⟨by (with_reducible repeat (first | apply Kd.R_alloc | apply Kd.R_drewN | apply Kd.R_drew)); exact Kd.R_mono (Kd.R_far (p := ⟨gb351, 0, none⟩) (Kd.R_types HO354.out BK351.out (by decide)) (fun _ hk => hk.2) (.slice Ao14 y355.length co14)) (fun _ hk => trivial)⟩
      have n2_ : Aside0 (Kd.R k46 46 (w13.setCell ⟨gb351, 0, none⟩ (.slice Ao14 y355.length co14)) w.heap.size (fun _ => True) (.slice Ao14 y355.length co14) y355) := ⟨by (with_reducible repeat (first | apply Kd.R_alloc | apply Kd.R_drewN | apply Kd.R_drew)); exact Kd.R_mono (Kd.R_far (p := ⟨gb351, 0, none⟩) (Kd.R_types HO357.out BK351.out (by decide)) (fun _ hk => hk.2) (.slice Ao14 y355.length co14)) (fun _ hk => trivial)⟩
      have n3_ : Aside0 ((w13.setCell ⟨gb351, 0, none⟩ (.slice Ao14 y355.length co14)).heap[gb351]? = some (.cells #[.slice Ao14 y355.length co14, .slice Ao16 x352001_1.length co16] 31 (0, 0))) := ⟨by (with_reducible repeat (first | refine blk_drewN ?_ _ | refine blk_drew ?_ | refine blk_alloc ?_ _)); refine blk_put (cs := #[u352000, .slice Ao16 x352001_1.length co16]) ?_ 0 _ rfl; (with_reducible repeat (first | refine blk_drewN ?_ _ | refine blk_drew ?_ | refine blk_alloc ?_ _)); exact BK351.out⟩
      have n4_ : Aside0 (Below w.heap.size w (w13.setCell ⟨gb351, 0, none⟩ (.slice Ao14 y355.length co14))) := ⟨by repeat (first | (with_reducible first | exact HB.out | apply below_alloc | apply pw_below_drewN | apply below_drew1 | refine below_set ?_ GE351.out) | exact HB.out)⟩
      (try clear HO_352001)
      (try clear HO354)
      (try clear HO357)
      (try clear BK351)
      (try clear HB)
      generalize (w13.setCell ⟨gb351, 0, none⟩ (.slice Ao14 y355.length co14)) = w17 at n0_ n1_ n2_ n3_ n4_ ⊢
      have HO_352001 := n0_
      have HO354 := n1_
      have HO357 := n2_
      have BK351 := n3_
      have HB := n4_
      clear n0_ n1_ n2_ n3_ n4_
      have n0_ := Aside0.mk (Kd.N_drew HO_352001.out)
      have n1_ := Aside0.mk (Kd.R_drew HO354.out)
      have n2_ := Aside0.mk (Kd.R_drew HO357.out)
      have n3_ := Aside0.mk (blk_drew BK351.out)
      have n4_ := Aside0.mk (below_drew1 HB.out)
      clear HO_352001
      clear HO354
      clear HO357
      clear BK351
      clear HB
      have HO_352001 := n0_
      have HO354 := n1_
      have HO357 := n2_
      have BK351 := n3_
      have HB := n4_
      clear n0_ n1_ n2_ n3_ n4_
      refine start_ (n := 22) (S := fun w' => w'.cell? ⟨gb351, 0, none⟩ = some (.slice Ao14 y355.length co14) ∧ w'.cell? ⟨gb351, 1, none⟩ = some (.slice Ao16 x352001_1.length co16)) (ds := [21]) #[false, false, false, false, false, false, false, false, false, false, false, false, false, false, false, false, false, false, false, false, false, false] (by kernel_rfl) rfl rfl ⟨(blk_cell BK351.out 0).trans rfl, (blk_cell BK351.out 1).trans rfl⟩ (fun hHeld => ?_); refine with_tabW marblerunlaw12_BasisRing.tab7 marblerunlaw12_BasisRing.bits7 (fun HT_ HW_ => ?_)
      generalize w17.drew = w18 at HO_352001 HO354 HO357 BK351 HB hHeld ⊢
      refine pure_ (i := 0) (N := some 32) (v := ?_) (a' := ?_) #[true, false, false, false, false, false, false, false, false, false, false, false, false, false, false, false, false, false, false, false, false, false] rfl rfl (any_of HT_.out (by kernel_rfl)) (fun _ _ _ h => h) (Or.inl ⟨by rfl, ?_⟩) ?_ ?_
      rotate_left
      · intro w'
        go_simp
        with_reducible rfl
      rotate_left
      · simp only [Act.put, List.setIfInBounds_toArray, List.set_cons_zero, List.set_cons_succ, i64_w, i32_w]
        rfl
      refine pure_ (i := 2) (N := some 34) (v := ?_) (a' := ?_) #[true, false, true, false, false, false, false, false, false, false, false, false, false, false, false, false, false, false, false, false, false, false] rfl rfl (any_of HT_.out (by kernel_rfl)) (fun _ _ _ h => h) (Or.inl ⟨by rfl, ?_⟩) ?_ ?_
      rotate_left
      · intro w'
        go_simp
        with_reducible rfl
      rotate_left
      · simp only [Act.put, List.setIfInBounds_toArray, List.set_cons_zero, List.set_cons_succ, i64_w, i32_w]
        rfl
      refine pure_ (i := 3) (N := some 35) (v := ?_) (a' := ?_) #[true, false, true, true, false, false, false, false, false, false, false, false, false, false, false, false, false, false, false, false, false, false] rfl rfl (any_of HT_.out (by kernel_rfl)) (fun _ _ _ h => h) (Or.inl ⟨by rfl, ?_⟩) ?_ ?_
      rotate_left
      · intro w'
        go_simp
        with_reducible rfl
      rotate_left
      · simp only [Act.put, List.setIfInBounds_toArray, List.set_cons_zero, List.set_cons_succ, i64_w, i32_w]
        rfl
      refine pure_ (i := 4) (N := some 36) (v := ?_) (a' := ?_) #[true, false, true, true, true, false, false, false, false, false, false, false, false, false, false, false, false, false, false, false, false, false] rfl rfl (any_of HT_.out (by kernel_rfl)) (fun _ _ _ h => h) (Or.inl ⟨by rfl, ?_⟩) ?_ ?_
      rotate_left
      · intro w'
        go_simp
        with_reducible rfl
      rotate_left
      · simp only [Act.put, List.setIfInBounds_toArray, List.set_cons_zero, List.set_cons_succ, i64_w, i32_w]
        rfl
      refine pure_ (i := 8) (N := some 40) (v := ?_) (a' := ?_) #[true, false, true, true, true, false, false, false, true, false, false, false, false, false, false, false, false, false, false, false, false, false] rfl rfl (any_of HT_.out (by kernel_rfl)) (fun _ _ _ h => h) (Or.inl ⟨by rfl, ?_⟩) ?_ ?_
      rotate_left
      · intro w'
        go_simp
        with_reducible rfl
      rotate_left
      · simp only [Act.put, List.setIfInBounds_toArray, List.set_cons_zero, List.set_cons_succ, i64_w, i32_w]
        rfl
      refine pure_ (i := 9) (N := some 41) (v := ?_) (a' := ?_) #[true, false, true, true, true, false, false, false, true, true, false, false, false, false, false, false, false, false, false, false, false, false] rfl rfl (any_of HT_.out (by kernel_rfl)) (fun _ _ _ h => h) (Or.inl ⟨by rfl, ?_⟩) ?_ ?_
      rotate_left
      · intro w'
        go_simp
        with_reducible rfl
      rotate_left
      · simp only [Act.put, List.setIfInBounds_toArray, List.set_cons_zero, List.set_cons_succ, i64_w, i32_w]
        rfl
      refine pure_ (i := 11) (N := some 43) (v := ?_) (a' := ?_) #[true, false, true, true, true, false, false, false, true, true, false, true, false, false, false, false, false, false, false, false, false, false] rfl rfl (any_of HT_.out (by kernel_rfl)) (fun _ _ _ h => h) (Or.inl ⟨by rfl, ?_⟩) ?_ ?_
      rotate_left
      · intro w'
        go_simp
        with_reducible rfl
      rotate_left
      · simp only [Act.put, List.setIfInBounds_toArray, List.set_cons_zero, List.set_cons_succ, i64_w, i32_w]
        rfl
      refine pure_ (i := 12) (N := some 44) (v := ?_) (a' := ?_) #[true, false, true, true, true, false, false, false, true, true, false, true, true, false, false, false, false, false, false, false, false, false] rfl rfl (any_of HT_.out (by kernel_rfl)) (fun _ _ _ h => h) (Or.inl ⟨by rfl, ?_⟩) ?_ ?_
      rotate_left
      · intro w'
        go_simp
        with_reducible rfl
      rotate_left
      · simp only [Act.put, List.setIfInBounds_toArray, List.set_cons_zero, List.set_cons_succ, i64_w, i32_w]
        rfl
      refine pure_ (i := 13) (N := some 45) (v := ?_) (a' := ?_) #[true, false, true, true, true, false, false, false, true, true, false, true, true, true, false, false, false, false, false, false, false, false] rfl rfl (any_of HT_.out (by kernel_rfl)) (fun _ _ _ h => h) (Or.inl ⟨by rfl, ?_⟩) ?_ ?_
      rotate_left
      · intro w'
        go_simp
        with_reducible rfl
      rotate_left
      · simp only [Act.put, List.setIfInBounds_toArray, List.set_cons_zero, List.set_cons_succ, i64_w, i32_w]
        rfl
      refine pure_ (i := 14) (N := some 46) (v := ?_) (a' := ?_) #[true, false, true, true, true, false, false, false, true, true, false, true, true, true, true, false, false, false, false, false, false, false] rfl rfl (any_of HT_.out (by kernel_rfl)) (fun _ _ _ h => h) (Or.inl ⟨by rfl, ?_⟩) ?_ ?_
      rotate_left
      · intro w'
        go_simp
        with_reducible rfl
      rotate_left
      · simp only [Act.put, List.setIfInBounds_toArray, List.set_cons_zero, List.set_cons_succ, i64_w, i32_w]
        rfl
      refine pure_ (i := 15) (N := some 47) (v := ?_) (a' := ?_) #[true, false, true, true, true, false, false, false, true, true, false, true, true, true, true, true, false, false, false, false, false, false] rfl rfl (any_of HT_.out (by kernel_rfl)) (fun _ _ _ h => h) (Or.inl ⟨by rfl, ?_⟩) ?_ ?_
      rotate_left
      · intro w'
        go_simp
        with_reducible rfl
      rotate_left
      · simp only [Act.put, List.setIfInBounds_toArray, List.set_cons_zero, List.set_cons_succ, i64_w, i32_w]
        rfl
      refine take_ (i := 1) (N := some 33) (v := ?_) (a' := ?_) #[true, true, true, true, true, false, false, false, true, true, false, true, true, true, true, true, false, false, false, false, false, false] rfl rfl (take_ofW HT_.out HW_.out (by kernel_rfl)) (fun _ _ _ h => h) (Or.inl ⟨by rfl, ?_⟩) hHeld ?_ ?_
      rotate_left
      · rintro w' ⟨s0, s1⟩
        go_simp
        with_reducible rfl
      rotate_left
      · simp only [Act.put, List.setIfInBounds_toArray, List.set_cons_zero, List.set_cons_succ, i64_w, i32_w]
        rfl
      refine join_ (σ := Value × Value × Value) 5 #[true, true, true, true, true, true, true, true, true, true, true, true, true, true, true, true, true, false, false, false, false, false] (fun s_ => [(37, s_.1), (38, .string (strOfNums y358)), (42, s_.2.1), (48, s_.2.2), (39, .string ((⟨#[116]⟩ : ByteArray) ++ (strOfNums y358)))]) (fun s_ w' => (w'.cell? ⟨gb351, 0, none⟩ = some (.slice Ao14 y355.length co14) ∧ w'.cell? ⟨gb351, 1, none⟩ = some (.slice Ao16 x352001_1.length co16)) ∧ (Kd.R (Kd.int .u8) 5 w' w.heap.size (fun k_ => some k_ ≠ (s_.1 : Value).ownBlock) v353 y352) ∧ (Kd.R k46 46 w' w.heap.size (fun _ => True) (.slice Ao14 y355.length co14) y355) ∧ (Kd.R (Kd.int .u8) 5 w' w.heap.size (fun k_ => some k_ ≠ (v353 : Value).ownBlock) s_.1 y358) ∧ (Kd.R k51 51 w' w.heap.size (fun k_ => some k_ ≠ (s_.2.2 : Value).ownBlock) s_.2.1 y361) ∧ (Kd.R k51 51 w' w.heap.size (fun k_ => some k_ ≠ (s_.2.1 : Value).ownBlock) s_.2.2 y364) ∧ (Kd.N k54 54 w' w.heap.size (fun k_ => some k_ ≠ (v353 : Value).ownBlock ∧ some k_ ≠ (.slice Ao14 y355.length co14 : Value).ownBlock ∧ some k_ ≠ (s_.1 : Value).ownBlock ∧ some k_ ≠ (s_.2.1 : Value).ownBlock ∧ some k_ ≠ (s_.2.2 : Value).ownBlock ∧ k_ ≠ gb351) (.slice Ao16 x352001_1.length co16) x352001_1) ∧ (w'.heap[gb351]? = some (.cells #[.slice Ao14 y355.length co14, .slice Ao16 x352001_1.length co16] 31 (0, 0))) ∧ (Below w.heap.size w w')) ?_ ?_
      rotate_left
      · intro hJ5_6_10_16
        refine join_ (σ := Value × Value) 6 #[true, true, true, true, true, true, true, true, true, true, true, true, true, true, true, true, false, false, false, false, false, false] (fun s_ => [(37, s_.1), (38, .string (strOfNums y358)), (42, s_.2), (39, .string ((⟨#[116]⟩ : ByteArray) ++ (strOfNums y358)))]) (fun s_ w' => (w'.cell? ⟨gb351, 0, none⟩ = some (.slice Ao14 y355.length co14) ∧ w'.cell? ⟨gb351, 1, none⟩ = some (.slice Ao16 x352001_1.length co16)) ∧ (Kd.R (Kd.int .u8) 5 w' w.heap.size (fun k_ => some k_ ≠ (s_.1 : Value).ownBlock) v353 y352) ∧ (Kd.R k46 46 w' w.heap.size (fun _ => True) (.slice Ao14 y355.length co14) y355) ∧ (Kd.R (Kd.int .u8) 5 w' w.heap.size (fun k_ => some k_ ≠ (v353 : Value).ownBlock) s_.1 y358) ∧ (Kd.R k51 51 w' w.heap.size (fun _ => True) s_.2 y361) ∧ (Kd.N k54 54 w' w.heap.size (fun k_ => some k_ ≠ (v353 : Value).ownBlock ∧ some k_ ≠ (.slice Ao14 y355.length co14 : Value).ownBlock ∧ some k_ ≠ (s_.1 : Value).ownBlock ∧ some k_ ≠ (s_.2 : Value).ownBlock ∧ k_ ≠ gb351) (.slice Ao16 x352001_1.length co16) x352001_1) ∧ (w'.heap[gb351]? = some (.cells #[.slice Ao14 y355.length co14, .slice Ao16 x352001_1.length co16] 31 (0, 0))) ∧ (Below w.heap.size w w')) ?_ ?_
        rotate_left
        · intro hJ5_6_10
          refine join_ (σ := Value × Value) 6 #[true, true, true, true, true, true, true, true, true, true, false, true, true, true, true, true, true, false, false, false, false, false] (fun s_ => [(37, s_.1), (38, .string (strOfNums y358)), (48, s_.2), (39, .string ((⟨#[116]⟩ : ByteArray) ++ (strOfNums y358)))]) (fun s_ w' => (w'.cell? ⟨gb351, 0, none⟩ = some (.slice Ao14 y355.length co14) ∧ w'.cell? ⟨gb351, 1, none⟩ = some (.slice Ao16 x352001_1.length co16)) ∧ (Kd.R (Kd.int .u8) 5 w' w.heap.size (fun k_ => some k_ ≠ (s_.1 : Value).ownBlock) v353 y352) ∧ (Kd.R k46 46 w' w.heap.size (fun _ => True) (.slice Ao14 y355.length co14) y355) ∧ (Kd.R (Kd.int .u8) 5 w' w.heap.size (fun k_ => some k_ ≠ (v353 : Value).ownBlock) s_.1 y358) ∧ (Kd.R k51 51 w' w.heap.size (fun _ => True) s_.2 y364) ∧ (Kd.N k54 54 w' w.heap.size (fun k_ => some k_ ≠ (v353 : Value).ownBlock ∧ some k_ ≠ (.slice Ao14 y355.length co14 : Value).ownBlock ∧ some k_ ≠ (s_.1 : Value).ownBlock ∧ some k_ ≠ (s_.2 : Value).ownBlock ∧ k_ ≠ gb351) (.slice Ao16 x352001_1.length co16) x352001_1) ∧ (w'.heap[gb351]? = some (.cells #[.slice Ao14 y355.length co14, .slice Ao16 x352001_1.length co16] 31 (0, 0))) ∧ (Below w.heap.size w w')) ?_ ?_
          rotate_left
          · intro hJ5_6_16
            refine join_ (σ := Value × Value × Value) 7 #[true, true, true, true, true, true, false, false, true, true, true, true, true, true, true, true, true, false, false, false, false, false] (fun s_ => [(37, s_.1), (42, s_.2.1), (48, s_.2.2)]) (fun s_ w' => (w'.cell? ⟨gb351, 0, none⟩ = some (.slice Ao14 y355.length co14) ∧ w'.cell? ⟨gb351, 1, none⟩ = some (.slice Ao16 x352001_1.length co16)) ∧ (Kd.R (Kd.int .u8) 5 w' w.heap.size (fun k_ => some k_ ≠ (s_.1 : Value).ownBlock) v353 y352) ∧ (Kd.R k46 46 w' w.heap.size (fun _ => True) (.slice Ao14 y355.length co14) y355) ∧ (Kd.R (Kd.int .u8) 5 w' w.heap.size (fun k_ => some k_ ≠ (v353 : Value).ownBlock) s_.1 y358) ∧ (Kd.R k51 51 w' w.heap.size (fun k_ => some k_ ≠ (s_.2.2 : Value).ownBlock) s_.2.1 y361) ∧ (Kd.R k51 51 w' w.heap.size (fun k_ => some k_ ≠ (s_.2.1 : Value).ownBlock) s_.2.2 y364) ∧ (Kd.N k54 54 w' w.heap.size (fun k_ => some k_ ≠ (v353 : Value).ownBlock ∧ some k_ ≠ (.slice Ao14 y355.length co14 : Value).ownBlock ∧ some k_ ≠ (s_.1 : Value).ownBlock ∧ some k_ ≠ (s_.2.1 : Value).ownBlock ∧ some k_ ≠ (s_.2.2 : Value).ownBlock ∧ k_ ≠ gb351) (.slice Ao16 x352001_1.length co16) x352001_1) ∧ (w'.heap[gb351]? = some (.cells #[.slice Ao14 y355.length co14, .slice Ao16 x352001_1.length co16] 31 (0, 0))) ∧ (Below w.heap.size w w')) ?_ ?_
            rotate_left
            · intro hJ5_10_16
              refine join_ (σ := Value) 7 #[true, true, true, true, true, true, true, true, true, true, false, true, true, true, true, true, false, false, false, false, false, false] (fun s_ => [(37, s_), (38, .string (strOfNums y358)), (39, .string ((⟨#[116]⟩ : ByteArray) ++ (strOfNums y358)))]) (fun s_ w' => (w'.cell? ⟨gb351, 0, none⟩ = some (.slice Ao14 y355.length co14) ∧ w'.cell? ⟨gb351, 1, none⟩ = some (.slice Ao16 x352001_1.length co16)) ∧ (Kd.R (Kd.int .u8) 5 w' w.heap.size (fun k_ => some k_ ≠ (s_ : Value).ownBlock) v353 y352) ∧ (Kd.R k46 46 w' w.heap.size (fun _ => True) (.slice Ao14 y355.length co14) y355) ∧ (Kd.R (Kd.int .u8) 5 w' w.heap.size (fun k_ => some k_ ≠ (v353 : Value).ownBlock) s_ y358) ∧ (Kd.N k54 54 w' w.heap.size (fun k_ => some k_ ≠ (v353 : Value).ownBlock ∧ some k_ ≠ (.slice Ao14 y355.length co14 : Value).ownBlock ∧ some k_ ≠ (s_ : Value).ownBlock ∧ k_ ≠ gb351) (.slice Ao16 x352001_1.length co16) x352001_1) ∧ (w'.heap[gb351]? = some (.cells #[.slice Ao14 y355.length co14, .slice Ao16 x352001_1.length co16] 31 (0, 0))) ∧ (Below w.heap.size w w')) ?_ ?_
              rotate_left
              · intro hJ5_6
                refine join_ (σ := Value × Value) 8 #[true, true, true, true, true, true, false, false, true, true, true, true, true, true, true, true, false, false, false, false, false, false] (fun s_ => [(37, s_.1), (42, s_.2)]) (fun s_ w' => (w'.cell? ⟨gb351, 0, none⟩ = some (.slice Ao14 y355.length co14) ∧ w'.cell? ⟨gb351, 1, none⟩ = some (.slice Ao16 x352001_1.length co16)) ∧ (Kd.R (Kd.int .u8) 5 w' w.heap.size (fun k_ => some k_ ≠ (s_.1 : Value).ownBlock) v353 y352) ∧ (Kd.R k46 46 w' w.heap.size (fun _ => True) (.slice Ao14 y355.length co14) y355) ∧ (Kd.R (Kd.int .u8) 5 w' w.heap.size (fun k_ => some k_ ≠ (v353 : Value).ownBlock) s_.1 y358) ∧ (Kd.R k51 51 w' w.heap.size (fun _ => True) s_.2 y361) ∧ (Kd.N k54 54 w' w.heap.size (fun k_ => some k_ ≠ (v353 : Value).ownBlock ∧ some k_ ≠ (.slice Ao14 y355.length co14 : Value).ownBlock ∧ some k_ ≠ (s_.1 : Value).ownBlock ∧ some k_ ≠ (s_.2 : Value).ownBlock ∧ k_ ≠ gb351) (.slice Ao16 x352001_1.length co16) x352001_1) ∧ (w'.heap[gb351]? = some (.cells #[.slice Ao14 y355.length co14, .slice Ao16 x352001_1.length co16] 31 (0, 0))) ∧ (Below w.heap.size w w')) ?_ ?_
                rotate_left
                · intro hJ5_10
                  refine join_ (σ := Value × Value) 8 #[true, true, true, true, true, true, false, false, true, true, false, true, true, true, true, true, true, false, false, false, false, false] (fun s_ => [(37, s_.1), (48, s_.2)]) (fun s_ w' => (w'.cell? ⟨gb351, 0, none⟩ = some (.slice Ao14 y355.length co14) ∧ w'.cell? ⟨gb351, 1, none⟩ = some (.slice Ao16 x352001_1.length co16)) ∧ (Kd.R (Kd.int .u8) 5 w' w.heap.size (fun k_ => some k_ ≠ (s_.1 : Value).ownBlock) v353 y352) ∧ (Kd.R k46 46 w' w.heap.size (fun _ => True) (.slice Ao14 y355.length co14) y355) ∧ (Kd.R (Kd.int .u8) 5 w' w.heap.size (fun k_ => some k_ ≠ (v353 : Value).ownBlock) s_.1 y358) ∧ (Kd.R k51 51 w' w.heap.size (fun _ => True) s_.2 y364) ∧ (Kd.N k54 54 w' w.heap.size (fun k_ => some k_ ≠ (v353 : Value).ownBlock ∧ some k_ ≠ (.slice Ao14 y355.length co14 : Value).ownBlock ∧ some k_ ≠ (s_.1 : Value).ownBlock ∧ some k_ ≠ (s_.2 : Value).ownBlock ∧ k_ ≠ gb351) (.slice Ao16 x352001_1.length co16) x352001_1) ∧ (w'.heap[gb351]? = some (.cells #[.slice Ao14 y355.length co14, .slice Ao16 x352001_1.length co16] 31 (0, 0))) ∧ (Below w.heap.size w w')) ?_ ?_
                  rotate_left
                  · intro hJ5_16
                    refine join_ (σ := Value × Value) 8 #[true, true, true, true, true, false, false, false, true, true, true, true, true, true, true, true, true, false, false, false, false, false] (fun s_ => [(42, s_.1), (48, s_.2)]) (fun s_ w' => (w'.cell? ⟨gb351, 0, none⟩ = some (.slice Ao14 y355.length co14) ∧ w'.cell? ⟨gb351, 1, none⟩ = some (.slice Ao16 x352001_1.length co16)) ∧ (Kd.R (Kd.int .u8) 5 w' w.heap.size (fun _ => True) v353 y352) ∧ (Kd.R k46 46 w' w.heap.size (fun _ => True) (.slice Ao14 y355.length co14) y355) ∧ (Kd.R k51 51 w' w.heap.size (fun k_ => some k_ ≠ (s_.2 : Value).ownBlock) s_.1 y361) ∧ (Kd.R k51 51 w' w.heap.size (fun k_ => some k_ ≠ (s_.1 : Value).ownBlock) s_.2 y364) ∧ (Kd.N k54 54 w' w.heap.size (fun k_ => some k_ ≠ (v353 : Value).ownBlock ∧ some k_ ≠ (.slice Ao14 y355.length co14 : Value).ownBlock ∧ some k_ ≠ (s_.1 : Value).ownBlock ∧ some k_ ≠ (s_.2 : Value).ownBlock ∧ k_ ≠ gb351) (.slice Ao16 x352001_1.length co16) x352001_1) ∧ (w'.heap[gb351]? = some (.cells #[.slice Ao14 y355.length co14, .slice Ao16 x352001_1.length co16] 31 (0, 0))) ∧ (Below w.heap.size w w')) ?_ ?_
                    rotate_left
                    · intro hJ10_16
                      refine join_ (σ := Value) 9 #[true, true, true, true, true, true, false, false, true, true, false, true, true, true, true, true, false, false, false, false, false, false] (fun s_ => [(37, s_)]) (fun s_ w' => (w'.cell? ⟨gb351, 0, none⟩ = some (.slice Ao14 y355.length co14) ∧ w'.cell? ⟨gb351, 1, none⟩ = some (.slice Ao16 x352001_1.length co16)) ∧ (Kd.R (Kd.int .u8) 5 w' w.heap.size (fun k_ => some k_ ≠ (s_ : Value).ownBlock) v353 y352) ∧ (Kd.R k46 46 w' w.heap.size (fun _ => True) (.slice Ao14 y355.length co14) y355) ∧ (Kd.R (Kd.int .u8) 5 w' w.heap.size (fun k_ => some k_ ≠ (v353 : Value).ownBlock) s_ y358) ∧ (Kd.N k54 54 w' w.heap.size (fun k_ => some k_ ≠ (v353 : Value).ownBlock ∧ some k_ ≠ (.slice Ao14 y355.length co14 : Value).ownBlock ∧ some k_ ≠ (s_ : Value).ownBlock ∧ k_ ≠ gb351) (.slice Ao16 x352001_1.length co16) x352001_1) ∧ (w'.heap[gb351]? = some (.cells #[.slice Ao14 y355.length co14, .slice Ao16 x352001_1.length co16] 31 (0, 0))) ∧ (Below w.heap.size w w')) ?_ ?_
                      rotate_left
                      · intro hJ5
                        refine join_ (σ := Value) 9 #[true, true, true, true, true, false, false, false, true, true, true, true, true, true, true, true, false, false, false, false, false, false] (fun s_ => [(42, s_)]) (fun s_ w' => (w'.cell? ⟨gb351, 0, none⟩ = some (.slice Ao14 y355.length co14) ∧ w'.cell? ⟨gb351, 1, none⟩ = some (.slice Ao16 x352001_1.length co16)) ∧ (Kd.R (Kd.int .u8) 5 w' w.heap.size (fun _ => True) v353 y352) ∧ (Kd.R k46 46 w' w.heap.size (fun _ => True) (.slice Ao14 y355.length co14) y355) ∧ (Kd.R k51 51 w' w.heap.size (fun _ => True) s_ y361) ∧ (Kd.N k54 54 w' w.heap.size (fun k_ => some k_ ≠ (v353 : Value).ownBlock ∧ some k_ ≠ (.slice Ao14 y355.length co14 : Value).ownBlock ∧ some k_ ≠ (s_ : Value).ownBlock ∧ k_ ≠ gb351) (.slice Ao16 x352001_1.length co16) x352001_1) ∧ (w'.heap[gb351]? = some (.cells #[.slice Ao14 y355.length co14, .slice Ao16 x352001_1.length co16] 31 (0, 0))) ∧ (Below w.heap.size w w')) ?_ ?_
                        rotate_left
                        · intro hJ10
                          refine join_ (σ := Value) 9 #[true, true, true, true, true, false, false, false, true, true, false, true, true, true, true, true, true, false, false, false, false, false] (fun s_ => [(48, s_)]) (fun s_ w' => (w'.cell? ⟨gb351, 0, none⟩ = some (.slice Ao14 y355.length co14) ∧ w'.cell? ⟨gb351, 1, none⟩ = some (.slice Ao16 x352001_1.length co16)) ∧ (Kd.R (Kd.int .u8) 5 w' w.heap.size (fun _ => True) v353 y352) ∧ (Kd.R k46 46 w' w.heap.size (fun _ => True) (.slice Ao14 y355.length co14) y355) ∧ (Kd.R k51 51 w' w.heap.size (fun _ => True) s_ y364) ∧ (Kd.N k54 54 w' w.heap.size (fun k_ => some k_ ≠ (v353 : Value).ownBlock ∧ some k_ ≠ (.slice Ao14 y355.length co14 : Value).ownBlock ∧ some k_ ≠ (s_ : Value).ownBlock ∧ k_ ≠ gb351) (.slice Ao16 x352001_1.length co16) x352001_1) ∧ (w'.heap[gb351]? = some (.cells #[.slice Ao14 y355.length co14, .slice Ao16 x352001_1.length co16] 31 (0, 0))) ∧ (Below w.heap.size w w')) ?_ ?_
                          rotate_left
                          · intro hJ16
                            refine three_ (i := 5) (j := 10) (k := 16) (Ni := some 37) (Nj := some 42) (Nk := some 48) #[true, true, true, true, true, true, false, false, true, true, false, true, true, true, true, true, false, false, false, false, false, false] #[true, true, true, true, true, false, false, false, true, true, true, true, true, true, true, true, false, false, false, false, false, false] #[true, true, true, true, true, false, false, false, true, true, false, true, true, true, true, true, true, false, false, false, false, false] rfl rfl rfl rfl rfl rfl (three_of HT_.out (by kernel_rfl)) (by decide) (by decide) (by decide) (fun K hK => ?_) (fun K hK => ?_) (fun K hK => ?_)
                            · skip
                              refine Kd.R_lit_step (Kd.int .u8) _ 5 ?hg (N := 37) ?hd (xs := ([(wrap64 (97 + x5_1)) % 256] : List Int)) (inner := [.int .u8 ((wrap64 (97 + x5_1)) % 256)]) (ok := fun _ => True) (okp := fun _ => True) ?hr ?hp (fun _ hk => hk) trivial (Below.refl _ _) (Nat.le_refl _) (by simp) ?_; (case hd => rfl); (case hg => rfl); (case hr => first | (go_simp; done) | (go_simp; rfl)); (case hp => exact (Reps.one (show Kd.M (Kd.int .u8) _ _ _ ((wrap64 (97 + x5_1)) % 256) [.int .u8 ((wrap64 (97 + x5_1)) % 256)] from rfl) (Reps.none _ _)))
                              intro v359 w19 ho20 hb hg_ hnew_
                              clear hg_ hnew_
                              (first | rw [← Ny358.out] at ho20 | (simp only [Int.reduceToNat] at ho20; rw [← Ny358.out] at ho20))
                              have n0_ := Aside0.mk (Kd.N_elder' (kq_N HO_352001.out) (Kd.R_base ho20) hb)
                              have n1_ := Aside0.mk (Kd.R_elder' (kq_R HO354.out) (Kd.R_base ho20) hb)
                              have n2_ := Aside0.mk (Kd.R_below (kq_R HO357.out) hb)
                              have n3_ := Aside0.mk (Kd.R_lower (Kd.R_new' ho20 (Kd.R_lt (kq_R HO354.out))) (below_size (by repeat (first | (with_reducible first | exact HB.out | apply below_alloc | apply pw_below_drewN | apply below_drew1 | refine below_set ?_ GE351.out) | exact HB.out))))
                              have n4_ := Aside0.mk (blk_below (g := gb351) (o := .cells #[.slice Ao14 y355.length co14, .slice Ao16 x352001_1.length co16] 31 (0, 0)) (bkq BK351.out) hb)
                              have n5_ := Aside0.mk (below_step (by repeat (first | (with_reducible first | exact HB.out | apply below_alloc | apply pw_below_drewN | apply below_drew1 | refine below_set ?_ GE351.out) | exact HB.out)) hb)
                              clear HO_352001
                              clear HO354
                              clear HO357
                              clear BK351
                              clear HB
                              have HO_352001 := n0_
                              have HO354 := n1_
                              have HO357 := n2_
                              have HO360 := n3_
                              have BK351 := n4_
                              have HB := n5_
                              clear n0_ n1_ n2_ n3_ n4_ n5_
                              clear hb ho20
                              refine hK.out _ _ ⟨(blk_cell BK351.out 0).trans rfl, (blk_cell BK351.out 1).trans rfl⟩ (fun hHeld => ?_)
                              clear hK K
                              refine norm_ (a' := ?_) ?_ ?_
                              rotate_left
                              · show Act.put _ (some 37) _ = _
                                simp only [Act.put, List.setIfInBounds_toArray, List.set_cons_zero, List.set_cons_succ, i64_w, i32_w]
                                rfl
                              exact norm_ (by first | (simp only [putAll, Act.put, List.setIfInBounds_toArray, List.set_cons_zero, List.set_cons_succ]; done) | (simp only [putAll, Act.put, List.setIfInBounds_toArray, List.set_cons_zero, List.set_cons_succ]; rfl)) (hJ5 (v359) _ ⟨hHeld, (by (with_reducible repeat (first | apply Kd.R_alloc | apply Kd.R_drewN | apply Kd.R_drew)); exact Kd.R_mono HO354.out (fun _ hk => by first | exact hk.2 | exact trivial)), (kq_R HO357.out), (by (with_reducible repeat (first | apply Kd.R_alloc | apply Kd.R_drewN | apply Kd.R_drew)); exact Kd.R_mono HO360.out (fun _ hk => by first | exact hk.2 | exact trivial)), (by (with_reducible repeat (first | apply Kd.N_alloc | apply Kd.N_drewN | apply Kd.N_drew)); exact Kd.N_mono HO_352001.out (fun _ hk => ⟨hk.1.1, ⟨hk.1.2.1, ⟨hk.2, hk.1.2.2⟩⟩⟩)), (bkq BK351.out), (by repeat (first | (with_reducible first | exact HB.out | apply below_alloc | apply pw_below_drewN | apply below_drew1 | refine below_set ?_ GE351.out) | exact HB.out))⟩)
                            · skip
                              refine Kd.R_lit_step k51 _ 51 ?hg (N := 42) ?hd (xs := ([(⟨x5_1, 1⟩ : S51)] : List (S51))) (inner := [.int .i64 x5_1, .int .i64 1]) (ok := fun _ => True) (okp := fun _ => True) ?hr ?hp (fun _ hk => hk) trivial (Below.refl _ _) (Nat.le_refl _) (by simp) ?_; (case hd => rfl); (case hg => rfl); (case hr => first | (go_simp; done) | (go_simp; rfl)); (case hp => exact (Reps.c2 (show Kd.M k51 _ _ _ (⟨x5_1, 1⟩ : S51) [.int .i64 x5_1, .int .i64 1] from (k51_mkM _ _ _ (⟨x5_1, 1⟩ : S51) )) (Reps.none _ _)))
                              intro v362 w19 ho20 hb hg_ hnew_
                              clear hg_ hnew_
                              (first | rw [← Ny361.out] at ho20 | (simp only [Int.reduceToNat] at ho20; rw [← Ny361.out] at ho20))
                              have n0_ := Aside0.mk (Kd.N_elder' (kq_N HO_352001.out) (Kd.R_base ho20) hb)
                              have n1_ := Aside0.mk (Kd.R_below (kq_R HO354.out) hb)
                              have n2_ := Aside0.mk (Kd.R_below (kq_R HO357.out) hb)
                              have n3_ := Aside0.mk (Kd.R_lower ho20 (below_size (by repeat (first | (with_reducible first | exact HB.out | apply below_alloc | apply pw_below_drewN | apply below_drew1 | refine below_set ?_ GE351.out) | exact HB.out))))
                              have n4_ := Aside0.mk (blk_below (g := gb351) (o := .cells #[.slice Ao14 y355.length co14, .slice Ao16 x352001_1.length co16] 31 (0, 0)) (bkq BK351.out) hb)
                              have n5_ := Aside0.mk (below_step (by repeat (first | (with_reducible first | exact HB.out | apply below_alloc | apply pw_below_drewN | apply below_drew1 | refine below_set ?_ GE351.out) | exact HB.out)) hb)
                              clear HO_352001
                              clear HO354
                              clear HO357
                              clear BK351
                              clear HB
                              have HO_352001 := n0_
                              have HO354 := n1_
                              have HO357 := n2_
                              have HO363 := n3_
                              have BK351 := n4_
                              have HB := n5_
                              clear n0_ n1_ n2_ n3_ n4_ n5_
                              clear hb ho20
                              refine hK.out _ _ ⟨(blk_cell BK351.out 0).trans rfl, (blk_cell BK351.out 1).trans rfl⟩ (fun hHeld => ?_)
                              clear hK K
                              refine norm_ (a' := ?_) ?_ ?_
                              rotate_left
                              · show Act.put _ (some 42) _ = _
                                simp only [Act.put, List.setIfInBounds_toArray, List.set_cons_zero, List.set_cons_succ, i64_w, i32_w]
                                rfl
                              exact norm_ (by first | (simp only [putAll, Act.put, List.setIfInBounds_toArray, List.set_cons_zero, List.set_cons_succ]; done) | (simp only [putAll, Act.put, List.setIfInBounds_toArray, List.set_cons_zero, List.set_cons_succ]; rfl)) (hJ10 (v362) _ ⟨hHeld, (kq_R HO354.out), (kq_R HO357.out), (kq_R HO363.out), (by (with_reducible repeat (first | apply Kd.N_alloc | apply Kd.N_drewN | apply Kd.N_drew)); exact Kd.N_mono HO_352001.out (fun _ hk => ⟨hk.1.1, ⟨hk.1.2.1, ⟨hk.2, hk.1.2.2⟩⟩⟩)), (bkq BK351.out), (by repeat (first | (with_reducible first | exact HB.out | apply below_alloc | apply pw_below_drewN | apply below_drew1 | refine below_set ?_ GE351.out) | exact HB.out))⟩)
                            · skip
                              refine Kd.R_lit_step k51 _ 51 ?hg (N := 48) ?hd (xs := ([(⟨Int.tmod (wrap64 (x5_1 + 1)) (wrap64 (1 + (wrap64 (Int.tmod a0 20)))), 1⟩ : S51)] : List (S51))) (inner := [.int .i64 (Int.tmod (wrap64 (x5_1 + 1)) (wrap64 (1 + (wrap64 (Int.tmod a0 20))))), .int .i64 1]) (ok := fun _ => True) (okp := fun _ => True) ?hr ?hp (fun _ hk => hk) trivial (Below.refl _ _) (Nat.le_refl _) (by simp) ?_; (case hd => rfl); (case hg => rfl); (case hr => first | (go_simp; done) | (go_simp; rfl)); (case hp => exact (Reps.c2 (show Kd.M k51 _ _ _ (⟨Int.tmod (wrap64 (x5_1 + 1)) (wrap64 (1 + (wrap64 (Int.tmod a0 20)))), 1⟩ : S51) [.int .i64 (Int.tmod (wrap64 (x5_1 + 1)) (wrap64 (1 + (wrap64 (Int.tmod a0 20))))), .int .i64 1] from (k51_mkM _ _ _ (⟨Int.tmod (wrap64 (x5_1 + 1)) (wrap64 (1 + (wrap64 (Int.tmod a0 20)))), 1⟩ : S51) )) (Reps.none _ _)))
                              intro v365 w19 ho20 hb hg_ hnew_
                              clear hg_ hnew_
                              (first | rw [← Ny364.out] at ho20 | (simp only [Int.reduceToNat] at ho20; rw [← Ny364.out] at ho20))
                              have n0_ := Aside0.mk (Kd.N_elder' (kq_N HO_352001.out) (Kd.R_base ho20) hb)
                              have n1_ := Aside0.mk (Kd.R_below (kq_R HO354.out) hb)
                              have n2_ := Aside0.mk (Kd.R_below (kq_R HO357.out) hb)
                              have n3_ := Aside0.mk (Kd.R_lower ho20 (below_size (by repeat (first | (with_reducible first | exact HB.out | apply below_alloc | apply pw_below_drewN | apply below_drew1 | refine below_set ?_ GE351.out) | exact HB.out))))
                              have n4_ := Aside0.mk (blk_below (g := gb351) (o := .cells #[.slice Ao14 y355.length co14, .slice Ao16 x352001_1.length co16] 31 (0, 0)) (bkq BK351.out) hb)
                              have n5_ := Aside0.mk (below_step (by repeat (first | (with_reducible first | exact HB.out | apply below_alloc | apply pw_below_drewN | apply below_drew1 | refine below_set ?_ GE351.out) | exact HB.out)) hb)
                              clear HO_352001
                              clear HO354
                              clear HO357
                              clear BK351
                              clear HB
                              have HO_352001 := n0_
                              have HO354 := n1_
                              have HO357 := n2_
                              have HO366 := n3_
                              have BK351 := n4_
                              have HB := n5_
                              clear n0_ n1_ n2_ n3_ n4_ n5_
                              clear hb ho20
                              refine hK.out _ _ ⟨(blk_cell BK351.out 0).trans rfl, (blk_cell BK351.out 1).trans rfl⟩ (fun hHeld => ?_)
                              clear hK K
                              refine norm_ (a' := ?_) ?_ ?_
                              rotate_left
                              · show Act.put _ (some 48) _ = _
                                simp only [Act.put, List.setIfInBounds_toArray, List.set_cons_zero, List.set_cons_succ, i64_w, i32_w]
                                rfl
                              exact norm_ (by first | (simp only [putAll, Act.put, List.setIfInBounds_toArray, List.set_cons_zero, List.set_cons_succ]; done) | (simp only [putAll, Act.put, List.setIfInBounds_toArray, List.set_cons_zero, List.set_cons_succ]; rfl)) (hJ16 (v365) _ ⟨hHeld, (kq_R HO354.out), (kq_R HO357.out), (kq_R HO366.out), (by (with_reducible repeat (first | apply Kd.N_alloc | apply Kd.N_drewN | apply Kd.N_drew)); exact Kd.N_mono HO_352001.out (fun _ hk => ⟨hk.1.1, ⟨hk.1.2.1, ⟨hk.2, hk.1.2.2⟩⟩⟩)), (bkq BK351.out), (by repeat (first | (with_reducible first | exact HB.out | apply below_alloc | apply pw_below_drewN | apply below_drew1 | refine below_set ?_ GE351.out) | exact HB.out))⟩)
                          · skip
                            rintro v365 w21 ⟨hS_, h0_, h1_, h2_, h3_, h4_, h5_⟩
                            have n0_ : Aside0 (Kd.R (Kd.int .u8) 5 w21 w.heap.size (fun _ => True) v353 y352) := ⟨h0_⟩
                            have n1_ : Aside0 (Kd.R k46 46 w21 w.heap.size (fun _ => True) (.slice Ao14 y355.length co14) y355) := ⟨h1_⟩
                            have n2_ : Aside0 (Kd.R k51 51 w21 w.heap.size (fun _ => True) v365 y364) := ⟨h2_⟩
                            have n3_ : Aside0 (Kd.N k54 54 w21 w.heap.size (fun k_ => some k_ ≠ (v353 : Value).ownBlock ∧ some k_ ≠ (.slice Ao14 y355.length co14 : Value).ownBlock ∧ some k_ ≠ (v365 : Value).ownBlock ∧ k_ ≠ gb351) (.slice Ao16 x352001_1.length co16) x352001_1) := ⟨h3_⟩
                            have n4_ : Aside0 (w21.heap[gb351]? = some (.cells #[.slice Ao14 y355.length co14, .slice Ao16 x352001_1.length co16] 31 (0, 0))) := ⟨h4_⟩
                            have n5_ : Aside0 (Below w.heap.size w w21) := ⟨h5_⟩
                            clear HO_352001
                            clear HO354
                            clear HO357
                            clear BK351
                            clear HB
                            clear h0_ h1_ h2_ h3_ h4_ h5_
                            have HO354 := n0_
                            have HO357 := n1_
                            have HO366 := n2_
                            have HO_352001 := n3_
                            have BK351 := n4_
                            have HB := n5_
                            clear n0_ n1_ n2_ n3_ n4_ n5_
                            have hHeld : w21.cell? ⟨gb351, 0, none⟩ = some (.slice Ao14 y355.length co14) ∧ w21.cell? ⟨gb351, 1, none⟩ = some (.slice Ao16 x352001_1.length co16) := hS_
                            refine norm_ (a' := ?_) ?_ ?_
                            rotate_left
                            · simp only [putAll, Act.put, List.setIfInBounds_toArray, List.set_cons_zero, List.set_cons_succ]
                              rfl
                            refine two_ (i := 5) (j := 10) (Ni := some 37) (Nj := some 42) #[true, true, true, true, true, true, false, false, true, true, false, true, true, true, true, true, true, false, false, false, false, false] #[true, true, true, true, true, false, false, false, true, true, true, true, true, true, true, true, true, false, false, false, false, false] rfl rfl rfl rfl (two_of HT_.out (by kernel_rfl)) (by decide) (by decide) (fun K hK => ?_) (fun K hK => ?_)
                            · skip
                              refine Kd.R_lit_step (Kd.int .u8) _ 5 ?hg (N := 37) ?hd (xs := ([(wrap64 (97 + x5_1)) % 256] : List Int)) (inner := [.int .u8 ((wrap64 (97 + x5_1)) % 256)]) (ok := fun _ => True) (okp := fun _ => True) ?hr ?hp (fun _ hk => hk) trivial (Below.refl _ _) (Nat.le_refl _) (by simp) ?_; (case hd => rfl); (case hg => rfl); (case hr => first | (go_simp; done) | (go_simp; rfl)); (case hp => exact (Reps.one (show Kd.M (Kd.int .u8) _ _ _ ((wrap64 (97 + x5_1)) % 256) [.int .u8 ((wrap64 (97 + x5_1)) % 256)] from rfl) (Reps.none _ _)))
                              intro v359 w22 ho23 hb hg_ hnew_
                              clear hg_ hnew_
                              (first | rw [← Ny358.out] at ho23 | (simp only [Int.reduceToNat] at ho23; rw [← Ny358.out] at ho23))
                              have n0_ := Aside0.mk (Kd.N_elder' (kq_N HO_352001.out) (Kd.R_base ho23) hb)
                              have n1_ := Aside0.mk (Kd.R_elder' (kq_R HO354.out) (Kd.R_base ho23) hb)
                              have n2_ := Aside0.mk (Kd.R_below (kq_R HO357.out) hb)
                              have n3_ := Aside0.mk (Kd.R_below (kq_R HO366.out) hb)
                              have n4_ := Aside0.mk (Kd.R_lower (Kd.R_new' ho23 (Kd.R_lt (kq_R HO354.out))) (below_size (by repeat (first | (with_reducible first | exact HB.out | apply below_alloc | apply pw_below_drewN | apply below_drew1 | refine below_set ?_ GE351.out) | exact HB.out))))
                              have n5_ := Aside0.mk (blk_below (g := gb351) (o := .cells #[.slice Ao14 y355.length co14, .slice Ao16 x352001_1.length co16] 31 (0, 0)) (bkq BK351.out) hb)
                              have n6_ := Aside0.mk (below_step (by repeat (first | (with_reducible first | exact HB.out | apply below_alloc | apply pw_below_drewN | apply below_drew1 | refine below_set ?_ GE351.out) | exact HB.out)) hb)
                              clear HO_352001
                              clear HO354
                              clear HO357
                              clear HO366
                              clear BK351
                              clear HB
                              have HO_352001 := n0_
                              have HO354 := n1_
                              have HO357 := n2_
                              have HO366 := n3_
                              have HO360 := n4_
                              have BK351 := n5_
                              have HB := n6_
                              clear n0_ n1_ n2_ n3_ n4_ n5_ n6_
                              clear hb ho23
                              refine hK.out _ _ ⟨(blk_cell BK351.out 0).trans rfl, (blk_cell BK351.out 1).trans rfl⟩ (fun hHeld => ?_)
                              clear hK K
                              refine norm_ (a' := ?_) ?_ ?_
                              rotate_left
                              · show Act.put _ (some 37) _ = _
                                simp only [Act.put, List.setIfInBounds_toArray, List.set_cons_zero, List.set_cons_succ, i64_w, i32_w]
                                rfl
                              exact norm_ (by first | (simp only [putAll, Act.put, List.setIfInBounds_toArray, List.set_cons_zero, List.set_cons_succ]; done) | (simp only [putAll, Act.put, List.setIfInBounds_toArray, List.set_cons_zero, List.set_cons_succ]; rfl)) (hJ5_16 (v359, v365) _ ⟨hHeld, (by (with_reducible repeat (first | apply Kd.R_alloc | apply Kd.R_drewN | apply Kd.R_drew)); exact Kd.R_mono HO354.out (fun _ hk => by first | exact hk.2 | exact trivial)), (kq_R HO357.out), (by (with_reducible repeat (first | apply Kd.R_alloc | apply Kd.R_drewN | apply Kd.R_drew)); exact Kd.R_mono HO360.out (fun _ hk => by first | exact hk.2 | exact trivial)), (kq_R HO366.out), (by (with_reducible repeat (first | apply Kd.N_alloc | apply Kd.N_drewN | apply Kd.N_drew)); exact Kd.N_mono HO_352001.out (fun _ hk => ⟨hk.1.1, ⟨hk.1.2.1, ⟨hk.2, ⟨hk.1.2.2.1, hk.1.2.2.2⟩⟩⟩⟩)), (bkq BK351.out), (by repeat (first | (with_reducible first | exact HB.out | apply below_alloc | apply pw_below_drewN | apply below_drew1 | refine below_set ?_ GE351.out) | exact HB.out))⟩)
                            · skip
                              refine Kd.R_lit_step k51 _ 51 ?hg (N := 42) ?hd (xs := ([(⟨x5_1, 1⟩ : S51)] : List (S51))) (inner := [.int .i64 x5_1, .int .i64 1]) (ok := fun _ => True) (okp := fun _ => True) ?hr ?hp (fun _ hk => hk) trivial (Below.refl _ _) (Nat.le_refl _) (by simp) ?_; (case hd => rfl); (case hg => rfl); (case hr => first | (go_simp; done) | (go_simp; rfl)); (case hp => exact (Reps.c2 (show Kd.M k51 _ _ _ (⟨x5_1, 1⟩ : S51) [.int .i64 x5_1, .int .i64 1] from (k51_mkM _ _ _ (⟨x5_1, 1⟩ : S51) )) (Reps.none _ _)))
                              intro v362 w22 ho23 hb hg_ hnew_
                              clear hg_ hnew_
                              (first | rw [← Ny361.out] at ho23 | (simp only [Int.reduceToNat] at ho23; rw [← Ny361.out] at ho23))
                              have n0_ := Aside0.mk (Kd.N_elder' (kq_N HO_352001.out) (Kd.R_base ho23) hb)
                              have n1_ := Aside0.mk (Kd.R_below (kq_R HO354.out) hb)
                              have n2_ := Aside0.mk (Kd.R_below (kq_R HO357.out) hb)
                              have n3_ := Aside0.mk (Kd.R_elder' (kq_R HO366.out) (Kd.R_base ho23) hb)
                              have n4_ := Aside0.mk (Kd.R_lower (Kd.R_new' ho23 (Kd.R_lt (kq_R HO366.out))) (below_size (by repeat (first | (with_reducible first | exact HB.out | apply below_alloc | apply pw_below_drewN | apply below_drew1 | refine below_set ?_ GE351.out) | exact HB.out))))
                              have n5_ := Aside0.mk (blk_below (g := gb351) (o := .cells #[.slice Ao14 y355.length co14, .slice Ao16 x352001_1.length co16] 31 (0, 0)) (bkq BK351.out) hb)
                              have n6_ := Aside0.mk (below_step (by repeat (first | (with_reducible first | exact HB.out | apply below_alloc | apply pw_below_drewN | apply below_drew1 | refine below_set ?_ GE351.out) | exact HB.out)) hb)
                              clear HO_352001
                              clear HO354
                              clear HO357
                              clear HO366
                              clear BK351
                              clear HB
                              have HO_352001 := n0_
                              have HO354 := n1_
                              have HO357 := n2_
                              have HO366 := n3_
                              have HO363 := n4_
                              have BK351 := n5_
                              have HB := n6_
                              clear n0_ n1_ n2_ n3_ n4_ n5_ n6_
                              clear hb ho23
                              refine hK.out _ _ ⟨(blk_cell BK351.out 0).trans rfl, (blk_cell BK351.out 1).trans rfl⟩ (fun hHeld => ?_)
                              clear hK K
                              refine norm_ (a' := ?_) ?_ ?_
                              rotate_left
                              · show Act.put _ (some 42) _ = _
                                simp only [Act.put, List.setIfInBounds_toArray, List.set_cons_zero, List.set_cons_succ, i64_w, i32_w]
                                rfl
                              exact norm_ (by first | (simp only [putAll, Act.put, List.setIfInBounds_toArray, List.set_cons_zero, List.set_cons_succ]; done) | (simp only [putAll, Act.put, List.setIfInBounds_toArray, List.set_cons_zero, List.set_cons_succ]; rfl)) (hJ10_16 (v362, v365) _ ⟨hHeld, (kq_R HO354.out), (kq_R HO357.out), (by (with_reducible repeat (first | apply Kd.R_alloc | apply Kd.R_drewN | apply Kd.R_drew)); exact Kd.R_mono HO363.out (fun _ hk => by first | exact hk.2 | exact trivial)), (by (with_reducible repeat (first | apply Kd.R_alloc | apply Kd.R_drewN | apply Kd.R_drew)); exact Kd.R_mono HO366.out (fun _ hk => by first | exact hk.2 | exact trivial)), (by (with_reducible repeat (first | apply Kd.N_alloc | apply Kd.N_drewN | apply Kd.N_drew)); exact Kd.N_mono HO_352001.out (fun _ hk => ⟨hk.1.1, ⟨hk.1.2.1, ⟨hk.2, ⟨hk.1.2.2.1, hk.1.2.2.2⟩⟩⟩⟩)), (bkq BK351.out), (by repeat (first | (with_reducible first | exact HB.out | apply below_alloc | apply pw_below_drewN | apply below_drew1 | refine below_set ?_ GE351.out) | exact HB.out))⟩)
                        · skip
                          rintro v362 w21 ⟨hS_, h0_, h1_, h2_, h3_, h4_, h5_⟩
                          have n0_ : Aside0 (Kd.R (Kd.int .u8) 5 w21 w.heap.size (fun _ => True) v353 y352) := ⟨h0_⟩
                          have n1_ : Aside0 (Kd.R k46 46 w21 w.heap.size (fun _ => True) (.slice Ao14 y355.length co14) y355) := ⟨h1_⟩
                          have n2_ : Aside0 (Kd.R k51 51 w21 w.heap.size (fun _ => True) v362 y361) := ⟨h2_⟩
                          have n3_ : Aside0 (Kd.N k54 54 w21 w.heap.size (fun k_ => some k_ ≠ (v353 : Value).ownBlock ∧ some k_ ≠ (.slice Ao14 y355.length co14 : Value).ownBlock ∧ some k_ ≠ (v362 : Value).ownBlock ∧ k_ ≠ gb351) (.slice Ao16 x352001_1.length co16) x352001_1) := ⟨h3_⟩
                          have n4_ : Aside0 (w21.heap[gb351]? = some (.cells #[.slice Ao14 y355.length co14, .slice Ao16 x352001_1.length co16] 31 (0, 0))) := ⟨h4_⟩
                          have n5_ : Aside0 (Below w.heap.size w w21) := ⟨h5_⟩
                          clear HO_352001
                          clear HO354
                          clear HO357
                          clear BK351
                          clear HB
                          clear h0_ h1_ h2_ h3_ h4_ h5_
                          have HO354 := n0_
                          have HO357 := n1_
                          have HO363 := n2_
                          have HO_352001 := n3_
                          have BK351 := n4_
                          have HB := n5_
                          clear n0_ n1_ n2_ n3_ n4_ n5_
                          have hHeld : w21.cell? ⟨gb351, 0, none⟩ = some (.slice Ao14 y355.length co14) ∧ w21.cell? ⟨gb351, 1, none⟩ = some (.slice Ao16 x352001_1.length co16) := hS_
                          refine norm_ (a' := ?_) ?_ ?_
                          rotate_left
                          · simp only [putAll, Act.put, List.setIfInBounds_toArray, List.set_cons_zero, List.set_cons_succ]
                            rfl
                          refine two_ (i := 5) (j := 16) (Ni := some 37) (Nj := some 48) #[true, true, true, true, true, true, false, false, true, true, true, true, true, true, true, true, false, false, false, false, false, false] #[true, true, true, true, true, false, false, false, true, true, true, true, true, true, true, true, true, false, false, false, false, false] rfl rfl rfl rfl (two_of HT_.out (by kernel_rfl)) (by decide) (by decide) (fun K hK => ?_) (fun K hK => ?_)
                          · skip
                            refine Kd.R_lit_step (Kd.int .u8) _ 5 ?hg (N := 37) ?hd (xs := ([(wrap64 (97 + x5_1)) % 256] : List Int)) (inner := [.int .u8 ((wrap64 (97 + x5_1)) % 256)]) (ok := fun _ => True) (okp := fun _ => True) ?hr ?hp (fun _ hk => hk) trivial (Below.refl _ _) (Nat.le_refl _) (by simp) ?_; (case hd => rfl); (case hg => rfl); (case hr => first | (go_simp; done) | (go_simp; rfl)); (case hp => exact (Reps.one (show Kd.M (Kd.int .u8) _ _ _ ((wrap64 (97 + x5_1)) % 256) [.int .u8 ((wrap64 (97 + x5_1)) % 256)] from rfl) (Reps.none _ _)))
                            intro v359 w22 ho23 hb hg_ hnew_
                            clear hg_ hnew_
                            (first | rw [← Ny358.out] at ho23 | (simp only [Int.reduceToNat] at ho23; rw [← Ny358.out] at ho23))
                            have n0_ := Aside0.mk (Kd.N_elder' (kq_N HO_352001.out) (Kd.R_base ho23) hb)
                            have n1_ := Aside0.mk (Kd.R_elder' (kq_R HO354.out) (Kd.R_base ho23) hb)
                            have n2_ := Aside0.mk (Kd.R_below (kq_R HO357.out) hb)
                            have n3_ := Aside0.mk (Kd.R_below (kq_R HO363.out) hb)
                            have n4_ := Aside0.mk (Kd.R_lower (Kd.R_new' ho23 (Kd.R_lt (kq_R HO354.out))) (below_size (by repeat (first | (with_reducible first | exact HB.out | apply below_alloc | apply pw_below_drewN | apply below_drew1 | refine below_set ?_ GE351.out) | exact HB.out))))
                            have n5_ := Aside0.mk (blk_below (g := gb351) (o := .cells #[.slice Ao14 y355.length co14, .slice Ao16 x352001_1.length co16] 31 (0, 0)) (bkq BK351.out) hb)
                            have n6_ := Aside0.mk (below_step (by repeat (first | (with_reducible first | exact HB.out | apply below_alloc | apply pw_below_drewN | apply below_drew1 | refine below_set ?_ GE351.out) | exact HB.out)) hb)
                            clear HO_352001
                            clear HO354
                            clear HO357
                            clear HO363
                            clear BK351
                            clear HB
                            have HO_352001 := n0_
                            have HO354 := n1_
                            have HO357 := n2_
                            have HO363 := n3_
                            have HO360 := n4_
                            have BK351 := n5_
                            have HB := n6_
                            clear n0_ n1_ n2_ n3_ n4_ n5_ n6_
                            clear hb ho23
                            refine hK.out _ _ ⟨(blk_cell BK351.out 0).trans rfl, (blk_cell BK351.out 1).trans rfl⟩ (fun hHeld => ?_)
                            clear hK K
                            refine norm_ (a' := ?_) ?_ ?_
                            rotate_left
                            · show Act.put _ (some 37) _ = _
                              simp only [Act.put, List.setIfInBounds_toArray, List.set_cons_zero, List.set_cons_succ, i64_w, i32_w]
                              rfl
                            exact norm_ (by first | (simp only [putAll, Act.put, List.setIfInBounds_toArray, List.set_cons_zero, List.set_cons_succ]; done) | (simp only [putAll, Act.put, List.setIfInBounds_toArray, List.set_cons_zero, List.set_cons_succ]; rfl)) (hJ5_10 (v359, v362) _ ⟨hHeld, (by (with_reducible repeat (first | apply Kd.R_alloc | apply Kd.R_drewN | apply Kd.R_drew)); exact Kd.R_mono HO354.out (fun _ hk => by first | exact hk.2 | exact trivial)), (kq_R HO357.out), (by (with_reducible repeat (first | apply Kd.R_alloc | apply Kd.R_drewN | apply Kd.R_drew)); exact Kd.R_mono HO360.out (fun _ hk => by first | exact hk.2 | exact trivial)), (kq_R HO363.out), (by (with_reducible repeat (first | apply Kd.N_alloc | apply Kd.N_drewN | apply Kd.N_drew)); exact Kd.N_mono HO_352001.out (fun _ hk => ⟨hk.1.1, ⟨hk.1.2.1, ⟨hk.2, ⟨hk.1.2.2.1, hk.1.2.2.2⟩⟩⟩⟩)), (bkq BK351.out), (by repeat (first | (with_reducible first | exact HB.out | apply below_alloc | apply pw_below_drewN | apply below_drew1 | refine below_set ?_ GE351.out) | exact HB.out))⟩)
                          · skip
                            refine Kd.R_lit_step k51 _ 51 ?hg (N := 48) ?hd (xs := ([(⟨Int.tmod (wrap64 (x5_1 + 1)) (wrap64 (1 + (wrap64 (Int.tmod a0 20)))), 1⟩ : S51)] : List (S51))) (inner := [.int .i64 (Int.tmod (wrap64 (x5_1 + 1)) (wrap64 (1 + (wrap64 (Int.tmod a0 20))))), .int .i64 1]) (ok := fun _ => True) (okp := fun _ => True) ?hr ?hp (fun _ hk => hk) trivial (Below.refl _ _) (Nat.le_refl _) (by simp) ?_; (case hd => rfl); (case hg => rfl); (case hr => first | (go_simp; done) | (go_simp; rfl)); (case hp => exact (Reps.c2 (show Kd.M k51 _ _ _ (⟨Int.tmod (wrap64 (x5_1 + 1)) (wrap64 (1 + (wrap64 (Int.tmod a0 20)))), 1⟩ : S51) [.int .i64 (Int.tmod (wrap64 (x5_1 + 1)) (wrap64 (1 + (wrap64 (Int.tmod a0 20))))), .int .i64 1] from (k51_mkM _ _ _ (⟨Int.tmod (wrap64 (x5_1 + 1)) (wrap64 (1 + (wrap64 (Int.tmod a0 20)))), 1⟩ : S51) )) (Reps.none _ _)))
                            intro v365 w22 ho23 hb hg_ hnew_
                            clear hg_ hnew_
                            (first | rw [← Ny364.out] at ho23 | (simp only [Int.reduceToNat] at ho23; rw [← Ny364.out] at ho23))
                            have n0_ := Aside0.mk (Kd.N_elder' (kq_N HO_352001.out) (Kd.R_base ho23) hb)
                            have n1_ := Aside0.mk (Kd.R_below (kq_R HO354.out) hb)
                            have n2_ := Aside0.mk (Kd.R_below (kq_R HO357.out) hb)
                            have n3_ := Aside0.mk (Kd.R_elder' (kq_R HO363.out) (Kd.R_base ho23) hb)
                            have n4_ := Aside0.mk (Kd.R_lower (Kd.R_new' ho23 (Kd.R_lt (kq_R HO363.out))) (below_size (by repeat (first | (with_reducible first | exact HB.out | apply below_alloc | apply pw_below_drewN | apply below_drew1 | refine below_set ?_ GE351.out) | exact HB.out))))
                            have n5_ := Aside0.mk (blk_below (g := gb351) (o := .cells #[.slice Ao14 y355.length co14, .slice Ao16 x352001_1.length co16] 31 (0, 0)) (bkq BK351.out) hb)
                            have n6_ := Aside0.mk (below_step (by repeat (first | (with_reducible first | exact HB.out | apply below_alloc | apply pw_below_drewN | apply below_drew1 | refine below_set ?_ GE351.out) | exact HB.out)) hb)
                            clear HO_352001
                            clear HO354
                            clear HO357
                            clear HO363
                            clear BK351
                            clear HB
                            have HO_352001 := n0_
                            have HO354 := n1_
                            have HO357 := n2_
                            have HO363 := n3_
                            have HO366 := n4_
                            have BK351 := n5_
                            have HB := n6_
                            clear n0_ n1_ n2_ n3_ n4_ n5_ n6_
                            clear hb ho23
                            refine hK.out _ _ ⟨(blk_cell BK351.out 0).trans rfl, (blk_cell BK351.out 1).trans rfl⟩ (fun hHeld => ?_)
                            clear hK K
                            refine norm_ (a' := ?_) ?_ ?_
                            rotate_left
                            · show Act.put _ (some 48) _ = _
                              simp only [Act.put, List.setIfInBounds_toArray, List.set_cons_zero, List.set_cons_succ, i64_w, i32_w]
                              rfl
                            exact norm_ (by first | (simp only [putAll, Act.put, List.setIfInBounds_toArray, List.set_cons_zero, List.set_cons_succ]; done) | (simp only [putAll, Act.put, List.setIfInBounds_toArray, List.set_cons_zero, List.set_cons_succ]; rfl)) (hJ10_16 (v362, v365) _ ⟨hHeld, (kq_R HO354.out), (kq_R HO357.out), (by (with_reducible repeat (first | apply Kd.R_alloc | apply Kd.R_drewN | apply Kd.R_drew)); exact Kd.R_mono HO363.out (fun _ hk => by first | exact hk.2 | exact trivial)), (by (with_reducible repeat (first | apply Kd.R_alloc | apply Kd.R_drewN | apply Kd.R_drew)); exact Kd.R_mono HO366.out (fun _ hk => by first | exact hk.2 | exact trivial)), (by (with_reducible repeat (first | apply Kd.N_alloc | apply Kd.N_drewN | apply Kd.N_drew)); exact Kd.N_mono HO_352001.out (fun _ hk => ⟨hk.1.1, ⟨hk.1.2.1, ⟨hk.1.2.2.1, ⟨hk.2, hk.1.2.2.2⟩⟩⟩⟩)), (bkq BK351.out), (by repeat (first | (with_reducible first | exact HB.out | apply below_alloc | apply pw_below_drewN | apply below_drew1 | refine below_set ?_ GE351.out) | exact HB.out))⟩)
                      · skip
                        rintro v359 w21 ⟨hS_, h0_, h1_, h2_, h3_, h4_, h5_⟩
                        have n0_ : Aside0 (Kd.R (Kd.int .u8) 5 w21 w.heap.size (fun k_ => some k_ ≠ (v359 : Value).ownBlock) v353 y352) := ⟨h0_⟩
                        have n1_ : Aside0 (Kd.R k46 46 w21 w.heap.size (fun _ => True) (.slice Ao14 y355.length co14) y355) := ⟨h1_⟩
                        have n2_ : Aside0 (Kd.R (Kd.int .u8) 5 w21 w.heap.size (fun k_ => some k_ ≠ (v353 : Value).ownBlock) v359 y358) := ⟨h2_⟩
                        have n3_ : Aside0 (Kd.N k54 54 w21 w.heap.size (fun k_ => some k_ ≠ (v353 : Value).ownBlock ∧ some k_ ≠ (.slice Ao14 y355.length co14 : Value).ownBlock ∧ some k_ ≠ (v359 : Value).ownBlock ∧ k_ ≠ gb351) (.slice Ao16 x352001_1.length co16) x352001_1) := ⟨h3_⟩
                        have n4_ : Aside0 (w21.heap[gb351]? = some (.cells #[.slice Ao14 y355.length co14, .slice Ao16 x352001_1.length co16] 31 (0, 0))) := ⟨h4_⟩
                        have n5_ : Aside0 (Below w.heap.size w w21) := ⟨h5_⟩
                        clear HO_352001
                        clear HO354
                        clear HO357
                        clear BK351
                        clear HB
                        clear h0_ h1_ h2_ h3_ h4_ h5_
                        have HO354 := n0_
                        have HO357 := n1_
                        have HO360 := n2_
                        have HO_352001 := n3_
                        have BK351 := n4_
                        have HB := n5_
                        clear n0_ n1_ n2_ n3_ n4_ n5_
                        have hHeld : w21.cell? ⟨gb351, 0, none⟩ = some (.slice Ao14 y355.length co14) ∧ w21.cell? ⟨gb351, 1, none⟩ = some (.slice Ao16 x352001_1.length co16) := hS_
                        refine norm_ (a' := ?_) ?_ ?_
                        rotate_left
                        · simp only [putAll, Act.put, List.setIfInBounds_toArray, List.set_cons_zero, List.set_cons_succ]
                          rfl
                        refine three_ (i := 6) (j := 10) (k := 16) (Ni := some 38) (Nj := some 42) (Nk := some 48) #[true, true, true, true, true, true, true, false, true, true, false, true, true, true, true, true, false, false, false, false, false, false] #[true, true, true, true, true, true, false, false, true, true, true, true, true, true, true, true, false, false, false, false, false, false] #[true, true, true, true, true, true, false, false, true, true, false, true, true, true, true, true, true, false, false, false, false, false] rfl rfl rfl rfl rfl rfl (three_of HT_.out (by kernel_rfl)) (by decide) (by decide) (by decide) (fun K hK => ?_) (fun K hK => ?_) (fun K hK => ?_)
                        · skip
                          have hcv22 := own_string (P := Try.prog) Try.underlying22 Try.underlying5 Try.underlying9 (Kd.own_of_R HO360.out)
                          refine value_ (w1 := ?_) (v := ?_) (by rfl) rfl ?_ ?_
                          rotate_left 2
                          · go_simp
                            constructor
                            · rfl
                            · rfl
                          clear hcv22
                          refine hK.out _ _ ⟨(blk_cell BK351.out 0).trans rfl, (blk_cell BK351.out 1).trans rfl⟩ (fun hHeld => ?_)
                          clear hK K
                          refine norm_ (a' := ?_) ?_ ?_
                          rotate_left
                          · show Act.put _ (some 38) _ = _
                            simp only [Act.put, List.setIfInBounds_toArray, List.set_cons_zero, List.set_cons_succ, i64_w, i32_w]
                            rfl
                          refine pure_ (i := 7) (N := some 39) (v := ?_) (a' := ?_) #[true, true, true, true, true, true, true, true, true, true, false, true, true, true, true, true, false, false, false, false, false, false] rfl rfl (any_of HT_.out (by kernel_rfl)) (fun _ _ _ h => h) (Or.inl ⟨by rfl, ?_⟩) ?_ ?_
                          rotate_left
                          · intro w'
                            go_simp
                            with_reducible rfl
                          rotate_left
                          · simp only [Act.put, List.setIfInBounds_toArray, List.set_cons_zero, List.set_cons_succ, i64_w, i32_w]
                            rfl
                          exact norm_ (by first | (simp only [putAll, Act.put, List.setIfInBounds_toArray, List.set_cons_zero, List.set_cons_succ]; done) | (simp only [putAll, Act.put, List.setIfInBounds_toArray, List.set_cons_zero, List.set_cons_succ]; rfl)) (hJ5_6 (v359) _ ⟨hHeld, (kq_R HO354.out), (kq_R HO357.out), (kq_R HO360.out), (kq_N HO_352001.out), (bkq BK351.out), (by repeat (first | (with_reducible first | exact HB.out | apply below_alloc | apply pw_below_drewN | apply below_drew1 | refine below_set ?_ GE351.out) | exact HB.out))⟩)
                        · skip
                          refine Kd.R_lit_step k51 _ 51 ?hg (N := 42) ?hd (xs := ([(⟨x5_1, 1⟩ : S51)] : List (S51))) (inner := [.int .i64 x5_1, .int .i64 1]) (ok := fun _ => True) (okp := fun _ => True) ?hr ?hp (fun _ hk => hk) trivial (Below.refl _ _) (Nat.le_refl _) (by simp) ?_; (case hd => rfl); (case hg => rfl); (case hr => first | (go_simp; done) | (go_simp; rfl)); (case hp => exact (Reps.c2 (show Kd.M k51 _ _ _ (⟨x5_1, 1⟩ : S51) [.int .i64 x5_1, .int .i64 1] from (k51_mkM _ _ _ (⟨x5_1, 1⟩ : S51) )) (Reps.none _ _)))
                          intro v362 w22 ho23 hb hg_ hnew_
                          clear hg_ hnew_
                          (first | rw [← Ny361.out] at ho23 | (simp only [Int.reduceToNat] at ho23; rw [← Ny361.out] at ho23))
                          have n0_ := Aside0.mk (Kd.N_elder' (kq_N HO_352001.out) (Kd.R_base ho23) hb)
                          have n1_ := Aside0.mk (Kd.R_below (kq_R HO354.out) hb)
                          have n2_ := Aside0.mk (Kd.R_below (kq_R HO357.out) hb)
                          have n3_ := Aside0.mk (Kd.R_below (kq_R HO360.out) hb)
                          have n4_ := Aside0.mk (Kd.R_lower ho23 (below_size (by repeat (first | (with_reducible first | exact HB.out | apply below_alloc | apply pw_below_drewN | apply below_drew1 | refine below_set ?_ GE351.out) | exact HB.out))))
                          have n5_ := Aside0.mk (blk_below (g := gb351) (o := .cells #[.slice Ao14 y355.length co14, .slice Ao16 x352001_1.length co16] 31 (0, 0)) (bkq BK351.out) hb)
                          have n6_ := Aside0.mk (below_step (by repeat (first | (with_reducible first | exact HB.out | apply below_alloc | apply pw_below_drewN | apply below_drew1 | refine below_set ?_ GE351.out) | exact HB.out)) hb)
                          clear HO_352001
                          clear HO354
                          clear HO357
                          clear HO360
                          clear BK351
                          clear HB
                          have HO_352001 := n0_
                          have HO354 := n1_
                          have HO357 := n2_
                          have HO360 := n3_
                          have HO363 := n4_
                          have BK351 := n5_
                          have HB := n6_
                          clear n0_ n1_ n2_ n3_ n4_ n5_ n6_
                          clear hb ho23
                          refine hK.out _ _ ⟨(blk_cell BK351.out 0).trans rfl, (blk_cell BK351.out 1).trans rfl⟩ (fun hHeld => ?_)
                          clear hK K
                          refine norm_ (a' := ?_) ?_ ?_
                          rotate_left
                          · show Act.put _ (some 42) _ = _
                            simp only [Act.put, List.setIfInBounds_toArray, List.set_cons_zero, List.set_cons_succ, i64_w, i32_w]
                            rfl
                          exact norm_ (by first | (simp only [putAll, Act.put, List.setIfInBounds_toArray, List.set_cons_zero, List.set_cons_succ]; done) | (simp only [putAll, Act.put, List.setIfInBounds_toArray, List.set_cons_zero, List.set_cons_succ]; rfl)) (hJ5_10 (v359, v362) _ ⟨hHeld, (kq_R HO354.out), (kq_R HO357.out), (kq_R HO360.out), (kq_R HO363.out), (by (with_reducible repeat (first | apply Kd.N_alloc | apply Kd.N_drewN | apply Kd.N_drew)); exact Kd.N_mono HO_352001.out (fun _ hk => ⟨hk.1.1, ⟨hk.1.2.1, ⟨hk.1.2.2.1, ⟨hk.2, hk.1.2.2.2⟩⟩⟩⟩)), (bkq BK351.out), (by repeat (first | (with_reducible first | exact HB.out | apply below_alloc | apply pw_below_drewN | apply below_drew1 | refine below_set ?_ GE351.out) | exact HB.out))⟩)
                        · skip
                          refine Kd.R_lit_step k51 _ 51 ?hg (N := 48) ?hd (xs := ([(⟨Int.tmod (wrap64 (x5_1 + 1)) (wrap64 (1 + (wrap64 (Int.tmod a0 20)))), 1⟩ : S51)] : List (S51))) (inner := [.int .i64 (Int.tmod (wrap64 (x5_1 + 1)) (wrap64 (1 + (wrap64 (Int.tmod a0 20))))), .int .i64 1]) (ok := fun _ => True) (okp := fun _ => True) ?hr ?hp (fun _ hk => hk) trivial (Below.refl _ _) (Nat.le_refl _) (by simp) ?_; (case hd => rfl); (case hg => rfl); (case hr => first | (go_simp; done) | (go_simp; rfl)); (case hp => exact (Reps.c2 (show Kd.M k51 _ _ _ (⟨Int.tmod (wrap64 (x5_1 + 1)) (wrap64 (1 + (wrap64 (Int.tmod a0 20)))), 1⟩ : S51) [.int .i64 (Int.tmod (wrap64 (x5_1 + 1)) (wrap64 (1 + (wrap64 (Int.tmod a0 20))))), .int .i64 1] from (k51_mkM _ _ _ (⟨Int.tmod (wrap64 (x5_1 + 1)) (wrap64 (1 + (wrap64 (Int.tmod a0 20)))), 1⟩ : S51) )) (Reps.none _ _)))
                          intro v365 w22 ho23 hb hg_ hnew_
                          clear hg_ hnew_
                          (first | rw [← Ny364.out] at ho23 | (simp only [Int.reduceToNat] at ho23; rw [← Ny364.out] at ho23))
                          have n0_ := Aside0.mk (Kd.N_elder' (kq_N HO_352001.out) (Kd.R_base ho23) hb)
                          have n1_ := Aside0.mk (Kd.R_below (kq_R HO354.out) hb)
                          have n2_ := Aside0.mk (Kd.R_below (kq_R HO357.out) hb)
                          have n3_ := Aside0.mk (Kd.R_below (kq_R HO360.out) hb)
                          have n4_ := Aside0.mk (Kd.R_lower ho23 (below_size (by repeat (first | (with_reducible first | exact HB.out | apply below_alloc | apply pw_below_drewN | apply below_drew1 | refine below_set ?_ GE351.out) | exact HB.out))))
                          have n5_ := Aside0.mk (blk_below (g := gb351) (o := .cells #[.slice Ao14 y355.length co14, .slice Ao16 x352001_1.length co16] 31 (0, 0)) (bkq BK351.out) hb)
                          have n6_ := Aside0.mk (below_step (by repeat (first | (with_reducible first | exact HB.out | apply below_alloc | apply pw_below_drewN | apply below_drew1 | refine below_set ?_ GE351.out) | exact HB.out)) hb)
                          clear HO_352001
                          clear HO354
                          clear HO357
                          clear HO360
                          clear BK351
                          clear HB
                          have HO_352001 := n0_
                          have HO354 := n1_
                          have HO357 := n2_
                          have HO360 := n3_
                          have HO366 := n4_
                          have BK351 := n5_
                          have HB := n6_
                          clear n0_ n1_ n2_ n3_ n4_ n5_ n6_
                          clear hb ho23
                          refine hK.out _ _ ⟨(blk_cell BK351.out 0).trans rfl, (blk_cell BK351.out 1).trans rfl⟩ (fun hHeld => ?_)
                          clear hK K
                          refine norm_ (a' := ?_) ?_ ?_
                          rotate_left
                          · show Act.put _ (some 48) _ = _
                            simp only [Act.put, List.setIfInBounds_toArray, List.set_cons_zero, List.set_cons_succ, i64_w, i32_w]
                            rfl
                          exact norm_ (by first | (simp only [putAll, Act.put, List.setIfInBounds_toArray, List.set_cons_zero, List.set_cons_succ]; done) | (simp only [putAll, Act.put, List.setIfInBounds_toArray, List.set_cons_zero, List.set_cons_succ]; rfl)) (hJ5_16 (v359, v365) _ ⟨hHeld, (kq_R HO354.out), (kq_R HO357.out), (kq_R HO360.out), (kq_R HO366.out), (by (with_reducible repeat (first | apply Kd.N_alloc | apply Kd.N_drewN | apply Kd.N_drew)); exact Kd.N_mono HO_352001.out (fun _ hk => ⟨hk.1.1, ⟨hk.1.2.1, ⟨hk.1.2.2.1, ⟨hk.2, hk.1.2.2.2⟩⟩⟩⟩)), (bkq BK351.out), (by repeat (first | (with_reducible first | exact HB.out | apply below_alloc | apply pw_below_drewN | apply below_drew1 | refine below_set ?_ GE351.out) | exact HB.out))⟩)
                    · skip
                      rintro ⟨v362, v365⟩ w23 ⟨hS_, h0_, h1_, h2_, h3_, h4_, h5_, h6_⟩
                      have n0_ : Aside0 (Kd.R (Kd.int .u8) 5 w23 w.heap.size (fun _ => True) v353 y352) := ⟨h0_⟩
                      have n1_ : Aside0 (Kd.R k46 46 w23 w.heap.size (fun _ => True) (.slice Ao14 y355.length co14) y355) := ⟨h1_⟩
                      have n2_ : Aside0 (Kd.R k51 51 w23 w.heap.size (fun k_ => some k_ ≠ (v365 : Value).ownBlock) v362 y361) := ⟨h2_⟩
                      have n3_ : Aside0 (Kd.R k51 51 w23 w.heap.size (fun k_ => some k_ ≠ (v362 : Value).ownBlock) v365 y364) := ⟨h3_⟩
                      have n4_ : Aside0 (Kd.N k54 54 w23 w.heap.size (fun k_ => some k_ ≠ (v353 : Value).ownBlock ∧ some k_ ≠ (.slice Ao14 y355.length co14 : Value).ownBlock ∧ some k_ ≠ (v362 : Value).ownBlock ∧ some k_ ≠ (v365 : Value).ownBlock ∧ k_ ≠ gb351) (.slice Ao16 x352001_1.length co16) x352001_1) := ⟨h4_⟩
                      have n5_ : Aside0 (w23.heap[gb351]? = some (.cells #[.slice Ao14 y355.length co14, .slice Ao16 x352001_1.length co16] 31 (0, 0))) := ⟨h5_⟩
                      have n6_ : Aside0 (Below w.heap.size w w23) := ⟨h6_⟩
                      clear HO_352001
                      clear HO354
                      clear HO357
                      clear BK351
                      clear HB
                      clear h0_ h1_ h2_ h3_ h4_ h5_ h6_
                      have HO354 := n0_
                      have HO357 := n1_
                      have HO363 := n2_
                      have HO366 := n3_
                      have HO_352001 := n4_
                      have BK351 := n5_
                      have HB := n6_
                      clear n0_ n1_ n2_ n3_ n4_ n5_ n6_
                      have hHeld : w23.cell? ⟨gb351, 0, none⟩ = some (.slice Ao14 y355.length co14) ∧ w23.cell? ⟨gb351, 1, none⟩ = some (.slice Ao16 x352001_1.length co16) := hS_
                      refine norm_ (a' := ?_) ?_ ?_
                      rotate_left
                      · simp only [putAll, Act.put, List.setIfInBounds_toArray, List.set_cons_zero, List.set_cons_succ]
                        rfl
                      refine one_ (i := 5) (N := some 37) #[true, true, true, true, true, true, false, false, true, true, true, true, true, true, true, true, true, false, false, false, false, false] rfl rfl (one_of HT_.out (by kernel_rfl)) (by decide) (fun K hK => ?_)
                      refine Kd.R_lit_step (Kd.int .u8) _ 5 ?hg (N := 37) ?hd (xs := ([(wrap64 (97 + x5_1)) % 256] : List Int)) (inner := [.int .u8 ((wrap64 (97 + x5_1)) % 256)]) (ok := fun _ => True) (okp := fun _ => True) ?hr ?hp (fun _ hk => hk) trivial (Below.refl _ _) (Nat.le_refl _) (by simp) ?_; (case hd => rfl); (case hg => rfl); (case hr => first | (go_simp; done) | (go_simp; rfl)); (case hp => exact (Reps.one (show Kd.M (Kd.int .u8) _ _ _ ((wrap64 (97 + x5_1)) % 256) [.int .u8 ((wrap64 (97 + x5_1)) % 256)] from rfl) (Reps.none _ _)))
                      intro v359 w24 ho25 hb hg_ hnew_
                      clear hg_ hnew_
                      (first | rw [← Ny358.out] at ho25 | (simp only [Int.reduceToNat] at ho25; rw [← Ny358.out] at ho25))
                      have n0_ := Aside0.mk (Kd.N_elder' (kq_N HO_352001.out) (Kd.R_base ho25) hb)
                      have n1_ := Aside0.mk (Kd.R_elder' (kq_R HO354.out) (Kd.R_base ho25) hb)
                      have n2_ := Aside0.mk (Kd.R_below (kq_R HO357.out) hb)
                      have n3_ := Aside0.mk (Kd.R_below (kq_R HO363.out) hb)
                      have n4_ := Aside0.mk (Kd.R_below (kq_R HO366.out) hb)
                      have n5_ := Aside0.mk (Kd.R_lower (Kd.R_new' ho25 (Kd.R_lt (kq_R HO354.out))) (below_size (by repeat (first | (with_reducible first | exact HB.out | apply below_alloc | apply pw_below_drewN | apply below_drew1 | refine below_set ?_ GE351.out) | exact HB.out))))
                      have n6_ := Aside0.mk (blk_below (g := gb351) (o := .cells #[.slice Ao14 y355.length co14, .slice Ao16 x352001_1.length co16] 31 (0, 0)) (bkq BK351.out) hb)
                      have n7_ := Aside0.mk (below_step (by repeat (first | (with_reducible first | exact HB.out | apply below_alloc | apply pw_below_drewN | apply below_drew1 | refine below_set ?_ GE351.out) | exact HB.out)) hb)
                      clear HO_352001
                      clear HO354
                      clear HO357
                      clear HO363
                      clear HO366
                      clear BK351
                      clear HB
                      have HO_352001 := n0_
                      have HO354 := n1_
                      have HO357 := n2_
                      have HO363 := n3_
                      have HO366 := n4_
                      have HO360 := n5_
                      have BK351 := n6_
                      have HB := n7_
                      clear n0_ n1_ n2_ n3_ n4_ n5_ n6_ n7_
                      clear hb ho25
                      refine hK.out _ _ ⟨(blk_cell BK351.out 0).trans rfl, (blk_cell BK351.out 1).trans rfl⟩ (fun hHeld => ?_)
                      clear hK K
                      refine norm_ (a' := ?_) ?_ ?_
                      rotate_left
                      · show Act.put _ (some 37) _ = _
                        simp only [Act.put, List.setIfInBounds_toArray, List.set_cons_zero, List.set_cons_succ, i64_w, i32_w]
                        rfl
                      exact norm_ (by first | (simp only [putAll, Act.put, List.setIfInBounds_toArray, List.set_cons_zero, List.set_cons_succ]; done) | (simp only [putAll, Act.put, List.setIfInBounds_toArray, List.set_cons_zero, List.set_cons_succ]; rfl)) (hJ5_10_16 (v359, v362, v365) _ ⟨hHeld, (by (with_reducible repeat (first | apply Kd.R_alloc | apply Kd.R_drewN | apply Kd.R_drew)); exact Kd.R_mono HO354.out (fun _ hk => by first | exact hk.2 | exact trivial)), (kq_R HO357.out), (by (with_reducible repeat (first | apply Kd.R_alloc | apply Kd.R_drewN | apply Kd.R_drew)); exact Kd.R_mono HO360.out (fun _ hk => by first | exact hk.2 | exact trivial)), (kq_R HO363.out), (kq_R HO366.out), (by (with_reducible repeat (first | apply Kd.N_alloc | apply Kd.N_drewN | apply Kd.N_drew)); exact Kd.N_mono HO_352001.out (fun _ hk => ⟨hk.1.1, ⟨hk.1.2.1, ⟨hk.2, ⟨hk.1.2.2.1, ⟨hk.1.2.2.2.1, hk.1.2.2.2.2⟩⟩⟩⟩⟩)), (bkq BK351.out), (by repeat (first | (with_reducible first | exact HB.out | apply below_alloc | apply pw_below_drewN | apply below_drew1 | refine below_set ?_ GE351.out) | exact HB.out))⟩)
                  · skip
                    rintro ⟨v359, v365⟩ w23 ⟨hS_, h0_, h1_, h2_, h3_, h4_, h5_, h6_⟩
                    have n0_ : Aside0 (Kd.R (Kd.int .u8) 5 w23 w.heap.size (fun k_ => some k_ ≠ (v359 : Value).ownBlock) v353 y352) := ⟨h0_⟩
                    have n1_ : Aside0 (Kd.R k46 46 w23 w.heap.size (fun _ => True) (.slice Ao14 y355.length co14) y355) := ⟨h1_⟩
                    have n2_ : Aside0 (Kd.R (Kd.int .u8) 5 w23 w.heap.size (fun k_ => some k_ ≠ (v353 : Value).ownBlock) v359 y358) := ⟨h2_⟩
                    have n3_ : Aside0 (Kd.R k51 51 w23 w.heap.size (fun _ => True) v365 y364) := ⟨h3_⟩
                    have n4_ : Aside0 (Kd.N k54 54 w23 w.heap.size (fun k_ => some k_ ≠ (v353 : Value).ownBlock ∧ some k_ ≠ (.slice Ao14 y355.length co14 : Value).ownBlock ∧ some k_ ≠ (v359 : Value).ownBlock ∧ some k_ ≠ (v365 : Value).ownBlock ∧ k_ ≠ gb351) (.slice Ao16 x352001_1.length co16) x352001_1) := ⟨h4_⟩
                    have n5_ : Aside0 (w23.heap[gb351]? = some (.cells #[.slice Ao14 y355.length co14, .slice Ao16 x352001_1.length co16] 31 (0, 0))) := ⟨h5_⟩
                    have n6_ : Aside0 (Below w.heap.size w w23) := ⟨h6_⟩
                    clear HO_352001
                    clear HO354
                    clear HO357
                    clear BK351
                    clear HB
                    clear h0_ h1_ h2_ h3_ h4_ h5_ h6_
                    have HO354 := n0_
                    have HO357 := n1_
                    have HO360 := n2_
                    have HO366 := n3_
                    have HO_352001 := n4_
                    have BK351 := n5_
                    have HB := n6_
                    clear n0_ n1_ n2_ n3_ n4_ n5_ n6_
                    have hHeld : w23.cell? ⟨gb351, 0, none⟩ = some (.slice Ao14 y355.length co14) ∧ w23.cell? ⟨gb351, 1, none⟩ = some (.slice Ao16 x352001_1.length co16) := hS_
                    refine norm_ (a' := ?_) ?_ ?_
                    rotate_left
                    · simp only [putAll, Act.put, List.setIfInBounds_toArray, List.set_cons_zero, List.set_cons_succ]
                      rfl
                    refine two_ (i := 6) (j := 10) (Ni := some 38) (Nj := some 42) #[true, true, true, true, true, true, true, false, true, true, false, true, true, true, true, true, true, false, false, false, false, false] #[true, true, true, true, true, true, false, false, true, true, true, true, true, true, true, true, true, false, false, false, false, false] rfl rfl rfl rfl (two_of HT_.out (by kernel_rfl)) (by decide) (by decide) (fun K hK => ?_) (fun K hK => ?_)
                    · skip
                      have hcv24 := own_string (P := Try.prog) Try.underlying22 Try.underlying5 Try.underlying9 (Kd.own_of_R HO360.out)
                      refine value_ (w1 := ?_) (v := ?_) (by rfl) rfl ?_ ?_
                      rotate_left 2
                      · go_simp
                        constructor
                        · rfl
                        · rfl
                      clear hcv24
                      refine hK.out _ _ ⟨(blk_cell BK351.out 0).trans rfl, (blk_cell BK351.out 1).trans rfl⟩ (fun hHeld => ?_)
                      clear hK K
                      refine norm_ (a' := ?_) ?_ ?_
                      rotate_left
                      · show Act.put _ (some 38) _ = _
                        simp only [Act.put, List.setIfInBounds_toArray, List.set_cons_zero, List.set_cons_succ, i64_w, i32_w]
                        rfl
                      refine pure_ (i := 7) (N := some 39) (v := ?_) (a' := ?_) #[true, true, true, true, true, true, true, true, true, true, false, true, true, true, true, true, true, false, false, false, false, false] rfl rfl (any_of HT_.out (by kernel_rfl)) (fun _ _ _ h => h) (Or.inl ⟨by rfl, ?_⟩) ?_ ?_
                      rotate_left
                      · intro w'
                        go_simp
                        with_reducible rfl
                      rotate_left
                      · simp only [Act.put, List.setIfInBounds_toArray, List.set_cons_zero, List.set_cons_succ, i64_w, i32_w]
                        rfl
                      exact norm_ (by first | (simp only [putAll, Act.put, List.setIfInBounds_toArray, List.set_cons_zero, List.set_cons_succ]; done) | (simp only [putAll, Act.put, List.setIfInBounds_toArray, List.set_cons_zero, List.set_cons_succ]; rfl)) (hJ5_6_16 (v359, v365) _ ⟨hHeld, (kq_R HO354.out), (kq_R HO357.out), (kq_R HO360.out), (kq_R HO366.out), (kq_N HO_352001.out), (bkq BK351.out), (by repeat (first | (with_reducible first | exact HB.out | apply below_alloc | apply pw_below_drewN | apply below_drew1 | refine below_set ?_ GE351.out) | exact HB.out))⟩)
                    · skip
                      refine Kd.R_lit_step k51 _ 51 ?hg (N := 42) ?hd (xs := ([(⟨x5_1, 1⟩ : S51)] : List (S51))) (inner := [.int .i64 x5_1, .int .i64 1]) (ok := fun _ => True) (okp := fun _ => True) ?hr ?hp (fun _ hk => hk) trivial (Below.refl _ _) (Nat.le_refl _) (by simp) ?_; (case hd => rfl); (case hg => rfl); (case hr => first | (go_simp; done) | (go_simp; rfl)); (case hp => exact (Reps.c2 (show Kd.M k51 _ _ _ (⟨x5_1, 1⟩ : S51) [.int .i64 x5_1, .int .i64 1] from (k51_mkM _ _ _ (⟨x5_1, 1⟩ : S51) )) (Reps.none _ _)))
                      intro v362 w24 ho25 hb hg_ hnew_
                      clear hg_ hnew_
                      (first | rw [← Ny361.out] at ho25 | (simp only [Int.reduceToNat] at ho25; rw [← Ny361.out] at ho25))
                      have n0_ := Aside0.mk (Kd.N_elder' (kq_N HO_352001.out) (Kd.R_base ho25) hb)
                      have n1_ := Aside0.mk (Kd.R_below (kq_R HO354.out) hb)
                      have n2_ := Aside0.mk (Kd.R_below (kq_R HO357.out) hb)
                      have n3_ := Aside0.mk (Kd.R_below (kq_R HO360.out) hb)
                      have n4_ := Aside0.mk (Kd.R_elder' (kq_R HO366.out) (Kd.R_base ho25) hb)
                      have n5_ := Aside0.mk (Kd.R_lower (Kd.R_new' ho25 (Kd.R_lt (kq_R HO366.out))) (below_size (by repeat (first | (with_reducible first | exact HB.out | apply below_alloc | apply pw_below_drewN | apply below_drew1 | refine below_set ?_ GE351.out) | exact HB.out))))
                      have n6_ := Aside0.mk (blk_below (g := gb351) (o := .cells #[.slice Ao14 y355.length co14, .slice Ao16 x352001_1.length co16] 31 (0, 0)) (bkq BK351.out) hb)
                      have n7_ := Aside0.mk (below_step (by repeat (first | (with_reducible first | exact HB.out | apply below_alloc | apply pw_below_drewN | apply below_drew1 | refine below_set ?_ GE351.out) | exact HB.out)) hb)
                      clear HO_352001
                      clear HO354
                      clear HO357
                      clear HO360
                      clear HO366
                      clear BK351
                      clear HB
                      have HO_352001 := n0_
                      have HO354 := n1_
                      have HO357 := n2_
                      have HO360 := n3_
                      have HO366 := n4_
                      have HO363 := n5_
                      have BK351 := n6_
                      have HB := n7_
                      clear n0_ n1_ n2_ n3_ n4_ n5_ n6_ n7_
                      clear hb ho25
                      refine hK.out _ _ ⟨(blk_cell BK351.out 0).trans rfl, (blk_cell BK351.out 1).trans rfl⟩ (fun hHeld => ?_)
                      clear hK K
                      refine norm_ (a' := ?_) ?_ ?_
                      rotate_left
                      · show Act.put _ (some 42) _ = _
                        simp only [Act.put, List.setIfInBounds_toArray, List.set_cons_zero, List.set_cons_succ, i64_w, i32_w]
                        rfl
                      exact norm_ (by first | (simp only [putAll, Act.put, List.setIfInBounds_toArray, List.set_cons_zero, List.set_cons_succ]; done) | (simp only [putAll, Act.put, List.setIfInBounds_toArray, List.set_cons_zero, List.set_cons_succ]; rfl)) (hJ5_10_16 (v359, v362, v365) _ ⟨hHeld, (kq_R HO354.out), (kq_R HO357.out), (kq_R HO360.out), (by (with_reducible repeat (first | apply Kd.R_alloc | apply Kd.R_drewN | apply Kd.R_drew)); exact Kd.R_mono HO363.out (fun _ hk => by first | exact hk.2 | exact trivial)), (by (with_reducible repeat (first | apply Kd.R_alloc | apply Kd.R_drewN | apply Kd.R_drew)); exact Kd.R_mono HO366.out (fun _ hk => by first | exact hk.2 | exact trivial)), (by (with_reducible repeat (first | apply Kd.N_alloc | apply Kd.N_drewN | apply Kd.N_drew)); exact Kd.N_mono HO_352001.out (fun _ hk => ⟨hk.1.1, ⟨hk.1.2.1, ⟨hk.1.2.2.1, ⟨hk.2, ⟨hk.1.2.2.2.1, hk.1.2.2.2.2⟩⟩⟩⟩⟩)), (bkq BK351.out), (by repeat (first | (with_reducible first | exact HB.out | apply below_alloc | apply pw_below_drewN | apply below_drew1 | refine below_set ?_ GE351.out) | exact HB.out))⟩)
                · skip
                  rintro ⟨v359, v362⟩ w23 ⟨hS_, h0_, h1_, h2_, h3_, h4_, h5_, h6_⟩
                  have n0_ : Aside0 (Kd.R (Kd.int .u8) 5 w23 w.heap.size (fun k_ => some k_ ≠ (v359 : Value).ownBlock) v353 y352) := ⟨h0_⟩
                  have n1_ : Aside0 (Kd.R k46 46 w23 w.heap.size (fun _ => True) (.slice Ao14 y355.length co14) y355) := ⟨h1_⟩
                  have n2_ : Aside0 (Kd.R (Kd.int .u8) 5 w23 w.heap.size (fun k_ => some k_ ≠ (v353 : Value).ownBlock) v359 y358) := ⟨h2_⟩
                  have n3_ : Aside0 (Kd.R k51 51 w23 w.heap.size (fun _ => True) v362 y361) := ⟨h3_⟩
                  have n4_ : Aside0 (Kd.N k54 54 w23 w.heap.size (fun k_ => some k_ ≠ (v353 : Value).ownBlock ∧ some k_ ≠ (.slice Ao14 y355.length co14 : Value).ownBlock ∧ some k_ ≠ (v359 : Value).ownBlock ∧ some k_ ≠ (v362 : Value).ownBlock ∧ k_ ≠ gb351) (.slice Ao16 x352001_1.length co16) x352001_1) := ⟨h4_⟩
                  have n5_ : Aside0 (w23.heap[gb351]? = some (.cells #[.slice Ao14 y355.length co14, .slice Ao16 x352001_1.length co16] 31 (0, 0))) := ⟨h5_⟩
                  have n6_ : Aside0 (Below w.heap.size w w23) := ⟨h6_⟩
                  clear HO_352001
                  clear HO354
                  clear HO357
                  clear BK351
                  clear HB
                  clear h0_ h1_ h2_ h3_ h4_ h5_ h6_
                  have HO354 := n0_
                  have HO357 := n1_
                  have HO360 := n2_
                  have HO363 := n3_
                  have HO_352001 := n4_
                  have BK351 := n5_
                  have HB := n6_
                  clear n0_ n1_ n2_ n3_ n4_ n5_ n6_
                  have hHeld : w23.cell? ⟨gb351, 0, none⟩ = some (.slice Ao14 y355.length co14) ∧ w23.cell? ⟨gb351, 1, none⟩ = some (.slice Ao16 x352001_1.length co16) := hS_
                  refine norm_ (a' := ?_) ?_ ?_
                  rotate_left
                  · simp only [putAll, Act.put, List.setIfInBounds_toArray, List.set_cons_zero, List.set_cons_succ]
                    rfl
                  refine two_ (i := 6) (j := 16) (Ni := some 38) (Nj := some 48) #[true, true, true, true, true, true, true, false, true, true, true, true, true, true, true, true, false, false, false, false, false, false] #[true, true, true, true, true, true, false, false, true, true, true, true, true, true, true, true, true, false, false, false, false, false] rfl rfl rfl rfl (two_of HT_.out (by kernel_rfl)) (by decide) (by decide) (fun K hK => ?_) (fun K hK => ?_)
                  · skip
                    have hcv24 := own_string (P := Try.prog) Try.underlying22 Try.underlying5 Try.underlying9 (Kd.own_of_R HO360.out)
                    refine value_ (w1 := ?_) (v := ?_) (by rfl) rfl ?_ ?_
                    rotate_left 2
                    · go_simp
                      constructor
                      · rfl
                      · rfl
                    clear hcv24
                    refine hK.out _ _ ⟨(blk_cell BK351.out 0).trans rfl, (blk_cell BK351.out 1).trans rfl⟩ (fun hHeld => ?_)
                    clear hK K
                    refine norm_ (a' := ?_) ?_ ?_
                    rotate_left
                    · show Act.put _ (some 38) _ = _
                      simp only [Act.put, List.setIfInBounds_toArray, List.set_cons_zero, List.set_cons_succ, i64_w, i32_w]
                      rfl
                    refine pure_ (i := 7) (N := some 39) (v := ?_) (a' := ?_) #[true, true, true, true, true, true, true, true, true, true, true, true, true, true, true, true, false, false, false, false, false, false] rfl rfl (any_of HT_.out (by kernel_rfl)) (fun _ _ _ h => h) (Or.inl ⟨by rfl, ?_⟩) ?_ ?_
                    rotate_left
                    · intro w'
                      go_simp
                      with_reducible rfl
                    rotate_left
                    · simp only [Act.put, List.setIfInBounds_toArray, List.set_cons_zero, List.set_cons_succ, i64_w, i32_w]
                      rfl
                    exact norm_ (by first | (simp only [putAll, Act.put, List.setIfInBounds_toArray, List.set_cons_zero, List.set_cons_succ]; done) | (simp only [putAll, Act.put, List.setIfInBounds_toArray, List.set_cons_zero, List.set_cons_succ]; rfl)) (hJ5_6_10 (v359, v362) _ ⟨hHeld, (kq_R HO354.out), (kq_R HO357.out), (kq_R HO360.out), (kq_R HO363.out), (kq_N HO_352001.out), (bkq BK351.out), (by repeat (first | (with_reducible first | exact HB.out | apply below_alloc | apply pw_below_drewN | apply below_drew1 | refine below_set ?_ GE351.out) | exact HB.out))⟩)
                  · skip
                    refine Kd.R_lit_step k51 _ 51 ?hg (N := 48) ?hd (xs := ([(⟨Int.tmod (wrap64 (x5_1 + 1)) (wrap64 (1 + (wrap64 (Int.tmod a0 20)))), 1⟩ : S51)] : List (S51))) (inner := [.int .i64 (Int.tmod (wrap64 (x5_1 + 1)) (wrap64 (1 + (wrap64 (Int.tmod a0 20))))), .int .i64 1]) (ok := fun _ => True) (okp := fun _ => True) ?hr ?hp (fun _ hk => hk) trivial (Below.refl _ _) (Nat.le_refl _) (by simp) ?_; (case hd => rfl); (case hg => rfl); (case hr => first | (go_simp; done) | (go_simp; rfl)); (case hp => exact (Reps.c2 (show Kd.M k51 _ _ _ (⟨Int.tmod (wrap64 (x5_1 + 1)) (wrap64 (1 + (wrap64 (Int.tmod a0 20)))), 1⟩ : S51) [.int .i64 (Int.tmod (wrap64 (x5_1 + 1)) (wrap64 (1 + (wrap64 (Int.tmod a0 20))))), .int .i64 1] from (k51_mkM _ _ _ (⟨Int.tmod (wrap64 (x5_1 + 1)) (wrap64 (1 + (wrap64 (Int.tmod a0 20)))), 1⟩ : S51) )) (Reps.none _ _)))
                    intro v365 w24 ho25 hb hg_ hnew_
                    clear hg_ hnew_
                    (first | rw [← Ny364.out] at ho25 | (simp only [Int.reduceToNat] at ho25; rw [← Ny364.out] at ho25))
                    have n0_ := Aside0.mk (Kd.N_elder' (kq_N HO_352001.out) (Kd.R_base ho25) hb)
                    have n1_ := Aside0.mk (Kd.R_below (kq_R HO354.out) hb)
                    have n2_ := Aside0.mk (Kd.R_below (kq_R HO357.out) hb)
                    have n3_ := Aside0.mk (Kd.R_below (kq_R HO360.out) hb)
                    have n4_ := Aside0.mk (Kd.R_elder' (kq_R HO363.out) (Kd.R_base ho25) hb)
                    have n5_ := Aside0.mk (Kd.R_lower (Kd.R_new' ho25 (Kd.R_lt (kq_R HO363.out))) (below_size (by repeat (first | (with_reducible first | exact HB.out | apply below_alloc | apply pw_below_drewN | apply below_drew1 | refine below_set ?_ GE351.out) | exact HB.out))))
                    have n6_ := Aside0.mk (blk_below (g := gb351) (o := .cells #[.slice Ao14 y355.length co14, .slice Ao16 x352001_1.length co16] 31 (0, 0)) (bkq BK351.out) hb)
                    have n7_ := Aside0.mk (below_step (by repeat (first | (with_reducible first | exact HB.out | apply below_alloc | apply pw_below_drewN | apply below_drew1 | refine below_set ?_ GE351.out) | exact HB.out)) hb)
                    clear HO_352001
                    clear HO354
                    clear HO357
                    clear HO360
                    clear HO363
                    clear BK351
                    clear HB
                    have HO_352001 := n0_
                    have HO354 := n1_
                    have HO357 := n2_
                    have HO360 := n3_
                    have HO363 := n4_
                    have HO366 := n5_
                    have BK351 := n6_
                    have HB := n7_
                    clear n0_ n1_ n2_ n3_ n4_ n5_ n6_ n7_
                    clear hb ho25
                    refine hK.out _ _ ⟨(blk_cell BK351.out 0).trans rfl, (blk_cell BK351.out 1).trans rfl⟩ (fun hHeld => ?_)
                    clear hK K
                    refine norm_ (a' := ?_) ?_ ?_
                    rotate_left
                    · show Act.put _ (some 48) _ = _
                      simp only [Act.put, List.setIfInBounds_toArray, List.set_cons_zero, List.set_cons_succ, i64_w, i32_w]
                      rfl
                    exact norm_ (by first | (simp only [putAll, Act.put, List.setIfInBounds_toArray, List.set_cons_zero, List.set_cons_succ]; done) | (simp only [putAll, Act.put, List.setIfInBounds_toArray, List.set_cons_zero, List.set_cons_succ]; rfl)) (hJ5_10_16 (v359, v362, v365) _ ⟨hHeld, (kq_R HO354.out), (kq_R HO357.out), (kq_R HO360.out), (by (with_reducible repeat (first | apply Kd.R_alloc | apply Kd.R_drewN | apply Kd.R_drew)); exact Kd.R_mono HO363.out (fun _ hk => by first | exact hk.2 | exact trivial)), (by (with_reducible repeat (first | apply Kd.R_alloc | apply Kd.R_drewN | apply Kd.R_drew)); exact Kd.R_mono HO366.out (fun _ hk => by first | exact hk.2 | exact trivial)), (by (with_reducible repeat (first | apply Kd.N_alloc | apply Kd.N_drewN | apply Kd.N_drew)); exact Kd.N_mono HO_352001.out (fun _ hk => ⟨hk.1.1, ⟨hk.1.2.1, ⟨hk.1.2.2.1, ⟨hk.1.2.2.2.1, ⟨hk.2, hk.1.2.2.2.2⟩⟩⟩⟩⟩)), (bkq BK351.out), (by repeat (first | (with_reducible first | exact HB.out | apply below_alloc | apply pw_below_drewN | apply below_drew1 | refine below_set ?_ GE351.out) | exact HB.out))⟩)
              · skip
                rintro v359 w22 ⟨hS_, h0_, h1_, h2_, h3_, h4_, h5_⟩
                have n0_ : Aside0 (Kd.R (Kd.int .u8) 5 w22 w.heap.size (fun k_ => some k_ ≠ (v359 : Value).ownBlock) v353 y352) := ⟨h0_⟩
                have n1_ : Aside0 (Kd.R k46 46 w22 w.heap.size (fun _ => True) (.slice Ao14 y355.length co14) y355) := ⟨h1_⟩
                have n2_ : Aside0 (Kd.R (Kd.int .u8) 5 w22 w.heap.size (fun k_ => some k_ ≠ (v353 : Value).ownBlock) v359 y358) := ⟨h2_⟩
                have n3_ : Aside0 (Kd.N k54 54 w22 w.heap.size (fun k_ => some k_ ≠ (v353 : Value).ownBlock ∧ some k_ ≠ (.slice Ao14 y355.length co14 : Value).ownBlock ∧ some k_ ≠ (v359 : Value).ownBlock ∧ k_ ≠ gb351) (.slice Ao16 x352001_1.length co16) x352001_1) := ⟨h3_⟩
                have n4_ : Aside0 (w22.heap[gb351]? = some (.cells #[.slice Ao14 y355.length co14, .slice Ao16 x352001_1.length co16] 31 (0, 0))) := ⟨h4_⟩
                have n5_ : Aside0 (Below w.heap.size w w22) := ⟨h5_⟩
                clear HO_352001
                clear HO354
                clear HO357
                clear BK351
                clear HB
                clear h0_ h1_ h2_ h3_ h4_ h5_
                have HO354 := n0_
                have HO357 := n1_
                have HO360 := n2_
                have HO_352001 := n3_
                have BK351 := n4_
                have HB := n5_
                clear n0_ n1_ n2_ n3_ n4_ n5_
                have hHeld : w22.cell? ⟨gb351, 0, none⟩ = some (.slice Ao14 y355.length co14) ∧ w22.cell? ⟨gb351, 1, none⟩ = some (.slice Ao16 x352001_1.length co16) := hS_
                refine norm_ (a' := ?_) ?_ ?_
                rotate_left
                · simp only [putAll, Act.put, List.setIfInBounds_toArray, List.set_cons_zero, List.set_cons_succ]
                  rfl
                refine two_ (i := 10) (j := 16) (Ni := some 42) (Nj := some 48) #[true, true, true, true, true, true, true, true, true, true, true, true, true, true, true, true, false, false, false, false, false, false] #[true, true, true, true, true, true, true, true, true, true, false, true, true, true, true, true, true, false, false, false, false, false] rfl rfl rfl rfl (two_of HT_.out (by kernel_rfl)) (by decide) (by decide) (fun K hK => ?_) (fun K hK => ?_)
                · skip
                  refine Kd.R_lit_step k51 _ 51 ?hg (N := 42) ?hd (xs := ([(⟨x5_1, 1⟩ : S51)] : List (S51))) (inner := [.int .i64 x5_1, .int .i64 1]) (ok := fun _ => True) (okp := fun _ => True) ?hr ?hp (fun _ hk => hk) trivial (Below.refl _ _) (Nat.le_refl _) (by simp) ?_; (case hd => rfl); (case hg => rfl); (case hr => first | (go_simp; done) | (go_simp; rfl)); (case hp => exact (Reps.c2 (show Kd.M k51 _ _ _ (⟨x5_1, 1⟩ : S51) [.int .i64 x5_1, .int .i64 1] from (k51_mkM _ _ _ (⟨x5_1, 1⟩ : S51) )) (Reps.none _ _)))
                  intro v362 w23 ho24 hb hg_ hnew_
                  clear hg_ hnew_
                  (first | rw [← Ny361.out] at ho24 | (simp only [Int.reduceToNat] at ho24; rw [← Ny361.out] at ho24))
                  have n0_ := Aside0.mk (Kd.N_elder' (kq_N HO_352001.out) (Kd.R_base ho24) hb)
                  have n1_ := Aside0.mk (Kd.R_below (kq_R HO354.out) hb)
                  have n2_ := Aside0.mk (Kd.R_below (kq_R HO357.out) hb)
                  have n3_ := Aside0.mk (Kd.R_below (kq_R HO360.out) hb)
                  have n4_ := Aside0.mk (Kd.R_lower ho24 (below_size (by repeat (first | (with_reducible first | exact HB.out | apply below_alloc | apply pw_below_drewN | apply below_drew1 | refine below_set ?_ GE351.out) | exact HB.out))))
                  have n5_ := Aside0.mk (blk_below (g := gb351) (o := .cells #[.slice Ao14 y355.length co14, .slice Ao16 x352001_1.length co16] 31 (0, 0)) (bkq BK351.out) hb)
                  have n6_ := Aside0.mk (below_step (by repeat (first | (with_reducible first | exact HB.out | apply below_alloc | apply pw_below_drewN | apply below_drew1 | refine below_set ?_ GE351.out) | exact HB.out)) hb)
                  clear HO_352001
                  clear HO354
                  clear HO357
                  clear HO360
                  clear BK351
                  clear HB
                  have HO_352001 := n0_
                  have HO354 := n1_
                  have HO357 := n2_
                  have HO360 := n3_
                  have HO363 := n4_
                  have BK351 := n5_
                  have HB := n6_
                  clear n0_ n1_ n2_ n3_ n4_ n5_ n6_
                  clear hb ho24
                  refine hK.out _ _ ⟨(blk_cell BK351.out 0).trans rfl, (blk_cell BK351.out 1).trans rfl⟩ (fun hHeld => ?_)
                  clear hK K
                  refine norm_ (a' := ?_) ?_ ?_
                  rotate_left
                  · show Act.put _ (some 42) _ = _
                    simp only [Act.put, List.setIfInBounds_toArray, List.set_cons_zero, List.set_cons_succ, i64_w, i32_w]
                    rfl
                  exact norm_ (by first | (simp only [putAll, Act.put, List.setIfInBounds_toArray, List.set_cons_zero, List.set_cons_succ]; done) | (simp only [putAll, Act.put, List.setIfInBounds_toArray, List.set_cons_zero, List.set_cons_succ]; rfl)) (hJ5_6_10 (v359, v362) _ ⟨hHeld, (kq_R HO354.out), (kq_R HO357.out), (kq_R HO360.out), (kq_R HO363.out), (by (with_reducible repeat (first | apply Kd.N_alloc | apply Kd.N_drewN | apply Kd.N_drew)); exact Kd.N_mono HO_352001.out (fun _ hk => ⟨hk.1.1, ⟨hk.1.2.1, ⟨hk.1.2.2.1, ⟨hk.2, hk.1.2.2.2⟩⟩⟩⟩)), (bkq BK351.out), (by repeat (first | (with_reducible first | exact HB.out | apply below_alloc | apply pw_below_drewN | apply below_drew1 | refine below_set ?_ GE351.out) | exact HB.out))⟩)
                · skip
                  refine Kd.R_lit_step k51 _ 51 ?hg (N := 48) ?hd (xs := ([(⟨Int.tmod (wrap64 (x5_1 + 1)) (wrap64 (1 + (wrap64 (Int.tmod a0 20)))), 1⟩ : S51)] : List (S51))) (inner := [.int .i64 (Int.tmod (wrap64 (x5_1 + 1)) (wrap64 (1 + (wrap64 (Int.tmod a0 20))))), .int .i64 1]) (ok := fun _ => True) (okp := fun _ => True) ?hr ?hp (fun _ hk => hk) trivial (Below.refl _ _) (Nat.le_refl _) (by simp) ?_; (case hd => rfl); (case hg => rfl); (case hr => first | (go_simp; done) | (go_simp; rfl)); (case hp => exact (Reps.c2 (show Kd.M k51 _ _ _ (⟨Int.tmod (wrap64 (x5_1 + 1)) (wrap64 (1 + (wrap64 (Int.tmod a0 20)))), 1⟩ : S51) [.int .i64 (Int.tmod (wrap64 (x5_1 + 1)) (wrap64 (1 + (wrap64 (Int.tmod a0 20))))), .int .i64 1] from (k51_mkM _ _ _ (⟨Int.tmod (wrap64 (x5_1 + 1)) (wrap64 (1 + (wrap64 (Int.tmod a0 20)))), 1⟩ : S51) )) (Reps.none _ _)))
                  intro v365 w23 ho24 hb hg_ hnew_
                  clear hg_ hnew_
                  (first | rw [← Ny364.out] at ho24 | (simp only [Int.reduceToNat] at ho24; rw [← Ny364.out] at ho24))
                  have n0_ := Aside0.mk (Kd.N_elder' (kq_N HO_352001.out) (Kd.R_base ho24) hb)
                  have n1_ := Aside0.mk (Kd.R_below (kq_R HO354.out) hb)
                  have n2_ := Aside0.mk (Kd.R_below (kq_R HO357.out) hb)
                  have n3_ := Aside0.mk (Kd.R_below (kq_R HO360.out) hb)
                  have n4_ := Aside0.mk (Kd.R_lower ho24 (below_size (by repeat (first | (with_reducible first | exact HB.out | apply below_alloc | apply pw_below_drewN | apply below_drew1 | refine below_set ?_ GE351.out) | exact HB.out))))
                  have n5_ := Aside0.mk (blk_below (g := gb351) (o := .cells #[.slice Ao14 y355.length co14, .slice Ao16 x352001_1.length co16] 31 (0, 0)) (bkq BK351.out) hb)
                  have n6_ := Aside0.mk (below_step (by repeat (first | (with_reducible first | exact HB.out | apply below_alloc | apply pw_below_drewN | apply below_drew1 | refine below_set ?_ GE351.out) | exact HB.out)) hb)
                  clear HO_352001
                  clear HO354
                  clear HO357
                  clear HO360
                  clear BK351
                  clear HB
                  have HO_352001 := n0_
                  have HO354 := n1_
                  have HO357 := n2_
                  have HO360 := n3_
                  have HO366 := n4_
                  have BK351 := n5_
                  have HB := n6_
                  clear n0_ n1_ n2_ n3_ n4_ n5_ n6_
                  clear hb ho24
                  refine hK.out _ _ ⟨(blk_cell BK351.out 0).trans rfl, (blk_cell BK351.out 1).trans rfl⟩ (fun hHeld => ?_)
                  clear hK K
                  refine norm_ (a' := ?_) ?_ ?_
                  rotate_left
                  · show Act.put _ (some 48) _ = _
                    simp only [Act.put, List.setIfInBounds_toArray, List.set_cons_zero, List.set_cons_succ, i64_w, i32_w]
                    rfl
                  exact norm_ (by first | (simp only [putAll, Act.put, List.setIfInBounds_toArray, List.set_cons_zero, List.set_cons_succ]; done) | (simp only [putAll, Act.put, List.setIfInBounds_toArray, List.set_cons_zero, List.set_cons_succ]; rfl)) (hJ5_6_16 (v359, v365) _ ⟨hHeld, (kq_R HO354.out), (kq_R HO357.out), (kq_R HO360.out), (kq_R HO366.out), (by (with_reducible repeat (first | apply Kd.N_alloc | apply Kd.N_drewN | apply Kd.N_drew)); exact Kd.N_mono HO_352001.out (fun _ hk => ⟨hk.1.1, ⟨hk.1.2.1, ⟨hk.1.2.2.1, ⟨hk.2, hk.1.2.2.2⟩⟩⟩⟩)), (bkq BK351.out), (by repeat (first | (with_reducible first | exact HB.out | apply below_alloc | apply pw_below_drewN | apply below_drew1 | refine below_set ?_ GE351.out) | exact HB.out))⟩)
            · skip
              rintro ⟨v359, v362, v365⟩ w25 ⟨hS_, h0_, h1_, h2_, h3_, h4_, h5_, h6_, h7_⟩
              have n0_ : Aside0 (Kd.R (Kd.int .u8) 5 w25 w.heap.size (fun k_ => some k_ ≠ (v359 : Value).ownBlock) v353 y352) := ⟨h0_⟩
              have n1_ : Aside0 (Kd.R k46 46 w25 w.heap.size (fun _ => True) (.slice Ao14 y355.length co14) y355) := ⟨h1_⟩
              have n2_ : Aside0 (Kd.R (Kd.int .u8) 5 w25 w.heap.size (fun k_ => some k_ ≠ (v353 : Value).ownBlock) v359 y358) := ⟨h2_⟩
              have n3_ : Aside0 (Kd.R k51 51 w25 w.heap.size (fun k_ => some k_ ≠ (v365 : Value).ownBlock) v362 y361) := ⟨h3_⟩
              have n4_ : Aside0 (Kd.R k51 51 w25 w.heap.size (fun k_ => some k_ ≠ (v362 : Value).ownBlock) v365 y364) := ⟨h4_⟩
              have n5_ : Aside0 (Kd.N k54 54 w25 w.heap.size (fun k_ => some k_ ≠ (v353 : Value).ownBlock ∧ some k_ ≠ (.slice Ao14 y355.length co14 : Value).ownBlock ∧ some k_ ≠ (v359 : Value).ownBlock ∧ some k_ ≠ (v362 : Value).ownBlock ∧ some k_ ≠ (v365 : Value).ownBlock ∧ k_ ≠ gb351) (.slice Ao16 x352001_1.length co16) x352001_1) := ⟨h5_⟩
              have n6_ : Aside0 (w25.heap[gb351]? = some (.cells #[.slice Ao14 y355.length co14, .slice Ao16 x352001_1.length co16] 31 (0, 0))) := ⟨h6_⟩
              have n7_ : Aside0 (Below w.heap.size w w25) := ⟨h7_⟩
              clear HO_352001
              clear HO354
              clear HO357
              clear BK351
              clear HB
              clear h0_ h1_ h2_ h3_ h4_ h5_ h6_ h7_
              have HO354 := n0_
              have HO357 := n1_
              have HO360 := n2_
              have HO363 := n3_
              have HO366 := n4_
              have HO_352001 := n5_
              have BK351 := n6_
              have HB := n7_
              clear n0_ n1_ n2_ n3_ n4_ n5_ n6_ n7_
              have hHeld : w25.cell? ⟨gb351, 0, none⟩ = some (.slice Ao14 y355.length co14) ∧ w25.cell? ⟨gb351, 1, none⟩ = some (.slice Ao16 x352001_1.length co16) := hS_
              obtain ⟨Ao27, co27, eo27⟩ := Kd.R_slice HO366.out
              (first | subst eo27 | (injection eo27 with f1_ f2_ f3_; have f4_ := f1_.symm; have f5_ := f3_.symm; clear f1_ f2_ f3_; subst f4_; subst f5_))
              obtain ⟨Ao28, co28, eo28⟩ := Kd.R_slice HO363.out
              (first | subst eo28 | (injection eo28 with f1_ f2_ f3_; have f4_ := f1_.symm; have f5_ := f3_.symm; clear f1_ f2_ f3_; subst f4_; subst f5_))
              refine norm_ (a' := ?_) ?_ ?_
              rotate_left
              · simp only [putAll, Act.put, List.setIfInBounds_toArray, List.set_cons_zero, List.set_cons_succ]
                rfl
              refine one_ (i := 6) (N := some 38) #[true, true, true, true, true, true, true, false, true, true, true, true, true, true, true, true, true, false, false, false, false, false] rfl rfl (one_of HT_.out (by kernel_rfl)) (by decide) (fun K hK => ?_)
              have hcv26 := own_string (P := Try.prog) Try.underlying22 Try.underlying5 Try.underlying9 (Kd.own_of_R HO360.out)
              refine value_ (w1 := ?_) (v := ?_) (by rfl) rfl ?_ ?_
              rotate_left 2
              · go_simp
                constructor
                · rfl
                · rfl
              clear hcv26
              refine hK.out _ _ ⟨(blk_cell BK351.out 0).trans rfl, (blk_cell BK351.out 1).trans rfl⟩ (fun hHeld => ?_)
              clear hK K
              refine norm_ (a' := ?_) ?_ ?_
              rotate_left
              · show Act.put _ (some 38) _ = _
                simp only [Act.put, List.setIfInBounds_toArray, List.set_cons_zero, List.set_cons_succ, i64_w, i32_w]
                rfl
              refine pure_ (i := 7) (N := some 39) (v := ?_) (a' := ?_) #[true, true, true, true, true, true, true, true, true, true, true, true, true, true, true, true, true, false, false, false, false, false] rfl rfl (any_of HT_.out (by kernel_rfl)) (fun _ _ _ h => h) (Or.inl ⟨by rfl, ?_⟩) ?_ ?_
              rotate_left
              · intro w'
                go_simp
                with_reducible rfl
              rotate_left
              · simp only [Act.put, List.setIfInBounds_toArray, List.set_cons_zero, List.set_cons_succ, i64_w, i32_w]
                rfl
              exact norm_ (by first | (simp only [putAll, Act.put, List.setIfInBounds_toArray, List.set_cons_zero, List.set_cons_succ]; done) | (simp only [putAll, Act.put, List.setIfInBounds_toArray, List.set_cons_zero, List.set_cons_succ]; rfl)) (hJ5_6_10_16 (v359, .slice Ao28 y361.length co28, .slice Ao27 y364.length co27) _ ⟨hHeld, (kq_R HO354.out), (kq_R HO357.out), (kq_R HO360.out), (kq_R HO363.out), (kq_R HO366.out), (kq_N HO_352001.out), (bkq BK351.out), (by repeat (first | (with_reducible first | exact HB.out | apply below_alloc | apply pw_below_drewN | apply below_drew1 | refine below_set ?_ GE351.out) | exact HB.out))⟩)
          · skip
            rintro ⟨v359, v365⟩ w24 ⟨hS_, h0_, h1_, h2_, h3_, h4_, h5_, h6_⟩
            have n0_ : Aside0 (Kd.R (Kd.int .u8) 5 w24 w.heap.size (fun k_ => some k_ ≠ (v359 : Value).ownBlock) v353 y352) := ⟨h0_⟩
            have n1_ : Aside0 (Kd.R k46 46 w24 w.heap.size (fun _ => True) (.slice Ao14 y355.length co14) y355) := ⟨h1_⟩
            have n2_ : Aside0 (Kd.R (Kd.int .u8) 5 w24 w.heap.size (fun k_ => some k_ ≠ (v353 : Value).ownBlock) v359 y358) := ⟨h2_⟩
            have n3_ : Aside0 (Kd.R k51 51 w24 w.heap.size (fun _ => True) v365 y364) := ⟨h3_⟩
            have n4_ : Aside0 (Kd.N k54 54 w24 w.heap.size (fun k_ => some k_ ≠ (v353 : Value).ownBlock ∧ some k_ ≠ (.slice Ao14 y355.length co14 : Value).ownBlock ∧ some k_ ≠ (v359 : Value).ownBlock ∧ some k_ ≠ (v365 : Value).ownBlock ∧ k_ ≠ gb351) (.slice Ao16 x352001_1.length co16) x352001_1) := ⟨h4_⟩
            have n5_ : Aside0 (w24.heap[gb351]? = some (.cells #[.slice Ao14 y355.length co14, .slice Ao16 x352001_1.length co16] 31 (0, 0))) := ⟨h5_⟩
            have n6_ : Aside0 (Below w.heap.size w w24) := ⟨h6_⟩
            clear HO_352001
            clear HO354
            clear HO357
            clear BK351
            clear HB
            clear h0_ h1_ h2_ h3_ h4_ h5_ h6_
            have HO354 := n0_
            have HO357 := n1_
            have HO360 := n2_
            have HO366 := n3_
            have HO_352001 := n4_
            have BK351 := n5_
            have HB := n6_
            clear n0_ n1_ n2_ n3_ n4_ n5_ n6_
            have hHeld : w24.cell? ⟨gb351, 0, none⟩ = some (.slice Ao14 y355.length co14) ∧ w24.cell? ⟨gb351, 1, none⟩ = some (.slice Ao16 x352001_1.length co16) := hS_
            refine norm_ (a' := ?_) ?_ ?_
            rotate_left
            · simp only [putAll, Act.put, List.setIfInBounds_toArray, List.set_cons_zero, List.set_cons_succ]
              rfl
            refine one_ (i := 10) (N := some 42) #[true, true, true, true, true, true, true, true, true, true, true, true, true, true, true, true, true, false, false, false, false, false] rfl rfl (one_of HT_.out (by kernel_rfl)) (by decide) (fun K hK => ?_)
            refine Kd.R_lit_step k51 _ 51 ?hg (N := 42) ?hd (xs := ([(⟨x5_1, 1⟩ : S51)] : List (S51))) (inner := [.int .i64 x5_1, .int .i64 1]) (ok := fun _ => True) (okp := fun _ => True) ?hr ?hp (fun _ hk => hk) trivial (Below.refl _ _) (Nat.le_refl _) (by simp) ?_; (case hd => rfl); (case hg => rfl); (case hr => first | (go_simp; done) | (go_simp; rfl)); (case hp => exact (Reps.c2 (show Kd.M k51 _ _ _ (⟨x5_1, 1⟩ : S51) [.int .i64 x5_1, .int .i64 1] from (k51_mkM _ _ _ (⟨x5_1, 1⟩ : S51) )) (Reps.none _ _)))
            intro v362 w25 ho26 hb hg_ hnew_
            clear hg_ hnew_
            (first | rw [← Ny361.out] at ho26 | (simp only [Int.reduceToNat] at ho26; rw [← Ny361.out] at ho26))
            have n0_ := Aside0.mk (Kd.N_elder' (kq_N HO_352001.out) (Kd.R_base ho26) hb)
            have n1_ := Aside0.mk (Kd.R_below (kq_R HO354.out) hb)
            have n2_ := Aside0.mk (Kd.R_below (kq_R HO357.out) hb)
            have n3_ := Aside0.mk (Kd.R_below (kq_R HO360.out) hb)
            have n4_ := Aside0.mk (Kd.R_elder' (kq_R HO366.out) (Kd.R_base ho26) hb)
            have n5_ := Aside0.mk (Kd.R_lower (Kd.R_new' ho26 (Kd.R_lt (kq_R HO366.out))) (below_size (by repeat (first | (with_reducible first | exact HB.out | apply below_alloc | apply pw_below_drewN | apply below_drew1 | refine below_set ?_ GE351.out) | exact HB.out))))
            have n6_ := Aside0.mk (blk_below (g := gb351) (o := .cells #[.slice Ao14 y355.length co14, .slice Ao16 x352001_1.length co16] 31 (0, 0)) (bkq BK351.out) hb)
            have n7_ := Aside0.mk (below_step (by repeat (first | (with_reducible first | exact HB.out | apply below_alloc | apply pw_below_drewN | apply below_drew1 | refine below_set ?_ GE351.out) | exact HB.out)) hb)
            clear HO_352001
            clear HO354
            clear HO357
            clear HO360
            clear HO366
            clear BK351
            clear HB
            have HO_352001 := n0_
            have HO354 := n1_
            have HO357 := n2_
            have HO360 := n3_
            have HO366 := n4_
            have HO363 := n5_
            have BK351 := n6_
            have HB := n7_
            clear n0_ n1_ n2_ n3_ n4_ n5_ n6_ n7_
            clear hb ho26
            obtain ⟨Ao27, co27, eo27⟩ := Kd.R_slice HO366.out
            (first | subst eo27 | (injection eo27 with f1_ f2_ f3_; have f4_ := f1_.symm; have f5_ := f3_.symm; clear f1_ f2_ f3_; subst f4_; subst f5_))
            obtain ⟨Ao28, co28, eo28⟩ := Kd.R_slice HO363.out
            (first | subst eo28 | (injection eo28 with f1_ f2_ f3_; have f4_ := f1_.symm; have f5_ := f3_.symm; clear f1_ f2_ f3_; subst f4_; subst f5_))
            refine hK.out _ _ ⟨(blk_cell BK351.out 0).trans rfl, (blk_cell BK351.out 1).trans rfl⟩ (fun hHeld => ?_)
            clear hK K
            refine norm_ (a' := ?_) ?_ ?_
            rotate_left
            · show Act.put _ (some 42) _ = _
              simp only [Act.put, List.setIfInBounds_toArray, List.set_cons_zero, List.set_cons_succ, i64_w, i32_w]
              rfl
            exact norm_ (by first | (simp only [putAll, Act.put, List.setIfInBounds_toArray, List.set_cons_zero, List.set_cons_succ]; done) | (simp only [putAll, Act.put, List.setIfInBounds_toArray, List.set_cons_zero, List.set_cons_succ]; rfl)) (hJ5_6_10_16 (v359, .slice Ao28 y361.length co28, .slice Ao27 y364.length co27) _ ⟨hHeld, (kq_R HO354.out), (kq_R HO357.out), (kq_R HO360.out), (by (with_reducible repeat (first | apply Kd.R_alloc | apply Kd.R_drewN | apply Kd.R_drew)); exact Kd.R_mono HO363.out (fun _ hk => by first | exact hk.2 | exact trivial)), (by (with_reducible repeat (first | apply Kd.R_alloc | apply Kd.R_drewN | apply Kd.R_drew)); exact Kd.R_mono HO366.out (fun _ hk => by first | exact hk.2 | exact trivial)), (by (with_reducible repeat (first | apply Kd.N_alloc | apply Kd.N_drewN | apply Kd.N_drew)); exact Kd.N_mono HO_352001.out (fun _ hk => ⟨hk.1.1, ⟨hk.1.2.1, ⟨hk.1.2.2.1, ⟨hk.2, ⟨hk.1.2.2.2.1, hk.1.2.2.2.2⟩⟩⟩⟩⟩)), (bkq BK351.out), (by repeat (first | (with_reducible first | exact HB.out | apply below_alloc | apply pw_below_drewN | apply below_drew1 | refine below_set ?_ GE351.out) | exact HB.out))⟩)
        · skip
          rintro ⟨v359, v362⟩ w24 ⟨hS_, h0_, h1_, h2_, h3_, h4_, h5_, h6_⟩
          have n0_ : Aside0 (Kd.R (Kd.int .u8) 5 w24 w.heap.size (fun k_ => some k_ ≠ (v359 : Value).ownBlock) v353 y352) := ⟨h0_⟩
          have n1_ : Aside0 (Kd.R k46 46 w24 w.heap.size (fun _ => True) (.slice Ao14 y355.length co14) y355) := ⟨h1_⟩
          have n2_ : Aside0 (Kd.R (Kd.int .u8) 5 w24 w.heap.size (fun k_ => some k_ ≠ (v353 : Value).ownBlock) v359 y358) := ⟨h2_⟩
          have n3_ : Aside0 (Kd.R k51 51 w24 w.heap.size (fun _ => True) v362 y361) := ⟨h3_⟩
          have n4_ : Aside0 (Kd.N k54 54 w24 w.heap.size (fun k_ => some k_ ≠ (v353 : Value).ownBlock ∧ some k_ ≠ (.slice Ao14 y355.length co14 : Value).ownBlock ∧ some k_ ≠ (v359 : Value).ownBlock ∧ some k_ ≠ (v362 : Value).ownBlock ∧ k_ ≠ gb351) (.slice Ao16 x352001_1.length co16) x352001_1) := ⟨h4_⟩
          have n5_ : Aside0 (w24.heap[gb351]? = some (.cells #[.slice Ao14 y355.length co14, .slice Ao16 x352001_1.length co16] 31 (0, 0))) := ⟨h5_⟩
          have n6_ : Aside0 (Below w.heap.size w w24) := ⟨h6_⟩
          clear HO_352001
          clear HO354
          clear HO357
          clear BK351
          clear HB
          clear h0_ h1_ h2_ h3_ h4_ h5_ h6_
          have HO354 := n0_
          have HO357 := n1_
          have HO360 := n2_
          have HO363 := n3_
          have HO_352001 := n4_
          have BK351 := n5_
          have HB := n6_
          clear n0_ n1_ n2_ n3_ n4_ n5_ n6_
          have hHeld : w24.cell? ⟨gb351, 0, none⟩ = some (.slice Ao14 y355.length co14) ∧ w24.cell? ⟨gb351, 1, none⟩ = some (.slice Ao16 x352001_1.length co16) := hS_
          refine norm_ (a' := ?_) ?_ ?_
          rotate_left
          · simp only [putAll, Act.put, List.setIfInBounds_toArray, List.set_cons_zero, List.set_cons_succ]
            rfl
          refine one_ (i := 16) (N := some 48) #[true, true, true, true, true, true, true, true, true, true, true, true, true, true, true, true, true, false, false, false, false, false] rfl rfl (one_of HT_.out (by kernel_rfl)) (by decide) (fun K hK => ?_)
          refine Kd.R_lit_step k51 _ 51 ?hg (N := 48) ?hd (xs := ([(⟨Int.tmod (wrap64 (x5_1 + 1)) (wrap64 (1 + (wrap64 (Int.tmod a0 20)))), 1⟩ : S51)] : List (S51))) (inner := [.int .i64 (Int.tmod (wrap64 (x5_1 + 1)) (wrap64 (1 + (wrap64 (Int.tmod a0 20))))), .int .i64 1]) (ok := fun _ => True) (okp := fun _ => True) ?hr ?hp (fun _ hk => hk) trivial (Below.refl _ _) (Nat.le_refl _) (by simp) ?_; (case hd => rfl); (case hg => rfl); (case hr => first | (go_simp; done) | (go_simp; rfl)); (case hp => exact (Reps.c2 (show Kd.M k51 _ _ _ (⟨Int.tmod (wrap64 (x5_1 + 1)) (wrap64 (1 + (wrap64 (Int.tmod a0 20)))), 1⟩ : S51) [.int .i64 (Int.tmod (wrap64 (x5_1 + 1)) (wrap64 (1 + (wrap64 (Int.tmod a0 20))))), .int .i64 1] from (k51_mkM _ _ _ (⟨Int.tmod (wrap64 (x5_1 + 1)) (wrap64 (1 + (wrap64 (Int.tmod a0 20)))), 1⟩ : S51) )) (Reps.none _ _)))
          intro v365 w25 ho26 hb hg_ hnew_
          clear hg_ hnew_
          (first | rw [← Ny364.out] at ho26 | (simp only [Int.reduceToNat] at ho26; rw [← Ny364.out] at ho26))
          have n0_ := Aside0.mk (Kd.N_elder' (kq_N HO_352001.out) (Kd.R_base ho26) hb)
          have n1_ := Aside0.mk (Kd.R_below (kq_R HO354.out) hb)
          have n2_ := Aside0.mk (Kd.R_below (kq_R HO357.out) hb)
          have n3_ := Aside0.mk (Kd.R_below (kq_R HO360.out) hb)
          have n4_ := Aside0.mk (Kd.R_elder' (kq_R HO363.out) (Kd.R_base ho26) hb)
          have n5_ := Aside0.mk (Kd.R_lower (Kd.R_new' ho26 (Kd.R_lt (kq_R HO363.out))) (below_size (by repeat (first | (with_reducible first | exact HB.out | apply below_alloc | apply pw_below_drewN | apply below_drew1 | refine below_set ?_ GE351.out) | exact HB.out))))
          have n6_ := Aside0.mk (blk_below (g := gb351) (o := .cells #[.slice Ao14 y355.length co14, .slice Ao16 x352001_1.length co16] 31 (0, 0)) (bkq BK351.out) hb)
          have n7_ := Aside0.mk (below_step (by repeat (first | (with_reducible first | exact HB.out | apply below_alloc | apply pw_below_drewN | apply below_drew1 | refine below_set ?_ GE351.out) | exact HB.out)) hb)
          clear HO_352001
          clear HO354
          clear HO357
          clear HO360
          clear HO363
          clear BK351
          clear HB
          have HO_352001 := n0_
          have HO354 := n1_
          have HO357 := n2_
          have HO360 := n3_
          have HO363 := n4_
          have HO366 := n5_
          have BK351 := n6_
          have HB := n7_
          clear n0_ n1_ n2_ n3_ n4_ n5_ n6_ n7_
          clear hb ho26
          obtain ⟨Ao27, co27, eo27⟩ := Kd.R_slice HO366.out
          (first | subst eo27 | (injection eo27 with f1_ f2_ f3_; have f4_ := f1_.symm; have f5_ := f3_.symm; clear f1_ f2_ f3_; subst f4_; subst f5_))
          obtain ⟨Ao28, co28, eo28⟩ := Kd.R_slice HO363.out
          (first | subst eo28 | (injection eo28 with f1_ f2_ f3_; have f4_ := f1_.symm; have f5_ := f3_.symm; clear f1_ f2_ f3_; subst f4_; subst f5_))
          refine hK.out _ _ ⟨(blk_cell BK351.out 0).trans rfl, (blk_cell BK351.out 1).trans rfl⟩ (fun hHeld => ?_)
          clear hK K
          refine norm_ (a' := ?_) ?_ ?_
          rotate_left
          · show Act.put _ (some 48) _ = _
            simp only [Act.put, List.setIfInBounds_toArray, List.set_cons_zero, List.set_cons_succ, i64_w, i32_w]
            rfl
          exact norm_ (by first | (simp only [putAll, Act.put, List.setIfInBounds_toArray, List.set_cons_zero, List.set_cons_succ]; done) | (simp only [putAll, Act.put, List.setIfInBounds_toArray, List.set_cons_zero, List.set_cons_succ]; rfl)) (hJ5_6_10_16 (v359, .slice Ao28 y361.length co28, .slice Ao27 y364.length co27) _ ⟨hHeld, (kq_R HO354.out), (kq_R HO357.out), (kq_R HO360.out), (by (with_reducible repeat (first | apply Kd.R_alloc | apply Kd.R_drewN | apply Kd.R_drew)); exact Kd.R_mono HO363.out (fun _ hk => by first | exact hk.2 | exact trivial)), (by (with_reducible repeat (first | apply Kd.R_alloc | apply Kd.R_drewN | apply Kd.R_drew)); exact Kd.R_mono HO366.out (fun _ hk => by first | exact hk.2 | exact trivial)), (by (with_reducible repeat (first | apply Kd.N_alloc | apply Kd.N_drewN | apply Kd.N_drew)); exact Kd.N_mono HO_352001.out (fun _ hk => ⟨hk.1.1, ⟨hk.1.2.1, ⟨hk.1.2.2.1, ⟨hk.1.2.2.2.1, ⟨hk.2, hk.1.2.2.2.2⟩⟩⟩⟩⟩)), (bkq BK351.out), (by repeat (first | (with_reducible first | exact HB.out | apply below_alloc | apply pw_below_drewN | apply below_drew1 | refine below_set ?_ GE351.out) | exact HB.out))⟩)
      rintro ⟨v359, v362, v365⟩ w28 ⟨hS_, h0_, h1_, h2_, h3_, h4_, h5_, h6_, h7_⟩
      have n0_ : Aside0 (Kd.R (Kd.int .u8) 5 w28 w.heap.size (fun k_ => some k_ ≠ (v359 : Value).ownBlock) v353 y352) := ⟨h0_⟩
      have n1_ : Aside0 (Kd.R k46 46 w28 w.heap.size (fun _ => True) (.slice Ao14 y355.length co14) y355) := ⟨h1_⟩
      have n2_ : Aside0 (Kd.R (Kd.int .u8) 5 w28 w.heap.size (fun k_ => some k_ ≠ (v353 : Value).ownBlock) v359 y358) := ⟨h2_⟩
      have n3_ : Aside0 (Kd.R k51 51 w28 w.heap.size (fun k_ => some k_ ≠ (v365 : Value).ownBlock) v362 y361) := ⟨h3_⟩
      have n4_ : Aside0 (Kd.R k51 51 w28 w.heap.size (fun k_ => some k_ ≠ (v362 : Value).ownBlock) v365 y364) := ⟨h4_⟩
      have n5_ : Aside0 (Kd.N k54 54 w28 w.heap.size (fun k_ => some k_ ≠ (v353 : Value).ownBlock ∧ some k_ ≠ (.slice Ao14 y355.length co14 : Value).ownBlock ∧ some k_ ≠ (v359 : Value).ownBlock ∧ some k_ ≠ (v362 : Value).ownBlock ∧ some k_ ≠ (v365 : Value).ownBlock ∧ k_ ≠ gb351) (.slice Ao16 x352001_1.length co16) x352001_1) := ⟨h5_⟩
      have n6_ : Aside0 (w28.heap[gb351]? = some (.cells #[.slice Ao14 y355.length co14, .slice Ao16 x352001_1.length co16] 31 (0, 0))) := ⟨h6_⟩
      have n7_ : Aside0 (Below w.heap.size w w28) := ⟨h7_⟩
      clear HO_352001
      clear HO354
      clear HO357
      clear BK351
      clear HB
      clear h0_ h1_ h2_ h3_ h4_ h5_ h6_ h7_
      have HO354 := n0_
      have HO357 := n1_
      have HO360 := n2_
      have HO363 := n3_
      have HO366 := n4_
      have HO_352001 := n5_
      have BK351 := n6_
      have HB := n7_
      clear n0_ n1_ n2_ n3_ n4_ n5_ n6_ n7_
      have hHeld : w28.cell? ⟨gb351, 0, none⟩ = some (.slice Ao14 y355.length co14) ∧ w28.cell? ⟨gb351, 1, none⟩ = some (.slice Ao16 x352001_1.length co16) := hS_
      obtain ⟨Ao29, co29, eo29⟩ := Kd.R_slice HO366.out
      (first | subst eo29 | (injection eo29 with f1_ f2_ f3_; have f4_ := f1_.symm; have f5_ := f3_.symm; clear f1_ f2_ f3_; subst f4_; subst f5_))
      obtain ⟨Ao30, co30, eo30⟩ := Kd.R_slice HO363.out
      (first | subst eo30 | (injection eo30 with f1_ f2_ f3_; have f4_ := f1_.symm; have f5_ := f3_.symm; clear f1_ f2_ f3_; subst f4_; subst f5_))
      refine norm_ (a' := ?_) ?_ ?_
      rotate_left
      · simp only [putAll, Act.put, List.setIfInBounds_toArray, List.set_cons_zero, List.set_cons_succ]
        rfl
      refine pure_ (i := 17) (N := some 49) (v := ?_) (a' := ?_) #[true, true, true, true, true, true, true, true, true, true, true, true, true, true, true, true, true, true, false, false, false, false] rfl rfl (any_of HT_.out (by kernel_rfl)) (fun _ _ _ h => h) (Or.inl ⟨by rfl, ?_⟩) ?_ ?_
      rotate_left
      · intro w'
        go_simp
        with_reducible rfl
      rotate_left
      · simp only [Act.put, List.setIfInBounds_toArray, List.set_cons_zero, List.set_cons_succ, i64_w, i32_w]
        rfl
      refine one_ (i := 18) (N := some 50) #[true, true, true, true, true, true, true, true, true, true, true, true, true, true, true, true, true, true, true, false, false, false] rfl rfl (one_of HT_.out (by kernel_rfl)) (by decide) (fun K hK => ?_)
      refine value_ (w1 := ?_) (v := ?_) (by rfl) rfl ?_ ?_
      rotate_left 2
      · go_simp
        constructor
        · rfl
        · rfl
      refine hK.out _ _ ⟨(blk_cell (blk_alloc BK351.out _) 0).trans rfl, (blk_cell (blk_alloc BK351.out _) 1).trans rfl⟩ (fun hHeld => ?_)
      clear hK K
      refine norm_ (a' := ?_) ?_ ?_
      rotate_left
      · show Act.put _ (some 50) _ = _
        simp only [Act.put, List.setIfInBounds_toArray, List.set_cons_zero, List.set_cons_succ, i64_w, i32_w]
        rfl
      refine one_ (i := 19) (N := some 51) #[true, true, true, true, true, true, true, true, true, true, true, true, true, true, true, true, true, true, true, true, false, false] rfl rfl (one_of HT_.out (by kernel_rfl)) (by decide) (fun K hK => ?_)
      refine Kd.N_append_step k54 (w0 := w) w.heap.size (by rfl) (.tmp 33) (.tmp 50) 29 54 (.agg #[(.string ⟨#[]⟩), (.int .i64 0), (.int .i64 0), (.slice none 0 0), (.slice none 0 0), (.slice none 0 0)]) 104 rfl Try.underlying29 info54 rfl (by decide) (by omega) (.slice Ao16 x352001_1.length co16) x352001_1 (⟨(⟨#[116]⟩ : ByteArray) ++ (strOfNums y358), 0, 0, y361, ([] : List (S51)), y364⟩ : S54) [.string ((⟨#[116]⟩ : ByteArray) ++ (strOfNums y358)), .int .i64 0, .int .i64 0, .slice Ao30 y361.length co30, .slice none 0 0, .slice Ao29 y364.length co29] (fun k_ => some k_ ≠ (v353 : Value).ownBlock ∧ some k_ ≠ (.slice Ao14 y355.length co14 : Value).ownBlock ∧ some k_ ≠ (v359 : Value).ownBlock ∧ k_ ≠ gb351) (fun k_ => ((fun k_ => some k_ ≠ (v353 : Value).ownBlock ∧ some k_ ≠ (.slice Ao14 y355.length co14 : Value).ownBlock ∧ some k_ ≠ (v359 : Value).ownBlock ∧ k_ ≠ gb351)) k_ ∧ some k_ ≠ (.slice Ao16 x352001_1.length co16 : Value).ownBlock) rfl rfl ?aP (fun _ hk => hk) ?aF ?aO ?aB ?aS ?aL ?_
      (case aP => exact (k54_mkF _ _ (⟨(⟨#[116]⟩ : ByteArray) ++ (strOfNums y358), 0, 0, y361, ([] : List (S51)), y364⟩ : S54) (Kd.R_reads' (Kd.R_mono (ok' := (fun k_ => ((fun k_ => some k_ ≠ (v353 : Value).ownBlock ∧ some k_ ≠ (.slice Ao14 y355.length co14 : Value).ownBlock ∧ some k_ ≠ (v359 : Value).ownBlock ∧ k_ ≠ gb351)) k_ ∧ some k_ ≠ (.slice Ao16 x352001_1.length co16 : Value).ownBlock)) (Kd.R_types (Kd.R_apart' (Kd.R_apart' (Kd.R_apart' (Kd.R_apart' (HO363.out) (Kd.R_typed HO354.out) (by decide)) (Kd.R_typed HO357.out) (by decide)) (Kd.R_typed HO360.out) (by decide)) (Kd.N_typed HO_352001.out) (by decide)) BK351.out (by decide)) (fun k_ hk => ⟨⟨hk.1.1.1.1.2, ⟨hk.1.1.1.2, ⟨hk.1.1.2, hk.2⟩⟩⟩, hk.1.2⟩))).2.1 (Kd.R_F (Kd.R_mono (ok' := (fun k_ => ((fun k_ => some k_ ≠ (v353 : Value).ownBlock ∧ some k_ ≠ (.slice Ao14 y355.length co14 : Value).ownBlock ∧ some k_ ≠ (v359 : Value).ownBlock ∧ k_ ≠ gb351)) k_ ∧ some k_ ≠ (.slice Ao16 x352001_1.length co16 : Value).ownBlock)) (Kd.R_types (Kd.R_apart' (Kd.R_apart' (Kd.R_apart' (Kd.R_apart' (HO363.out) (Kd.R_typed HO354.out) (by decide)) (Kd.R_typed HO357.out) (by decide)) (Kd.R_typed HO360.out) (by decide)) (Kd.N_typed HO_352001.out) (by decide)) BK351.out (by decide)) (fun k_ hk => ⟨⟨hk.1.1.1.1.2, ⟨hk.1.1.1.2, ⟨hk.1.1.2, hk.2⟩⟩⟩, hk.1.2⟩))) (Nat.le_refl _) (Kd.F_nil _ _ _) (Kd.R_reads' (Kd.R_mono (ok' := (fun k_ => ((fun k_ => some k_ ≠ (v353 : Value).ownBlock ∧ some k_ ≠ (.slice Ao14 y355.length co14 : Value).ownBlock ∧ some k_ ≠ (v359 : Value).ownBlock ∧ k_ ≠ gb351)) k_ ∧ some k_ ≠ (.slice Ao16 x352001_1.length co16 : Value).ownBlock)) (Kd.R_types (Kd.R_apart' (Kd.R_apart' (Kd.R_apart' (Kd.R_apart' (HO366.out) (Kd.R_typed HO354.out) (by decide)) (Kd.R_typed HO357.out) (by decide)) (Kd.R_typed HO360.out) (by decide)) (Kd.N_typed HO_352001.out) (by decide)) BK351.out (by decide)) (fun k_ hk => ⟨⟨hk.1.1.1.1.2, ⟨hk.1.1.1.2, ⟨hk.1.1.2, hk.2⟩⟩⟩, hk.1.2⟩))).2.1 (Kd.R_F (Kd.R_mono (ok' := (fun k_ => ((fun k_ => some k_ ≠ (v353 : Value).ownBlock ∧ some k_ ≠ (.slice Ao14 y355.length co14 : Value).ownBlock ∧ some k_ ≠ (v359 : Value).ownBlock ∧ k_ ≠ gb351)) k_ ∧ some k_ ≠ (.slice Ao16 x352001_1.length co16 : Value).ownBlock)) (Kd.R_types (Kd.R_apart' (Kd.R_apart' (Kd.R_apart' (Kd.R_apart' (HO366.out) (Kd.R_typed HO354.out) (by decide)) (Kd.R_typed HO357.out) (by decide)) (Kd.R_typed HO360.out) (by decide)) (Kd.N_typed HO_352001.out) (by decide)) BK351.out (by decide)) (fun k_ hk => ⟨⟨hk.1.1.1.1.2, ⟨hk.1.1.1.2, ⟨hk.1.1.2, hk.2⟩⟩⟩, hk.1.2⟩)))))
      (case aB => exact (by repeat (first | (with_reducible first | exact HB.out | apply below_alloc | apply pw_below_drewN | apply below_drew1 | refine below_set ?_ GE351.out) | exact HB.out)))
      (case aF => exact (fun k_ hk => ⟨Kd.fresh' (Kd.R_lt (kq_R HO354.out)) k_ hk, Kd.fresh' (Kd.R_lt (kq_R HO357.out)) k_ hk, Kd.fresh' (Kd.R_lt (kq_R HO360.out)) k_ hk, Kd.freshB (g := gb351) (o := .cells #[.slice Ao14 y355.length co14, .slice Ao16 x352001_1.length co16] 31 (0, 0)) (bkq BK351.out) k_ hk⟩))
      (case aO => exact (by (with_reducible repeat (first | apply Kd.N_alloc | apply Kd.N_drewN | apply Kd.N_drew)); exact Kd.N_mono HO_352001.out (fun _ hk => ⟨hk.1, ⟨hk.2.1, ⟨hk.2.2.1, hk.2.2.2.2.2⟩⟩⟩)))
      (case aS => exact (below_size (by repeat (first | (with_reducible first | exact HB.out | apply below_alloc | apply pw_below_drewN | apply below_drew1 | refine below_set ?_ GE351.out) | exact HB.out))))
      (case aL => have := LMc8.out; omega)
      intro v368 w31 ho hb hg hat
      rw [← Ny367.out] at ho
      have n0_ := Aside0.mk (blk_grown (g := gb351) (o := .cells #[.slice Ao14 y355.length co14, .slice Ao16 x352001_1.length co16] 31 (0, 0)) (bkq BK351.out) hg (Kd.N_ne HO_352001.out BK351.out (by decide)))
      have n1_ := Aside0.mk (Kd.R_over' (kq_R HO354.out) (Kd.N_typed (kq_N HO_352001.out)) (by decide) hg)
      have n2_ := Aside0.mk (Kd.R_over' (kq_R HO357.out) (Kd.N_typed (kq_N HO_352001.out)) (by decide) hg)
      have n3_ := Aside0.mk (Kd.R_over' (kq_R HO360.out) (Kd.N_typed (kq_N HO_352001.out)) (by decide) hg)
      have n4_ := Aside0.mk (hb)
      have n5_ := Aside0.mk (ho)
      clear BK351
      clear HO354
      clear HO357
      clear HO360
      clear HB
      clear HO_352001
      clear HO363
      clear HO366
      have BK351 := n0_
      have HO354 := n1_
      have HO357 := n2_
      have HO360 := n3_
      have HB := n4_
      have HO369 := n5_
      clear n0_ n1_ n2_ n3_ n4_ n5_
      clear ho hb hg hat
      obtain ⟨Ao32, co32, eo32⟩ := Kd.N_slice HO369.out
      (first | subst eo32 | (injection eo32 with f1_ f2_ f3_; have f4_ := f1_.symm; have f5_ := f3_.symm; clear f1_ f2_ f3_; subst f4_; subst f5_))
      refine hK.out _ _ ⟨(blk_cell BK351.out 0).trans rfl, (blk_cell BK351.out 1).trans rfl⟩ (fun hHeld => ?_)
      clear hK K
      refine norm_ (a' := ?_) ?_ ?_
      rotate_left
      · show Act.put _ (some 51) _ = _
        simp only [Act.put, List.setIfInBounds_toArray, List.set_cons_zero, List.set_cons_succ, i64_w, i32_w]
        rfl
      refine pure_ (i := 20) (N := some 52) (v := ?_) (a' := ?_) #[true, true, true, true, true, true, true, true, true, true, true, true, true, true, true, true, true, true, true, true, true, false] rfl rfl (any_of HT_.out (by kernel_rfl)) (fun _ _ _ h => h) (Or.inl ⟨by rfl, ?_⟩) ?_ ?_
      rotate_left
      · intro w'
        go_simp
        with_reducible rfl
      rotate_left
      · simp only [Act.put, List.setIfInBounds_toArray, List.set_cons_zero, List.set_cons_succ, i64_w, i32_w]
        rfl
      refine last_ (i := 21) (N := none) #[true, true, true, true, true, true, true, true, true, true, true, true, true, true, true, true, true, true, true, true, true, true] rfl rfl (one_of HT_.out (by kernel_rfl)) (by decide) (fun K hK => ?_)
      have hs33 : w31.cell? ⟨gb351, 1, none⟩ = some (.slice Ao16 x352001_1.length co16) := (blk_cell BK351.out 1).trans rfl
      have hfs33 := blk_frozen BK351.out 1
      refine skip_ (w1 := ?_) (by rfl) rfl ?_ ?_
      rotate_left
      · go_simp
        rfl
      refine hK.out _ _ ?_
      clear hK K
      refine done_ (done_of HT_.out (by kernel_rfl)) ?_
      try go_wp2
      go_roundg k1
      case measure => have := HK1.out; omega
      case rel => exact ⟨(wrap64 (x5_1 + 1)), (y355), (y367), (.slice Ao14 y355.length co14), (.slice Ao32 y367.length co32), (by first | rfl | (simp; done) | (simp [*]; done)), H', ⟨by have := HK1.out; omega⟩, ⟨by (with_reducible repeat (first | apply Kd.R_alloc | apply Kd.R_drewN | apply Kd.R_drew)); exact Kd.R_mono (Kd.R_far (p := ⟨gb351, 1, none⟩) (Kd.R_types HO357.out BK351.out (by decide)) (fun _ hk => hk.2) (.slice Ao32 y367.length co32)) (fun _ hk => trivial)⟩, ⟨by (with_reducible repeat (first | apply Kd.N_alloc | apply Kd.N_drewN | apply Kd.N_drew)); exact Kd.N_mono (Kd.N_far (p := ⟨gb351, 1, none⟩) (Kd.N_mono HO369.out (fun k_ hk => (⟨hk, hk.2.2.2⟩ : _ ∧ k_ ≠ gb351))) (fun _ hk => hk.2) (.slice Ao32 y367.length co32)) (fun _ hk => ⟨hk.1.2.1, hk.1.2.2.2⟩)⟩, ⟨by (with_reducible repeat (first | refine blk_drewN ?_ _ | refine blk_drew ?_ | refine blk_alloc ?_ _)); refine blk_put (cs := #[.slice Ao14 y355.length co14, .slice Ao16 x352001_1.length co16]) ?_ 1 _ rfl; (with_reducible repeat (first | refine blk_drewN ?_ _ | refine blk_drew ?_ | refine blk_alloc ?_ _)); exact BK351.out⟩, ⟨by repeat (first | (with_reducible first | exact HB.out | apply below_alloc | apply pw_below_drewN | apply below_drew1 | refine below_set ?_ GE351.out) | exact HB.out)⟩⟩
    rw [if_neg c3] at H
    have c3b0 : decide (x5_1 < (wrap64 (1 + (wrap64 (Int.tmod a0 20))))) = false := decide_eq_false c3
    clear c3
    replace H := Option.bind_eq_some_iff.mp H
    obtain ⟨⟨t370, t373⟩, A340, H⟩ := H
    replace H : ((basis_Trans.f k1 x352000_1 x352001_1).bind fun bt374 => (if t373 = 0 then (if bt374.2 = 0 then (if (t370.length : Int) = 1 then (if (bt374.1.length : Int) = 1 then (if 0 < (t370.length : Int) then (if ((rd_L1 t370 0).length : Int) = (wrap64 (1 + (wrap64 (Int.tmod a0 20)))) then (if 0 < (bt374.1.length : Int) then (marblerunlaw12_BasisRing.j1 k1 (wrap64 (1 + (wrap64 (Int.tmod a0 20)))) t370 bt374.1 (((rd_L1 bt374.1 0).length : Int) != (wrap64 (1 + (wrap64 (Int.tmod a0 20)))))) else (none)) else (marblerunlaw12_BasisRing.j1 k1 (wrap64 (1 + (wrap64 (Int.tmod a0 20)))) t370 bt374.1 true)) else (none)) else (marblerunlaw12_BasisRing.j1 k1 (wrap64 (1 + (wrap64 (Int.tmod a0 20)))) t370 bt374.1 true)) else (marblerunlaw12_BasisRing.j1 k1 (wrap64 (1 + (wrap64 (Int.tmod a0 20)))) t370 bt374.1 true)) else (marblerunlaw12_BasisRing.j1 k1 (wrap64 (1 + (wrap64 (Int.tmod a0 20)))) t370 bt374.1 true)) else (marblerunlaw12_BasisRing.j1 k1 (wrap64 (1 + (wrap64 (Int.tmod a0 20)))) t370 bt374.1 true))) = some r := H
    have A34 := Aside0.mk A340
    clear A340
    replace H := Option.bind_eq_some_iff.mp H
    obtain ⟨⟨t374, t377⟩, A350, H⟩ := H
    replace H : (if t373 = 0 then (if t377 = 0 then (if (t370.length : Int) = 1 then (if (t374.length : Int) = 1 then (if 0 < (t370.length : Int) then (if ((rd_L1 t370 0).length : Int) = (wrap64 (1 + (wrap64 (Int.tmod a0 20)))) then (if 0 < (t374.length : Int) then (marblerunlaw12_BasisRing.j1 k1 (wrap64 (1 + (wrap64 (Int.tmod a0 20)))) t370 t374 (((rd_L1 t374 0).length : Int) != (wrap64 (1 + (wrap64 (Int.tmod a0 20)))))) else (none)) else (marblerunlaw12_BasisRing.j1 k1 (wrap64 (1 + (wrap64 (Int.tmod a0 20)))) t370 t374 true)) else (none)) else (marblerunlaw12_BasisRing.j1 k1 (wrap64 (1 + (wrap64 (Int.tmod a0 20)))) t370 t374 true)) else (marblerunlaw12_BasisRing.j1 k1 (wrap64 (1 + (wrap64 (Int.tmod a0 20)))) t370 t374 true)) else (marblerunlaw12_BasisRing.j1 k1 (wrap64 (1 + (wrap64 (Int.tmod a0 20)))) t370 t374 true)) else (marblerunlaw12_BasisRing.j1 k1 (wrap64 (1 + (wrap64 (Int.tmod a0 20)))) t370 t374 true)) = some r := H
    have A35 := Aside0.mk A350
    clear A350
    have HC36 := Aside0.mk H
    clear H
    have hcz37_0 : wr.cell? ⟨gb351, 0, none⟩ = some (u352000) := (blk_cell BK351.out 0).trans rfl
    have hcz37_1 : wr.cell? ⟨gb351, 1, none⟩ = some (u352001) := (blk_cell BK351.out 1).trans rfl
    have hfz37_0 := blk_frozen BK351.out 0
    have hfz37_1 := blk_frozen BK351.out 1
    obtain ⟨Ao38, co38, eo38⟩ := Kd.R_slice HO_352000.out
    subst eo38
    obtain ⟨Ao39, co39, eo39⟩ := Kd.N_slice HO_352001.out
    subst eo39
    go_upto_region 10 with (first | ((with_reducible refine gate_callee (f := 13) rfl ?_); refine goesL_ (some 55) rfl rfl Try.func13 (by kernel_rfl) rfl #[.agg #[.slice Ao38 x352000_1.length co38, .slice Ao39 x352001_1.length co39]] rfl (by (try simp only [List.map_toArray, List.map_cons, List.map_nil]); first | done | rfl | (simp only [List.length_drop, List.length_take]; rfl)) ?_; (with_reducible refine (basis_Places.calls k1 _ _ x352000_1 _ _ x352001_1 t370 t373 _ ?side1 ?side2 ?side3 ?side4 A34.out).mono ?_); (case side1 => repeat (first | exact (Kd.R_reads' HO_352000.out).2.2 | (with_reducible refine Kd.C_alloc ?_ _) | (with_reducible refine Kd.C_drewN ?_ _) | (with_reducible refine Kd.C_drew ?_))); (case side2 => exact (Kd.R_reads' HO_352000.out).2.1); (case side3 => repeat (first | exact (Kd.N_reads' HO_352001.out).2.2 | (with_reducible refine Kd.C_alloc ?_ _) | (with_reducible refine Kd.C_drewN ?_ _) | (with_reducible refine Kd.C_drew ?_))); (case side4 => exact (Kd.N_reads' HO_352001.out).2.1); rintro e w40 ⟨v371, rfl, ho0, hb⟩; refine ⟨_, rfl, ?_⟩; have n0_ := Aside0.mk (Kd.R_below (kq_R HO_352000.out) hb); have n1_ := Aside0.mk (Kd.N_elder' (kq_N HO_352001.out) (Kd.N_base ho0) hb); have n2_ := Aside0.mk (Kd.N_lower (Kd.N_mono (ok' := fun k_ => some k_ ≠ (.slice Ao38 x352000_1.length co38 : Value).ownBlock ∧ some k_ ≠ (.slice Ao39 x352001_1.length co39 : Value).ownBlock ∧ k_ ≠ gb351) ho0 (fun k_ hk_ => ⟨(Kd.fresh' (Kd.R_lt (kq_R HO_352000.out)) k_ hk_), (Kd.fresh' (Kd.N_lt (kq_N HO_352001.out)) k_ hk_), (Kd.freshB (g := gb351) (o := .cells #[.slice Ao38 x352000_1.length co38, .slice Ao39 x352001_1.length co39] 31 (0, 0)) (bkq BK351.out) k_ hk_)⟩)) (below_size (by repeat (first | (with_reducible first | exact HB.out | apply below_alloc | apply pw_below_drewN | apply below_drew1 | refine below_set ?_ GE351.out) | exact HB.out)))); have n3_ := Aside0.mk (blk_below (g := gb351) (o := .cells #[.slice Ao38 x352000_1.length co38, .slice Ao39 x352001_1.length co39] 31 (0, 0)) (bkq BK351.out) hb); have n4_ := Aside0.mk (below_step (by repeat (first | (with_reducible first | exact HB.out | apply below_alloc | apply pw_below_drewN | apply below_drew1 | refine below_set ?_ GE351.out) | exact HB.out)) hb); clear HO_352000; clear HO_352001; clear BK351; clear HB; have HO_352000 := n0_; have HO_352001 := n1_; have HO372 := n2_; have BK351 := n3_; have HB := n4_; clear n0_ n1_ n2_ n3_ n4_; (try clear hb); (try clear hb2); (try clear hk); (try clear hi); (try clear ho0); have hcz41_0 : w40.cell? ⟨gb351, 0, none⟩ = some (.slice Ao38 x352000_1.length co38) := (blk_cell BK351.out 0).trans rfl; have hcz41_1 : w40.cell? ⟨gb351, 1, none⟩ = some (.slice Ao39 x352001_1.length co39) := (blk_cell BK351.out 1).trans rfl; have hfz41_0 := blk_frozen BK351.out 0; have hfz41_1 := blk_frozen BK351.out 1) | ((with_reducible refine gate_callee (f := 19) rfl ?_); refine goesL_ (some 60) rfl rfl Try.func19 (by kernel_rfl) rfl #[.agg #[.slice Ao38 x352000_1.length co38, .slice Ao39 x352001_1.length co39]] rfl (by (try simp only [List.map_toArray, List.map_cons, List.map_nil]); first | done | rfl | (simp only [List.length_drop, List.length_take]; rfl)) ?_; (with_reducible refine (basis_Trans.calls k1 _ _ x352000_1 _ _ x352001_1 t374 t377 _ ?side1 ?side2 ?side3 ?side4 A35.out).mono ?_); (case side1 => repeat (first | exact (Kd.R_reads' HO_352000.out).2.2 | (with_reducible refine Kd.C_alloc ?_ _) | (with_reducible refine Kd.C_drewN ?_ _) | (with_reducible refine Kd.C_drew ?_))); (case side2 => exact (Kd.R_reads' HO_352000.out).2.1); (case side3 => repeat (first | exact (Kd.N_reads' HO_352001.out).2.2 | (with_reducible refine Kd.C_alloc ?_ _) | (with_reducible refine Kd.C_drewN ?_ _) | (with_reducible refine Kd.C_drew ?_))); (case side4 => exact (Kd.N_reads' HO_352001.out).2.1); rintro e w42 ⟨v375, rfl, ho0, hb⟩; refine ⟨_, rfl, ?_⟩; have n0_ := Aside0.mk (Kd.R_below (kq_R HO_352000.out) hb); have n1_ := Aside0.mk (Kd.N_elder' (kq_N HO_352001.out) (Kd.N_base ho0) hb); have n2_ := Aside0.mk (Kd.N_elder' (kq_N HO372.out) (Kd.N_base ho0) hb); have n3_ := Aside0.mk (Kd.N_lower (Kd.N_mono (ok' := fun k_ => some k_ ≠ (.slice Ao38 x352000_1.length co38 : Value).ownBlock ∧ some k_ ≠ (.slice Ao39 x352001_1.length co39 : Value).ownBlock ∧ some k_ ≠ (v371 : Value).ownBlock ∧ k_ ≠ gb351) ho0 (fun k_ hk_ => ⟨(Kd.fresh' (Kd.R_lt (kq_R HO_352000.out)) k_ hk_), (Kd.fresh' (Kd.N_lt (kq_N HO_352001.out)) k_ hk_), (Kd.fresh' (Kd.N_lt (kq_N HO372.out)) k_ hk_), (Kd.freshB (g := gb351) (o := .cells #[.slice Ao38 x352000_1.length co38, .slice Ao39 x352001_1.length co39] 31 (0, 0)) (bkq BK351.out) k_ hk_)⟩)) (below_size (by repeat (first | (with_reducible first | exact HB.out | apply below_alloc | apply pw_below_drewN | apply below_drew1 | refine below_set ?_ GE351.out) | exact HB.out)))); have n4_ := Aside0.mk (blk_below (g := gb351) (o := .cells #[.slice Ao38 x352000_1.length co38, .slice Ao39 x352001_1.length co39] 31 (0, 0)) (bkq BK351.out) hb); have n5_ := Aside0.mk (below_step (by repeat (first | (with_reducible first | exact HB.out | apply below_alloc | apply pw_below_drewN | apply below_drew1 | refine below_set ?_ GE351.out) | exact HB.out)) hb); clear HO_352000; clear HO_352001; clear HO372; clear BK351; clear HB; have HO_352000 := n0_; have HO_352001 := n1_; have HO372 := n2_; have HO376 := n3_; have BK351 := n4_; have HB := n5_; clear n0_ n1_ n2_ n3_ n4_ n5_; (try clear hb); (try clear hb2); (try clear hk); (try clear hi); (try clear ho0)))
    (try simp only [Act.put, List.setIfInBounds_toArray, List.set_cons_zero, List.set_cons_succ])
    go_cut [94] (fun v94 wc => ∃ (kq : Nat) (x94_35 : Bool), v94 = .bool x94_35 ∧ Aside0 (marblerunlaw12_BasisRing.j1 kq (wrap64 (1 + (wrap64 (Int.tmod a0 20)))) t370 t374 x94_35 = some r) ∧ Aside0 (kq ≤ k1) ∧ Aside0 (Kd.N (Kd.slice 3 (Kd.int .i64)) 37 wc w.heap.size (fun k_ => some k_ ≠ (v375 : Value).ownBlock ∧ some k_ ≠ ((.slice Ao38 x352000_1.length co38) : Value).ownBlock ∧ some k_ ≠ ((.slice Ao39 x352001_1.length co39) : Value).ownBlock ∧ k_ ≠ gb351) v371 t370) ∧ Aside0 (Kd.N (Kd.slice 3 (Kd.int .i64)) 37 wc w.heap.size (fun k_ => some k_ ≠ (v371 : Value).ownBlock ∧ some k_ ≠ ((.slice Ao38 x352000_1.length co38) : Value).ownBlock ∧ some k_ ≠ ((.slice Ao39 x352001_1.length co39) : Value).ownBlock ∧ k_ ≠ gb351) v375 t374) ∧ Aside0 (Kd.R k46 46 wc w.heap.size (fun _ => True) (.slice Ao38 x352000_1.length co38) x352000_1) ∧ Aside0 (Kd.N k54 54 wc w.heap.size (fun k_ => some k_ ≠ (v371 : Value).ownBlock ∧ some k_ ≠ (v375 : Value).ownBlock ∧ some k_ ≠ ((.slice Ao38 x352000_1.length co38) : Value).ownBlock ∧ k_ ≠ gb351) (.slice Ao39 x352001_1.length co39) x352001_1) ∧ Aside0 (wc.heap[gb351]? = some (.cells #[(.slice Ao38 x352000_1.length co38), (.slice Ao39 x352001_1.length co39)] 31 (0, 0))) ∧ Aside0 (Below w.heap.size w wc))
    case first =>
      have H := HC36.out
      clear HC36
      by_cases c43 : t373 = 0
      · rw [if_pos c43] at H
        have c43b0 : (t373 == 0) = true := beq_iff_eq.mpr c43
        have c43b1 : (t373 != 0) = false := bne_eq_false_iff_eq.mpr c43
        clear c43
        (first | rw [c43b0] | (simp only [i64_w, i32_w]; rw [c43b0]) | skip)
        by_cases c44 : t377 = 0
        · rw [if_pos c44] at H
          have c44b0 : (t377 == 0) = true := beq_iff_eq.mpr c44
          have c44b1 : (t377 != 0) = false := bne_eq_false_iff_eq.mpr c44
          clear c44
          by_cases c45 : (t370.length : Int) = 1
          · rw [if_pos c45] at H
            have c45b0 : ((t370.length : Int) == 1) = true := beq_iff_eq.mpr c45
            have c45b1 : ((t370.length : Int) != 1) = false := bne_eq_false_iff_eq.mpr c45
            clear c45
            by_cases c46 : (t374.length : Int) = 1
            · rw [if_pos c46] at H
              have c46b0 : ((t374.length : Int) == 1) = true := beq_iff_eq.mpr c46
              have c46b1 : ((t374.length : Int) != 1) = false := bne_eq_false_iff_eq.mpr c46
              clear c46
              by_cases c47 : 0 < (t370.length : Int)
              case neg => rw [if_neg c47] at H; exact absurd H (by simp)
              rw [if_pos c47] at H
              have c47b0 : decide (0 < (t370.length : Int)) = true := decide_eq_true c47
              have c47b1 : decide (0 < t370.length) = true := decide_eq_true (by omega)
              clear c47
              by_cases c48 : ((rd_L1 t370 0).length : Int) = (wrap64 (1 + (wrap64 (Int.tmod a0 20))))
              · rw [if_pos c48] at H
                have c48b0 : (((rd_L1 t370 0).length : Int) == (wrap64 (1 + (wrap64 (Int.tmod a0 20))))) = true := beq_iff_eq.mpr c48
                have c48b1 : (((rd_L1 t370 0).length : Int) != (wrap64 (1 + (wrap64 (Int.tmod a0 20))))) = false := bne_eq_false_iff_eq.mpr c48
                clear c48
                by_cases c49 : 0 < (t374.length : Int)
                case neg => rw [if_neg c49] at H; exact absurd H (by simp)
                rw [if_pos c49] at H
                have c49b0 : decide (0 < (t374.length : Int)) = true := decide_eq_true c49
                have c49b1 : decide (0 < t374.length) = true := decide_eq_true (by omega)
                clear c49
                have H' := Aside0.mk H
                clear H
                obtain ⟨Ao50, co50, eo50⟩ := Kd.N_slice HO372.out
                subst eo50
                obtain ⟨Ao51, co51, eo51⟩ := Kd.N_slice HO376.out
                subst eo51
                have p378 : 0 ≤ (0 : Int) := (by omega)
                have q378 : 0 < (t370.length : Int) := of_decide_eq_true (by first | (with_reducible assumption) | assumption)
                obtain ⟨ad378, A378_0, c378_0, e378, hx378_0, hl378_0, hi378_0⟩ := at_L1 (Kd.N_reads' HO372.out).2.2 0 p378 q378
                cases e378
                obtain ⟨ce378, hce378, hMe378, hcc378⟩ := Kd.N_get HO372.out [] 0 p378 (by first | exact q378 | exact of_decide_eq_true (by first | (with_reducible assumption) | assumption) | (have e_ := (Kd.N_reads' HO372.out).1; omega))
                obtain ⟨ua378_0, uc378_0, rfl, ul378_0, ge378_0⟩ := Kd.FK_slice_open hMe378
                have hv378_0 := hcc378 0 _ rfl
                rw [Nat.add_zero, show ((Kd.slice 3 (Kd.int .i64))).sz = 1 from rfl, Nat.mul_one] at hv378_0
                replace hv378_0 := Option.some.inj (hv378_0.symm.trans hx378_0)
                injection hv378_0 with hva_ hvn_ hvc_
                rw [hva_] at ge378_0
                rw [hvc_] at ul378_0
                have HL378_0 := Aside0.mk (show Kd.V (Kd.int .i64) 3 _ w.heap.size _ _ (rd_L1 t370 0) from Kd.V_mk ul378_0 ge378_0)
                clear hva_ hvn_ hvc_ ge378_0 ul378_0
                clear hcc378 hce378
                have qi378 : (0 < t370.length) = True := eq_true (by omega)
                (try rw [show ((0 : Int)).toNat = 0 from rfl] at hx378_0)
                (try rw [Addr.add_zero'] at hx378_0)
                have HR378_0 := Aside0.mk hi378_0
                have HC378_0 := Aside0.mk hl378_0
                clear hi378_0 hl378_0
                replace p378 := eq_true p378
                replace q378 := eq_true q378
                have p379 : 0 ≤ (0 : Int) := (by omega)
                have q379 : 0 < (t374.length : Int) := of_decide_eq_true (by first | (with_reducible assumption) | assumption)
                obtain ⟨ad379, A379_0, c379_0, e379, hx379_0, hl379_0, hi379_0⟩ := at_L1 (Kd.N_reads' HO376.out).2.2 0 p379 q379
                cases e379
                obtain ⟨ce379, hce379, hMe379, hcc379⟩ := Kd.N_get HO376.out [] 0 p379 (by first | exact q379 | exact of_decide_eq_true (by first | (with_reducible assumption) | assumption) | (have e_ := (Kd.N_reads' HO376.out).1; omega))
                obtain ⟨ua379_0, uc379_0, rfl, ul379_0, ge379_0⟩ := Kd.FK_slice_open hMe379
                have hv379_0 := hcc379 0 _ rfl
                rw [Nat.add_zero, show ((Kd.slice 3 (Kd.int .i64))).sz = 1 from rfl, Nat.mul_one] at hv379_0
                replace hv379_0 := Option.some.inj (hv379_0.symm.trans hx379_0)
                injection hv379_0 with hva_ hvn_ hvc_
                rw [hva_] at ge379_0
                rw [hvc_] at ul379_0
                have HL379_0 := Aside0.mk (show Kd.V (Kd.int .i64) 3 _ w.heap.size _ _ (rd_L1 t374 0) from Kd.V_mk ul379_0 ge379_0)
                clear hva_ hvn_ hvc_ ge379_0 ul379_0
                clear hcc379 hce379
                have qi379 : (0 < t374.length) = True := eq_true (by omega)
                (try rw [show ((0 : Int)).toNat = 0 from rfl] at hx379_0)
                (try rw [Addr.add_zero'] at hx379_0)
                have HR379_0 := Aside0.mk hi379_0
                have HC379_0 := Aside0.mk hl379_0
                clear hi379_0 hl379_0
                replace p379 := eq_true p379
                replace q379 := eq_true q379
                go_wp2
                go_meet
                case rel => exact ⟨_, ((((rd_L1 t374 0).length : Int) != (wrap64 (1 + (wrap64 (Int.tmod a0 20)))))), (by first | rfl | (simp; done) | (simp [*]; done)), H', ⟨by have := HK1.out; first | omega | exact Nat.le_refl _⟩, ⟨by (with_reducible repeat (first | apply Kd.N_alloc | apply Kd.N_drewN | apply Kd.N_drew)); exact Kd.N_mono HO372.out (fun _ hk => ⟨hk.2, ⟨hk.1.1, ⟨hk.1.2.1, hk.1.2.2⟩⟩⟩)⟩, ⟨by (with_reducible repeat (first | apply Kd.N_alloc | apply Kd.N_drewN | apply Kd.N_drew)); exact Kd.N_mono HO376.out (fun _ hk => ⟨hk.2.2.1, ⟨hk.1, ⟨hk.2.1, hk.2.2.2⟩⟩⟩)⟩, ⟨by (with_reducible repeat (first | apply Kd.R_alloc | apply Kd.R_drewN | apply Kd.R_drew)); exact HO_352000.out⟩, ⟨by (with_reducible repeat (first | apply Kd.N_alloc | apply Kd.N_drewN | apply Kd.N_drew)); exact Kd.N_mono HO_352001.out (fun _ hk => ⟨hk.1.2, ⟨hk.2, ⟨hk.1.1.1, hk.1.1.2⟩⟩⟩)⟩, ⟨by (with_reducible repeat (first | refine blk_drewN ?_ _ | refine blk_drew ?_ | refine blk_alloc ?_ _)); exact BK351.out⟩, ⟨by repeat (first | (with_reducible first | exact HB.out | apply below_alloc | apply pw_below_drewN | apply below_drew1 | refine below_set ?_ GE351.out) | exact HB.out)⟩⟩
              rw [if_neg c48] at H
              have c48b0 : (((rd_L1 t370 0).length : Int) == (wrap64 (1 + (wrap64 (Int.tmod a0 20))))) = false := beq_eq_false_iff_ne.mpr c48
              have c48b1 : (((rd_L1 t370 0).length : Int) != (wrap64 (1 + (wrap64 (Int.tmod a0 20))))) = true := bne_iff_ne.mpr c48
              have H' := Aside0.mk H
              clear H
              obtain ⟨Ao52, co52, eo52⟩ := Kd.N_slice HO372.out
              subst eo52
              obtain ⟨Ao53, co53, eo53⟩ := Kd.N_slice HO376.out
              subst eo53
              have p378 : 0 ≤ (0 : Int) := (by omega)
              have q378 : 0 < (t370.length : Int) := of_decide_eq_true (by first | (with_reducible assumption) | assumption)
              obtain ⟨ad378, A378_0, c378_0, e378, hx378_0, hl378_0, hi378_0⟩ := at_L1 (Kd.N_reads' HO372.out).2.2 0 p378 q378
              cases e378
              obtain ⟨ce378, hce378, hMe378, hcc378⟩ := Kd.N_get HO372.out [] 0 p378 (by first | exact q378 | exact of_decide_eq_true (by first | (with_reducible assumption) | assumption) | (have e_ := (Kd.N_reads' HO372.out).1; omega))
              obtain ⟨ua378_0, uc378_0, rfl, ul378_0, ge378_0⟩ := Kd.FK_slice_open hMe378
              have hv378_0 := hcc378 0 _ rfl
              rw [Nat.add_zero, show ((Kd.slice 3 (Kd.int .i64))).sz = 1 from rfl, Nat.mul_one] at hv378_0
              replace hv378_0 := Option.some.inj (hv378_0.symm.trans hx378_0)
              injection hv378_0 with hva_ hvn_ hvc_
              rw [hva_] at ge378_0
              rw [hvc_] at ul378_0
              have HL378_0 := Aside0.mk (show Kd.V (Kd.int .i64) 3 _ w.heap.size _ _ (rd_L1 t370 0) from Kd.V_mk ul378_0 ge378_0)
              clear hva_ hvn_ hvc_ ge378_0 ul378_0
              clear hcc378 hce378
              have qi378 : (0 < t370.length) = True := eq_true (by omega)
              (try rw [show ((0 : Int)).toNat = 0 from rfl] at hx378_0)
              (try rw [Addr.add_zero'] at hx378_0)
              have HR378_0 := Aside0.mk hi378_0
              have HC378_0 := Aside0.mk hl378_0
              clear hi378_0 hl378_0
              replace p378 := eq_true p378
              replace q378 := eq_true q378
              go_wp2
              go_meet
              case rel => exact ⟨_, (true), (by first | rfl | (simp; done) | (simp [*]; done)), H', ⟨by have := HK1.out; first | omega | exact Nat.le_refl _⟩, ⟨by (with_reducible repeat (first | apply Kd.N_alloc | apply Kd.N_drewN | apply Kd.N_drew)); exact Kd.N_mono HO372.out (fun _ hk => ⟨hk.2, ⟨hk.1.1, ⟨hk.1.2.1, hk.1.2.2⟩⟩⟩)⟩, ⟨by (with_reducible repeat (first | apply Kd.N_alloc | apply Kd.N_drewN | apply Kd.N_drew)); exact Kd.N_mono HO376.out (fun _ hk => ⟨hk.2.2.1, ⟨hk.1, ⟨hk.2.1, hk.2.2.2⟩⟩⟩)⟩, ⟨by (with_reducible repeat (first | apply Kd.R_alloc | apply Kd.R_drewN | apply Kd.R_drew)); exact HO_352000.out⟩, ⟨by (with_reducible repeat (first | apply Kd.N_alloc | apply Kd.N_drewN | apply Kd.N_drew)); exact Kd.N_mono HO_352001.out (fun _ hk => ⟨hk.1.2, ⟨hk.2, ⟨hk.1.1.1, hk.1.1.2⟩⟩⟩)⟩, ⟨by (with_reducible repeat (first | refine blk_drewN ?_ _ | refine blk_drew ?_ | refine blk_alloc ?_ _)); exact BK351.out⟩, ⟨by repeat (first | (with_reducible first | exact HB.out | apply below_alloc | apply pw_below_drewN | apply below_drew1 | refine below_set ?_ GE351.out) | exact HB.out)⟩⟩
            rw [if_neg c46] at H
            have c46b0 : ((t374.length : Int) == 1) = false := beq_eq_false_iff_ne.mpr c46
            have c46b1 : ((t374.length : Int) != 1) = true := bne_iff_ne.mpr c46
            have H' := Aside0.mk H
            clear H
            obtain ⟨Ao54, co54, eo54⟩ := Kd.N_slice HO372.out
            subst eo54
            obtain ⟨Ao55, co55, eo55⟩ := Kd.N_slice HO376.out
            subst eo55
            go_wp2
            go_meet
            case rel => exact ⟨_, (true), (by first | rfl | (simp; done) | (simp [*]; done)), H', ⟨by have := HK1.out; first | omega | exact Nat.le_refl _⟩, ⟨by (with_reducible repeat (first | apply Kd.N_alloc | apply Kd.N_drewN | apply Kd.N_drew)); exact Kd.N_mono HO372.out (fun _ hk => ⟨hk.2, ⟨hk.1.1, ⟨hk.1.2.1, hk.1.2.2⟩⟩⟩)⟩, ⟨by (with_reducible repeat (first | apply Kd.N_alloc | apply Kd.N_drewN | apply Kd.N_drew)); exact Kd.N_mono HO376.out (fun _ hk => ⟨hk.2.2.1, ⟨hk.1, ⟨hk.2.1, hk.2.2.2⟩⟩⟩)⟩, ⟨by (with_reducible repeat (first | apply Kd.R_alloc | apply Kd.R_drewN | apply Kd.R_drew)); exact HO_352000.out⟩, ⟨by (with_reducible repeat (first | apply Kd.N_alloc | apply Kd.N_drewN | apply Kd.N_drew)); exact Kd.N_mono HO_352001.out (fun _ hk => ⟨hk.1.2, ⟨hk.2, ⟨hk.1.1.1, hk.1.1.2⟩⟩⟩)⟩, ⟨by (with_reducible repeat (first | refine blk_drewN ?_ _ | refine blk_drew ?_ | refine blk_alloc ?_ _)); exact BK351.out⟩, ⟨by repeat (first | (with_reducible first | exact HB.out | apply below_alloc | apply pw_below_drewN | apply below_drew1 | refine below_set ?_ GE351.out) | exact HB.out)⟩⟩
          rw [if_neg c45] at H
          have c45b0 : ((t370.length : Int) == 1) = false := beq_eq_false_iff_ne.mpr c45
          have c45b1 : ((t370.length : Int) != 1) = true := bne_iff_ne.mpr c45
          have H' := Aside0.mk H
          clear H
          obtain ⟨Ao56, co56, eo56⟩ := Kd.N_slice HO372.out
          subst eo56
          go_wp2
          go_meet
          case rel => exact ⟨_, (true), (by first | rfl | (simp; done) | (simp [*]; done)), H', ⟨by have := HK1.out; first | omega | exact Nat.le_refl _⟩, ⟨by (with_reducible repeat (first | apply Kd.N_alloc | apply Kd.N_drewN | apply Kd.N_drew)); exact Kd.N_mono HO372.out (fun _ hk => ⟨hk.2, ⟨hk.1.1, ⟨hk.1.2.1, hk.1.2.2⟩⟩⟩)⟩, ⟨by (with_reducible repeat (first | apply Kd.N_alloc | apply Kd.N_drewN | apply Kd.N_drew)); exact Kd.N_mono HO376.out (fun _ hk => ⟨hk.2.2.1, ⟨hk.1, ⟨hk.2.1, hk.2.2.2⟩⟩⟩)⟩, ⟨by (with_reducible repeat (first | apply Kd.R_alloc | apply Kd.R_drewN | apply Kd.R_drew)); exact HO_352000.out⟩, ⟨by (with_reducible repeat (first | apply Kd.N_alloc | apply Kd.N_drewN | apply Kd.N_drew)); exact Kd.N_mono HO_352001.out (fun _ hk => ⟨hk.1.2, ⟨hk.2, ⟨hk.1.1.1, hk.1.1.2⟩⟩⟩)⟩, ⟨by (with_reducible repeat (first | refine blk_drewN ?_ _ | refine blk_drew ?_ | refine blk_alloc ?_ _)); exact BK351.out⟩, ⟨by repeat (first | (with_reducible first | exact HB.out | apply below_alloc | apply pw_below_drewN | apply below_drew1 | refine below_set ?_ GE351.out) | exact HB.out)⟩⟩
        rw [if_neg c44] at H
        have c44b0 : (t377 == 0) = false := beq_eq_false_iff_ne.mpr c44
        have c44b1 : (t377 != 0) = true := bne_iff_ne.mpr c44
        have H' := Aside0.mk H
        clear H
        go_wp2
        go_meet
        case rel => exact ⟨_, (true), (by first | rfl | (simp; done) | (simp [*]; done)), H', ⟨by have := HK1.out; first | omega | exact Nat.le_refl _⟩, ⟨by (with_reducible repeat (first | apply Kd.N_alloc | apply Kd.N_drewN | apply Kd.N_drew)); exact Kd.N_mono HO372.out (fun _ hk => ⟨hk.2, ⟨hk.1.1, ⟨hk.1.2.1, hk.1.2.2⟩⟩⟩)⟩, ⟨by (with_reducible repeat (first | apply Kd.N_alloc | apply Kd.N_drewN | apply Kd.N_drew)); exact Kd.N_mono HO376.out (fun _ hk => ⟨hk.2.2.1, ⟨hk.1, ⟨hk.2.1, hk.2.2.2⟩⟩⟩)⟩, ⟨by (with_reducible repeat (first | apply Kd.R_alloc | apply Kd.R_drewN | apply Kd.R_drew)); exact HO_352000.out⟩, ⟨by (with_reducible repeat (first | apply Kd.N_alloc | apply Kd.N_drewN | apply Kd.N_drew)); exact Kd.N_mono HO_352001.out (fun _ hk => ⟨hk.1.2, ⟨hk.2, ⟨hk.1.1.1, hk.1.1.2⟩⟩⟩)⟩, ⟨by (with_reducible repeat (first | refine blk_drewN ?_ _ | refine blk_drew ?_ | refine blk_alloc ?_ _)); exact BK351.out⟩, ⟨by repeat (first | (with_reducible first | exact HB.out | apply below_alloc | apply pw_below_drewN | apply below_drew1 | refine below_set ?_ GE351.out) | exact HB.out)⟩⟩
      rw [if_neg c43] at H
      have c43b0 : (t373 == 0) = false := beq_eq_false_iff_ne.mpr c43
      have c43b1 : (t373 != 0) = true := bne_iff_ne.mpr c43
      (first | rw [c43b0] | (simp only [i64_w, i32_w]; rw [c43b0]) | skip)
      have H' := Aside0.mk H
      clear H
      go_wp2
      go_meet
      case rel => exact ⟨_, (true), (by first | rfl | (simp; done) | (simp [*]; done)), H', ⟨by have := HK1.out; first | omega | exact Nat.le_refl _⟩, ⟨by (with_reducible repeat (first | apply Kd.N_alloc | apply Kd.N_drewN | apply Kd.N_drew)); exact Kd.N_mono HO372.out (fun _ hk => ⟨hk.2, ⟨hk.1.1, ⟨hk.1.2.1, hk.1.2.2⟩⟩⟩)⟩, ⟨by (with_reducible repeat (first | apply Kd.N_alloc | apply Kd.N_drewN | apply Kd.N_drew)); exact Kd.N_mono HO376.out (fun _ hk => ⟨hk.2.2.1, ⟨hk.1, ⟨hk.2.1, hk.2.2.2⟩⟩⟩)⟩, ⟨by (with_reducible repeat (first | apply Kd.R_alloc | apply Kd.R_drewN | apply Kd.R_drew)); exact HO_352000.out⟩, ⟨by (with_reducible repeat (first | apply Kd.N_alloc | apply Kd.N_drewN | apply Kd.N_drew)); exact Kd.N_mono HO_352001.out (fun _ hk => ⟨hk.1.2, ⟨hk.2, ⟨hk.1.1.1, hk.1.1.2⟩⟩⟩)⟩, ⟨by (with_reducible repeat (first | refine blk_drewN ?_ _ | refine blk_drew ?_ | refine blk_alloc ?_ _)); exact BK351.out⟩, ⟨by repeat (first | (with_reducible first | exact HB.out | apply below_alloc | apply pw_below_drewN | apply below_drew1 | refine below_set ?_ GE351.out) | exact HB.out)⟩⟩
    clear HC36
    try clear c1
    try clear c2
    try clear p2
    try clear hcv2
    try clear c3
    try clear c3b0
    try clear p3
    try clear q3
    try clear hx3
    try clear qi3
    try clear c4
    try clear c5
    try clear c6
    try clear p6
    try clear c8
    try clear c13
    try clear c19
    try clear hcv26
    try clear c37
    try clear p37
    try clear q37
    try clear hx37
    try clear qi37
    try clear c43
    try clear c43b0
    try clear c43b1
    try clear c44
    try clear c44b0
    try clear c44b1
    try clear c45
    try clear c45b0
    try clear c45b1
    try clear c46
    try clear c46b0
    try clear c46b1
    try clear c47
    try clear c47b0
    try clear c47b1
    try clear c48
    try clear c48b0
    try clear c48b1
    try clear c49
    try clear c49b0
    try clear c49b1
    try clear hcz37_0
    try clear hcz37_1
    try clear hcz41_0
    try clear hcz41_1
    try clear hfz37_0
    try clear hfz37_1
    try clear hfz41_0
    try clear hfz41_1
    try clear hx378_0
    try clear hx379_0
    try clear p378
    try clear p379
    try clear q378
    try clear q379
    obtain ⟨kq, x94_35, rfl, HA, HJ35, HO_6, HO_8, HO_352000, HO_352001, BK351, HB⟩ := hcut
    cases kq with
    | zero => exact absurd HA.out (by simp [marblerunlaw12_BasisRing.j1])
    | succ kj35 =>
      have H := HA.out
      clear HA
      simp only [marblerunlaw12_BasisRing.j1] at H
      by_cases c57 : x94_35 = true
      · subst c57
        have H1 : (some false) = some r := by rw [if_pos rfl] at H; exact H
        clear H
        have H := H1
        clear H1
        obtain rfl := Option.some.inj H
        go_wp2
        go_ret
        exact ⟨by first | rfl | (simp [errW_none, errW_some] <;> rfl) | (simp [*, errW_none, errW_some] <;> rfl), by repeat (first | (with_reducible first | exact HB.out | apply below_alloc | apply pw_below_drewN | apply below_drew1 | refine below_set ?_ GE351.out) | exact HB.out)⟩
      replace c57 := Bool.eq_false_iff.mpr c57
      subst c57
      have H1 : (marblerunlaw12_BasisRing.l1 kj35 (wrap64 (1 + (wrap64 (Int.tmod a0 20)))) t370 t374 0) = some r := by rw [if_neg (show ¬ (false = true) by decide)] at H; exact H
      clear H
      have H := H1
      clear H1
      have H' := Aside0.mk H
      clear H
      go_wp2
      go_loopg [10] kj35 (fun kq v10 w' => ∃ (x10_3 : Int), v10 = .int .i64 x10_3 ∧ Aside0 (marblerunlaw12_BasisRing.l1 kq (wrap64 (1 + (wrap64 (Int.tmod a0 20)))) t370 t374 x10_3 = some r) ∧ Aside0 (kq ≤ kj35) ∧ Aside0 (Kd.N (Kd.slice 3 (Kd.int .i64)) 37 w' w.heap.size (fun k_ => some k_ ≠ (v375 : Value).ownBlock ∧ some k_ ≠ ((.slice Ao38 x352000_1.length co38) : Value).ownBlock ∧ some k_ ≠ ((.slice Ao39 x352001_1.length co39) : Value).ownBlock ∧ k_ ≠ gb351) v371 t370) ∧ Aside0 (Kd.N (Kd.slice 3 (Kd.int .i64)) 37 w' w.heap.size (fun k_ => some k_ ≠ (v371 : Value).ownBlock ∧ some k_ ≠ ((.slice Ao38 x352000_1.length co38) : Value).ownBlock ∧ some k_ ≠ ((.slice Ao39 x352001_1.length co39) : Value).ownBlock ∧ k_ ≠ gb351) v375 t374) ∧ Aside0 (Kd.R k46 46 w' w.heap.size (fun _ => True) (.slice Ao38 x352000_1.length co38) x352000_1) ∧ Aside0 (Kd.N k54 54 w' w.heap.size (fun k_ => some k_ ≠ (v371 : Value).ownBlock ∧ some k_ ≠ (v375 : Value).ownBlock ∧ some k_ ≠ ((.slice Ao38 x352000_1.length co38) : Value).ownBlock ∧ k_ ≠ gb351) (.slice Ao39 x352001_1.length co39) x352001_1) ∧ Aside0 (w'.heap[gb351]? = some (.cells #[(.slice Ao38 x352000_1.length co38), (.slice Ao39 x352001_1.length co39)] 31 (0, 0))) ∧ Aside0 (Below w.heap.size w w'))
      case atStart => exact ⟨(0), (by first | rfl | (simp; done) | (simp [*]; done)), H', ⟨Nat.le_refl _⟩, ⟨by (with_reducible repeat (first | apply Kd.N_alloc | apply Kd.N_drewN | apply Kd.N_drew)); exact HO_6.out⟩, ⟨by (with_reducible repeat (first | apply Kd.N_alloc | apply Kd.N_drewN | apply Kd.N_drew)); exact HO_8.out⟩, ⟨by (with_reducible repeat (first | apply Kd.R_alloc | apply Kd.R_drewN | apply Kd.R_drew)); exact HO_352000.out⟩, ⟨by (with_reducible repeat (first | apply Kd.N_alloc | apply Kd.N_drewN | apply Kd.N_drew)); exact HO_352001.out⟩, ⟨by (with_reducible repeat (first | refine blk_drewN ?_ _ | refine blk_drew ?_ | refine blk_alloc ?_ _)); exact BK351.out⟩, ⟨by repeat (first | (with_reducible first | exact HB.out | apply below_alloc | apply pw_below_drewN | apply below_drew1 | refine below_set ?_ GE351.out) | exact HB.out)⟩⟩
      clear H'
      try clear c1
      try clear c2
      try clear p2
      try clear hcv2
      try clear c3
      try clear c3b0
      try clear p3
      try clear q3
      try clear hx3
      try clear qi3
      try clear c4
      try clear c5
      try clear c6
      try clear p6
      try clear c8
      try clear c13
      try clear c19
      try clear hcv26
      try clear c37
      try clear p37
      try clear q37
      try clear hx37
      try clear qi37
      try clear c43
      try clear c43b0
      try clear c43b1
      try clear c44
      try clear c44b0
      try clear c44b1
      try clear c45
      try clear c45b0
      try clear c45b1
      try clear c46
      try clear c46b0
      try clear c46b1
      try clear c47
      try clear c47b0
      try clear c47b1
      try clear c48
      try clear c48b0
      try clear c48b1
      try clear c49
      try clear c49b0
      try clear c49b1
      try clear c57
      try clear hcz37_0
      try clear hcz37_1
      try clear hcz41_0
      try clear hcz41_1
      try clear hfz37_0
      try clear hfz37_1
      try clear hfz41_0
      try clear hfz41_1
      try clear hx378_0
      try clear hx379_0
      try clear p2
      try clear p3
      try clear p37
      try clear p378
      try clear p379
      try clear p6
      try clear q3
      try clear q37
      try clear q378
      try clear q379
      obtain ⟨x10_3, rfl, HA, HK3, HO_6, HO_8, HO_352000, HO_352001, BK351, HB⟩ := hrel
      cases gk with
      | zero => exact absurd HA.out (by simp [marblerunlaw12_BasisRing.l1])
      | succ k3 =>
        have H := HA.out
        clear HA
        simp only [marblerunlaw12_BasisRing.l1] at H
        by_cases c58 : x10_3 < (wrap64 (1 + (wrap64 (Int.tmod a0 20))))
        · rw [if_pos c58] at H
          have c58b0 : decide (x10_3 < (wrap64 (1 + (wrap64 (Int.tmod a0 20))))) = true := decide_eq_true c58
          clear c58
          by_cases c59 : 0 < (t370.length : Int)
          case neg => rw [if_neg c59] at H; exact absurd H (by simp)
          rw [if_pos c59] at H
          have c59b0 : decide (0 < (t370.length : Int)) = true := decide_eq_true c59
          have c59b1 : decide (0 < t370.length) = true := decide_eq_true (by omega)
          clear c59
          by_cases c60 : 0 ≤ x10_3
          case neg => rw [if_neg c60] at H; exact absurd H (by simp)
          rw [if_pos c60] at H
          have c60b0 : decide (0 ≤ x10_3) = true := decide_eq_true c60
          clear c60
          by_cases c61 : x10_3 < ((rd_L1 t370 0).length : Int)
          case neg => rw [if_neg c61] at H; exact absurd H (by simp)
          rw [if_pos c61] at H
          have c61b0 : decide (x10_3 < ((rd_L1 t370 0).length : Int)) = true := decide_eq_true c61
          clear c61
          by_cases c62 : (rd (rd_L1 t370 0) x10_3) = 1
          · rw [if_pos c62] at H
            have c62b0 : ((rd (rd_L1 t370 0) x10_3) == 1) = true := beq_iff_eq.mpr c62
            have c62b1 : ((rd (rd_L1 t370 0) x10_3) != 1) = false := bne_eq_false_iff_eq.mpr c62
            clear c62
            by_cases c63 : 0 < (t374.length : Int)
            case neg => rw [if_neg c63] at H; exact absurd H (by simp)
            rw [if_pos c63] at H
            have c63b0 : decide (0 < (t374.length : Int)) = true := decide_eq_true c63
            have c63b1 : decide (0 < t374.length) = true := decide_eq_true (by omega)
            clear c63
            by_cases c64 : x10_3 < ((rd_L1 t374 0).length : Int)
            case neg => rw [if_neg c64] at H; exact absurd H (by simp)
            rw [if_pos c64] at H
            have c64b0 : decide (x10_3 < ((rd_L1 t374 0).length : Int)) = true := decide_eq_true c64
            clear c64
            by_cases c65 : (rd (rd_L1 t374 0) x10_3) = 1
            · rw [if_pos c65] at H
              have c65b0 : ((rd (rd_L1 t374 0) x10_3) == 1) = true := beq_iff_eq.mpr c65
              have c65b1 : ((rd (rd_L1 t374 0) x10_3) != 1) = false := bne_eq_false_iff_eq.mpr c65
              clear c65
              have H' := Aside0.mk H
              clear H
              obtain ⟨Ao66, co66, eo66⟩ := Kd.N_slice HO_6.out
              subst eo66
              have p380 : 0 ≤ (0 : Int) := (by omega)
              have q380 : 0 < (t370.length : Int) := of_decide_eq_true (by first | (with_reducible assumption) | assumption)
              obtain ⟨ad380, A380_0, c380_0, e380, hx380_0, hl380_0, hi380_0⟩ := at_L1 (Kd.N_reads' HO_6.out).2.2 0 p380 q380
              cases e380
              obtain ⟨ce380, hce380, hMe380, hcc380⟩ := Kd.N_get HO_6.out [] 0 p380 (by first | exact q380 | exact of_decide_eq_true (by first | (with_reducible assumption) | assumption) | (have e_ := (Kd.N_reads' HO_6.out).1; omega))
              obtain ⟨ua380_0, uc380_0, rfl, ul380_0, ge380_0⟩ := Kd.FK_slice_open hMe380
              have hv380_0 := hcc380 0 _ rfl
              rw [Nat.add_zero, show ((Kd.slice 3 (Kd.int .i64))).sz = 1 from rfl, Nat.mul_one] at hv380_0
              replace hv380_0 := Option.some.inj (hv380_0.symm.trans hx380_0)
              injection hv380_0 with hva_ hvn_ hvc_
              rw [hva_] at ge380_0
              rw [hvc_] at ul380_0
              have HL380_0 := Aside0.mk (show Kd.V (Kd.int .i64) 3 _ w.heap.size _ _ (rd_L1 t370 0) from Kd.V_mk ul380_0 ge380_0)
              clear hva_ hvn_ hvc_ ge380_0 ul380_0
              clear hcc380 hce380
              have qi380 : (0 < t370.length) = True := eq_true (by omega)
              (try rw [show ((0 : Int)).toNat = 0 from rfl] at hx380_0)
              (try rw [Addr.add_zero'] at hx380_0)
              have HR380_0 := Aside0.mk hi380_0
              have HC380_0 := Aside0.mk hl380_0
              clear hi380_0 hl380_0
              replace p380 := eq_true p380
              replace q380 := eq_true q380
              have p381 : 0 ≤ (x10_3 : Int) := of_decide_eq_true (by first | (with_reducible assumption) | assumption)
              have q381 : x10_3 < ((rd_L1 t370 0).length : Int) := of_decide_eq_true (by first | (with_reducible assumption) | assumption)
              obtain ⟨ad381, e381, hx381_0⟩ := Kd.at_int (by repeat (first | (with_reducible exact HR380_0.out) | (with_reducible refine Kd.C_alloc ?_ _) | (with_reducible refine Kd.C_drewN ?_ _) | (with_reducible refine Kd.C_drew ?_) | exact HR380_0.out)) x10_3 p381 q381
              cases e381
              replace p381 := eq_true p381
              replace q381 := eq_true q381
              obtain ⟨Ao67, co67, eo67⟩ := Kd.N_slice HO_8.out
              subst eo67
              have p382 : 0 ≤ (0 : Int) := (by omega)
              have q382 : 0 < (t374.length : Int) := of_decide_eq_true (by first | (with_reducible assumption) | assumption)
              obtain ⟨ad382, A382_0, c382_0, e382, hx382_0, hl382_0, hi382_0⟩ := at_L1 (Kd.N_reads' HO_8.out).2.2 0 p382 q382
              cases e382
              obtain ⟨ce382, hce382, hMe382, hcc382⟩ := Kd.N_get HO_8.out [] 0 p382 (by first | exact q382 | exact of_decide_eq_true (by first | (with_reducible assumption) | assumption) | (have e_ := (Kd.N_reads' HO_8.out).1; omega))
              obtain ⟨ua382_0, uc382_0, rfl, ul382_0, ge382_0⟩ := Kd.FK_slice_open hMe382
              have hv382_0 := hcc382 0 _ rfl
              rw [Nat.add_zero, show ((Kd.slice 3 (Kd.int .i64))).sz = 1 from rfl, Nat.mul_one] at hv382_0
              replace hv382_0 := Option.some.inj (hv382_0.symm.trans hx382_0)
              injection hv382_0 with hva_ hvn_ hvc_
              rw [hva_] at ge382_0
              rw [hvc_] at ul382_0
              have HL382_0 := Aside0.mk (show Kd.V (Kd.int .i64) 3 _ w.heap.size _ _ (rd_L1 t374 0) from Kd.V_mk ul382_0 ge382_0)
              clear hva_ hvn_ hvc_ ge382_0 ul382_0
              clear hcc382 hce382
              have qi382 : (0 < t374.length) = True := eq_true (by omega)
              (try rw [show ((0 : Int)).toNat = 0 from rfl] at hx382_0)
              (try rw [Addr.add_zero'] at hx382_0)
              have HR382_0 := Aside0.mk hi382_0
              have HC382_0 := Aside0.mk hl382_0
              clear hi382_0 hl382_0
              replace p382 := eq_true p382
              replace q382 := eq_true q382
              have p383 : 0 ≤ (x10_3 : Int) := of_decide_eq_true (by first | (with_reducible assumption) | assumption)
              have q383 : x10_3 < ((rd_L1 t374 0).length : Int) := of_decide_eq_true (by first | (with_reducible assumption) | assumption)
              obtain ⟨ad383, e383, hx383_0⟩ := Kd.at_int (by repeat (first | (with_reducible exact HR382_0.out) | (with_reducible refine Kd.C_alloc ?_ _) | (with_reducible refine Kd.C_drewN ?_ _) | (with_reducible refine Kd.C_drew ?_) | exact HR382_0.out)) x10_3 p383 q383
              cases e383
              replace p383 := eq_true p383
              replace q383 := eq_true q383
              go_wp2
              go_roundg k3
              case measure => have := HK1.out; have := HJ35.out; have := HK3.out; omega
              case rel => exact ⟨(wrap64 (x10_3 + 1)), (by first | rfl | (simp; done) | (simp [*]; done)), H', ⟨by have := HK1.out; have := HJ35.out; have := HK3.out; omega⟩, ⟨by (with_reducible repeat (first | apply Kd.N_alloc | apply Kd.N_drewN | apply Kd.N_drew)); exact HO_6.out⟩, ⟨by (with_reducible repeat (first | apply Kd.N_alloc | apply Kd.N_drewN | apply Kd.N_drew)); exact HO_8.out⟩, ⟨by (with_reducible repeat (first | apply Kd.R_alloc | apply Kd.R_drewN | apply Kd.R_drew)); exact HO_352000.out⟩, ⟨by (with_reducible repeat (first | apply Kd.N_alloc | apply Kd.N_drewN | apply Kd.N_drew)); exact HO_352001.out⟩, ⟨by (with_reducible repeat (first | refine blk_drewN ?_ _ | refine blk_drew ?_ | refine blk_alloc ?_ _)); exact BK351.out⟩, ⟨by repeat (first | (with_reducible first | exact HB.out | apply below_alloc | apply pw_below_drewN | apply below_drew1 | refine below_set ?_ GE351.out) | exact HB.out)⟩⟩
            rw [if_neg c65] at H
            have c65b0 : ((rd (rd_L1 t374 0) x10_3) == 1) = false := beq_eq_false_iff_ne.mpr c65
            have c65b1 : ((rd (rd_L1 t374 0) x10_3) != 1) = true := bne_iff_ne.mpr c65
            obtain rfl := Option.some.inj H
            obtain ⟨Ao68, co68, eo68⟩ := Kd.N_slice HO_6.out
            subst eo68
            have p380 : 0 ≤ (0 : Int) := (by omega)
            have q380 : 0 < (t370.length : Int) := of_decide_eq_true (by first | (with_reducible assumption) | assumption)
            obtain ⟨ad380, A380_0, c380_0, e380, hx380_0, hl380_0, hi380_0⟩ := at_L1 (Kd.N_reads' HO_6.out).2.2 0 p380 q380
            cases e380
            obtain ⟨ce380, hce380, hMe380, hcc380⟩ := Kd.N_get HO_6.out [] 0 p380 (by first | exact q380 | exact of_decide_eq_true (by first | (with_reducible assumption) | assumption) | (have e_ := (Kd.N_reads' HO_6.out).1; omega))
            obtain ⟨ua380_0, uc380_0, rfl, ul380_0, ge380_0⟩ := Kd.FK_slice_open hMe380
            have hv380_0 := hcc380 0 _ rfl
            rw [Nat.add_zero, show ((Kd.slice 3 (Kd.int .i64))).sz = 1 from rfl, Nat.mul_one] at hv380_0
            replace hv380_0 := Option.some.inj (hv380_0.symm.trans hx380_0)
            injection hv380_0 with hva_ hvn_ hvc_
            rw [hva_] at ge380_0
            rw [hvc_] at ul380_0
            have HL380_0 := Aside0.mk (show Kd.V (Kd.int .i64) 3 _ w.heap.size _ _ (rd_L1 t370 0) from Kd.V_mk ul380_0 ge380_0)
            clear hva_ hvn_ hvc_ ge380_0 ul380_0
            clear hcc380 hce380
            have qi380 : (0 < t370.length) = True := eq_true (by omega)
            (try rw [show ((0 : Int)).toNat = 0 from rfl] at hx380_0)
            (try rw [Addr.add_zero'] at hx380_0)
            have HR380_0 := Aside0.mk hi380_0
            have HC380_0 := Aside0.mk hl380_0
            clear hi380_0 hl380_0
            replace p380 := eq_true p380
            replace q380 := eq_true q380
            have p381 : 0 ≤ (x10_3 : Int) := of_decide_eq_true (by first | (with_reducible assumption) | assumption)
            have q381 : x10_3 < ((rd_L1 t370 0).length : Int) := of_decide_eq_true (by first | (with_reducible assumption) | assumption)
            obtain ⟨ad381, e381, hx381_0⟩ := Kd.at_int (by repeat (first | (with_reducible exact HR380_0.out) | (with_reducible refine Kd.C_alloc ?_ _) | (with_reducible refine Kd.C_drewN ?_ _) | (with_reducible refine Kd.C_drew ?_) | exact HR380_0.out)) x10_3 p381 q381
            cases e381
            replace p381 := eq_true p381
            replace q381 := eq_true q381
            obtain ⟨Ao69, co69, eo69⟩ := Kd.N_slice HO_8.out
            subst eo69
            have p382 : 0 ≤ (0 : Int) := (by omega)
            have q382 : 0 < (t374.length : Int) := of_decide_eq_true (by first | (with_reducible assumption) | assumption)
            obtain ⟨ad382, A382_0, c382_0, e382, hx382_0, hl382_0, hi382_0⟩ := at_L1 (Kd.N_reads' HO_8.out).2.2 0 p382 q382
            cases e382
            obtain ⟨ce382, hce382, hMe382, hcc382⟩ := Kd.N_get HO_8.out [] 0 p382 (by first | exact q382 | exact of_decide_eq_true (by first | (with_reducible assumption) | assumption) | (have e_ := (Kd.N_reads' HO_8.out).1; omega))
            obtain ⟨ua382_0, uc382_0, rfl, ul382_0, ge382_0⟩ := Kd.FK_slice_open hMe382
            have hv382_0 := hcc382 0 _ rfl
            rw [Nat.add_zero, show ((Kd.slice 3 (Kd.int .i64))).sz = 1 from rfl, Nat.mul_one] at hv382_0
            replace hv382_0 := Option.some.inj (hv382_0.symm.trans hx382_0)
            injection hv382_0 with hva_ hvn_ hvc_
            rw [hva_] at ge382_0
            rw [hvc_] at ul382_0
            have HL382_0 := Aside0.mk (show Kd.V (Kd.int .i64) 3 _ w.heap.size _ _ (rd_L1 t374 0) from Kd.V_mk ul382_0 ge382_0)
            clear hva_ hvn_ hvc_ ge382_0 ul382_0
            clear hcc382 hce382
            have qi382 : (0 < t374.length) = True := eq_true (by omega)
            (try rw [show ((0 : Int)).toNat = 0 from rfl] at hx382_0)
            (try rw [Addr.add_zero'] at hx382_0)
            have HR382_0 := Aside0.mk hi382_0
            have HC382_0 := Aside0.mk hl382_0
            clear hi382_0 hl382_0
            replace p382 := eq_true p382
            replace q382 := eq_true q382
            have p383 : 0 ≤ (x10_3 : Int) := of_decide_eq_true (by first | (with_reducible assumption) | assumption)
            have q383 : x10_3 < ((rd_L1 t374 0).length : Int) := of_decide_eq_true (by first | (with_reducible assumption) | assumption)
            obtain ⟨ad383, e383, hx383_0⟩ := Kd.at_int (by repeat (first | (with_reducible exact HR382_0.out) | (with_reducible refine Kd.C_alloc ?_ _) | (with_reducible refine Kd.C_drewN ?_ _) | (with_reducible refine Kd.C_drew ?_) | exact HR382_0.out)) x10_3 p383 q383
            cases e383
            replace p383 := eq_true p383
            replace q383 := eq_true q383
            go_wp2
            go_ret
            exact ⟨by first | rfl | (simp [errW_none, errW_some] <;> rfl) | (simp [*, errW_none, errW_some] <;> rfl), by repeat (first | (with_reducible first | exact HB.out | apply below_alloc | apply pw_below_drewN | apply below_drew1 | refine below_set ?_ GE351.out) | exact HB.out)⟩
          rw [if_neg c62] at H
          have c62b0 : ((rd (rd_L1 t370 0) x10_3) == 1) = false := beq_eq_false_iff_ne.mpr c62
          have c62b1 : ((rd (rd_L1 t370 0) x10_3) != 1) = true := bne_iff_ne.mpr c62
          obtain rfl := Option.some.inj H
          obtain ⟨Ao70, co70, eo70⟩ := Kd.N_slice HO_6.out
          subst eo70
          have p380 : 0 ≤ (0 : Int) := (by omega)
          have q380 : 0 < (t370.length : Int) := of_decide_eq_true (by first | (with_reducible assumption) | assumption)
          obtain ⟨ad380, A380_0, c380_0, e380, hx380_0, hl380_0, hi380_0⟩ := at_L1 (Kd.N_reads' HO_6.out).2.2 0 p380 q380
          cases e380
          obtain ⟨ce380, hce380, hMe380, hcc380⟩ := Kd.N_get HO_6.out [] 0 p380 (by first | exact q380 | exact of_decide_eq_true (by first | (with_reducible assumption) | assumption) | (have e_ := (Kd.N_reads' HO_6.out).1; omega))
          obtain ⟨ua380_0, uc380_0, rfl, ul380_0, ge380_0⟩ := Kd.FK_slice_open hMe380
          have hv380_0 := hcc380 0 _ rfl
          rw [Nat.add_zero, show ((Kd.slice 3 (Kd.int .i64))).sz = 1 from rfl, Nat.mul_one] at hv380_0
          replace hv380_0 := Option.some.inj (hv380_0.symm.trans hx380_0)
          injection hv380_0 with hva_ hvn_ hvc_
          rw [hva_] at ge380_0
          rw [hvc_] at ul380_0
          have HL380_0 := Aside0.mk (show Kd.V (Kd.int .i64) 3 _ w.heap.size _ _ (rd_L1 t370 0) from Kd.V_mk ul380_0 ge380_0)
          clear hva_ hvn_ hvc_ ge380_0 ul380_0
          clear hcc380 hce380
          have qi380 : (0 < t370.length) = True := eq_true (by omega)
          (try rw [show ((0 : Int)).toNat = 0 from rfl] at hx380_0)
          (try rw [Addr.add_zero'] at hx380_0)
          have HR380_0 := Aside0.mk hi380_0
          have HC380_0 := Aside0.mk hl380_0
          clear hi380_0 hl380_0
          replace p380 := eq_true p380
          replace q380 := eq_true q380
          have p381 : 0 ≤ (x10_3 : Int) := of_decide_eq_true (by first | (with_reducible assumption) | assumption)
          have q381 : x10_3 < ((rd_L1 t370 0).length : Int) := of_decide_eq_true (by first | (with_reducible assumption) | assumption)
          obtain ⟨ad381, e381, hx381_0⟩ := Kd.at_int (by repeat (first | (with_reducible exact HR380_0.out) | (with_reducible refine Kd.C_alloc ?_ _) | (with_reducible refine Kd.C_drewN ?_ _) | (with_reducible refine Kd.C_drew ?_) | exact HR380_0.out)) x10_3 p381 q381
          cases e381
          replace p381 := eq_true p381
          replace q381 := eq_true q381
          go_wp2
          go_ret
          exact ⟨by first | rfl | (simp [errW_none, errW_some] <;> rfl) | (simp [*, errW_none, errW_some] <;> rfl), by repeat (first | (with_reducible first | exact HB.out | apply below_alloc | apply pw_below_drewN | apply below_drew1 | refine below_set ?_ GE351.out) | exact HB.out)⟩
        rw [if_neg c58] at H
        have c58b0 : decide (x10_3 < (wrap64 (1 + (wrap64 (Int.tmod a0 20))))) = false := decide_eq_false c58
        clear c58
        replace H := Option.bind_eq_some_iff.mp H
        obtain ⟨t384, A710, H⟩ := H
        replace H : (some t384) = some r := H
        have A71 := Aside0.mk A710
        clear A710
        obtain rfl := Option.some.inj H
        go_wp2_with (first | ((with_reducible refine gate_callee (f := 10) rfl ?_); refine goesL_ (some 116) rfl rfl Try.func10 (by kernel_rfl) rfl #[] rfl (by (try simp only [List.map_toArray, List.map_cons, List.map_nil]); first | done | rfl | (simp only [List.length_drop, List.length_take]; rfl)) ?_; (with_reducible refine (marblerunlaw12_awake.calls k3  t384 _ A71.out).mono ?_); rintro e w72 ⟨rfl, hb⟩; refine ⟨_, rfl, ?_⟩; have n0_ := Aside0.mk (Kd.N_below (kq_N HO_6.out) hb); have n1_ := Aside0.mk (Kd.N_below (kq_N HO_8.out) hb); have n2_ := Aside0.mk (Kd.R_below (kq_R HO_352000.out) hb); have n3_ := Aside0.mk (Kd.N_below (kq_N HO_352001.out) hb); have n4_ := Aside0.mk (blk_below (g := gb351) (o := .cells #[.slice Ao38 x352000_1.length co38, .slice Ao39 x352001_1.length co39] 31 (0, 0)) (bkq BK351.out) hb); have n5_ := Aside0.mk (below_step (by repeat (first | (with_reducible first | exact HB.out | apply below_alloc | apply pw_below_drewN | apply below_drew1 | refine below_set ?_ GE351.out) | exact HB.out)) hb); clear HO_6; clear HO_8; clear HO_352000; clear HO_352001; clear BK351; clear HB; have HO_6 := n0_; have HO_8 := n1_; have HO_352000 := n2_; have HO_352001 := n3_; have BK351 := n4_; have HB := n5_; clear n0_ n1_ n2_ n3_ n4_ n5_; (try clear hb); (try clear hb2); (try clear hk); (try clear hi)))
        go_ret
        exact ⟨by first | rfl | (simp [errW_none, errW_some] <;> rfl) | (simp [*, errW_none, errW_some] <;> rfl), by repeat (first | (with_reducible first | exact HB.out | apply below_alloc | apply pw_below_drewN | apply below_drew1 | refine below_set ?_ GE351.out) | exact HB.out)⟩

/-- THE ONE PURE STATEMENT of marblerunlaw12_BasisRing: yours. -/
def marblerunlaw12_BasisRing.Pure : Prop := ∀ (a0 : Int), (Lit.int .u8 a0).wf = true → ∃ k, marblerunlaw12_BasisRing.f k a0 = some true
theorem marblerunlaw12_BasisRing.walk (P : marblerunlaw12_BasisRing.Pure) (a0 : Int) (w : World) (w0 : (Lit.int .u8 a0).wf = true) :
    Calls Try.prog 8 #[.int .u8 a0] w fun e w' => e = .returned (.bool true) ∧ Below w.heap.size w w' := by
  obtain ⟨k, h⟩ := P a0 w0
  refine (marblerunlaw12_BasisRing.calls k a0 true w h).mono ?_
  rintro e w' ⟨rfl, hd⟩
  exact ⟨rfl, hd⟩

end Go.Proofs.Ytifbflpaednfnaa.PBasisRing
