/- The law MatrixZeros is proved: for every slice of ints and every byte the call answers true; no condition. -/
import Derived.Test.YtigpmhicdmjbeaaM1
import Derived.Test.YtigpmhicdmjbeaaPMatrixZerosx3
import Derived.KernelRfl
namespace Go.Proofs.Ytigpmhicdmjbeaa.Pure
open Go.RowKit Go.Proofs.Ytigpmhicdmjbeaa.PMatrixZeros Go.Proofs.YtigpmhicdmjbeaaW.PrintWords Go.Proofs.YtigpmhicdmjbeaaW.PrintLast Go.Proofs.YtigpmhicdmjbeaaW.PrintMore Go.Proofs.Ytigpmhicdmjbeaa.M
theorem drop_cons {l : List Int} {i : Nat} (h : i < l.length) : l.drop i = rd l (i : Int) :: l.drop (i + 1) := by
  rw [List.drop_eq_getElem_cons h, rd_lt (by omega) (by omega)]; rfl

theorem zero_loop (l : List Int) (hb : l.length ≤ 9223372036854775806) (d : Nat) : ∀ i : Nat, l.length = i + d → Ev (fun k => matrix_Zero.l0 k l (l.length : Int) (i : Int)) ((l.drop i).all (· == 0)) := by
  induction d with
  | zero =>
    intro i hi
    rw [List.drop_eq_nil_of_le (by omega)]
    exact Ev.step (f := fun _ => some true) (fun k => by simp only [matrix_Zero.l0]; rw [if_neg (by omega)]) (Ev.now _)
  | succ d ih =>
    intro i hi
    rw [drop_cons (l := l) (i := i) (by omega), List.all_cons]
    by_cases h : rd l (i : Int) = 0
    · rw [show (rd l (i : Int) == 0) = true by rw [h]; rfl, Bool.true_and]
      refine Ev.step (f := fun k => matrix_Zero.l0 k l (l.length : Int) ((i + 1 : Nat) : Int)) (fun k => ?_) (ih (i + 1) (by omega))
      simp only [matrix_Zero.l0]
      rw [if_pos (by omega), if_pos (by omega), if_pos (by omega), if_pos h, wrap_add (n := l.length) (by omega) (by omega) (by omega)]
      rfl
    · rw [show (rd l (i : Int) == 0) = false from beq_eq_false_iff_ne.2 h, Bool.false_and]
      refine Ev.step (f := fun _ => some false) (fun k => ?_) (Ev.now _)
      simp only [matrix_Zero.l0]
      rw [if_pos (by omega), if_pos (by omega), if_pos (by omega), if_neg h]
theorem zero_ev (l : List Int) (hb : l.length ≤ 9223372036854775806) : Ev (fun k => matrix_Zero.f k l) (l.all (· == 0)) := by
  have h := zero_loop l hb l.length 0 (by simp)
  unfold matrix_Zero.f
  simpa using h

theorem awake_ev : Ev (fun k => marblerunlaw11_awake.f k) true := Ev.of (k := 40) marblerunlaw11_awake.mono (by kernel_rfl)

theorem zeros_tail (a : Int) (ha : 0 ≤ a ∧ a ≤ 255) : Ev (fun k => marblerunlaw11_MatrixZeros.j2 k a (List.replicate (Int.tmod a 9).toNat 0) false) true := by
  have hn : Int.tmod a 9 = a % 9 := Int.tmod_eq_emod_of_nonneg (by omega)
  rw [hn]
  obtain ⟨n, hnn⟩ : ∃ n, n = (a % 9).toNat := ⟨_, rfl⟩
  rw [← hnn]
  by_cases h0 : n = 0
  · subst h0
    exact Ev.step (f := fun _ => some true) (fun k => by simp [marblerunlaw11_MatrixZeros.j2]) (Ev.now _)
  · have hw : wrap64 a = a := wrap_id (by unfold I; omega)
    have ht : Int.tmod a (n : Int) = a % (n : Int) := Int.tmod_eq_emod_of_nonneg (by omega)
    have h1 : 0 ≤ a % (n : Int) := Int.emod_nonneg _ (by omega)
    have h2 : a % (n : Int) < (n : Int) := Int.emod_lt_of_pos _ (by omega)
    have hz := zero_ev ((List.replicate n (0 : Int)).set (a % (n : Int)).toNat (-1)) (by simp; omega)
    have hv : ((List.replicate n (0 : Int)).set (a % (n : Int)).toNat (-1)).all (· == 0) = false := by
      rw [List.all_eq_false]
      exact ⟨-1, List.mem_set (by simp; omega) _, by simp⟩
    rw [hv] at hz
    refine Ev.step (f := fun k => (matrix_Zero.f k ((List.replicate n (0 : Int)).set (a % (n : Int)).toNat (-1))).bind fun t => some (!t)) (fun k => ?_) (Ev.bind hz (Ev.now _))
    simp only [marblerunlaw11_MatrixZeros.j2, Bool.false_eq_true, if_false, List.length_replicate, hw, ht]
    rw [if_pos (by omega), if_neg (by omega), if_pos h1, if_pos h2]
theorem zeros_loop (l : List Int) (hl : l.length ≤ 20) (a : Int) (ha : 0 ≤ a ∧ a ≤ 255) (d : Nat) :
    ∀ i : Nat, l.length = i + d → Ev (fun k => marblerunlaw11_MatrixZeros.l0 k l a ((l.take i).all (· == 0)) (i : Int)) true := by
  induction d with
  | zero =>
    intro i hi
    rw [List.take_of_length_le (by omega)]
    have hn : wrap64 (Int.tmod a 9) = Int.tmod a 9 := by
      rw [Int.tmod_eq_emod_of_nonneg (by omega)]; exact wrap_id (by unfold I; omega)
    have hn0 : 0 ≤ Int.tmod a 9 ∧ (Int.tmod a 9).toNat ≤ 8 := by
      rw [Int.tmod_eq_emod_of_nonneg (by omega)]; omega
    have e1 := zero_ev l (by omega)
    have e2 := zero_ev (List.replicate (Int.tmod a 9).toNat (0 : Int)) (by simp; omega)
    have e3 := zero_ev ([] : List Int) (by simp)
    rw [show (List.replicate (Int.tmod a 9).toNat (0 : Int)).all (· == 0) = true by
      rw [List.all_eq_true]; intro x hx; rw [List.mem_replicate] at hx; simp [hx.2]] at e2
    rw [show ([] : List Int).all (· == 0) = true from rfl] at e3
    refine Ev.step (f := fun k => (matrix_Zero.f k l).bind fun t => (if (t != l.all (· == 0)) = true then (marblerunlaw11_MatrixZeros.j2 k a (List.replicate (Int.tmod a 9).toNat 0) true) else ((matrix_Zero.f k (List.replicate (Int.tmod a 9).toNat 0)).bind fun t2 => (if t2 = true then ((matrix_Zero.f k ([] : List Int)).bind fun t3 => (marblerunlaw11_MatrixZeros.j2 k a (List.replicate (Int.tmod a 9).toNat 0) (!t3))) else (marblerunlaw11_MatrixZeros.j2 k a (List.replicate (Int.tmod a 9).toNat 0) true))))) (fun k => ?_) ?_
    · simp only [marblerunlaw11_MatrixZeros.l0]
      rw [if_neg (by omega), hn, if_pos hn0.1, if_pos (by omega)]
      rfl
    · refine Ev.bind e1 ?_
      simp only [bne_self_eq_false, Bool.false_eq_true, if_false]
      refine Ev.bind e2 ?_
      simp only [if_true]
      exact Ev.bind e3 (zeros_tail a ha)
  | succ d ih =>
    intro i hi
    have ew : wrap64 ((i : Int) + 1) = ((i + 1 : Nat) : Int) := by rw [wrap_add (n := l.length) (by omega) (by omega) (by omega)]; rfl
    have et : (l.take (i + 1)).all (· == 0) = ((l.take i).all (· == 0) && (rd l (i : Int) == 0)) := by
      rw [List.take_succ_eq_append_getElem (by omega), List.all_append, rd_lt (by omega) (by omega)]
      simp
    have hn := ih (i + 1) (by omega)
    rw [et] at hn
    refine Ev.step (f := fun k => marblerunlaw11_MatrixZeros.l0 k l a ((l.take i).all (· == 0) && (rd l (i : Int) == 0)) ((i + 1 : Nat) : Int)) (fun k => ?_) hn
    simp only [marblerunlaw11_MatrixZeros.l0]
    rw [if_pos (by omega), ew]
    cases (l.take i).all (· == 0) with
    | true => rw [if_pos rfl, if_pos (by omega), Bool.true_and]
    | false => rw [if_neg (by simp), Bool.false_and]
theorem MatrixZeros : marblerunlaw11_MatrixZeros.Pure := by
  intro l a _ _ wl wa
  have ha : 0 ≤ a ∧ a ≤ 255 := by
    simp [Lit.wf, IntKind.min, IntKind.max, IntKind.bits, IntKind.signed] at wa; omega
  refine Ev.rounds (g := fun k => marblerunlaw11_MatrixZeros.f k l a) ?_
  unfold marblerunlaw11_MatrixZeros.f
  refine Ev.bind awake_ev ?_
  simp only [if_true]
  by_cases hl : (l.length : Int) > 20
  · rw [decide_eq_true hl]
    refine Ev.step (f := fun k => (marblerunlaw11_awake.f k).bind fun t => some t) (fun k => by simp [marblerunlaw11_MatrixZeros.j0]) ?_
    exact Ev.bind awake_ev (Ev.now _)
  · rw [decide_eq_false hl]
    refine Ev.step (f := fun k => marblerunlaw11_MatrixZeros.l0 k l a true 0) (fun k => by simp [marblerunlaw11_MatrixZeros.j0]) ?_
    have := zeros_loop l (by omega) a ha l.length 0 (by simp)
    simpa using this
end Go.Proofs.Ytigpmhicdmjbeaa.Pure
