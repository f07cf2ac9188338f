/- The law of rings: each of the twenty rings is worked out. -/
import Derived.Test.YtifbflpaednfnaaPBasisRingx
import Derived.Laws.BitsLemmas
import Derived.KernelRfl
set_option linter.unusedVariables false
set_option linter.unusedSimpArgs false
namespace Go.Proofs.Ytifbflpaednfnaa.M
open Go.RowKit Go.Proofs.YtifbflpaednfnaaW.PrintWords
/-- A number of 64 bits. -/
def I (x : Int) : Prop := -9223372036854775808 ≤ x ∧ x ≤ 9223372036854775807
instance (x : Int) : Decidable (I x) := by unfold I; infer_instance
theorem I_of_wf {x : Int} (h : (Lit.int .i64 x).wf = true) : I x := by
  simp [Lit.wf, IntKind.min, IntKind.max, IntKind.bits, IntKind.signed] at h
  unfold I; omega
theorem wrap_id {x : Int} (h : I x) : wrap64 x = x := by unfold I at h; unfold wrap64; omega
theorem wrap_I (x : Int) : I (wrap64 x) := by unfold wrap64 I; omega
theorem wrap_add {x : Int} {n : Nat} (h0 : 0 ≤ x) (h1 : x < (n : Int)) (hn : n ≤ 9223372036854775807) : wrap64 (x + 1) = x + 1 := wrap_id (by unfold I; omega)
theorem u64 (x : Int) : IntKind.u64.wrap x = x % 18446744073709551616 := by simp [IntKind.wrap, IntKind.bits, IntKind.signed]
theorem wraps_u64 (n : Int) (h₀ : 0 ≤ n) (h₁ : n < 2 ^ 64) : IntKind.u64.wrap n = n := by rw [u64]; omega
theorem and32 (x : Int) (h₀ : 0 ≤ x) (h₁ : x < 18446744073709551616) : bits .and .u64 x 4294967295 = x % 4294967296 :=
  bits_mask .u64 64 (by decide) wraps_u64 32 (by decide) x h₀ (by omega)
/-- What a number is without its sign. -/
def ab (x : Int) : Int := if x < 0 then -x else x
theorem ab_nat (x : Int) : ab x = (x.natAbs : Int) := by unfold ab; omega
/-- A sum that is a number of 64 bits, or none. -/
def addS (a b : Int) : Int × Bool := if I (a + b) then (a + b, true) else (0, false)
/-- A product likewise. -/
def mulS (a b : Int) : Int × Bool := if I (a * b) then (a * b, true) else (0, false)
/-- A sum of products likewise, from a first sum on. -/
def dotS : Int → List Int → List Int → Int × Bool
  | s, a :: xs, b :: ys => if I (a * b) then (if I (s + a * b) then dotS (s + a * b) xs ys else (0, false)) else (0, false)
  | s, _, _ => (s, true)
theorem hi_lo {x y p0 p1 q0 q1 : Int} (hx : x = p1 * 4294967296 + p0) (hy : y = q1 * 4294967296 + q0) :
    x * y = p1 * q1 * 18446744073709551616 + (p1 * q0 + p0 * q1) * 4294967296 + p0 * q0 := by
  subst hx hy; simp only [Int.add_mul, Int.mul_add]
  have e1 : p1 * 4294967296 * (q1 * 4294967296) = p1 * q1 * 18446744073709551616 := by
    rw [Int.mul_assoc, Int.mul_left_comm 4294967296, ← Int.mul_assoc]; rfl
  have e2 : p0 * (q1 * 4294967296) = p0 * q1 * 4294967296 := by rw [Int.mul_assoc]
  have e3 : p1 * 4294967296 * q0 = p1 * q0 * 4294967296 := by rw [Int.mul_assoc, Int.mul_comm 4294967296, ← Int.mul_assoc]
  rw [e1, e2, e3]; omega
theorem mul_le32 {x y : Int} (hx0 : 0 ≤ x) (hx : x ≤ 4294967295) (hy0 : 0 ≤ y) (hy : y ≤ 4294967295) : 0 ≤ x * y ∧ x * y ≤ 18446744065119617025 := by
  refine ⟨Int.mul_nonneg hx0 hy0, ?_⟩
  have := Int.mul_le_mul hx hy hy0 (by omega)
  omega
theorem rd_lt {xs : List Int} {i : Int} (h0 : 0 ≤ i) (h1 : i < (xs.length : Int)) : rd xs i = xs[i.toNat]'(by omega) := by
  unfold rd; rw [List.getD_eq_getElem?_getD, List.getElem?_eq_getElem (by omega)]; rfl
theorem rd_mem {xs : List Int} {i : Int} (h0 : 0 ≤ i) (h1 : i < (xs.length : Int)) : rd xs i ∈ xs := by rw [rd_lt h0 h1]; exact List.getElem_mem _
end Go.Proofs.Ytifbflpaednfnaa.M

namespace Go.Proofs.Ytifbflpaednfnaa.M
open Go.RowKit Go.Proofs.YtifbflpaednfnaaW.PrintWords
/-- A number of 64 bits above the least one. -/
def J (x : Int) : Prop := -9223372036854775807 ≤ x ∧ x ≤ 9223372036854775807
theorem J.i {x : Int} (h : J x) : I x := by unfold J at h; unfold I; omega
theorem J.nat {x : Int} (h : J x) : x.natAbs ≤ 9223372036854775807 := by unfold J at h; omega
/-- The greatest common divisor of g and all of a list. -/
def gl (g : Nat) (l : List Int) : Nat := l.foldl (fun g x => Nat.gcd g x.natAbs) g
theorem gl_cons (g : Nat) (x : Int) (l : List Int) : gl g (x :: l) = gl (Nat.gcd g x.natAbs) l := rfl
theorem gl_append (g : Nat) (l m : List Int) : gl g (l ++ m) = gl (gl g l) m := by unfold gl; rw [List.foldl_append]
theorem gl_gcd (l : List Int) : ∀ g, gl g l = Nat.gcd g (gl 0 l) := by
  induction l with
  | nil => intro g; simp [gl]
  | cons x l ih => intro g; rw [gl_cons, gl_cons, ih, ih (Nat.gcd 0 _), Nat.gcd_zero_left, Nat.gcd_assoc]
theorem gl_dvd (l : List Int) : ∀ x ∈ l, (gl 0 l) ∣ x.natAbs := by
  induction l with
  | nil => intro x h; simp at h
  | cons a l ih =>
    intro x h
    rw [gl_cons, gl_gcd, Nat.gcd_zero_left]
    rcases List.mem_cons.1 h with rfl | h
    · exact Nat.gcd_dvd_left _ _
    · exact Nat.dvd_trans (Nat.gcd_dvd_right _ _) (ih x h)
theorem gl_le (l : List Int) (h : ∀ x ∈ l, J x) : ∀ g, g ≤ 9223372036854775807 → gl g l ≤ 9223372036854775807 := by
  induction l with
  | nil => intro g hg; exact hg
  | cons a l ih =>
    intro g hg
    rw [gl_cons]
    refine ih (fun x hx => h x (List.mem_cons_of_mem _ hx)) _ ?_
    have ha := (h a (List.mem_cons_self ..)).nat
    rcases Nat.eq_zero_or_pos g with e | e
    · subst e; rw [Nat.gcd_zero_left]; exact ha
    · exact Nat.le_trans (Nat.gcd_le_left _ e) hg
theorem gl_mul (c : Nat) (l : List Int) : ∀ g, gl (c * g) (l.map fun x => (c : Int) * x) = c * gl g l := by
  induction l with
  | nil => intro g; rfl
  | cons a l ih =>
    intro g
    rw [List.map_cons, gl_cons, gl_cons, Int.natAbs_mul, Int.natAbs_natCast, Nat.gcd_mul_left, ih]
theorem gl_neg (l : List Int) : ∀ g, gl g (l.map fun x => -x) = gl g l := by
  induction l with
  | nil => intro g; rfl
  | cons a l ih => intro g; rw [List.map_cons, gl_cons, gl_cons, Int.natAbs_neg, ih]
/-- A vector by the greatest number that all have. -/
def normS (l : List Int) : List Int := if 1 < gl 0 l then l.map (fun x => Int.tdiv x (gl 0 l : Int)) else l
theorem normS_length (l : List Int) : (normS l).length = l.length := by unfold normS; split <;> simp
theorem back_of (l : List Int) : (normS l).map (fun x => (gl 0 l : Int) * x) = if 0 < gl 0 l then l else l.map (fun _ => 0) := by
  unfold normS
  split
  · rename_i h
    rw [if_pos (by omega), List.map_map]
    conv => rhs; rw [← List.map_id l]
    refine List.map_congr_left fun x hx => ?_
    have hd : (gl 0 l : Int) ∣ x := Int.ofNat_dvd_left.2 (gl_dvd l x hx)
    simp only [Function.comp, id]
    exact Int.mul_tdiv_cancel' hd
  · rename_i h
    split
    · have e : gl 0 l = 1 := by omega
      rw [e]; simp
    · have e : gl 0 l = 0 := by omega
      rw [e]; simp
theorem zero_of {l : List Int} (h : gl 0 l = 0) : ∀ x ∈ l, x = 0 := by
  intro x hx
  have := gl_dvd l x hx
  rw [h] at this
  have := Nat.eq_zero_of_zero_dvd this
  omega
/-- The vector so made has nothing more. -/
theorem gl_norm (l : List Int) (hp : 0 < gl 0 l) : gl 0 (normS l) = 1 := by
  have h1 := gl_mul (gl 0 l) (normS l) 0
  rw [back_of, if_pos hp, Nat.mul_zero] at h1
  have h2 : gl 0 l * 1 = gl 0 l * gl 0 (normS l) := by rw [Nat.mul_one]; exact h1
  exact (Nat.eq_of_mul_eq_mul_left hp h2).symm
theorem gl_norm_le (l : List Int) : gl 0 (normS l) ≤ 1 := by
  rcases Nat.eq_zero_or_pos (gl 0 l) with e | e
  · unfold normS; rw [if_neg (by omega), e]; omega
  · rw [gl_norm l e]; omega
theorem normS_idem (l : List Int) : normS (normS l) = normS l := by
  have h := gl_norm_le l
  generalize hm : normS l = m at *
  unfold normS; rw [if_neg (by omega)]
theorem tdiv_J {x : Int} {g : Nat} (h : J x) : J (Int.tdiv x (g : Int)) := by
  have h1 : (Int.tdiv x (g : Int)).natAbs ≤ x.natAbs := by
    rw [Int.natAbs_tdiv]; exact Nat.div_le_self _ _
  unfold J at *; omega
theorem normS_J {l : List Int} (h : ∀ x ∈ l, J x) : ∀ x ∈ normS l, J x := by
  unfold normS
  split
  · intro x hx
    obtain ⟨y, hy, rfl⟩ := List.mem_map.1 hx
    exact tdiv_J (h y hy)
  · exact h
theorem normS_neg (l : List Int) : normS (l.map fun x => -x) = (normS l).map fun x => -x := by
  unfold normS
  rw [gl_neg]
  split
  · simp only [List.map_map]
    refine List.map_congr_left fun x _ => ?_
    simp only [Function.comp, Int.neg_tdiv]
  · rfl
end Go.Proofs.Ytifbflpaednfnaa.M

namespace Go.Proofs.Ytifbflpaednfnaa.Pure
open Go.RowKit Go.Proofs.Ytifbflpaednfnaa.PBasisRing Go.Proofs.YtifbflpaednfnaaW.PrintWords Go.Proofs.YtifbflpaednfnaaW.PrintLast Go.Proofs.YtifbflpaednfnaaW.PrintMore Go.Proofs.Ytifbflpaednfnaa.M
/-- What the law answers of a ring of m + 1 places. -/
def ringOk (m : Nat) : Bool := decide (marblerunlaw12_BasisRing.l0 1500 ((m + 1 : Nat) : Int) 0 [] [] = some true)
theorem ring_a : ((List.range 10).all ringOk) = true := by kernel_rfl
theorem ring_b : (([10, 11, 12, 13] : List Nat).all ringOk) = true := by kernel_rfl
theorem ring_c : (([14, 15] : List Nat).all ringOk) = true := by kernel_rfl
theorem ring_d : (([16, 17] : List Nat).all ringOk) = true := by kernel_rfl
theorem ring_e : ringOk 18 = true := by kernel_rfl
theorem ring_f : ringOk 19 = true := by kernel_rfl
theorem ring_all {m : Nat} (h : m < 20) : ringOk m = true := by
  rcases Nat.lt_or_ge m 10 with h1 | h1
  · exact List.all_eq_true.1 ring_a m (List.mem_range.2 h1)
  · have : m = 10 ∨ m = 11 ∨ m = 12 ∨ m = 13 ∨ m = 14 ∨ m = 15 ∨ m = 16 ∨ m = 17 ∨ m = 18 ∨ m = 19 := by omega
    rcases this with rfl | rfl | rfl | rfl | rfl | rfl | rfl | rfl | rfl | rfl
    · exact List.all_eq_true.1 ring_b 10 (by decide)
    · exact List.all_eq_true.1 ring_b 11 (by decide)
    · exact List.all_eq_true.1 ring_b 12 (by decide)
    · exact List.all_eq_true.1 ring_b 13 (by decide)
    · exact List.all_eq_true.1 ring_c 14 (by decide)
    · exact List.all_eq_true.1 ring_c 15 (by decide)
    · exact List.all_eq_true.1 ring_d 16 (by decide)
    · exact List.all_eq_true.1 ring_d 17 (by decide)
    · exact ring_e
    · exact ring_f
theorem BasisRing : marblerunlaw12_BasisRing.Pure := by
  intro a h
  have hb : 0 ≤ a ∧ a ≤ 255 := by
    simp [Lit.wf, IntKind.min, IntKind.max, IntKind.bits, IntKind.signed] at h
    omega
  obtain ⟨m, hm⟩ : ∃ m : Nat, a % 20 = (m : Int) := ⟨(a % 20).toNat, by omega⟩
  have e : wrap64 (1 + wrap64 (Int.tmod a 20)) = ((m + 1 : Nat) : Int) := by
    rw [Int.tmod_eq_emod_of_nonneg hb.1, hm, wrap_id (x := (m : Int)) (by unfold I; omega), wrap_id (x := 1 + (m : Int)) (by unfold I; omega)]
    omega
  refine ⟨1500, ?_⟩
  unfold marblerunlaw12_BasisRing.f
  rw [e]
  exact of_decide_eq_true (ring_all (m := m) (by omega))
end Go.Proofs.Ytifbflpaednfnaa.Pure
