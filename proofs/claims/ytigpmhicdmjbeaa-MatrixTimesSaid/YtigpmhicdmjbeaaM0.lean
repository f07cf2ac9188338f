/- Plain facts on whole numbers of 64 bits, sums, products and greatest common divisors, without any program in sight. -/
import Derived.Test.YtigpmhicdmjbeaaWMore
import Derived.Laws.BitsLemmas
namespace Go.Proofs.Ytigpmhicdmjbeaa.M
open Go.RowKit Go.Proofs.YtigpmhicdmjbeaaW.PrintWords
/-- A number of 64 bits. -/
def I (x : Int) : Prop := -9223372036854775808 ≤ x ∧ x ≤ 9223372036854775807
instance (x : Int) : Decidable (I x) := by unfold I; infer_instance
theorem I_of_wf {x : Int} (h : (Lit.int .i64 x).wf = true) : I x := by
  simp [Lit.wf, IntKind.min, IntKind.max, IntKind.bits, IntKind.signed] at h
  unfold I; omega
theorem wrap_id {x : Int} (h : I x) : wrap64 x = x := by unfold I at h; unfold wrap64; omega
theorem wrap_I (x : Int) : I (wrap64 x) := by unfold wrap64 I; omega
theorem wrap_add {x : Int} {n : Nat} (h0 : 0 ≤ x) (h1 : x < (n : Int)) (hn : n ≤ 9223372036854775807) : wrap64 (x + 1) = x + 1 := wrap_id (by unfold I; omega)
theorem u64 (x : Int) : IntKind.u64.wrap x = x % 18446744073709551616 := by simp [IntKind.wrap, IntKind.bits, IntKind.signed]
theorem wraps_u64 (n : Int) (h₀ : 0 ≤ n) (h₁ : n < 2 ^ 64) : IntKind.u64.wrap n = n := by rw [u64]; omega
theorem and32 (x : Int) (h₀ : 0 ≤ x) (h₁ : x < 18446744073709551616) : bits .and .u64 x 4294967295 = x % 4294967296 :=
  bits_mask .u64 64 (by decide) wraps_u64 32 (by decide) x h₀ (by omega)
/-- What a number is without its sign. -/
def ab (x : Int) : Int := if x < 0 then -x else x
theorem ab_nat (x : Int) : ab x = (x.natAbs : Int) := by unfold ab; omega
/-- A sum that is a number of 64 bits, or none. -/
def addS (a b : Int) : Int × Bool := if I (a + b) then (a + b, true) else (0, false)
/-- A product likewise. -/
def mulS (a b : Int) : Int × Bool := if I (a * b) then (a * b, true) else (0, false)
/-- A sum of products likewise, from a first sum on. -/
def dotS : Int → List Int → List Int → Int × Bool
  | s, a :: xs, b :: ys => if I (a * b) then (if I (s + a * b) then dotS (s + a * b) xs ys else (0, false)) else (0, false)
  | s, _, _ => (s, true)
theorem hi_lo {x y p0 p1 q0 q1 : Int} (hx : x = p1 * 4294967296 + p0) (hy : y = q1 * 4294967296 + q0) :
    x * y = p1 * q1 * 18446744073709551616 + (p1 * q0 + p0 * q1) * 4294967296 + p0 * q0 := by
  subst hx hy; simp only [Int.add_mul, Int.mul_add]
  have e1 : p1 * 4294967296 * (q1 * 4294967296) = p1 * q1 * 18446744073709551616 := by
    rw [Int.mul_assoc, Int.mul_left_comm 4294967296, ← Int.mul_assoc]; rfl
  have e2 : p0 * (q1 * 4294967296) = p0 * q1 * 4294967296 := by rw [Int.mul_assoc]
  have e3 : p1 * 4294967296 * q0 = p1 * q0 * 4294967296 := by rw [Int.mul_assoc, Int.mul_comm 4294967296, ← Int.mul_assoc]
  rw [e1, e2, e3]; omega
theorem mul_le32 {x y : Int} (hx0 : 0 ≤ x) (hx : x ≤ 4294967295) (hy0 : 0 ≤ y) (hy : y ≤ 4294967295) : 0 ≤ x * y ∧ x * y ≤ 18446744065119617025 := by
  refine ⟨Int.mul_nonneg hx0 hy0, ?_⟩
  have := Int.mul_le_mul hx hy hy0 (by omega)
  omega
theorem rd_lt {xs : List Int} {i : Int} (h0 : 0 ≤ i) (h1 : i < (xs.length : Int)) : rd xs i = xs[i.toNat]'(by omega) := by
  unfold rd; rw [List.getD_eq_getElem?_getD, List.getElem?_eq_getElem (by omega)]; rfl
theorem rd_mem {xs : List Int} {i : Int} (h0 : 0 ≤ i) (h1 : i < (xs.length : Int)) : rd xs i ∈ xs := by rw [rd_lt h0 h1]; exact List.getElem_mem _
end Go.Proofs.Ytigpmhicdmjbeaa.M
