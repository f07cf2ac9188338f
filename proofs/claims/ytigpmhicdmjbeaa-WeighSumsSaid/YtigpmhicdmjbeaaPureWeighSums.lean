/- Along with the functions that WeighSums reaches: what their plain forms answer -/
import Derived.Test.YtigpmhicdmjbeaaPWeighSumsx5
import Derived.Laws.BitsLemmas
import Derived.KernelRfl
set_option linter.unusedVariables false
set_option linter.unusedSimpArgs false
namespace Go.Proofs.Ytigpmhicdmjbeaa.M
open Go.RowKit Go.Proofs.YtigpmhicdmjbeaaW.PrintWords
/-- A number of 64 bits. -/
def I (x : Int) : Prop := -9223372036854775808 ≤ x ∧ x ≤ 9223372036854775807
instance (x : Int) : Decidable (I x) := by unfold I; infer_instance
theorem I_of_wf {x : Int} (h : (Lit.int .i64 x).wf = true) : I x := by
  simp [Lit.wf, IntKind.min, IntKind.max, IntKind.bits, IntKind.signed] at h
  unfold I; omega
theorem wrap_id {x : Int} (h : I x) : wrap64 x = x := by unfold I at h; unfold wrap64; omega
theorem wrap_I (x : Int) : I (wrap64 x) := by unfold wrap64 I; omega
theorem wrap_add {x : Int} {n : Nat} (h0 : 0 ≤ x) (h1 : x < (n : Int)) (hn : n ≤ 9223372036854775807) : wrap64 (x + 1) = x + 1 := wrap_id (by unfold I; omega)
theorem u64 (x : Int) : IntKind.u64.wrap x = x % 18446744073709551616 := by simp [IntKind.wrap, IntKind.bits, IntKind.signed]
theorem wraps_u64 (n : Int) (h₀ : 0 ≤ n) (h₁ : n < 2 ^ 64) : IntKind.u64.wrap n = n := by rw [u64]; omega
theorem and32 (x : Int) (h₀ : 0 ≤ x) (h₁ : x < 18446744073709551616) : bits .and .u64 x 4294967295 = x % 4294967296 :=
  bits_mask .u64 64 (by decide) wraps_u64 32 (by decide) x h₀ (by omega)
/-- What a number is without its sign. -/
def ab (x : Int) : Int := if x < 0 then -x else x
theorem ab_nat (x : Int) : ab x = (x.natAbs : Int) := by unfold ab; omega
/-- A sum that is a number of 64 bits, or none. -/
def addS (a b : Int) : Int × Bool := if I (a + b) then (a + b, true) else (0, false)
/-- A product likewise. -/
def mulS (a b : Int) : Int × Bool := if I (a * b) then (a * b, true) else (0, false)
/-- A sum of products likewise, from a first sum on. -/
def dotS : Int → List Int → List Int → Int × Bool
  | s, a :: xs, b :: ys => if I (a * b) then (if I (s + a * b) then dotS (s + a * b) xs ys else (0, false)) else (0, false)
  | s, _, _ => (s, true)
theorem hi_lo {x y p0 p1 q0 q1 : Int} (hx : x = p1 * 4294967296 + p0) (hy : y = q1 * 4294967296 + q0) :
    x * y = p1 * q1 * 18446744073709551616 + (p1 * q0 + p0 * q1) * 4294967296 + p0 * q0 := by
  subst hx hy; simp only [Int.add_mul, Int.mul_add]
  have e1 : p1 * 4294967296 * (q1 * 4294967296) = p1 * q1 * 18446744073709551616 := by
    rw [Int.mul_assoc, Int.mul_left_comm 4294967296, ← Int.mul_assoc]; rfl
  have e2 : p0 * (q1 * 4294967296) = p0 * q1 * 4294967296 := by rw [Int.mul_assoc]
  have e3 : p1 * 4294967296 * q0 = p1 * q0 * 4294967296 := by rw [Int.mul_assoc, Int.mul_comm 4294967296, ← Int.mul_assoc]
  rw [e1, e2, e3]; omega
theorem mul_le32 {x y : Int} (hx0 : 0 ≤ x) (hx : x ≤ 4294967295) (hy0 : 0 ≤ y) (hy : y ≤ 4294967295) : 0 ≤ x * y ∧ x * y ≤ 18446744065119617025 := by
  refine ⟨Int.mul_nonneg hx0 hy0, ?_⟩
  have := Int.mul_le_mul hx hy hy0 (by omega)
  omega
theorem rd_lt {xs : List Int} {i : Int} (h0 : 0 ≤ i) (h1 : i < (xs.length : Int)) : rd xs i = xs[i.toNat]'(by omega) := by
  unfold rd; rw [List.getD_eq_getElem?_getD, List.getElem?_eq_getElem (by omega)]; rfl
theorem rd_mem {xs : List Int} {i : Int} (h0 : 0 ≤ i) (h1 : i < (xs.length : Int)) : rd xs i ∈ xs := by rw [rd_lt h0 h1]; exact List.getElem_mem _
end Go.Proofs.Ytigpmhicdmjbeaa.M

namespace Go.Proofs.Ytigpmhicdmjbeaa.M
open Go.RowKit Go.Proofs.YtigpmhicdmjbeaaW.PrintWords
/-- A number of 64 bits above the least one. -/
def J (x : Int) : Prop := -9223372036854775807 ≤ x ∧ x ≤ 9223372036854775807
theorem J.i {x : Int} (h : J x) : I x := by unfold J at h; unfold I; omega
theorem J.nat {x : Int} (h : J x) : x.natAbs ≤ 9223372036854775807 := by unfold J at h; omega
/-- The greatest common divisor of g and all of a list. -/
def gl (g : Nat) (l : List Int) : Nat := l.foldl (fun g x => Nat.gcd g x.natAbs) g
theorem gl_cons (g : Nat) (x : Int) (l : List Int) : gl g (x :: l) = gl (Nat.gcd g x.natAbs) l := rfl
theorem gl_append (g : Nat) (l m : List Int) : gl g (l ++ m) = gl (gl g l) m := by unfold gl; rw [List.foldl_append]
theorem gl_gcd (l : List Int) : ∀ g, gl g l = Nat.gcd g (gl 0 l) := by
  induction l with
  | nil => intro g; simp [gl]
  | cons x l ih => intro g; rw [gl_cons, gl_cons, ih, ih (Nat.gcd 0 _), Nat.gcd_zero_left, Nat.gcd_assoc]
theorem gl_dvd (l : List Int) : ∀ x ∈ l, (gl 0 l) ∣ x.natAbs := by
  induction l with
  | nil => intro x h; simp at h
  | cons a l ih =>
    intro x h
    rw [gl_cons, gl_gcd, Nat.gcd_zero_left]
    rcases List.mem_cons.1 h with rfl | h
    · exact Nat.gcd_dvd_left _ _
    · exact Nat.dvd_trans (Nat.gcd_dvd_right _ _) (ih x h)
theorem gl_le (l : List Int) (h : ∀ x ∈ l, J x) : ∀ g, g ≤ 9223372036854775807 → gl g l ≤ 9223372036854775807 := by
  induction l with
  | nil => intro g hg; exact hg
  | cons a l ih =>
    intro g hg
    rw [gl_cons]
    refine ih (fun x hx => h x (List.mem_cons_of_mem _ hx)) _ ?_
    have ha := (h a (List.mem_cons_self ..)).nat
    rcases Nat.eq_zero_or_pos g with e | e
    · subst e; rw [Nat.gcd_zero_left]; exact ha
    · exact Nat.le_trans (Nat.gcd_le_left _ e) hg
theorem gl_mul (c : Nat) (l : List Int) : ∀ g, gl (c * g) (l.map fun x => (c : Int) * x) = c * gl g l := by
  induction l with
  | nil => intro g; rfl
  | cons a l ih =>
    intro g
    rw [List.map_cons, gl_cons, gl_cons, Int.natAbs_mul, Int.natAbs_natCast, Nat.gcd_mul_left, ih]
theorem gl_neg (l : List Int) : ∀ g, gl g (l.map fun x => -x) = gl g l := by
  induction l with
  | nil => intro g; rfl
  | cons a l ih => intro g; rw [List.map_cons, gl_cons, gl_cons, Int.natAbs_neg, ih]
/-- A vector by the greatest number that all have. -/
def normS (l : List Int) : List Int := if 1 < gl 0 l then l.map (fun x => Int.tdiv x (gl 0 l : Int)) else l
theorem normS_length (l : List Int) : (normS l).length = l.length := by unfold normS; split <;> simp
theorem back_of (l : List Int) : (normS l).map (fun x => (gl 0 l : Int) * x) = if 0 < gl 0 l then l else l.map (fun _ => 0) := by
  unfold normS
  split
  · rename_i h
    rw [if_pos (by omega), List.map_map]
    conv => rhs; rw [← List.map_id l]
    refine List.map_congr_left fun x hx => ?_
    have hd : (gl 0 l : Int) ∣ x := Int.ofNat_dvd_left.2 (gl_dvd l x hx)
    simp only [Function.comp, id]
    exact Int.mul_tdiv_cancel' hd
  · rename_i h
    split
    · have e : gl 0 l = 1 := by omega
      rw [e]; simp
    · have e : gl 0 l = 0 := by omega
      rw [e]; simp
theorem zero_of {l : List Int} (h : gl 0 l = 0) : ∀ x ∈ l, x = 0 := by
  intro x hx
  have := gl_dvd l x hx
  rw [h] at this
  have := Nat.eq_zero_of_zero_dvd this
  omega
/-- The vector so made has nothing more. -/
theorem gl_norm (l : List Int) (hp : 0 < gl 0 l) : gl 0 (normS l) = 1 := by
  have h1 := gl_mul (gl 0 l) (normS l) 0
  rw [back_of, if_pos hp, Nat.mul_zero] at h1
  have h2 : gl 0 l * 1 = gl 0 l * gl 0 (normS l) := by rw [Nat.mul_one]; exact h1
  exact (Nat.eq_of_mul_eq_mul_left hp h2).symm
theorem gl_norm_le (l : List Int) : gl 0 (normS l) ≤ 1 := by
  rcases Nat.eq_zero_or_pos (gl 0 l) with e | e
  · unfold normS; rw [if_neg (by omega), e]; omega
  · rw [gl_norm l e]; omega
theorem normS_idem (l : List Int) : normS (normS l) = normS l := by
  have h := gl_norm_le l
  generalize hm : normS l = m at *
  unfold normS; rw [if_neg (by omega)]
theorem tdiv_J {x : Int} {g : Nat} (h : J x) : J (Int.tdiv x (g : Int)) := by
  have h1 : (Int.tdiv x (g : Int)).natAbs ≤ x.natAbs := by
    rw [Int.natAbs_tdiv]; exact Nat.div_le_self _ _
  unfold J at *; omega
theorem normS_J {l : List Int} (h : ∀ x ∈ l, J x) : ∀ x ∈ normS l, J x := by
  unfold normS
  split
  · intro x hx
    obtain ⟨y, hy, rfl⟩ := List.mem_map.1 hx
    exact tdiv_J (h y hy)
  · exact h
theorem normS_neg (l : List Int) : normS (l.map fun x => -x) = (normS l).map fun x => -x := by
  unfold normS
  rw [gl_neg]
  split
  · simp only [List.map_map]
    refine List.map_congr_left fun x _ => ?_
    simp only [Function.comp, Int.neg_tdiv]
  · rfl
end Go.Proofs.Ytigpmhicdmjbeaa.M

namespace Go.Proofs.Ytigpmhicdmjbeaa.Pure
open Go.RowKit Go.Proofs.Ytigpmhicdmjbeaa.PWeighSums Go.Proofs.YtigpmhicdmjbeaaW.PrintWords Go.Proofs.YtigpmhicdmjbeaaW.PrintLast Go.Proofs.YtigpmhicdmjbeaaW.PrintMore Go.Proofs.Ytigpmhicdmjbeaa.M
theorem size_is {a : Int} (h : I a) : whole_size.f a = some (ab a) := by
  unfold I at h
  unfold whole_size.f ab
  simp only [u64]
  split
  · rw [show (-(a % 18446744073709551616)) % 18446744073709551616 = -a by omega]
  · rw [show a % 18446744073709551616 = a by omega]

theorem mul64_is {x y : Int} (hx0 : 0 ≤ x) (hx : x < 18446744073709551616) (hy0 : 0 ≤ y) (hy : y < 18446744073709551616) :
    bits_Mul64.f x y = some (x * y / 18446744073709551616, x * y % 18446744073709551616) := by
  unfold bits_Mul64.f
  rw [and32 y hy0 hy, and32 x hx0 hx]
  obtain ⟨x1, hx1⟩ : ∃ z, z = x / 4294967296 := ⟨_, rfl⟩
  obtain ⟨x0, hx0'⟩ : ∃ z, z = x % 4294967296 := ⟨_, rfl⟩
  obtain ⟨y1, hy1⟩ : ∃ z, z = y / 4294967296 := ⟨_, rfl⟩
  obtain ⟨y0, hy0'⟩ : ∃ z, z = y % 4294967296 := ⟨_, rfl⟩
  rw [← hx1, ← hx0', ← hy1, ← hy0']
  have e := hi_lo (x := x) (y := y) (p0 := x0) (p1 := x1) (q0 := y0) (q1 := y1) (by omega) (by omega)
  have b11 := mul_le32 (x := x1) (y := y1) (by omega) (by omega) (by omega) (by omega)
  have b10 := mul_le32 (x := x1) (y := y0) (by omega) (by omega) (by omega) (by omega)
  have b01 := mul_le32 (x := x0) (y := y1) (by omega) (by omega) (by omega) (by omega)
  have b00 := mul_le32 (x := x0) (y := y0) (by omega) (by omega) (by omega) (by omega)
  rw [e]
  generalize x1 * y1 = p11 at *
  generalize x1 * y0 = p10 at *
  generalize x0 * y1 = p01 at *
  generalize x0 * y0 = p00 at *
  simp only [u64]
  have w11 : p11 % 18446744073709551616 = p11 := by omega
  have w10 : p10 % 18446744073709551616 = p10 := by omega
  have w01 : p01 % 18446744073709551616 = p01 := by omega
  have w00 : p00 % 18446744073709551616 = p00 := by omega
  rw [w11, w10, w01, w00]
  obtain ⟨t, ht⟩ : ∃ z, z = p10 + p00 / 4294967296 := ⟨_, rfl⟩
  have wt : (p10 + p00 / 4294967296) % 18446744073709551616 = t := by omega
  rw [wt, and32 t (by omega) (by omega)]
  congr 2
  omega
theorem mul_ab (a b : Int) : ab a * ab b = if (decide (a < 0)) = (decide (b < 0)) then a * b else -(a * b) := by
  unfold ab
  by_cases ha : a < 0 <;> by_cases hb : b < 0 <;> simp [ha, hb, Int.neg_mul, Int.mul_neg]
theorem ab_le {a : Int} (h : I a) : 0 ≤ ab a ∧ ab a ≤ 9223372036854775808 := by unfold I at h; unfold ab; omega
theorem mul_ev {a b : Int} (ha : I a) (hb : I b) : Ev (fun k => whole_Mul.f k a b) (mulS a b) := by
  have hp0 := ab_le ha
  have hq0 := ab_le hb
  have hpn : 0 ≤ ab a * ab b := Int.mul_nonneg hp0.1 hq0.1
  have hm := mul_ab a b
  refine Ev.of (k := 3) (whole_Mul.mono a b) ?_
  unfold whole_Mul.f
  rw [size_is ha, size_is hb]
  simp only [Option.bind_some]
  rw [mul64_is hp0.1 (by omega) hq0.1 (by omega)]
  simp only [Option.bind_some]
  generalize hP : ab a * ab b = P at *
  have key : ∀ neg : Bool, (a * b = if neg then -P else P) → (neg = true → P ≠ 0) → whole_Mul.j0 3 (P / 18446744073709551616) (P % 18446744073709551616) neg = some (mulS a b) := by
    intro neg hn hz
    have hI : I (a * b) ↔ (if neg then P ≤ 9223372036854775808 else P ≤ 9223372036854775807) := by
      rw [hn]; unfold I; cases neg <;> simp <;> omega
    unfold mulS
    by_cases h1 : P / 18446744073709551616 > 0
    · have h2 : ¬ I (a * b) := by rw [hI]; cases neg <;> simp <;> omega
      rw [if_neg h2]; simp only [whole_Mul.j0, whole_Mul.j1]; rw [if_pos h1]; rfl
    · have e : P % 18446744073709551616 = P := by omega
      rw [e]
      simp only [whole_Mul.j0, whole_Mul.j1]
      rw [if_neg h1]
      by_cases h2 : P > 9223372036854775808
      · have h3 : ¬ I (a * b) := by rw [hI]; cases neg <;> simp <;> omega
        rw [if_neg h3, if_pos h2]; rfl
      · rw [if_neg h2]
        by_cases h4 : P = 9223372036854775808
        · rw [if_pos h4]
          cases neg with
          | true =>
            have h3 : I (a * b) := by rw [hI]; simp; omega
            rw [if_pos h3]
            simp only [Bool.not_true, if_true] at *
            rw [hn, u64]
            simp only [Bool.false_eq_true, if_false]
            congr 2
            unfold wrap64; omega
          | false =>
            have h3 : ¬ I (a * b) := by rw [hI]; simp; omega
            rw [if_neg h3]; rfl
        · rw [if_neg h4]
          have h3 : I (a * b) := by rw [hI]; cases neg <;> simp <;> omega
          rw [if_pos h3]
          simp only [Bool.false_eq_true, if_false]
          cases neg with
          | true =>
            simp only [if_true] at *
            have := hz trivial
            rw [hn, u64]
            congr 2
            unfold wrap64; omega
          | false =>
            simp only [Bool.false_eq_true, if_false] at *
            rw [hn]
            congr 2
            unfold wrap64; omega
  have hne : ∀ {x : Int}, x ≠ 0 → 1 ≤ ab x := by intro x hx; unfold ab; omega
  by_cases hs : decide (a < 0) = decide (b < 0)
  · rw [if_neg (by simp [hs])]
    rw [if_pos hs] at hm
    exact key false (by simp [hm]) (by simp)
  · rw [if_pos (by simpa using hs)]
    rw [if_neg hs] at hm
    by_cases ha0 : a = 0
    · rw [if_pos ha0]
      refine key false ?_ (by simp)
      subst ha0; simp only [Int.zero_mul] at hm ⊢; simp; omega
    · rw [if_neg ha0]
      by_cases hb0 : b = 0
      · rw [show (b != 0) = false by simp [hb0]]
        refine key false ?_ (by simp)
        subst hb0; simp only [Int.mul_zero] at hm ⊢; simp; omega
      · rw [show (b != 0) = true by simp [hb0]]
        refine key true (by simp; omega) (fun _ => ?_)
        rw [← hP]
        have h1 := hne ha0
        have h2 := hne hb0
        have := Int.mul_le_mul h1 h2 (by omega) (by omega)
        omega

theorem add_is {a b : Int} (ha : I a) (hb : I b) : whole_Add.f a b = some (addS a b) := by
  unfold whole_Add.f addS
  by_cases hI : I (a + b)
  · rw [if_pos hI, wrap_id hI]
    unfold I at ha hb hI
    by_cases h1 : a < 0 <;> by_cases h2 : b < 0 <;> by_cases h3 : a + b < 0 <;> simp [h1, h2, h3] <;> omega
  · rw [if_neg hI]
    unfold I at ha hb hI
    have hi := wrap_I (a + b)
    unfold I at hi
    have hw : wrap64 (a + b) = a + b - 18446744073709551616 ∨ wrap64 (a + b) = a + b + 18446744073709551616 := by unfold wrap64; omega
    by_cases h1 : a < 0 <;> by_cases h2 : b < 0 <;> by_cases h3 : wrap64 (a + b) < 0 <;> simp [h1, h2, h3] <;> omega

theorem radd_is {a b : Int} (ha : I a) (hb : I b) : marblerunref01_Add.f a b = some (addS a b) := by
  unfold I at ha hb
  have h1 : b > 0 → wrap64 (9223372036854775807 - b) = 9223372036854775807 - b := fun h => wrap_id (by unfold I; omega)
  have h2 : b < 0 → wrap64 ((-9223372036854775808) - b) = -9223372036854775808 - b := fun h => wrap_id (by unfold I; omega)
  have h3 : I (a + b) → wrap64 (a + b) = a + b := wrap_id
  unfold marblerunref01_Add.f addS
  by_cases hI : I (a + b)
  · rw [if_pos hI, h3 hI]
    unfold I at hI
    by_cases p : b > 0
    · rw [if_pos p, h1 p, if_neg (by omega), if_neg (by omega)]
    · rw [if_neg p]
      by_cases n : b < 0
      · rw [if_pos n, h2 n, if_neg (by omega)]
      · rw [if_neg n]
  · rw [if_neg hI]
    unfold I at hI
    by_cases p : b > 0
    · rw [if_pos p, h1 p, if_pos (by omega)]
    · rw [if_neg p, if_pos (by omega), h2 (by omega), if_pos (by omega)]

theorem odd_part {x y : Int} (hx0 : 1 ≤ x) (hy0 : 1 ≤ y) (hy : y ≤ 9223372036854775807) (h : x * y = 9223372036854775808) : x % 2 = 0 := by
  obtain ⟨a, rfl⟩ := Int.eq_ofNat_of_zero_le (show 0 ≤ x by omega)
  obtain ⟨b, rfl⟩ := Int.eq_ofNat_of_zero_le (show 0 ≤ y by omega)
  have hn : a * b = 2 ^ 63 := by
    have : ((a * b : Nat) : Int) = 9223372036854775808 := by rw [Int.natCast_mul]; exact h
    omega
  rcases Nat.mod_two_eq_zero_or_one a with e | e
  · omega
  · exfalso
    have hc : Nat.Coprime a 2 := by
      have h2 := Nat.gcd_rec 2 a
      rw [e] at h2
      rw [Nat.coprime_comm]
      exact h2
    have h1 := Nat.Coprime.eq_one_of_dvd (Nat.Coprime.pow_right 63 hc) ⟨b, hn.symm⟩
    rw [h1] at hn
    omega
theorem pos_mul {x y : Int} (hx0 : 1 ≤ x) (hy0 : 1 ≤ y) : 1 ≤ x * y := by
  have := Int.mul_le_mul hx0 hy0 (by omega) (by omega)
  omega
theorem half_ne {x y : Int} (ev : x % 2 = 0) (hx0 : 1 ≤ x) (hy0 : 1 ≤ y) (hle : x / 2 * y ≤ 9223372036854775807) (hE : x * y ≠ 9223372036854775808) : ¬ wrap64 (x / 2 * y) = 4611686018427387904 := by
  intro e
  have h0 : 0 ≤ x / 2 * y := Int.mul_nonneg (by omega) (by omega)
  rw [wrap_id ⟨by omega, by omega⟩] at e
  apply hE
  have : x * y = 2 * (x / 2 * y) := by rw [← Int.mul_assoc, show 2 * (x / 2) = x by omega]
  omega
theorem le_div_iff {x y : Int} (hy0 : 1 ≤ y) (hy : y ≤ 9223372036854775807) : x ≤ wrap64 (Int.tdiv 9223372036854775807 y) ↔ x * y ≤ 9223372036854775807 := by
  rw [Int.tdiv_eq_ediv_of_nonneg (by omega)]
  have h1 : 0 ≤ (9223372036854775807 : Int) / y := Int.ediv_nonneg (by omega) (by omega)
  have h2 : (9223372036854775807 : Int) / y ≤ 9223372036854775807 := Int.ediv_le_self _ (by omega)
  rw [wrap_id ⟨by omega, by omega⟩]
  exact Int.le_ediv_iff_mul_le (by omega)
theorem half_is {x : Int} (hx0 : 1 ≤ x) (hx : x ≤ 9223372036854775807) : wrap64 (Int.tdiv x 2) = x / 2 := by
  rw [Int.tdiv_eq_ediv_of_nonneg (by omega)]
  exact wrap_id ⟨by omega, by omega⟩
/-- What is left where the product lies below 0. -/
def negB (x y : Int) (J : Option (Int × Bool)) : Option (Int × Bool) := if x ≤ wrap64 (Int.tdiv (9223372036854775807 : Int) y) then some (wrap64 (-(wrap64 (x * y))), true) else
  if Int.tmod x 2 = 0 then (if wrap64 (Int.tdiv x 2) ≤ wrap64 (Int.tdiv (9223372036854775807 : Int) y) then (if wrap64 ((wrap64 (Int.tdiv x 2)) * y) = 4611686018427387904 then some ((-9223372036854775808), true) else J) else J) else J
theorem negB_is {x y : Int} {J : Option (Int × Bool)} (hx0 : 1 ≤ x) (hx : x ≤ 9223372036854775807) (hy0 : 1 ≤ y) (hy : y ≤ 9223372036854775807) (hJ : x * y ≠ 9223372036854775808 → J = some (0, false)) :
    negB x y J = some (if x * y ≤ 9223372036854775808 then (-(x * y), true) else (0, false)) := by
  have hp : 1 ≤ x * y := pos_mul hx0 hy0
  unfold negB
  simp only [le_div_iff hy0 hy, half_is hx0 hx, Int.tmod_eq_emod_of_nonneg (show 0 ≤ x by omega)]
  by_cases h : x * y ≤ 9223372036854775807
  · rw [if_pos h, if_pos (by omega), wrap_id (x := x * y) ⟨by omega, by omega⟩, wrap_id ⟨by omega, by omega⟩]
  · rw [if_neg h]
    by_cases hE : x * y = 9223372036854775808
    · have ev := odd_part hx0 hy0 hy hE
      have e2 : x / 2 * y = 4611686018427387904 := by
        have : 2 * (x / 2) * y = 9223372036854775808 := by rw [show 2 * (x / 2) = x by omega]; exact hE
        rw [Int.mul_assoc] at this; omega
      rw [if_pos ev, if_pos (by omega), e2, if_pos (wrap_id ⟨by omega, by omega⟩), if_pos (by omega), hE]
    · rw [hJ hE, if_neg (show ¬ x * y ≤ 9223372036854775808 by omega)]
      split
      · rename_i ev
        split
        · rename_i hle
          rw [if_neg (half_ne ev hx0 hy0 hle hE)]
        · rfl
      · rfl
theorem last_is {x y : Int} (hx0 : 1 ≤ x) (hx : x ≤ 9223372036854775807) (hy0 : 1 ≤ y) (hy : y ≤ 9223372036854775807) (hE : x * y ≠ 9223372036854775808) :
    (if Int.tmod y 2 = 0 then (if wrap64 (Int.tdiv y 2) ≤ wrap64 (Int.tdiv (9223372036854775807 : Int) x) then (if wrap64 ((wrap64 (Int.tdiv y 2)) * x) = 4611686018427387904 then some ((-9223372036854775808 : Int), true) else some (0, false)) else some (0, false)) else some (0, false)) = some (0, false) := by
  simp only [le_div_iff hx0 hx, half_is hy0 hy, Int.tmod_eq_emod_of_nonneg (show 0 ≤ y by omega)]
  split
  · rename_i ev
    split
    · rename_i hle
      rw [if_neg (half_ne ev hy0 hx0 hle (by rw [Int.mul_comm]; exact hE))]
    · rfl
  · rfl
theorem rmul_is {a b : Int} (ha : I a) (hb : I b) : marblerunref01_Mul.f a b = some (mulS a b) := by
  unfold marblerunref01_Mul.f
  by_cases a0 : a = 0
  · rw [if_pos a0]; subst a0; simp [mulS, I]
  rw [if_neg a0]
  by_cases b0 : b = 0
  · rw [if_pos b0]; subst b0; simp [mulS, I]
  rw [if_neg b0]
  unfold I at ha hb
  by_cases am : a = -9223372036854775808
  · rw [if_pos am, if_neg (by omega)]
    subst am
    by_cases b1 : b = 1
    · rw [if_pos b1]; subst b1; simp [mulS, I]
    · rw [if_neg b1, mulS, if_neg]
      unfold I; omega
  rw [if_neg am]
  by_cases bm : b = -9223372036854775808
  · rw [if_pos bm]
    subst bm
    by_cases a1 : a = 1
    · rw [if_pos a1]; subst a1; simp [mulS, I]
    · rw [if_neg a1, if_neg (by omega), mulS, if_neg]
      unfold I; omega
  rw [if_neg bm]
  have wa : wrap64 (-a) = -a := wrap_id ⟨by omega, by omega⟩
  have wb : wrap64 (-b) = -b := wrap_id ⟨by omega, by omega⟩
  rw [wa, wb]
  by_cases an : a < 0
  · rw [if_pos an]
    by_cases bn : b < 0
    · rw [if_pos bn, if_neg (by omega)]
      simp only [le_div_iff (x := -a) (y := -b) (by omega) (by omega), Int.neg_mul_neg]
      have hp : 1 ≤ a * b := by
        have := pos_mul (x := -a) (y := -b) (by omega) (by omega)
        rwa [Int.neg_mul_neg] at this
      by_cases h : a * b ≤ 9223372036854775807
      · rw [if_pos h, mulS, if_pos (show I (a * b) from ⟨by omega, by omega⟩), wrap_id ⟨by omega, by omega⟩]
      · rw [if_neg h, mulS, if_neg (by unfold I; omega)]
    · rw [if_neg bn]
      refine Eq.trans (show _ = negB (-a) b _ from rfl) ?_
      rw [negB_is (by omega) (by omega) (by omega) (by omega) (fun hE => by rw [if_neg (show ¬ -a = 0 by omega)]; exact last_is (by omega) (by omega) (by omega) (by omega) hE), Int.neg_mul, Int.neg_neg]
      have hp : a * b ≤ -1 := by
        have := pos_mul (x := -a) (y := b) (by omega) (by omega)
        rw [Int.neg_mul] at this; omega
      by_cases h : -(a * b) ≤ 9223372036854775808
      · rw [if_pos h, mulS, if_pos (show I (a * b) from ⟨by omega, by omega⟩)]
      · rw [if_neg h, mulS, if_neg (by unfold I; omega)]
  · rw [if_neg an]
    by_cases bn : b < 0
    · rw [if_pos bn, if_neg (by omega)]
      refine Eq.trans (show _ = negB a (-b) _ from rfl) ?_
      rw [negB_is (by omega) (by omega) (by omega) (by omega) (fun hE => last_is (by omega) (by omega) (by omega) (by omega) hE), Int.mul_neg, Int.neg_neg]
      have hp : a * b ≤ -1 := by
        have := pos_mul (x := a) (y := -b) (by omega) (by omega)
        rw [Int.mul_neg] at this; omega
      by_cases h : -(a * b) ≤ 9223372036854775808
      · rw [if_pos h, mulS, if_pos (show I (a * b) from ⟨by omega, by omega⟩)]
      · rw [if_neg h, mulS, if_neg (by unfold I; omega)]
    · rw [if_neg bn]
      have hp : 1 ≤ a * b := pos_mul (by omega) (by omega)
      simp only [le_div_iff (x := a) (y := b) (by omega) (by omega)]
      by_cases h : a * b ≤ 9223372036854775807
      · rw [if_pos h, mulS, if_pos (show I (a * b) from ⟨by omega, by omega⟩), wrap_id ⟨by omega, by omega⟩]
      · rw [if_neg h, mulS, if_neg (by unfold I; omega)]

theorem drop_cons {l : List Int} {i : Nat} (h : i < l.length) : l.drop i = rd l (i : Int) :: l.drop (i + 1) := by
  rw [List.drop_eq_getElem_cons h, rd_lt (by omega) (by omega)]; rfl

theorem mulS_I (a b : Int) : I (mulS a b).1 := by
  unfold mulS; split
  · assumption
  · decide
theorem dotS_cons (s a b : Int) (xs ys : List Int) : dotS s (a :: xs) (b :: ys) = if I (a * b) then (if I (s + a * b) then dotS (s + a * b) xs ys else (0, false)) else (0, false) := rfl
theorem dot_loop (l0 l1 : List Int) (h0 : ∀ x ∈ l0, I x) (h1 : ∀ x ∈ l1, I x) (hb : l0.length ≤ 9223372036854775806) (d : Nat) :
    ∀ (i : Nat), min l0.length l1.length = i + d → ∀ s, I s → Ev (fun k => whole_Dot.l0 k l0 l1 s ((min l0.length l1.length : Nat) : Int) (i : Int)) (dotS s (l0.drop i) (l1.drop i)) := by
  induction d with
  | zero =>
    intro i hi s hs
    refine Ev.step (f := fun _ => some (s, true)) (fun k => by simp only [whole_Dot.l0]; rw [if_neg (by omega)]) ?_
    have : dotS s (l0.drop i) (l1.drop i) = (s, true) := by
      by_cases h : l0.length ≤ i
      · rw [List.drop_eq_nil_of_le h]; rfl
      · rw [List.drop_eq_nil_of_le (show l1.length ≤ i by omega)]; cases l0.drop i <;> rfl
    rw [this]; exact Ev.now _
  | succ d ih =>
    intro i hi s hs
    have e0 := drop_cons (l := l0) (i := i) (by omega)
    have e1 := drop_cons (l := l1) (i := i) (by omega)
    rw [e0, e1, dotS_cons]
    have i0 := h0 _ (rd_mem (xs := l0) (i := (i : Int)) (by omega) (by omega))
    have i1 := h1 _ (rd_mem (xs := l1) (i := (i : Int)) (by omega) (by omega))
    refine Ev.step (f := fun k => (whole_Mul.f k (rd l0 (i : Int)) (rd l1 (i : Int))).bind fun p => ((whole_Add.f s p.1).bind fun q => (if p.2 = true then (if q.2 = true then (whole_Dot.l0 k l0 l1 q.1 ((min l0.length l1.length : Nat) : Int) (wrap64 ((i : Int) + 1))) else (some (0, false))) else (some (0, false))))) (fun k => by simp only [whole_Dot.l0]; rw [if_pos (by omega), if_pos (by omega), if_pos (by omega), if_pos (by omega)]) ?_
    refine Ev.bind (mul_ev i0 i1) ?_
    refine Ev.congr (f := fun k => (if (mulS (rd l0 (i : Int)) (rd l1 (i : Int))).2 = true then (if (addS s (mulS (rd l0 (i : Int)) (rd l1 (i : Int))).1).2 = true then (whole_Dot.l0 k l0 l1 (addS s (mulS (rd l0 (i : Int)) (rd l1 (i : Int))).1).1 ((min l0.length l1.length : Nat) : Int) (wrap64 ((i : Int) + 1))) else (some (0, false))) else (some (0, false)))) (fun k => by rw [add_is hs (mulS_I _ _)]; rfl) ?_
    rw [wrap_add (n := l0.length) (by omega) (by omega) (by omega)]
    by_cases hm : I (rd l0 (i : Int) * rd l1 (i : Int))
    · rw [if_pos hm]
      have em : mulS (rd l0 (i : Int)) (rd l1 (i : Int)) = (rd l0 (i : Int) * rd l1 (i : Int), true) := by rw [mulS, if_pos hm]
      rw [em]
      by_cases ha : I (s + rd l0 (i : Int) * rd l1 (i : Int))
      · rw [if_pos ha]
        have ea : addS s (rd l0 (i : Int) * rd l1 (i : Int)) = (s + rd l0 (i : Int) * rd l1 (i : Int), true) := by rw [addS, if_pos ha]
        simp only [ea, if_true]
        have := ih (i + 1) (by omega) _ ha
        simpa only [Int.natCast_add, Int.natCast_one] using this
      · rw [if_neg ha]
        have ea : addS s (rd l0 (i : Int) * rd l1 (i : Int)) = (0, false) := by rw [addS, if_neg ha]
        simp only [ea, if_true, Bool.false_eq_true, if_false]
        exact Ev.now _
    · rw [if_neg hm]
      have em : mulS (rd l0 (i : Int)) (rd l1 (i : Int)) = (0, false) := by rw [mulS, if_neg hm]
      rw [em]
      simp only [Bool.false_eq_true, if_false]
      exact Ev.now _
theorem dot_ev {a b : List Int} (h0 : ∀ x ∈ a, I x) (h1 : ∀ x ∈ b, I x) (hb : a.length ≤ 9223372036854775806) : Ev (fun k => whole_Dot.f k a b) (dotS 0 a b) := by
  have h := dot_loop a b h0 h1 hb (min a.length b.length) 0 (by simp) 0 (by decide)
  have e : mn (a.length : Int) (b.length : Int) = ((min a.length b.length : Nat) : Int) := by unfold mn; omega
  unfold whole_Dot.f
  rw [e]
  simpa using h

theorem rdot_end (l0 l1 : List Int) (i : Nat) (s : Int) (h : min l0.length l1.length ≤ i) : Ev (fun k => marblerunref01_Dot.l0 k l0 l1 s (i : Int)) (s, true) := by
  by_cases h0 : (i : Int) < (l0.length : Int)
  · refine Ev.step (f := fun k => marblerunref01_Dot.j1 k l0 l1 s (i : Int) (decide ((i : Int) < (l1.length : Int)))) (fun k => by simp only [marblerunref01_Dot.l0]; rw [if_pos h0]) ?_
    rw [show decide ((i : Int) < (l1.length : Int)) = false from decide_eq_false (by omega)]
    exact Ev.step (f := fun _ => some (s, true)) (fun k => by simp [marblerunref01_Dot.j1]) (Ev.now _)
  · refine Ev.step (f := fun k => marblerunref01_Dot.j1 k l0 l1 s (i : Int) false) (fun k => by simp only [marblerunref01_Dot.l0]; rw [if_neg h0]) ?_
    exact Ev.step (f := fun _ => some (s, true)) (fun k => by simp [marblerunref01_Dot.j1]) (Ev.now _)
theorem rdot_loop (l0 l1 : List Int) (h0 : ∀ x ∈ l0, I x) (h1 : ∀ x ∈ l1, I x) (hb : l0.length ≤ 9223372036854775806) (d : Nat) :
    ∀ (i : Nat), min l0.length l1.length = i + d → ∀ s, I s → Ev (fun k => marblerunref01_Dot.l0 k l0 l1 s (i : Int)) (dotS s (l0.drop i) (l1.drop i)) := by
  induction d with
  | zero =>
    intro i hi s hs
    have : dotS s (l0.drop i) (l1.drop i) = (s, true) := by
      by_cases h : l0.length ≤ i
      · rw [List.drop_eq_nil_of_le h]; rfl
      · rw [List.drop_eq_nil_of_le (show l1.length ≤ i by omega)]; cases l0.drop i <;> rfl
    rw [this]; exact rdot_end l0 l1 i s (by omega)
  | succ d ih =>
    intro i hi s hs
    have e0 := drop_cons (l := l0) (i := i) (by omega)
    have e1 := drop_cons (l := l1) (i := i) (by omega)
    rw [e0, e1, dotS_cons]
    have i0 := h0 _ (rd_mem (xs := l0) (i := (i : Int)) (by omega) (by omega))
    have i1 := h1 _ (rd_mem (xs := l1) (i := (i : Int)) (by omega) (by omega))
    refine Ev.step (f := fun k => marblerunref01_Dot.j1 k l0 l1 s (i : Int) true) (fun k => by simp only [marblerunref01_Dot.l0]; rw [if_pos (by omega), decide_eq_true (by omega)]) ?_
    refine Ev.step (f := fun k => if (mulS (rd l0 (i : Int)) (rd l1 (i : Int))).2 = true then (if (addS s (mulS (rd l0 (i : Int)) (rd l1 (i : Int))).1).2 = true then (marblerunref01_Dot.l0 k l0 l1 (addS s (mulS (rd l0 (i : Int)) (rd l1 (i : Int))).1).1 (wrap64 ((i : Int) + 1))) else (some (0, false))) else (some (0, false))) (fun k => by
      simp only [marblerunref01_Dot.j1]; rw [if_pos trivial, if_pos (by omega), if_pos (by omega), if_pos (by omega), rmul_is i0 i1]; simp only [Option.bind_some]; rw [radd_is hs (mulS_I _ _)]; rfl) ?_
    rw [wrap_add (n := l0.length) (by omega) (by omega) (by omega)]
    by_cases hm : I (rd l0 (i : Int) * rd l1 (i : Int))
    · rw [if_pos hm]
      have em : mulS (rd l0 (i : Int)) (rd l1 (i : Int)) = (rd l0 (i : Int) * rd l1 (i : Int), true) := by rw [mulS, if_pos hm]
      rw [em]
      by_cases ha : I (s + rd l0 (i : Int) * rd l1 (i : Int))
      · rw [if_pos ha]
        have ea : addS s (rd l0 (i : Int) * rd l1 (i : Int)) = (s + rd l0 (i : Int) * rd l1 (i : Int), true) := by rw [addS, if_pos ha]
        simp only [ea, if_true]
        have := ih (i + 1) (by omega) _ ha
        simpa only [Int.natCast_add, Int.natCast_one] using this
      · rw [if_neg ha]
        have ea : addS s (rd l0 (i : Int) * rd l1 (i : Int)) = (0, false) := by rw [addS, if_neg ha]
        simp only [ea, if_true, Bool.false_eq_true, if_false]
        exact Ev.now _
    · rw [if_neg hm]
      have em : mulS (rd l0 (i : Int)) (rd l1 (i : Int)) = (0, false) := by rw [mulS, if_neg hm]
      rw [em]
      simp only [Bool.false_eq_true, if_false]
      exact Ev.now _
theorem rdot_ev {a b : List Int} (h0 : ∀ x ∈ a, I x) (h1 : ∀ x ∈ b, I x) (hb : a.length ≤ 9223372036854775806) : Ev (fun k => marblerunref01_Dot.f k a b) (dotS 0 a b) := by
  have h := rdot_loop a b h0 h1 hb (min a.length b.length) 0 (by simp) 0 (by decide)
  unfold marblerunref01_Dot.f
  simpa using h

theorem dotS_I : ∀ (s : Int) (a b : List Int), I s → I (dotS s a b).1
  | s, a :: xs, b :: ys, hs => by
    simp only [dotS]
    split
    · split
      · exact dotS_I _ xs ys (by assumption)
      · exact (by decide : I 0)
    · exact (by decide : I 0)
  | s, [], _, hs => by simpa [dotS] using hs
  | s, _ :: _, [], hs => by simpa [dotS] using hs
def sumS (a b c : List Int) : Int × Bool := if (dotS 0 a b).2 = true then (if (dotS 0 a c).2 = true then addS (dotS 0 a b).1 (dotS 0 a c).1 else (0, false)) else (0, false)
theorem sum_ev {a b c : List Int} (h0 : ∀ x ∈ a, I x) (h1 : ∀ x ∈ b, I x) (h2 : ∀ x ∈ c, I x) (hb : a.length ≤ 9223372036854775806) (p : List (S48)) (q : Int) : Ev (fun k => weigh_Sum.f k a p b c q) (sumS a b c) := by
  obtain ⟨K1, h1⟩ := dot_ev h0 h1 hb
  obtain ⟨K2, h2⟩ := dot_ev h0 h2 hb
  refine ⟨K1 + K2, fun k hk => ?_⟩
  dsimp only; unfold weigh_Sum.f sumS
  have h1 := h1 k (by omega); have h2 := h2 k (by omega)
  dsimp only at h1 h2
  rw [h1, Option.bind_some, h2, Option.bind_some, add_is (dotS_I 0 a b (by decide)) (dotS_I 0 a c (by decide))]
  split <;> (try split) <;> rfl

theorem rsum_ev {a b c : List Int} (h0 : ∀ x ∈ a, I x) (h1 : ∀ x ∈ b, I x) (h2 : ∀ x ∈ c, I x) (hb : a.length ≤ 9223372036854775806) (p : List (S48)) (q : Int) : Ev (fun k => marblerunref12_Weighs.f k a p b c q) (sumS a b c) := by
  obtain ⟨K1, h1⟩ := rdot_ev h0 h1 hb
  obtain ⟨K2, h2⟩ := rdot_ev h0 h2 hb
  refine ⟨K1 + K2, fun k hk => ?_⟩
  dsimp only; unfold marblerunref12_Weighs.f sumS
  have h1 := h1 k (by omega); have h2 := h2 k (by omega)
  dsimp only at h1 h2
  rw [h1, Option.bind_some, h2, Option.bind_some, radd_is (dotS_I 0 a b (by decide)) (dotS_I 0 a c (by decide))]
  split <;> (try split) <;> rfl

theorem awake_ev : Ev (fun k => marblerunlaw13_awake.f k) true := Ev.of (k := 40) marblerunlaw13_awake.mono (by kernel_rfl)

theorem WeighSums : marblerunlaw13_WeighSums.Pure := by
  intro a b c _ la wa _ lb wb _ lc wc
  obtain ⟨K, hK⟩ := awake_ev
  obtain ⟨K1, h1⟩ := sum_ev (a := a) (b := b) (c := c) (fun x hx => I_of_wf (wa x hx)) (fun x hx => I_of_wf (wb x hx)) (fun x hx => I_of_wf (wc x hx)) (by omega) [] 0
  obtain ⟨K2, h2⟩ := rsum_ev (a := a) (b := b) (c := c) (fun x hx => I_of_wf (wa x hx)) (fun x hx => I_of_wf (wb x hx)) (fun x hx => I_of_wf (wc x hx)) (by omega) [] 0
  dsimp only at hK h1 h2
  refine ⟨K + K1 + K2 + 1, ?_⟩
  unfold marblerunlaw13_WeighSums.f
  have hj : ∀ z, marblerunlaw13_WeighSums.j0 (K + K1 + K2 + 1) a b c z = some true := by
    intro z
    simp only [marblerunlaw13_WeighSums.j0]
    cases z <;> simp [hK _ (show K ≤ K + K1 + K2 by omega), h1 _ (show K1 ≤ K + K1 + K2 by omega), h2 _ (show K2 ≤ K + K1 + K2 by omega)]
  rw [hK _ (by omega)]
  simp only [Option.bind_some, if_true, hj]
  split <;> (try split) <;> rfl
end Go.Proofs.Ytigpmhicdmjbeaa.Pure
