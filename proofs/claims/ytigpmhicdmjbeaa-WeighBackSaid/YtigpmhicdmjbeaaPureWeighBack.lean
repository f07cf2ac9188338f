/- Along with the functions that WeighBack reaches: what their plain forms answer -/
import Derived.Test.YtigpmhicdmjbeaaPWeighBackx4
import Derived.Laws.BitsLemmas
import Derived.KernelRfl
set_option linter.unusedVariables false
set_option linter.unusedSimpArgs false
namespace Go.Proofs.Ytigpmhicdmjbeaa.M
open Go.RowKit Go.Proofs.YtigpmhicdmjbeaaW.PrintWords
/-- A number of 64 bits. -/
def I (x : Int) : Prop := -9223372036854775808 ≤ x ∧ x ≤ 9223372036854775807
instance (x : Int) : Decidable (I x) := by unfold I; infer_instance
theorem I_of_wf {x : Int} (h : (Lit.int .i64 x).wf = true) : I x := by
  simp [Lit.wf, IntKind.min, IntKind.max, IntKind.bits, IntKind.signed] at h
  unfold I; omega
theorem wrap_id {x : Int} (h : I x) : wrap64 x = x := by unfold I at h; unfold wrap64; omega
theorem wrap_I (x : Int) : I (wrap64 x) := by unfold wrap64 I; omega
theorem wrap_add {x : Int} {n : Nat} (h0 : 0 ≤ x) (h1 : x < (n : Int)) (hn : n ≤ 9223372036854775807) : wrap64 (x + 1) = x + 1 := wrap_id (by unfold I; omega)
theorem u64 (x : Int) : IntKind.u64.wrap x = x % 18446744073709551616 := by simp [IntKind.wrap, IntKind.bits, IntKind.signed]
theorem wraps_u64 (n : Int) (h₀ : 0 ≤ n) (h₁ : n < 2 ^ 64) : IntKind.u64.wrap n = n := by rw [u64]; omega
theorem and32 (x : Int) (h₀ : 0 ≤ x) (h₁ : x < 18446744073709551616) : bits .and .u64 x 4294967295 = x % 4294967296 :=
  bits_mask .u64 64 (by decide) wraps_u64 32 (by decide) x h₀ (by omega)
/-- What a number is without its sign. -/
def ab (x : Int) : Int := if x < 0 then -x else x
theorem ab_nat (x : Int) : ab x = (x.natAbs : Int) := by unfold ab; omega
/-- A sum that is a number of 64 bits, or none. -/
def addS (a b : Int) : Int × Bool := if I (a + b) then (a + b, true) else (0, false)
/-- A product likewise. -/
def mulS (a b : Int) : Int × Bool := if I (a * b) then (a * b, true) else (0, false)
/-- A sum of products likewise, from a first sum on. -/
def dotS : Int → List Int → List Int → Int × Bool
  | s, a :: xs, b :: ys => if I (a * b) then (if I (s + a * b) then dotS (s + a * b) xs ys else (0, false)) else (0, false)
  | s, _, _ => (s, true)
theorem hi_lo {x y p0 p1 q0 q1 : Int} (hx : x = p1 * 4294967296 + p0) (hy : y = q1 * 4294967296 + q0) :
    x * y = p1 * q1 * 18446744073709551616 + (p1 * q0 + p0 * q1) * 4294967296 + p0 * q0 := by
  subst hx hy; simp only [Int.add_mul, Int.mul_add]
  have e1 : p1 * 4294967296 * (q1 * 4294967296) = p1 * q1 * 18446744073709551616 := by
    rw [Int.mul_assoc, Int.mul_left_comm 4294967296, ← Int.mul_assoc]; rfl
  have e2 : p0 * (q1 * 4294967296) = p0 * q1 * 4294967296 := by rw [Int.mul_assoc]
  have e3 : p1 * 4294967296 * q0 = p1 * q0 * 4294967296 := by rw [Int.mul_assoc, Int.mul_comm 4294967296, ← Int.mul_assoc]
  rw [e1, e2, e3]; omega
theorem mul_le32 {x y : Int} (hx0 : 0 ≤ x) (hx : x ≤ 4294967295) (hy0 : 0 ≤ y) (hy : y ≤ 4294967295) : 0 ≤ x * y ∧ x * y ≤ 18446744065119617025 := by
  refine ⟨Int.mul_nonneg hx0 hy0, ?_⟩
  have := Int.mul_le_mul hx hy hy0 (by omega)
  omega
theorem rd_lt {xs : List Int} {i : Int} (h0 : 0 ≤ i) (h1 : i < (xs.length : Int)) : rd xs i = xs[i.toNat]'(by omega) := by
  unfold rd; rw [List.getD_eq_getElem?_getD, List.getElem?_eq_getElem (by omega)]; rfl
theorem rd_mem {xs : List Int} {i : Int} (h0 : 0 ≤ i) (h1 : i < (xs.length : Int)) : rd xs i ∈ xs := by rw [rd_lt h0 h1]; exact List.getElem_mem _
end Go.Proofs.Ytigpmhicdmjbeaa.M

namespace Go.Proofs.Ytigpmhicdmjbeaa.M
open Go.RowKit Go.Proofs.YtigpmhicdmjbeaaW.PrintWords
/-- A number of 64 bits above the least one. -/
def J (x : Int) : Prop := -9223372036854775807 ≤ x ∧ x ≤ 9223372036854775807
theorem J.i {x : Int} (h : J x) : I x := by unfold J at h; unfold I; omega
theorem J.nat {x : Int} (h : J x) : x.natAbs ≤ 9223372036854775807 := by unfold J at h; omega
/-- The greatest common divisor of g and all of a list. -/
def gl (g : Nat) (l : List Int) : Nat := l.foldl (fun g x => Nat.gcd g x.natAbs) g
theorem gl_cons (g : Nat) (x : Int) (l : List Int) : gl g (x :: l) = gl (Nat.gcd g x.natAbs) l := rfl
theorem gl_append (g : Nat) (l m : List Int) : gl g (l ++ m) = gl (gl g l) m := by unfold gl; rw [List.foldl_append]
theorem gl_gcd (l : List Int) : ∀ g, gl g l = Nat.gcd g (gl 0 l) := by
  induction l with
  | nil => intro g; simp [gl]
  | cons x l ih => intro g; rw [gl_cons, gl_cons, ih, ih (Nat.gcd 0 _), Nat.gcd_zero_left, Nat.gcd_assoc]
theorem gl_dvd (l : List Int) : ∀ x ∈ l, (gl 0 l) ∣ x.natAbs := by
  induction l with
  | nil => intro x h; simp at h
  | cons a l ih =>
    intro x h
    rw [gl_cons, gl_gcd, Nat.gcd_zero_left]
    rcases List.mem_cons.1 h with rfl | h
    · exact Nat.gcd_dvd_left _ _
    · exact Nat.dvd_trans (Nat.gcd_dvd_right _ _) (ih x h)
theorem gl_le (l : List Int) (h : ∀ x ∈ l, J x) : ∀ g, g ≤ 9223372036854775807 → gl g l ≤ 9223372036854775807 := by
  induction l with
  | nil => intro g hg; exact hg
  | cons a l ih =>
    intro g hg
    rw [gl_cons]
    refine ih (fun x hx => h x (List.mem_cons_of_mem _ hx)) _ ?_
    have ha := (h a (List.mem_cons_self ..)).nat
    rcases Nat.eq_zero_or_pos g with e | e
    · subst e; rw [Nat.gcd_zero_left]; exact ha
    · exact Nat.le_trans (Nat.gcd_le_left _ e) hg
theorem gl_mul (c : Nat) (l : List Int) : ∀ g, gl (c * g) (l.map fun x => (c : Int) * x) = c * gl g l := by
  induction l with
  | nil => intro g; rfl
  | cons a l ih =>
    intro g
    rw [List.map_cons, gl_cons, gl_cons, Int.natAbs_mul, Int.natAbs_natCast, Nat.gcd_mul_left, ih]
theorem gl_neg (l : List Int) : ∀ g, gl g (l.map fun x => -x) = gl g l := by
  induction l with
  | nil => intro g; rfl
  | cons a l ih => intro g; rw [List.map_cons, gl_cons, gl_cons, Int.natAbs_neg, ih]
/-- A vector by the greatest number that all have. -/
def normS (l : List Int) : List Int := if 1 < gl 0 l then l.map (fun x => Int.tdiv x (gl 0 l : Int)) else l
theorem normS_length (l : List Int) : (normS l).length = l.length := by unfold normS; split <;> simp
theorem back_of (l : List Int) : (normS l).map (fun x => (gl 0 l : Int) * x) = if 0 < gl 0 l then l else l.map (fun _ => 0) := by
  unfold normS
  split
  · rename_i h
    rw [if_pos (by omega), List.map_map]
    conv => rhs; rw [← List.map_id l]
    refine List.map_congr_left fun x hx => ?_
    have hd : (gl 0 l : Int) ∣ x := Int.ofNat_dvd_left.2 (gl_dvd l x hx)
    simp only [Function.comp, id]
    exact Int.mul_tdiv_cancel' hd
  · rename_i h
    split
    · have e : gl 0 l = 1 := by omega
      rw [e]; simp
    · have e : gl 0 l = 0 := by omega
      rw [e]; simp
theorem zero_of {l : List Int} (h : gl 0 l = 0) : ∀ x ∈ l, x = 0 := by
  intro x hx
  have := gl_dvd l x hx
  rw [h] at this
  have := Nat.eq_zero_of_zero_dvd this
  omega
/-- The vector so made has nothing more. -/
theorem gl_norm (l : List Int) (hp : 0 < gl 0 l) : gl 0 (normS l) = 1 := by
  have h1 := gl_mul (gl 0 l) (normS l) 0
  rw [back_of, if_pos hp, Nat.mul_zero] at h1
  have h2 : gl 0 l * 1 = gl 0 l * gl 0 (normS l) := by rw [Nat.mul_one]; exact h1
  exact (Nat.eq_of_mul_eq_mul_left hp h2).symm
theorem gl_norm_le (l : List Int) : gl 0 (normS l) ≤ 1 := by
  rcases Nat.eq_zero_or_pos (gl 0 l) with e | e
  · unfold normS; rw [if_neg (by omega), e]; omega
  · rw [gl_norm l e]; omega
theorem normS_idem (l : List Int) : normS (normS l) = normS l := by
  have h := gl_norm_le l
  generalize hm : normS l = m at *
  unfold normS; rw [if_neg (by omega)]
theorem tdiv_J {x : Int} {g : Nat} (h : J x) : J (Int.tdiv x (g : Int)) := by
  have h1 : (Int.tdiv x (g : Int)).natAbs ≤ x.natAbs := by
    rw [Int.natAbs_tdiv]; exact Nat.div_le_self _ _
  unfold J at *; omega
theorem normS_J {l : List Int} (h : ∀ x ∈ l, J x) : ∀ x ∈ normS l, J x := by
  unfold normS
  split
  · intro x hx
    obtain ⟨y, hy, rfl⟩ := List.mem_map.1 hx
    exact tdiv_J (h y hy)
  · exact h
theorem normS_neg (l : List Int) : normS (l.map fun x => -x) = (normS l).map fun x => -x := by
  unfold normS
  rw [gl_neg]
  split
  · simp only [List.map_map]
    refine List.map_congr_left fun x _ => ?_
    simp only [Function.comp, Int.neg_tdiv]
  · rfl
end Go.Proofs.Ytigpmhicdmjbeaa.M

namespace Go.Proofs.Ytigpmhicdmjbeaa.Pure
open Go.RowKit Go.Proofs.Ytigpmhicdmjbeaa.PWeighBack Go.Proofs.YtigpmhicdmjbeaaW.PrintWords Go.Proofs.YtigpmhicdmjbeaaW.PrintLast Go.Proofs.YtigpmhicdmjbeaaW.PrintMore Go.Proofs.Ytigpmhicdmjbeaa.M
theorem size_is {a : Int} (h : I a) : whole_size.f a = some (ab a) := by
  unfold I at h
  unfold whole_size.f ab
  simp only [u64]
  split
  · rw [show (-(a % 18446744073709551616)) % 18446744073709551616 = -a by omega]
  · rw [show a % 18446744073709551616 = a by omega]

theorem mul64_is {x y : Int} (hx0 : 0 ≤ x) (hx : x < 18446744073709551616) (hy0 : 0 ≤ y) (hy : y < 18446744073709551616) :
    bits_Mul64.f x y = some (x * y / 18446744073709551616, x * y % 18446744073709551616) := by
  unfold bits_Mul64.f
  rw [and32 y hy0 hy, and32 x hx0 hx]
  obtain ⟨x1, hx1⟩ : ∃ z, z = x / 4294967296 := ⟨_, rfl⟩
  obtain ⟨x0, hx0'⟩ : ∃ z, z = x % 4294967296 := ⟨_, rfl⟩
  obtain ⟨y1, hy1⟩ : ∃ z, z = y / 4294967296 := ⟨_, rfl⟩
  obtain ⟨y0, hy0'⟩ : ∃ z, z = y % 4294967296 := ⟨_, rfl⟩
  rw [← hx1, ← hx0', ← hy1, ← hy0']
  have e := hi_lo (x := x) (y := y) (p0 := x0) (p1 := x1) (q0 := y0) (q1 := y1) (by omega) (by omega)
  have b11 := mul_le32 (x := x1) (y := y1) (by omega) (by omega) (by omega) (by omega)
  have b10 := mul_le32 (x := x1) (y := y0) (by omega) (by omega) (by omega) (by omega)
  have b01 := mul_le32 (x := x0) (y := y1) (by omega) (by omega) (by omega) (by omega)
  have b00 := mul_le32 (x := x0) (y := y0) (by omega) (by omega) (by omega) (by omega)
  rw [e]
  generalize x1 * y1 = p11 at *
  generalize x1 * y0 = p10 at *
  generalize x0 * y1 = p01 at *
  generalize x0 * y0 = p00 at *
  simp only [u64]
  have w11 : p11 % 18446744073709551616 = p11 := by omega
  have w10 : p10 % 18446744073709551616 = p10 := by omega
  have w01 : p01 % 18446744073709551616 = p01 := by omega
  have w00 : p00 % 18446744073709551616 = p00 := by omega
  rw [w11, w10, w01, w00]
  obtain ⟨t, ht⟩ : ∃ z, z = p10 + p00 / 4294967296 := ⟨_, rfl⟩
  have wt : (p10 + p00 / 4294967296) % 18446744073709551616 = t := by omega
  rw [wt, and32 t (by omega) (by omega)]
  congr 2
  omega
theorem mul_ab (a b : Int) : ab a * ab b = if (decide (a < 0)) = (decide (b < 0)) then a * b else -(a * b) := by
  unfold ab
  by_cases ha : a < 0 <;> by_cases hb : b < 0 <;> simp [ha, hb, Int.neg_mul, Int.mul_neg]
theorem ab_le {a : Int} (h : I a) : 0 ≤ ab a ∧ ab a ≤ 9223372036854775808 := by unfold I at h; unfold ab; omega
theorem mul_ev {a b : Int} (ha : I a) (hb : I b) : Ev (fun k => whole_Mul.f k a b) (mulS a b) := by
  have hp0 := ab_le ha
  have hq0 := ab_le hb
  have hpn : 0 ≤ ab a * ab b := Int.mul_nonneg hp0.1 hq0.1
  have hm := mul_ab a b
  refine Ev.of (k := 3) (whole_Mul.mono a b) ?_
  unfold whole_Mul.f
  rw [size_is ha, size_is hb]
  simp only [Option.bind_some]
  rw [mul64_is hp0.1 (by omega) hq0.1 (by omega)]
  simp only [Option.bind_some]
  generalize hP : ab a * ab b = P at *
  have key : ∀ neg : Bool, (a * b = if neg then -P else P) → (neg = true → P ≠ 0) → whole_Mul.j0 3 (P / 18446744073709551616) (P % 18446744073709551616) neg = some (mulS a b) := by
    intro neg hn hz
    have hI : I (a * b) ↔ (if neg then P ≤ 9223372036854775808 else P ≤ 9223372036854775807) := by
      rw [hn]; unfold I; cases neg <;> simp <;> omega
    unfold mulS
    by_cases h1 : P / 18446744073709551616 > 0
    · have h2 : ¬ I (a * b) := by rw [hI]; cases neg <;> simp <;> omega
      rw [if_neg h2]; simp only [whole_Mul.j0, whole_Mul.j1]; rw [if_pos h1]; rfl
    · have e : P % 18446744073709551616 = P := by omega
      rw [e]
      simp only [whole_Mul.j0, whole_Mul.j1]
      rw [if_neg h1]
      by_cases h2 : P > 9223372036854775808
      · have h3 : ¬ I (a * b) := by rw [hI]; cases neg <;> simp <;> omega
        rw [if_neg h3, if_pos h2]; rfl
      · rw [if_neg h2]
        by_cases h4 : P = 9223372036854775808
        · rw [if_pos h4]
          cases neg with
          | true =>
            have h3 : I (a * b) := by rw [hI]; simp; omega
            rw [if_pos h3]
            simp only [Bool.not_true, if_true] at *
            rw [hn, u64]
            simp only [Bool.false_eq_true, if_false]
            congr 2
            unfold wrap64; omega
          | false =>
            have h3 : ¬ I (a * b) := by rw [hI]; simp; omega
            rw [if_neg h3]; rfl
        · rw [if_neg h4]
          have h3 : I (a * b) := by rw [hI]; cases neg <;> simp <;> omega
          rw [if_pos h3]
          simp only [Bool.false_eq_true, if_false]
          cases neg with
          | true =>
            simp only [if_true] at *
            have := hz trivial
            rw [hn, u64]
            congr 2
            unfold wrap64; omega
          | false =>
            simp only [Bool.false_eq_true, if_false] at *
            rw [hn]
            congr 2
            unfold wrap64; omega
  have hne : ∀ {x : Int}, x ≠ 0 → 1 ≤ ab x := by intro x hx; unfold ab; omega
  by_cases hs : decide (a < 0) = decide (b < 0)
  · rw [if_neg (by simp [hs])]
    rw [if_pos hs] at hm
    exact key false (by simp [hm]) (by simp)
  · rw [if_pos (by simpa using hs)]
    rw [if_neg hs] at hm
    by_cases ha0 : a = 0
    · rw [if_pos ha0]
      refine key false ?_ (by simp)
      subst ha0; simp only [Int.zero_mul] at hm ⊢; simp; omega
    · rw [if_neg ha0]
      by_cases hb0 : b = 0
      · rw [show (b != 0) = false by simp [hb0]]
        refine key false ?_ (by simp)
        subst hb0; simp only [Int.mul_zero] at hm ⊢; simp; omega
      · rw [show (b != 0) = true by simp [hb0]]
        refine key true (by simp; omega) (fun _ => ?_)
        rw [← hP]
        have h1 := hne ha0
        have h2 := hne hb0
        have := Int.mul_le_mul h1 h2 (by omega) (by omega)
        omega

theorem add_is {a b : Int} (ha : I a) (hb : I b) : whole_Add.f a b = some (addS a b) := by
  unfold whole_Add.f addS
  by_cases hI : I (a + b)
  · rw [if_pos hI, wrap_id hI]
    unfold I at ha hb hI
    by_cases h1 : a < 0 <;> by_cases h2 : b < 0 <;> by_cases h3 : a + b < 0 <;> simp [h1, h2, h3] <;> omega
  · rw [if_neg hI]
    unfold I at ha hb hI
    have hi := wrap_I (a + b)
    unfold I at hi
    have hw : wrap64 (a + b) = a + b - 18446744073709551616 ∨ wrap64 (a + b) = a + b + 18446744073709551616 := by unfold wrap64; omega
    by_cases h1 : a < 0 <;> by_cases h2 : b < 0 <;> by_cases h3 : wrap64 (a + b) < 0 <;> simp [h1, h2, h3] <;> omega

theorem drop_cons {l : List Int} {i : Nat} (h : i < l.length) : l.drop i = rd l (i : Int) :: l.drop (i + 1) := by
  rw [List.drop_eq_getElem_cons h, rd_lt (by omega) (by omega)]; rfl

theorem mulS_I (a b : Int) : I (mulS a b).1 := by
  unfold mulS; split
  · assumption
  · decide
theorem dotS_cons (s a b : Int) (xs ys : List Int) : dotS s (a :: xs) (b :: ys) = if I (a * b) then (if I (s + a * b) then dotS (s + a * b) xs ys else (0, false)) else (0, false) := rfl
theorem dot_loop (l0 l1 : List Int) (h0 : ∀ x ∈ l0, I x) (h1 : ∀ x ∈ l1, I x) (hb : l0.length ≤ 9223372036854775806) (d : Nat) :
    ∀ (i : Nat), min l0.length l1.length = i + d → ∀ s, I s → Ev (fun k => whole_Dot.l0 k l0 l1 s ((min l0.length l1.length : Nat) : Int) (i : Int)) (dotS s (l0.drop i) (l1.drop i)) := by
  induction d with
  | zero =>
    intro i hi s hs
    refine Ev.step (f := fun _ => some (s, true)) (fun k => by simp only [whole_Dot.l0]; rw [if_neg (by omega)]) ?_
    have : dotS s (l0.drop i) (l1.drop i) = (s, true) := by
      by_cases h : l0.length ≤ i
      · rw [List.drop_eq_nil_of_le h]; rfl
      · rw [List.drop_eq_nil_of_le (show l1.length ≤ i by omega)]; cases l0.drop i <;> rfl
    rw [this]; exact Ev.now _
  | succ d ih =>
    intro i hi s hs
    have e0 := drop_cons (l := l0) (i := i) (by omega)
    have e1 := drop_cons (l := l1) (i := i) (by omega)
    rw [e0, e1, dotS_cons]
    have i0 := h0 _ (rd_mem (xs := l0) (i := (i : Int)) (by omega) (by omega))
    have i1 := h1 _ (rd_mem (xs := l1) (i := (i : Int)) (by omega) (by omega))
    refine Ev.step (f := fun k => (whole_Mul.f k (rd l0 (i : Int)) (rd l1 (i : Int))).bind fun p => ((whole_Add.f s p.1).bind fun q => (if p.2 = true then (if q.2 = true then (whole_Dot.l0 k l0 l1 q.1 ((min l0.length l1.length : Nat) : Int) (wrap64 ((i : Int) + 1))) else (some (0, false))) else (some (0, false))))) (fun k => by simp only [whole_Dot.l0]; rw [if_pos (by omega), if_pos (by omega), if_pos (by omega), if_pos (by omega)]) ?_
    refine Ev.bind (mul_ev i0 i1) ?_
    refine Ev.congr (f := fun k => (if (mulS (rd l0 (i : Int)) (rd l1 (i : Int))).2 = true then (if (addS s (mulS (rd l0 (i : Int)) (rd l1 (i : Int))).1).2 = true then (whole_Dot.l0 k l0 l1 (addS s (mulS (rd l0 (i : Int)) (rd l1 (i : Int))).1).1 ((min l0.length l1.length : Nat) : Int) (wrap64 ((i : Int) + 1))) else (some (0, false))) else (some (0, false)))) (fun k => by rw [add_is hs (mulS_I _ _)]; rfl) ?_
    rw [wrap_add (n := l0.length) (by omega) (by omega) (by omega)]
    by_cases hm : I (rd l0 (i : Int) * rd l1 (i : Int))
    · rw [if_pos hm]
      have em : mulS (rd l0 (i : Int)) (rd l1 (i : Int)) = (rd l0 (i : Int) * rd l1 (i : Int), true) := by rw [mulS, if_pos hm]
      rw [em]
      by_cases ha : I (s + rd l0 (i : Int) * rd l1 (i : Int))
      · rw [if_pos ha]
        have ea : addS s (rd l0 (i : Int) * rd l1 (i : Int)) = (s + rd l0 (i : Int) * rd l1 (i : Int), true) := by rw [addS, if_pos ha]
        simp only [ea, if_true]
        have := ih (i + 1) (by omega) _ ha
        simpa only [Int.natCast_add, Int.natCast_one] using this
      · rw [if_neg ha]
        have ea : addS s (rd l0 (i : Int) * rd l1 (i : Int)) = (0, false) := by rw [addS, if_neg ha]
        simp only [ea, if_true, Bool.false_eq_true, if_false]
        exact Ev.now _
    · rw [if_neg hm]
      have em : mulS (rd l0 (i : Int)) (rd l1 (i : Int)) = (0, false) := by rw [mulS, if_neg hm]
      rw [em]
      simp only [Bool.false_eq_true, if_false]
      exact Ev.now _
theorem dot_ev {a b : List Int} (h0 : ∀ x ∈ a, I x) (h1 : ∀ x ∈ b, I x) (hb : a.length ≤ 9223372036854775806) : Ev (fun k => whole_Dot.f k a b) (dotS 0 a b) := by
  have h := dot_loop a b h0 h1 hb (min a.length b.length) 0 (by simp) 0 (by decide)
  have e : mn (a.length : Int) (b.length : Int) = ((min a.length b.length : Nat) : Int) := by unfold mn; omega
  unfold whole_Dot.f
  rw [e]
  simpa using h

theorem dotS_I : ∀ (s : Int) (a b : List Int), I s → I (dotS s a b).1
  | s, a :: xs, b :: ys, hs => by
    simp only [dotS]
    split
    · split
      · exact dotS_I _ xs ys (by assumption)
      · exact (by decide : I 0)
    · exact (by decide : I 0)
  | s, [], _, hs => by simpa [dotS] using hs
  | s, _ :: _, [], hs => by simpa [dotS] using hs

theorem rdA_lt {l : List S66} {i : Nat} (h : i < l.length) : rd_T66 l (i : Int) = l[i] := by
  unfold rd_T66; rw [Int.toNat_natCast, List.getD_eq_getElem?_getD, List.getElem?_eq_getElem h]; rfl
theorem rdA_mem {l : List S66} {i : Nat} (h : i < l.length) : rd_T66 l (i : Int) ∈ l := by rw [rdA_lt h]; exact List.getElem_mem _
theorem dropA_cons {l : List S66} {i : Nat} (h : i < l.length) : l.drop i = rd_T66 l (i : Int) :: l.drop (i + 1) := by
  rw [rdA_lt h]; exact List.drop_eq_getElem_cons h
theorem rdP_lt {l : List S52} {i : Nat} (h : i < l.length) : rd_T52 l (i : Int) = l[i] := by
  unfold rd_T52; rw [Int.toNat_natCast, List.getD_eq_getElem?_getD, List.getElem?_eq_getElem h]; rfl
theorem wrap_succ {i : Nat} (h : i < 1000000) : wrap64 ((i : Int) + 1) = ((i + 1 : Nat) : Int) := by rw [wrap_add (n := 1000001) (by omega) (by omega) (by omega)]; rfl

/-- What a watch holds behind n tokens more on place p. -/
def addW (y : List Int) (s : Int × Bool) (n p : Int) : Int × Bool := ((addS s.1 (mulS n (rd y p)).1).1, s.2 && (mulS n (rd y p)).2 && (addS s.1 (mulS n (rd y p)).1).2)
def inW (y : List Int) (l : List S66) (s : Int × Bool) : Int × Bool := l.foldl (fun s a => addW y s (wrap64 (-a.f1)) a.f0) s
def outW (y : List Int) (l : List S66) (s : Int × Bool) : Int × Bool := l.foldl (fun s a => addW y s a.f1 a.f0) s
theorem addS_I (a b : Int) : I (addS a b).1 := by unfold addS; split <;> first | assumption | decide
theorem addW_I (y : List Int) (s : Int × Bool) (n p : Int) : I (addW y s n p).1 := addS_I _ _
theorem inW_I (y : List Int) : ∀ (l : List S66) (s : Int × Bool), I s.1 → I (inW y l s).1
  | [], _, h => h
  | a :: l, s, _ => inW_I y l _ (addW_I y s _ _)
theorem outW_I (y : List Int) : ∀ (l : List S66) (s : Int × Bool), I s.1 → I (outW y l s).1
  | [], _, h => h
  | a :: l, s, _ => outW_I y l _ (addW_I y s _ _)
def ArcW (n : Nat) (a : S66) : Prop := I a.f1 ∧ 0 ≤ a.f0 ∧ a.f0 < (n : Int)
theorem addW_ev {y : List Int} (hy : ∀ x ∈ y, I x) {s : Int × Bool} (hs : I s.1) {n p : Int} (hn : I n) (h0 : 0 ≤ p) (h1 : p < (y.length : Int)) (P : List S52) (T : List S64) (f : Int) : Ev (fun k => weigh_Watch_add.f k P T y f s.1 s.2 n p) (f, (addW y s n p).1, (addW y s n p).2) := by
  obtain ⟨K, hK⟩ := mul_ev hn (hy _ (rd_mem h0 h1))
  refine ⟨K, fun k hk => ?_⟩
  have h := hK k hk
  dsimp only at h ⊢
  unfold weigh_Watch_add.f addW
  rw [if_pos h0, if_pos h1, h, Option.bind_some, add_is hs (mulS_I _ _), Option.bind_some]
  cases s.2 <;> cases (mulS n (rd y p)).2 <;> simp
theorem outW_ev {y : List Int} (hy : ∀ x ∈ y, I x) (P : List S52) (T : List S64) (f : Int) {l : List S66} (hl : ∀ a ∈ l, ArcW y.length a) (hll : l.length ≤ 1000) (d : Nat) :
    ∀ (i : Nat) (s : Int × Bool), l.length = i + d → I s.1 → Ev (fun k => weigh_Watch_Fire.l1 k l (l.length : Int) (i : Int) P T y f s.1 s.2) (f, (outW y (l.drop i) s).1, (outW y (l.drop i) s).2) := by
  induction d with
  | zero =>
    intro i s hi hs
    rw [List.drop_eq_nil_of_le (by omega)]
    exact Ev.step (f := fun _ => some (f, s.1, s.2)) (fun k => by simp only [weigh_Watch_Fire.l1]; rw [if_neg (by omega)]) (Ev.now _)
  | succ d ih =>
    intro i s hi hs
    have ha := hl _ (rdA_mem (l := l) (i := i) (by omega))
    rw [dropA_cons (by omega)]
    refine Ev.step (f := fun k => (weigh_Watch_add.f k P T y f s.1 s.2 ((rd_T66 l (i : Int)).f1) ((rd_T66 l (i : Int)).f0)).bind fun b => weigh_Watch_Fire.l1 k l (l.length : Int) ((i + 1 : Nat) : Int) P T y b.1 b.2.1 b.2.2) (fun k => by simp only [weigh_Watch_Fire.l1]; rw [if_pos (by omega), if_pos (by omega), if_pos (by omega), wrap_succ (by omega)]) ?_
    refine Ev.bind (addW_ev hy hs ha.1 ha.2.1 ha.2.2 P T f) ?_
    exact ih (i + 1) _ (by omega) (addW_I y s _ _)
theorem inW_ev {y : List Int} (hy : ∀ x ∈ y, I x) (P : List S52) (T : List S64) (f : Int) {l : List S66} (hl : ∀ a ∈ l, ArcW y.length a) (hll : l.length ≤ 1000) {t : Int} (t0 : 0 ≤ t) (t1 : t < (T.length : Int)) (ho : ∀ a ∈ (rd_T64 T t).f5, ArcW y.length a) (hol : (rd_T64 T t).f5.length ≤ 1000) (d : Nat) :
    ∀ (i : Nat) (s : Int × Bool), l.length = i + d → I s.1 → Ev (fun k => weigh_Watch_Fire.l0 k t l (l.length : Int) (i : Int) P T y f s.1 s.2) (f, (outW y (rd_T64 T t).f5 (inW y (l.drop i) s)).1, (outW y (rd_T64 T t).f5 (inW y (l.drop i) s)).2) := by
  induction d with
  | zero =>
    intro i s hi hs
    rw [List.drop_eq_nil_of_le (by omega)]
    refine Ev.step (f := fun k => weigh_Watch_Fire.l1 k (rd_T64 T t).f5 ((rd_T64 T t).f5.length : Int) ((0 : Nat) : Int) P T y f s.1 s.2) (fun k => by simp only [weigh_Watch_Fire.l0]; rw [if_neg (by omega), if_pos t0, if_pos t1]; rfl) ?_
    exact outW_ev hy P T f ho hol (rd_T64 T t).f5.length 0 s (by omega) hs
  | succ d ih =>
    intro i s hi hs
    have ha := hl _ (rdA_mem (l := l) (i := i) (by omega))
    rw [dropA_cons (by omega)]
    refine Ev.step (f := fun k => (weigh_Watch_add.f k P T y f s.1 s.2 (wrap64 (-((rd_T66 l (i : Int)).f1))) ((rd_T66 l (i : Int)).f0)).bind fun b => weigh_Watch_Fire.l0 k t l (l.length : Int) ((i + 1 : Nat) : Int) P T y b.1 b.2.1 b.2.2) (fun k => by simp only [weigh_Watch_Fire.l0]; rw [if_pos (by omega), if_pos (by omega), if_pos (by omega), wrap_succ (by omega)]) ?_
    refine Ev.bind (addW_ev hy hs (wrap_I _) ha.2.1 ha.2.2 P T f) ?_
    exact ih (i + 1) _ (by omega) (addW_I y s _ _)
/-- What a watch holds behind a firing. -/
def fireS (y : List Int) (T : List S64) (s : Int × Bool) (t : Int) : Int × Bool := if 0 ≤ t ∧ t < (T.length : Int) then outW y (rd_T64 T t).f5 (inW y (rd_T64 T t).f3 s) else s
theorem fireS_I (y : List Int) (T : List S64) (s : Int × Bool) (t : Int) (hs : I s.1) : I (fireS y T s t).1 := by
  unfold fireS; split
  · exact outW_I y _ _ (inW_I y _ _ hs)
  · exact hs
def TransW (n : Nat) (T : List S64) : Prop := ∀ t : Int, 0 ≤ t → t < (T.length : Int) → ((∀ a ∈ (rd_T64 T t).f3, ArcW n a) ∧ (rd_T64 T t).f3.length ≤ 1000) ∧ (∀ a ∈ (rd_T64 T t).f5, ArcW n a) ∧ (rd_T64 T t).f5.length ≤ 1000
theorem fire_ev {y : List Int} (hy : ∀ x ∈ y, I x) (P : List S52) {T : List S64} (f : Int) (hT : TransW y.length T) (t : Int) (s : Int × Bool) (hs : I s.1) :
    Ev (fun k => weigh_Watch_Fire.f k P T y f s.1 s.2 t) (f, (fireS y T s t).1, (fireS y T s t).2) := by
  by_cases h0 : t < 0
  · refine ⟨1, fun k hk => ?_⟩
    obtain ⟨k, rfl⟩ : ∃ m, k = m + 1 := ⟨k - 1, by omega⟩
    dsimp only
    unfold weigh_Watch_Fire.f fireS
    rw [if_pos h0, if_neg (by omega)]
    simp only [weigh_Watch_Fire.j0]
    exact if_pos trivial
  by_cases h1 : t < (T.length : Int)
  · obtain ⟨⟨a, al⟩, b, bl⟩ := hT t (by omega) h1
    have h := inW_ev hy P T f a al (by omega) h1 b bl (rd_T64 T t).f3.length 0 s (by omega) hs
    unfold fireS
    rw [if_pos ⟨by omega, h1⟩]
    unfold weigh_Watch_Fire.f
    refine Ev.step (f := fun k => weigh_Watch_Fire.l0 k t (rd_T64 T t).f3 ((rd_T64 T t).f3.length : Int) ((0 : Nat) : Int) P T y f s.1 s.2) (fun k => ?_) h
    rw [if_neg h0]
    simp only [weigh_Watch_Fire.j0]
    rw [if_neg (show ¬ (decide (t ≥ (T.length : Int)) = true) by simp; omega), if_pos (by omega), if_pos h1]; rfl
  · refine ⟨1, fun k hk => ?_⟩
    obtain ⟨k, rfl⟩ : ∃ m, k = m + 1 := ⟨k - 1, by omega⟩
    dsimp only
    unfold weigh_Watch_Fire.f fireS
    rw [if_neg h0, if_neg (by omega)]
    simp only [weigh_Watch_Fire.j0]
    rw [if_pos (show decide (t ≥ (T.length : Int)) = true by simp; omega)]
theorem same_is (P : List S52) (T : List S64) (y : List Int) (f : Int) (s : Int × Bool) : weigh_Watch_Same.f P T y f s.1 s.2 = some (s.2 && (s.1 == f), f, s.1, s.2) := by
  unfold weigh_Watch_Same.f; cases h : s.2 <;> simp [h]
/-- A new watch. -/
def newR (P : List S52) (T : List S64) (y m : List Int) : List S52 × List S64 × List Int × Int × Int × Bool × Int := if (dotS 0 y m).2 = true then (P, T, y, (dotS 0 y m).1, (dotS 0 y m).1, true, 0) else ([], [], [], 0, 0, false, 3)
theorem new_loop {y : List Int} (hy : ∀ x ∈ y, I x) (hyl : y.length ≤ 1000) (P : List S52) (T : List S64) (hP : ∀ p ∈ P, I p.f1) (hPl : P.length ≤ 1000) (d : Nat) :
    ∀ (i : Nat) (acc : List Int), P.length = i + d → (∀ x ∈ acc, I x) → acc.length ≤ i → Ev (fun k => weigh_New.l0 k y acc P (P.length : Int) (i : Int) P T) (newR P T y (acc ++ (P.drop i).map fun p => p.f1)) := by
  induction d with
  | zero =>
    intro i acc hi ha hal
    rw [List.drop_eq_nil_of_le (by omega), List.map_nil, List.append_nil]
    refine Ev.step (f := fun k => (whole_Dot.f k y acc).bind fun q => (if q.2 = true then (some (P, T, y, q.1, q.1, true, 0)) else (some (([] : List (S52)), ([] : List (S64)), ([] : List Int), 0, 0, false, 3)))) (fun k => by simp only [weigh_New.l0]; rw [if_neg (by omega)]) ?_
    refine Ev.bind (dot_ev hy ha (by omega)) ?_
    refine Ev.congr (f := fun _ => some (newR P T y acc)) (fun k => ?_) (Ev.now _)
    unfold newR; split <;> rfl
  | succ d ih =>
    intro i acc hi ha hal
    have hp : rd_T52 P (i : Int) = P[i]'(by omega) := rdP_lt (by omega)
    refine Ev.step (f := fun k => weigh_New.l0 k y (acc ++ [(rd_T52 P (i : Int)).f1]) P (P.length : Int) ((i + 1 : Nat) : Int) P T) (fun k => by simp only [weigh_New.l0]; rw [if_pos (by omega), if_pos (by omega), if_pos (by omega), if_pos (by omega), wrap_succ (by omega)]) ?_
    have e := ih (i + 1) (acc ++ [(rd_T52 P (i : Int)).f1]) (by omega) (fun x hx => ?_) (by simp; omega)
    · rw [List.drop_eq_getElem_cons (by omega : i < P.length), List.map_cons]
      rw [hp, List.append_assoc, List.singleton_append] at e
      exact hp ▸ e
    · rcases List.mem_append.1 hx with h | h
      · exact ha x h
      · rw [List.mem_singleton.1 h, hp]; exact hP _ (List.getElem_mem _)
def newS (P : List S52) (T : List S64) (y : List Int) : List S52 × List S64 × List Int × Int × Int × Bool × Int := if y.length = P.length then newR P T y (P.map fun p => p.f1) else ([], [], [], 0, 0, false, 1)
theorem new_ev {y : List Int} (hy : ∀ x ∈ y, I x) (hyl : y.length ≤ 1000) (P : List S52) (T : List S64) (hP : ∀ p ∈ P, I p.f1) (hPl : P.length ≤ 1000) : Ev (fun k => weigh_New.f k P T y) (newS P T y) := by
  unfold weigh_New.f newS
  by_cases h : y.length = P.length
  · rw [if_pos h]
    have e := new_loop hy hyl P T hP hPl P.length 0 [] (by simp) (by simp) (by simp)
    rw [List.nil_append, List.drop_zero] at e
    refine Ev.congr (fun k => ?_) e
    rw [if_pos (by omega)]; rfl
  · rw [if_neg h]
    refine Ev.congr (fun k => ?_) (Ev.now _)
    rw [if_neg (by omega)]

theorem rdF_lt {l : List S48} {i : Nat} (h : i < l.length) : rd_T48 l (i : Int) = l[i] := by
  unfold rd_T48; rw [Int.toNat_natCast, List.getD_eq_getElem?_getD, List.getElem?_eq_getElem h]; rfl
theorem dropF_cons {l : List S48} {i : Nat} (h : i < l.length) : l.drop i = rd_T48 l (i : Int) :: l.drop (i + 1) := by
  rw [rdF_lt h]; exact List.drop_eq_getElem_cons h
/-- The first firing behind which it weighs something else, counted from i on. -/
def checkS (y : List Int) (T : List S64) (f : Int) : List S48 → Nat → Int × Bool → Int
  | [], _, _ => -1
  | e :: l, i, s => if ((fireS y T s e.f1).2 && ((fireS y T s e.f1).1 == f)) = true then checkS y T f l (i + 1) (fireS y T s e.f1) else (i : Int)
theorem check_loop {y : List Int} (hy : ∀ x ∈ y, I x) (P : List S52) {T : List S64} (f : Int) (hT : TransW y.length T) (l : List S48) (hl : l.length ≤ 100000) (d : Nat) :
    ∀ (i : Nat) (s : Int × Bool), l.length = i + d → I s.1 → Ev (fun k => weigh_Check.l0 k l (l.length : Int) (i : Int) P T y f s.1 s.2) (checkS y T f (l.drop i) i s, 0) := by
  induction d with
  | zero =>
    intro i s hi hs
    rw [List.drop_eq_nil_of_le (by omega)]
    exact Ev.step (f := fun _ => some (-1, 0)) (fun k => by simp only [weigh_Check.l0]; rw [if_neg (by omega)]) (Ev.now _)
  | succ d ih =>
    intro i s hi hs
    rw [dropF_cons (by omega)]
    refine Ev.step (f := fun k => (weigh_Watch_Fire.f k P T y f s.1 s.2 ((rd_T48 l (i : Int)).f1)).bind fun b => ((weigh_Watch_Same.f P T y b.1 b.2.1 b.2.2).bind fun c => (if c.1 = true then (weigh_Check.l0 k l (l.length : Int) ((i + 1 : Nat) : Int) P T y c.2.1 c.2.2.1 c.2.2.2) else (some ((i : Int), 0))))) (fun k => by simp only [weigh_Check.l0]; rw [if_pos (by omega), if_pos (by omega), if_pos (by omega), wrap_succ (by omega)]) ?_
    refine Ev.bind (fire_ev hy P f hT _ s hs) ?_
    simp only [same_is, Option.bind_some, checkS]
    split
    · exact ih (i + 1) _ (by omega) (fireS_I y T s _ hs)
    · exact Ev.now _
def checkR (P : List S52) (T : List S64) (y : List Int) (l : List S48) : Int × Int := if (newS P T y).2.2.2.2.2.2 = 0 then (checkS y T (newS P T y).2.2.2.1 l 0 ((newS P T y).2.2.2.1, true), 0) else (-1, (newS P T y).2.2.2.2.2.2)
theorem newS_ok {P : List S52} {T : List S64} {y : List Int} (h : (newS P T y).2.2.2.2.2.2 = 0) : y.length = P.length ∧ (dotS 0 y (P.map fun p => p.f1)).2 = true ∧ newS P T y = (P, T, y, (dotS 0 y (P.map fun p => p.f1)).1, (dotS 0 y (P.map fun p => p.f1)).1, true, 0) := by
  unfold newS at h ⊢
  by_cases e : y.length = P.length
  · rw [if_pos e] at h ⊢
    unfold newR at h ⊢
    by_cases g : (dotS 0 y (P.map fun p => p.f1)).2 = true
    · rw [if_pos g]; exact ⟨e, g, rfl⟩
    · rw [if_neg g] at h; exact absurd h (by decide)
  · rw [if_neg e] at h; exact absurd h (by decide)
theorem check_ev {y : List Int} (hy : ∀ x ∈ y, I x) (hyl : y.length ≤ 1000) (P : List S52) {T : List S64} (hP : ∀ p ∈ P, I p.f1) (hPl : P.length ≤ 1000) (hT : y.length = P.length → TransW y.length T) (l : List S48) (hl : l.length ≤ 100000) :
    Ev (fun k => weigh_Check.f k P T y l) (checkR P T y l) := by
  unfold weigh_Check.f
  refine Ev.bind (new_ev hy hyl P T hP hPl) ?_
  unfold checkR
  by_cases h : (newS P T y).2.2.2.2.2.2 = 0
  · rw [if_pos h]
    obtain ⟨e, g, hn⟩ := newS_ok h
    simp only [hn, if_true]
    have h2 := check_loop hy P (dotS 0 y (P.map fun p => p.f1)).1 (hT e) l hl l.length 0 ((dotS 0 y (P.map fun p => p.f1)).1, true) (by simp) (dotS_I _ _ _ (by decide))
    exact h2
  · rw [if_neg h]
    refine Ev.congr (fun k => ?_) (Ev.now _)
    rw [if_neg h]

theorem awake_ev : Ev (fun k => marblerunlaw13_awake.f k) true := Ev.of (k := 40) marblerunlaw13_awake.mono (by kernel_rfl)

theorem addW_is {y : List Int} {s : Int × Bool} {n p : Int} (h0 : I (n * rd y p)) (h1 : I (s.1 + n * rd y p)) : addW y s n p = (s.1 + n * rd y p, s.2) := by
  unfold addW mulS addS
  simp only [if_pos h0, if_pos h1, Bool.and_true]
def P0 : List S52 := [⟨⟨#[112]⟩, 3⟩, ⟨⟨#[113]⟩, 0⟩]
def T0 : List S64 := [⟨⟨#[116]⟩, 0, 0, [⟨0, 1⟩], [], [⟨1, 2⟩]⟩, ⟨⟨#[117]⟩, 0, 0, [⟨1, 2⟩], [], [⟨0, 1⟩]⟩]
theorem T0w : TransW 2 T0 := by
  intro t h0 h1
  have : t = 0 ∨ t = 1 := by have : (T0.length : Int) = 2 := rfl; omega
  rcases this with rfl | rfl
  · refine ⟨⟨fun a ha => ?_, by decide⟩, fun a ha => ?_, by decide⟩
    · have e : (rd_T64 T0 0).f3 = [⟨0, 1⟩] := rfl
      rw [e, List.mem_singleton] at ha; subst ha; exact ⟨by decide, by decide, by decide⟩
    · have e : (rd_T64 T0 0).f5 = [⟨1, 2⟩] := rfl
      rw [e, List.mem_singleton] at ha; subst ha; exact ⟨by decide, by decide, by decide⟩
  · refine ⟨⟨fun a ha => ?_, by decide⟩, fun a ha => ?_, by decide⟩
    · have e : (rd_T64 T0 1).f3 = [⟨1, 2⟩] := rfl
      rw [e, List.mem_singleton] at ha; subst ha; exact ⟨by decide, by decide, by decide⟩
    · have e : (rd_T64 T0 1).f5 = [⟨0, 1⟩] := rfl
      rw [e, List.mem_singleton] at ha; subst ha; exact ⟨by decide, by decide, by decide⟩
section
variable {w : Int} (h0 : -32768 ≤ w) (h1 : w ≤ 32767)
theorem rd0 : rd [w, w] 0 = w := rfl
theorem rd1 : rd [w, w] 1 = w := rfl
include h0 h1
theorem fire0 {a : Int} (ha : -1000000 ≤ a ∧ a ≤ 1000000) (b : Bool) : fireS [w, w] T0 (a, b) 0 = (a + w, b) := by
  unfold fireS
  rw [if_pos ⟨by decide, by decide⟩]
  have e3 : (rd_T64 T0 0).f3 = [⟨0, 1⟩] := rfl
  have e5 : (rd_T64 T0 0).f5 = [⟨1, 2⟩] := rfl
  rw [e3, e5]
  simp only [inW, outW, List.foldl_cons, List.foldl_nil]
  have ew : wrap64 (-1) = -1 := by unfold wrap64; decide
  rw [ew, addW_is (y := [w, w]) (p := 0) (by rw [rd0]; unfold I; omega) (by rw [rd0]; unfold I; dsimp only; omega), rd0]
  rw [addW_is (y := [w, w]) (p := 1) (by rw [rd1]; unfold I; omega) (by rw [rd1]; unfold I; dsimp only; omega), rd1]
  dsimp only
  rw [show a + -1 * w + 2 * w = a + w by omega]
theorem fire1 {a : Int} (ha : -1000000 ≤ a ∧ a ≤ 1000000) (b : Bool) : fireS [w, w] T0 (a, b) 1 = (a - w, b) := by
  unfold fireS
  rw [if_pos ⟨by decide, by decide⟩]
  have e3 : (rd_T64 T0 1).f3 = [⟨1, 2⟩] := rfl
  have e5 : (rd_T64 T0 1).f5 = [⟨0, 1⟩] := rfl
  rw [e3, e5]
  simp only [inW, outW, List.foldl_cons, List.foldl_nil]
  have ew : wrap64 (-2) = -2 := by unfold wrap64; decide
  rw [ew, addW_is (y := [w, w]) (p := 1) (by rw [rd1]; unfold I; omega) (by rw [rd1]; unfold I; dsimp only; omega), rd1]
  rw [addW_is (y := [w, w]) (p := 0) (by rw [rd0]; unfold I; omega) (by rw [rd0]; unfold I; dsimp only; omega), rd0]
  dsimp only
  rw [show a + -2 * w + 1 * w = a - w by omega]
theorem new0 : newS P0 T0 [w, w] = (P0, T0, [w, w], 3 * w, 3 * w, true, 0) := by
  have e : dotS 0 [w, w] (P0.map fun p => p.f1) = (3 * w, true) := by
    show dotS 0 [w, w] [3, 0] = _
    simp only [dotS]
    rw [if_pos (by unfold I; omega), if_pos (by unfold I; omega), if_pos (by unfold I; omega), if_pos (by unfold I; omega)]
    rw [show 0 + w * 3 + w * 0 = 3 * w by omega]
  unfold newS newR
  rw [if_pos (show ([w, w] : List Int).length = P0.length from rfl), e]
  rfl
theorem check0 : checkR P0 T0 [w, w] [⟨0, 0⟩, ⟨0, 1⟩] = (if w = 0 then -1 else 0, 0) := by
  unfold checkR
  rw [new0 h0 h1]
  simp only [if_true]
  have e0 := fire0 h0 h1 (a := 3 * w) (by omega) true
  have e1 := fire1 h0 h1 (a := 3 * w + w) (by omega) true
  by_cases h : w = 0
  · subst h
    simp only [checkS, e0]
    simp only [Int.mul_zero, Int.add_zero] at e1
    simp [e1]
  · simp only [checkS, e0]
    rw [if_neg (by simp; omega), if_neg h]; rfl
theorem inI : ∀ x ∈ [w, w], I x := by
  intro x hx
  simp only [List.mem_cons, List.not_mem_nil, or_false, or_self] at hx
  subst hx; unfold I; omega
theorem back_loop {n : Int} (hn : 0 ≤ n ∧ n ≤ 255) (d : Nat) : ∀ i : Nat, n % 20 = (i : Int) + (d : Int) → Ev (fun k => marblerunlaw13_WeighBack.l0 k w n (i : Int) P0 T0 P0 T0 [w, w] (3 * w) (3 * w) true) true := by
  have en : wrap64 (Int.tmod n 20) = n % 20 := by rw [Int.tmod_eq_emod_of_nonneg hn.1]; exact wrap_id (by unfold I; omega)
  have hI := inI h0 h1
  induction d with
  | zero =>
    intro i hi
    have hw : wrap64 w = w := wrap_id (by unfold I; omega)
    have hc := check_ev hI (show ([w, w] : List Int).length ≤ 1000 by simp) P0 (T := T0) (by intro p hp; simp only [P0, List.mem_cons, List.not_mem_nil, or_false] at hp; rcases hp with rfl | rfl <;> decide) (by decide) (fun _ => T0w) [⟨0, 0⟩, ⟨0, 1⟩] (by decide)
    rw [check0 h0 h1] at hc
    refine Ev.step (f := fun k => (weigh_Check.f k P0 T0 [w, w] [⟨0, 0⟩, ⟨0, 1⟩]).bind fun c => (if w = 0 then ((marblerunlaw13_awake.f k).bind fun t281 => (if t281 = true then (if c.2 = 0 then (some (c.1 == (-1))) else (some false)) else (some false))) else ((marblerunlaw13_awake.f k).bind fun t282 => (if t282 = true then (if c.2 = 0 then (some (c.1 == 0)) else (some false)) else (some false))))) (fun k => by simp only [marblerunlaw13_WeighBack.l0, en, hw]; rw [if_neg (by omega)]) ?_
    refine Ev.bind hc ?_
    by_cases h : w = 0
    · simp only [if_pos h]
      refine Ev.bind awake_ev ?_
      exact Ev.now _
    · simp only [if_neg h]
      refine Ev.bind awake_ev ?_
      exact Ev.now _
  | succ d ih =>
    intro i hi
    refine Ev.step (f := fun k => (weigh_Watch_Fire.f k P0 T0 [w, w] (3 * w) (3 * w) true 0).bind fun bt259 => ((weigh_Watch_Same.f P0 T0 [w, w] bt259.1 bt259.2.1 bt259.2.2).bind fun bt262 => (if (bt262.1 != (w == 0)) = true then (some false) else ((weigh_Watch_Fire.f k P0 T0 [w, w] bt262.2.1 bt262.2.2.1 bt262.2.2.2 1).bind fun bt266 => ((weigh_Watch_Same.f P0 T0 [w, w] bt266.1 bt266.2.1 bt266.2.2).bind fun bt269 => (if bt269.1 = true then (marblerunlaw13_WeighBack.l0 k w n ((i + 1 : Nat) : Int) P0 T0 P0 T0 [w, w] bt269.2.1 bt269.2.2.1 bt269.2.2.2) else (some false))))))) (fun k => by simp only [marblerunlaw13_WeighBack.l0, en]; rw [if_pos (by omega), wrap_succ (by omega)]) ?_
    have f0 := fire_ev hI P0 (T := T0) (3 * w) T0w 0 (3 * w, true) (by unfold I; dsimp only; omega)
    rw [fire0 h0 h1 (by omega) true] at f0
    refine Ev.bind f0 ?_
    have s0 := same_is P0 T0 [w, w] (3 * w) (3 * w + w, true)
    dsimp only at s0
    simp only [s0, Option.bind_some]
    have hz : (true && (3 * w + w == 3 * w)) = (w == 0) := by rw [Bool.eq_iff_iff]; simp; omega
    rw [hz]
    simp only [bne_self_eq_false, Bool.false_eq_true, if_false]
    have f1 := fire_ev hI P0 (T := T0) (3 * w) T0w 1 (3 * w + w, true) (by unfold I; dsimp only; omega)
    rw [fire1 h0 h1 (by omega) true] at f1
    refine Ev.bind f1 ?_
    have s1 := same_is P0 T0 [w, w] (3 * w) (3 * w + w - w, true)
    dsimp only at s1
    rw [show 3 * w + w - w = 3 * w by omega] at s1
    simp only [show 3 * w + w - w = 3 * w by omega, s1, Option.bind_some, beq_self_eq_true, Bool.and_self, if_true]
    exact ih (i + 1) (by omega)
end
theorem WeighBack : marblerunlaw13_WeighBack.Pure := by
  intro w n hw hn
  have hw : -32768 ≤ w ∧ w ≤ 32767 := by
    simp [Lit.wf, IntKind.min, IntKind.max, IntKind.bits, IntKind.signed] at hw
    omega
  have hn : 0 ≤ n ∧ n ≤ 255 := by
    simp [Lit.wf, IntKind.min, IntKind.max, IntKind.bits, IntKind.signed] at hn
    omega
  refine Ev.rounds (r := true) ?_
  have ew : wrap64 w = w := wrap_id (by unfold I; omega)
  have hI := inI hw.1 hw.2
  have hnew := new_ev hI (show ([w, w] : List Int).length ≤ 1000 by simp) P0 T0 (by intro p hp; simp only [P0, List.mem_cons, List.not_mem_nil, or_false] at hp; rcases hp with rfl | rfl <;> decide) (by decide)
  rw [new0 hw.1 hw.2] at hnew
  refine Ev.congr (f := fun k => (weigh_New.f k P0 T0 [w, w]).bind fun bt248 => (if bt248.2.2.2.2.2.2 = 0 then ((weigh_Watch_Same.f bt248.1 bt248.2.1 bt248.2.2.1 bt248.2.2.2.1 bt248.2.2.2.2.1 bt248.2.2.2.2.2.1).bind fun bt255 => (if bt255.1 = true then (marblerunlaw13_WeighBack.l0 k w n 0 P0 T0 bt248.1 bt248.2.1 bt248.2.2.1 bt255.2.1 bt255.2.2.1 bt255.2.2.2) else (some false))) else (some false))) (fun k => by simp only [marblerunlaw13_WeighBack.f, ew, Option.bind_some]; rfl) ?_
  refine Ev.bind hnew ?_
  have s0 := same_is P0 T0 [w, w] (3 * w) (3 * w, true)
  dsimp only at s0
  simp only [s0, Option.bind_some, beq_self_eq_true, Bool.and_self, if_true]
  exact back_loop hw.1 hw.2 hn (n % 20).toNat 0 (by omega)
end Go.Proofs.Ytigpmhicdmjbeaa.Pure
