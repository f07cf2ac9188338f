/- The law MatrixTimes is proved: for every two slices of ints and two bytes the call answers true; no condition. -/
import Derived.Test.YtigpmhicdmjbeaaM1
import Derived.Test.YtigpmhicdmjbeaaPMatrixTimesx
import Derived.KernelRfl
set_option linter.unusedVariables false
set_option linter.unusedSimpArgs false
namespace Go.Proofs.Ytigpmhicdmjbeaa.Pure
open Go.RowKit Go.Proofs.Ytigpmhicdmjbeaa.PMatrixTimes Go.Proofs.YtigpmhicdmjbeaaW.PrintWords Go.Proofs.YtigpmhicdmjbeaaW.PrintLast Go.Proofs.YtigpmhicdmjbeaaW.PrintMore Go.Proofs.Ytigpmhicdmjbeaa.M
theorem size_is {a : Int} (h : I a) : whole_size.f a = some (ab a) := by
  unfold I at h
  unfold whole_size.f ab
  simp only [u64]
  split
  · rw [show (-(a % 18446744073709551616)) % 18446744073709551616 = -a by omega]
  · rw [show a % 18446744073709551616 = a by omega]

theorem mul64_is {x y : Int} (hx0 : 0 ≤ x) (hx : x < 18446744073709551616) (hy0 : 0 ≤ y) (hy : y < 18446744073709551616) :
    bits_Mul64.f x y = some (x * y / 18446744073709551616, x * y % 18446744073709551616) := by
  unfold bits_Mul64.f
  rw [and32 y hy0 hy, and32 x hx0 hx]
  obtain ⟨x1, hx1⟩ : ∃ z, z = x / 4294967296 := ⟨_, rfl⟩
  obtain ⟨x0, hx0'⟩ : ∃ z, z = x % 4294967296 := ⟨_, rfl⟩
  obtain ⟨y1, hy1⟩ : ∃ z, z = y / 4294967296 := ⟨_, rfl⟩
  obtain ⟨y0, hy0'⟩ : ∃ z, z = y % 4294967296 := ⟨_, rfl⟩
  rw [← hx1, ← hx0', ← hy1, ← hy0']
  have e := hi_lo (x := x) (y := y) (p0 := x0) (p1 := x1) (q0 := y0) (q1 := y1) (by omega) (by omega)
  have b11 := mul_le32 (x := x1) (y := y1) (by omega) (by omega) (by omega) (by omega)
  have b10 := mul_le32 (x := x1) (y := y0) (by omega) (by omega) (by omega) (by omega)
  have b01 := mul_le32 (x := x0) (y := y1) (by omega) (by omega) (by omega) (by omega)
  have b00 := mul_le32 (x := x0) (y := y0) (by omega) (by omega) (by omega) (by omega)
  rw [e]
  generalize x1 * y1 = p11 at *
  generalize x1 * y0 = p10 at *
  generalize x0 * y1 = p01 at *
  generalize x0 * y0 = p00 at *
  simp only [u64]
  have w11 : p11 % 18446744073709551616 = p11 := by omega
  have w10 : p10 % 18446744073709551616 = p10 := by omega
  have w01 : p01 % 18446744073709551616 = p01 := by omega
  have w00 : p00 % 18446744073709551616 = p00 := by omega
  rw [w11, w10, w01, w00]
  obtain ⟨t, ht⟩ : ∃ z, z = p10 + p00 / 4294967296 := ⟨_, rfl⟩
  have wt : (p10 + p00 / 4294967296) % 18446744073709551616 = t := by omega
  rw [wt, and32 t (by omega) (by omega)]
  congr 2
  omega
theorem mul_ab (a b : Int) : ab a * ab b = if (decide (a < 0)) = (decide (b < 0)) then a * b else -(a * b) := by
  unfold ab
  by_cases ha : a < 0 <;> by_cases hb : b < 0 <;> simp [ha, hb, Int.neg_mul, Int.mul_neg]
theorem ab_le {a : Int} (h : I a) : 0 ≤ ab a ∧ ab a ≤ 9223372036854775808 := by unfold I at h; unfold ab; omega
theorem mul_ev {a b : Int} (ha : I a) (hb : I b) : Ev (fun k => whole_Mul.f k a b) (mulS a b) := by
  have hp0 := ab_le ha
  have hq0 := ab_le hb
  have hpn : 0 ≤ ab a * ab b := Int.mul_nonneg hp0.1 hq0.1
  have hm := mul_ab a b
  refine Ev.of (k := 3) (whole_Mul.mono a b) ?_
  unfold whole_Mul.f
  rw [size_is ha, size_is hb]
  simp only [Option.bind_some]
  rw [mul64_is hp0.1 (by omega) hq0.1 (by omega)]
  simp only [Option.bind_some]
  generalize hP : ab a * ab b = P at *
  have key : ∀ neg : Bool, (a * b = if neg then -P else P) → (neg = true → P ≠ 0) → whole_Mul.j0 3 (P / 18446744073709551616) (P % 18446744073709551616) neg = some (mulS a b) := by
    intro neg hn hz
    have hI : I (a * b) ↔ (if neg then P ≤ 9223372036854775808 else P ≤ 9223372036854775807) := by
      rw [hn]; unfold I; cases neg <;> simp <;> omega
    unfold mulS
    by_cases h1 : P / 18446744073709551616 > 0
    · have h2 : ¬ I (a * b) := by rw [hI]; cases neg <;> simp <;> omega
      rw [if_neg h2]; simp only [whole_Mul.j0, whole_Mul.j1]; rw [if_pos h1]; rfl
    · have e : P % 18446744073709551616 = P := by omega
      rw [e]
      simp only [whole_Mul.j0, whole_Mul.j1]
      rw [if_neg h1]
      by_cases h2 : P > 9223372036854775808
      · have h3 : ¬ I (a * b) := by rw [hI]; cases neg <;> simp <;> omega
        rw [if_neg h3, if_pos h2]; rfl
      · rw [if_neg h2]
        by_cases h4 : P = 9223372036854775808
        · rw [if_pos h4]
          cases neg with
          | true =>
            have h3 : I (a * b) := by rw [hI]; simp; omega
            rw [if_pos h3]
            simp only [Bool.not_true, if_true] at *
            rw [hn, u64]
            simp only [Bool.false_eq_true, if_false]
            congr 2
            unfold wrap64; omega
          | false =>
            have h3 : ¬ I (a * b) := by rw [hI]; simp; omega
            rw [if_neg h3]; rfl
        · rw [if_neg h4]
          have h3 : I (a * b) := by rw [hI]; cases neg <;> simp <;> omega
          rw [if_pos h3]
          simp only [Bool.false_eq_true, if_false]
          cases neg with
          | true =>
            simp only [if_true] at *
            have := hz trivial
            rw [hn, u64]
            congr 2
            unfold wrap64; omega
          | false =>
            simp only [Bool.false_eq_true, if_false] at *
            rw [hn]
            congr 2
            unfold wrap64; omega
  have hne : ∀ {x : Int}, x ≠ 0 → 1 ≤ ab x := by intro x hx; unfold ab; omega
  by_cases hs : decide (a < 0) = decide (b < 0)
  · rw [if_neg (by simp [hs])]
    rw [if_pos hs] at hm
    exact key false (by simp [hm]) (by simp)
  · rw [if_pos (by simpa using hs)]
    rw [if_neg hs] at hm
    by_cases ha0 : a = 0
    · rw [if_pos ha0]
      refine key false ?_ (by simp)
      subst ha0; simp only [Int.zero_mul] at hm ⊢; simp; omega
    · rw [if_neg ha0]
      by_cases hb0 : b = 0
      · rw [show (b != 0) = false by simp [hb0]]
        refine key false ?_ (by simp)
        subst hb0; simp only [Int.mul_zero] at hm ⊢; simp; omega
      · rw [show (b != 0) = true by simp [hb0]]
        refine key true (by simp; omega) (fun _ => ?_)
        rw [← hP]
        have h1 := hne ha0
        have h2 := hne hb0
        have := Int.mul_le_mul h1 h2 (by omega) (by omega)
        omega

theorem add_is {a b : Int} (ha : I a) (hb : I b) : whole_Add.f a b = some (addS a b) := by
  unfold whole_Add.f addS
  by_cases hI : I (a + b)
  · rw [if_pos hI, wrap_id hI]
    unfold I at ha hb hI
    by_cases h1 : a < 0 <;> by_cases h2 : b < 0 <;> by_cases h3 : a + b < 0 <;> simp [h1, h2, h3] <;> omega
  · rw [if_neg hI]
    unfold I at ha hb hI
    have hi := wrap_I (a + b)
    unfold I at hi
    have hw : wrap64 (a + b) = a + b - 18446744073709551616 ∨ wrap64 (a + b) = a + b + 18446744073709551616 := by unfold wrap64; omega
    by_cases h1 : a < 0 <;> by_cases h2 : b < 0 <;> by_cases h3 : wrap64 (a + b) < 0 <;> simp [h1, h2, h3] <;> omega

theorem radd_is {a b : Int} (ha : I a) (hb : I b) : marblerunref01_Add.f a b = some (addS a b) := by
  unfold I at ha hb
  have h1 : b > 0 → wrap64 (9223372036854775807 - b) = 9223372036854775807 - b := fun h => wrap_id (by unfold I; omega)
  have h2 : b < 0 → wrap64 ((-9223372036854775808) - b) = -9223372036854775808 - b := fun h => wrap_id (by unfold I; omega)
  have h3 : I (a + b) → wrap64 (a + b) = a + b := wrap_id
  unfold marblerunref01_Add.f addS
  by_cases hI : I (a + b)
  · rw [if_pos hI, h3 hI]
    unfold I at hI
    by_cases p : b > 0
    · rw [if_pos p, h1 p, if_neg (by omega), if_neg (by omega)]
    · rw [if_neg p]
      by_cases n : b < 0
      · rw [if_pos n, h2 n, if_neg (by omega)]
      · rw [if_neg n]
  · rw [if_neg hI]
    unfold I at hI
    by_cases p : b > 0
    · rw [if_pos p, h1 p, if_pos (by omega)]
    · rw [if_neg p, if_pos (by omega), h2 (by omega), if_pos (by omega)]

theorem odd_part {x y : Int} (hx0 : 1 ≤ x) (hy0 : 1 ≤ y) (hy : y ≤ 9223372036854775807) (h : x * y = 9223372036854775808) : x % 2 = 0 := by
  obtain ⟨a, rfl⟩ := Int.eq_ofNat_of_zero_le (show 0 ≤ x by omega)
  obtain ⟨b, rfl⟩ := Int.eq_ofNat_of_zero_le (show 0 ≤ y by omega)
  have hn : a * b = 2 ^ 63 := by
    have : ((a * b : Nat) : Int) = 9223372036854775808 := by rw [Int.natCast_mul]; exact h
    omega
  rcases Nat.mod_two_eq_zero_or_one a with e | e
  · omega
  · exfalso
    have hc : Nat.Coprime a 2 := by
      have h2 := Nat.gcd_rec 2 a
      rw [e] at h2
      rw [Nat.coprime_comm]
      exact h2
    have h1 := Nat.Coprime.eq_one_of_dvd (Nat.Coprime.pow_right 63 hc) ⟨b, hn.symm⟩
    rw [h1] at hn
    omega
theorem pos_mul {x y : Int} (hx0 : 1 ≤ x) (hy0 : 1 ≤ y) : 1 ≤ x * y := by
  have := Int.mul_le_mul hx0 hy0 (by omega) (by omega)
  omega
theorem half_ne {x y : Int} (ev : x % 2 = 0) (hx0 : 1 ≤ x) (hy0 : 1 ≤ y) (hle : x / 2 * y ≤ 9223372036854775807) (hE : x * y ≠ 9223372036854775808) : ¬ wrap64 (x / 2 * y) = 4611686018427387904 := by
  intro e
  have h0 : 0 ≤ x / 2 * y := Int.mul_nonneg (by omega) (by omega)
  rw [wrap_id ⟨by omega, by omega⟩] at e
  apply hE
  have : x * y = 2 * (x / 2 * y) := by rw [← Int.mul_assoc, show 2 * (x / 2) = x by omega]
  omega
theorem le_div_iff {x y : Int} (hy0 : 1 ≤ y) (hy : y ≤ 9223372036854775807) : x ≤ wrap64 (Int.tdiv 9223372036854775807 y) ↔ x * y ≤ 9223372036854775807 := by
  rw [Int.tdiv_eq_ediv_of_nonneg (by omega)]
  have h1 : 0 ≤ (9223372036854775807 : Int) / y := Int.ediv_nonneg (by omega) (by omega)
  have h2 : (9223372036854775807 : Int) / y ≤ 9223372036854775807 := Int.ediv_le_self _ (by omega)
  rw [wrap_id ⟨by omega, by omega⟩]
  exact Int.le_ediv_iff_mul_le (by omega)
theorem half_is {x : Int} (hx0 : 1 ≤ x) (hx : x ≤ 9223372036854775807) : wrap64 (Int.tdiv x 2) = x / 2 := by
  rw [Int.tdiv_eq_ediv_of_nonneg (by omega)]
  exact wrap_id ⟨by omega, by omega⟩
/-- What is left where the product lies below 0. -/
def negB (x y : Int) (J : Option (Int × Bool)) : Option (Int × Bool) := if x ≤ wrap64 (Int.tdiv (9223372036854775807 : Int) y) then some (wrap64 (-(wrap64 (x * y))), true) else
  if Int.tmod x 2 = 0 then (if wrap64 (Int.tdiv x 2) ≤ wrap64 (Int.tdiv (9223372036854775807 : Int) y) then (if wrap64 ((wrap64 (Int.tdiv x 2)) * y) = 4611686018427387904 then some ((-9223372036854775808), true) else J) else J) else J
theorem negB_is {x y : Int} {J : Option (Int × Bool)} (hx0 : 1 ≤ x) (hx : x ≤ 9223372036854775807) (hy0 : 1 ≤ y) (hy : y ≤ 9223372036854775807) (hJ : x * y ≠ 9223372036854775808 → J = some (0, false)) :
    negB x y J = some (if x * y ≤ 9223372036854775808 then (-(x * y), true) else (0, false)) := by
  have hp : 1 ≤ x * y := pos_mul hx0 hy0
  unfold negB
  simp only [le_div_iff hy0 hy, half_is hx0 hx, Int.tmod_eq_emod_of_nonneg (show 0 ≤ x by omega)]
  by_cases h : x * y ≤ 9223372036854775807
  · rw [if_pos h, if_pos (by omega), wrap_id (x := x * y) ⟨by omega, by omega⟩, wrap_id ⟨by omega, by omega⟩]
  · rw [if_neg h]
    by_cases hE : x * y = 9223372036854775808
    · have ev := odd_part hx0 hy0 hy hE
      have e2 : x / 2 * y = 4611686018427387904 := by
        have : 2 * (x / 2) * y = 9223372036854775808 := by rw [show 2 * (x / 2) = x by omega]; exact hE
        rw [Int.mul_assoc] at this; omega
      rw [if_pos ev, if_pos (by omega), e2, if_pos (wrap_id ⟨by omega, by omega⟩), if_pos (by omega), hE]
    · rw [hJ hE, if_neg (show ¬ x * y ≤ 9223372036854775808 by omega)]
      split
      · rename_i ev
        split
        · rename_i hle
          rw [if_neg (half_ne ev hx0 hy0 hle hE)]
        · rfl
      · rfl
theorem last_is {x y : Int} (hx0 : 1 ≤ x) (hx : x ≤ 9223372036854775807) (hy0 : 1 ≤ y) (hy : y ≤ 9223372036854775807) (hE : x * y ≠ 9223372036854775808) :
    (if Int.tmod y 2 = 0 then (if wrap64 (Int.tdiv y 2) ≤ wrap64 (Int.tdiv (9223372036854775807 : Int) x) then (if wrap64 ((wrap64 (Int.tdiv y 2)) * x) = 4611686018427387904 then some ((-9223372036854775808 : Int), true) else some (0, false)) else some (0, false)) else some (0, false)) = some (0, false) := by
  simp only [le_div_iff hx0 hx, half_is hy0 hy, Int.tmod_eq_emod_of_nonneg (show 0 ≤ y by omega)]
  split
  · rename_i ev
    split
    · rename_i hle
      rw [if_neg (half_ne ev hy0 hx0 hle (by rw [Int.mul_comm]; exact hE))]
    · rfl
  · rfl
theorem rmul_is {a b : Int} (ha : I a) (hb : I b) : marblerunref01_Mul.f a b = some (mulS a b) := by
  unfold marblerunref01_Mul.f
  by_cases a0 : a = 0
  · rw [if_pos a0]; subst a0; simp [mulS, I]
  rw [if_neg a0]
  by_cases b0 : b = 0
  · rw [if_pos b0]; subst b0; simp [mulS, I]
  rw [if_neg b0]
  unfold I at ha hb
  by_cases am : a = -9223372036854775808
  · rw [if_pos am, if_neg (by omega)]
    subst am
    by_cases b1 : b = 1
    · rw [if_pos b1]; subst b1; simp [mulS, I]
    · rw [if_neg b1, mulS, if_neg]
      unfold I; omega
  rw [if_neg am]
  by_cases bm : b = -9223372036854775808
  · rw [if_pos bm]
    subst bm
    by_cases a1 : a = 1
    · rw [if_pos a1]; subst a1; simp [mulS, I]
    · rw [if_neg a1, if_neg (by omega), mulS, if_neg]
      unfold I; omega
  rw [if_neg bm]
  have wa : wrap64 (-a) = -a := wrap_id ⟨by omega, by omega⟩
  have wb : wrap64 (-b) = -b := wrap_id ⟨by omega, by omega⟩
  rw [wa, wb]
  by_cases an : a < 0
  · rw [if_pos an]
    by_cases bn : b < 0
    · rw [if_pos bn, if_neg (by omega)]
      simp only [le_div_iff (x := -a) (y := -b) (by omega) (by omega), Int.neg_mul_neg]
      have hp : 1 ≤ a * b := by
        have := pos_mul (x := -a) (y := -b) (by omega) (by omega)
        rwa [Int.neg_mul_neg] at this
      by_cases h : a * b ≤ 9223372036854775807
      · rw [if_pos h, mulS, if_pos (show I (a * b) from ⟨by omega, by omega⟩), wrap_id ⟨by omega, by omega⟩]
      · rw [if_neg h, mulS, if_neg (by unfold I; omega)]
    · rw [if_neg bn]
      refine Eq.trans (show _ = negB (-a) b _ from rfl) ?_
      rw [negB_is (by omega) (by omega) (by omega) (by omega) (fun hE => by rw [if_neg (show ¬ -a = 0 by omega)]; exact last_is (by omega) (by omega) (by omega) (by omega) hE), Int.neg_mul, Int.neg_neg]
      have hp : a * b ≤ -1 := by
        have := pos_mul (x := -a) (y := b) (by omega) (by omega)
        rw [Int.neg_mul] at this; omega
      by_cases h : -(a * b) ≤ 9223372036854775808
      · rw [if_pos h, mulS, if_pos (show I (a * b) from ⟨by omega, by omega⟩)]
      · rw [if_neg h, mulS, if_neg (by unfold I; omega)]
  · rw [if_neg an]
    by_cases bn : b < 0
    · rw [if_pos bn, if_neg (by omega)]
      refine Eq.trans (show _ = negB a (-b) _ from rfl) ?_
      rw [negB_is (by omega) (by omega) (by omega) (by omega) (fun hE => last_is (by omega) (by omega) (by omega) (by omega) hE), Int.mul_neg, Int.neg_neg]
      have hp : a * b ≤ -1 := by
        have := pos_mul (x := a) (y := -b) (by omega) (by omega)
        rw [Int.mul_neg] at this; omega
      by_cases h : -(a * b) ≤ 9223372036854775808
      · rw [if_pos h, mulS, if_pos (show I (a * b) from ⟨by omega, by omega⟩)]
      · rw [if_neg h, mulS, if_neg (by unfold I; omega)]
    · rw [if_neg bn]
      have hp : 1 ≤ a * b := pos_mul (by omega) (by omega)
      simp only [le_div_iff (x := a) (y := b) (by omega) (by omega)]
      by_cases h : a * b ≤ 9223372036854775807
      · rw [if_pos h, mulS, if_pos (show I (a * b) from ⟨by omega, by omega⟩), wrap_id ⟨by omega, by omega⟩]
      · rw [if_neg h, mulS, if_neg (by unfold I; omega)]

theorem drop_cons {l : List Int} {i : Nat} (h : i < l.length) : l.drop i = rd l (i : Int) :: l.drop (i + 1) := by
  rw [List.drop_eq_getElem_cons h, rd_lt (by omega) (by omega)]; rfl

theorem mulS_I (a b : Int) : I (mulS a b).1 := by
  unfold mulS; split
  · assumption
  · decide
theorem dotS_cons (s a b : Int) (xs ys : List Int) : dotS s (a :: xs) (b :: ys) = if I (a * b) then (if I (s + a * b) then dotS (s + a * b) xs ys else (0, false)) else (0, false) := rfl
theorem dot_loop (l0 l1 : List Int) (h0 : ∀ x ∈ l0, I x) (h1 : ∀ x ∈ l1, I x) (hb : l0.length ≤ 9223372036854775806) (d : Nat) :
    ∀ (i : Nat), min l0.length l1.length = i + d → ∀ s, I s → Ev (fun k => whole_Dot.l0 k l0 l1 s ((min l0.length l1.length : Nat) : Int) (i : Int)) (dotS s (l0.drop i) (l1.drop i)) := by
  induction d with
  | zero =>
    intro i hi s hs
    refine Ev.step (f := fun _ => some (s, true)) (fun k => by simp only [whole_Dot.l0]; rw [if_neg (by omega)]) ?_
    have : dotS s (l0.drop i) (l1.drop i) = (s, true) := by
      by_cases h : l0.length ≤ i
      · rw [List.drop_eq_nil_of_le h]; rfl
      · rw [List.drop_eq_nil_of_le (show l1.length ≤ i by omega)]; cases l0.drop i <;> rfl
    rw [this]; exact Ev.now _
  | succ d ih =>
    intro i hi s hs
    have e0 := drop_cons (l := l0) (i := i) (by omega)
    have e1 := drop_cons (l := l1) (i := i) (by omega)
    rw [e0, e1, dotS_cons]
    have i0 := h0 _ (rd_mem (xs := l0) (i := (i : Int)) (by omega) (by omega))
    have i1 := h1 _ (rd_mem (xs := l1) (i := (i : Int)) (by omega) (by omega))
    refine Ev.step (f := fun k => (whole_Mul.f k (rd l0 (i : Int)) (rd l1 (i : Int))).bind fun p => ((whole_Add.f s p.1).bind fun q => (if p.2 = true then (if q.2 = true then (whole_Dot.l0 k l0 l1 q.1 ((min l0.length l1.length : Nat) : Int) (wrap64 ((i : Int) + 1))) else (some (0, false))) else (some (0, false))))) (fun k => by simp only [whole_Dot.l0]; rw [if_pos (by omega), if_pos (by omega), if_pos (by omega), if_pos (by omega)]) ?_
    refine Ev.bind (mul_ev i0 i1) ?_
    refine Ev.congr (f := fun k => (if (mulS (rd l0 (i : Int)) (rd l1 (i : Int))).2 = true then (if (addS s (mulS (rd l0 (i : Int)) (rd l1 (i : Int))).1).2 = true then (whole_Dot.l0 k l0 l1 (addS s (mulS (rd l0 (i : Int)) (rd l1 (i : Int))).1).1 ((min l0.length l1.length : Nat) : Int) (wrap64 ((i : Int) + 1))) else (some (0, false))) else (some (0, false)))) (fun k => by rw [add_is hs (mulS_I _ _)]; rfl) ?_
    rw [wrap_add (n := l0.length) (by omega) (by omega) (by omega)]
    by_cases hm : I (rd l0 (i : Int) * rd l1 (i : Int))
    · rw [if_pos hm]
      have em : mulS (rd l0 (i : Int)) (rd l1 (i : Int)) = (rd l0 (i : Int) * rd l1 (i : Int), true) := by rw [mulS, if_pos hm]
      rw [em]
      by_cases ha : I (s + rd l0 (i : Int) * rd l1 (i : Int))
      · rw [if_pos ha]
        have ea : addS s (rd l0 (i : Int) * rd l1 (i : Int)) = (s + rd l0 (i : Int) * rd l1 (i : Int), true) := by rw [addS, if_pos ha]
        simp only [ea, if_true]
        have := ih (i + 1) (by omega) _ ha
        simpa only [Int.natCast_add, Int.natCast_one] using this
      · rw [if_neg ha]
        have ea : addS s (rd l0 (i : Int) * rd l1 (i : Int)) = (0, false) := by rw [addS, if_neg ha]
        simp only [ea, if_true, Bool.false_eq_true, if_false]
        exact Ev.now _
    · rw [if_neg hm]
      have em : mulS (rd l0 (i : Int)) (rd l1 (i : Int)) = (0, false) := by rw [mulS, if_neg hm]
      rw [em]
      simp only [Bool.false_eq_true, if_false]
      exact Ev.now _
theorem dot_ev {a b : List Int} (h0 : ∀ x ∈ a, I x) (h1 : ∀ x ∈ b, I x) (hb : a.length ≤ 9223372036854775806) : Ev (fun k => whole_Dot.f k a b) (dotS 0 a b) := by
  have h := dot_loop a b h0 h1 hb (min a.length b.length) 0 (by simp) 0 (by decide)
  have e : mn (a.length : Int) (b.length : Int) = ((min a.length b.length : Nat) : Int) := by unfold mn; omega
  unfold whole_Dot.f
  rw [e]
  simpa using h

theorem rdot_end (l0 l1 : List Int) (i : Nat) (s : Int) (h : min l0.length l1.length ≤ i) : Ev (fun k => marblerunref01_Dot.l0 k l0 l1 s (i : Int)) (s, true) := by
  by_cases h0 : (i : Int) < (l0.length : Int)
  · refine Ev.step (f := fun k => marblerunref01_Dot.j1 k l0 l1 s (i : Int) (decide ((i : Int) < (l1.length : Int)))) (fun k => by simp only [marblerunref01_Dot.l0]; rw [if_pos h0]) ?_
    rw [show decide ((i : Int) < (l1.length : Int)) = false from decide_eq_false (by omega)]
    exact Ev.step (f := fun _ => some (s, true)) (fun k => by simp [marblerunref01_Dot.j1]) (Ev.now _)
  · refine Ev.step (f := fun k => marblerunref01_Dot.j1 k l0 l1 s (i : Int) false) (fun k => by simp only [marblerunref01_Dot.l0]; rw [if_neg h0]) ?_
    exact Ev.step (f := fun _ => some (s, true)) (fun k => by simp [marblerunref01_Dot.j1]) (Ev.now _)
theorem rdot_loop (l0 l1 : List Int) (h0 : ∀ x ∈ l0, I x) (h1 : ∀ x ∈ l1, I x) (hb : l0.length ≤ 9223372036854775806) (d : Nat) :
    ∀ (i : Nat), min l0.length l1.length = i + d → ∀ s, I s → Ev (fun k => marblerunref01_Dot.l0 k l0 l1 s (i : Int)) (dotS s (l0.drop i) (l1.drop i)) := by
  induction d with
  | zero =>
    intro i hi s hs
    have : dotS s (l0.drop i) (l1.drop i) = (s, true) := by
      by_cases h : l0.length ≤ i
      · rw [List.drop_eq_nil_of_le h]; rfl
      · rw [List.drop_eq_nil_of_le (show l1.length ≤ i by omega)]; cases l0.drop i <;> rfl
    rw [this]; exact rdot_end l0 l1 i s (by omega)
  | succ d ih =>
    intro i hi s hs
    have e0 := drop_cons (l := l0) (i := i) (by omega)
    have e1 := drop_cons (l := l1) (i := i) (by omega)
    rw [e0, e1, dotS_cons]
    have i0 := h0 _ (rd_mem (xs := l0) (i := (i : Int)) (by omega) (by omega))
    have i1 := h1 _ (rd_mem (xs := l1) (i := (i : Int)) (by omega) (by omega))
    refine Ev.step (f := fun k => marblerunref01_Dot.j1 k l0 l1 s (i : Int) true) (fun k => by simp only [marblerunref01_Dot.l0]; rw [if_pos (by omega), decide_eq_true (by omega)]) ?_
    refine Ev.step (f := fun k => if (mulS (rd l0 (i : Int)) (rd l1 (i : Int))).2 = true then (if (addS s (mulS (rd l0 (i : Int)) (rd l1 (i : Int))).1).2 = true then (marblerunref01_Dot.l0 k l0 l1 (addS s (mulS (rd l0 (i : Int)) (rd l1 (i : Int))).1).1 (wrap64 ((i : Int) + 1))) else (some (0, false))) else (some (0, false))) (fun k => by
      simp only [marblerunref01_Dot.j1]; rw [if_pos trivial, if_pos (by omega), if_pos (by omega), if_pos (by omega), rmul_is i0 i1]; simp only [Option.bind_some]; rw [radd_is hs (mulS_I _ _)]; rfl) ?_
    rw [wrap_add (n := l0.length) (by omega) (by omega) (by omega)]
    by_cases hm : I (rd l0 (i : Int) * rd l1 (i : Int))
    · rw [if_pos hm]
      have em : mulS (rd l0 (i : Int)) (rd l1 (i : Int)) = (rd l0 (i : Int) * rd l1 (i : Int), true) := by rw [mulS, if_pos hm]
      rw [em]
      by_cases ha : I (s + rd l0 (i : Int) * rd l1 (i : Int))
      · rw [if_pos ha]
        have ea : addS s (rd l0 (i : Int) * rd l1 (i : Int)) = (s + rd l0 (i : Int) * rd l1 (i : Int), true) := by rw [addS, if_pos ha]
        simp only [ea, if_true]
        have := ih (i + 1) (by omega) _ ha
        simpa only [Int.natCast_add, Int.natCast_one] using this
      · rw [if_neg ha]
        have ea : addS s (rd l0 (i : Int) * rd l1 (i : Int)) = (0, false) := by rw [addS, if_neg ha]
        simp only [ea, if_true, Bool.false_eq_true, if_false]
        exact Ev.now _
    · rw [if_neg hm]
      have em : mulS (rd l0 (i : Int)) (rd l1 (i : Int)) = (0, false) := by rw [mulS, if_neg hm]
      rw [em]
      simp only [Bool.false_eq_true, if_false]
      exact Ev.now _
theorem rdot_ev {a b : List Int} (h0 : ∀ x ∈ a, I x) (h1 : ∀ x ∈ b, I x) (hb : a.length ≤ 9223372036854775806) : Ev (fun k => marblerunref01_Dot.f k a b) (dotS 0 a b) := by
  have h := rdot_loop a b h0 h1 hb (min a.length b.length) 0 (by simp) 0 (by decide)
  unfold marblerunref01_Dot.f
  simpa using h

theorem rdL_lt {m : List (List Int)} {i : Nat} (h : i < m.length) : rd_L1 m (i : Int) = m[i] := by
  unfold rd_L1; rw [Int.toNat_natCast, List.getD_eq_getElem?_getD, List.getElem?_eq_getElem h]; rfl
theorem rdL_mem {m : List (List Int)} {i : Nat} (h : i < m.length) : rd_L1 m (i : Int) ∈ m := by rw [rdL_lt h]; exact List.getElem_mem _
theorem dropL_cons {m : List (List Int)} {i : Nat} (h : i < m.length) : m.drop i = rd_L1 m (i : Int) :: m.drop (i + 1) := by
  rw [List.drop_eq_getElem_cons h, rdL_lt h]
theorem takeL_snoc {m : List (List Int)} {i : Nat} (h : i < m.length) : m.take (i + 1) = m.take i ++ [rd_L1 m (i : Int)] := by
  rw [List.take_succ_eq_append_getElem h, rdL_lt h]
/-- One number after the other, as long as each is there. -/
def seqS {α : Type} (f : α → Int × Bool) : List α → Option (List Int)
  | [] => some []
  | a :: l => if (f a).2 = true then (seqS f l).map ((f a).1 :: ·) else none
theorem seqS_cons {α : Type} (f : α → Int × Bool) (a : α) (l : List α) : seqS f (a :: l) = if (f a).2 = true then (seqS f l).map ((f a).1 :: ·) else none := rfl
theorem seqS_some {α : Type} {f : α → Int × Bool} : ∀ {l : List α} {r : List Int}, seqS f l = some r → r.length = l.length ∧ ∀ (i : Nat) (h : i < l.length), (f l[i]).2 = true ∧ rd r (i : Int) = (f l[i]).1
  | [], r, h => by cases h; exact ⟨rfl, fun i h => by simp at h⟩
  | a :: l, r, h => by
    rw [seqS_cons] at h
    split at h
    · rename_i ha
      obtain ⟨q, hq, rfl⟩ := Option.map_eq_some_iff.1 h
      obtain ⟨h1, h2⟩ := seqS_some hq
      refine ⟨by simp [h1], fun i hi => ?_⟩
      cases i with
      | zero => exact ⟨ha, rfl⟩
      | succ i =>
        have := h2 i (by simpa using hi)
        refine ⟨this.1, ?_⟩
        rw [List.getElem_cons_succ, ← this.2]
        unfold rd
        simp
    · cases h
theorem seqS_none {α : Type} {f : α → Int × Bool} : ∀ {l : List α}, seqS f l = none → ∃ (i : Nat) (h : i < l.length), (f l[i]).2 = false
  | [], h => by cases h
  | a :: l, h => by
    rw [seqS_cons] at h
    split at h
    · obtain ⟨i, hi, hf⟩ := seqS_none (Option.map_eq_none_iff.1 h)
      exact ⟨i + 1, by simpa using hi, by simpa using hf⟩
    · rename_i ha
      exact ⟨0, by simp, by simpa using ha⟩
/-- What a vector times a matrix comes to, as a call tells it. -/
def told (r : Option (List Int)) : List Int × Bool := match r with | some l => (l, true) | none => ([], false)
/-- One row times a vector. -/
def rowS (x : List Int) (r : List Int) : Int × Bool := if r.length = x.length then dotS 0 r x else (0, false)
theorem dotS_comm : ∀ (s : Int) (a b : List Int), dotS s a b = dotS s b a
  | _, [], [] => rfl
  | _, [], _ :: _ => rfl
  | _, _ :: _, [] => rfl
  | s, a :: xs, b :: ys => by
    rw [dotS_cons, dotS_cons, Int.mul_comm b a]
    split
    · split
      · exact dotS_comm _ xs ys
      · rfl
    · rfl
theorem right_loop (m : List (List Int)) (x : List Int) (hm : ∀ r ∈ m, ∀ y ∈ r, I y) (hl : ∀ r ∈ m, r.length ≤ 35184372088832) (hx : ∀ y ∈ x, I y) (hb : m.length ≤ 35184372088832) (hb2 : m.length < 17592186044416) (d : Nat) :
    ∀ (i : Nat) (done : List Int), m.length = i + d → done.length = i → Ev (fun k => matrix_Right.l0 k x done m (m.length : Int) (i : Int)) (told ((seqS (rowS x) (m.drop i)).map (done ++ ·))) := by
  induction d with
  | zero =>
    intro i done hi hd
    rw [List.drop_eq_nil_of_le (by omega)]
    refine Ev.step (f := fun _ => some (done, true)) (fun k => by simp only [matrix_Right.l0]; rw [if_neg (by omega)]) ?_
    simp only [seqS, Option.map_some, List.append_nil, told]
    exact Ev.now _
  | succ d ih =>
    intro i done hi hd
    have hmem := rdL_mem (m := m) (i := i) (by omega)
    rw [dropL_cons (m := m) (i := i) (by omega), seqS_cons]
    have hdot := dot_ev (a := rd_L1 m (i : Int)) (b := x) (hm _ hmem) hx (by have := hl _ hmem; omega)
    have hlen : (done.length < 17592186044416) := by omega
    have ew : wrap64 ((i : Int) + 1) = ((i + 1 : Nat) : Int) := by rw [wrap_add (n := m.length) (by omega) (by omega) (by omega)]; rfl
    refine Ev.step (f := fun k => (whole_Dot.f k (rd_L1 m (i : Int)) x).bind fun p => (if p.2 = true then (if ((rd_L1 m (i : Int)).length : Int) = (x.length : Int) then (matrix_Right.l0 k x (done ++ [p.1]) m (m.length : Int) ((i + 1 : Nat) : Int)) else (some (([] : List Int), false))) else (some (([] : List Int), false)))) (fun k => ?_) ?_
    · simp only [matrix_Right.l0]
      rw [if_pos (by omega), if_pos (by omega), if_pos (by omega), ew]
      simp only [if_pos hlen]
    · refine Ev.bind hdot ?_
      unfold rowS
      by_cases h1 : (rd_L1 m (i : Int)).length = x.length
      · simp only [if_pos h1, if_pos (show ((rd_L1 m (i : Int)).length : Int) = (x.length : Int) by omega)]
        by_cases h2 : (dotS 0 (rd_L1 m (i : Int)) x).2 = true
        · simp only [if_pos h2]
          have := ih (i + 1) (done ++ [(dotS 0 (rd_L1 m (i : Int)) x).1]) (by omega) (by simp; omega)
          unfold rowS at this
          simpa only [Option.map_map, Function.comp_def, List.append_assoc, List.singleton_append] using this
        · simp only [if_neg h2]
          exact Ev.now _
      · simp only [if_neg h1, if_neg (show ¬ ((rd_L1 m (i : Int)).length : Int) = (x.length : Int) by omega)]
        simp only [Bool.false_eq_true, if_false]
        split
        · exact Ev.now _
        · exact Ev.now _
theorem right_ev (m : List (List Int)) (x : List Int) (hm : ∀ r ∈ m, ∀ y ∈ r, I y) (hl : ∀ r ∈ m, r.length ≤ 35184372088832) (hx : ∀ y ∈ x, I y) (hb2 : m.length < 17592186044416) :
    Ev (fun k => matrix_Right.f k m x) (told (seqS (rowS x) m)) := by
  have h := right_loop m x hm hl hx (by omega) hb2 m.length 0 [] (by simp) rfl
  unfold matrix_Right.f
  simpa using h

/-- A column. -/
def col (m : List (List Int)) (j : Nat) : List Int := m.map fun r => rd r (j : Int)
/-- Rows of length c as columns (of no rows none). -/
def turnS (m : List (List Int)) (c : Nat) : List (List Int) := if m = [] then [] else (List.range c).map (col m)
/-- What is there when i rows are done, and j numbers of the next one. -/
def partS (m : List (List Int)) (c i j : Nat) : List (List Int) := (List.range j).map (col (m.take (i + 1))) ++ (if i = 0 then [] else ((List.range c).drop j).map (col (m.take i)))
theorem col_snoc (m : List (List Int)) (r : List Int) (j : Nat) : col (m ++ [r]) j = col m j ++ [rd r (j : Int)] := by simp [col]
theorem drop_range {c j : Nat} (h : j < c) : (List.range c).drop j = j :: (List.range c).drop (j + 1) := by
  rw [List.drop_eq_getElem_cons (by simp; omega)]; simp
theorem part_length (m : List (List Int)) (c i j : Nat) (hj : j ≤ c) : (partS m c i j).length = if i = 0 then j else c := by
  unfold partS
  split
  · simp
  · simp; omega
theorem turn_row (m : List (List Int)) (c : Nat) (hc : c ≤ 35184372088832) (hm : ∀ r ∈ m, r.length = c) (hb : m.length < 17592186044416) (hc2 : c < 5864062014805) (i : Nat) (hi : i < m.length) (r : List (List Int))
    (hend : Ev (fun k => matrix_Turn.l0 k m (partS m c i c) (m.length : Int) (wrap64 ((i : Int) + 1))) r) (d : Nat) :
    ∀ j : Nat, c = j + d → Ev (fun k => matrix_Turn.l1 k m (partS m c i j) (m.length : Int) (i : Int) (rd_L1 m (i : Int)) (c : Int) (j : Int)) r := by
  induction d with
  | zero =>
    intro j hj
    have e : j = c := by omega
    subst e
    exact Ev.step (f := fun k => matrix_Turn.l0 k m (partS m j i j) (m.length : Int) (wrap64 ((i : Int) + 1))) (fun k => by simp only [matrix_Turn.l1]; rw [if_neg (by omega)]) hend
  | succ d ih =>
    intro j hj
    have hrl := hm _ (rdL_mem hi)
    have hpl := part_length m c i j (by omega)
    have ew : wrap64 ((j : Int) + 1) = ((j + 1 : Nat) : Int) := by rw [wrap_add (n := c) (by omega) (by omega) (by omega)]; rfl
    have hn := ih (j + 1) (by omega)
    have er : (List.range (j + 1)).map (col (m.take (i + 1))) = (List.range j).map (col (m.take (i + 1))) ++ [col (m.take (i + 1)) j] := by rw [List.range_succ, List.map_append]; rfl
    have ec : col (m.take (i + 1)) j = col (m.take i) j ++ [rd (rd_L1 m (i : Int)) (j : Int)] := by rw [takeL_snoc hi, col_snoc]
    have hdl : ((List.range j).map (col (m.take (i + 1)))).length = j := by simp
    refine Ev.step (f := fun k => matrix_Turn.l1 k m (partS m c i (j + 1)) (m.length : Int) (i : Int) (rd_L1 m (i : Int)) (c : Int) ((j + 1 : Nat) : Int)) (fun k => ?_) hn
    simp only [matrix_Turn.l1]
    rw [if_pos (by omega), if_pos (by omega), if_pos (by omega), ew]
    by_cases h0 : i = 0
    · subst h0
      rw [if_pos rfl] at hpl
      have ep : partS m c 0 j = (List.range j).map (col (m.take (0 + 1))) := by simp [partS]
      have ep1 : partS m c 0 (j + 1) = (List.range (j + 1)).map (col (m.take (0 + 1))) := by simp [partS]
      rw [if_pos (by omega), if_pos (by omega)]
      simp only [Option.bind_some]
      have hg : rd_L1 (partS m c 0 j ++ [[]]) (j : Int) = [] := by
        unfold rd_L1; rw [Int.toNat_natCast, List.getD_eq_getElem?_getD, List.getElem?_append_right (by omega), hpl, Nat.sub_self]; rfl
      rw [if_pos (by simp; omega), hg, if_pos (by simp), Int.toNat_natCast, List.set_append_right _ _ (by omega), hpl, Nat.sub_self, List.set_cons_zero, ep, ep1, er, ec]
      simp [col]
    · rw [if_neg h0] at hpl
      rw [if_neg (by omega), if_pos (by omega)]
      have ep : partS m c i j = (List.range j).map (col (m.take (i + 1))) ++ (col (m.take i) j :: ((List.range c).drop (j + 1)).map (col (m.take i))) := by
        unfold partS; rw [if_neg h0, drop_range (by omega), List.map_cons]
      have ep1 : partS m c i (j + 1) = (List.range j).map (col (m.take (i + 1))) ++ ((col (m.take i) j ++ [rd (rd_L1 m (i : Int)) (j : Int)]) :: ((List.range c).drop (j + 1)).map (col (m.take i))) := by
        unfold partS; rw [if_neg h0, er, ec, List.append_assoc]; rfl
      have hg : rd_L1 (partS m c i j) (j : Int) = col (m.take i) j := by
        unfold rd_L1; rw [ep, Int.toNat_natCast, List.getD_eq_getElem?_getD, List.getElem?_append_right (by omega), hdl, Nat.sub_self]; rfl
      have hcl : (col (m.take i) j).length < 17592186044416 := by simp [col]; omega
      rw [hg, if_pos hcl, Int.toNat_natCast, ep, ep1, List.set_append_right _ _ (by omega), hdl, Nat.sub_self, List.set_cons_zero]
theorem turn_loop (m : List (List Int)) (c : Nat) (hc : c ≤ 35184372088832) (hm : ∀ r ∈ m, r.length = c) (hb : m.length < 17592186044416) (hc2 : c < 5864062014805) (d : Nat) :
    ∀ i : Nat, m.length = i + d → Ev (fun k => matrix_Turn.l0 k m (if i = 0 then [] else (List.range c).map (col (m.take i))) (m.length : Int) (i : Int)) (turnS m c) := by
  induction d with
  | zero =>
    intro i hi
    refine Ev.step (f := fun _ => some (if i = 0 then [] else (List.range c).map (col (m.take i)))) (fun k => by simp only [matrix_Turn.l0]; rw [if_neg (by omega)]) ?_
    have : (if i = 0 then [] else (List.range c).map (col (m.take i))) = turnS m c := by
      unfold turnS
      by_cases h : i = 0
      · rw [if_pos h, if_pos (List.eq_nil_of_length_eq_zero (by omega))]
      · rw [if_neg h, if_neg (by intro e; rw [e] at hi; simp at hi; omega), List.take_of_length_le (by omega)]
    rw [this]; exact Ev.now _
  | succ d ih =>
    intro i hi
    have hrl := hm _ (rdL_mem (m := m) (i := i) (by omega))
    have e0 : (if i = 0 then [] else (List.range c).map (col (m.take i))) = partS m c i 0 := by simp [partS]
    have e1 : partS m c i c = (List.range c).map (col (m.take (i + 1))) := by
      unfold partS
      split
      · simp
      · rw [List.drop_eq_nil_of_le (by simp)]; simp
    have hn := ih (i + 1) (by omega)
    rw [if_neg (by omega)] at hn
    rw [e0]
    refine Ev.step (f := fun k => matrix_Turn.l1 k m (partS m c i 0) (m.length : Int) (i : Int) (rd_L1 m (i : Int)) (c : Int) 0) (fun k => ?_) ?_
    · simp only [matrix_Turn.l0]
      rw [if_pos (by omega), if_pos (by omega), if_pos (by omega), hrl]
    · refine turn_row m c hc hm hb hc2 i (by omega) _ ?_ c 0 (by simp)
      rw [e1, wrap_add (n := m.length) (by omega) (by omega) (by omega)]
      exact hn
theorem turn_ev (m : List (List Int)) (c : Nat) (hm : ∀ r ∈ m, r.length = c) (hb : m.length < 17592186044416) (hc2 : c < 5864062014805) : Ev (fun k => matrix_Turn.f k m) (turnS m c) := by
  have h := turn_loop m c (by omega) hm hb hc2 m.length 0 (by simp)
  unfold matrix_Turn.f
  simpa using h
theorem turn_rows (m : List (List Int)) (c : Nat) : ∀ r ∈ turnS m c, r.length = m.length := by
  intro r hr
  unfold turnS at hr
  split at hr
  · simp at hr
  · obtain ⟨j, _, rfl⟩ := List.mem_map.1 hr
    simp [col]
theorem turn_I (m : List (List Int)) (c : Nat) (hm : ∀ r ∈ m, r.length = c) (hI : ∀ r ∈ m, ∀ y ∈ r, I y) : ∀ r ∈ turnS m c, ∀ y ∈ r, I y := by
  intro r hr y hy
  unfold turnS at hr
  split at hr
  · simp at hr
  · obtain ⟨j, hj, rfl⟩ := List.mem_map.1 hr
    unfold col at hy
    obtain ⟨q, hq, rfl⟩ := List.mem_map.1 hy
    have hl := hm q hq
    have hj' : j < c := by simpa using hj
    exact hI q hq _ (rd_mem (by omega) (by omega))
theorem left_loop (y : List Int) (cols : List (List Int)) (hy : ∀ v ∈ y, I v) (hI : ∀ r ∈ cols, ∀ v ∈ r, I v) (hyl : y.length ≤ 35184372088832) (hb : cols.length < 17592186044416) (d : Nat) :
    ∀ (i : Nat) (done : List Int), cols.length = i + d → done.length = i → Ev (fun k => matrix_Left.l0 k y done cols (cols.length : Int) (i : Int)) (told ((seqS (dotS 0 y) (cols.drop i)).map (done ++ ·))) := by
  induction d with
  | zero =>
    intro i done hi hd
    rw [List.drop_eq_nil_of_le (by omega)]
    refine Ev.step (f := fun _ => some (done, true)) (fun k => by simp only [matrix_Left.l0]; rw [if_neg (by omega)]) ?_
    simp only [seqS, Option.map_some, List.append_nil, told]
    exact Ev.now _
  | succ d ih =>
    intro i done hi hd
    have hmem := rdL_mem (m := cols) (i := i) (by omega)
    rw [dropL_cons (m := cols) (i := i) (by omega), seqS_cons]
    have hdot := dot_ev (a := y) (b := rd_L1 cols (i : Int)) hy (hI _ hmem) (by omega)
    have hlen : (done.length < 17592186044416) := by omega
    have ew : wrap64 ((i : Int) + 1) = ((i + 1 : Nat) : Int) := by rw [wrap_add (n := cols.length) (by omega) (by omega) (by omega)]; rfl
    refine Ev.step (f := fun k => (whole_Dot.f k y (rd_L1 cols (i : Int))).bind fun p => (if p.2 = true then (matrix_Left.l0 k y (done ++ [p.1]) cols (cols.length : Int) ((i + 1 : Nat) : Int)) else (some (([] : List Int), false)))) (fun k => ?_) ?_
    · simp only [matrix_Left.l0]
      rw [if_pos (by omega), if_pos (by omega), if_pos (by omega), ew]
      simp only [if_pos hlen]
    · refine Ev.bind hdot ?_
      by_cases h2 : (dotS 0 y (rd_L1 cols (i : Int))).2 = true
      · simp only [if_pos h2]
        have := ih (i + 1) (done ++ [(dotS 0 y (rd_L1 cols (i : Int))).1]) (by omega) (by simp; omega)
        simpa only [Option.map_map, Function.comp_def, List.append_assoc, List.singleton_append] using this
      · simp only [if_neg h2]
        exact Ev.now _
theorem left_ev (y : List Int) (m : List (List Int)) (c : Nat) (hm : ∀ r ∈ m, r.length = c) (hb : m.length < 17592186044416) (hc2 : c < 5864062014805) (hy : ∀ v ∈ y, I v) (hI : ∀ r ∈ m, ∀ v ∈ r, I v) (hyl : y.length ≤ 35184372088832) :
    Ev (fun k => matrix_Left.f k y m) (if y.length = m.length then told (seqS (dotS 0 y) (turnS m c)) else ([], false)) := by
  unfold matrix_Left.f
  by_cases h : y.length = m.length
  · simp only [if_pos h, if_pos (show (y.length : Int) = (m.length : Int) by omega)]
    refine Ev.bind (turn_ev m c hm hb hc2) ?_
    have hl : (turnS m c).length < 17592186044416 := by unfold turnS; split <;> simp; omega
    have := left_loop y (turnS m c) hy (turn_I m c hm hI) hyl hl (turnS m c).length 0 [] (by simp) rfl
    simpa using this
  · simp only [if_neg h, if_neg (show ¬ (y.length : Int) = (m.length : Int) by omega)]
    exact Ev.now _

/-- Rows of one length, of numbers of 64 bits. -/
def Rect (c : Nat) (m : List (List Int)) : Prop := (∀ r ∈ m, r.length = c) ∧ ∀ r ∈ m, ∀ y ∈ r, I y
theorem square_row (l : List Int) (hl : l.length ≤ 30) (hI : ∀ x ∈ l, I x) (a : Int) (c : Nat) (hc : c ≤ 4) (m : List (List Int)) (hml : m.length ≤ 4) (i : Nat) (hi : i ≤ 4) (Q : List (List Int) → Prop)
    (H : ∀ row : List Int, row.length = c → (∀ x ∈ row, I x) → ∃ r, Ev (fun k => marblerunlaw11_square.l0 k l a (m ++ [row]) (c : Int) (wrap64 ((i : Int) + 1))) r ∧ Q r) (d : Nat) :
    ∀ (j : Nat) (row : List Int), c = j + d → row.length = c → (∀ x ∈ row, I x) → ∃ r, Ev (fun k => marblerunlaw11_square.l1 k l a m (c : Int) (i : Int) row (j : Int)) r ∧ Q r := by
  induction d with
  | zero =>
    intro j row hj hr hx
    obtain ⟨r, h1, h2⟩ := H row hr hx
    exact ⟨r, Ev.step (f := fun k => marblerunlaw11_square.l0 k l a (m ++ [row]) (c : Int) (wrap64 ((i : Int) + 1))) (fun k => by simp only [marblerunlaw11_square.l1]; rw [if_neg (by omega), if_pos (by omega)]) h1, h2⟩
  | succ d ih =>
    intro j row hj hr hx
    have ew : wrap64 ((j : Int) + 1) = ((j + 1 : Nat) : Int) := by rw [wrap_add (n := c) (by omega) (by omega) (by omega)]; rfl
    have hmul : 0 ≤ (i : Int) * (c : Int) ∧ (i : Int) * (c : Int) ≤ 16 := ⟨Int.mul_nonneg (by omega) (by omega), by have := Int.mul_le_mul (show (i : Int) ≤ 4 by omega) (show (c : Int) ≤ 4 by omega) (by omega) (by omega); omega⟩
    have ei : wrap64 ((wrap64 ((i : Int) * (c : Int))) + (j : Int)) = (i : Int) * (c : Int) + (j : Int) := by
      rw [wrap_id (x := (i : Int) * (c : Int)) ⟨by omega, by omega⟩, wrap_id ⟨by omega, by omega⟩]
    by_cases h : (i : Int) * (c : Int) + (j : Int) < (l.length : Int)
    · obtain ⟨r, h1, h2⟩ := ih (j + 1) (row.set j (rd l ((i : Int) * (c : Int) + (j : Int)))) (by omega) (by simp; omega) (fun x hx' => by
        rcases List.mem_or_eq_of_mem_set hx' with h' | rfl
        · exact hx x h'
        · exact hI _ (rd_mem (by omega) h))
      refine ⟨r, Ev.step (f := fun k => marblerunlaw11_square.l1 k l a m (c : Int) (i : Int) (row.set j (rd l ((i : Int) * (c : Int) + (j : Int)))) ((j + 1 : Nat) : Int)) (fun k => ?_) h1, h2⟩
      simp only [marblerunlaw11_square.l1]
      rw [if_pos (by omega), ei, if_pos h, if_pos (by omega), if_pos (by omega), if_pos (by omega), ew, Int.toNat_natCast]
    · obtain ⟨r, h1, h2⟩ := ih (j + 1) row (by omega) hr hx
      refine ⟨r, Ev.step (f := fun k => marblerunlaw11_square.l1 k l a m (c : Int) (i : Int) row ((j + 1 : Nat) : Int)) (fun k => ?_) h1, h2⟩
      simp only [marblerunlaw11_square.l1]
      rw [if_pos (by omega), ei, if_neg h, ew]
theorem square_loop (l : List Int) (hl : l.length ≤ 30) (hI : ∀ x ∈ l, I x) (a : Int) (n : Nat) (hn : n ≤ 4) (ha : wrap64 (Int.tmod a 5) = (n : Int)) (c : Nat) (hc : c ≤ 4) (d : Nat) :
    ∀ (i : Nat) (m : List (List Int)), n = i + d → m.length = i → Rect c m → ∃ r, Ev (fun k => marblerunlaw11_square.l0 k l a m (c : Int) (i : Int)) r ∧ r.length = n ∧ Rect c r := by
  induction d with
  | zero =>
    intro i m hi hm hR
    exact ⟨m, Ev.step (f := fun _ => some m) (fun k => by simp only [marblerunlaw11_square.l0]; rw [ha, if_neg (by omega)]) (Ev.now _), by omega, hR⟩
  | succ d ih =>
    intro i m hi hm hR
    obtain ⟨r, h1, h2⟩ := square_row l hl hI a c hc m (by omega) i (by omega) (fun r => r.length = n ∧ Rect c r) (fun row hr hx => by
      rw [show wrap64 ((i : Int) + 1) = ((i + 1 : Nat) : Int) by rw [wrap_add (n := n) (by omega) (by omega) (by omega)]; rfl]
      exact ih (i + 1) (m ++ [row]) (by omega) (by simp; omega) ⟨fun q hq => by
        rcases List.mem_append.1 hq with h | h
        · exact hR.1 q h
        · rw [List.mem_singleton.1 h]; exact hr, fun q hq => by
        rcases List.mem_append.1 hq with h | h
        · exact hR.2 q h
        · rw [List.mem_singleton.1 h]; exact hx⟩) c 0 (List.replicate c 0) (by simp) (by simp) (fun x hx => by rw [List.mem_replicate] at hx; rw [hx.2]; decide)
    refine ⟨r, Ev.step (f := fun k => marblerunlaw11_square.l1 k l a m (c : Int) (i : Int) (List.replicate c 0) 0) (fun k => ?_) h1, h2⟩
    simp only [marblerunlaw11_square.l0]
    rw [ha, if_pos (by omega), if_pos (by omega), if_pos (by omega), Int.toNat_natCast]
theorem byte5 {a : Int} (h : 0 ≤ a ∧ a ≤ 255) : ∃ n : Nat, n ≤ 4 ∧ wrap64 (Int.tmod a 5) = (n : Int) := by
  refine ⟨(a % 5).toNat, by omega, ?_⟩
  rw [Int.tmod_eq_emod_of_nonneg (by omega), wrap_id (by unfold I; omega)]; omega
theorem square_ev (l : List Int) (hl : l.length ≤ 30) (hI : ∀ x ∈ l, I x) {a b : Int} (n c : Nat) (hn : n ≤ 4) (hc : c ≤ 4) (ha : wrap64 (Int.tmod a 5) = (n : Int)) (hb : wrap64 (Int.tmod b 5) = (c : Int)) :
    ∃ m, Ev (fun k => marblerunlaw11_square.f k l a b) m ∧ m.length = n ∧ Rect c m := by
  obtain ⟨m, h1, h2⟩ := square_loop l hl hI a n hn ha c hc n 0 [] (by simp) rfl ⟨fun _ h => by simp at h, fun _ h => by simp at h⟩
  refine ⟨m, ?_, h2⟩
  unfold marblerunlaw11_square.f
  rw [hb]
  exact h1
theorem byte_of {a : Int} (wa : (Lit.int .u8 a).wf = true) : 0 ≤ a ∧ a ≤ 255 := by
  simp [Lit.wf, IntKind.min, IntKind.max, IntKind.bits, IntKind.signed] at wa; omega

theorem awake_ev : Ev (fun k => marblerunlaw11_awake.f k) true := Ev.of (k := 40) marblerunlaw11_awake.mono (by kernel_rfl)

/-- A left product, as it is told. -/
def LSpec (v : List Int) (m : List (List Int)) (c : Nat) (x : List Int) (ok : Bool) : Prop :=
  (ok = true → v.length = m.length ∧ (m ≠ [] → x.length = c ∧ ∀ j : Nat, j < c → (dotS 0 v (col m j)).2 = true ∧ rd x (j : Int) = (dotS 0 v (col m j)).1)) ∧
  (ok = false → x = [] ∧ (v.length ≠ m.length ∨ (m ≠ [] ∧ ∃ j : Nat, j < c ∧ (dotS 0 v (col m j)).2 = false)))
theorem lspec (v : List Int) (m : List (List Int)) (c : Nat) (p : List Int × Bool) (hp : p = if v.length = m.length then told (seqS (dotS 0 v) (turnS m c)) else ([], false)) : LSpec v m c p.1 p.2 := by
  subst hp
  by_cases h : v.length = m.length
  · rw [if_pos h]
    by_cases hm : m = []
    · have : turnS m c = [] := by unfold turnS; rw [if_pos hm]
      rw [this]
      exact ⟨fun _ => ⟨h, fun hn => absurd hm hn⟩, fun hf => by simp [seqS, told] at hf⟩
    · have ht : turnS m c = (List.range c).map (col m) := by unfold turnS; rw [if_neg hm]
      rw [ht]
      cases hs : seqS (dotS 0 v) ((List.range c).map (col m)) with
      | none =>
        refine ⟨fun hf => by simp [told] at hf, fun _ => ⟨rfl, .inr ⟨hm, ?_⟩⟩⟩
        obtain ⟨i, hi, hf⟩ := seqS_none hs
        simp at hi
        exact ⟨i, hi, by simpa using hf⟩
      | some r =>
        obtain ⟨h1, h2⟩ := seqS_some hs
        refine ⟨fun _ => ⟨h, fun _ => ⟨by simpa [told] using h1, fun j hj => ?_⟩⟩, fun hf => by simp [told] at hf⟩
        have := h2 j (by simpa using hj)
        simpa [told] using this
  · rw [if_neg h]
    exact ⟨fun hf => by simp at hf, fun _ => ⟨rfl, .inl h⟩⟩
/-- A right product, as it is told. -/
def RSpec (v : List Int) (m : List (List Int)) (c : Nat) (y : List Int) (ok : Bool) : Prop :=
  (ok = true → y.length = m.length ∧ ∀ i : Nat, i < m.length → (dotS 0 (rd_L1 m (i : Int)) v).2 = true ∧ v.length = c ∧ rd y (i : Int) = (dotS 0 (rd_L1 m (i : Int)) v).1) ∧
  (ok = false → y = [] ∧ ∃ i : Nat, i < m.length ∧ ((dotS 0 (rd_L1 m (i : Int)) v).2 = false ∨ v.length ≠ c))
theorem rspec (v : List Int) (m : List (List Int)) (c : Nat) (hR : ∀ r ∈ m, r.length = c) (p : List Int × Bool) (hp : p = told (seqS (rowS v) m)) : RSpec v m c p.1 p.2 := by
  subst hp
  cases hs : seqS (rowS v) m with
  | none =>
    refine ⟨fun hf => by simp [told] at hf, fun _ => ⟨rfl, ?_⟩⟩
    obtain ⟨i, hi, hf⟩ := seqS_none hs
    refine ⟨i, hi, ?_⟩
    rw [rdL_lt hi]
    have hl := hR _ (List.getElem_mem hi)
    unfold rowS at hf
    split at hf
    · exact .inl hf
    · exact .inr (by omega)
  | some r =>
    obtain ⟨h1, h2⟩ := seqS_some hs
    refine ⟨fun _ => ⟨h1, fun i hi => ?_⟩, fun hf => by simp [told] at hf⟩
    have := h2 i hi
    have hl := hR _ (List.getElem_mem hi)
    rw [rdL_lt hi]
    unfold rowS at this
    split at this
    · rename_i he
      exact ⟨this.1, by omega, this.2⟩
    · simp at this
theorem times_col (v : List Int) (m : List (List Int)) (c : Nat) (hm : ∀ r ∈ m, r.length = c) (hml : m.length ≤ 4) (x y : List Int) (ok is can : Bool) (j : Nat) (hj : j < c) (r : Bool)
    (hend : Ev (fun k => marblerunlaw11_MatrixTimes.l1 k v m x ok y is (c : Int) can (j : Int) (col m j) (m.length : Int)) r) (d : Nat) :
    ∀ i : Nat, m.length = i + d → Ev (fun k => marblerunlaw11_MatrixTimes.l1 k v m x ok y is (c : Int) can (j : Int) (col (m.take i) j) (i : Int)) r := by
  induction d with
  | zero => intro i hi; rw [List.take_of_length_le (by omega), show (i : Int) = (m.length : Int) by omega]; exact hend
  | succ d ih =>
    intro i hi
    have hn := ih (i + 1) (by omega)
    rw [takeL_snoc (by omega), col_snoc] at hn
    have hl := hm _ (rdL_mem (m := m) (i := i) (by omega))
    have ew : wrap64 ((i : Int) + 1) = ((i + 1 : Nat) : Int) := by rw [wrap_add (n := m.length) (by omega) (by omega) (by omega)]; rfl
    have hcl : (col (m.take i) j).length < 17592186044416 := by simp [col]; omega
    refine Ev.step (f := fun k => marblerunlaw11_MatrixTimes.l1 k v m x ok y is (c : Int) can (j : Int) (col (m.take i) j ++ [rd (rd_L1 m (i : Int)) (j : Int)]) ((i + 1 : Nat) : Int)) (fun k => ?_) hn
    simp only [marblerunlaw11_MatrixTimes.l1]
    rw [if_pos (by omega), if_pos (by omega), if_pos (by omega), if_pos (by omega), if_pos hcl, ew]
theorem times_cols (v : List Int) (m : List (List Int)) (c : Nat) (hR : Rect c m) (hml : m.length ≤ 4) (hc : c ≤ 4) (hv : ∀ q ∈ v, I q) (hvl : v.length ≤ 8) (x y : List Int) (ok is : Bool) (hL : LSpec v m c x ok) (hlen : v.length = m.length) (r : Bool)
    (hend : Ev (fun k => marblerunlaw11_MatrixTimes.j4 k v m x ok y is (c : Int) ok) r) (d : Nat) :
    ∀ j : Nat, c = j + d → (ok = false → m ≠ [] → ∃ q : Nat, j ≤ q ∧ q < c ∧ (dotS 0 v (col m q)).2 = false) → (ok = false → m ≠ []) → Ev (fun k => marblerunlaw11_MatrixTimes.l0 k v m x ok y is (c : Int) true (j : Int)) r := by
  induction d with
  | zero =>
    intro j hj hf hf2
    have hok : ok = true := by
      cases ok with
      | true => rfl
      | false => obtain ⟨q, h1, h2, _⟩ := hf rfl (hf2 rfl); omega
    rw [hok] at hend
    rw [hok]
    refine Ev.step (f := fun k => marblerunlaw11_MatrixTimes.j2 k v m x true y is (c : Int) true (j : Int) false) (fun k => ?_) ?_
    · simp only [marblerunlaw11_MatrixTimes.l0]
      rw [if_pos trivial, decide_eq_false (by omega)]
      split <;> rfl
    · exact Ev.step (f := fun k => marblerunlaw11_MatrixTimes.j4 k v m x true y is (c : Int) true) (fun k => by simp [marblerunlaw11_MatrixTimes.j2]) hend
  | succ d ih =>
    intro j hj hf hf2
    by_cases hm : m = []
    · have hok : ok = true := by
        cases ok with
        | true => rfl
        | false => exact absurd hm (hf2 rfl)
      rw [hok] at hend
      rw [hok]
      refine Ev.step (f := fun k => marblerunlaw11_MatrixTimes.j2 k v m x true y is (c : Int) true (j : Int) false) (fun k => ?_) ?_
      · simp only [marblerunlaw11_MatrixTimes.l0]
        rw [if_pos trivial, if_neg (by rw [hm]; simp)]
      · exact Ev.step (f := fun k => marblerunlaw11_MatrixTimes.j4 k v m x true y is (c : Int) true) (fun k => by simp [marblerunlaw11_MatrixTimes.j2]) hend
    · have hmp : 0 < m.length := by
        rcases Nat.eq_zero_or_pos m.length with h | h
        · exact absurd (List.eq_nil_of_length_eq_zero h) hm
        · exact h
      refine Ev.step (f := fun k => marblerunlaw11_MatrixTimes.j2 k v m x ok y is (c : Int) true (j : Int) true) (fun k => ?_) ?_
      · simp only [marblerunlaw11_MatrixTimes.l0]
        rw [if_pos trivial, if_pos (by omega), decide_eq_true (by omega)]
      · refine Ev.step (f := fun k => marblerunlaw11_MatrixTimes.l1 k v m x ok y is (c : Int) true (j : Int) ([] : List Int) 0) (fun k => by simp [marblerunlaw11_MatrixTimes.j2]) ?_
        have hcI : ∀ q ∈ col m j, I q := by
          intro q hq
          unfold col at hq
          obtain ⟨w, hw, rfl⟩ := List.mem_map.1 hq
          have := hR.1 w hw
          exact hR.2 w hw _ (rd_mem (by omega) (by omega))
        have hdot := rdot_ev (a := v) (b := col m j) hv hcI (by omega)
        have ew : wrap64 ((j : Int) + 1) = ((j + 1 : Nat) : Int) := by rw [wrap_add (n := c) (by omega) (by omega) (by omega)]; rfl
        have h0 := times_col v m c hR.1 hml x y ok is true j (by omega) r ?_ m.length 0 (by simp)
        · simpa [col] using h0
        · refine Ev.step (f := fun k => (marblerunref01_Dot.f k v (col m j)).bind fun q => (if q.2 = true then (if ok = true then (if (x.length : Int) = (c : Int) then (if 0 ≤ (j : Int) then (if (j : Int) < (x.length : Int) then (if (rd x (j : Int)) = q.1 then (marblerunlaw11_MatrixTimes.l0 k v m x ok y is (c : Int) true ((j + 1 : Nat) : Int)) else (some false)) else (none)) else (none)) else (some false)) else (marblerunlaw11_MatrixTimes.l0 k v m x ok y is (c : Int) true ((j + 1 : Nat) : Int))) else (marblerunlaw11_MatrixTimes.j4 k v m x ok y is (c : Int) false))) (fun k => ?_) ?_
          · simp only [marblerunlaw11_MatrixTimes.l1]
            rw [if_neg (by omega), ew]
          · refine Ev.bind hdot ?_
            cases hok : ok with
            | true =>
              obtain ⟨_, hs⟩ := hL.1 hok
              obtain ⟨hxl, hx⟩ := hs hm
              obtain ⟨h1, h2⟩ := hx j (by omega)
              have c1 : (x.length : Int) = (c : Int) := by omega
              have c2 : (0 : Int) ≤ (j : Int) := by omega
              have c3 : (j : Int) < (x.length : Int) := by omega
              simp only [h1, if_true, if_pos c1, if_pos c2, if_pos c3, if_pos h2]
              have := ih (j + 1) (by omega) (fun h => by rw [hok] at h; cases h) (fun h => by rw [hok] at h; cases h)
              rw [hok] at this
              exact this
            | false =>
              by_cases h1 : (dotS 0 v (col m j)).2 = true
              · simp only [h1, if_true, Bool.false_eq_true, if_false]
                have := ih (j + 1) (by omega) (fun h _ => by
                  obtain ⟨q, q1, q2, q3⟩ := hf h hm
                  refine ⟨q, ?_, q2, q3⟩
                  rcases Nat.lt_or_ge j q with h' | h'
                  · exact h'
                  · have : q = j := by omega
                    rw [this] at q3; rw [q3] at h1; cases h1) hf2
                rw [hok] at this
                exact this
              · simp only [if_neg h1]
                rw [hok] at hend
                exact hend
theorem times_rows (v : List Int) (m : List (List Int)) (c : Nat) (hR : Rect c m) (hml : m.length ≤ 4) (hc : c ≤ 4) (hv : ∀ q ∈ v, I q) (y : List Int) (is : Bool) (hS : RSpec v m c y is) (d : Nat) :
    ∀ i : Nat, m.length = i + d → (is = false → ∃ q : Nat, i ≤ q ∧ q < m.length ∧ ((dotS 0 (rd_L1 m (q : Int)) v).2 = false ∨ v.length ≠ c)) → Ev (fun k => marblerunlaw11_MatrixTimes.l2 k v m y is (c : Int) true (i : Int)) true := by
  induction d with
  | zero =>
    intro i hi hf
    cases is with
    | true => exact Ev.step (f := fun _ => some true) (fun k => by simp only [marblerunlaw11_MatrixTimes.l2]; rw [if_neg (by omega)]; rfl) (Ev.now _)
    | false => obtain ⟨q, h1, h2, _⟩ := hf rfl; omega
  | succ d ih =>
    intro i hi hf
    have hmem := rdL_mem (m := m) (i := i) (by omega)
    have hdot := rdot_ev (a := rd_L1 m (i : Int)) (b := v) (hR.2 _ hmem) hv (by have := hR.1 _ hmem; omega)
    have ew : wrap64 ((i : Int) + 1) = ((i + 1 : Nat) : Int) := by rw [wrap_add (n := m.length) (by omega) (by omega) (by omega)]; rfl
    refine Ev.step (f := fun k => (marblerunref01_Dot.f k (rd_L1 m (i : Int)) v).bind fun q => (if q.2 = true then (marblerunlaw11_MatrixTimes.j7 k v m y is (c : Int) true (i : Int) q.1 ((v.length : Int) != (c : Int))) else (marblerunlaw11_MatrixTimes.j7 k v m y is (c : Int) true (i : Int) q.1 true))) (fun k => by simp only [marblerunlaw11_MatrixTimes.l2]; rw [if_pos (by omega), if_pos (by omega)]) ?_
    refine Ev.bind hdot ?_
    have bad : is = false → Ev (fun k => marblerunlaw11_MatrixTimes.j7 k v m y is (c : Int) true (i : Int) (dotS 0 (rd_L1 m (i : Int)) v).1 true) true := by
      intro hi'
      have hy := (hS.2 hi').1
      subst hy
      rw [hi']
      exact Ev.step (f := fun _ => some true) (fun k => by simp [marblerunlaw11_MatrixTimes.j7]) (Ev.now _)
    cases his : is with
    | true =>
      obtain ⟨hyl, hy⟩ := hS.1 his
      obtain ⟨h1, h2, h3⟩ := hy i (by omega)
      simp only [h1, if_true]
      rw [show ((v.length : Int) != (c : Int)) = false by rw [h2]; simp]
      have hn := ih (i + 1) (by omega) (fun h => by rw [his] at h; cases h)
      rw [his] at hn
      refine Ev.step (f := fun k => marblerunlaw11_MatrixTimes.l2 k v m y true (c : Int) true ((i + 1 : Nat) : Int)) (fun k => ?_) hn
      simp only [marblerunlaw11_MatrixTimes.j7, Bool.false_eq_true, if_false, if_true]
      rw [if_pos (by omega), if_pos (by omega), if_pos (by omega), if_pos h3, ew]
    | false =>
      rw [his] at bad
      by_cases h1 : (dotS 0 (rd_L1 m (i : Int)) v).2 = true
      · simp only [h1, if_true]
        by_cases h2 : v.length = c
        · rw [show ((v.length : Int) != (c : Int)) = false by rw [h2]; simp]
          have hn := ih (i + 1) (by omega) (fun h => by
            obtain ⟨q, q1, q2, q3⟩ := hf h
            refine ⟨q, ?_, q2, q3⟩
            rcases Nat.lt_or_ge i q with h' | h'
            · exact h'
            · have : q = i := by omega
              subst this
              rcases q3 with q3 | q3
              · rw [q3] at h1; cases h1
              · exact absurd h2 q3)
          rw [his] at hn
          refine Ev.step (f := fun k => marblerunlaw11_MatrixTimes.l2 k v m y false (c : Int) true ((i + 1 : Nat) : Int)) (fun k => ?_) hn
          simp only [marblerunlaw11_MatrixTimes.j7, Bool.false_eq_true, if_false]
          rw [ew]
        · rw [show ((v.length : Int) != (c : Int)) = true from bne_iff_ne.2 (by omega)]
          exact bad rfl
      · simp only [if_neg h1]
        exact bad rfl
theorem MatrixTimes : marblerunlaw11_MatrixTimes.Pure := by
  intro l a b v _ _ wl wa wb _ lv wv
  refine Ev.rounds (g := fun k => marblerunlaw11_MatrixTimes.f k l a b v) ?_
  unfold marblerunlaw11_MatrixTimes.f
  refine Ev.bind awake_ev ?_
  simp only [if_true]
  have hT : Ev (fun k => marblerunlaw11_MatrixTimes.j0 k l a b v true) true := by
    refine Ev.step (f := fun k => (marblerunlaw11_awake.f k).bind fun t => some t) (fun k => by simp [marblerunlaw11_MatrixTimes.j0]) ?_
    exact Ev.bind awake_ev (Ev.now _)
  by_cases h1 : (l.length : Int) > 30
  · simp only [if_pos h1]; exact hT
  · simp only [if_neg h1]
    by_cases h2 : (v.length : Int) > 8
    · rw [decide_eq_true h2]; exact hT
    · rw [decide_eq_false h2]
      obtain ⟨n, hn, ha⟩ := byte5 (byte_of wa)
      obtain ⟨c, hc, hb⟩ := byte5 (byte_of wb)
      have hv : ∀ x ∈ v, I x := fun x hx => I_of_wf (wv x hx)
      obtain ⟨m, hm, hml, hR⟩ := square_ev l (by omega) (fun x hx => I_of_wf (wl x hx)) n c hn hc ha hb
      have hl := left_ev v m c hR.1 (by omega) (by omega) hv hR.2 (by omega)
      have hr := right_ev m v hR.2 (fun r hr => by rw [hR.1 r hr]; omega) hv (by omega)
      obtain ⟨p, hp⟩ : ∃ p, p = if v.length = m.length then told (seqS (dotS 0 v) (turnS m c)) else ([], false) := ⟨_, rfl⟩
      obtain ⟨q, hq⟩ : ∃ q, q = told (seqS (rowS v) m) := ⟨_, rfl⟩
      have hL := lspec v m c p hp
      have hS := rspec v m c hR.1 q hq
      rw [← hp] at hl
      rw [← hq] at hr
      refine Ev.step (f := fun k => (marblerunlaw11_square.f k l a b).bind fun t => ((matrix_Left.f k v t).bind fun s => ((matrix_Right.f k t v).bind fun u => (marblerunlaw11_MatrixTimes.l0 k v t s.1 s.2 u.1 u.2 (wrap64 (Int.tmod b 5)) ((v.length : Int) == (t.length : Int)) 0)))) (fun k => by simp only [marblerunlaw11_MatrixTimes.j0, Bool.false_eq_true, if_false]) ?_
      refine Ev.bind hm (Ev.bind hl (Ev.bind hr ?_))
      rw [hb]
      have hrows := times_rows v m c hR (by omega) hc hv q.1 q.2 hS m.length 0 (by simp) (fun h => by
        obtain ⟨_, i, hi, hb⟩ := hS.2 h
        exact ⟨i, by omega, hi, hb⟩)
      have h5 : Ev (fun k => marblerunlaw11_MatrixTimes.j5 k v m q.1 q.2 (c : Int) false) true :=
        Ev.step (f := fun k => marblerunlaw11_MatrixTimes.l2 k v m q.1 q.2 (c : Int) true 0) (fun k => by simp [marblerunlaw11_MatrixTimes.j5]) hrows
      have h4 : Ev (fun k => marblerunlaw11_MatrixTimes.j4 k v m p.1 p.2 q.1 q.2 (c : Int) p.2) true := by
        refine Ev.step (f := fun k => marblerunlaw11_MatrixTimes.j5 k v m q.1 q.2 (c : Int) false) (fun k => ?_) h5
        simp only [marblerunlaw11_MatrixTimes.j4, bne_self_eq_false, Bool.false_eq_true, if_false]
        cases h : p.2 with
        | true => rw [if_pos rfl]
        | false => rw [if_neg (by simp), (hL.2 h).1]; rfl
      by_cases hlen : v.length = m.length
      · rw [show ((v.length : Int) == (m.length : Int)) = true by rw [hlen]; simp]
        have := times_cols v m c hR (by omega) hc hv (by omega) p.1 q.1 p.2 q.2 hL hlen true h4 c 0 (by simp) (fun h hm' => by
          rcases (hL.2 h).2 with h' | ⟨_, j, hj, hf⟩
          · exact absurd hlen h'
          · exact ⟨j, by omega, hj, hf⟩) (fun h => by
          rcases (hL.2 h).2 with h' | ⟨hne, _⟩
          · exact absurd hlen h'
          · exact hne)
        exact this
      · rw [show ((v.length : Int) == (m.length : Int)) = false from beq_eq_false_iff_ne.2 (by omega)]
        have hok : p.2 = false := by
          cases h : p.2 with
          | false => rfl
          | true => exact absurd (hL.1 h).1 hlen
        rw [hok] at h4
        rw [hok]
        refine Ev.step (f := fun k => marblerunlaw11_MatrixTimes.j2 k v m p.1 false q.1 q.2 (c : Int) false 0 false) (fun k => by simp [marblerunlaw11_MatrixTimes.l0]) ?_
        exact Ev.step (f := fun k => marblerunlaw11_MatrixTimes.j4 k v m p.1 false q.1 q.2 (c : Int) false) (fun k => by simp [marblerunlaw11_MatrixTimes.j2]) h4
end Go.Proofs.Ytigpmhicdmjbeaa.Pure
