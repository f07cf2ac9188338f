/- The law WholeMixes is proved: for every two ints and two slices of ints the call answers true; no condition. -/
import Derived.Test.YtmmnnjphfodpnaaM1
import Derived.Test.YtmmnnjphfodpnaaPWholeMixesx
import Derived.KernelRfl
namespace Go.Proofs.Ytmmnnjphfodpnaa.Pure
open Go.RowKit Go.Proofs.Ytmmnnjphfodpnaa.PWholeMixes Go.Proofs.YtmmnnjphfodpnaaW.PrintWords Go.Proofs.YtmmnnjphfodpnaaW.PrintLast Go.Proofs.YtmmnnjphfodpnaaW.PrintMore Go.Proofs.Ytmmnnjphfodpnaa.M
theorem size_is {a : Int} (h : I a) : whole_size.f a = some (ab a) := by
  unfold I at h
  unfold whole_size.f ab
  simp only [u64]
  split
  · rw [show (-(a % 18446744073709551616)) % 18446744073709551616 = -a by omega]
  · rw [show a % 18446744073709551616 = a by omega]

theorem mul64_is {x y : Int} (hx0 : 0 ≤ x) (hx : x < 18446744073709551616) (hy0 : 0 ≤ y) (hy : y < 18446744073709551616) :
    bits_Mul64.f x y = some (x * y / 18446744073709551616, x * y % 18446744073709551616) := by
  unfold bits_Mul64.f
  rw [and32 y hy0 hy, and32 x hx0 hx]
  obtain ⟨x1, hx1⟩ : ∃ z, z = x / 4294967296 := ⟨_, rfl⟩
  obtain ⟨x0, hx0'⟩ : ∃ z, z = x % 4294967296 := ⟨_, rfl⟩
  obtain ⟨y1, hy1⟩ : ∃ z, z = y / 4294967296 := ⟨_, rfl⟩
  obtain ⟨y0, hy0'⟩ : ∃ z, z = y % 4294967296 := ⟨_, rfl⟩
  rw [← hx1, ← hx0', ← hy1, ← hy0']
  have e := hi_lo (x := x) (y := y) (p0 := x0) (p1 := x1) (q0 := y0) (q1 := y1) (by omega) (by omega)
  have b11 := mul_le32 (x := x1) (y := y1) (by omega) (by omega) (by omega) (by omega)
  have b10 := mul_le32 (x := x1) (y := y0) (by omega) (by omega) (by omega) (by omega)
  have b01 := mul_le32 (x := x0) (y := y1) (by omega) (by omega) (by omega) (by omega)
  have b00 := mul_le32 (x := x0) (y := y0) (by omega) (by omega) (by omega) (by omega)
  rw [e]
  generalize x1 * y1 = p11 at *
  generalize x1 * y0 = p10 at *
  generalize x0 * y1 = p01 at *
  generalize x0 * y0 = p00 at *
  simp only [u64]
  have w11 : p11 % 18446744073709551616 = p11 := by omega
  have w10 : p10 % 18446744073709551616 = p10 := by omega
  have w01 : p01 % 18446744073709551616 = p01 := by omega
  have w00 : p00 % 18446744073709551616 = p00 := by omega
  rw [w11, w10, w01, w00]
  obtain ⟨t, ht⟩ : ∃ z, z = p10 + p00 / 4294967296 := ⟨_, rfl⟩
  have wt : (p10 + p00 / 4294967296) % 18446744073709551616 = t := by omega
  rw [wt, and32 t (by omega) (by omega)]
  congr 2
  omega
theorem mul_ab (a b : Int) : ab a * ab b = if (decide (a < 0)) = (decide (b < 0)) then a * b else -(a * b) := by
  unfold ab
  by_cases ha : a < 0 <;> by_cases hb : b < 0 <;> simp [ha, hb, Int.neg_mul, Int.mul_neg]
theorem ab_le {a : Int} (h : I a) : 0 ≤ ab a ∧ ab a ≤ 9223372036854775808 := by unfold I at h; unfold ab; omega
theorem mul_ev {a b : Int} (ha : I a) (hb : I b) : Ev (fun k => whole_Mul.f k a b) (mulS a b) := by
  have hp0 := ab_le ha
  have hq0 := ab_le hb
  have hpn : 0 ≤ ab a * ab b := Int.mul_nonneg hp0.1 hq0.1
  have hm := mul_ab a b
  refine Ev.of (k := 3) (whole_Mul.mono a b) ?_
  unfold whole_Mul.f
  rw [size_is ha, size_is hb]
  simp only [Option.bind_some]
  rw [mul64_is hp0.1 (by omega) hq0.1 (by omega)]
  simp only [Option.bind_some]
  generalize hP : ab a * ab b = P at *
  have key : ∀ neg : Bool, (a * b = if neg then -P else P) → (neg = true → P ≠ 0) → whole_Mul.j0 3 (P / 18446744073709551616) (P % 18446744073709551616) neg = some (mulS a b) := by
    intro neg hn hz
    have hI : I (a * b) ↔ (if neg then P ≤ 9223372036854775808 else P ≤ 9223372036854775807) := by
      rw [hn]; unfold I; cases neg <;> simp <;> omega
    unfold mulS
    by_cases h1 : P / 18446744073709551616 > 0
    · have h2 : ¬ I (a * b) := by rw [hI]; cases neg <;> simp <;> omega
      rw [if_neg h2]; simp only [whole_Mul.j0, whole_Mul.j1]; rw [if_pos h1]; rfl
    · have e : P % 18446744073709551616 = P := by omega
      rw [e]
      simp only [whole_Mul.j0, whole_Mul.j1]
      rw [if_neg h1]
      by_cases h2 : P > 9223372036854775808
      · have h3 : ¬ I (a * b) := by rw [hI]; cases neg <;> simp <;> omega
        rw [if_neg h3, if_pos h2]; rfl
      · rw [if_neg h2]
        by_cases h4 : P = 9223372036854775808
        · rw [if_pos h4]
          cases neg with
          | true =>
            have h3 : I (a * b) := by rw [hI]; simp; omega
            rw [if_pos h3]
            simp only [Bool.not_true, if_true] at *
            rw [hn, u64]
            simp only [Bool.false_eq_true, if_false]
            congr 2
            unfold wrap64; omega
          | false =>
            have h3 : ¬ I (a * b) := by rw [hI]; simp; omega
            rw [if_neg h3]; rfl
        · rw [if_neg h4]
          have h3 : I (a * b) := by rw [hI]; cases neg <;> simp <;> omega
          rw [if_pos h3]
          simp only [Bool.false_eq_true, if_false]
          cases neg with
          | true =>
            simp only [if_true] at *
            have := hz trivial
            rw [hn, u64]
            congr 2
            unfold wrap64; omega
          | false =>
            simp only [Bool.false_eq_true, if_false] at *
            rw [hn]
            congr 2
            unfold wrap64; omega
  have hne : ∀ {x : Int}, x ≠ 0 → 1 ≤ ab x := by intro x hx; unfold ab; omega
  by_cases hs : decide (a < 0) = decide (b < 0)
  · rw [if_neg (by simp [hs])]
    rw [if_pos hs] at hm
    exact key false (by simp [hm]) (by simp)
  · rw [if_pos (by simpa using hs)]
    rw [if_neg hs] at hm
    by_cases ha0 : a = 0
    · rw [if_pos ha0]
      refine key false ?_ (by simp)
      subst ha0; simp only [Int.zero_mul] at hm ⊢; simp; omega
    · rw [if_neg ha0]
      by_cases hb0 : b = 0
      · rw [show (b != 0) = false by simp [hb0]]
        refine key false ?_ (by simp)
        subst hb0; simp only [Int.mul_zero] at hm ⊢; simp; omega
      · rw [show (b != 0) = true by simp [hb0]]
        refine key true (by simp; omega) (fun _ => ?_)
        rw [← hP]
        have h1 := hne ha0
        have h2 := hne hb0
        have := Int.mul_le_mul h1 h2 (by omega) (by omega)
        omega

theorem add_is {a b : Int} (ha : I a) (hb : I b) : whole_Add.f a b = some (addS a b) := by
  unfold whole_Add.f addS
  by_cases hI : I (a + b)
  · rw [if_pos hI, wrap_id hI]
    unfold I at ha hb hI
    by_cases h1 : a < 0 <;> by_cases h2 : b < 0 <;> by_cases h3 : a + b < 0 <;> simp [h1, h2, h3] <;> omega
  · rw [if_neg hI]
    unfold I at ha hb hI
    have hi := wrap_I (a + b)
    unfold I at hi
    have hw : wrap64 (a + b) = a + b - 18446744073709551616 ∨ wrap64 (a + b) = a + b + 18446744073709551616 := by unfold wrap64; omega
    by_cases h1 : a < 0 <;> by_cases h2 : b < 0 <;> by_cases h3 : wrap64 (a + b) < 0 <;> simp [h1, h2, h3] <;> omega

theorem radd_is {a b : Int} (ha : I a) (hb : I b) : marblerunref01_Add.f a b = some (addS a b) := by
  unfold I at ha hb
  have h1 : b > 0 → wrap64 (9223372036854775807 - b) = 9223372036854775807 - b := fun h => wrap_id (by unfold I; omega)
  have h2 : b < 0 → wrap64 ((-9223372036854775808) - b) = -9223372036854775808 - b := fun h => wrap_id (by unfold I; omega)
  have h3 : I (a + b) → wrap64 (a + b) = a + b := wrap_id
  unfold marblerunref01_Add.f addS
  by_cases hI : I (a + b)
  · rw [if_pos hI, h3 hI]
    unfold I at hI
    by_cases p : b > 0
    · rw [if_pos p, h1 p, if_neg (by omega), if_neg (by omega)]
    · rw [if_neg p]
      by_cases n : b < 0
      · rw [if_pos n, h2 n, if_neg (by omega)]
      · rw [if_neg n]
  · rw [if_neg hI]
    unfold I at hI
    by_cases p : b > 0
    · rw [if_pos p, h1 p, if_pos (by omega)]
    · rw [if_neg p, if_pos (by omega), h2 (by omega), if_pos (by omega)]

theorem odd_part {x y : Int} (hx0 : 1 ≤ x) (hy0 : 1 ≤ y) (hy : y ≤ 9223372036854775807) (h : x * y = 9223372036854775808) : x % 2 = 0 := by
  obtain ⟨a, rfl⟩ := Int.eq_ofNat_of_zero_le (show 0 ≤ x by omega)
  obtain ⟨b, rfl⟩ := Int.eq_ofNat_of_zero_le (show 0 ≤ y by omega)
  have hn : a * b = 2 ^ 63 := by
    have : ((a * b : Nat) : Int) = 9223372036854775808 := by rw [Int.natCast_mul]; exact h
    omega
  rcases Nat.mod_two_eq_zero_or_one a with e | e
  · omega
  · exfalso
    have hc : Nat.Coprime a 2 := by
      have h2 := Nat.gcd_rec 2 a
      rw [e] at h2
      rw [Nat.coprime_comm]
      exact h2
    have h1 := Nat.Coprime.eq_one_of_dvd (Nat.Coprime.pow_right 63 hc) ⟨b, hn.symm⟩
    rw [h1] at hn
    omega
theorem pos_mul {x y : Int} (hx0 : 1 ≤ x) (hy0 : 1 ≤ y) : 1 ≤ x * y := by
  have := Int.mul_le_mul hx0 hy0 (by omega) (by omega)
  omega
theorem half_ne {x y : Int} (ev : x % 2 = 0) (hx0 : 1 ≤ x) (hy0 : 1 ≤ y) (hle : x / 2 * y ≤ 9223372036854775807) (hE : x * y ≠ 9223372036854775808) : ¬ wrap64 (x / 2 * y) = 4611686018427387904 := by
  intro e
  have h0 : 0 ≤ x / 2 * y := Int.mul_nonneg (by omega) (by omega)
  rw [wrap_id ⟨by omega, by omega⟩] at e
  apply hE
  have : x * y = 2 * (x / 2 * y) := by rw [← Int.mul_assoc, show 2 * (x / 2) = x by omega]
  omega
theorem le_div_iff {x y : Int} (hy0 : 1 ≤ y) (hy : y ≤ 9223372036854775807) : x ≤ wrap64 (Int.tdiv 9223372036854775807 y) ↔ x * y ≤ 9223372036854775807 := by
  rw [Int.tdiv_eq_ediv_of_nonneg (by omega)]
  have h1 : 0 ≤ (9223372036854775807 : Int) / y := Int.ediv_nonneg (by omega) (by omega)
  have h2 : (9223372036854775807 : Int) / y ≤ 9223372036854775807 := Int.ediv_le_self _ (by omega)
  rw [wrap_id ⟨by omega, by omega⟩]
  exact Int.le_ediv_iff_mul_le (by omega)
theorem half_is {x : Int} (hx0 : 1 ≤ x) (hx : x ≤ 9223372036854775807) : wrap64 (Int.tdiv x 2) = x / 2 := by
  rw [Int.tdiv_eq_ediv_of_nonneg (by omega)]
  exact wrap_id ⟨by omega, by omega⟩
/-- What is left where the product lies below 0. -/
def negB (x y : Int) (J : Option (Int × Bool)) : Option (Int × Bool) := if x ≤ wrap64 (Int.tdiv (9223372036854775807 : Int) y) then some (wrap64 (-(wrap64 (x * y))), true) else
  if Int.tmod x 2 = 0 then (if wrap64 (Int.tdiv x 2) ≤ wrap64 (Int.tdiv (9223372036854775807 : Int) y) then (if wrap64 ((wrap64 (Int.tdiv x 2)) * y) = 4611686018427387904 then some ((-9223372036854775808), true) else J) else J) else J
theorem negB_is {x y : Int} {J : Option (Int × Bool)} (hx0 : 1 ≤ x) (hx : x ≤ 9223372036854775807) (hy0 : 1 ≤ y) (hy : y ≤ 9223372036854775807) (hJ : x * y ≠ 9223372036854775808 → J = some (0, false)) :
    negB x y J = some (if x * y ≤ 9223372036854775808 then (-(x * y), true) else (0, false)) := by
  have hp : 1 ≤ x * y := pos_mul hx0 hy0
  unfold negB
  simp only [le_div_iff hy0 hy, half_is hx0 hx, Int.tmod_eq_emod_of_nonneg (show 0 ≤ x by omega)]
  by_cases h : x * y ≤ 9223372036854775807
  · rw [if_pos h, if_pos (by omega), wrap_id (x := x * y) ⟨by omega, by omega⟩, wrap_id ⟨by omega, by omega⟩]
  · rw [if_neg h]
    by_cases hE : x * y = 9223372036854775808
    · have ev := odd_part hx0 hy0 hy hE
      have e2 : x / 2 * y = 4611686018427387904 := by
        have : 2 * (x / 2) * y = 9223372036854775808 := by rw [show 2 * (x / 2) = x by omega]; exact hE
        rw [Int.mul_assoc] at this; omega
      rw [if_pos ev, if_pos (by omega), e2, if_pos (wrap_id ⟨by omega, by omega⟩), if_pos (by omega), hE]
    · rw [hJ hE, if_neg (show ¬ x * y ≤ 9223372036854775808 by omega)]
      split
      · rename_i ev
        split
        · rename_i hle
          rw [if_neg (half_ne ev hx0 hy0 hle hE)]
        · rfl
      · rfl
theorem last_is {x y : Int} (hx0 : 1 ≤ x) (hx : x ≤ 9223372036854775807) (hy0 : 1 ≤ y) (hy : y ≤ 9223372036854775807) (hE : x * y ≠ 9223372036854775808) :
    (if Int.tmod y 2 = 0 then (if wrap64 (Int.tdiv y 2) ≤ wrap64 (Int.tdiv (9223372036854775807 : Int) x) then (if wrap64 ((wrap64 (Int.tdiv y 2)) * x) = 4611686018427387904 then some ((-9223372036854775808 : Int), true) else some (0, false)) else some (0, false)) else some (0, false)) = some (0, false) := by
  simp only [le_div_iff hx0 hx, half_is hy0 hy, Int.tmod_eq_emod_of_nonneg (show 0 ≤ y by omega)]
  split
  · rename_i ev
    split
    · rename_i hle
      rw [if_neg (half_ne ev hy0 hx0 hle (by rw [Int.mul_comm]; exact hE))]
    · rfl
  · rfl
theorem rmul_is {a b : Int} (ha : I a) (hb : I b) : marblerunref01_Mul.f a b = some (mulS a b) := by
  unfold marblerunref01_Mul.f
  by_cases a0 : a = 0
  · rw [if_pos a0]; subst a0; simp [mulS, I]
  rw [if_neg a0]
  by_cases b0 : b = 0
  · rw [if_pos b0]; subst b0; simp [mulS, I]
  rw [if_neg b0]
  unfold I at ha hb
  by_cases am : a = -9223372036854775808
  · rw [if_pos am, if_neg (by omega)]
    subst am
    by_cases b1 : b = 1
    · rw [if_pos b1]; subst b1; simp [mulS, I]
    · rw [if_neg b1, mulS, if_neg]
      unfold I; omega
  rw [if_neg am]
  by_cases bm : b = -9223372036854775808
  · rw [if_pos bm]
    subst bm
    by_cases a1 : a = 1
    · rw [if_pos a1]; subst a1; simp [mulS, I]
    · rw [if_neg a1, if_neg (by omega), mulS, if_neg]
      unfold I; omega
  rw [if_neg bm]
  have wa : wrap64 (-a) = -a := wrap_id ⟨by omega, by omega⟩
  have wb : wrap64 (-b) = -b := wrap_id ⟨by omega, by omega⟩
  rw [wa, wb]
  by_cases an : a < 0
  · rw [if_pos an]
    by_cases bn : b < 0
    · rw [if_pos bn, if_neg (by omega)]
      simp only [le_div_iff (x := -a) (y := -b) (by omega) (by omega), Int.neg_mul_neg]
      have hp : 1 ≤ a * b := by
        have := pos_mul (x := -a) (y := -b) (by omega) (by omega)
        rwa [Int.neg_mul_neg] at this
      by_cases h : a * b ≤ 9223372036854775807
      · rw [if_pos h, mulS, if_pos (show I (a * b) from ⟨by omega, by omega⟩), wrap_id ⟨by omega, by omega⟩]
      · rw [if_neg h, mulS, if_neg (by unfold I; omega)]
    · rw [if_neg bn]
      refine Eq.trans (show _ = negB (-a) b _ from rfl) ?_
      rw [negB_is (by omega) (by omega) (by omega) (by omega) (fun hE => by rw [if_neg (show ¬ -a = 0 by omega)]; exact last_is (by omega) (by omega) (by omega) (by omega) hE), Int.neg_mul, Int.neg_neg]
      have hp : a * b ≤ -1 := by
        have := pos_mul (x := -a) (y := b) (by omega) (by omega)
        rw [Int.neg_mul] at this; omega
      by_cases h : -(a * b) ≤ 9223372036854775808
      · rw [if_pos h, mulS, if_pos (show I (a * b) from ⟨by omega, by omega⟩)]
      · rw [if_neg h, mulS, if_neg (by unfold I; omega)]
  · rw [if_neg an]
    by_cases bn : b < 0
    · rw [if_pos bn, if_neg (by omega)]
      refine Eq.trans (show _ = negB a (-b) _ from rfl) ?_
      rw [negB_is (by omega) (by omega) (by omega) (by omega) (fun hE => last_is (by omega) (by omega) (by omega) (by omega) hE), Int.mul_neg, Int.neg_neg]
      have hp : a * b ≤ -1 := by
        have := pos_mul (x := a) (y := -b) (by omega) (by omega)
        rw [Int.mul_neg] at this; omega
      by_cases h : -(a * b) ≤ 9223372036854775808
      · rw [if_pos h, mulS, if_pos (show I (a * b) from ⟨by omega, by omega⟩)]
      · rw [if_neg h, mulS, if_neg (by unfold I; omega)]
    · rw [if_neg bn]
      have hp : 1 ≤ a * b := pos_mul (by omega) (by omega)
      simp only [le_div_iff (x := a) (y := b) (by omega) (by omega)]
      by_cases h : a * b ≤ 9223372036854775807
      · rw [if_pos h, mulS, if_pos (show I (a * b) from ⟨by omega, by omega⟩), wrap_id ⟨by omega, by omega⟩]
      · rw [if_neg h, mulS, if_neg (by unfold I; omega)]

theorem drop_cons {l : List Int} {i : Nat} (h : i < l.length) : l.drop i = rd l (i : Int) :: l.drop (i + 1) := by
  rw [List.drop_eq_getElem_cons h, rd_lt (by omega) (by omega)]; rfl

theorem mulS_I (a b : Int) : I (mulS a b).1 := by
  unfold mulS; split
  · assumption
  · decide
theorem dotS_cons (s a b : Int) (xs ys : List Int) : dotS s (a :: xs) (b :: ys) = if I (a * b) then (if I (s + a * b) then dotS (s + a * b) xs ys else (0, false)) else (0, false) := rfl
theorem dot_loop (l0 l1 : List Int) (h0 : ∀ x ∈ l0, I x) (h1 : ∀ x ∈ l1, I x) (hb : l0.length ≤ 9223372036854775806) (d : Nat) :
    ∀ (i : Nat), min l0.length l1.length = i + d → ∀ s, I s → Ev (fun k => whole_Dot.l0 k l0 l1 s ((min l0.length l1.length : Nat) : Int) (i : Int)) (dotS s (l0.drop i) (l1.drop i)) := by
  induction d with
  | zero =>
    intro i hi s hs
    refine Ev.step (f := fun _ => some (s, true)) (fun k => by simp only [whole_Dot.l0]; rw [if_neg (by omega)]) ?_
    have : dotS s (l0.drop i) (l1.drop i) = (s, true) := by
      by_cases h : l0.length ≤ i
      · rw [List.drop_eq_nil_of_le h]; rfl
      · rw [List.drop_eq_nil_of_le (show l1.length ≤ i by omega)]; cases l0.drop i <;> rfl
    rw [this]; exact Ev.now _
  | succ d ih =>
    intro i hi s hs
    have e0 := drop_cons (l := l0) (i := i) (by omega)
    have e1 := drop_cons (l := l1) (i := i) (by omega)
    rw [e0, e1, dotS_cons]
    have i0 := h0 _ (rd_mem (xs := l0) (i := (i : Int)) (by omega) (by omega))
    have i1 := h1 _ (rd_mem (xs := l1) (i := (i : Int)) (by omega) (by omega))
    refine Ev.step (f := fun k => (whole_Mul.f k (rd l0 (i : Int)) (rd l1 (i : Int))).bind fun p => ((whole_Add.f s p.1).bind fun q => (if p.2 = true then (if q.2 = true then (whole_Dot.l0 k l0 l1 q.1 ((min l0.length l1.length : Nat) : Int) (wrap64 ((i : Int) + 1))) else (some (0, false))) else (some (0, false))))) (fun k => by simp only [whole_Dot.l0]; rw [if_pos (by omega), if_pos (by omega), if_pos (by omega), if_pos (by omega)]) ?_
    refine Ev.bind (mul_ev i0 i1) ?_
    refine Ev.congr (f := fun k => (if (mulS (rd l0 (i : Int)) (rd l1 (i : Int))).2 = true then (if (addS s (mulS (rd l0 (i : Int)) (rd l1 (i : Int))).1).2 = true then (whole_Dot.l0 k l0 l1 (addS s (mulS (rd l0 (i : Int)) (rd l1 (i : Int))).1).1 ((min l0.length l1.length : Nat) : Int) (wrap64 ((i : Int) + 1))) else (some (0, false))) else (some (0, false)))) (fun k => by rw [add_is hs (mulS_I _ _)]; rfl) ?_
    rw [wrap_add (n := l0.length) (by omega) (by omega) (by omega)]
    by_cases hm : I (rd l0 (i : Int) * rd l1 (i : Int))
    · rw [if_pos hm]
      have em : mulS (rd l0 (i : Int)) (rd l1 (i : Int)) = (rd l0 (i : Int) * rd l1 (i : Int), true) := by rw [mulS, if_pos hm]
      rw [em]
      by_cases ha : I (s + rd l0 (i : Int) * rd l1 (i : Int))
      · rw [if_pos ha]
        have ea : addS s (rd l0 (i : Int) * rd l1 (i : Int)) = (s + rd l0 (i : Int) * rd l1 (i : Int), true) := by rw [addS, if_pos ha]
        simp only [ea, if_true]
        have := ih (i + 1) (by omega) _ ha
        simpa only [Int.natCast_add, Int.natCast_one] using this
      · rw [if_neg ha]
        have ea : addS s (rd l0 (i : Int) * rd l1 (i : Int)) = (0, false) := by rw [addS, if_neg ha]
        simp only [ea, if_true, Bool.false_eq_true, if_false]
        exact Ev.now _
    · rw [if_neg hm]
      have em : mulS (rd l0 (i : Int)) (rd l1 (i : Int)) = (0, false) := by rw [mulS, if_neg hm]
      rw [em]
      simp only [Bool.false_eq_true, if_false]
      exact Ev.now _
theorem dot_ev {a b : List Int} (h0 : ∀ x ∈ a, I x) (h1 : ∀ x ∈ b, I x) (hb : a.length ≤ 9223372036854775806) : Ev (fun k => whole_Dot.f k a b) (dotS 0 a b) := by
  have h := dot_loop a b h0 h1 hb (min a.length b.length) 0 (by simp) 0 (by decide)
  have e : mn (a.length : Int) (b.length : Int) = ((min a.length b.length : Nat) : Int) := by unfold mn; omega
  unfold whole_Dot.f
  rw [e]
  simpa using h

theorem rdot_end (l0 l1 : List Int) (i : Nat) (s : Int) (h : min l0.length l1.length ≤ i) : Ev (fun k => marblerunref01_Dot.l0 k l0 l1 s (i : Int)) (s, true) := by
  by_cases h0 : (i : Int) < (l0.length : Int)
  · refine Ev.step (f := fun k => marblerunref01_Dot.j1 k l0 l1 s (i : Int) (decide ((i : Int) < (l1.length : Int)))) (fun k => by simp only [marblerunref01_Dot.l0]; rw [if_pos h0]) ?_
    rw [show decide ((i : Int) < (l1.length : Int)) = false from decide_eq_false (by omega)]
    exact Ev.step (f := fun _ => some (s, true)) (fun k => by simp [marblerunref01_Dot.j1]) (Ev.now _)
  · refine Ev.step (f := fun k => marblerunref01_Dot.j1 k l0 l1 s (i : Int) false) (fun k => by simp only [marblerunref01_Dot.l0]; rw [if_neg h0]) ?_
    exact Ev.step (f := fun _ => some (s, true)) (fun k => by simp [marblerunref01_Dot.j1]) (Ev.now _)
theorem rdot_loop (l0 l1 : List Int) (h0 : ∀ x ∈ l0, I x) (h1 : ∀ x ∈ l1, I x) (hb : l0.length ≤ 9223372036854775806) (d : Nat) :
    ∀ (i : Nat), min l0.length l1.length = i + d → ∀ s, I s → Ev (fun k => marblerunref01_Dot.l0 k l0 l1 s (i : Int)) (dotS s (l0.drop i) (l1.drop i)) := by
  induction d with
  | zero =>
    intro i hi s hs
    have : dotS s (l0.drop i) (l1.drop i) = (s, true) := by
      by_cases h : l0.length ≤ i
      · rw [List.drop_eq_nil_of_le h]; rfl
      · rw [List.drop_eq_nil_of_le (show l1.length ≤ i by omega)]; cases l0.drop i <;> rfl
    rw [this]; exact rdot_end l0 l1 i s (by omega)
  | succ d ih =>
    intro i hi s hs
    have e0 := drop_cons (l := l0) (i := i) (by omega)
    have e1 := drop_cons (l := l1) (i := i) (by omega)
    rw [e0, e1, dotS_cons]
    have i0 := h0 _ (rd_mem (xs := l0) (i := (i : Int)) (by omega) (by omega))
    have i1 := h1 _ (rd_mem (xs := l1) (i := (i : Int)) (by omega) (by omega))
    refine Ev.step (f := fun k => marblerunref01_Dot.j1 k l0 l1 s (i : Int) true) (fun k => by simp only [marblerunref01_Dot.l0]; rw [if_pos (by omega), decide_eq_true (by omega)]) ?_
    refine Ev.step (f := fun k => if (mulS (rd l0 (i : Int)) (rd l1 (i : Int))).2 = true then (if (addS s (mulS (rd l0 (i : Int)) (rd l1 (i : Int))).1).2 = true then (marblerunref01_Dot.l0 k l0 l1 (addS s (mulS (rd l0 (i : Int)) (rd l1 (i : Int))).1).1 (wrap64 ((i : Int) + 1))) else (some (0, false))) else (some (0, false))) (fun k => by
      simp only [marblerunref01_Dot.j1]; rw [if_pos trivial, if_pos (by omega), if_pos (by omega), if_pos (by omega), rmul_is i0 i1]; simp only [Option.bind_some]; rw [radd_is hs (mulS_I _ _)]; rfl) ?_
    rw [wrap_add (n := l0.length) (by omega) (by omega) (by omega)]
    by_cases hm : I (rd l0 (i : Int) * rd l1 (i : Int))
    · rw [if_pos hm]
      have em : mulS (rd l0 (i : Int)) (rd l1 (i : Int)) = (rd l0 (i : Int) * rd l1 (i : Int), true) := by rw [mulS, if_pos hm]
      rw [em]
      by_cases ha : I (s + rd l0 (i : Int) * rd l1 (i : Int))
      · rw [if_pos ha]
        have ea : addS s (rd l0 (i : Int) * rd l1 (i : Int)) = (s + rd l0 (i : Int) * rd l1 (i : Int), true) := by rw [addS, if_pos ha]
        simp only [ea, if_true]
        have := ih (i + 1) (by omega) _ ha
        simpa only [Int.natCast_add, Int.natCast_one] using this
      · rw [if_neg ha]
        have ea : addS s (rd l0 (i : Int) * rd l1 (i : Int)) = (0, false) := by rw [addS, if_neg ha]
        simp only [ea, if_true, Bool.false_eq_true, if_false]
        exact Ev.now _
    · rw [if_neg hm]
      have em : mulS (rd l0 (i : Int)) (rd l1 (i : Int)) = (0, false) := by rw [mulS, if_neg hm]
      rw [em]
      simp only [Bool.false_eq_true, if_false]
      exact Ev.now _
theorem rdot_ev {a b : List Int} (h0 : ∀ x ∈ a, I x) (h1 : ∀ x ∈ b, I x) (hb : a.length ≤ 9223372036854775806) : Ev (fun k => marblerunref01_Dot.f k a b) (dotS 0 a b) := by
  have h := rdot_loop a b h0 h1 hb (min a.length b.length) 0 (by simp) 0 (by decide)
  unfold marblerunref01_Dot.f
  simpa using h

/-- So much of one number, and so much of another one; none: it is no number, or the least one. -/
def mixS (a b : Int) : List Int → List Int → Option (List Int)
  | x :: xs, y :: ys => if (dotS 0 [a, b] [x, y]).2 = true then (if (dotS 0 [a, b] [x, y]).1 = -9223372036854775808 then none else (mixS a b xs ys).map ((dotS 0 [a, b] [x, y]).1 :: ·)) else none
  | _, _ => some []
theorem mixS_cons (a b x y : Int) (xs ys : List Int) : mixS a b (x :: xs) (y :: ys) = if (dotS 0 [a, b] [x, y]).2 = true then (if (dotS 0 [a, b] [x, y]).1 = -9223372036854775808 then none else (mixS a b xs ys).map ((dotS 0 [a, b] [x, y]).1 :: ·)) else none := rfl
theorem mixS_nil (a b : Int) (xs ys : List Int) (h : xs = [] ∨ ys = []) : mixS a b xs ys = some [] := by
  rcases h with rfl | rfl
  · rfl
  · cases xs <;> rfl
theorem mixS_length {a b : Int} (xs : List Int) : ∀ (ys r : List Int), mixS a b xs ys = some r → r.length = min xs.length ys.length := by
  induction xs with
  | nil => intro ys r h; rw [mixS_nil _ _ _ _ (.inl rfl)] at h; cases h; simp
  | cons x xs ih =>
    intro ys r h
    cases ys with
    | nil => rw [mixS_nil _ _ _ _ (.inr rfl)] at h; cases h; simp
    | cons y ys =>
      rw [mixS_cons] at h
      split at h
      · split at h
        · cases h
        · obtain ⟨q, hq, rfl⟩ := Option.map_eq_some_iff.1 h
          have := ih ys q hq
          simp only [List.length_cons, this]; omega
      · cases h
theorem two_I {a b : Int} (ha : I a) (hb : I b) : ∀ x ∈ [a, b], I x := by
  intro x hx; simp at hx; rcases hx with rfl | rfl <;> assumption
theorem mix_loop (a b : Int) (ha : I a) (hb : I b) (xs ys : List Int) (hx : ∀ x ∈ xs, I x) (hy : ∀ y ∈ ys, I y) (n : Nat) (hn : n = min xs.length ys.length) (hbd : n ≤ 35184372088832) (d : Nat) :
    ∀ (i : Nat) (done : List Int), n = i + d → done.length = i →
      Ev (fun k => whole_Mix.l0 k a xs b ys (done ++ List.replicate d 0) (n : Int) (i : Int)) (match mixS a b (xs.drop i) (ys.drop i) with | some r => (done ++ r, true) | none => ([], false)) := by
  induction d with
  | zero =>
    intro i done hi hd
    rw [mixS_nil _ _ _ _ (by
      by_cases h : xs.length ≤ i
      · exact .inl (List.drop_eq_nil_of_le h)
      · exact .inr (List.drop_eq_nil_of_le (by omega)))]
    exact Ev.step (f := fun _ => some (done ++ [], true)) (fun k => by simp only [whole_Mix.l0]; rw [if_neg (by omega)]; rfl) (Ev.now _)
  | succ d ih =>
    intro i done hi hd
    have ix := hx _ (rd_mem (xs := xs) (i := (i : Int)) (by omega) (by omega))
    have iy := hy _ (rd_mem (xs := ys) (i := (i : Int)) (by omega) (by omega))
    rw [drop_cons (l := xs) (i := i) (by omega), drop_cons (l := ys) (i := i) (by omega), mixS_cons]
    have hdot := dot_ev (two_I ha hb) (two_I ix iy) (by simp)
    generalize dotS 0 [a, b] [rd xs (i : Int), rd ys (i : Int)] = p at *
    refine Ev.step (f := fun k => (whole_Dot.f k [a, b] [rd xs (i : Int), rd ys (i : Int)]).bind fun q => (if q.2 = true then (if q.1 = (-9223372036854775808) then (some (([] : List Int), false)) else (whole_Mix.l0 k a xs b ys ((done ++ [q.1]) ++ List.replicate d 0) (n : Int) ((i + 1 : Nat) : Int))) else (some (([] : List Int), false)))) (fun k => ?_) ?_
    · simp only [whole_Mix.l0]
      rw [if_pos (by omega), if_pos (by omega), if_pos (by omega), if_pos (by omega)]
      congr 1
      funext q
      have es : (done ++ List.replicate (d + 1) 0).set i q.1 = (done ++ [q.1]) ++ List.replicate d 0 := by
        rw [List.set_append_right _ _ (by omega), hd, Nat.sub_self, List.replicate_succ, List.set_cons_zero, List.append_assoc]; rfl
      have hlt : (i : Int) < ((done ++ List.replicate (d + 1) (0 : Int)).length : Int) := by rw [List.length_append, List.length_replicate]; omega
      simp only [if_pos hlt, Int.toNat_natCast, es]
      rw [wrap_add (n := n) (by omega) (by omega) (by omega)]
      rfl
    · refine Ev.bind hdot ?_
      by_cases h2 : p.2 = true
      · simp only [if_pos h2]
        by_cases h3 : p.1 = -9223372036854775808
        · simp only [if_pos h3]; exact Ev.now _
        · simp only [if_neg h3]
          have := ih (i + 1) (done ++ [p.1]) (by omega) (by simp; omega)
          revert this
          cases mixS a b (xs.drop (i + 1)) (ys.drop (i + 1)) with
          | none => exact fun h => h
          | some r => simp only [Option.map_some, List.append_assoc, List.singleton_append]; exact fun h => h
      · simp only [if_neg h2]; exact Ev.now _
theorem mix_ev {a b : Int} (ha : I a) (hb : I b) {xs ys : List Int} (hx : ∀ x ∈ xs, I x) (hy : ∀ y ∈ ys, I y) (hbd : min xs.length ys.length ≤ 35184372088832) :
    Ev (fun k => whole_Mix.f k a xs b ys) (match mixS a b xs ys with | some r => (r, true) | none => ([], false)) := by
  have e : mn (xs.length : Int) (ys.length : Int) = ((min xs.length ys.length : Nat) : Int) := by unfold mn; omega
  unfold whole_Mix.f
  rw [e]
  have h := mix_loop a b ha hb xs ys hx hy _ rfl hbd (min xs.length ys.length) 0 [] (by simp) rfl
  simp only [List.drop_zero, List.nil_append] at h
  refine Ev.congr (f := fun k => whole_Mix.l0 k a xs b ys (List.replicate (min xs.length ys.length) 0) ((min xs.length ys.length : Nat) : Int) 0) (fun k => ?_) h
  rw [if_pos (by omega), if_pos (by omega)]
  simp only [Option.bind_some, Int.toNat_natCast, List.length_replicate]

theorem awake_ev : Ev (fun k => marblerunlaw01_awake.f k) true := Ev.of (k := 40) marblerunlaw01_awake.mono (by kernel_rfl)

theorem mixes_loop (a b : Int) (ha : I a) (hb : I b) (xs ys : List Int) (hx : ∀ x ∈ xs, I x) (hy : ∀ y ∈ ys, I y) (hl : xs.length ≤ 20) (he : ys.length = xs.length) (out : List Int) (ok : Bool)
    (hout : mixS a b xs ys = none → out = [] ∧ ok = false) (hout2 : ∀ r, mixS a b xs ys = some r → out = r ∧ ok = true) (d : Nat) :
    ∀ (i : Nat) (done : List Int), xs.length = i + d → done.length = i → mixS a b xs ys = (mixS a b (xs.drop i) (ys.drop i)).map (done ++ ·) →
      Ev (fun k => marblerunlaw01_WholeMixes.l0 k a b xs ys out ok (i : Int)) true := by
  induction d with
  | zero =>
    intro i done hi hd hm
    rw [mixS_nil _ _ _ _ (.inl (List.drop_eq_nil_of_le (by omega)))] at hm
    have := hout2 _ hm
    refine Ev.step (f := fun _ => some ok) (fun k => by simp only [marblerunlaw01_WholeMixes.l0]; rw [if_neg (by omega)]) ?_
    rw [this.2]; exact Ev.now _
  | succ d ih =>
    intro i done hi hd hm
    have ix := hx _ (rd_mem (xs := xs) (i := (i : Int)) (by omega) (by omega))
    have iy := hy _ (rd_mem (xs := ys) (i := (i : Int)) (by omega) (by omega))
    rw [drop_cons (l := xs) (i := i) (by omega), drop_cons (l := ys) (i := i) (by omega), mixS_cons] at hm
    have hdot := rdot_ev (two_I ha hb) (two_I ix iy) (by simp)
    generalize dotS 0 [a, b] [rd xs (i : Int), rd ys (i : Int)] = p at *
    refine Ev.step (f := fun k => (marblerunref01_Dot.f k [a, b] [rd xs (i : Int), rd ys (i : Int)]).bind fun q => (if q.2 = true then (marblerunlaw01_WholeMixes.j2 k a b xs ys out ok (i : Int) q.1 (q.1 == (-9223372036854775808))) else (marblerunlaw01_WholeMixes.j2 k a b xs ys out ok (i : Int) q.1 true))) (fun k => by
      simp only [marblerunlaw01_WholeMixes.l0]; rw [if_pos (by omega), if_pos (by omega), if_pos (by omega)]) ?_
    refine Ev.bind hdot ?_
    have bad : mixS a b xs ys = none → Ev (fun k => marblerunlaw01_WholeMixes.j2 k a b xs ys out ok (i : Int) p.1 true) true := by
      intro hnone
      obtain ⟨rfl, rfl⟩ := hout hnone
      exact Ev.step (f := fun _ => some true) (fun k => by simp [marblerunlaw01_WholeMixes.j2]) (Ev.now _)
    by_cases h2 : p.2 = true
    · simp only [if_pos h2] at hm ⊢
      by_cases h3 : p.1 = -9223372036854775808
      · simp only [if_pos h3] at hm
        rw [show (p.1 == (-9223372036854775808 : Int)) = true by rw [h3]; rfl]
        exact bad hm
      · simp only [if_neg h3] at hm
        rw [show (p.1 == (-9223372036854775808 : Int)) = false from beq_eq_false_iff_ne.2 h3]
        have hnext := ih (i + 1) (done ++ [p.1]) (by omega) (by simp; omega) (by
          rw [hm, Option.map_map]
          congr 1
          funext r
          simp)
        have ew : wrap64 ((i : Int) + 1) = ((i + 1 : Nat) : Int) := by rw [wrap_add (n := xs.length) (by omega) (by omega) (by omega)]; rfl
        refine Ev.step (f := fun k => marblerunlaw01_WholeMixes.l0 k a b xs ys out ok ((i + 1 : Nat) : Int)) (fun k => ?_) hnext
        simp only [marblerunlaw01_WholeMixes.j2, Bool.false_eq_true, if_false]
        rw [ew]
        cases hk : mixS a b xs ys with
        | none =>
          obtain ⟨rfl, rfl⟩ := hout hk
          simp
        | some r =>
          obtain ⟨rfl, rfl⟩ := hout2 r hk
          have hlen := mixS_length xs ys out hk
          have er : rd out (i : Int) = p.1 := by
            rw [hk] at hm
            obtain ⟨q, hq, hr⟩ := Option.map_eq_some_iff.1 hm.symm
            obtain ⟨q2, hq2, hr2⟩ := Option.map_eq_some_iff.1 hq
            subst hr2
            rw [← hr]
            unfold rd
            rw [Int.toNat_natCast, List.getD_eq_getElem?_getD, List.getElem?_append_right (by omega), hd, Nat.sub_self]; rfl
          rw [if_pos rfl, if_pos (by omega), if_pos (by omega), if_pos (by omega), if_pos er]
    · simp only [if_neg h2] at hm ⊢
      exact bad hm
theorem WholeMixes : marblerunlaw01_WholeMixes.Pure := by
  intro a b xs ys ha hb _ _ wx _ _ wy
  replace ha := I_of_wf ha
  replace hb := I_of_wf hb
  have hx : ∀ x ∈ xs, I x := fun x h => I_of_wf (wx x h)
  have hy : ∀ x ∈ ys, I x := fun x h => I_of_wf (wy x h)
  refine Ev.rounds (g := fun k => marblerunlaw01_WholeMixes.f k a b xs ys) ?_
  unfold marblerunlaw01_WholeMixes.f
  refine Ev.bind awake_ev ?_
  simp only [if_true]
  have hT : Ev (fun k => marblerunlaw01_WholeMixes.j0 k a b xs ys true) true := by
    refine Ev.step (f := fun k => (marblerunlaw01_awake.f k).bind fun t => some t) (fun k => by simp [marblerunlaw01_WholeMixes.j0]) ?_
    exact Ev.bind awake_ev (Ev.now _)
  by_cases h1 : (xs.length : Int) > 20
  · simp only [if_pos h1]; exact hT
  · simp only [if_neg h1]
    by_cases h2 : (ys.length : Int) < (xs.length : Int)
    · simp only [if_pos h2]; exact hT
    · simp only [if_neg h2]
      by_cases h3 : (ys.length : Int) > 40
      · rw [decide_eq_true h3]; exact hT
      · rw [decide_eq_false h3]
        refine Ev.step (f := fun k => (whole_Mix.f k a xs b (ys.take xs.length)).bind fun p => marblerunlaw01_WholeMixes.l0 k a b xs (ys.take xs.length) p.1 p.2 0) (fun k => ?_) ?_
        · simp only [marblerunlaw01_WholeMixes.j0, Bool.false_eq_true, if_false]
          rw [if_pos (by omega), if_pos (by omega), Int.toNat_natCast]
        · have hy2 : ∀ x ∈ ys.take xs.length, I x := fun x h => hy x (List.mem_of_mem_take h)
          have hlen : (ys.take xs.length).length = xs.length := by simp; omega
          generalize ys.take xs.length = zs at *
          refine Ev.bind (mix_ev ha hb hx hy2 (by omega)) ?_
          have := mixes_loop a b ha hb xs zs hx hy2 (by omega) hlen (match mixS a b xs zs with | some r => (r, true) | none => ([], false)).1 (match mixS a b xs zs with | some r => (r, true) | none => ([], false)).2
            (fun h => by rw [h]; exact ⟨rfl, rfl⟩) (fun r h => by rw [h]; exact ⟨rfl, rfl⟩) xs.length 0 [] (by simp) rfl (by simp)
          exact this
end Go.Proofs.Ytmmnnjphfodpnaa.Pure
