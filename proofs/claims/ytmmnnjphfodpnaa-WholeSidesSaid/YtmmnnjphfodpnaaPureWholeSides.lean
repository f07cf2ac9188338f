/- The law WholeSides is proved: for every two ints a and b the call answers true; no condition. -/
import Derived.Test.YtmmnnjphfodpnaaM1
import Derived.Test.YtmmnnjphfodpnaaPWholeSidesx2
import Derived.KernelRfl
namespace Go.Proofs.Ytmmnnjphfodpnaa.Pure
open Go.RowKit Go.Proofs.Ytmmnnjphfodpnaa.PWholeSides Go.Proofs.YtmmnnjphfodpnaaW.PrintWords Go.Proofs.YtmmnnjphfodpnaaW.PrintLast Go.Proofs.YtmmnnjphfodpnaaW.PrintMore Go.Proofs.Ytmmnnjphfodpnaa.M
theorem size_is {a : Int} (h : I a) : whole_size.f a = some (ab a) := by
  unfold I at h
  unfold whole_size.f ab
  simp only [u64]
  split
  · rw [show (-(a % 18446744073709551616)) % 18446744073709551616 = -a by omega]
  · rw [show a % 18446744073709551616 = a by omega]
theorem mul64_is {x y : Int} (hx0 : 0 ≤ x) (hx : x < 18446744073709551616) (hy0 : 0 ≤ y) (hy : y < 18446744073709551616) :
    bits_Mul64.f x y = some (x * y / 18446744073709551616, x * y % 18446744073709551616) := by
  unfold bits_Mul64.f
  rw [and32 y hy0 hy, and32 x hx0 hx]
  obtain ⟨x1, hx1⟩ : ∃ z, z = x / 4294967296 := ⟨_, rfl⟩
  obtain ⟨x0, hx0'⟩ : ∃ z, z = x % 4294967296 := ⟨_, rfl⟩
  obtain ⟨y1, hy1⟩ : ∃ z, z = y / 4294967296 := ⟨_, rfl⟩
  obtain ⟨y0, hy0'⟩ : ∃ z, z = y % 4294967296 := ⟨_, rfl⟩
  rw [← hx1, ← hx0', ← hy1, ← hy0']
  have e := hi_lo (x := x) (y := y) (p0 := x0) (p1 := x1) (q0 := y0) (q1 := y1) (by omega) (by omega)
  have b11 := mul_le32 (x := x1) (y := y1) (by omega) (by omega) (by omega) (by omega)
  have b10 := mul_le32 (x := x1) (y := y0) (by omega) (by omega) (by omega) (by omega)
  have b01 := mul_le32 (x := x0) (y := y1) (by omega) (by omega) (by omega) (by omega)
  have b00 := mul_le32 (x := x0) (y := y0) (by omega) (by omega) (by omega) (by omega)
  rw [e]
  generalize x1 * y1 = p11 at *
  generalize x1 * y0 = p10 at *
  generalize x0 * y1 = p01 at *
  generalize x0 * y0 = p00 at *
  simp only [u64]
  have w11 : p11 % 18446744073709551616 = p11 := by omega
  have w10 : p10 % 18446744073709551616 = p10 := by omega
  have w01 : p01 % 18446744073709551616 = p01 := by omega
  have w00 : p00 % 18446744073709551616 = p00 := by omega
  rw [w11, w10, w01, w00]
  obtain ⟨t, ht⟩ : ∃ z, z = p10 + p00 / 4294967296 := ⟨_, rfl⟩
  have wt : (p10 + p00 / 4294967296) % 18446744073709551616 = t := by omega
  rw [wt, and32 t (by omega) (by omega)]
  congr 2
  omega
theorem mul_ab (a b : Int) : ab a * ab b = if (decide (a < 0)) = (decide (b < 0)) then a * b else -(a * b) := by
  unfold ab
  by_cases ha : a < 0 <;> by_cases hb : b < 0 <;> simp [ha, hb, Int.neg_mul, Int.mul_neg]
theorem ab_le {a : Int} (h : I a) : 0 ≤ ab a ∧ ab a ≤ 9223372036854775808 := by unfold I at h; unfold ab; omega
theorem mul_ev {a b : Int} (ha : I a) (hb : I b) : Ev (fun k => whole_Mul.f k a b) (mulS a b) := by
  have hp0 := ab_le ha
  have hq0 := ab_le hb
  have hpn : 0 ≤ ab a * ab b := Int.mul_nonneg hp0.1 hq0.1
  have hm := mul_ab a b
  refine Ev.of (k := 3) (whole_Mul.mono a b) ?_
  unfold whole_Mul.f
  rw [size_is ha, size_is hb]
  simp only [Option.bind_some]
  rw [mul64_is hp0.1 (by omega) hq0.1 (by omega)]
  simp only [Option.bind_some]
  generalize hP : ab a * ab b = P at *
  have key : ∀ neg : Bool, (a * b = if neg then -P else P) → (neg = true → P ≠ 0) → whole_Mul.j0 3 (P / 18446744073709551616) (P % 18446744073709551616) neg = some (mulS a b) := by
    intro neg hn hz
    have hI : I (a * b) ↔ (if neg then P ≤ 9223372036854775808 else P ≤ 9223372036854775807) := by
      rw [hn]; unfold I; cases neg <;> simp <;> omega
    unfold mulS
    by_cases h1 : P / 18446744073709551616 > 0
    · have h2 : ¬ I (a * b) := by rw [hI]; cases neg <;> simp <;> omega
      rw [if_neg h2]; simp only [whole_Mul.j0, whole_Mul.j1]; rw [if_pos h1]; rfl
    · have e : P % 18446744073709551616 = P := by omega
      rw [e]
      simp only [whole_Mul.j0, whole_Mul.j1]
      rw [if_neg h1]
      by_cases h2 : P > 9223372036854775808
      · have h3 : ¬ I (a * b) := by rw [hI]; cases neg <;> simp <;> omega
        rw [if_neg h3, if_pos h2]; rfl
      · rw [if_neg h2]
        by_cases h4 : P = 9223372036854775808
        · rw [if_pos h4]
          cases neg with
          | true =>
            have h3 : I (a * b) := by rw [hI]; simp; omega
            rw [if_pos h3]
            simp only [Bool.not_true, if_true] at *
            rw [hn, u64]
            simp only [Bool.false_eq_true, if_false]
            congr 2
            unfold wrap64; omega
          | false =>
            have h3 : ¬ I (a * b) := by rw [hI]; simp; omega
            rw [if_neg h3]; rfl
        · rw [if_neg h4]
          have h3 : I (a * b) := by rw [hI]; cases neg <;> simp <;> omega
          rw [if_pos h3]
          simp only [Bool.false_eq_true, if_false]
          cases neg with
          | true =>
            simp only [if_true] at *
            have := hz trivial
            rw [hn, u64]
            congr 2
            unfold wrap64; omega
          | false =>
            simp only [Bool.false_eq_true, if_false] at *
            rw [hn]
            congr 2
            unfold wrap64; omega
  have hne : ∀ {x : Int}, x ≠ 0 → 1 ≤ ab x := by intro x hx; unfold ab; omega
  by_cases hs : decide (a < 0) = decide (b < 0)
  · rw [if_neg (by simp [hs])]
    rw [if_pos hs] at hm
    exact key false (by simp [hm]) (by simp)
  · rw [if_pos (by simpa using hs)]
    rw [if_neg hs] at hm
    by_cases ha0 : a = 0
    · rw [if_pos ha0]
      refine key false ?_ (by simp)
      subst ha0; simp only [Int.zero_mul] at hm ⊢; simp; omega
    · rw [if_neg ha0]
      by_cases hb0 : b = 0
      · rw [show (b != 0) = false by simp [hb0]]
        refine key false ?_ (by simp)
        subst hb0; simp only [Int.mul_zero] at hm ⊢; simp; omega
      · rw [show (b != 0) = true by simp [hb0]]
        refine key true (by simp; omega) (fun _ => ?_)
        rw [← hP]
        have h1 := hne ha0
        have h2 := hne hb0
        have := Int.mul_le_mul h1 h2 (by omega) (by omega)
        omega

theorem add_is {a b : Int} (ha : I a) (hb : I b) : whole_Add.f a b = some (addS a b) := by
  unfold whole_Add.f addS
  by_cases hI : I (a + b)
  · rw [if_pos hI, wrap_id hI]
    unfold I at ha hb hI
    by_cases h1 : a < 0 <;> by_cases h2 : b < 0 <;> by_cases h3 : a + b < 0 <;> simp [h1, h2, h3] <;> omega
  · rw [if_neg hI]
    unfold I at ha hb hI
    have hi := wrap_I (a + b)
    unfold I at hi
    have hw : wrap64 (a + b) = a + b - 18446744073709551616 ∨ wrap64 (a + b) = a + b + 18446744073709551616 := by unfold wrap64; omega
    by_cases h1 : a < 0 <;> by_cases h2 : b < 0 <;> by_cases h3 : wrap64 (a + b) < 0 <;> simp [h1, h2, h3] <;> omega

theorem awake_ev : Ev (fun k => marblerunlaw01_awake.f k) true := Ev.of (k := 40) marblerunlaw01_awake.mono (by kernel_rfl)

theorem WholeSides : marblerunlaw01_WholeSides.Pure := by
  intro a b ha hb
  replace ha := I_of_wf ha
  replace hb := I_of_wf hb
  obtain ⟨K, hK⟩ := awake_ev
  obtain ⟨K1, h1⟩ := mul_ev ha (show I 1 by decide)
  obtain ⟨K2, h2⟩ := mul_ev ha (show I 0 by decide)
  dsimp only at hK h1 h2
  refine ⟨K + K1 + K2, ?_⟩
  unfold marblerunlaw01_WholeSides.f
  have e : addS b a = addS a b := by unfold addS; rw [Int.add_comm]
  have e0 : addS a 0 = (a, true) := by unfold addS; rw [Int.add_zero, if_pos ha]
  have e1 : mulS a 1 = (a, true) := by unfold mulS; rw [Int.mul_one, if_pos ha]
  have e2 : mulS a 0 = (0, true) := by unfold mulS; rw [Int.mul_zero, if_pos (by decide)]
  rw [add_is ha hb, add_is hb ha, add_is ha (show I 0 by decide), h1 _ (by omega), h2 _ (by omega), e, e0, e1, e2]
  simp [hK _ (show K ≤ K + K1 + K2 by omega)]
end Go.Proofs.Ytmmnnjphfodpnaa.Pure
