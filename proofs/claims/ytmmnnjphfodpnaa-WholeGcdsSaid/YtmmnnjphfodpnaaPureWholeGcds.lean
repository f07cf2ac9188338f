/- The law WholeGcds is proved: for every three ints the call answers true; no condition. -/
import Derived.Test.YtmmnnjphfodpnaaM1
import Derived.Test.YtmmnnjphfodpnaaPWholeGcdsx
import Derived.KernelRfl
namespace Go.Proofs.Ytmmnnjphfodpnaa.Pure
open Go.RowKit Go.Proofs.Ytmmnnjphfodpnaa.PWholeGcds Go.Proofs.YtmmnnjphfodpnaaW.PrintWords Go.Proofs.YtmmnnjphfodpnaaW.PrintLast Go.Proofs.YtmmnnjphfodpnaaW.PrintMore Go.Proofs.Ytmmnnjphfodpnaa.M
theorem size_is {a : Int} (h : I a) : whole_size.f a = some (ab a) := by
  unfold I at h
  unfold whole_size.f ab
  simp only [u64]
  split
  · rw [show (-(a % 18446744073709551616)) % 18446744073709551616 = -a by omega]
  · rw [show a % 18446744073709551616 = a by omega]

theorem gcd_loop (y : Nat) : ∀ (x : Nat), x ≤ 9223372036854775808 → y ≤ 9223372036854775808 → Ev (fun k => whole_Gcd.l0 k (x : Int) (y : Int)) (wrap64 (Nat.gcd x y : Int)) := by
  induction y using Nat.strongRecOn with
  | ind y ih =>
    intro x hx hy
    by_cases h : y = 0
    · subst h
      refine Ev.step (f := fun _ => some (wrap64 (x : Int))) (fun k => by simp only [whole_Gcd.l0]; rw [if_neg (by omega)]) ?_
      rw [Nat.gcd_zero_right]; exact Ev.now _
    · refine Ev.step (f := fun k => whole_Gcd.l0 k (y : Int) ((x % y : Nat) : Int)) (fun k => by simp only [whole_Gcd.l0]; rw [if_pos (by omega), if_neg (by omega)]; rfl) ?_
      have hlt : x % y < y := Nat.mod_lt _ (by omega)
      have := ih (x % y) hlt y hy (by omega)
      rwa [show Nat.gcd y (x % y) = Nat.gcd x y by rw [Nat.gcd_comm x y, Nat.gcd_rec y x, Nat.gcd_comm]] at this
theorem gcd_ev {a b : Int} (ha : I a) (hb : I b) : Ev (fun k => whole_Gcd.f k a b) (wrap64 (Int.gcd a b : Int)) := by
  unfold whole_Gcd.f
  refine Ev.congr (f := fun k => whole_Gcd.l0 k (a.natAbs : Int) (b.natAbs : Int)) (fun k => by rw [size_is ha, size_is hb, ab_nat, ab_nat]; rfl) ?_
  unfold I at ha hb
  exact gcd_loop b.natAbs a.natAbs (by omega) (by omega)

/-- A number above the least one. -/
def abv (x : Int) : Int := if x = -9223372036854775808 then -9223372036854775807 else x
theorem above_is {x : Int} : marblerunlaw01_above.f x = some (abv x) := by
  unfold marblerunlaw01_above.f abv
  split
  · rw [wrap_id (by rename_i h; subst h; decide)]; rename_i h; subst h; rfl
  · rfl
theorem abv_J {x : Int} (h : I x) : J (abv x) := by unfold I at h; unfold J abv; split <;> omega

theorem rgcd_loop (y : Nat) : ∀ (x : Nat), Ev (fun k => marblerunref01_Gcd.l0 k (x : Int) (y : Int)) (Nat.gcd x y : Int) := by
  induction y using Nat.strongRecOn with
  | ind y ih =>
    intro x
    by_cases h : y = 0
    · subst h
      refine Ev.step (f := fun _ => some (x : Int)) (fun k => by simp only [marblerunref01_Gcd.l0]; rw [if_pos (by omega)]) ?_
      rw [Nat.gcd_zero_right]; exact Ev.now _
    · refine Ev.step (f := fun k => marblerunref01_Gcd.l0 k (y : Int) ((x % y : Nat) : Int)) (fun k => by simp only [marblerunref01_Gcd.l0]; rw [if_neg (by omega)]; rfl) ?_
      have := ih (x % y) (Nat.mod_lt _ (by omega)) y
      rwa [show Nat.gcd y (x % y) = Nat.gcd x y by rw [Nat.gcd_comm x y, Nat.gcd_rec y x, Nat.gcd_comm]] at this
theorem rgcd_ev {a b : Int} (ha : J a) (hb : J b) : Ev (fun k => marblerunref01_Gcd.f k a b) (Int.gcd a b : Int) := by
  have h := rgcd_loop b.natAbs a.natAbs
  have hj : ∀ x : Int, Ev (fun k => marblerunref01_Gcd.l0 k x (b.natAbs : Int)) (Int.gcd a b : Int) → Ev (fun k => marblerunref01_Gcd.j0 k x b) (Int.gcd a b : Int) := by
    intro x hx
    unfold J at hb
    by_cases hn : b < 0
    · refine Ev.step (f := fun k => marblerunref01_Gcd.j1 k x (b.natAbs : Int)) (fun k => by simp only [marblerunref01_Gcd.j0]; rw [if_pos hn, wrap_id (by unfold I; omega), show -b = (b.natAbs : Int) by omega]) ?_
      exact Ev.step (f := fun k => marblerunref01_Gcd.l0 k x (b.natAbs : Int)) (fun k => by simp only [marblerunref01_Gcd.j1]) hx
    · refine Ev.step (f := fun k => marblerunref01_Gcd.j1 k x (b.natAbs : Int)) (fun k => by simp only [marblerunref01_Gcd.j0]; rw [if_neg hn, show b = (b.natAbs : Int) by omega]; rfl) ?_
      exact Ev.step (f := fun k => marblerunref01_Gcd.l0 k x (b.natAbs : Int)) (fun k => by simp only [marblerunref01_Gcd.j1]) hx
  have h2 := hj _ h
  unfold J at ha
  unfold marblerunref01_Gcd.f
  by_cases hn : a < 0
  · simp only [if_pos hn]
    rw [wrap_id (by unfold I; omega), show -a = (a.natAbs : Int) by omega]; exact h2
  · simp only [if_neg hn]
    rw [show (a.natAbs : Int) = a by omega] at h2; exact h2
theorem gcdJ {a b : Int} (ha : J a) (hb : J b) : J (Int.gcd a b : Int) := by
  have := gl_le [a, b] (by intro x hx; simp at hx; rcases hx with rfl | rfl <;> assumption) 0 (by omega)
  simp only [gl, List.foldl, Nat.gcd_zero_left] at this
  have e : Int.gcd a b = Nat.gcd a.natAbs b.natAbs := rfl
  unfold J; omega

theorem awake_ev : Ev (fun k => marblerunlaw01_awake.f k) true := Ev.of (k := 40) marblerunlaw01_awake.mono (by kernel_rfl)

theorem WholeGcds : marblerunlaw01_WholeGcds.Pure := by
  intro a b c ha hb hc
  replace ha := abv_J (I_of_wf ha)
  replace hb := abv_J (I_of_wf hb)
  replace hc := I_of_wf hc
  obtain ⟨x, hx⟩ : ∃ x, x = abv a := ⟨_, rfl⟩
  obtain ⟨y, hy⟩ : ∃ y, y = abv b := ⟨_, rfl⟩
  rw [← hx] at ha
  rw [← hy] at hb
  obtain ⟨K, hK⟩ := awake_ev
  obtain ⟨K1, h1⟩ := gcd_ev ha.i hb.i
  obtain ⟨K2, h2⟩ := gcd_ev hb.i ha.i
  obtain ⟨K3, h3⟩ := rgcd_ev ha hb
  dsimp only at hK h1 h2 h3
  rw [Int.gcd_comm, wrap_id (gcdJ ha hb).i] at h2
  rw [wrap_id (gcdJ ha hb).i] at h1
  refine ⟨K + K1 + K2 + K3 + 1, ?_⟩
  unfold marblerunlaw01_WholeGcds.f
  rw [above_is, above_is]
  simp only [Option.bind_some]
  rw [← hx, ← hy, h1 _ (by omega)]
  simp only [Option.bind_some]
  rw [h3 _ (by omega)]
  simp only [Option.bind_some]
  rw [if_pos trivial, h2 _ (by omega)]
  simp only [Option.bind_some, bne_self_eq_false, marblerunlaw01_WholeGcds.j0, Bool.false_eq_true, if_false]
  rw [hK _ (by omega)]
  simp only [Option.bind_some, if_true]
  by_cases hg : (Int.gcd x y : Int) = 0
  · rw [if_pos hg]
    have h0 : Int.gcd x y = 0 := by omega
    rw [Int.gcd_eq_zero_iff] at h0
    rw [if_pos h0.1, h0.2]; rfl
  · rw [if_neg hg, if_pos (by omega)]
    have dx : (Int.gcd x y : Int) ∣ x := Int.gcd_dvd_left ..
    have dy : (Int.gcd x y : Int) ∣ y := Int.gcd_dvd_right ..
    rw [if_pos (Int.tmod_eq_zero_of_dvd dx), if_pos (Int.tmod_eq_zero_of_dvd dy), u64]
    have hk : 2 ≤ 2 + Int.tmod (c % 18446744073709551616) 1000 ∧ 2 + Int.tmod (c % 18446744073709551616) 1000 ≤ 1001 := by
      rw [Int.tmod_eq_emod_of_nonneg (by omega)]; omega
    generalize hkk : Int.tmod (c % 18446744073709551616) 1000 = z at *
    have w1 : wrap64 z = z := wrap_id (by unfold I; omega)
    have w2 : wrap64 (2 + z) = 2 + z := wrap_id (by unfold I; omega)
    have jx := tdiv_J (g := Int.gcd x y) ha
    have jy := tdiv_J (g := Int.gcd x y) hb
    rw [w1, w2, if_neg (by omega), wrap_id jx.i, wrap_id jy.i]
    by_cases hd : Int.tmod (Int.tdiv x (Int.gcd x y)) (2 + z) = 0
    · rw [if_pos hd]
      congr 1
      simp only [bne_iff_ne, ne_eq]
      intro hd2
      have e1 := Int.natAbs_dvd_natAbs.2 (Int.dvd_of_tmod_eq_zero hd)
      have e2 := Int.natAbs_dvd_natAbs.2 (Int.dvd_of_tmod_eq_zero hd2)
      rw [Int.natAbs_tdiv, Int.natAbs_natCast] at e1 e2
      have e3 : x.natAbs.div (Int.gcd x y) = x.natAbs / Nat.gcd x.natAbs y.natAbs := rfl
      have e4 : y.natAbs.div (Int.gcd x y) = y.natAbs / Nat.gcd x.natAbs y.natAbs := rfl
      rw [e3] at e1
      rw [e4] at e2
      have hc := Nat.coprime_div_gcd_div_gcd (m := x.natAbs) (n := y.natAbs) (by have : Int.gcd x y = Nat.gcd x.natAbs y.natAbs := rfl; omega)
      have h1 := Nat.dvd_gcd e1 e2
      rw [hc] at h1
      have := Nat.le_of_dvd (by omega) h1
      omega
    · rw [if_neg hd]
end Go.Proofs.Ytmmnnjphfodpnaa.Pure
