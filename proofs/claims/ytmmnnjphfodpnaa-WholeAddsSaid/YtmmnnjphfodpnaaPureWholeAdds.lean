/- The law WholeAdds is proved: for every two ints a and b the call answers true; no condition. -/
import Derived.Test.YtmmnnjphfodpnaaM1
import Derived.Test.YtmmnnjphfodpnaaPWholeAddsx1
import Derived.KernelRfl
namespace Go.Proofs.Ytmmnnjphfodpnaa.Pure
open Go.RowKit Go.Proofs.Ytmmnnjphfodpnaa.PWholeAdds Go.Proofs.YtmmnnjphfodpnaaW.PrintWords Go.Proofs.YtmmnnjphfodpnaaW.PrintLast Go.Proofs.YtmmnnjphfodpnaaW.PrintMore Go.Proofs.Ytmmnnjphfodpnaa.M
theorem add_is {a b : Int} (ha : I a) (hb : I b) : whole_Add.f a b = some (addS a b) := by
  unfold whole_Add.f addS
  by_cases hI : I (a + b)
  · rw [if_pos hI, wrap_id hI]
    unfold I at ha hb hI
    by_cases h1 : a < 0 <;> by_cases h2 : b < 0 <;> by_cases h3 : a + b < 0 <;> simp [h1, h2, h3] <;> omega
  · rw [if_neg hI]
    unfold I at ha hb hI
    have hi := wrap_I (a + b)
    unfold I at hi
    have hw : wrap64 (a + b) = a + b - 18446744073709551616 ∨ wrap64 (a + b) = a + b + 18446744073709551616 := by unfold wrap64; omega
    by_cases h1 : a < 0 <;> by_cases h2 : b < 0 <;> by_cases h3 : wrap64 (a + b) < 0 <;> simp [h1, h2, h3] <;> omega

theorem radd_is {a b : Int} (ha : I a) (hb : I b) : marblerunref01_Add.f a b = some (addS a b) := by
  unfold I at ha hb
  have h1 : b > 0 → wrap64 (9223372036854775807 - b) = 9223372036854775807 - b := fun h => wrap_id (by unfold I; omega)
  have h2 : b < 0 → wrap64 ((-9223372036854775808) - b) = -9223372036854775808 - b := fun h => wrap_id (by unfold I; omega)
  have h3 : I (a + b) → wrap64 (a + b) = a + b := wrap_id
  unfold marblerunref01_Add.f addS
  by_cases hI : I (a + b)
  · rw [if_pos hI, h3 hI]
    unfold I at hI
    by_cases p : b > 0
    · rw [if_pos p, h1 p, if_neg (by omega), if_neg (by omega)]
    · rw [if_neg p]
      by_cases n : b < 0
      · rw [if_pos n, h2 n, if_neg (by omega)]
      · rw [if_neg n]
  · rw [if_neg hI]
    unfold I at hI
    by_cases p : b > 0
    · rw [if_pos p, h1 p, if_pos (by omega)]
    · rw [if_neg p, if_pos (by omega), h2 (by omega), if_pos (by omega)]

theorem awake_ev : Ev (fun k => marblerunlaw01_awake.f k) true := Ev.of (k := 40) marblerunlaw01_awake.mono (by kernel_rfl)

theorem WholeAdds : marblerunlaw01_WholeAdds.Pure := by
  intro a b ha hb
  replace ha := I_of_wf ha
  replace hb := I_of_wf hb
  obtain ⟨K, hK⟩ := awake_ev
  dsimp only at hK
  refine ⟨K, ?_⟩
  unfold marblerunlaw01_WholeAdds.f
  rw [add_is ha hb, radd_is ha hb]
  simp [hK K (Nat.le_refl _)]
end Go.Proofs.Ytmmnnjphfodpnaa.Pure
