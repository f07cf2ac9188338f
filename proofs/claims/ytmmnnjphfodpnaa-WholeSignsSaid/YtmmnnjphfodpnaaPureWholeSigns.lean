/- The law WholeSigns is proved: for every slice of ints the call answers true; no condition. -/
import Derived.Test.YtmmnnjphfodpnaaM1
import Derived.Test.YtmmnnjphfodpnaaPWholeSignsx
import Derived.KernelRfl
namespace Go.Proofs.Ytmmnnjphfodpnaa.Pure
open Go.RowKit Go.Proofs.Ytmmnnjphfodpnaa.PWholeSigns Go.Proofs.YtmmnnjphfodpnaaW.PrintWords Go.Proofs.YtmmnnjphfodpnaaW.PrintLast Go.Proofs.YtmmnnjphfodpnaaW.PrintMore Go.Proofs.Ytmmnnjphfodpnaa.M
theorem size_is {a : Int} (h : I a) : whole_size.f a = some (ab a) := by
  unfold I at h
  unfold whole_size.f ab
  simp only [u64]
  split
  · rw [show (-(a % 18446744073709551616)) % 18446744073709551616 = -a by omega]
  · rw [show a % 18446744073709551616 = a by omega]

theorem gcd_loop (y : Nat) : ∀ (x : Nat), x ≤ 9223372036854775808 → y ≤ 9223372036854775808 → Ev (fun k => whole_Gcd.l0 k (x : Int) (y : Int)) (wrap64 (Nat.gcd x y : Int)) := by
  induction y using Nat.strongRecOn with
  | ind y ih =>
    intro x hx hy
    by_cases h : y = 0
    · subst h
      refine Ev.step (f := fun _ => some (wrap64 (x : Int))) (fun k => by simp only [whole_Gcd.l0]; rw [if_neg (by omega)]) ?_
      rw [Nat.gcd_zero_right]; exact Ev.now _
    · refine Ev.step (f := fun k => whole_Gcd.l0 k (y : Int) ((x % y : Nat) : Int)) (fun k => by simp only [whole_Gcd.l0]; rw [if_pos (by omega), if_neg (by omega)]; rfl) ?_
      have hlt : x % y < y := Nat.mod_lt _ (by omega)
      have := ih (x % y) hlt y hy (by omega)
      rwa [show Nat.gcd y (x % y) = Nat.gcd x y by rw [Nat.gcd_comm x y, Nat.gcd_rec y x, Nat.gcd_comm]] at this
theorem gcd_ev {a b : Int} (ha : I a) (hb : I b) : Ev (fun k => whole_Gcd.f k a b) (wrap64 (Int.gcd a b : Int)) := by
  unfold whole_Gcd.f
  refine Ev.congr (f := fun k => whole_Gcd.l0 k (a.natAbs : Int) (b.natAbs : Int)) (fun k => by rw [size_is ha, size_is hb, ab_nat, ab_nat]; rfl) ?_
  unfold I at ha hb
  exact gcd_loop b.natAbs a.natAbs (by omega) (by omega)

theorem drop_cons {l : List Int} {i : Nat} (h : i < l.length) : l.drop i = rd l (i : Int) :: l.drop (i + 1) := by
  rw [List.drop_eq_getElem_cons h, rd_lt (by omega) (by omega)]; rfl

theorem norm_gcds (l : List Int) (hJ : ∀ x ∈ l, J x) (hb : l.length ≤ 35184372088832) (r : List Int)
    (hend : ∀ g : Nat, g = gl 0 l → Ev (fun k => whole_Norm.l0 k l (g : Int) l (l.length : Int) (l.length : Int)) r) (d : Nat) :
    ∀ i : Nat, l.length = i + d → Ev (fun k => whole_Norm.l0 k l ((gl 0 (l.take i) : Nat) : Int) l (l.length : Int) (i : Int)) r := by
  induction d with
  | zero =>
    intro i hi
    have e : i = l.length := by omega
    subst e
    rw [List.take_length]
    exact hend _ rfl
  | succ d ih =>
    intro i hi
    have hx := hJ _ (rd_mem (xs := l) (i := (i : Int)) (by omega) (by omega))
    have hg : gl 0 (l.take i) ≤ 9223372036854775807 := gl_le _ (fun x hx => hJ x (List.mem_of_mem_take hx)) 0 (by omega)
    refine Ev.step (f := fun k => (whole_Gcd.f k ((gl 0 (l.take i) : Nat) : Int) (rd l (i : Int))).bind fun t => whole_Norm.l0 k l t l (l.length : Int) (wrap64 ((i : Int) + 1))) (fun k => by simp only [whole_Norm.l0]; rw [if_pos (by omega), if_pos (by omega), if_pos (by omega)]) ?_
    refine Ev.bind (gcd_ev (by unfold I; omega) hx.i) ?_
    rw [wrap_add (n := l.length) (by omega) (by omega) (by omega)]
    have e1 : gl 0 (l.take (i + 1)) = Int.gcd ((gl 0 (l.take i) : Nat) : Int) (rd l (i : Int)) := by
      rw [List.take_succ_eq_append_getElem (by omega), gl_append, rd_lt (by omega) (by omega)]
      rfl
    have hle : gl 0 (l.take (i + 1)) ≤ 9223372036854775807 := gl_le _ (fun x hx => hJ x (List.mem_of_mem_take hx)) 0 (by omega)
    rw [← e1, wrap_id (by unfold I; omega)]
    have := ih (i + 1) (by omega)
    simpa only [Int.natCast_add, Int.natCast_one] using this
theorem norm_parts (g : Nat) (hg : g ≤ 9223372036854775807) (l : List Int) (hJ : ∀ x ∈ l, J x) (hb : l.length ≤ 35184372088832) (d : Nat) :
    ∀ i : Nat, l.length = i + d → Ev (fun k => whole_Norm.l1 k (g : Int) ((l.take i).map (fun x => if 1 < g then Int.tdiv x (g : Int) else x) ++ l.drop i) (l.length : Int) (i : Int)) (l.map fun x => if 1 < g then Int.tdiv x (g : Int) else x) := by
  induction d with
  | zero =>
    intro i hi
    have e : i = l.length := by omega
    subst e
    rw [List.take_length, List.drop_eq_nil_of_le (Nat.le_refl _), List.append_nil]
    exact Ev.step (f := fun _ => some (l.map fun x => if 1 < g then Int.tdiv x (g : Int) else x)) (fun k => by simp only [whole_Norm.l1]; rw [if_neg (by omega)]) (Ev.now _)
  | succ d ih =>
    intro i hi
    have hx := hJ _ (rd_mem (xs := l) (i := (i : Int)) (by omega) (by omega))
    have hn := ih (i + 1) (by omega)
    have hl : ((l.take i).map (fun x => if 1 < g then Int.tdiv x (g : Int) else x)).length = i := by simp; omega
    by_cases h1 : 1 < g
    · refine Ev.step (f := fun k => whole_Norm.l1 k (g : Int) ((l.take (i + 1)).map (fun x => if 1 < g then Int.tdiv x (g : Int) else x) ++ l.drop (i + 1)) (l.length : Int) ((i + 1 : Nat) : Int)) (fun k => ?_) hn
      simp only [whole_Norm.l1]
      have er : rd ((l.take i).map (fun x => if 1 < g then Int.tdiv x (g : Int) else x) ++ l.drop i) (i : Int) = rd l (i : Int) := by
        unfold rd
        rw [List.getD_eq_getElem?_getD, List.getD_eq_getElem?_getD, Int.toNat_natCast, List.getElem?_append_right (by omega), hl, Nat.sub_self, List.getElem?_drop, Nat.add_zero]
      have es : ((l.take i).map (fun x => if 1 < g then Int.tdiv x (g : Int) else x) ++ l.drop i).set i (Int.tdiv (rd l (i : Int)) (g : Int)) = (l.take (i + 1)).map (fun x => if 1 < g then Int.tdiv x (g : Int) else x) ++ l.drop (i + 1) := by
        rw [List.set_append_right _ _ (by omega), hl, Nat.sub_self, drop_cons (l := l) (i := i) (by omega), List.set_cons_zero, List.take_succ_eq_append_getElem (by omega), List.map_append, List.append_assoc]
        congr 1
        simp only [List.map_cons, List.map_nil, if_pos h1, List.cons_append, List.nil_append]
        rw [rd_lt (by omega) (by omega)]; rfl
      rw [if_pos (by omega), if_pos (by omega), if_pos (by omega), if_pos (by simp; omega), if_neg (by omega), er, wrap_id (tdiv_J hx).i, Int.toNat_natCast, es, wrap_add (n := l.length) (by omega) (by omega) (by omega)]
      rfl
    · refine Ev.step (f := fun k => whole_Norm.l1 k (g : Int) ((l.take (i + 1)).map (fun x => if 1 < g then Int.tdiv x (g : Int) else x) ++ l.drop (i + 1)) (l.length : Int) ((i + 1 : Nat) : Int)) (fun k => ?_) hn
      simp only [whole_Norm.l1]
      rw [if_pos (by omega), if_neg (by omega), wrap_add (n := l.length) (by omega) (by omega) (by omega)]
      have em : ∀ m : List Int, m.map (fun x => if 1 < g then Int.tdiv x (g : Int) else x) = m := fun m => by simp [h1]
      rw [em, em, List.take_append_drop, List.take_append_drop]
      rfl
theorem norm_ev {l : List Int} (hJ : ∀ x ∈ l, J x) (hb : l.length ≤ 35184372088832) : Ev (fun k => whole_Norm.f k l) (normS l) := by
  unfold whole_Norm.f
  have hgl := gl_le l hJ 0 (by omega)
  refine norm_gcds l hJ hb (normS l) (fun g hg => ?_) l.length 0 (by simp)
  subst hg
  refine Ev.step (f := fun k => whole_Norm.l1 k ((gl 0 l : Nat) : Int) l (l.length : Int) 0) (fun k => ?_) ?_
  · simp only [whole_Norm.l0]
    rw [if_neg (by omega), if_pos (by omega), if_pos (by omega)]
    simp only [Option.bind_some, List.length_replicate, Int.toNat_natCast, Nat.min_self, List.take_length]
    rw [List.drop_eq_nil_of_le (by simp), List.append_nil]
  · have h := norm_parts (gl 0 l) hgl l hJ hb l.length 0 (by simp)
    simp only [List.take_zero, List.map_nil, List.nil_append, List.drop_zero] at h
    unfold normS
    by_cases h1 : 1 < gl 0 l
    · rw [if_pos h1]; simp only [if_pos h1] at h; exact h
    · rw [if_neg h1]; simp only [if_neg h1, List.map_id'] at h; exact h

/-- A number above the least one. -/
def abv (x : Int) : Int := if x = -9223372036854775808 then -9223372036854775807 else x
theorem above_is {x : Int} : marblerunlaw01_above.f x = some (abv x) := by
  unfold marblerunlaw01_above.f abv
  split
  · rw [wrap_id (by rename_i h; subst h; decide)]; rename_i h; subst h; rfl
  · rfl
theorem abv_J {x : Int} (h : I x) : J (abv x) := by unfold I at h; unfold J abv; split <;> omega

theorem same_loop (l : List Int) (hb : l.length ≤ 9223372036854775806) (d : Nat) : ∀ i : Nat, l.length = i + d → Ev (fun k => marblerunref01_SameInts.l0 k l l (i : Int)) true := by
  induction d with
  | zero => intro i hi; exact Ev.step (f := fun _ => some true) (fun k => by simp only [marblerunref01_SameInts.l0]; rw [if_neg (by omega)]) (Ev.now _)
  | succ d ih =>
    intro i hi
    refine Ev.step (f := fun k => marblerunref01_SameInts.l0 k l l ((i + 1 : Nat) : Int)) (fun k => ?_) (ih (i + 1) (by omega))
    simp only [marblerunref01_SameInts.l0]
    rw [if_pos (by omega), if_pos (by omega), if_pos (by omega), if_pos trivial, wrap_add (n := l.length) (by omega) (by omega) (by omega)]
    rfl
theorem same_ev (l : List Int) (hb : l.length ≤ 9223372036854775806) : Ev (fun k => marblerunref01_SameInts.f k l l) true := by
  have h := same_loop l hb l.length 0 (by simp)
  unfold marblerunref01_SameInts.f
  simpa using h

theorem awake_ev : Ev (fun k => marblerunlaw01_awake.f k) true := Ev.of (k := 40) marblerunlaw01_awake.mono (by kernel_rfl)

theorem signs_build (l : List Int) (hl : l.length ≤ 20) (d : Nat) (r : Bool)
    (hend : Ev (fun k => marblerunlaw01_WholeSigns.l0 k l (l.map abv) (l.map fun x => -abv x) (l.length : Int)) r) (hI : ∀ x ∈ l, I x) :
    ∀ i : Nat, l.length = i + d → Ev (fun k => marblerunlaw01_WholeSigns.l0 k l ((l.take i).map abv) ((l.take i).map fun x => -abv x) (i : Int)) r := by
  induction d with
  | zero => intro i hi; have e : i = l.length := by omega
            subst e; rw [List.take_length]; exact hend
  | succ d ih =>
    intro i hi
    refine Ev.step (f := fun k => marblerunlaw01_WholeSigns.l0 k l ((l.take (i + 1)).map abv) ((l.take (i + 1)).map fun x => -abv x) ((i + 1 : Nat) : Int)) (fun k => ?_) (ih (i + 1) (by omega))
    simp only [marblerunlaw01_WholeSigns.l0]
    have hj := abv_J (hI _ (rd_mem (xs := l) (i := (i : Int)) (by omega) (by omega)))
    rw [if_pos (by omega), if_pos (by omega), above_is]
    simp only [Option.bind_some, List.length_map, List.length_take]
    rw [if_pos (by omega), if_pos (by omega), wrap_add (n := l.length) (by omega) (by omega) (by omega), wrap_id (by unfold J at hj; unfold I; omega), List.take_succ_eq_append_getElem (by omega), List.map_append, List.map_append, rd_lt (by omega) (by omega)]
    rfl
theorem signs_cmp (a : List Int) (hl : a.length ≤ 20) (hJ : ∀ x ∈ a, J x) (hn : normS a = a) (d : Nat) :
    ∀ i : Nat, a.length = i + d → Ev (fun k => marblerunlaw01_WholeSigns.l1 k a (a.map fun x => -x) (i : Int)) true := by
  induction d with
  | zero =>
    intro i hi
    have hs := norm_ev (l := a) hJ (by omega)
    rw [hn] at hs
    refine Ev.step (f := fun k => (whole_Norm.f k a).bind fun t => (marblerunref01_SameInts.f k t a).bind fun s => some s) (fun k => by simp only [marblerunlaw01_WholeSigns.l1]; rw [if_neg (by omega)]) ?_
    refine Ev.bind hs ?_
    exact Ev.bind (same_ev a (by omega)) (Ev.now _)
  | succ d ih =>
    intro i hi
    refine Ev.step (f := fun k => marblerunlaw01_WholeSigns.l1 k a (a.map fun x => -x) ((i + 1 : Nat) : Int)) (fun k => ?_) (ih (i + 1) (by omega))
    simp only [marblerunlaw01_WholeSigns.l1]
    have hj := hJ _ (rd_mem (xs := a) (i := (i : Int)) (by omega) (by omega))
    have er : rd (a.map fun x => -x) (i : Int) = -rd a (i : Int) := by
      rw [rd_lt (by omega) (by simp; omega), rd_lt (by omega) (by omega)]; simp
    rw [if_pos (by omega), if_pos (by omega), if_pos (by simp; omega), er, Int.neg_neg, wrap_id hj.i, if_pos rfl, wrap_add (n := a.length) (by omega) (by omega) (by omega)]
    rfl
theorem WholeSigns : marblerunlaw01_WholeSigns.Pure := by
  intro l _ _ wl
  refine Ev.rounds (g := fun k => marblerunlaw01_WholeSigns.f k l) ?_
  unfold marblerunlaw01_WholeSigns.f
  refine Ev.bind awake_ev ?_
  simp only [if_true]
  by_cases hl : (l.length : Int) > 20
  · rw [decide_eq_true hl]
    refine Ev.step (f := fun k => (marblerunlaw01_awake.f k).bind fun t => some t) (fun k => by simp [marblerunlaw01_WholeSigns.j0]) ?_
    exact Ev.bind awake_ev (Ev.now _)
  · rw [decide_eq_false hl]
    refine Ev.step (f := fun k => marblerunlaw01_WholeSigns.l0 k l ([] : List Int) ([] : List Int) 0) (fun k => by simp [marblerunlaw01_WholeSigns.j0]) ?_
    have hI : ∀ x ∈ l, I x := fun x hx => I_of_wf (wl x hx)
    have h := signs_build l (by omega) l.length true ?_ hI 0 (by simp)
    · simpa using h
    · have hJ : ∀ x ∈ l.map abv, J x := by
        intro x hx
        obtain ⟨y, hy, rfl⟩ := List.mem_map.1 hx
        exact abv_J (hI y hy)
      have hJ2 : ∀ x ∈ l.map (fun x => -abv x), J x := by
        intro x hx
        obtain ⟨y, hy, rfl⟩ := List.mem_map.1 hx
        have := abv_J (hI y hy)
        unfold J at *; omega
      have e2 : l.map (fun x => -abv x) = (l.map abv).map fun x => -x := by rw [List.map_map]; rfl
      have h2 := norm_ev (l := l.map (fun x => -abv x)) hJ2 (by simp; omega)
      rw [e2, normS_neg] at h2
      have hlen : (normS (l.map abv)).length = l.length := by rw [normS_length]; simp
      refine Ev.step (f := fun k => (whole_Norm.f k (l.map abv)).bind fun t => (whole_Norm.f k ((l.map abv).map fun x => -x)).bind fun s => (if (t.length : Int) = ((l.map abv).length : Int) then (marblerunlaw01_WholeSigns.j2 k t s ((s.length : Int) != ((l.map abv).length : Int))) else (marblerunlaw01_WholeSigns.j2 k t s true))) (fun k => by simp only [marblerunlaw01_WholeSigns.l0]; rw [if_neg (by omega), e2]) ?_
      refine Ev.bind (norm_ev hJ (by simp; omega)) ?_
      refine Ev.bind h2 ?_
      refine Ev.congr (f := fun k => marblerunlaw01_WholeSigns.j2 k (normS (l.map abv)) ((normS (l.map abv)).map fun x => -x) false) (fun k => ?_) ?_
      · rw [if_pos (by rw [hlen]; simp)]
        simp only [List.length_map, hlen, bne_self_eq_false]
      · refine Ev.step (f := fun k => marblerunlaw01_WholeSigns.l1 k (normS (l.map abv)) ((normS (l.map abv)).map fun x => -x) 0) (fun k => by simp [marblerunlaw01_WholeSigns.j2]) ?_
        have := signs_cmp (normS (l.map abv)) (by omega) (normS_J hJ) (normS_idem _) (normS (l.map abv)).length 0 (by simp)
        simpa using this
end Go.Proofs.Ytmmnnjphfodpnaa.Pure
