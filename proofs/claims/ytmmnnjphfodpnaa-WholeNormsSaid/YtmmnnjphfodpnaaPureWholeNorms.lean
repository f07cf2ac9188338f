/- The law WholeNorms is proved: for every slice of ints the call answers true; no condition. -/
import Derived.Test.YtmmnnjphfodpnaaM1
import Derived.Test.YtmmnnjphfodpnaaPWholeNormsx
import Derived.KernelRfl
namespace Go.Proofs.Ytmmnnjphfodpnaa.Pure
open Go.RowKit Go.Proofs.Ytmmnnjphfodpnaa.PWholeNorms Go.Proofs.YtmmnnjphfodpnaaW.PrintWords Go.Proofs.YtmmnnjphfodpnaaW.PrintLast Go.Proofs.YtmmnnjphfodpnaaW.PrintMore Go.Proofs.Ytmmnnjphfodpnaa.M
theorem size_is {a : Int} (h : I a) : whole_size.f a = some (ab a) := by
  unfold I at h
  unfold whole_size.f ab
  simp only [u64]
  split
  · rw [show (-(a % 18446744073709551616)) % 18446744073709551616 = -a by omega]
  · rw [show a % 18446744073709551616 = a by omega]

theorem gcd_loop (y : Nat) : ∀ (x : Nat), x ≤ 9223372036854775808 → y ≤ 9223372036854775808 → Ev (fun k => whole_Gcd.l0 k (x : Int) (y : Int)) (wrap64 (Nat.gcd x y : Int)) := by
  induction y using Nat.strongRecOn with
  | ind y ih =>
    intro x hx hy
    by_cases h : y = 0
    · subst h
      refine Ev.step (f := fun _ => some (wrap64 (x : Int))) (fun k => by simp only [whole_Gcd.l0]; rw [if_neg (by omega)]) ?_
      rw [Nat.gcd_zero_right]; exact Ev.now _
    · refine Ev.step (f := fun k => whole_Gcd.l0 k (y : Int) ((x % y : Nat) : Int)) (fun k => by simp only [whole_Gcd.l0]; rw [if_pos (by omega), if_neg (by omega)]; rfl) ?_
      have hlt : x % y < y := Nat.mod_lt _ (by omega)
      have := ih (x % y) hlt y hy (by omega)
      rwa [show Nat.gcd y (x % y) = Nat.gcd x y by rw [Nat.gcd_comm x y, Nat.gcd_rec y x, Nat.gcd_comm]] at this
theorem gcd_ev {a b : Int} (ha : I a) (hb : I b) : Ev (fun k => whole_Gcd.f k a b) (wrap64 (Int.gcd a b : Int)) := by
  unfold whole_Gcd.f
  refine Ev.congr (f := fun k => whole_Gcd.l0 k (a.natAbs : Int) (b.natAbs : Int)) (fun k => by rw [size_is ha, size_is hb, ab_nat, ab_nat]; rfl) ?_
  unfold I at ha hb
  exact gcd_loop b.natAbs a.natAbs (by omega) (by omega)

theorem drop_cons {l : List Int} {i : Nat} (h : i < l.length) : l.drop i = rd l (i : Int) :: l.drop (i + 1) := by
  rw [List.drop_eq_getElem_cons h, rd_lt (by omega) (by omega)]; rfl

theorem norm_gcds (l : List Int) (hJ : ∀ x ∈ l, J x) (hb : l.length ≤ 35184372088832) (r : List Int)
    (hend : ∀ g : Nat, g = gl 0 l → Ev (fun k => whole_Norm.l0 k l (g : Int) l (l.length : Int) (l.length : Int)) r) (d : Nat) :
    ∀ i : Nat, l.length = i + d → Ev (fun k => whole_Norm.l0 k l ((gl 0 (l.take i) : Nat) : Int) l (l.length : Int) (i : Int)) r := by
  induction d with
  | zero =>
    intro i hi
    have e : i = l.length := by omega
    subst e
    rw [List.take_length]
    exact hend _ rfl
  | succ d ih =>
    intro i hi
    have hx := hJ _ (rd_mem (xs := l) (i := (i : Int)) (by omega) (by omega))
    have hg : gl 0 (l.take i) ≤ 9223372036854775807 := gl_le _ (fun x hx => hJ x (List.mem_of_mem_take hx)) 0 (by omega)
    refine Ev.step (f := fun k => (whole_Gcd.f k ((gl 0 (l.take i) : Nat) : Int) (rd l (i : Int))).bind fun t => whole_Norm.l0 k l t l (l.length : Int) (wrap64 ((i : Int) + 1))) (fun k => by simp only [whole_Norm.l0]; rw [if_pos (by omega), if_pos (by omega), if_pos (by omega)]) ?_
    refine Ev.bind (gcd_ev (by unfold I; omega) hx.i) ?_
    rw [wrap_add (n := l.length) (by omega) (by omega) (by omega)]
    have e1 : gl 0 (l.take (i + 1)) = Int.gcd ((gl 0 (l.take i) : Nat) : Int) (rd l (i : Int)) := by
      rw [List.take_succ_eq_append_getElem (by omega), gl_append, rd_lt (by omega) (by omega)]
      rfl
    have hle : gl 0 (l.take (i + 1)) ≤ 9223372036854775807 := gl_le _ (fun x hx => hJ x (List.mem_of_mem_take hx)) 0 (by omega)
    rw [← e1, wrap_id (by unfold I; omega)]
    have := ih (i + 1) (by omega)
    simpa only [Int.natCast_add, Int.natCast_one] using this
theorem norm_parts (g : Nat) (hg : g ≤ 9223372036854775807) (l : List Int) (hJ : ∀ x ∈ l, J x) (hb : l.length ≤ 35184372088832) (d : Nat) :
    ∀ i : Nat, l.length = i + d → Ev (fun k => whole_Norm.l1 k (g : Int) ((l.take i).map (fun x => if 1 < g then Int.tdiv x (g : Int) else x) ++ l.drop i) (l.length : Int) (i : Int)) (l.map fun x => if 1 < g then Int.tdiv x (g : Int) else x) := by
  induction d with
  | zero =>
    intro i hi
    have e : i = l.length := by omega
    subst e
    rw [List.take_length, List.drop_eq_nil_of_le (Nat.le_refl _), List.append_nil]
    exact Ev.step (f := fun _ => some (l.map fun x => if 1 < g then Int.tdiv x (g : Int) else x)) (fun k => by simp only [whole_Norm.l1]; rw [if_neg (by omega)]) (Ev.now _)
  | succ d ih =>
    intro i hi
    have hx := hJ _ (rd_mem (xs := l) (i := (i : Int)) (by omega) (by omega))
    have hn := ih (i + 1) (by omega)
    have hl : ((l.take i).map (fun x => if 1 < g then Int.tdiv x (g : Int) else x)).length = i := by simp; omega
    by_cases h1 : 1 < g
    · refine Ev.step (f := fun k => whole_Norm.l1 k (g : Int) ((l.take (i + 1)).map (fun x => if 1 < g then Int.tdiv x (g : Int) else x) ++ l.drop (i + 1)) (l.length : Int) ((i + 1 : Nat) : Int)) (fun k => ?_) hn
      simp only [whole_Norm.l1]
      have er : rd ((l.take i).map (fun x => if 1 < g then Int.tdiv x (g : Int) else x) ++ l.drop i) (i : Int) = rd l (i : Int) := by
        unfold rd
        rw [List.getD_eq_getElem?_getD, List.getD_eq_getElem?_getD, Int.toNat_natCast, List.getElem?_append_right (by omega), hl, Nat.sub_self, List.getElem?_drop, Nat.add_zero]
      have es : ((l.take i).map (fun x => if 1 < g then Int.tdiv x (g : Int) else x) ++ l.drop i).set i (Int.tdiv (rd l (i : Int)) (g : Int)) = (l.take (i + 1)).map (fun x => if 1 < g then Int.tdiv x (g : Int) else x) ++ l.drop (i + 1) := by
        rw [List.set_append_right _ _ (by omega), hl, Nat.sub_self, drop_cons (l := l) (i := i) (by omega), List.set_cons_zero, List.take_succ_eq_append_getElem (by omega), List.map_append, List.append_assoc]
        congr 1
        simp only [List.map_cons, List.map_nil, if_pos h1, List.cons_append, List.nil_append]
        rw [rd_lt (by omega) (by omega)]; rfl
      rw [if_pos (by omega), if_pos (by omega), if_pos (by omega), if_pos (by simp; omega), if_neg (by omega), er, wrap_id (tdiv_J hx).i, Int.toNat_natCast, es, wrap_add (n := l.length) (by omega) (by omega) (by omega)]
      rfl
    · refine Ev.step (f := fun k => whole_Norm.l1 k (g : Int) ((l.take (i + 1)).map (fun x => if 1 < g then Int.tdiv x (g : Int) else x) ++ l.drop (i + 1)) (l.length : Int) ((i + 1 : Nat) : Int)) (fun k => ?_) hn
      simp only [whole_Norm.l1]
      rw [if_pos (by omega), if_neg (by omega), wrap_add (n := l.length) (by omega) (by omega) (by omega)]
      have em : ∀ m : List Int, m.map (fun x => if 1 < g then Int.tdiv x (g : Int) else x) = m := fun m => by simp [h1]
      rw [em, em, List.take_append_drop, List.take_append_drop]
      rfl
theorem norm_ev {l : List Int} (hJ : ∀ x ∈ l, J x) (hb : l.length ≤ 35184372088832) : Ev (fun k => whole_Norm.f k l) (normS l) := by
  unfold whole_Norm.f
  have hgl := gl_le l hJ 0 (by omega)
  refine norm_gcds l hJ hb (normS l) (fun g hg => ?_) l.length 0 (by simp)
  subst hg
  refine Ev.step (f := fun k => whole_Norm.l1 k ((gl 0 l : Nat) : Int) l (l.length : Int) 0) (fun k => ?_) ?_
  · simp only [whole_Norm.l0]
    rw [if_neg (by omega), if_pos (by omega), if_pos (by omega)]
    simp only [Option.bind_some, List.length_replicate, Int.toNat_natCast, Nat.min_self, List.take_length]
    rw [List.drop_eq_nil_of_le (by simp), List.append_nil]
  · have h := norm_parts (gl 0 l) hgl l hJ hb l.length 0 (by simp)
    simp only [List.take_zero, List.map_nil, List.nil_append, List.drop_zero] at h
    unfold normS
    by_cases h1 : 1 < gl 0 l
    · rw [if_pos h1]; simp only [if_pos h1] at h; exact h
    · rw [if_neg h1]; simp only [if_neg h1, List.map_id'] at h; exact h

/-- A number above the least one. -/
def abv (x : Int) : Int := if x = -9223372036854775808 then -9223372036854775807 else x
theorem above_is {x : Int} : marblerunlaw01_above.f x = some (abv x) := by
  unfold marblerunlaw01_above.f abv
  split
  · rw [wrap_id (by rename_i h; subst h; decide)]; rename_i h; subst h; rfl
  · rfl
theorem abv_J {x : Int} (h : I x) : J (abv x) := by unfold I at h; unfold J abv; split <;> omega

theorem rgcd_loop (y : Nat) : ∀ (x : Nat), Ev (fun k => marblerunref01_Gcd.l0 k (x : Int) (y : Int)) (Nat.gcd x y : Int) := by
  induction y using Nat.strongRecOn with
  | ind y ih =>
    intro x
    by_cases h : y = 0
    · subst h
      refine Ev.step (f := fun _ => some (x : Int)) (fun k => by simp only [marblerunref01_Gcd.l0]; rw [if_pos (by omega)]) ?_
      rw [Nat.gcd_zero_right]; exact Ev.now _
    · refine Ev.step (f := fun k => marblerunref01_Gcd.l0 k (y : Int) ((x % y : Nat) : Int)) (fun k => by simp only [marblerunref01_Gcd.l0]; rw [if_neg (by omega)]; rfl) ?_
      have := ih (x % y) (Nat.mod_lt _ (by omega)) y
      rwa [show Nat.gcd y (x % y) = Nat.gcd x y by rw [Nat.gcd_comm x y, Nat.gcd_rec y x, Nat.gcd_comm]] at this
theorem rgcd_ev {a b : Int} (ha : J a) (hb : J b) : Ev (fun k => marblerunref01_Gcd.f k a b) (Int.gcd a b : Int) := by
  have h := rgcd_loop b.natAbs a.natAbs
  have hj : ∀ x : Int, Ev (fun k => marblerunref01_Gcd.l0 k x (b.natAbs : Int)) (Int.gcd a b : Int) → Ev (fun k => marblerunref01_Gcd.j0 k x b) (Int.gcd a b : Int) := by
    intro x hx
    unfold J at hb
    by_cases hn : b < 0
    · refine Ev.step (f := fun k => marblerunref01_Gcd.j1 k x (b.natAbs : Int)) (fun k => by simp only [marblerunref01_Gcd.j0]; rw [if_pos hn, wrap_id (by unfold I; omega), show -b = (b.natAbs : Int) by omega]) ?_
      exact Ev.step (f := fun k => marblerunref01_Gcd.l0 k x (b.natAbs : Int)) (fun k => by simp only [marblerunref01_Gcd.j1]) hx
    · refine Ev.step (f := fun k => marblerunref01_Gcd.j1 k x (b.natAbs : Int)) (fun k => by simp only [marblerunref01_Gcd.j0]; rw [if_neg hn, show b = (b.natAbs : Int) by omega]; rfl) ?_
      exact Ev.step (f := fun k => marblerunref01_Gcd.l0 k x (b.natAbs : Int)) (fun k => by simp only [marblerunref01_Gcd.j1]) hx
  have h2 := hj _ h
  unfold J at ha
  unfold marblerunref01_Gcd.f
  by_cases hn : a < 0
  · simp only [if_pos hn]
    rw [wrap_id (by unfold I; omega), show -a = (a.natAbs : Int) by omega]; exact h2
  · simp only [if_neg hn]
    rw [show (a.natAbs : Int) = a by omega] at h2; exact h2
theorem gcdJ {a b : Int} (ha : J a) (hb : J b) : J (Int.gcd a b : Int) := by
  have := gl_le [a, b] (by intro x hx; simp at hx; rcases hx with rfl | rfl <;> assumption) 0 (by omega)
  simp only [gl, List.foldl, Nat.gcd_zero_left] at this
  have e : Int.gcd a b = Nat.gcd a.natAbs b.natAbs := rfl
  unfold J; omega

theorem same_loop (l : List Int) (hb : l.length ≤ 9223372036854775806) (d : Nat) : ∀ i : Nat, l.length = i + d → Ev (fun k => marblerunref01_SameInts.l0 k l l (i : Int)) true := by
  induction d with
  | zero => intro i hi; exact Ev.step (f := fun _ => some true) (fun k => by simp only [marblerunref01_SameInts.l0]; rw [if_neg (by omega)]) (Ev.now _)
  | succ d ih =>
    intro i hi
    refine Ev.step (f := fun k => marblerunref01_SameInts.l0 k l l ((i + 1 : Nat) : Int)) (fun k => ?_) (ih (i + 1) (by omega))
    simp only [marblerunref01_SameInts.l0]
    rw [if_pos (by omega), if_pos (by omega), if_pos (by omega), if_pos trivial, wrap_add (n := l.length) (by omega) (by omega) (by omega)]
    rfl
theorem same_ev (l : List Int) (hb : l.length ≤ 9223372036854775806) : Ev (fun k => marblerunref01_SameInts.f k l l) true := by
  have h := same_loop l hb l.length 0 (by simp)
  unfold marblerunref01_SameInts.f
  simpa using h

theorem awake_ev : Ev (fun k => marblerunlaw01_awake.f k) true := Ev.of (k := 40) marblerunlaw01_awake.mono (by kernel_rfl)

theorem norms_build (l : List Int) (hl : l.length ≤ 20) (d : Nat) (r : Bool)
    (hend : Ev (fun k => marblerunlaw01_WholeNorms.l0 k l (l.map abv) (l.map abv) ((gl 0 (l.map abv) : Nat) : Int) (l.length : Int)) r) (hI : ∀ x ∈ l, I x) :
    ∀ i : Nat, l.length = i + d → Ev (fun k => marblerunlaw01_WholeNorms.l0 k l ((l.take i).map abv) ((l.take i).map abv) ((gl 0 ((l.take i).map abv) : Nat) : Int) (i : Int)) r := by
  induction d with
  | zero => intro i hi; have e : i = l.length := by omega
            subst e; rw [List.take_length]; exact hend
  | succ d ih =>
    intro i hi
    have hJ : ∀ x ∈ l.map abv, J x := by
      intro x hx
      obtain ⟨y, hy, rfl⟩ := List.mem_map.1 hx
      exact abv_J (hI y hy)
    have hj := abv_J (hI _ (rd_mem (xs := l) (i := (i : Int)) (by omega) (by omega)))
    have hg : gl 0 ((l.take i).map abv) ≤ 9223372036854775807 := gl_le _ (fun x hx => by
      obtain ⟨y, hy, rfl⟩ := List.mem_map.1 hx
      exact abv_J (hI y (List.mem_of_mem_take hy))) 0 (by omega)
    refine Ev.step (f := fun k => (marblerunref01_Gcd.f k ((gl 0 ((l.take i).map abv) : Nat) : Int) (abv (rd l (i : Int)))).bind fun t => marblerunlaw01_WholeNorms.l0 k l ((l.take (i + 1)).map abv) ((l.take (i + 1)).map abv) t ((i + 1 : Nat) : Int)) (fun k => ?_) ?_
    · simp only [marblerunlaw01_WholeNorms.l0]
      rw [if_pos (by omega), if_pos (by omega), above_is]
      simp only [Option.bind_some, List.length_map, List.length_take]
      rw [if_pos (by omega), if_pos (by omega), wrap_add (n := l.length) (by omega) (by omega) (by omega), List.take_succ_eq_append_getElem (by omega), List.map_append, rd_lt (by omega) (by omega)]
      rfl
    · refine Ev.bind (rgcd_ev (by unfold J; omega) hj) ?_
      have e1 : gl 0 ((l.take (i + 1)).map abv) = Int.gcd ((gl 0 ((l.take i).map abv) : Nat) : Int) (abv (rd l (i : Int))) := by
        rw [List.take_succ_eq_append_getElem (by omega), List.map_append, gl_append, rd_lt (by omega) (by omega)]
        rfl
      rw [← e1]
      exact ih (i + 1) (by omega)
theorem norms_cmp (v n : List Int) (hl : n.length ≤ 20) (hvl : v.length = n.length) (g : Nat) (hJ : ∀ x ∈ n, J x) (hv : ∀ x ∈ v, J x)
    (hm : ∀ i : Nat, i < n.length → (0 < g → rd n (i : Int) * (g : Int) = rd v (i : Int)) ∧ (g = 0 → rd n (i : Int) = 0)) (hone : gl 0 n ≤ 1) (d : Nat) :
    ∀ i : Nat, n.length = i + d → Ev (fun k => marblerunlaw01_WholeNorms.l1 k v (g : Int) n ((gl 0 (n.take i) : Nat) : Int) (i : Int)) true := by
  induction d with
  | zero =>
    intro i hi
    have e : i = n.length := by omega
    subst e
    rw [List.take_length]
    refine Ev.step (f := fun _ => some true) (fun k => ?_) (Ev.now _)
    simp only [marblerunlaw01_WholeNorms.l1]; rw [if_neg (by omega), decide_eq_true (by omega)]
  | succ d ih =>
    intro i hi
    have hj := hJ _ (rd_mem (xs := n) (i := (i : Int)) (by omega) (by omega))
    have hvj := hv _ (rd_mem (xs := v) (i := (i : Int)) (by omega) (by omega))
    have hg : gl 0 (n.take i) ≤ 9223372036854775807 := gl_le _ (fun x hx => hJ x (List.mem_of_mem_take hx)) 0 (by omega)
    have hmi := hm i (by omega)
    refine Ev.step (f := fun k => (marblerunref01_Gcd.f k ((gl 0 (n.take i) : Nat) : Int) (rd n (i : Int))).bind fun t => marblerunlaw01_WholeNorms.l1 k v (g : Int) n t ((i + 1 : Nat) : Int)) (fun k => ?_) ?_
    · simp only [marblerunlaw01_WholeNorms.l1]
      rw [if_pos (by omega)]
      rw [show wrap64 ((i : Int) + 1) = ((i + 1 : Nat) : Int) by rw [wrap_add (n := n.length) (by omega) (by omega) (by omega)]; rfl]
      by_cases h0 : g = 0
      · rw [if_neg (by omega), if_pos (by omega), if_pos (by omega), if_pos (hmi.2 h0)]
      · rw [if_pos (by omega), if_pos (by omega), if_pos (by omega), hmi.1 (by omega), wrap_id hvj.i, if_pos rfl, if_neg (by omega)]
    · refine Ev.bind (rgcd_ev (by unfold J; omega) hj) ?_
      have e1 : gl 0 (n.take (i + 1)) = Int.gcd ((gl 0 (n.take i) : Nat) : Int) (rd n (i : Int)) := by
        rw [List.take_succ_eq_append_getElem (by omega), gl_append, rd_lt (by omega) (by omega)]
        rfl
      rw [← e1]
      exact ih (i + 1) (by omega)
theorem norm_at (l : List Int) (i : Nat) (hi : i < l.length) : (0 < gl 0 l → rd (normS l) (i : Int) * (gl 0 l : Int) = rd l (i : Int)) ∧ (gl 0 l = 0 → rd (normS l) (i : Int) = 0) := by
  have hb := back_of l
  have hl := normS_length l
  constructor
  · intro hp
    rw [if_pos hp] at hb
    rw [rd_lt (by omega) (by omega), rd_lt (by omega) (by omega), Int.mul_comm]
    have : ((normS l).map (fun x => (gl 0 l : Int) * x))[i]? = l[i]? := by rw [hb]
    rw [List.getElem?_map, List.getElem?_eq_getElem (by omega), List.getElem?_eq_getElem (by omega)] at this
    exact Option.some.inj this
  · intro h0
    have e : normS l = l := by unfold normS; rw [if_neg (by omega)]
    rw [e]
    exact zero_of h0 _ (rd_mem (by omega) (by omega))
theorem WholeNorms : marblerunlaw01_WholeNorms.Pure := by
  intro l _ _ wl
  refine Ev.rounds (g := fun k => marblerunlaw01_WholeNorms.f k l) ?_
  unfold marblerunlaw01_WholeNorms.f
  refine Ev.bind awake_ev ?_
  simp only [if_true]
  by_cases hl : (l.length : Int) > 20
  · rw [decide_eq_true hl]
    refine Ev.step (f := fun k => (marblerunlaw01_awake.f k).bind fun t => some t) (fun k => by simp [marblerunlaw01_WholeNorms.j0]) ?_
    exact Ev.bind awake_ev (Ev.now _)
  · rw [decide_eq_false hl]
    refine Ev.step (f := fun k => marblerunlaw01_WholeNorms.l0 k l ([] : List Int) ([] : List Int) 0 0) (fun k => by simp [marblerunlaw01_WholeNorms.j0]) ?_
    have hI : ∀ x ∈ l, I x := fun x hx => I_of_wf (wl x hx)
    have h := norms_build l (by omega) l.length true ?_ hI 0 (by simp)
    · simpa [gl] using h
    · have hJ : ∀ x ∈ l.map abv, J x := by
        intro x hx
        obtain ⟨y, hy, rfl⟩ := List.mem_map.1 hx
        exact abv_J (hI y hy)
      have hlm : (l.map abv).length = l.length := by simp
      generalize l.map abv = v at *
      have hlen : (normS v).length = l.length := by rw [normS_length, hlm]
      refine Ev.step (f := fun k => (whole_Norm.f k v).bind fun t => (if (t.length : Int) = (v.length : Int) then ((marblerunref01_SameInts.f k v v).bind fun s => (marblerunlaw01_WholeNorms.j2 k v ((gl 0 v : Nat) : Int) t (!s))) else (marblerunlaw01_WholeNorms.j2 k v ((gl 0 v : Nat) : Int) t true))) (fun k => by simp only [marblerunlaw01_WholeNorms.l0]; rw [if_neg (by omega)]) ?_
      refine Ev.bind (norm_ev hJ (by omega)) ?_
      have hee : ((normS v).length : Int) = (v.length : Int) := by rw [hlen, hlm]
      simp only [if_pos hee]
      refine Ev.bind (same_ev v (by omega)) ?_
      refine Ev.step (f := fun k => marblerunlaw01_WholeNorms.l1 k v ((gl 0 v : Nat) : Int) (normS v) 0 0) (fun k => by simp [marblerunlaw01_WholeNorms.j2]) ?_
      have := norms_cmp v (normS v) (by omega) (by omega) (gl 0 v) (normS_J hJ) hJ (fun i hi => norm_at v i (by omega)) (gl_norm_le v) (normS v).length 0 (by simp)
      simpa [gl] using this
end Go.Proofs.Ytmmnnjphfodpnaa.Pure
