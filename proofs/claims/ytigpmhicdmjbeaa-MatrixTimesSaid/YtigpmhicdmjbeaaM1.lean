/- Plain facts on the greatest common divisor of a list. -/
import Derived.Test.YtigpmhicdmjbeaaM0
namespace Go.Proofs.Ytigpmhicdmjbeaa.M
open Go.RowKit Go.Proofs.YtigpmhicdmjbeaaW.PrintWords
/-- A number of 64 bits above the least one. -/
def J (x : Int) : Prop := -9223372036854775807 ≤ x ∧ x ≤ 9223372036854775807
theorem J.i {x : Int} (h : J x) : I x := by unfold J at h; unfold I; omega
theorem J.nat {x : Int} (h : J x) : x.natAbs ≤ 9223372036854775807 := by unfold J at h; omega
/-- The greatest common divisor of g and all of a list. -/
def gl (g : Nat) (l : List Int) : Nat := l.foldl (fun g x => Nat.gcd g x.natAbs) g
theorem gl_cons (g : Nat) (x : Int) (l : List Int) : gl g (x :: l) = gl (Nat.gcd g x.natAbs) l := rfl
theorem gl_append (g : Nat) (l m : List Int) : gl g (l ++ m) = gl (gl g l) m := by unfold gl; rw [List.foldl_append]
theorem gl_gcd (l : List Int) : ∀ g, gl g l = Nat.gcd g (gl 0 l) := by
  induction l with
  | nil => intro g; simp [gl]
  | cons x l ih => intro g; rw [gl_cons, gl_cons, ih, ih (Nat.gcd 0 _), Nat.gcd_zero_left, Nat.gcd_assoc]
theorem gl_dvd (l : List Int) : ∀ x ∈ l, (gl 0 l) ∣ x.natAbs := by
  induction l with
  | nil => intro x h; simp at h
  | cons a l ih =>
    intro x h
    rw [gl_cons, gl_gcd, Nat.gcd_zero_left]
    rcases List.mem_cons.1 h with rfl | h
    · exact Nat.gcd_dvd_left _ _
    · exact Nat.dvd_trans (Nat.gcd_dvd_right _ _) (ih x h)
theorem gl_le (l : List Int) (h : ∀ x ∈ l, J x) : ∀ g, g ≤ 9223372036854775807 → gl g l ≤ 9223372036854775807 := by
  induction l with
  | nil => intro g hg; exact hg
  | cons a l ih =>
    intro g hg
    rw [gl_cons]
    refine ih (fun x hx => h x (List.mem_cons_of_mem _ hx)) _ ?_
    have ha := (h a (List.mem_cons_self ..)).nat
    rcases Nat.eq_zero_or_pos g with e | e
    · subst e; rw [Nat.gcd_zero_left]; exact ha
    · exact Nat.le_trans (Nat.gcd_le_left _ e) hg
theorem gl_mul (c : Nat) (l : List Int) : ∀ g, gl (c * g) (l.map fun x => (c : Int) * x) = c * gl g l := by
  induction l with
  | nil => intro g; rfl
  | cons a l ih =>
    intro g
    rw [List.map_cons, gl_cons, gl_cons, Int.natAbs_mul, Int.natAbs_natCast, Nat.gcd_mul_left, ih]
theorem gl_neg (l : List Int) : ∀ g, gl g (l.map fun x => -x) = gl g l := by
  induction l with
  | nil => intro g; rfl
  | cons a l ih => intro g; rw [List.map_cons, gl_cons, gl_cons, Int.natAbs_neg, ih]
/-- A vector by the greatest number that all have. -/
def normS (l : List Int) : List Int := if 1 < gl 0 l then l.map (fun x => Int.tdiv x (gl 0 l : Int)) else l
theorem normS_length (l : List Int) : (normS l).length = l.length := by unfold normS; split <;> simp
theorem back_of (l : List Int) : (normS l).map (fun x => (gl 0 l : Int) * x) = if 0 < gl 0 l then l else l.map (fun _ => 0) := by
  unfold normS
  split
  · rename_i h
    rw [if_pos (by omega), List.map_map]
    conv => rhs; rw [← List.map_id l]
    refine List.map_congr_left fun x hx => ?_
    have hd : (gl 0 l : Int) ∣ x := Int.ofNat_dvd_left.2 (gl_dvd l x hx)
    simp only [Function.comp, id]
    exact Int.mul_tdiv_cancel' hd
  · rename_i h
    split
    · have e : gl 0 l = 1 := by omega
      rw [e]; simp
    · have e : gl 0 l = 0 := by omega
      rw [e]; simp
theorem zero_of {l : List Int} (h : gl 0 l = 0) : ∀ x ∈ l, x = 0 := by
  intro x hx
  have := gl_dvd l x hx
  rw [h] at this
  have := Nat.eq_zero_of_zero_dvd this
  omega
/-- The vector so made has nothing more. -/
theorem gl_norm (l : List Int) (hp : 0 < gl 0 l) : gl 0 (normS l) = 1 := by
  have h1 := gl_mul (gl 0 l) (normS l) 0
  rw [back_of, if_pos hp, Nat.mul_zero] at h1
  have h2 : gl 0 l * 1 = gl 0 l * gl 0 (normS l) := by rw [Nat.mul_one]; exact h1
  exact (Nat.eq_of_mul_eq_mul_left hp h2).symm
theorem gl_norm_le (l : List Int) : gl 0 (normS l) ≤ 1 := by
  rcases Nat.eq_zero_or_pos (gl 0 l) with e | e
  · unfold normS; rw [if_neg (by omega), e]; omega
  · rw [gl_norm l e]; omega
theorem normS_idem (l : List Int) : normS (normS l) = normS l := by
  have h := gl_norm_le l
  generalize hm : normS l = m at *
  unfold normS; rw [if_neg (by omega)]
theorem tdiv_J {x : Int} {g : Nat} (h : J x) : J (Int.tdiv x (g : Int)) := by
  have h1 : (Int.tdiv x (g : Int)).natAbs ≤ x.natAbs := by
    rw [Int.natAbs_tdiv]; exact Nat.div_le_self _ _
  unfold J at *; omega
theorem normS_J {l : List Int} (h : ∀ x ∈ l, J x) : ∀ x ∈ normS l, J x := by
  unfold normS
  split
  · intro x hx
    obtain ⟨y, hy, rfl⟩ := List.mem_map.1 hx
    exact tdiv_J (h y hy)
  · exact h
theorem normS_neg (l : List Int) : normS (l.map fun x => -x) = (normS l).map fun x => -x := by
  unfold normS
  rw [gl_neg]
  split
  · simp only [List.map_map]
    refine List.map_congr_left fun x _ => ?_
    simp only [Function.comp, Int.neg_tdiv]
  · rfl
end Go.Proofs.Ytigpmhicdmjbeaa.M
