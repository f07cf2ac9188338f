/- Along with the functions that WeighNone reaches: what their plain forms answer -/
import Derived.Test.YtigpmhicdmjbeaaPWeighNonex
import Derived.Laws.BitsLemmas
import Derived.KernelRfl
set_option linter.unusedVariables false
set_option linter.unusedSimpArgs false
namespace Go.Proofs.Ytigpmhicdmjbeaa.M
open Go.RowKit Go.Proofs.YtigpmhicdmjbeaaW.PrintWords
/-- A number of 64 bits. -/
def I (x : Int) : Prop := -9223372036854775808 ≤ x ∧ x ≤ 9223372036854775807
instance (x : Int) : Decidable (I x) := by unfold I; infer_instance
theorem I_of_wf {x : Int} (h : (Lit.int .i64 x).wf = true) : I x := by
  simp [Lit.wf, IntKind.min, IntKind.max, IntKind.bits, IntKind.signed] at h
  unfold I; omega
theorem wrap_id {x : Int} (h : I x) : wrap64 x = x := by unfold I at h; unfold wrap64; omega
theorem wrap_I (x : Int) : I (wrap64 x) := by unfold wrap64 I; omega
theorem wrap_add {x : Int} {n : Nat} (h0 : 0 ≤ x) (h1 : x < (n : Int)) (hn : n ≤ 9223372036854775807) : wrap64 (x + 1) = x + 1 := wrap_id (by unfold I; omega)
theorem u64 (x : Int) : IntKind.u64.wrap x = x % 18446744073709551616 := by simp [IntKind.wrap, IntKind.bits, IntKind.signed]
theorem wraps_u64 (n : Int) (h₀ : 0 ≤ n) (h₁ : n < 2 ^ 64) : IntKind.u64.wrap n = n := by rw [u64]; omega
theorem and32 (x : Int) (h₀ : 0 ≤ x) (h₁ : x < 18446744073709551616) : bits .and .u64 x 4294967295 = x % 4294967296 :=
  bits_mask .u64 64 (by decide) wraps_u64 32 (by decide) x h₀ (by omega)
/-- What a number is without its sign. -/
def ab (x : Int) : Int := if x < 0 then -x else x
theorem ab_nat (x : Int) : ab x = (x.natAbs : Int) := by unfold ab; omega
/-- A sum that is a number of 64 bits, or none. -/
def addS (a b : Int) : Int × Bool := if I (a + b) then (a + b, true) else (0, false)
/-- A product likewise. -/
def mulS (a b : Int) : Int × Bool := if I (a * b) then (a * b, true) else (0, false)
/-- A sum of products likewise, from a first sum on. -/
def dotS : Int → List Int → List Int → Int × Bool
  | s, a :: xs, b :: ys => if I (a * b) then (if I (s + a * b) then dotS (s + a * b) xs ys else (0, false)) else (0, false)
  | s, _, _ => (s, true)
theorem hi_lo {x y p0 p1 q0 q1 : Int} (hx : x = p1 * 4294967296 + p0) (hy : y = q1 * 4294967296 + q0) :
    x * y = p1 * q1 * 18446744073709551616 + (p1 * q0 + p0 * q1) * 4294967296 + p0 * q0 := by
  subst hx hy; simp only [Int.add_mul, Int.mul_add]
  have e1 : p1 * 4294967296 * (q1 * 4294967296) = p1 * q1 * 18446744073709551616 := by
    rw [Int.mul_assoc, Int.mul_left_comm 4294967296, ← Int.mul_assoc]; rfl
  have e2 : p0 * (q1 * 4294967296) = p0 * q1 * 4294967296 := by rw [Int.mul_assoc]
  have e3 : p1 * 4294967296 * q0 = p1 * q0 * 4294967296 := by rw [Int.mul_assoc, Int.mul_comm 4294967296, ← Int.mul_assoc]
  rw [e1, e2, e3]; omega
theorem mul_le32 {x y : Int} (hx0 : 0 ≤ x) (hx : x ≤ 4294967295) (hy0 : 0 ≤ y) (hy : y ≤ 4294967295) : 0 ≤ x * y ∧ x * y ≤ 18446744065119617025 := by
  refine ⟨Int.mul_nonneg hx0 hy0, ?_⟩
  have := Int.mul_le_mul hx hy hy0 (by omega)
  omega
theorem rd_lt {xs : List Int} {i : Int} (h0 : 0 ≤ i) (h1 : i < (xs.length : Int)) : rd xs i = xs[i.toNat]'(by omega) := by
  unfold rd; rw [List.getD_eq_getElem?_getD, List.getElem?_eq_getElem (by omega)]; rfl
theorem rd_mem {xs : List Int} {i : Int} (h0 : 0 ≤ i) (h1 : i < (xs.length : Int)) : rd xs i ∈ xs := by rw [rd_lt h0 h1]; exact List.getElem_mem _
end Go.Proofs.Ytigpmhicdmjbeaa.M

namespace Go.Proofs.Ytigpmhicdmjbeaa.M
open Go.RowKit Go.Proofs.YtigpmhicdmjbeaaW.PrintWords
/-- A number of 64 bits above the least one. -/
def J (x : Int) : Prop := -9223372036854775807 ≤ x ∧ x ≤ 9223372036854775807
theorem J.i {x : Int} (h : J x) : I x := by unfold J at h; unfold I; omega
theorem J.nat {x : Int} (h : J x) : x.natAbs ≤ 9223372036854775807 := by unfold J at h; omega
/-- The greatest common divisor of g and all of a list. -/
def gl (g : Nat) (l : List Int) : Nat := l.foldl (fun g x => Nat.gcd g x.natAbs) g
theorem gl_cons (g : Nat) (x : Int) (l : List Int) : gl g (x :: l) = gl (Nat.gcd g x.natAbs) l := rfl
theorem gl_append (g : Nat) (l m : List Int) : gl g (l ++ m) = gl (gl g l) m := by unfold gl; rw [List.foldl_append]
theorem gl_gcd (l : List Int) : ∀ g, gl g l = Nat.gcd g (gl 0 l) := by
  induction l with
  | nil => intro g; simp [gl]
  | cons x l ih => intro g; rw [gl_cons, gl_cons, ih, ih (Nat.gcd 0 _), Nat.gcd_zero_left, Nat.gcd_assoc]
theorem gl_dvd (l : List Int) : ∀ x ∈ l, (gl 0 l) ∣ x.natAbs := by
  induction l with
  | nil => intro x h; simp at h
  | cons a l ih =>
    intro x h
    rw [gl_cons, gl_gcd, Nat.gcd_zero_left]
    rcases List.mem_cons.1 h with rfl | h
    · exact Nat.gcd_dvd_left _ _
    · exact Nat.dvd_trans (Nat.gcd_dvd_right _ _) (ih x h)
theorem gl_le (l : List Int) (h : ∀ x ∈ l, J x) : ∀ g, g ≤ 9223372036854775807 → gl g l ≤ 9223372036854775807 := by
  induction l with
  | nil => intro g hg; exact hg
  | cons a l ih =>
    intro g hg
    rw [gl_cons]
    refine ih (fun x hx => h x (List.mem_cons_of_mem _ hx)) _ ?_
    have ha := (h a (List.mem_cons_self ..)).nat
    rcases Nat.eq_zero_or_pos g with e | e
    · subst e; rw [Nat.gcd_zero_left]; exact ha
    · exact Nat.le_trans (Nat.gcd_le_left _ e) hg
theorem gl_mul (c : Nat) (l : List Int) : ∀ g, gl (c * g) (l.map fun x => (c : Int) * x) = c * gl g l := by
  induction l with
  | nil => intro g; rfl
  | cons a l ih =>
    intro g
    rw [List.map_cons, gl_cons, gl_cons, Int.natAbs_mul, Int.natAbs_natCast, Nat.gcd_mul_left, ih]
theorem gl_neg (l : List Int) : ∀ g, gl g (l.map fun x => -x) = gl g l := by
  induction l with
  | nil => intro g; rfl
  | cons a l ih => intro g; rw [List.map_cons, gl_cons, gl_cons, Int.natAbs_neg, ih]
/-- A vector by the greatest number that all have. -/
def normS (l : List Int) : List Int := if 1 < gl 0 l then l.map (fun x => Int.tdiv x (gl 0 l : Int)) else l
theorem normS_length (l : List Int) : (normS l).length = l.length := by unfold normS; split <;> simp
theorem back_of (l : List Int) : (normS l).map (fun x => (gl 0 l : Int) * x) = if 0 < gl 0 l then l else l.map (fun _ => 0) := by
  unfold normS
  split
  · rename_i h
    rw [if_pos (by omega), List.map_map]
    conv => rhs; rw [← List.map_id l]
    refine List.map_congr_left fun x hx => ?_
    have hd : (gl 0 l : Int) ∣ x := Int.ofNat_dvd_left.2 (gl_dvd l x hx)
    simp only [Function.comp, id]
    exact Int.mul_tdiv_cancel' hd
  · rename_i h
    split
    · have e : gl 0 l = 1 := by omega
      rw [e]; simp
    · have e : gl 0 l = 0 := by omega
      rw [e]; simp
theorem zero_of {l : List Int} (h : gl 0 l = 0) : ∀ x ∈ l, x = 0 := by
  intro x hx
  have := gl_dvd l x hx
  rw [h] at this
  have := Nat.eq_zero_of_zero_dvd this
  omega
/-- The vector so made has nothing more. -/
theorem gl_norm (l : List Int) (hp : 0 < gl 0 l) : gl 0 (normS l) = 1 := by
  have h1 := gl_mul (gl 0 l) (normS l) 0
  rw [back_of, if_pos hp, Nat.mul_zero] at h1
  have h2 : gl 0 l * 1 = gl 0 l * gl 0 (normS l) := by rw [Nat.mul_one]; exact h1
  exact (Nat.eq_of_mul_eq_mul_left hp h2).symm
theorem gl_norm_le (l : List Int) : gl 0 (normS l) ≤ 1 := by
  rcases Nat.eq_zero_or_pos (gl 0 l) with e | e
  · unfold normS; rw [if_neg (by omega), e]; omega
  · rw [gl_norm l e]; omega
theorem normS_idem (l : List Int) : normS (normS l) = normS l := by
  have h := gl_norm_le l
  generalize hm : normS l = m at *
  unfold normS; rw [if_neg (by omega)]
theorem tdiv_J {x : Int} {g : Nat} (h : J x) : J (Int.tdiv x (g : Int)) := by
  have h1 : (Int.tdiv x (g : Int)).natAbs ≤ x.natAbs := by
    rw [Int.natAbs_tdiv]; exact Nat.div_le_self _ _
  unfold J at *; omega
theorem normS_J {l : List Int} (h : ∀ x ∈ l, J x) : ∀ x ∈ normS l, J x := by
  unfold normS
  split
  · intro x hx
    obtain ⟨y, hy, rfl⟩ := List.mem_map.1 hx
    exact tdiv_J (h y hy)
  · exact h
theorem normS_neg (l : List Int) : normS (l.map fun x => -x) = (normS l).map fun x => -x := by
  unfold normS
  rw [gl_neg]
  split
  · simp only [List.map_map]
    refine List.map_congr_left fun x _ => ?_
    simp only [Function.comp, Int.neg_tdiv]
  · rfl
end Go.Proofs.Ytigpmhicdmjbeaa.M

namespace Go.Proofs.Ytigpmhicdmjbeaa.Pure
open Go.RowKit Go.Proofs.Ytigpmhicdmjbeaa.PWeighNone Go.Proofs.YtigpmhicdmjbeaaW.PrintWords Go.Proofs.YtigpmhicdmjbeaaW.PrintLast Go.Proofs.YtigpmhicdmjbeaaW.PrintMore Go.Proofs.Ytigpmhicdmjbeaa.M
/-- A byte. -/
def By (x : Int) : Prop := 0 ≤ x ∧ x ≤ 255
theorem by_of_wf {x : Int} (h : (Lit.int .u8 x).wf = true) : By x := by
  simp [Lit.wf, IntKind.min, IntKind.max, IntKind.bits, IntKind.signed] at h
  unfold By; omega
/-- Arcs that may be, of n places. -/
def ArcsOk (n : Nat) (l : List S66) : Prop := l.length ≤ 2 ∧ (∀ a ∈ l, 0 ≤ a.f0 ∧ a.f0 < (n : Int) ∧ 1 ≤ a.f1 ∧ a.f1 ≤ 4) ∧ l.Pairwise fun a b => a.f0 ≠ b.f0
/-- A transition that may be. -/
def TrOk (n : Nat) (t : S64) : Prop := (0 ≤ t.f1 ∧ t.f1 ≤ 4) ∧ (0 ≤ t.f2 ∧ t.f2 ≤ 2) ∧ ArcsOk n t.f3 ∧ ArcsOk n t.f4 ∧ ArcsOk n t.f5
/-- A net that Make makes. -/
structure NetOk (P : List S52) (T : List S64) : Prop where
  p1 : 1 ≤ P.length
  p7 : P.length ≤ 7
  t9 : T.length ≤ 9
  tok : ∀ p ∈ P, 0 ≤ p.f1 ∧ p.f1 ≤ 4
  trs : ∀ t ∈ T, TrOk P.length t
theorem rdA_lt {l : List S66} {i : Nat} (h : i < l.length) : rd_T66 l (i : Int) = l[i] := by
  unfold rd_T66; rw [Int.toNat_natCast, List.getD_eq_getElem?_getD, List.getElem?_eq_getElem h]; rfl
theorem rdA_mem {l : List S66} {i : Nat} (h : i < l.length) : rd_T66 l (i : Int) ∈ l := by rw [rdA_lt h]; exact List.getElem_mem _
theorem dropA_cons {l : List S66} {i : Nat} (h : i < l.length) : l.drop i = rd_T66 l (i : Int) :: l.drop (i + 1) := by
  rw [rdA_lt h]; exact List.drop_eq_getElem_cons h
theorem rdTr_lt {l : List S64} {i : Nat} (h : i < l.length) : rd_T64 l (i : Int) = l[i] := by
  unfold rd_T64; rw [Int.toNat_natCast, List.getD_eq_getElem?_getD, List.getElem?_eq_getElem h]; rfl
theorem rdTr_mem {l : List S64} {i : Nat} (h : i < l.length) : rd_T64 l (i : Int) ∈ l := by rw [rdTr_lt h]; exact List.getElem_mem _
theorem rdP_lt {l : List S52} {i : Nat} (h : i < l.length) : rd_T52 l (i : Int) = l[i] := by
  unfold rd_T52; rw [Int.toNat_natCast, List.getD_eq_getElem?_getD, List.getElem?_eq_getElem h]; rfl
theorem rdP_mem {l : List S52} {i : Nat} (h : i < l.length) : rd_T52 l (i : Int) ∈ l := by rw [rdP_lt h]; exact List.getElem_mem _
theorem rdC_mem {l : List S83} {i : Nat} (h : i < l.length) : rd_T83 l (i : Int) ∈ l := by
  have : rd_T83 l (i : Int) = l[i] := by
    unfold rd_T83; rw [Int.toNat_natCast, List.getD_eq_getElem?_getD, List.getElem?_eq_getElem h]; rfl
  rw [this]; exact List.getElem_mem _
theorem wrap_succ {i : Nat} (h : i < 1000000) : wrap64 ((i : Int) + 1) = ((i + 1 : Nat) : Int) := by rw [wrap_add (n := 1000001) (by omega) (by omega) (by omega)]; rfl

/-- One more arc, if its place isn't there. -/
def putS (l : List S66) (p n : Int) : List S66 := if l.any (fun a => a.f0 == p) then l else l ++ [⟨p, n⟩]
theorem put_loop (l : List S66) (p n : Int) (hl : l.length ≤ 1000) (d : Nat) :
    ∀ i : Nat, l.length = i + d → Ev (fun k => marblerunref05_put.l0 k l p n (i : Int)) (if (l.drop i).any (fun a => a.f0 == p) then l else l ++ [⟨p, n⟩]) := by
  induction d with
  | zero =>
    intro i hi
    rw [List.drop_eq_nil_of_le (by omega)]
    exact Ev.step (f := fun _ => some (l ++ [⟨p, n⟩])) (fun k => by simp only [marblerunref05_put.l0]; rw [if_neg (by omega), if_pos (by omega)]) (Ev.now _)
  | succ d ih =>
    intro i hi
    rw [dropA_cons (by omega), List.any_cons]
    by_cases h : (rd_T66 l (i : Int)).f0 = p
    · refine Ev.step (f := fun _ => some l) (fun k => by simp only [marblerunref05_put.l0]; rw [if_pos (by omega), if_pos (by omega), if_pos h]) ?_
      rw [if_pos (by simp [h])]; exact Ev.now _
    · refine Ev.step (f := fun k => marblerunref05_put.l0 k l p n ((i + 1 : Nat) : Int)) (fun k => ?_) ?_
      · simp only [marblerunref05_put.l0]; rw [if_pos (by omega), if_pos (by omega), if_neg h, wrap_add (n := l.length) (by omega) (by omega) (by omega)]; rfl
      · have := ih (i + 1) (by omega)
        simpa [h] using this
theorem put_ev (l : List S66) (p n : Int) (hl : l.length ≤ 1000) : Ev (fun k => marblerunref05_put.f k l p n) (putS l p n) := by
  have := put_loop l p n hl l.length 0 (by simp)
  rw [List.drop_zero] at this
  exact this
theorem put_len (l : List S66) (p n : Int) : (putS l p n).length ≤ l.length + 1 := by unfold putS; split <;> simp
theorem arcs_put {m : Nat} {l : List S66} {p n : Int} (h : ArcsOk m l) (hl : l.length ≤ 1) (hp : 0 ≤ p ∧ p < (m : Int)) (hn : 1 ≤ n ∧ n ≤ 4) : ArcsOk m (putS l p n) := by
  obtain ⟨h1, h2, h3⟩ := h
  refine ⟨by have := put_len l p n; omega, fun a ha => ?_, ?_⟩
  · unfold putS at ha
    split at ha
    · exact h2 a ha
    · rcases List.mem_append.1 ha with q | q
      · exact h2 a q
      · rw [List.mem_singleton.1 q]; exact ⟨hp.1, hp.2, hn.1, hn.2⟩
  · unfold putS
    split
    · exact h3
    · rename_i hq
      refine List.pairwise_append.2 ⟨h3, List.pairwise_singleton _ _, fun a ha b hb => ?_⟩
      rw [List.mem_singleton.1 hb]
      intro e
      exact hq (List.any_eq_true.2 ⟨a, ha, by simp [e]⟩)
theorem arcs_nil (m : Nat) : ArcsOk m [] := ⟨by simp, fun a ha => by simp at ha, List.Pairwise.nil⟩
theorem str1 (x : Int) : 1 + (strOfNums [x]).size ≤ 9223372036854775807 := by show 1 + 1 ≤ _; omega
theorem str2 (x : Int) : 1 + (strOfNums [x]).size + 2 ≤ 9223372036854775807 := by show 1 + 1 + 2 ≤ _; omega
theorem tmod_by {x : Int} {n : Nat} (h : By x) (hn : 1 ≤ n) : 0 ≤ Int.tmod (wrap64 x) (n : Int) ∧ Int.tmod (wrap64 x) (n : Int) < (n : Int) := by
  unfold By at h
  rw [wrap_id (by unfold I; omega), Int.tmod_eq_emod_of_nonneg h.1]
  exact ⟨Int.emod_nonneg _ (by omega), Int.emod_lt_of_pos _ (by omega)⟩
theorem mod_by (d : Int) {n : Nat} (hn : 1 ≤ n) : 0 ≤ d % 256 % (n : Int) ∧ d % 256 % (n : Int) < (n : Int) := ⟨Int.emod_nonneg _ (by omega), Int.emod_lt_of_pos _ (by omega)⟩
/-- An act of bytes. -/
def ActBy (x : S83) : Prop := By x.f0 ∧ By x.f1 ∧ By x.f2 ∧ By x.f3 ∧ By x.f4 ∧ By x.f5 ∧ By x.f6
section
variable (l : List Int) (m : List S83) (P : List S52) (hm : ∀ a ∈ m, ActBy a) (hml : m.length ≤ 1000) (hp1 : 1 ≤ P.length) (hp7 : P.length ≤ 7) (htok : ∀ p ∈ P, 0 ≤ p.f1 ∧ p.f1 ≤ 4)
/-- What is told of the rest of the run. -/
def Rest (i : Nat) : Prop := ∀ T : List S64, T.length = i → (∀ t ∈ T, TrOk P.length t) → ∃ T', Ev (fun k => marblerunref05_Make.l1 k (P.length : Int) (i : Int) l m P T) (P, T') ∧ T'.length ≤ 9 ∧ ∀ t ∈ T', TrOk P.length t
theorem make_j6 (i : Nat) (hi : i < 9) (hrest : Rest l m P (i + 1)) (T : List S64) (hT : T.length = i) (hok : ∀ t ∈ T, TrOk P.length t) (x : S83) (hx : ActBy x) (s : ByteArray) (dl pr : Int) (hd : 0 ≤ dl ∧ dl ≤ 4) (hpr : 0 ≤ pr ∧ pr ≤ 2) (a b c : List S66)
    (ha : ArcsOk P.length a) (hb : ArcsOk P.length b) (hc : ArcsOk P.length c) :
    ∃ T', Ev (fun k => marblerunref05_Make.j6 k (P.length : Int) (i : Int) l m P T x.f0 x.f1 x.f2 x.f3 x.f4 x.f5 x.f6 s dl pr a b c) (P, T') ∧ T'.length ≤ 9 ∧ ∀ t ∈ T', TrOk P.length t := by
  have ew : wrap64 ((i : Int) + 1) = ((i + 1 : Nat) : Int) := by rw [wrap_add (n := 9) (by omega) (by omega) (by omega)]; rfl
  have nxt : ∀ q : Int, 0 ≤ q ∧ q ≤ 4 → ∃ T', Ev (fun k => marblerunref05_Make.l1 k (P.length : Int) (wrap64 ((i : Int) + 1)) l m P (T ++ [(⟨s, q, pr, a, b, c⟩ : S64)])) (P, T') ∧ T'.length ≤ 9 ∧ ∀ t ∈ T', TrOk P.length t := by
    intro q hq
    rw [ew]
    refine hrest _ (by simp [hT]) (fun t ht => ?_)
    rcases List.mem_append.1 ht with h | h
    · exact hok t h
    · rw [List.mem_singleton.1 h]; exact ⟨hq, hpr, ha, hb, hc⟩
  by_cases h0 : dl = 0
  · by_cases h1 : x.f0 < 128
    · obtain ⟨T', h, hh⟩ := nxt 1 (by omega)
      exact ⟨T', Ev.step (fun k => by simp only [marblerunref05_Make.j6]; rw [if_pos h0, if_pos h1, if_pos (by omega)]) h, hh⟩
    · obtain ⟨T', h, hh⟩ := nxt dl hd
      exact ⟨T', Ev.step (fun k => by simp only [marblerunref05_Make.j6]; rw [if_pos h0, if_neg h1, if_pos (by omega)]) h, hh⟩
  · obtain ⟨T', h, hh⟩ := nxt dl hd
    exact ⟨T', Ev.step (fun k => by simp only [marblerunref05_Make.j6]; rw [if_neg h0, if_pos (by omega)]) h, hh⟩
include hp1 in
theorem make_j5 (i : Nat) (hi : i < 9) (hrest : Rest l m P (i + 1)) (T : List S64) (hT : T.length = i) (hok : ∀ t ∈ T, TrOk P.length t) (x : S83) (hx : ActBy x) (s : ByteArray) (dl pr : Int) (hd : 0 ≤ dl ∧ dl ≤ 4) (hpr : 0 ≤ pr ∧ pr ≤ 2) (a b c : List S66)
    (ha : ArcsOk P.length a) (hb : ArcsOk P.length b) (hc : ArcsOk P.length c) (hcl : c.length ≤ 1) :
    ∃ T', Ev (fun k => marblerunref05_Make.j5 k (P.length : Int) (i : Int) l m P T x.f0 x.f1 x.f2 x.f3 x.f4 x.f5 x.f6 s dl pr a b c) (P, T') ∧ T'.length ≤ 9 ∧ ∀ t ∈ T', TrOk P.length t := by
  by_cases h : Int.tmod x.f6 3 > 0
  · obtain ⟨T', h1, h2⟩ := make_j6 l m P i hi hrest T hT hok x hx s dl pr hd hpr a b (putS c (((Int.tdiv x.f6 3) % 256) % (P.length : Int)) 1) ha hb (arcs_put hc hcl (mod_by _ hp1) (by omega))
    exact ⟨T', Ev.step (fun k => by simp only [marblerunref05_Make.j5]; rw [if_pos h, if_neg (by omega)]) (Ev.bind (put_ev _ _ _ (by omega)) h1), h2⟩
  · obtain ⟨T', h1, h2⟩ := make_j6 l m P i hi hrest T hT hok x hx s dl pr hd hpr a b c ha hb hc
    exact ⟨T', Ev.step (fun k => by simp only [marblerunref05_Make.j5]; rw [if_neg h]) h1, h2⟩
include hp1 in
theorem make_j4 (i : Nat) (hi : i < 9) (hrest : Rest l m P (i + 1)) (T : List S64) (hT : T.length = i) (hok : ∀ t ∈ T, TrOk P.length t) (x : S83) (hx : ActBy x) (s : ByteArray) (dl pr : Int) (hd : 0 ≤ dl ∧ dl ≤ 4) (hpr : 0 ≤ pr ∧ pr ≤ 2) (a b : List S66)
    (ha : ArcsOk P.length a) (hb : ArcsOk P.length b) :
    ∃ T', Ev (fun k => marblerunref05_Make.j4 k (P.length : Int) (i : Int) l m P T x.f0 x.f1 x.f2 x.f3 x.f4 x.f5 x.f6 s dl pr a b) (P, T') ∧ T'.length ≤ 9 ∧ ∀ t ∈ T', TrOk P.length t := by
  by_cases h : Int.tmod x.f5 5 > 0
  · have hb5 : By x.f5 := hx.2.2.2.2.2.1
    have e : Int.tdiv x.f5 128 = x.f5 / 128 := Int.tdiv_eq_ediv_of_nonneg hb5.1
    obtain ⟨T', h1, h2⟩ := make_j5 l m P hp1 i hi hrest T hT hok x hx s dl pr hd hpr a b (putS [] (((Int.tdiv x.f5 5) % 256) % (P.length : Int)) (1 + ((Int.tdiv x.f5 128) % 256))) ha hb (arcs_put (arcs_nil _) (by simp) (mod_by _ hp1) (by unfold By at hb5; rw [e]; omega)) (put_len _ _ _)
    exact ⟨T', Ev.step (fun k => by simp only [marblerunref05_Make.j4]; rw [if_pos h, if_neg (by omega)]) (Ev.bind (put_ev [] _ _ (by simp)) h1), h2⟩
  · obtain ⟨T', h1, h2⟩ := make_j5 l m P hp1 i hi hrest T hT hok x hx s dl pr hd hpr a b [] ha hb (arcs_nil _) (by simp)
    exact ⟨T', Ev.step (fun k => by simp only [marblerunref05_Make.j4]; rw [if_neg h]) h1, h2⟩
include hp1 in
theorem make_j3 (i : Nat) (hi : i < 9) (hrest : Rest l m P (i + 1)) (T : List S64) (hT : T.length = i) (hok : ∀ t ∈ T, TrOk P.length t) (x : S83) (hx : ActBy x) (s : ByteArray) (dl pr : Int) (hd : 0 ≤ dl ∧ dl ≤ 4) (hpr : 0 ≤ pr ∧ pr ≤ 2) (a : List S66)
    (ha : ArcsOk P.length a) :
    ∃ T', Ev (fun k => marblerunref05_Make.j3 k (P.length : Int) (i : Int) l m P T x.f0 x.f1 x.f2 x.f3 x.f4 x.f5 x.f6 s dl pr a) (P, T') ∧ T'.length ≤ 9 ∧ ∀ t ∈ T', TrOk P.length t := by
  by_cases h : Int.tmod x.f4 4 = 0
  · have hb4 : By x.f4 := hx.2.2.2.2.1
    have e : Int.tdiv x.f4 64 = x.f4 / 64 := Int.tdiv_eq_ediv_of_nonneg hb4.1
    obtain ⟨T', h1, h2⟩ := make_j4 l m P hp1 i hi hrest T hT hok x hx s dl pr hd hpr a (putS [] (((Int.tdiv x.f4 4) % 256) % (P.length : Int)) (1 + ((Int.tdiv x.f4 64) % 256))) ha (arcs_put (arcs_nil _) (by simp) (mod_by _ hp1) (by unfold By at hb4; rw [e]; omega))
    exact ⟨T', Ev.step (fun k => by simp only [marblerunref05_Make.j3]; rw [if_pos h, if_neg (by omega)]) (Ev.bind (put_ev [] _ _ (by simp)) h1), h2⟩
  · obtain ⟨T', h1, h2⟩ := make_j4 l m P hp1 i hi hrest T hT hok x hx s dl pr hd hpr a [] ha (arcs_nil _)
    exact ⟨T', Ev.step (fun k => by simp only [marblerunref05_Make.j3]; rw [if_neg h]) h1, h2⟩
include hm hp1 in
theorem make_j2 (i : Nat) (hi : i < 9) (him : i < m.length) (hrest : Rest l m P (i + 1)) (T : List S64) (hT : T.length = i) (hok : ∀ t ∈ T, TrOk P.length t) :
    ∃ T', Ev (fun k => marblerunref05_Make.j2 k (P.length : Int) (i : Int) true l m P T) (P, T') ∧ T'.length ≤ 9 ∧ ∀ t ∈ T', TrOk P.length t := by
  obtain ⟨x, hxe⟩ : ∃ x, rd_T83 m (i : Int) = x := ⟨_, rfl⟩
  have hx : ActBy x := by rw [← hxe]; exact hm _ (rdC_mem him)
  have hb0 : By x.f0 := hx.1
  have hb1 : By x.f1 := hx.2.1
  have hb2 : By x.f2 := hx.2.2.1
  have ed : wrap64 (Int.tmod x.f0 5) = x.f0 % 5 := by
    have := hb0.1
    rw [Int.tmod_eq_emod_of_nonneg hb0.1]; exact wrap_id (by unfold I; omega)
  have ep : wrap64 (Int.tmod x.f1 3) = x.f1 % 3 := by
    have := hb1.1
    rw [Int.tmod_eq_emod_of_nonneg hb1.1]; exact wrap_id (by unfold I; omega)
  have ha := arcs_put (arcs_nil P.length) (by simp) (tmod_by hb2 hp1) (n := 1 + (((Int.tdiv x.f2 64) % 256) % 2)) (by omega)
  have hal := put_len [] (Int.tmod (wrap64 x.f2) (P.length : Int)) (1 + (((Int.tdiv x.f2 64) % 256) % 2))
  by_cases h : Int.tmod x.f3 3 = 0
  · obtain ⟨T', h1, h2⟩ := make_j3 l m P hp1 i hi hrest T hT hok x hx ((((⟨#[116]⟩ : ByteArray) ++ (strOfNums ([(wrap64 (48 + (i : Int))) % 256] : List Int))) ++ (⟨#[46, 120]⟩ : ByteArray))) (wrap64 (Int.tmod x.f0 5)) (wrap64 (Int.tmod x.f1 3)) (by rw [ed]; omega) (by rw [ep]; omega) _ (arcs_put ha hal (mod_by (Int.tdiv x.f3 3) hp1) (show (1 : Int) ≤ 1 ∧ (1 : Int) ≤ 4 by omega))
    refine ⟨T', Ev.step (fun k => ?_) (Ev.bind (f := fun k t197 => (marblerunref05_put.f k t197 (((Int.tdiv x.f3 3) % 256) % (P.length : Int)) 1).bind fun t200 => marblerunref05_Make.j3 k (P.length : Int) (i : Int) l m P T x.f0 x.f1 x.f2 x.f3 x.f4 x.f5 x.f6 ((((⟨#[116]⟩ : ByteArray) ++ (strOfNums ([(wrap64 (48 + (i : Int))) % 256] : List Int))) ++ (⟨#[46, 120]⟩ : ByteArray))) (wrap64 (Int.tmod x.f0 5)) (wrap64 (Int.tmod x.f1 3)) t200) (put_ev [] (Int.tmod (wrap64 x.f2) (P.length : Int)) (1 + (((Int.tdiv x.f2 64) % 256) % 2)) (by simp)) (Ev.bind (put_ev _ _ _ (by have := hal; simp only [List.length_nil] at this; omega)) h1)), h2⟩
    simp only [marblerunref05_Make.j2, hxe, if_true]
    rw [if_pos (by omega), if_pos (by omega)]
    simp only [Option.bind_some]
    rw [if_pos (str1 _), if_pos (str2 _), if_neg (by omega)]
    simp only [if_pos h]
  · obtain ⟨T', h1, h2⟩ := make_j3 l m P hp1 i hi hrest T hT hok x hx ((((⟨#[116]⟩ : ByteArray) ++ (strOfNums ([(wrap64 (48 + (i : Int))) % 256] : List Int))) ++ (⟨#[46, 120]⟩ : ByteArray))) (wrap64 (Int.tmod x.f0 5)) (wrap64 (Int.tmod x.f1 3)) (by rw [ed]; omega) (by rw [ep]; omega) _ ha
    refine ⟨T', Ev.step (fun k => ?_) (Ev.bind (f := fun k t197 => marblerunref05_Make.j3 k (P.length : Int) (i : Int) l m P T x.f0 x.f1 x.f2 x.f3 x.f4 x.f5 x.f6 ((((⟨#[116]⟩ : ByteArray) ++ (strOfNums ([(wrap64 (48 + (i : Int))) % 256] : List Int))) ++ (⟨#[46, 120]⟩ : ByteArray))) (wrap64 (Int.tmod x.f0 5)) (wrap64 (Int.tmod x.f1 3)) t197) (put_ev [] (Int.tmod (wrap64 x.f2) (P.length : Int)) (1 + (((Int.tdiv x.f2 64) % 256) % 2)) (by simp)) h1), h2⟩
    simp only [marblerunref05_Make.j2, hxe, if_true]
    rw [if_pos (by omega), if_pos (by omega)]
    simp only [Option.bind_some]
    rw [if_pos (str1 _), if_pos (str2 _), if_neg (by omega)]
    simp only [if_neg h]
include hm hp1 in
theorem make_l1 (d : Nat) : ∀ i : Nat, i ≤ 9 → i ≤ m.length → min 9 m.length = i + d → Rest l m P i := by
  induction d with
  | zero =>
    intro i hi him hd T hT hok
    refine ⟨T, ?_, by omega, hok⟩
    by_cases h : (i : Int) < (m.length : Int)
    · have h9 : ¬ ((i : Int) < 9) := by omega
      refine Ev.step (f := fun k => marblerunref05_Make.j2 k (P.length : Int) (i : Int) (decide ((i : Int) < 9)) l m P T) (fun k => by simp only [marblerunref05_Make.l1]; rw [if_pos h]) ?_
      rw [decide_eq_false h9]
      exact Ev.step (f := fun _ => some (P, T)) (fun k => by simp only [marblerunref05_Make.j2]; rw [if_neg (by simp)]) (Ev.now _)
    · refine Ev.step (f := fun k => marblerunref05_Make.j2 k (P.length : Int) (i : Int) false l m P T) (fun k => by simp only [marblerunref05_Make.l1]; rw [if_neg h]) ?_
      exact Ev.step (f := fun _ => some (P, T)) (fun k => by simp only [marblerunref05_Make.j2]; rw [if_neg (by simp)]) (Ev.now _)
  | succ d ih =>
    intro i hi him hd T hT hok
    obtain ⟨T', h1, h2⟩ := make_j2 l m P hm hp1 i (by omega) (by omega) (ih (i + 1) (by omega) (by omega) (by omega)) T hT hok
    refine ⟨T', Ev.step (fun k => ?_) h1, h2⟩
    simp only [marblerunref05_Make.l1]
    rw [if_pos (by omega), decide_eq_true (show (i : Int) < 9 by omega)]
end
theorem make_l0 (l : List Int) (m : List S83) (hl : ∀ q ∈ l, By q) (hll : l.length ≤ 1000) (hm : ∀ a ∈ m, ActBy a) (d : Nat) :
    ∀ (i : Nat) (P : List S52), 1 + l.length % 7 = i + d → P.length = i → (∀ p ∈ P, 0 ≤ p.f1 ∧ p.f1 ≤ 4) → ∃ P' T', Ev (fun k => marblerunref05_Make.l0 k (i : Int) l m P) (P', T') ∧ NetOk P' T' := by
  induction d with
  | zero =>
    intro i P hi hP htok
    obtain ⟨T', h1, h2, h3⟩ := make_l1 l m P hm (by omega) (min 9 m.length) 0 (by omega) (by omega) (by omega) [] rfl (fun t ht => by simp at ht)
    refine ⟨P, T', Ev.step (fun k => ?_) h1, by omega, by omega, h2, htok, h3⟩
    simp only [marblerunref05_Make.l0]
    rw [if_neg (by omega)]
    rfl
  | succ d ih =>
    intro i P hi hP htok
    have ew : wrap64 ((i : Int) + 1) = ((i + 1 : Nat) : Int) := by rw [wrap_add (n := 9) (by omega) (by omega) (by omega)]; rfl
    have nxt : ∀ (s : ByteArray) (q : Int), 0 ≤ q ∧ q ≤ 4 → ∃ P' T', Ev (fun k => marblerunref05_Make.l0 k (wrap64 ((i : Int) + 1)) l m (P ++ [(⟨s, q⟩ : S52)])) (P', T') ∧ NetOk P' T' := by
      intro s q hq
      rw [ew]
      refine ih (i + 1) _ (by omega) (by simp [hP]) (fun p hp => ?_)
      rcases List.mem_append.1 hp with h | h
      · exact htok p h
      · rw [List.mem_singleton.1 h]; exact hq
    by_cases h : (i : Int) < (l.length : Int)
    · have hb : By (rd l (i : Int)) := hl _ (rd_mem (by omega) h)
      have e : wrap64 (Int.tmod (rd l (i : Int)) 5) = rd l (i : Int) % 5 := by
        have := hb.1
        rw [Int.tmod_eq_emod_of_nonneg hb.1]; exact wrap_id (by unfold I; omega)
      obtain ⟨P', T', h1, h2⟩ := nxt ((⟨#[112]⟩ : ByteArray) ++ (strOfNums ([(wrap64 (97 + (i : Int))) % 256] : List Int))) (wrap64 (Int.tmod (rd l (i : Int)) 5)) (by rw [e]; omega)
      refine ⟨P', T', Ev.step (fun k => ?_) h1, h2⟩
      simp only [marblerunref05_Make.l0]
      rw [if_pos (by omega), if_pos h, if_pos (by omega)]
      simp only [Option.bind_some]
      rw [if_pos (str1 _), if_pos (by omega)]
    · obtain ⟨P', T', h1, h2⟩ := nxt ((⟨#[112]⟩ : ByteArray) ++ (strOfNums ([(wrap64 (97 + (i : Int))) % 256] : List Int))) 0 (by omega)
      refine ⟨P', T', Ev.step (fun k => ?_) h1, h2⟩
      simp only [marblerunref05_Make.l0]
      rw [if_pos (by omega), if_neg h]
      simp only [Option.bind_some]
      rw [if_pos (str1 _), if_pos (by omega)]
/-- Make answers a net that may be. -/
theorem make_ev (l : List Int) (m : List S83) (hl : ∀ q ∈ l, By q) (hll : l.length ≤ 1000) (hm : ∀ a ∈ m, ActBy a) : ∃ P T, Ev (fun k => marblerunref05_Make.f k l m) (P, T) ∧ NetOk P T := by
  obtain ⟨P, T, h1, h2⟩ := make_l0 l m hl hll hm (1 + l.length % 7) 0 [] (by omega) rfl (fun p hp => by simp at hp)
  exact ⟨P, T, h1, h2⟩

/-- What arcs bring of a place. -/
def sumAt : List S66 → Int → Int
  | [], _ => 0
  | a :: l, p => (if a.f0 = p then a.f1 else 0) + sumAt l p
/-- What a transition changes on a place. -/
def chS (t : S64) (p : Int) : Int := sumAt t.f5 p - sumAt t.f3 p
theorem sumAt_bound {n : Nat} {l : List S66} (h : ∀ a ∈ l, 0 ≤ a.f0 ∧ a.f0 < (n : Int) ∧ 1 ≤ a.f1 ∧ a.f1 ≤ 4) (p : Int) : 0 ≤ sumAt l p ∧ sumAt l p ≤ 4 * (l.length : Int) := by
  induction l with
  | nil => simp [sumAt]
  | cons a l ih =>
    have h1 := ih fun x hx => h x (List.mem_cons_of_mem _ hx)
    have h2 := h a List.mem_cons_self
    unfold sumAt
    rw [List.length_cons]
    split <;> omega
theorem chS_bound {n : Nat} {t : S64} (h : TrOk n t) (p : Int) : -8 ≤ chS t p ∧ chS t p ≤ 8 := by
  have h3 := sumAt_bound h.2.2.1.2.1 p
  have h5 := sumAt_bound h.2.2.2.2.2.1 p
  have l3 := h.2.2.1.1
  have l5 := h.2.2.2.2.1
  unfold chS; omega

theorem size_is {a : Int} (h : I a) : whole_size.f a = some (ab a) := by
  unfold I at h
  unfold whole_size.f ab
  simp only [u64]
  split
  · rw [show (-(a % 18446744073709551616)) % 18446744073709551616 = -a by omega]
  · rw [show a % 18446744073709551616 = a by omega]

theorem mul64_is {x y : Int} (hx0 : 0 ≤ x) (hx : x < 18446744073709551616) (hy0 : 0 ≤ y) (hy : y < 18446744073709551616) :
    bits_Mul64.f x y = some (x * y / 18446744073709551616, x * y % 18446744073709551616) := by
  unfold bits_Mul64.f
  rw [and32 y hy0 hy, and32 x hx0 hx]
  obtain ⟨x1, hx1⟩ : ∃ z, z = x / 4294967296 := ⟨_, rfl⟩
  obtain ⟨x0, hx0'⟩ : ∃ z, z = x % 4294967296 := ⟨_, rfl⟩
  obtain ⟨y1, hy1⟩ : ∃ z, z = y / 4294967296 := ⟨_, rfl⟩
  obtain ⟨y0, hy0'⟩ : ∃ z, z = y % 4294967296 := ⟨_, rfl⟩
  rw [← hx1, ← hx0', ← hy1, ← hy0']
  have e := hi_lo (x := x) (y := y) (p0 := x0) (p1 := x1) (q0 := y0) (q1 := y1) (by omega) (by omega)
  have b11 := mul_le32 (x := x1) (y := y1) (by omega) (by omega) (by omega) (by omega)
  have b10 := mul_le32 (x := x1) (y := y0) (by omega) (by omega) (by omega) (by omega)
  have b01 := mul_le32 (x := x0) (y := y1) (by omega) (by omega) (by omega) (by omega)
  have b00 := mul_le32 (x := x0) (y := y0) (by omega) (by omega) (by omega) (by omega)
  rw [e]
  generalize x1 * y1 = p11 at *
  generalize x1 * y0 = p10 at *
  generalize x0 * y1 = p01 at *
  generalize x0 * y0 = p00 at *
  simp only [u64]
  have w11 : p11 % 18446744073709551616 = p11 := by omega
  have w10 : p10 % 18446744073709551616 = p10 := by omega
  have w01 : p01 % 18446744073709551616 = p01 := by omega
  have w00 : p00 % 18446744073709551616 = p00 := by omega
  rw [w11, w10, w01, w00]
  obtain ⟨t, ht⟩ : ∃ z, z = p10 + p00 / 4294967296 := ⟨_, rfl⟩
  have wt : (p10 + p00 / 4294967296) % 18446744073709551616 = t := by omega
  rw [wt, and32 t (by omega) (by omega)]
  congr 2
  omega
theorem mul_ab (a b : Int) : ab a * ab b = if (decide (a < 0)) = (decide (b < 0)) then a * b else -(a * b) := by
  unfold ab
  by_cases ha : a < 0 <;> by_cases hb : b < 0 <;> simp [ha, hb, Int.neg_mul, Int.mul_neg]
theorem ab_le {a : Int} (h : I a) : 0 ≤ ab a ∧ ab a ≤ 9223372036854775808 := by unfold I at h; unfold ab; omega
theorem mul_ev {a b : Int} (ha : I a) (hb : I b) : Ev (fun k => whole_Mul.f k a b) (mulS a b) := by
  have hp0 := ab_le ha
  have hq0 := ab_le hb
  have hpn : 0 ≤ ab a * ab b := Int.mul_nonneg hp0.1 hq0.1
  have hm := mul_ab a b
  refine Ev.of (k := 3) (whole_Mul.mono a b) ?_
  unfold whole_Mul.f
  rw [size_is ha, size_is hb]
  simp only [Option.bind_some]
  rw [mul64_is hp0.1 (by omega) hq0.1 (by omega)]
  simp only [Option.bind_some]
  generalize hP : ab a * ab b = P at *
  have key : ∀ neg : Bool, (a * b = if neg then -P else P) → (neg = true → P ≠ 0) → whole_Mul.j0 3 (P / 18446744073709551616) (P % 18446744073709551616) neg = some (mulS a b) := by
    intro neg hn hz
    have hI : I (a * b) ↔ (if neg then P ≤ 9223372036854775808 else P ≤ 9223372036854775807) := by
      rw [hn]; unfold I; cases neg <;> simp <;> omega
    unfold mulS
    by_cases h1 : P / 18446744073709551616 > 0
    · have h2 : ¬ I (a * b) := by rw [hI]; cases neg <;> simp <;> omega
      rw [if_neg h2]; simp only [whole_Mul.j0, whole_Mul.j1]; rw [if_pos h1]; rfl
    · have e : P % 18446744073709551616 = P := by omega
      rw [e]
      simp only [whole_Mul.j0, whole_Mul.j1]
      rw [if_neg h1]
      by_cases h2 : P > 9223372036854775808
      · have h3 : ¬ I (a * b) := by rw [hI]; cases neg <;> simp <;> omega
        rw [if_neg h3, if_pos h2]; rfl
      · rw [if_neg h2]
        by_cases h4 : P = 9223372036854775808
        · rw [if_pos h4]
          cases neg with
          | true =>
            have h3 : I (a * b) := by rw [hI]; simp; omega
            rw [if_pos h3]
            simp only [Bool.not_true, if_true] at *
            rw [hn, u64]
            simp only [Bool.false_eq_true, if_false]
            congr 2
            unfold wrap64; omega
          | false =>
            have h3 : ¬ I (a * b) := by rw [hI]; simp; omega
            rw [if_neg h3]; rfl
        · rw [if_neg h4]
          have h3 : I (a * b) := by rw [hI]; cases neg <;> simp <;> omega
          rw [if_pos h3]
          simp only [Bool.false_eq_true, if_false]
          cases neg with
          | true =>
            simp only [if_true] at *
            have := hz trivial
            rw [hn, u64]
            congr 2
            unfold wrap64; omega
          | false =>
            simp only [Bool.false_eq_true, if_false] at *
            rw [hn]
            congr 2
            unfold wrap64; omega
  have hne : ∀ {x : Int}, x ≠ 0 → 1 ≤ ab x := by intro x hx; unfold ab; omega
  by_cases hs : decide (a < 0) = decide (b < 0)
  · rw [if_neg (by simp [hs])]
    rw [if_pos hs] at hm
    exact key false (by simp [hm]) (by simp)
  · rw [if_pos (by simpa using hs)]
    rw [if_neg hs] at hm
    by_cases ha0 : a = 0
    · rw [if_pos ha0]
      refine key false ?_ (by simp)
      subst ha0; simp only [Int.zero_mul] at hm ⊢; simp; omega
    · rw [if_neg ha0]
      by_cases hb0 : b = 0
      · rw [show (b != 0) = false by simp [hb0]]
        refine key false ?_ (by simp)
        subst hb0; simp only [Int.mul_zero] at hm ⊢; simp; omega
      · rw [show (b != 0) = true by simp [hb0]]
        refine key true (by simp; omega) (fun _ => ?_)
        rw [← hP]
        have h1 := hne ha0
        have h2 := hne hb0
        have := Int.mul_le_mul h1 h2 (by omega) (by omega)
        omega

theorem add_is {a b : Int} (ha : I a) (hb : I b) : whole_Add.f a b = some (addS a b) := by
  unfold whole_Add.f addS
  by_cases hI : I (a + b)
  · rw [if_pos hI, wrap_id hI]
    unfold I at ha hb hI
    by_cases h1 : a < 0 <;> by_cases h2 : b < 0 <;> by_cases h3 : a + b < 0 <;> simp [h1, h2, h3] <;> omega
  · rw [if_neg hI]
    unfold I at ha hb hI
    have hi := wrap_I (a + b)
    unfold I at hi
    have hw : wrap64 (a + b) = a + b - 18446744073709551616 ∨ wrap64 (a + b) = a + b + 18446744073709551616 := by unfold wrap64; omega
    by_cases h1 : a < 0 <;> by_cases h2 : b < 0 <;> by_cases h3 : wrap64 (a + b) < 0 <;> simp [h1, h2, h3] <;> omega

theorem drop_cons {l : List Int} {i : Nat} (h : i < l.length) : l.drop i = rd l (i : Int) :: l.drop (i + 1) := by
  rw [List.drop_eq_getElem_cons h, rd_lt (by omega) (by omega)]; rfl

theorem mulS_I (a b : Int) : I (mulS a b).1 := by
  unfold mulS; split
  · assumption
  · decide
theorem dotS_cons (s a b : Int) (xs ys : List Int) : dotS s (a :: xs) (b :: ys) = if I (a * b) then (if I (s + a * b) then dotS (s + a * b) xs ys else (0, false)) else (0, false) := rfl
theorem dot_loop (l0 l1 : List Int) (h0 : ∀ x ∈ l0, I x) (h1 : ∀ x ∈ l1, I x) (hb : l0.length ≤ 9223372036854775806) (d : Nat) :
    ∀ (i : Nat), min l0.length l1.length = i + d → ∀ s, I s → Ev (fun k => whole_Dot.l0 k l0 l1 s ((min l0.length l1.length : Nat) : Int) (i : Int)) (dotS s (l0.drop i) (l1.drop i)) := by
  induction d with
  | zero =>
    intro i hi s hs
    refine Ev.step (f := fun _ => some (s, true)) (fun k => by simp only [whole_Dot.l0]; rw [if_neg (by omega)]) ?_
    have : dotS s (l0.drop i) (l1.drop i) = (s, true) := by
      by_cases h : l0.length ≤ i
      · rw [List.drop_eq_nil_of_le h]; rfl
      · rw [List.drop_eq_nil_of_le (show l1.length ≤ i by omega)]; cases l0.drop i <;> rfl
    rw [this]; exact Ev.now _
  | succ d ih =>
    intro i hi s hs
    have e0 := drop_cons (l := l0) (i := i) (by omega)
    have e1 := drop_cons (l := l1) (i := i) (by omega)
    rw [e0, e1, dotS_cons]
    have i0 := h0 _ (rd_mem (xs := l0) (i := (i : Int)) (by omega) (by omega))
    have i1 := h1 _ (rd_mem (xs := l1) (i := (i : Int)) (by omega) (by omega))
    refine Ev.step (f := fun k => (whole_Mul.f k (rd l0 (i : Int)) (rd l1 (i : Int))).bind fun p => ((whole_Add.f s p.1).bind fun q => (if p.2 = true then (if q.2 = true then (whole_Dot.l0 k l0 l1 q.1 ((min l0.length l1.length : Nat) : Int) (wrap64 ((i : Int) + 1))) else (some (0, false))) else (some (0, false))))) (fun k => by simp only [whole_Dot.l0]; rw [if_pos (by omega), if_pos (by omega), if_pos (by omega), if_pos (by omega)]) ?_
    refine Ev.bind (mul_ev i0 i1) ?_
    refine Ev.congr (f := fun k => (if (mulS (rd l0 (i : Int)) (rd l1 (i : Int))).2 = true then (if (addS s (mulS (rd l0 (i : Int)) (rd l1 (i : Int))).1).2 = true then (whole_Dot.l0 k l0 l1 (addS s (mulS (rd l0 (i : Int)) (rd l1 (i : Int))).1).1 ((min l0.length l1.length : Nat) : Int) (wrap64 ((i : Int) + 1))) else (some (0, false))) else (some (0, false)))) (fun k => by rw [add_is hs (mulS_I _ _)]; rfl) ?_
    rw [wrap_add (n := l0.length) (by omega) (by omega) (by omega)]
    by_cases hm : I (rd l0 (i : Int) * rd l1 (i : Int))
    · rw [if_pos hm]
      have em : mulS (rd l0 (i : Int)) (rd l1 (i : Int)) = (rd l0 (i : Int) * rd l1 (i : Int), true) := by rw [mulS, if_pos hm]
      rw [em]
      by_cases ha : I (s + rd l0 (i : Int) * rd l1 (i : Int))
      · rw [if_pos ha]
        have ea : addS s (rd l0 (i : Int) * rd l1 (i : Int)) = (s + rd l0 (i : Int) * rd l1 (i : Int), true) := by rw [addS, if_pos ha]
        simp only [ea, if_true]
        have := ih (i + 1) (by omega) _ ha
        simpa only [Int.natCast_add, Int.natCast_one] using this
      · rw [if_neg ha]
        have ea : addS s (rd l0 (i : Int) * rd l1 (i : Int)) = (0, false) := by rw [addS, if_neg ha]
        simp only [ea, if_true, Bool.false_eq_true, if_false]
        exact Ev.now _
    · rw [if_neg hm]
      have em : mulS (rd l0 (i : Int)) (rd l1 (i : Int)) = (0, false) := by rw [mulS, if_neg hm]
      rw [em]
      simp only [Bool.false_eq_true, if_false]
      exact Ev.now _
theorem dot_ev {a b : List Int} (h0 : ∀ x ∈ a, I x) (h1 : ∀ x ∈ b, I x) (hb : a.length ≤ 9223372036854775806) : Ev (fun k => whole_Dot.f k a b) (dotS 0 a b) := by
  have h := dot_loop a b h0 h1 hb (min a.length b.length) 0 (by simp) 0 (by decide)
  have e : mn (a.length : Int) (b.length : Int) = ((min a.length b.length : Nat) : Int) := by unfold mn; omega
  unfold whole_Dot.f
  rw [e]
  simpa using h

/-- A list by a function. -/
def vec (n : Nat) (F : Nat → Int) : List Int := (List.range n).map F
theorem vec_length (n : Nat) (F : Nat → Int) : (vec n F).length = n := by simp [vec]
theorem vec_rd {n : Nat} {F : Nat → Int} {p : Nat} (h : p < n) : rd (vec n F) (p : Int) = F p := by
  unfold rd vec; rw [Int.toNat_natCast, List.getD_eq_getElem?_getD, List.getElem?_map, List.getElem?_range h]; rfl
theorem vec_congr {n : Nat} {F G : Nat → Int} (h : ∀ p, p < n → F p = G p) : vec n F = vec n G :=
  List.map_congr_left fun p hp => h p (by simpa using hp)
theorem vec_set {n : Nat} {F : Nat → Int} {p : Nat} (v : Int) : (vec n F).set p v = vec n fun q => if q = p then v else F q := by
  unfold vec
  refine List.ext_getElem (by simp) fun i h1 h2 => ?_
  rw [List.getElem_set]
  by_cases e : p = i
  · subst e; simp
  · rw [if_neg e]; simp [show ¬ i = p from fun x => e x.symm]
theorem rep_vec (n : Nat) : List.replicate n (0 : Int) = vec n fun _ => 0 := by
  unfold vec
  refine List.ext_getElem (by simp) fun i h1 h2 => by simp
/-- The sum of the first numbers. -/
def sumR : Nat → (Nat → Int) → Int
  | 0, _ => 0
  | m + 1, g => sumR m g + g m
theorem sumR_congr : ∀ {m : Nat} {f g : Nat → Int}, (∀ k, k < m → f k = g k) → sumR m f = sumR m g
  | 0, _, _, _ => rfl
  | m + 1, f, g, h => by rw [sumR, sumR, sumR_congr fun k hk => h k (by omega), h m (by omega)]
theorem sumR_zero : ∀ (m : Nat), sumR m (fun _ => 0) = 0
  | 0 => rfl
  | m + 1 => by rw [sumR, sumR_zero m]; rfl
theorem sumR_add : ∀ (m : Nat) (f g : Nat → Int), sumR m (fun k => f k + g k) = sumR m f + sumR m g
  | 0, _, _ => rfl
  | m + 1, f, g => by rw [sumR, sumR, sumR, sumR_add m]; omega
theorem sumR_one : ∀ (m q : Nat) (v : Int), q < m → sumR m (fun k => if k = q then v else 0) = v
  | 0, q, v, h => by omega
  | m + 1, q, v, h => by
    rw [sumR]
    by_cases e : q = m
    · subst e
      rw [if_pos rfl, sumR_congr (g := fun _ => 0) fun k hk => if_neg (by omega), sumR_zero]; omega
    · rw [if_neg (fun x => e x.symm), sumR_one m q v (by omega)]; omega
theorem sumR_bound {b : Int} : ∀ {m : Nat} {f : Nat → Int}, (∀ k, k < m → -b ≤ f k ∧ f k ≤ b) → -((m : Int) * b) ≤ sumR m f ∧ sumR m f ≤ (m : Int) * b
  | 0, _, _ => by simp [sumR]
  | m + 1, f, h => by
    have h1 := sumR_bound (m := m) (f := f) fun k hk => h k (by omega)
    have h2 := h m (by omega)
    have e : ((m + 1 : Nat) : Int) * b = (m : Int) * b + b := by push_cast; rw [Int.add_mul, Int.one_mul]
    rw [sumR, e]; omega

theorem rdE_lt {l : List S88} {i : Nat} (h : i < l.length) : rd_T88 l (i : Int) = l[i] := by
  unfold rd_T88; rw [Int.toNat_natCast, List.getD_eq_getElem?_getD, List.getElem?_eq_getElem h]; rfl
theorem rdE_mem {l : List S88} {i : Nat} (h : i < l.length) : rd_T88 l (i : Int) ∈ l := by rw [rdE_lt h]; exact List.getElem_mem _
theorem dropE_cons {l : List S88} {i : Nat} (h : i < l.length) : l.drop i = rd_T88 l (i : Int) :: l.drop (i + 1) := by
  rw [rdE_lt h]; exact List.drop_eq_getElem_cons h
theorem rdF_lt {l : List S48} {i : Nat} (h : i < l.length) : rd_T48 l (i : Int) = l[i] := by
  unfold rd_T48; rw [Int.toNat_natCast, List.getD_eq_getElem?_getD, List.getElem?_eq_getElem h]; rfl
theorem rdF_mem {l : List S48} {i : Nat} (h : i < l.length) : rd_T48 l (i : Int) ∈ l := by rw [rdF_lt h]; exact List.getElem_mem _
theorem dropF_cons {l : List S48} {i : Nat} (h : i < l.length) : l.drop i = rd_T48 l (i : Int) :: l.drop (i + 1) := by
  rw [rdF_lt h]; exact List.drop_eq_getElem_cons h
/-- What is on its way to a place. -/
def wayS : List S88 → Nat → Int
  | [], _ => 0
  | e :: l, p => (if e.f1 = (p : Int) then e.f2 else 0) + wayS l p
theorem wayS_app : ∀ (l m : List S88) (p : Nat), wayS (l ++ m) p = wayS l p + wayS m p
  | [], m, p => by simp [wayS]
  | e :: l, m, p => by simp only [List.cons_append, wayS]; rw [wayS_app l m p]; omega
/-- What is due at a time. -/
def dueS (t : Int) : List S88 → Nat → Int
  | [], _ => 0
  | e :: l, p => (if e.f0 = t ∧ e.f1 = (p : Int) then e.f2 else 0) + dueS t l p
/-- An event that may be. -/
def EvOk (n : Nat) (e : S88) : Prop := 0 ≤ e.f1 ∧ e.f1 < (n : Int) ∧ 1 ≤ e.f2 ∧ e.f2 ≤ 4
theorem wayS_bound {n : Nat} : ∀ {l : List S88}, (∀ e ∈ l, EvOk n e) → ∀ p, 0 ≤ wayS l p ∧ wayS l p ≤ 4 * (l.length : Int)
  | [], _, p => by simp [wayS]
  | e :: l, h, p => by
    have h1 := wayS_bound (l := l) (fun x hx => h x (List.mem_cons_of_mem _ hx)) p
    have h2 := h e List.mem_cons_self
    unfold EvOk at h2
    rw [wayS, List.length_cons]
    split <;> omega
theorem way_due (t : Int) : ∀ (l : List S88) (p : Nat), wayS (l.filter fun e => e.f0 != t) p + dueS t l p = wayS l p
  | [], p => rfl
  | e :: l, p => by
    have ih := way_due t l p
    rw [List.filter_cons, dueS, wayS]
    by_cases h : e.f0 = t
    · rw [show (e.f0 != t) = false by rw [h]; simp, if_neg (by simp)]
      by_cases h2 : e.f1 = (p : Int)
      · rw [if_pos ⟨h, h2⟩, if_pos h2]; omega
      · rw [if_neg (show ¬ (e.f0 = t ∧ e.f1 = (p : Int)) from fun x => h2 x.2), if_neg h2]; omega
    · rw [show (e.f0 != t) = true from bne_iff_ne.2 h, if_pos rfl, wayS, if_neg (show ¬ (e.f0 = t ∧ e.f1 = (p : Int)) from fun x => h x.1)]; omega
/-- What a list of firings changes. -/
def logS (T : List S64) : List S48 → Nat → Int
  | [], _ => 0
  | f :: l, p => chS (rd_T64 T f.f1) (p : Int) + logS T l p
theorem logS_app (T : List S64) : ∀ (l m : List S48) (p : Nat), logS T (l ++ m) p = logS T l p + logS T m p
  | [], m, p => by simp [logS]
  | e :: l, m, p => by simp only [List.cons_append, logS]; rw [logS_app T l m p]; omega
def FiOk (m : Nat) (f : S48) : Prop := 0 ≤ f.f1 ∧ f.f1 < (m : Int)
theorem tr_at {T : List S64} {n : Nat} (hok : ∀ t ∈ T, TrOk n t) {x : Int} (h0 : 0 ≤ x) (h1 : x < (T.length : Int)) : TrOk n (rd_T64 T x) := by
  obtain ⟨q, rfl⟩ := Int.eq_ofNat_of_zero_le h0
  exact hok _ (rdTr_mem (by omega))
theorem logS_bound {T : List S64} {n : Nat} (hok : ∀ t ∈ T, TrOk n t) : ∀ {l : List S48}, (∀ f ∈ l, FiOk T.length f) → ∀ p, -(8 * (l.length : Int)) ≤ logS T l p ∧ logS T l p ≤ 8 * (l.length : Int)
  | [], _, p => by simp [logS]
  | f :: l, h, p => by
    have h1 := logS_bound hok (l := l) (fun x hx => h x (List.mem_cons_of_mem _ hx)) p
    have h2 := h f List.mem_cons_self
    have h3 := chS_bound (tr_at hok h2.1 h2.2) (p : Int)
    rw [logS, List.length_cons]; omega
section
variable (P : List S52) (T : List S64) (hN : NetOk P T) (hz : Int) (hz30 : hz ≤ 29)
/-- What a run that has ended tells. -/
structure Good (r : List S48 × List Int × List Int × Int × Int) : Prop where
  lm : r.2.1.length = P.length
  lw : r.2.2.1.length = P.length
  fi : ∀ f ∈ r.1, FiOk T.length f
  len : r.1.length ≤ 2000
  sum : ∀ p : Nat, p < P.length → rd r.2.1 (p : Int) + rd r.2.2.1 (p : Int) = (rd_T52 P (p : Int)).f1 + logS T r.1 p
  bd : ∀ p : Nat, p < P.length → -40000 ≤ rd r.2.1 (p : Int) ∧ rd r.2.1 (p : Int) ≤ 40000 ∧ 0 ≤ rd r.2.2.1 (p : Int) ∧ rd r.2.2.1 (p : Int) ≤ 40000
/-- What holds along a run: F the marks, G what is on its way. -/
structure St (wait : List S88) (t : Int) (log : List S48) (F G : Nat → Int) : Prop where
  ev : ∀ e ∈ wait, EvOk P.length e ∧ t ≤ e.f0 ∧ e.f0 ≤ 40
  wl : wait.length ≤ 2 * log.length
  fi : ∀ f ∈ log, FiOk T.length f
  len : log.length ≤ 2000
  way : ∀ p : Nat, p < P.length → G p = wayS wait p
  sum : ∀ p : Nat, p < P.length → F p + G p = (rd_T52 P (p : Int)).f1 + logS T log p
  t0 : 0 ≤ t
include hN in
theorem St.bound {wait : List S88} {t : Int} {log : List S48} {F G : Nat → Int} (h : St P T wait t log F G) {p : Nat} (hp : p < P.length) : -40000 ≤ F p ∧ F p ≤ 40000 ∧ 0 ≤ G p ∧ G p ≤ 40000 := by
  have h1 := wayS_bound (fun e he => (h.ev e he).1) p
  have h2 := logS_bound hN.trs h.fi p
  have h3 := h.way p hp
  have h4 := h.sum p hp
  have h5 := hN.tok _ (rdP_mem hp)
  have h6 := h.wl
  have h7 := h.len
  omega
include hN in
theorem St.good {wait : List S88} {t : Int} {log : List S48} {F G : Nat → Int} (h : St P T wait t log F G) (tm er : Int) : Good P T (log, vec P.length F, vec P.length G, tm, er) :=
  ⟨vec_length _ _, vec_length _ _, h.fi, h.len, fun p hp => by simp only; rw [vec_rd hp, vec_rd hp]; exact h.sum p hp, fun p hp => by simp only; rw [vec_rd hp, vec_rd hp]; exact h.bound P T hN hp⟩
/-- The next time. -/
theorem run_l7 (wait : List S88) (hw : wait.length ≤ 4000) (t : Int) (ht0 : 0 ≤ t) (ht : ∀ e ∈ wait, t < e.f0) (log : List S48) (M W : List Int) (tm : Int) (r : List S48 × List Int × List Int × Int × Int) (Good_ : (List S48 × List Int × List Int × Int × Int) → Prop)
    (h0 : Good_ (log, M, W, tm, 0)) (hend : ∀ x : Int, t < x → (∃ e ∈ wait, e.f0 = x) → (∀ e ∈ wait, x ≤ e.f0) → ∃ r, Ev (fun k => marblerunref09_Run.l1 k hz wait x P T log M W tm) r ∧ Good_ r) (d : Nat) :
    ∀ (i : Nat) (x : Int), wait.length = i + d → ((x = -1 ∧ i = 0) ∨ (t < x ∧ (∃ e ∈ wait, e.f0 = x) ∧ ∀ j : Nat, j < i → x ≤ (rd_T88 wait (j : Int)).f0)) → ∃ r, Ev (fun k => marblerunref09_Run.l7 k hz wait x (i : Int) P T log M W tm) r ∧ Good_ r := by
  induction d with
  | zero =>
    intro i x hi hx
    rcases hx with ⟨hx, h⟩ | ⟨hx, he, h⟩
    · exact ⟨_, Ev.step (f := fun _ => some (log, M, W, tm, 0)) (fun k => by simp only [marblerunref09_Run.l7]; rw [if_neg (by omega), if_pos (by omega)]) (Ev.now _), h0⟩
    · obtain ⟨r, h1, h2⟩ := hend x hx he (fun e he => by
        obtain ⟨j, hj, rfl⟩ := List.getElem_of_mem he
        have := h j (by omega)
        rwa [rdE_lt hj] at this)
      exact ⟨r, Ev.step (fun k => by simp only [marblerunref09_Run.l7]; rw [if_neg (by omega), if_neg (by omega)]) h1, h2⟩
  | succ d ih =>
    intro i x hi hx
    have hmem := rdE_mem (l := wait) (i := i) (by omega)
    have hgt := ht _ hmem
    have take : ∀ y : Int, (y = (rd_T88 wait (i : Int)).f0 ∧ (x = -1 ∧ i = 0 ∨ y ≤ x)) ∨ (y = x ∧ x ≠ -1 ∧ x ≤ (rd_T88 wait (i : Int)).f0) → ∃ r, Ev (fun k => marblerunref09_Run.l7 k hz wait y (wrap64 ((i : Int) + 1)) P T log M W tm) r ∧ Good_ r := by
      intro y hy
      rw [wrap_succ (by omega)]
      refine ih (i + 1) y (by omega) (.inr ?_)
      rcases hy with ⟨hy, hc⟩ | ⟨hy, hc, hle⟩
      · refine ⟨by omega, ⟨_, hmem, hy.symm⟩, fun j hj => ?_⟩
        by_cases e : j = i
        · subst e; omega
        · rcases hx with ⟨_, h⟩ | ⟨_, _, h⟩
          · omega
          · have := h j (by omega)
            rcases hc with ⟨h1, h2⟩ | hc <;> omega
      · rcases hx with ⟨h, _⟩ | ⟨h1, h2, h⟩
        · exact absurd h hc
        · refine ⟨by omega, hy ▸ h2, fun j hj => ?_⟩
          by_cases e : j = i
          · subst e; omega
          · have := h j (by omega); omega
    by_cases hx0 : x < 0
    · have hx1 : x = -1 ∧ i = 0 := hx.resolve_right fun h => by omega
      obtain ⟨r, h1, h2⟩ := take _ (.inl ⟨rfl, .inl hx1⟩)
      exact ⟨r, Ev.step (fun k => by simp only [marblerunref09_Run.l7]; rw [if_pos (by omega), if_pos hx0, if_pos (by omega)]) h1, h2⟩
    · by_cases hlt : (rd_T88 wait (i : Int)).f0 < x
      · obtain ⟨r, h1, h2⟩ := take _ (.inl ⟨rfl, .inr (by omega)⟩)
        exact ⟨r, Ev.step (fun k => by simp only [marblerunref09_Run.l7]; rw [if_pos (by omega), if_neg hx0, if_pos (by omega), if_pos hlt]) h1, h2⟩
      · obtain ⟨r, h1, h2⟩ := take x (.inr ⟨rfl, by omega, by omega⟩)
        exact ⟨r, Ev.step (fun k => by simp only [marblerunref09_Run.l7]; rw [if_pos (by omega), if_neg hx0, if_pos (by omega), if_neg hlt]) h1, h2⟩
/-- Tokens come in. -/
theorem run_l2 (wait : List S88) (hw : wait.length ≤ 4000) (hev : ∀ e ∈ wait, EvOk P.length e) (t : Int) (log : List S48) (tm : Int) (r : List S48 × List Int × List Int × Int × Int) (b : Bool) (d : Nat) :
    ∀ (i : Nat) (left : List S88) (F G : Nat → Int), wait.length = i + d → left.length ≤ i → (∀ p : Nat, p < P.length → -100000 - 4 * (i : Int) ≤ F p ∧ F p ≤ 100000 + 4 * (i : Int) ∧ -100000 - 4 * (i : Int) ≤ G p ∧ G p ≤ 100000 + 4 * (i : Int)) →
    Ev (fun k => marblerunref09_Run.l3 k hz (left ++ (wait.drop i).filter fun e => e.f0 != t) t b 0 P T log (vec P.length fun p => F p + dueS t (wait.drop i) p) (vec P.length fun p => G p - dueS t (wait.drop i) p) tm) r →
    Ev (fun k => marblerunref09_Run.l2 k hz wait t b left (i : Int) P T log (vec P.length F) (vec P.length G) tm) r := by
  induction d with
  | zero =>
    intro i left F G hi hl hb hend
    rw [List.drop_eq_nil_of_le (by omega), List.filter_nil, List.append_nil] at hend
    simp only [dueS, Int.add_zero, Int.sub_zero] at hend
    exact Ev.step (fun k => by simp only [marblerunref09_Run.l2]; rw [if_neg (by omega)]) hend
  | succ d ih =>
    intro i left F G hi hl hb hend
    have hmem := rdE_mem (l := wait) (i := i) (by omega)
    have hok := hev _ hmem
    rw [dropE_cons (by omega), List.filter_cons] at hend
    simp only [dueS] at hend
    obtain ⟨e, he⟩ : ∃ e, rd_T88 wait (i : Int) = e := ⟨_, rfl⟩
    rw [he] at hok
    simp only [he] at hend
    obtain ⟨ha, hb1, hb2, hb3⟩ := hok
    by_cases h : e.f0 = t
    · obtain ⟨q, hq⟩ := Int.eq_ofNat_of_zero_le ha
      have hqn : q < P.length := by omega
      have fb := hb q hqn
      rw [show (e.f0 != t) = false by rw [h]; simp, if_neg (by simp)] at hend
      refine Ev.step (f := fun k => marblerunref09_Run.l2 k hz wait t b left ((i + 1 : Nat) : Int) P T log (vec P.length fun p => if p = q then F q + e.f2 else F p) (vec P.length fun p => if p = q then G q - e.f2 else G p) tm) (fun k => ?_) (ih (i + 1) left _ _ (by omega) (by omega) (fun p hp => ?_) ?_)
      · simp only [marblerunref09_Run.l2, he]
        rw [if_pos (by omega), if_pos (by omega), if_pos h, if_pos ha, if_pos (by rw [vec_length]; omega), if_pos (by rw [vec_length]; omega), wrap_succ (by omega), hq, vec_rd hqn, vec_rd hqn, wrap_id (x := F q + e.f2) (by unfold I; clear hend ih; omega), wrap_id (x := G q - e.f2) (by unfold I; clear hend ih; omega), Int.toNat_natCast, vec_set, vec_set]
      · have := hb p hp
        clear hend ih
        (try dsimp only)
        by_cases e2 : p = q
        · subst e2; rw [if_pos rfl, if_pos rfl]; omega
        · rw [if_neg e2, if_neg e2]; omega
      · have e1 : (vec P.length fun p => (if p = q then F q + e.f2 else F p) + dueS t (wait.drop (i + 1)) p) = vec P.length fun p => F p + ((if e.f0 = t ∧ e.f1 = (p : Int) then e.f2 else 0) + dueS t (wait.drop (i + 1)) p) := vec_congr fun p _ => by
          by_cases e2 : p = q
          · subst e2; rw [if_pos rfl, if_pos ⟨h, hq⟩]; omega
          · rw [if_neg e2, if_neg (fun x => e2 (by omega))]; omega
        have e3 : (vec P.length fun p => (if p = q then G q - e.f2 else G p) - dueS t (wait.drop (i + 1)) p) = vec P.length fun p => G p - ((if e.f0 = t ∧ e.f1 = (p : Int) then e.f2 else 0) + dueS t (wait.drop (i + 1)) p) := vec_congr fun p _ => by
          by_cases e2 : p = q
          · subst e2; rw [if_pos rfl, if_pos ⟨h, hq⟩]; omega
          · rw [if_neg e2, if_neg (fun x => e2 (by omega))]; omega
        rw [e1, e3]; exact hend
    · rw [show (e.f0 != t) = true from bne_iff_ne.2 h, if_pos rfl] at hend
      refine Ev.step (f := fun k => marblerunref09_Run.l2 k hz wait t b (left ++ [e]) ((i + 1 : Nat) : Int) P T log (vec P.length F) (vec P.length G) tm) (fun k => ?_) (ih (i + 1) (left ++ [e]) F G (by omega) (by simp; omega) (fun p hp => by have := hb p hp; omega) ?_)
      · simp only [marblerunref09_Run.l2, he]
        rw [if_pos (by omega), if_pos (by omega), if_neg h, if_pos (by omega), wrap_succ (by omega)]
      · have e1 : (vec P.length fun p => F p + dueS t (wait.drop (i + 1)) p) = vec P.length fun p => F p + ((if e.f0 = t ∧ e.f1 = (p : Int) then e.f2 else 0) + dueS t (wait.drop (i + 1)) p) := vec_congr fun p _ => by rw [if_neg (fun x => h x.1)]; omega
        have e3 : (vec P.length fun p => G p - dueS t (wait.drop (i + 1)) p) = vec P.length fun p => G p - ((if e.f0 = t ∧ e.f1 = (p : Int) then e.f2 else 0) + dueS t (wait.drop (i + 1)) p) := vec_congr fun p _ => by rw [if_neg (fun x => h x.1)]; omega
        rw [e1, e3, List.append_assoc]; exact hend
/-- May a transition fire: it is told. -/
theorem may_ev (t : S64) {n : Nat} (ht : TrOk n t) (M : List Int) (hM : M.length = n) : ∃ b, Ev (fun k => marblerunref08_May.f k t.f0 t.f1 t.f2 t.f3 t.f4 t.f5 M) b := by
  have l1 : ∀ (d i : Nat), t.f4.length = i + d → ∃ b, Ev (fun k => marblerunref08_May.l1 k M (i : Int) t.f0 t.f1 t.f2 t.f3 t.f4 t.f5) b := by
    intro d
    induction d with
    | zero => intro i hi; exact ⟨true, Ev.step (f := fun _ => some true) (fun k => by simp only [marblerunref08_May.l1]; rw [if_neg (by omega)]) (Ev.now _)⟩
    | succ d ih =>
      intro i hi
      have ha := ht.2.2.2.1.2.1 _ (rdA_mem (l := t.f4) (i := i) (by omega))
      have hl := ht.2.2.2.1.1
      by_cases h : rd M ((rd_T66 t.f4 (i : Int)).f0) ≥ (rd_T66 t.f4 (i : Int)).f1
      · exact ⟨false, Ev.step (f := fun _ => some false) (fun k => by simp only [marblerunref08_May.l1]; rw [if_pos (by omega), if_pos (by omega), if_pos ha.1, if_pos (by omega), if_pos h]) (Ev.now _)⟩
      · obtain ⟨b, hb⟩ := ih (i + 1) (by omega)
        exact ⟨b, Ev.step (fun k => by simp only [marblerunref08_May.l1]; rw [if_pos (by omega), if_pos (by omega), if_pos ha.1, if_pos (by omega), if_neg h, wrap_succ (by omega)]) hb⟩
  have l0 : ∀ (d i : Nat), t.f3.length = i + d → ∃ b, Ev (fun k => marblerunref08_May.l0 k M (i : Int) t.f0 t.f1 t.f2 t.f3 t.f4 t.f5) b := by
    intro d
    induction d with
    | zero =>
      intro i hi
      obtain ⟨b, hb⟩ := l1 t.f4.length 0 (by simp)
      exact ⟨b, Ev.step (fun k => by simp only [marblerunref08_May.l0]; rw [if_neg (by omega)]; rfl) hb⟩
    | succ d ih =>
      intro i hi
      have ha := ht.2.2.1.2.1 _ (rdA_mem (l := t.f3) (i := i) (by omega))
      have hl := ht.2.2.1.1
      by_cases h : rd M ((rd_T66 t.f3 (i : Int)).f0) < (rd_T66 t.f3 (i : Int)).f1
      · exact ⟨false, Ev.step (f := fun _ => some false) (fun k => by simp only [marblerunref08_May.l0]; rw [if_pos (by omega), if_pos (by omega), if_pos ha.1, if_pos (by omega), if_pos h]) (Ev.now _)⟩
      · obtain ⟨b, hb⟩ := ih (i + 1) (by omega)
        exact ⟨b, Ev.step (fun k => by simp only [marblerunref08_May.l0]; rw [if_pos (by omega), if_pos (by omega), if_pos ha.1, if_pos (by omega), if_neg h, wrap_succ (by omega)]) hb⟩
  exact l0 t.f3.length 0 (by simp)
include hN in
/-- Which fires: none, or one that there is. -/
theorem best_ev (M : List Int) (hM : M.length = P.length) : ∃ b : Int, Ev (fun k => marblerunref09_Best.f k P T M) b ∧ (b = -1 ∨ (0 ≤ b ∧ b < (T.length : Int))) := by
  have h9 := hN.t9
  have loop : ∀ (d i : Nat) (x : Int), T.length = i + d → (x = -1 ∨ (0 ≤ x ∧ x < (T.length : Int))) → ∃ b : Int, Ev (fun k => marblerunref08_Best.l0 k M x (i : Int) P T) b ∧ (b = -1 ∨ (0 ≤ b ∧ b < (T.length : Int))) := by
    intro d
    induction d with
    | zero => intro i x hi hx; exact ⟨x, Ev.step (f := fun _ => some x) (fun k => by simp only [marblerunref08_Best.l0]; rw [if_neg (by omega)]) (Ev.now _), hx⟩
    | succ d ih =>
      intro i x hi hx
      obtain ⟨m, hm⟩ := may_ev (rd_T64 T (i : Int)) (hN.trs _ (rdTr_mem (by omega))) M hM
      have j1 : ∀ c : Bool, ∃ b : Int, Ev (fun k => marblerunref08_Best.j1 k M x (i : Int) c P T) b ∧ (b = -1 ∨ (0 ≤ b ∧ b < (T.length : Int))) := by
        intro c
        cases c with
        | true =>
          obtain ⟨b, h1, h2⟩ := ih (i + 1) (i : Int) (by omega) (.inr (by omega))
          exact ⟨b, Ev.step (fun k => by simp only [marblerunref08_Best.j1, if_true]; rw [wrap_succ (by omega)]) h1, h2⟩
        | false =>
          obtain ⟨b, h1, h2⟩ := ih (i + 1) x (by omega) hx
          exact ⟨b, Ev.step (fun k => by simp only [marblerunref08_Best.j1]; rw [if_neg (by simp), wrap_succ (by omega)]) h1, h2⟩
      cases m with
      | false =>
        obtain ⟨b, h1, h2⟩ := j1 false
        refine ⟨b, Ev.step (fun k => ?_) (Ev.bind (f := fun k t230 => if t230 = true then (if x < 0 then (marblerunref08_Best.j1 k M x (i : Int) true P T) else (if 0 ≤ x then (if x < (T.length : Int) then (marblerunref08_Best.j1 k M x (i : Int) (decide (((rd_T64 T (i : Int)).f2) < ((rd_T64 T x).f2))) P T) else (none)) else (none))) else (marblerunref08_Best.j1 k M x (i : Int) false P T)) hm (by simpa using h1)), h2⟩
        simp only [marblerunref08_Best.l0]; rw [if_pos (by omega), if_pos (by omega)]
      | true =>
        have key : ∃ b : Int, Ev (fun k => if x < 0 then (marblerunref08_Best.j1 k M x (i : Int) true P T) else (if 0 ≤ x then (if x < (T.length : Int) then (marblerunref08_Best.j1 k M x (i : Int) (decide (((rd_T64 T (i : Int)).f2) < ((rd_T64 T x).f2))) P T) else (none)) else (none))) b ∧ (b = -1 ∨ (0 ≤ b ∧ b < (T.length : Int))) := by
          by_cases h : x < 0
          · simp only [if_pos h]; exact j1 true
          · simp only [if_neg h, if_pos (show 0 ≤ x by omega), if_pos (show x < (T.length : Int) by omega)]; exact j1 _
        obtain ⟨b, h1, h2⟩ := key
        refine ⟨b, Ev.step (fun k => ?_) (Ev.bind (f := fun k t230 => if t230 = true then (if x < 0 then (marblerunref08_Best.j1 k M x (i : Int) true P T) else (if 0 ≤ x then (if x < (T.length : Int) then (marblerunref08_Best.j1 k M x (i : Int) (decide (((rd_T64 T (i : Int)).f2) < ((rd_T64 T x).f2))) P T) else (none)) else (none))) else (marblerunref08_Best.j1 k M x (i : Int) false P T)) hm (by simpa using h1)), h2⟩
        simp only [marblerunref08_Best.l0]; rw [if_pos (by omega), if_pos (by omega)]
  obtain ⟨b, h1, h2⟩ := loop T.length 0 (-1) (by simp) (.inl rfl)
  exact ⟨b, Ev.bind (f := fun _ t => some t) h1 (Ev.now _), h2⟩
end

theorem wayS_map (x : Int) : ∀ (l : List S66) (p : Nat), wayS (l.map fun a => (⟨x, a.f0, a.f1⟩ : S88)) p = sumAt l (p : Int)
  | [], p => rfl
  | a :: l, p => by simp only [List.map_cons, wayS, sumAt]; rw [wayS_map x l p]
/-- What follows where it is told which fires. -/
def cont4 (k : Nat) (hz : Int) (wait : List S88) (t : Int) (X : List Int) (P : List S52) (T : List S64) (log : List S48) (M W : List Int) (tm : Int) (b : Int) : Option (List S48 × List Int × List Int × Int × Int) :=
  if b < 0 then (marblerunref09_Run.l7 k hz wait (-1) ((0 : Nat) : Int) P T log M W tm) else (if 0 ≤ b then (if b < (T.length : Int) then (if b < (X.length : Int) then (if (rd X b) = 20 then (some (log, M, W, tm, 4)) else (if (log.length : Int) = 2000 then (some (log, M, W, tm, 5)) else (if (((rd_T64 T b).f5).length : Int) > 0 then (marblerunref09_Run.j5 k hz wait t false X b (decide ((wrap64 (t + ((rd_T64 T b).f1))) > 1099511627776)) P T log M W tm ((rd_T64 T b).f0) ((rd_T64 T b).f1) ((rd_T64 T b).f2) ((rd_T64 T b).f3) ((rd_T64 T b).f4) ((rd_T64 T b).f5)) else (marblerunref09_Run.j5 k hz wait t false X b false P T log M W tm ((rd_T64 T b).f0) ((rd_T64 T b).f1) ((rd_T64 T b).f2) ((rd_T64 T b).f3) ((rd_T64 T b).f4) ((rd_T64 T b).f5))))) else (none)) else (none)) else (none))
theorem l4_is (k : Nat) (hz : Int) (wait : List S88) (t : Int) (X : List Int) (P : List S52) (T : List S64) (log : List S48) (M W : List Int) (tm : Int) : marblerunref09_Run.l4 (k + 1) hz wait t false X P T log M W tm = (marblerunref09_Best.f k P T M).bind fun b => cont4 k hz wait t X P T log M W tm b := by
  simp only [marblerunref09_Run.l4, cont4]; rfl
theorem l4_ev {hz : Int} {wait : List S88} {t : Int} {X : List Int} {P : List S52} {T : List S64} {log : List S48} {M W : List Int} {tm : Int} {b : Int} {r : List S48 × List Int × List Int × Int × Int} (hb : Ev (fun k => marblerunref09_Best.f k P T M) b) (h : Ev (fun k => cont4 k hz wait t X P T log M W tm b) r) : Ev (fun k => marblerunref09_Run.l4 k hz wait t false X P T log M W tm) r :=
  Ev.step (fun k => l4_is k hz wait t X P T log M W tm) (Ev.bind (f := fun k b => cont4 k hz wait t X P T log M W tm b) hb h)
section
variable (P : List S52) (T : List S64) (hN : NetOk P T) (hz : Int) (hz30 : hz ≤ 29)
theorem run_l5 (wait : List S88) (t : Int) (b : Bool) (X : List Int) (log : List S48) (W : List Int) (tm : Int) (x : S64) (hx : TrOk P.length x) (r : List S48 × List Int × List Int × Int × Int) (d : Nat) :
    ∀ (i : Nat) (F : Nat → Int), x.f3.length = i + d → (∀ p : Nat, p < P.length → -100000 - 4 * (i : Int) ≤ F p ∧ F p ≤ 100000 + 4 * (i : Int)) →
    Ev (fun k => marblerunref09_Run.l6 k hz wait t b X 0 P T log (vec P.length fun p => F p - sumAt (x.f3.drop i) (p : Int)) W tm x.f0 x.f1 x.f2 x.f3 x.f4 x.f5) r →
    Ev (fun k => marblerunref09_Run.l5 k hz wait t b X (i : Int) P T log (vec P.length F) W tm x.f0 x.f1 x.f2 x.f3 x.f4 x.f5) r := by
  have h2 := hx.2.2.1.1
  induction d with
  | zero =>
    intro i F hi hb hend
    rw [List.drop_eq_nil_of_le (by omega)] at hend
    simp only [sumAt, Int.sub_zero] at hend
    exact Ev.step (fun k => by simp only [marblerunref09_Run.l5]; rw [if_neg (by omega)]) hend
  | succ d ih =>
    intro i F hi hb hend
    have ha := hx.2.2.1.2.1 _ (rdA_mem (l := x.f3) (i := i) (by omega))
    rw [dropA_cons (by omega)] at hend
    obtain ⟨a, hae⟩ : ∃ a, rd_T66 x.f3 (i : Int) = a := ⟨_, rfl⟩
    rw [hae] at ha
    simp only [hae, sumAt] at hend
    obtain ⟨ha0, ha1, ha2, ha3⟩ := ha
    obtain ⟨q, hq⟩ := Int.eq_ofNat_of_zero_le ha0
    have hqn : q < P.length := by omega
    have fb := hb q hqn
    refine Ev.step (f := fun k => marblerunref09_Run.l5 k hz wait t b X ((i + 1 : Nat) : Int) P T log (vec P.length fun p => if p = q then F q - a.f1 else F p) W tm x.f0 x.f1 x.f2 x.f3 x.f4 x.f5) (fun k => ?_) (ih (i + 1) _ (by omega) (fun p hp => ?_) ?_)
    · simp only [marblerunref09_Run.l5, hae]
      rw [if_pos (by omega), if_pos (by omega), if_pos ha0, if_pos (by rw [vec_length]; omega), wrap_succ (by omega), hq, vec_rd hqn, wrap_id (x := F q - a.f1) (by unfold I; clear hend ih; omega), Int.toNat_natCast, vec_set]
    · have := hb p hp
      clear hend ih
      (try dsimp only)
      by_cases e2 : p = q
      · subst e2; rw [if_pos rfl]; omega
      · rw [if_neg e2]; omega
    · have e1 : (vec P.length fun p => (if p = q then F q - a.f1 else F p) - sumAt (x.f3.drop (i + 1)) (p : Int)) = vec P.length fun p => F p - ((if a.f0 = (p : Int) then a.f1 else 0) + sumAt (x.f3.drop (i + 1)) (p : Int)) := vec_congr fun p _ => by
        by_cases e2 : p = q
        · subst e2; rw [if_pos rfl, if_pos hq]; omega
        · rw [if_neg e2, if_neg (show ¬ a.f0 = (p : Int) from fun y => e2 (by omega))]; omega
      rw [e1]; exact hend
theorem run_l6a (wait : List S88) (t : Int) (X : List Int) (log : List S48) (W : List Int) (tm : Int) (x : S64) (hx : TrOk P.length x) (hd : x.f1 = 0) (Good_ : (List S48 × List Int × List Int × Int × Int) → Prop) (d : Nat) :
    ∀ (i : Nat) (F : Nat → Int) (b : Bool), x.f5.length = i + d → (∀ p : Nat, p < P.length → -100000 - 4 * (i : Int) ≤ F p ∧ F p ≤ 100000 + 4 * (i : Int)) →
    Good_ (log, vec P.length fun p => F p + sumAt (x.f5.drop i) (p : Int), W, tm, 3) →
    (∃ r, Ev (fun k => marblerunref09_Run.l4 k hz wait t false X P T log (vec P.length fun p => F p + sumAt (x.f5.drop i) (p : Int)) W tm) r ∧ Good_ r) →
    ∃ r, Ev (fun k => marblerunref09_Run.l6 k hz wait t b X (i : Int) P T log (vec P.length F) W tm x.f0 x.f1 x.f2 x.f3 x.f4 x.f5) r ∧ Good_ r := by
  have h2 := hx.2.2.2.2.1
  induction d with
  | zero =>
    intro i F b hi hb hg hend
    rw [List.drop_eq_nil_of_le (by omega)] at hend hg
    simp only [sumAt, Int.add_zero] at hend hg
    cases b with
    | true => exact ⟨_, Ev.step (f := fun _ => some (log, vec P.length F, W, tm, 3)) (fun k => by simp only [marblerunref09_Run.l6, if_true]; rw [if_neg (by omega)]) (Ev.now _), hg⟩
    | false =>
      obtain ⟨r, h1, h3⟩ := hend
      exact ⟨r, Ev.step (fun k => by simp only [marblerunref09_Run.l6]; rw [if_neg (by omega), if_neg (by simp)]) h1, h3⟩
  | succ d ih =>
    intro i F b hi hb hg hend
    have ha := hx.2.2.2.2.2.1 _ (rdA_mem (l := x.f5) (i := i) (by omega))
    rw [dropA_cons (by omega)] at hend hg
    obtain ⟨a, hae⟩ : ∃ a, rd_T66 x.f5 (i : Int) = a := ⟨_, rfl⟩
    rw [hae] at ha
    simp only [hae, sumAt] at hend hg
    obtain ⟨ha0, ha1, ha2, ha3⟩ := ha
    obtain ⟨q, hq⟩ := Int.eq_ofNat_of_zero_le ha0
    have hqn : q < P.length := by omega
    have fb := hb q hqn
    have e1 : (vec P.length fun p => (if p = q then F q + a.f1 else F p) + sumAt (x.f5.drop (i + 1)) (p : Int)) = vec P.length fun p => F p + ((if a.f0 = (p : Int) then a.f1 else 0) + sumAt (x.f5.drop (i + 1)) (p : Int)) := vec_congr fun p _ => by
      clear hend ih hg
      by_cases e2 : p = q
      · subst e2; rw [if_pos rfl, if_pos hq]; omega
      · rw [if_neg e2, if_neg (show ¬ a.f0 = (p : Int) from fun y => e2 (by omega))]; omega
    have nxt : ∀ b : Bool, ∃ r, Ev (fun k => marblerunref09_Run.l6 k hz wait t b X ((i + 1 : Nat) : Int) P T log (vec P.length fun p => if p = q then F q + a.f1 else F p) W tm x.f0 x.f1 x.f2 x.f3 x.f4 x.f5) r ∧ Good_ r := fun b => ih (i + 1) _ b (by omega) (fun p hp => by
      have := hb p hp
      clear hend ih hg e1
      (try dsimp only)
      by_cases e2 : p = q
      · subst e2; rw [if_pos rfl]; omega
      · rw [if_neg e2]; omega) (by rw [e1]; exact hg) (by rw [e1]; exact hend)
    have es : ∀ k, marblerunref09_Run.l6 (k + 1) hz wait t b X (i : Int) P T log (vec P.length F) W tm x.f0 x.f1 x.f2 x.f3 x.f4 x.f5 = if b = true then marblerunref09_Run.l6 k hz wait t true X ((i + 1 : Nat) : Int) P T log (vec P.length fun p => if p = q then F q + a.f1 else F p) W tm x.f0 x.f1 x.f2 x.f3 x.f4 x.f5 else marblerunref09_Run.l6 k hz wait t (decide (F q + a.f1 > 1099511627776)) X ((i + 1 : Nat) : Int) P T log (vec P.length fun p => if p = q then F q + a.f1 else F p) W tm x.f0 x.f1 x.f2 x.f3 x.f4 x.f5 := fun k => by
      simp only [marblerunref09_Run.l6, hae]
      rw [if_pos (by omega), if_pos (by omega), if_pos hd, if_pos ha0, if_pos (by rw [vec_length]; omega), wrap_succ (by omega), hq, vec_rd hqn, wrap_id (x := F q + a.f1) (by unfold I; clear hend ih hg nxt e1; omega), Int.toNat_natCast, vec_set]
      rfl
    cases b with
    | true =>
      obtain ⟨r, h1, h3⟩ := nxt true
      exact ⟨r, Ev.step (fun k => by rw [es k, if_pos rfl]) h1, h3⟩
    | false =>
      obtain ⟨r, h1, h3⟩ := nxt (decide (F q + a.f1 > 1099511627776))
      exact ⟨r, Ev.step (fun k => by rw [es k, if_neg (by simp)]) h1, h3⟩
theorem run_l6b (t : Int) (ht : 0 ≤ t ∧ t ≤ 29) (X : List Int) (log : List S48) (M : List Int) (tm : Int) (x : S64) (hx : TrOk P.length x) (hd : ¬ x.f1 = 0) (Good_ : (List S48 × List Int × List Int × Int × Int) → Prop) (d : Nat) :
    ∀ (i : Nat) (wait : List S88) (G : Nat → Int) (b : Bool), x.f5.length = i + d → wait.length ≤ 5000 + i → (∀ p : Nat, p < P.length → -100000 - 4 * (i : Int) ≤ G p ∧ G p ≤ 100000 + 4 * (i : Int)) →
    Good_ (log, M, vec P.length fun p => G p + sumAt (x.f5.drop i) (p : Int), tm, 3) →
    (∃ r, Ev (fun k => marblerunref09_Run.l4 k hz (wait ++ (x.f5.drop i).map fun a => (⟨t + x.f1, a.f0, a.f1⟩ : S88)) t false X P T log M (vec P.length fun p => G p + sumAt (x.f5.drop i) (p : Int)) tm) r ∧ Good_ r) →
    ∃ r, Ev (fun k => marblerunref09_Run.l6 k hz wait t b X (i : Int) P T log M (vec P.length G) tm x.f0 x.f1 x.f2 x.f3 x.f4 x.f5) r ∧ Good_ r := by
  have h2 := hx.2.2.2.2.1
  have h4 := hx.1
  induction d with
  | zero =>
    intro i wait G b hi hw hb hg hend
    rw [List.drop_eq_nil_of_le (by omega)] at hend hg
    simp only [sumAt, Int.add_zero, List.map_nil, List.append_nil] at hend hg
    cases b with
    | true => exact ⟨_, Ev.step (f := fun _ => some (log, M, vec P.length G, tm, 3)) (fun k => by simp only [marblerunref09_Run.l6, if_true]; rw [if_neg (by omega)]) (Ev.now _), hg⟩
    | false =>
      obtain ⟨r, h1, h3⟩ := hend
      exact ⟨r, Ev.step (fun k => by simp only [marblerunref09_Run.l6]; rw [if_neg (by omega), if_neg (by simp)]) h1, h3⟩
  | succ d ih =>
    intro i wait G b hi hw hb hg hend
    have ha := hx.2.2.2.2.2.1 _ (rdA_mem (l := x.f5) (i := i) (by omega))
    rw [dropA_cons (by omega)] at hend hg
    obtain ⟨a, hae⟩ : ∃ a, rd_T66 x.f5 (i : Int) = a := ⟨_, rfl⟩
    rw [hae] at ha
    simp only [hae, sumAt, List.map_cons] at hend hg
    obtain ⟨ha0, ha1, ha2, ha3⟩ := ha
    obtain ⟨q, hq⟩ := Int.eq_ofNat_of_zero_le ha0
    have hqn : q < P.length := by omega
    have fb := hb q hqn
    have e1 : (vec P.length fun p => (if p = q then G q + a.f1 else G p) + sumAt (x.f5.drop (i + 1)) (p : Int)) = vec P.length fun p => G p + ((if a.f0 = (p : Int) then a.f1 else 0) + sumAt (x.f5.drop (i + 1)) (p : Int)) := vec_congr fun p _ => by
      clear hend ih hg
      by_cases e2 : p = q
      · subst e2; rw [if_pos rfl, if_pos hq]; omega
      · rw [if_neg e2, if_neg (show ¬ a.f0 = (p : Int) from fun y => e2 (by omega))]; omega
    obtain ⟨r, h1, h3⟩ := ih (i + 1) (wait ++ [⟨t + x.f1, a.f0, a.f1⟩]) (fun p => if p = q then G q + a.f1 else G p) b (by omega) (by simp; omega) (fun p hp => by
      have := hb p hp
      clear hend ih hg e1
      (try dsimp only)
      by_cases e2 : p = q
      · subst e2; rw [if_pos rfl]; omega
      · rw [if_neg e2]; omega) (by rw [e1]; exact hg) (by rw [e1, List.append_assoc]; exact hend)
    refine ⟨r, Ev.step (fun k => ?_) h1, h3⟩
    simp only [marblerunref09_Run.l6, hae]
    rw [if_pos (by omega), if_pos (by omega), if_neg hd, if_pos ha0, if_pos (by rw [vec_length]; omega), if_pos (by omega), wrap_succ (by omega), wrap_id (x := t + x.f1) (by unfold I; omega)]
    rw [hq, vec_rd hqn, wrap_id (x := G q + a.f1) (by unfold I; clear hend ih hg e1; omega), Int.toNat_natCast, vec_set]
include hN in
theorem fire_st {wait : List S88} {t : Int} {log : List S48} {F G : Nat → Int} (h : St P T wait (t + 1) log F G) (ht : 0 ≤ t ∧ t ≤ 29) (hlog : log.length < 2000) {b : Int} (hb0 : 0 ≤ b) (hb1 : b < (T.length : Int)) (c : Int) :
    ((rd_T64 T b).f1 = 0 → St P T wait (t + 1) (log ++ [⟨c, b⟩]) (fun p => F p - sumAt (rd_T64 T b).f3 (p : Int) + sumAt (rd_T64 T b).f5 (p : Int)) G) ∧
    (¬ (rd_T64 T b).f1 = 0 → St P T (wait ++ (rd_T64 T b).f5.map fun a => (⟨t + (rd_T64 T b).f1, a.f0, a.f1⟩ : S88)) (t + 1) (log ++ [⟨c, b⟩]) (fun p => F p - sumAt (rd_T64 T b).f3 (p : Int)) (fun p => G p + sumAt (rd_T64 T b).f5 (p : Int))) := by
  have hx := tr_at hN.trs hb0 hb1
  have hfi : ∀ f ∈ log ++ [(⟨c, b⟩ : S48)], FiOk T.length f := fun f hf => by
    rcases List.mem_append.1 hf with q | q
    · exact h.fi f q
    · rw [List.mem_singleton.1 q]; exact ⟨hb0, hb1⟩
  have hls : ∀ p : Nat, logS T (log ++ [(⟨c, b⟩ : S48)]) p = logS T log p + chS (rd_T64 T b) (p : Int) := fun p => by rw [logS_app]; simp [logS]
  have hwl := h.wl
  have hln : (log ++ [(⟨c, b⟩ : S48)]).length = log.length + 1 := by simp
  refine ⟨fun _ => ⟨h.ev, by omega, hfi, by omega, h.way, fun p hp => ?_, h.t0⟩, fun hd => ⟨fun e he => ?_, ?_, hfi, by omega, fun p hp => ?_, fun p hp => ?_, h.t0⟩⟩
  · have := h.sum p hp
    rw [hls]; unfold chS; omega
  · rcases List.mem_append.1 he with q | q
    · exact h.ev e q
    · obtain ⟨a, ha, rfl⟩ := List.mem_map.1 q
      have := hx.2.2.2.2.2.1 a ha
      have h1 := hx.1
      refine ⟨⟨this.1, this.2.1, this.2.2.1, this.2.2.2⟩, ?_, ?_⟩
      · show t + 1 ≤ t + (rd_T64 T b).f1; omega
      · show t + (rd_T64 T b).f1 ≤ 40; omega
  · have := hx.2.2.2.2.1
    rw [List.length_append, List.length_map]; omega
  · rw [wayS_app, wayS_map, ← h.way p hp]
  · have := h.sum p hp
    rw [hls]; unfold chS; omega
include hN hz30 in
theorem run_l4 (t : Int) (ht0 : 0 ≤ t) (hth : t ≤ hz) (tm : Int) (hl1 : ∀ (x : Int) (wait : List S88) (log : List S48) (F G : Nat → Int), t < x → St P T wait x log F G → ∃ r, Ev (fun k => marblerunref09_Run.l1 k hz wait x P T log (vec P.length F) (vec P.length G) tm) r ∧ Good P T r) (fuel : Nat) :
    ∀ (wait : List S88) (log : List S48) (F G : Nat → Int) (X : List Int), 2000 - log.length ≤ fuel → St P T wait (t + 1) log F G → X.length = T.length → (∀ v ∈ X, 0 ≤ v ∧ v ≤ 20) →
    ∃ r, Ev (fun k => marblerunref09_Run.l4 k hz wait t false X P T log (vec P.length F) (vec P.length G) tm) r ∧ Good P T r := by
  have h9 := hN.t9
  induction fuel with
  | zero =>
    intro wait log F G X hf hst hX hXb
    obtain ⟨b, hb, hbb⟩ := best_ev P T hN (vec P.length F) (vec_length _ _)
    have hlen := hst.len
    rcases hbb with hbb | ⟨hb0, hb1⟩
    · obtain ⟨r, h1, h2⟩ := run_l7 P T hz wait (by have := hst.wl; omega) t ht0 (fun e he => by have := (hst.ev e he).2.1; omega) log (vec P.length F) (vec P.length G) tm (log, [], [], 0, 0) (Good P T) (hst.good P T hN tm 0)
        (fun x hx he hall => hl1 x wait log F G hx ⟨fun e he => ⟨(hst.ev e he).1, hall e he, (hst.ev e he).2.2⟩, hst.wl, hst.fi, hst.len, hst.way, hst.sum, by omega⟩) wait.length 0 (-1) (by simp) (.inl ⟨rfl, rfl⟩)
      refine ⟨r, l4_ev hb ?_, h2⟩
      simp only [cont4, if_pos (show b < 0 by omega)]
      exact h1
    · have e2 : (log.length : Int) = 2000 := by omega
      by_cases h20 : rd X b = 20
      · refine ⟨_, l4_ev hb ?_, hst.good P T hN tm 4⟩
        simp only [cont4, if_neg (show ¬ b < 0 by omega), if_pos hb0, if_pos hb1, if_pos (show b < (X.length : Int) by omega), if_pos h20]
        exact Ev.now _
      · refine ⟨_, l4_ev hb ?_, hst.good P T hN tm 5⟩
        simp only [cont4, if_neg (show ¬ b < 0 by omega), if_pos hb0, if_pos hb1, if_pos (show b < (X.length : Int) by omega), if_neg h20, if_pos e2]
        exact Ev.now _
  | succ fuel ih =>
    intro wait log F G X hf hst hX hXb
    obtain ⟨b, hb, hbb⟩ := best_ev P T hN (vec P.length F) (vec_length _ _)
    have hlen := hst.len
    rcases hbb with hbb | ⟨hb0, hb1⟩
    · obtain ⟨r, h1, h2⟩ := run_l7 P T hz wait (by have := hst.wl; omega) t ht0 (fun e he => by have := (hst.ev e he).2.1; omega) log (vec P.length F) (vec P.length G) tm (log, [], [], 0, 0) (Good P T) (hst.good P T hN tm 0)
        (fun x hx he hall => hl1 x wait log F G hx ⟨fun e he => ⟨(hst.ev e he).1, hall e he, (hst.ev e he).2.2⟩, hst.wl, hst.fi, hst.len, hst.way, hst.sum, by omega⟩) wait.length 0 (-1) (by simp) (.inl ⟨rfl, rfl⟩)
      refine ⟨r, l4_ev hb ?_, h2⟩
      simp only [cont4, if_pos (show b < 0 by omega)]
      exact h1
    · by_cases h20 : rd X b = 20
      · refine ⟨_, l4_ev hb ?_, hst.good P T hN tm 4⟩
        simp only [cont4, if_neg (show ¬ b < 0 by omega), if_pos hb0, if_pos hb1, if_pos (show b < (X.length : Int) by omega), if_pos h20]
        exact Ev.now _
      by_cases e2 : (log.length : Int) = 2000
      · refine ⟨_, l4_ev hb ?_, hst.good P T hN tm 5⟩
        simp only [cont4, if_neg (show ¬ b < 0 by omega), if_pos hb0, if_pos hb1, if_pos (show b < (X.length : Int) by omega), if_neg h20, if_pos e2]
        exact Ev.now _
      have hx := tr_at hN.trs hb0 hb1
      obtain ⟨x, hxe⟩ : ∃ x, rd_T64 T b = x := ⟨_, rfl⟩
      have hXl : b < (X.length : Int) := by omega
      have hXv := hXb _ (rd_mem hb0 hXl)
      obtain ⟨s0, s1⟩ := fire_st P T hN hst ⟨ht0, by omega⟩ (by omega) hb0 hb1 t
      rw [hxe] at hx s0 s1
      have hX' : (X.set b.toNat (wrap64 (rd X b + 1))).length = T.length := by simp [hX]
      have hXb' : ∀ v ∈ X.set b.toNat (wrap64 (rd X b + 1)), 0 ≤ v ∧ v ≤ 20 := fun v hv => by
        rcases List.mem_or_eq_of_mem_set hv with q | q
        · exact hXb v q
        · rw [q, wrap_id (by unfold I; omega)]; omega
      have hln : (log ++ [(⟨t, b⟩ : S48)]).length = log.length + 1 := by simp
      have hbd := fun (p : Nat) (hp : p < P.length) => hst.bound P T hN hp
      have l3b := fun p : Nat => sumAt_bound hx.2.2.1.2.1 (p : Int)
      have l3l := hx.2.2.1.1
      have key : ∃ r, Ev (fun k => marblerunref09_Run.l5 k hz wait t false (X.set b.toNat (wrap64 (rd X b + 1))) ((0 : Nat) : Int) P T (log ++ [⟨t, b⟩]) (vec P.length F) (vec P.length G) tm x.f0 x.f1 x.f2 x.f3 x.f4 x.f5) r ∧ Good P T r := by
        by_cases hd : x.f1 = 0
        · obtain ⟨r, h1, h2⟩ := run_l6a P T hz wait t (X.set b.toNat (wrap64 (rd X b + 1))) (log ++ [⟨t, b⟩]) (vec P.length G) tm x hx hd (Good P T) x.f5.length 0 (fun p => F p - sumAt x.f3 (p : Int)) false (by simp) (fun p hp => by have := hbd p hp; have := l3b p; omega) ((s0 hd).good P T hN tm 3) (ih wait _ _ _ _ (by omega) (s0 hd) hX' hXb')
          exact ⟨r, run_l5 P T hz wait t false _ _ _ tm x hx r x.f3.length 0 F (by simp) (fun p hp => by have := hbd p hp; omega) h1, h2⟩
        · obtain ⟨r, h1, h2⟩ := run_l6b P T hz t ⟨ht0, by omega⟩ (X.set b.toNat (wrap64 (rd X b + 1))) (log ++ [⟨t, b⟩]) (vec P.length fun p => F p - sumAt x.f3 (p : Int)) tm x hx hd (Good P T) x.f5.length 0 wait G false (by simp) (by have := hst.wl; omega) (fun p hp => by have := hbd p hp; omega) (by simp only [List.drop_zero]; exact (s1 hd).good P T hN tm 3) (by simp only [List.drop_zero]; exact ih _ _ _ _ _ (by omega) (s1 hd) hX' hXb')
          exact ⟨r, run_l5 P T hz wait t false _ _ _ tm x hx r x.f3.length 0 F (by simp) (fun p hp => by have := hbd p hp; omega) h1, h2⟩
      have j5 : ∀ c : Bool, ∃ r, Ev (fun k => marblerunref09_Run.j5 k hz wait t false X b c P T log (vec P.length F) (vec P.length G) tm x.f0 x.f1 x.f2 x.f3 x.f4 x.f5) r ∧ Good P T r := by
        intro c
        cases c with
        | true => exact ⟨_, Ev.step (f := fun _ => some (log, vec P.length F, vec P.length G, tm, 3)) (fun k => by simp only [marblerunref09_Run.j5, if_true]) (Ev.now _), hst.good P T hN tm 3⟩
        | false =>
          obtain ⟨r, h1, h2⟩ := key
          exact ⟨r, Ev.step (fun k => by simp only [marblerunref09_Run.j5]; rw [if_neg (by simp), if_pos hb0, if_pos hXl, if_pos (by omega)]; rfl) h1, h2⟩
      by_cases hf5 : (x.f5.length : Int) > 0
      · obtain ⟨r, h1, h2⟩ := j5 (decide ((wrap64 (t + x.f1)) > 1099511627776))
        refine ⟨r, l4_ev hb ?_, h2⟩
        simp only [cont4, if_neg (show ¬ b < 0 by omega), if_pos hb0, if_pos hb1, if_pos hXl, if_neg h20, if_neg e2, hxe, if_pos hf5]
        exact h1
      · obtain ⟨r, h1, h2⟩ := j5 false
        refine ⟨r, l4_ev hb ?_, h2⟩
        simp only [cont4, if_neg (show ¬ b < 0 by omega), if_pos hb0, if_pos hb1, if_pos hXl, if_neg h20, if_neg e2, hxe, if_neg hf5]
        exact h1
include hN in
theorem run_l3 (wait : List S88) (t : Int) (log : List S48) (F G : Nat → Int) (tm : Int) (hg : Good P T (log, vec P.length F, vec P.length G, tm, 3)) (hl4 : ∃ r, Ev (fun k => marblerunref09_Run.l4 k hz wait t false (List.replicate T.length 0) P T log (vec P.length F) (vec P.length G) tm) r ∧ Good P T r) (d : Nat) :
    ∀ (i : Nat) (b : Bool), P.length = i + d → ∃ r, Ev (fun k => marblerunref09_Run.l3 k hz wait t b (i : Int) P T log (vec P.length F) (vec P.length G) tm) r ∧ Good P T r := by
  have h9 := hN.t9
  have h7 := hN.p7
  induction d with
  | zero =>
    intro i b hi
    cases b with
    | true => exact ⟨_, Ev.step (f := fun _ => some (log, vec P.length F, vec P.length G, tm, 3)) (fun k => by simp only [marblerunref09_Run.l3, if_true]; rw [if_neg (by rw [vec_length]; omega)]) (Ev.now _), hg⟩
    | false =>
      obtain ⟨r, h1, h2⟩ := hl4
      exact ⟨r, Ev.step (fun k => by simp only [marblerunref09_Run.l3]; rw [if_neg (by rw [vec_length]; omega), if_neg (by simp), if_pos (by omega), if_pos (by omega), Int.toNat_natCast]) h1, h2⟩
  | succ d ih =>
    intro i b hi
    cases b with
    | true =>
      obtain ⟨r, h1, h2⟩ := ih (i + 1) true (by omega)
      exact ⟨r, Ev.step (fun k => by simp only [marblerunref09_Run.l3, if_true]; rw [if_pos (by rw [vec_length]; omega), wrap_succ (by omega)]) h1, h2⟩
    | false =>
      obtain ⟨r, h1, h2⟩ := ih (i + 1) (decide ((rd (vec P.length F) (i : Int)) > 1099511627776)) (by omega)
      exact ⟨r, Ev.step (fun k => by simp only [marblerunref09_Run.l3]; rw [if_pos (by rw [vec_length]; omega), if_neg (by simp), if_pos (by omega), wrap_succ (by omega)]) h1, h2⟩
include hN hz30 in
theorem run_l1 (D : Nat) : ∀ (t : Int) (wait : List S88) (log : List S48) (F G : Nat → Int) (tm : Int), (hz + 1 - t).toNat ≤ D → St P T wait t log F G → ∃ r, Ev (fun k => marblerunref09_Run.l1 k hz wait t P T log (vec P.length F) (vec P.length G) tm) r ∧ Good P T r := by
  induction D with
  | zero =>
    intro t wait log F G tm hD hst
    exact ⟨_, Ev.step (f := fun _ => some (log, vec P.length F, vec P.length G, tm, 0)) (fun k => by simp only [marblerunref09_Run.l1]; rw [if_neg (by omega)]) (Ev.now _), hst.good P T hN tm 0⟩
  | succ D ih =>
    intro t wait log F G tm hD hst
    by_cases hth : t ≤ hz
    · have hst2 : St P T (wait.filter fun e => e.f0 != t) (t + 1) log (fun p => F p + dueS t wait p) (fun p => G p - dueS t wait p) := by
        refine ⟨fun e he => ?_, Nat.le_trans (List.length_filter_le _ _) hst.wl, hst.fi, hst.len, fun p hp => ?_, fun p hp => ?_, by have := hst.t0; omega⟩
        · obtain ⟨h1, h2⟩ := List.mem_filter.1 he
          have h3 := hst.ev e h1
          have h4 : e.f0 ≠ t := bne_iff_ne.1 h2
          exact ⟨h3.1, by omega, h3.2.2⟩
        · have := way_due t wait p
          have := hst.way p hp
          omega
        · have := hst.sum p hp
          omega
      have hl4 := run_l4 P T hN hz hz30 t hst.t0 hth t (fun x wait log F G hx h => ih x wait log F G t (by omega) h) 2000 (wait.filter fun e => e.f0 != t) log _ _ (List.replicate T.length 0) (by omega) hst2 (by simp) (fun v hv => by rw [(List.mem_replicate.1 hv).2]; omega)
      obtain ⟨r, h1, h2⟩ := run_l3 P T hN hz (wait.filter fun e => e.f0 != t) t log _ _ t (hst2.good P T hN t 3) hl4 P.length 0 false (by simp)
      have h3 := run_l2 P T hz wait (by have := hst.wl; have := hst.len; omega) (fun e he => (hst.ev e he).1) t log t r false wait.length 0 [] F G (by simp) (by simp) (fun p hp => by have := hst.bound P T hN hp; omega) h1
      exact ⟨r, Ev.step (fun k => by simp only [marblerunref09_Run.l1]; rw [if_pos hth]; rfl) h3, h2⟩
    · exact ⟨_, Ev.step (f := fun _ => some (log, vec P.length F, vec P.length G, tm, 0)) (fun k => by simp only [marblerunref09_Run.l1]; rw [if_neg hth]) (Ev.now _), hst.good P T hN tm 0⟩
include hN hz30 in
theorem run_l0 (d : Nat) : ∀ i : Nat, P.length = i + d → ∃ r, Ev (fun k => marblerunref09_Run.l0 k hz (i : Int) P T (vec i fun p => (rd_T52 P (p : Int)).f1) (vec i fun _ => 0) 0) r ∧ Good P T r := by
  have h7 := hN.p7
  induction d with
  | zero =>
    intro i hi
    have e : i = P.length := by omega
    obtain ⟨r, h1, h2⟩ := run_l1 P T hN hz hz30 (hz + 1 - 0).toNat 0 [] [] (fun p => (rd_T52 P (p : Int)).f1) (fun _ => 0) 0 (by omega) ⟨fun e he => by simp at he, by simp, fun f hf => by simp at hf, by simp, fun p hp => rfl, fun p hp => by simp [logS], by omega⟩
    rw [e]
    exact ⟨r, Ev.step (fun k => by simp only [marblerunref09_Run.l0]; rw [if_neg (by omega)]) h1, h2⟩
  | succ d ih =>
    intro i hi
    obtain ⟨r, h1, h2⟩ := ih (i + 1) (by omega)
    have e1 : ∀ F : Nat → Int, vec (i + 1) F = vec i F ++ [F i] := fun F => by unfold vec; rw [List.range_succ, List.map_append]; rfl
    rw [e1, e1] at h1
    exact ⟨r, Ev.step (fun k => by simp only [marblerunref09_Run.l0]; rw [if_pos (by omega), if_pos (by omega), if_pos (by rw [vec_length]; omega), if_pos (by rw [vec_length]; omega), wrap_succ (by omega)]) h1, h2⟩
include hN hz30 in
theorem run_ev : ∃ r, Ev (fun k => marblerunref09_Run.f k P T hz) r ∧ Good P T r := run_l0 P T hN hz hz30 P.length 0 (by simp)
end

theorem dotS_I : ∀ (s : Int) (a b : List Int), I s → I (dotS s a b).1
  | s, a :: xs, b :: ys, hs => by
    simp only [dotS]
    split
    · split
      · exact dotS_I _ xs ys (by assumption)
      · exact (by decide : I 0)
    · exact (by decide : I 0)
  | s, [], _, hs => by simpa [dotS] using hs
  | s, _ :: _, [], hs => by simpa [dotS] using hs

/-- What a watch holds behind n tokens more on place p. -/
def addW (y : List Int) (s : Int × Bool) (n p : Int) : Int × Bool := ((addS s.1 (mulS n (rd y p)).1).1, s.2 && (mulS n (rd y p)).2 && (addS s.1 (mulS n (rd y p)).1).2)
def inW (y : List Int) (l : List S66) (s : Int × Bool) : Int × Bool := l.foldl (fun s a => addW y s (wrap64 (-a.f1)) a.f0) s
def outW (y : List Int) (l : List S66) (s : Int × Bool) : Int × Bool := l.foldl (fun s a => addW y s a.f1 a.f0) s
theorem addS_I (a b : Int) : I (addS a b).1 := by unfold addS; split <;> first | assumption | decide
theorem addW_I (y : List Int) (s : Int × Bool) (n p : Int) : I (addW y s n p).1 := addS_I _ _
theorem inW_I (y : List Int) : ∀ (l : List S66) (s : Int × Bool), I s.1 → I (inW y l s).1
  | [], _, h => h
  | a :: l, s, _ => inW_I y l _ (addW_I y s _ _)
theorem outW_I (y : List Int) : ∀ (l : List S66) (s : Int × Bool), I s.1 → I (outW y l s).1
  | [], _, h => h
  | a :: l, s, _ => outW_I y l _ (addW_I y s _ _)
def ArcW (n : Nat) (a : S66) : Prop := I a.f1 ∧ 0 ≤ a.f0 ∧ a.f0 < (n : Int)
theorem addW_ev {y : List Int} (hy : ∀ x ∈ y, I x) {s : Int × Bool} (hs : I s.1) {n p : Int} (hn : I n) (h0 : 0 ≤ p) (h1 : p < (y.length : Int)) (P : List S52) (T : List S64) (f : Int) : Ev (fun k => weigh_Watch_add.f k P T y f s.1 s.2 n p) (f, (addW y s n p).1, (addW y s n p).2) := by
  obtain ⟨K, hK⟩ := mul_ev hn (hy _ (rd_mem h0 h1))
  refine ⟨K, fun k hk => ?_⟩
  have h := hK k hk
  dsimp only at h ⊢
  unfold weigh_Watch_add.f addW
  rw [if_pos h0, if_pos h1, h, Option.bind_some, add_is hs (mulS_I _ _), Option.bind_some]
  cases s.2 <;> cases (mulS n (rd y p)).2 <;> simp
theorem outW_ev {y : List Int} (hy : ∀ x ∈ y, I x) (P : List S52) (T : List S64) (f : Int) {l : List S66} (hl : ∀ a ∈ l, ArcW y.length a) (hll : l.length ≤ 1000) (d : Nat) :
    ∀ (i : Nat) (s : Int × Bool), l.length = i + d → I s.1 → Ev (fun k => weigh_Watch_Fire.l1 k l (l.length : Int) (i : Int) P T y f s.1 s.2) (f, (outW y (l.drop i) s).1, (outW y (l.drop i) s).2) := by
  induction d with
  | zero =>
    intro i s hi hs
    rw [List.drop_eq_nil_of_le (by omega)]
    exact Ev.step (f := fun _ => some (f, s.1, s.2)) (fun k => by simp only [weigh_Watch_Fire.l1]; rw [if_neg (by omega)]) (Ev.now _)
  | succ d ih =>
    intro i s hi hs
    have ha := hl _ (rdA_mem (l := l) (i := i) (by omega))
    rw [dropA_cons (by omega)]
    refine Ev.step (f := fun k => (weigh_Watch_add.f k P T y f s.1 s.2 ((rd_T66 l (i : Int)).f1) ((rd_T66 l (i : Int)).f0)).bind fun b => weigh_Watch_Fire.l1 k l (l.length : Int) ((i + 1 : Nat) : Int) P T y b.1 b.2.1 b.2.2) (fun k => by simp only [weigh_Watch_Fire.l1]; rw [if_pos (by omega), if_pos (by omega), if_pos (by omega), wrap_succ (by omega)]) ?_
    refine Ev.bind (addW_ev hy hs ha.1 ha.2.1 ha.2.2 P T f) ?_
    exact ih (i + 1) _ (by omega) (addW_I y s _ _)
theorem inW_ev {y : List Int} (hy : ∀ x ∈ y, I x) (P : List S52) (T : List S64) (f : Int) {l : List S66} (hl : ∀ a ∈ l, ArcW y.length a) (hll : l.length ≤ 1000) {t : Int} (t0 : 0 ≤ t) (t1 : t < (T.length : Int)) (ho : ∀ a ∈ (rd_T64 T t).f5, ArcW y.length a) (hol : (rd_T64 T t).f5.length ≤ 1000) (d : Nat) :
    ∀ (i : Nat) (s : Int × Bool), l.length = i + d → I s.1 → Ev (fun k => weigh_Watch_Fire.l0 k t l (l.length : Int) (i : Int) P T y f s.1 s.2) (f, (outW y (rd_T64 T t).f5 (inW y (l.drop i) s)).1, (outW y (rd_T64 T t).f5 (inW y (l.drop i) s)).2) := by
  induction d with
  | zero =>
    intro i s hi hs
    rw [List.drop_eq_nil_of_le (by omega)]
    refine Ev.step (f := fun k => weigh_Watch_Fire.l1 k (rd_T64 T t).f5 ((rd_T64 T t).f5.length : Int) ((0 : Nat) : Int) P T y f s.1 s.2) (fun k => by simp only [weigh_Watch_Fire.l0]; rw [if_neg (by omega), if_pos t0, if_pos t1]; rfl) ?_
    exact outW_ev hy P T f ho hol (rd_T64 T t).f5.length 0 s (by omega) hs
  | succ d ih =>
    intro i s hi hs
    have ha := hl _ (rdA_mem (l := l) (i := i) (by omega))
    rw [dropA_cons (by omega)]
    refine Ev.step (f := fun k => (weigh_Watch_add.f k P T y f s.1 s.2 (wrap64 (-((rd_T66 l (i : Int)).f1))) ((rd_T66 l (i : Int)).f0)).bind fun b => weigh_Watch_Fire.l0 k t l (l.length : Int) ((i + 1 : Nat) : Int) P T y b.1 b.2.1 b.2.2) (fun k => by simp only [weigh_Watch_Fire.l0]; rw [if_pos (by omega), if_pos (by omega), if_pos (by omega), wrap_succ (by omega)]) ?_
    refine Ev.bind (addW_ev hy hs (wrap_I _) ha.2.1 ha.2.2 P T f) ?_
    exact ih (i + 1) _ (by omega) (addW_I y s _ _)
/-- What a watch holds behind a firing. -/
def fireS (y : List Int) (T : List S64) (s : Int × Bool) (t : Int) : Int × Bool := if 0 ≤ t ∧ t < (T.length : Int) then outW y (rd_T64 T t).f5 (inW y (rd_T64 T t).f3 s) else s
theorem fireS_I (y : List Int) (T : List S64) (s : Int × Bool) (t : Int) (hs : I s.1) : I (fireS y T s t).1 := by
  unfold fireS; split
  · exact outW_I y _ _ (inW_I y _ _ hs)
  · exact hs
def TransW (n : Nat) (T : List S64) : Prop := ∀ t : Int, 0 ≤ t → t < (T.length : Int) → ((∀ a ∈ (rd_T64 T t).f3, ArcW n a) ∧ (rd_T64 T t).f3.length ≤ 1000) ∧ (∀ a ∈ (rd_T64 T t).f5, ArcW n a) ∧ (rd_T64 T t).f5.length ≤ 1000
theorem fire_ev {y : List Int} (hy : ∀ x ∈ y, I x) (P : List S52) {T : List S64} (f : Int) (hT : TransW y.length T) (t : Int) (s : Int × Bool) (hs : I s.1) :
    Ev (fun k => weigh_Watch_Fire.f k P T y f s.1 s.2 t) (f, (fireS y T s t).1, (fireS y T s t).2) := by
  by_cases h0 : t < 0
  · refine ⟨1, fun k hk => ?_⟩
    obtain ⟨k, rfl⟩ : ∃ m, k = m + 1 := ⟨k - 1, by omega⟩
    dsimp only
    unfold weigh_Watch_Fire.f fireS
    rw [if_pos h0, if_neg (by omega)]
    simp only [weigh_Watch_Fire.j0]
    exact if_pos trivial
  by_cases h1 : t < (T.length : Int)
  · obtain ⟨⟨a, al⟩, b, bl⟩ := hT t (by omega) h1
    have h := inW_ev hy P T f a al (by omega) h1 b bl (rd_T64 T t).f3.length 0 s (by omega) hs
    unfold fireS
    rw [if_pos ⟨by omega, h1⟩]
    unfold weigh_Watch_Fire.f
    refine Ev.step (f := fun k => weigh_Watch_Fire.l0 k t (rd_T64 T t).f3 ((rd_T64 T t).f3.length : Int) ((0 : Nat) : Int) P T y f s.1 s.2) (fun k => ?_) h
    rw [if_neg h0]
    simp only [weigh_Watch_Fire.j0]
    rw [if_neg (show ¬ (decide (t ≥ (T.length : Int)) = true) by simp; omega), if_pos (by omega), if_pos h1]; rfl
  · refine ⟨1, fun k hk => ?_⟩
    obtain ⟨k, rfl⟩ : ∃ m, k = m + 1 := ⟨k - 1, by omega⟩
    dsimp only
    unfold weigh_Watch_Fire.f fireS
    rw [if_neg h0, if_neg (by omega)]
    simp only [weigh_Watch_Fire.j0]
    rw [if_pos (show decide (t ≥ (T.length : Int)) = true by simp; omega)]
theorem same_is (P : List S52) (T : List S64) (y : List Int) (f : Int) (s : Int × Bool) : weigh_Watch_Same.f P T y f s.1 s.2 = some (s.2 && (s.1 == f), f, s.1, s.2) := by
  unfold weigh_Watch_Same.f; cases h : s.2 <;> simp [h]
/-- A new watch. -/
def newR (P : List S52) (T : List S64) (y m : List Int) : List S52 × List S64 × List Int × Int × Int × Bool × Int := if (dotS 0 y m).2 = true then (P, T, y, (dotS 0 y m).1, (dotS 0 y m).1, true, 0) else ([], [], [], 0, 0, false, 3)
theorem new_loop {y : List Int} (hy : ∀ x ∈ y, I x) (hyl : y.length ≤ 1000) (P : List S52) (T : List S64) (hP : ∀ p ∈ P, I p.f1) (hPl : P.length ≤ 1000) (d : Nat) :
    ∀ (i : Nat) (acc : List Int), P.length = i + d → (∀ x ∈ acc, I x) → acc.length ≤ i → Ev (fun k => weigh_New.l0 k y acc P (P.length : Int) (i : Int) P T) (newR P T y (acc ++ (P.drop i).map fun p => p.f1)) := by
  induction d with
  | zero =>
    intro i acc hi ha hal
    rw [List.drop_eq_nil_of_le (by omega), List.map_nil, List.append_nil]
    refine Ev.step (f := fun k => (whole_Dot.f k y acc).bind fun q => (if q.2 = true then (some (P, T, y, q.1, q.1, true, 0)) else (some (([] : List (S52)), ([] : List (S64)), ([] : List Int), 0, 0, false, 3)))) (fun k => by simp only [weigh_New.l0]; rw [if_neg (by omega)]) ?_
    refine Ev.bind (dot_ev hy ha (by omega)) ?_
    refine Ev.congr (f := fun _ => some (newR P T y acc)) (fun k => ?_) (Ev.now _)
    unfold newR; split <;> rfl
  | succ d ih =>
    intro i acc hi ha hal
    have hp : rd_T52 P (i : Int) = P[i]'(by omega) := rdP_lt (by omega)
    refine Ev.step (f := fun k => weigh_New.l0 k y (acc ++ [(rd_T52 P (i : Int)).f1]) P (P.length : Int) ((i + 1 : Nat) : Int) P T) (fun k => by simp only [weigh_New.l0]; rw [if_pos (by omega), if_pos (by omega), if_pos (by omega), if_pos (by omega), wrap_succ (by omega)]) ?_
    have e := ih (i + 1) (acc ++ [(rd_T52 P (i : Int)).f1]) (by omega) (fun x hx => ?_) (by simp; omega)
    · rw [List.drop_eq_getElem_cons (by omega : i < P.length), List.map_cons]
      rw [hp, List.append_assoc, List.singleton_append] at e
      exact hp ▸ e
    · rcases List.mem_append.1 hx with h | h
      · exact ha x h
      · rw [List.mem_singleton.1 h, hp]; exact hP _ (List.getElem_mem _)
def newS (P : List S52) (T : List S64) (y : List Int) : List S52 × List S64 × List Int × Int × Int × Bool × Int := if y.length = P.length then newR P T y (P.map fun p => p.f1) else ([], [], [], 0, 0, false, 1)
theorem new_ev {y : List Int} (hy : ∀ x ∈ y, I x) (hyl : y.length ≤ 1000) (P : List S52) (T : List S64) (hP : ∀ p ∈ P, I p.f1) (hPl : P.length ≤ 1000) : Ev (fun k => weigh_New.f k P T y) (newS P T y) := by
  unfold weigh_New.f newS
  by_cases h : y.length = P.length
  · rw [if_pos h]
    have e := new_loop hy hyl P T hP hPl P.length 0 [] (by simp) (by simp) (by simp)
    rw [List.nil_append, List.drop_zero] at e
    refine Ev.congr (fun k => ?_) e
    rw [if_pos (by omega)]; rfl
  · rw [if_neg h]
    refine Ev.congr (fun k => ?_) (Ev.now _)
    rw [if_neg (by omega)]

theorem rdG_lt {l : List S48} {i : Nat} (h : i < l.length) : rd_T48 l (i : Int) = l[i] := by
  unfold rd_T48; rw [Int.toNat_natCast, List.getD_eq_getElem?_getD, List.getElem?_eq_getElem h]; rfl
theorem dropG_cons {l : List S48} {i : Nat} (h : i < l.length) : l.drop i = rd_T48 l (i : Int) :: l.drop (i + 1) := by
  rw [rdG_lt h]; exact List.drop_eq_getElem_cons h
/-- The first firing behind which it weighs something else, counted from i on. -/
def checkS (y : List Int) (T : List S64) (f : Int) : List S48 → Nat → Int × Bool → Int
  | [], _, _ => -1
  | e :: l, i, s => if ((fireS y T s e.f1).2 && ((fireS y T s e.f1).1 == f)) = true then checkS y T f l (i + 1) (fireS y T s e.f1) else (i : Int)
theorem check_loop {y : List Int} (hy : ∀ x ∈ y, I x) (P : List S52) {T : List S64} (f : Int) (hT : TransW y.length T) (l : List S48) (hl : l.length ≤ 100000) (d : Nat) :
    ∀ (i : Nat) (s : Int × Bool), l.length = i + d → I s.1 → Ev (fun k => weigh_Check.l0 k l (l.length : Int) (i : Int) P T y f s.1 s.2) (checkS y T f (l.drop i) i s, 0) := by
  induction d with
  | zero =>
    intro i s hi hs
    rw [List.drop_eq_nil_of_le (by omega)]
    exact Ev.step (f := fun _ => some (-1, 0)) (fun k => by simp only [weigh_Check.l0]; rw [if_neg (by omega)]) (Ev.now _)
  | succ d ih =>
    intro i s hi hs
    rw [dropG_cons (by omega)]
    refine Ev.step (f := fun k => (weigh_Watch_Fire.f k P T y f s.1 s.2 ((rd_T48 l (i : Int)).f1)).bind fun b => ((weigh_Watch_Same.f P T y b.1 b.2.1 b.2.2).bind fun c => (if c.1 = true then (weigh_Check.l0 k l (l.length : Int) ((i + 1 : Nat) : Int) P T y c.2.1 c.2.2.1 c.2.2.2) else (some ((i : Int), 0))))) (fun k => by simp only [weigh_Check.l0]; rw [if_pos (by omega), if_pos (by omega), if_pos (by omega), wrap_succ (by omega)]) ?_
    refine Ev.bind (fire_ev hy P f hT _ s hs) ?_
    simp only [same_is, Option.bind_some, checkS]
    split
    · exact ih (i + 1) _ (by omega) (fireS_I y T s _ hs)
    · exact Ev.now _
def checkR (P : List S52) (T : List S64) (y : List Int) (l : List S48) : Int × Int := if (newS P T y).2.2.2.2.2.2 = 0 then (checkS y T (newS P T y).2.2.2.1 l 0 ((newS P T y).2.2.2.1, true), 0) else (-1, (newS P T y).2.2.2.2.2.2)
theorem newS_ok {P : List S52} {T : List S64} {y : List Int} (h : (newS P T y).2.2.2.2.2.2 = 0) : y.length = P.length ∧ (dotS 0 y (P.map fun p => p.f1)).2 = true ∧ newS P T y = (P, T, y, (dotS 0 y (P.map fun p => p.f1)).1, (dotS 0 y (P.map fun p => p.f1)).1, true, 0) := by
  unfold newS at h ⊢
  by_cases e : y.length = P.length
  · rw [if_pos e] at h ⊢
    unfold newR at h ⊢
    by_cases g : (dotS 0 y (P.map fun p => p.f1)).2 = true
    · rw [if_pos g]; exact ⟨e, g, rfl⟩
    · rw [if_neg g] at h; exact absurd h (by decide)
  · rw [if_neg e] at h; exact absurd h (by decide)
theorem check_ev {y : List Int} (hy : ∀ x ∈ y, I x) (hyl : y.length ≤ 1000) (P : List S52) {T : List S64} (hP : ∀ p ∈ P, I p.f1) (hPl : P.length ≤ 1000) (hT : y.length = P.length → TransW y.length T) (l : List S48) (hl : l.length ≤ 100000) :
    Ev (fun k => weigh_Check.f k P T y l) (checkR P T y l) := by
  unfold weigh_Check.f
  refine Ev.bind (new_ev hy hyl P T hP hPl) ?_
  unfold checkR
  by_cases h : (newS P T y).2.2.2.2.2.2 = 0
  · rw [if_pos h]
    obtain ⟨e, g, hn⟩ := newS_ok h
    simp only [hn, if_true]
    have h2 := check_loop hy P (dotS 0 y (P.map fun p => p.f1)).1 (hT e) l hl l.length 0 ((dotS 0 y (P.map fun p => p.f1)).1, true) (by simp) (dotS_I _ _ _ (by decide))
    exact h2
  · rw [if_neg h]
    refine Ev.congr (fun k => ?_) (Ev.now _)
    rw [if_neg h]

theorem netW {P : List S52} {T : List S64} (h : NetOk P T) : TransW P.length T := by
  intro t h0 h1
  obtain ⟨i, rfl⟩ := Int.eq_ofNat_of_zero_le h0
  have ht := h.trs _ (rdTr_mem (l := T) (i := i) (by omega))
  refine ⟨⟨fun a ha => ?_, by have := ht.2.2.1.1; omega⟩, fun a ha => ?_, by have := ht.2.2.2.2.1; omega⟩
  · have := ht.2.2.1.2.1 a ha; exact ⟨by unfold I; omega, this.1, this.2.1⟩
  · have := ht.2.2.2.2.2.1 a ha; exact ⟨by unfold I; omega, this.1, this.2.1⟩
theorem tokI {P : List S52} {T : List S64} (h : NetOk P T) : ∀ p ∈ P, I p.f1 := fun p hp => by have := h.tok p hp; unfold I; omega
theorem takeP_snoc {l : List S52} {i : Nat} (h : i < l.length) : (l.take i).map (fun p => p.f1) ++ [(rd_T52 l (i : Int)).f1] = (l.take (i + 1)).map fun p => p.f1 := by
  rw [List.take_succ_eq_append_getElem h, List.map_append, rdP_lt h]; rfl

/-- No more than 2^20, either way. -/
def Sm (y : List Int) : Prop := ∀ x ∈ y, -1048576 ≤ x ∧ x ≤ 1048576
theorem Sm.i {y : List Int} (h : Sm y) : ∀ x ∈ y, I x := fun x hx => by have := h x hx; unfold I; omega
theorem times4 {n x B : Int} (h1 : 1 ≤ n) (h4 : n ≤ 4) (hx : -B ≤ x ∧ x ≤ B) (hB : 0 ≤ B) : -(4 * B) ≤ n * x ∧ n * x ≤ 4 * B := by
  have : n = 1 ∨ n = 2 ∨ n = 3 ∨ n = 4 := by omega
  rcases this with rfl | rfl | rfl | rfl <;> omega
/-- What arcs weigh. -/
def wsum (y : List Int) : List S66 → Int
  | [] => 0
  | a :: l => a.f1 * rd y a.f0 + wsum y l
/-- What a firing changes of the weight. -/
def chY (y : List Int) (t : S64) : Int := wsum y t.f5 - wsum y t.f3
def ArcS (n : Nat) (a : S66) : Prop := 0 ≤ a.f0 ∧ a.f0 < (n : Int) ∧ 1 ≤ a.f1 ∧ a.f1 ≤ 4
theorem arc_small {y : List Int} (hy : Sm y) {a : S66} (ha : ArcS y.length a) : -4194304 ≤ a.f1 * rd y a.f0 ∧ a.f1 * rd y a.f0 ≤ 4194304 := by
  have := times4 ha.2.2.1 ha.2.2.2 (hy _ (rd_mem ha.1 ha.2.1)) (by decide); omega
theorem wsum_small {y : List Int} (hy : Sm y) : ∀ {l : List S66}, (∀ a ∈ l, ArcS y.length a) → -(4194304 * (l.length : Int)) ≤ wsum y l ∧ wsum y l ≤ 4194304 * (l.length : Int)
  | [], _ => by simp [wsum]
  | a :: l, h => by
    have h1 := arc_small hy (h a List.mem_cons_self)
    have h2 := wsum_small hy (l := l) fun x hx => h x (List.mem_cons_of_mem _ hx)
    simp only [wsum, List.length_cons]; omega
theorem addW_is {y : List Int} {s : Int × Bool} {n p : Int} (h0 : I (n * rd y p)) (h1 : I (s.1 + n * rd y p)) : addW y s n p = (s.1 + n * rd y p, s.2) := by
  unfold addW mulS addS
  simp only [if_pos h0, if_pos h1, Bool.and_true]
theorem inW_is {y : List Int} (hy : Sm y) (b : Bool) (l : List S66) : ∀ s : Int, (∀ a ∈ l, ArcS y.length a) → l.length ≤ 1000 → -(1000000000000000 + 4194304 * (1000 - (l.length : Int))) ≤ s → s ≤ 1000000000000000 + 4194304 * (1000 - (l.length : Int)) → inW y l (s, b) = (s - wsum y l, b) := by
  induction l with
  | nil => intro s _ _ _ _; show (s, b) = (s - 0, b); rw [Int.sub_zero]
  | cons a l ih =>
    intro s h hl h0 h1
    have ha := h a List.mem_cons_self
    have hs := arc_small hy ha
    rw [List.length_cons] at hl h0 h1
    have ew : wrap64 (-a.f1) = -a.f1 := wrap_id (by have := ha.2.2; unfold I; omega)
    have en : -a.f1 * rd y a.f0 = -(a.f1 * rd y a.f0) := Int.neg_mul _ _
    have e : inW y (a :: l) (s, b) = inW y l (addW y (s, b) (wrap64 (-a.f1)) a.f0) := rfl
    rw [e, ew, addW_is (by rw [en]; unfold I; omega) (by rw [en]; unfold I; dsimp only; omega), en]
    dsimp only
    rw [ih _ (fun x hx => h x (List.mem_cons_of_mem _ hx)) (by omega) (by omega) (by omega)]
    simp only [wsum]
    rw [show s + -(a.f1 * rd y a.f0) - wsum y l = s - (a.f1 * rd y a.f0 + wsum y l) by omega]
theorem outW_is {y : List Int} (hy : Sm y) (b : Bool) (l : List S66) : ∀ s : Int, (∀ a ∈ l, ArcS y.length a) → l.length ≤ 1000 → -(1000000000000000 + 4194304 * (1000 - (l.length : Int))) ≤ s → s ≤ 1000000000000000 + 4194304 * (1000 - (l.length : Int)) → outW y l (s, b) = (s + wsum y l, b) := by
  induction l with
  | nil => intro s _ _ _ _; show (s, b) = (s + 0, b); rw [Int.add_zero]
  | cons a l ih =>
    intro s h hl h0 h1
    have ha := h a List.mem_cons_self
    have hs := arc_small hy ha
    rw [List.length_cons] at hl h0 h1
    have e : outW y (a :: l) (s, b) = outW y l (addW y (s, b) a.f1 a.f0) := rfl
    rw [e, addW_is (by unfold I; omega) (by unfold I; dsimp only; omega)]
    dsimp only
    rw [ih _ (fun x hx => h x (List.mem_cons_of_mem _ hx)) (by omega) (by omega) (by omega)]
    simp only [wsum]
    rw [show s + a.f1 * rd y a.f0 + wsum y l = s + (a.f1 * rd y a.f0 + wsum y l) by omega]
theorem chY_small {y : List Int} (hy : Sm y) {P : List S52} {T : List S64} (hN : NetOk P T) (hl : y.length = P.length) {t : S64} (ht : t ∈ T) : -16777216 ≤ chY y t ∧ chY y t ≤ 16777216 := by
  have h := hN.trs t ht
  have h3 := wsum_small hy (l := t.f3) fun a ha => by rw [hl]; exact ⟨(h.2.2.1.2.1 a ha).1, (h.2.2.1.2.1 a ha).2.1, (h.2.2.1.2.1 a ha).2.2.1, (h.2.2.1.2.1 a ha).2.2.2⟩
  have h5 := wsum_small hy (l := t.f5) fun a ha => by rw [hl]; exact ⟨(h.2.2.2.2.2.1 a ha).1, (h.2.2.2.2.2.1 a ha).2.1, (h.2.2.2.2.2.1 a ha).2.2.1, (h.2.2.2.2.2.1 a ha).2.2.2⟩
  have l3 := h.2.2.1.1
  have l5 := h.2.2.2.2.1
  unfold chY; omega
theorem fire_is {y : List Int} (hy : Sm y) {P : List S52} {T : List S64} (hN : NetOk P T) (hl : y.length = P.length) {t : Int} (h0 : 0 ≤ t) (h1 : t < (T.length : Int)) {a : Int} (ha : -100000000000000 ≤ a ∧ a ≤ 100000000000000) (b : Bool) :
    fireS y T (a, b) t = (a + chY y (rd_T64 T t), b) := by
  obtain ⟨i, rfl⟩ := Int.eq_ofNat_of_zero_le h0
  have h := hN.trs _ (rdTr_mem (l := T) (i := i) (by omega))
  have g3 : ∀ a ∈ (rd_T64 T (i : Int)).f3, ArcS y.length a := fun a ha => by rw [hl]; exact ⟨(h.2.2.1.2.1 a ha).1, (h.2.2.1.2.1 a ha).2.1, (h.2.2.1.2.1 a ha).2.2.1, (h.2.2.1.2.1 a ha).2.2.2⟩
  have g5 : ∀ a ∈ (rd_T64 T (i : Int)).f5, ArcS y.length a := fun a ha => by rw [hl]; exact ⟨(h.2.2.2.2.2.1 a ha).1, (h.2.2.2.2.2.1 a ha).2.1, (h.2.2.2.2.2.1 a ha).2.2.1, (h.2.2.2.2.2.1 a ha).2.2.2⟩
  have l3 := h.2.2.1.1
  have l5 := h.2.2.2.2.1
  have w3 := wsum_small hy g3
  unfold fireS
  rw [if_pos ⟨h0, h1⟩, inW_is hy b _ _ g3 (by omega) (by omega) (by omega), outW_is hy b _ _ g5 (by omega) (by omega) (by omega)]
  unfold chY
  rw [show a - wsum y (rd_T64 T (i : Int)).f3 + wsum y (rd_T64 T (i : Int)).f5 = a + (wsum y (rd_T64 T (i : Int)).f5 - wsum y (rd_T64 T (i : Int)).f3) by omega]
theorem dot_small : ∀ (y m : List Int) (s C : Int), Sm y → (∀ x ∈ m, 0 ≤ x ∧ x ≤ 4) → -C ≤ s → s ≤ C → C + 4194304 * (y.length : Int) ≤ 100000000000000 → (dotS s y m).2 = true ∧ -(C + 4194304 * (y.length : Int)) ≤ (dotS s y m).1 ∧ (dotS s y m).1 ≤ C + 4194304 * (y.length : Int)
  | [], m, s, C, _, _, h0, h1, hC => by simp [dotS]; omega
  | a :: y, [], s, C, _, _, h0, h1, hC => by simp only [dotS, List.length_cons]; refine ⟨trivial, ?_, ?_⟩ <;> omega
  | a :: y, x :: m, s, C, hy, hm, h0, h1, hC => by
    have hx := hm x List.mem_cons_self
    have ha := hy a List.mem_cons_self
    have hp : -4194304 ≤ a * x ∧ a * x ≤ 4194304 := by
      have : x = 0 ∨ x = 1 ∨ x = 2 ∨ x = 3 ∨ x = 4 := by omega
      rcases this with rfl | rfl | rfl | rfl | rfl <;> omega
    rw [List.length_cons] at hC ⊢
    rw [dotS_cons, if_pos (by unfold I; omega), if_pos (by unfold I; omega)]
    have ih := dot_small y m (s + a * x) (C + 4194304) (fun z hz => hy z (List.mem_cons_of_mem _ hz)) (fun z hz => hm z (List.mem_cons_of_mem _ hz)) (by omega) (by omega) (by omega)
    refine ⟨ih.1, ?_, ?_⟩ <;> have := ih.2 <;> omega
/-- The first firing behind which the weight is another one. -/
def firstC (y : List Int) (T : List S64) : List S48 → Nat → Int → Int → Int
  | [], _, _, q => q
  | e :: l, i, c, q => firstC y T l (i + 1) (c + chY y (rd_T64 T e.f1)) (if c + chY y (rd_T64 T e.f1) ≠ 0 ∧ q < 0 then (i : Int) else q)
theorem firstC_stay (y : List Int) (T : List S64) : ∀ (l : List S48) (i : Nat) (c q : Int), 0 ≤ q → firstC y T l i c q = q
  | [], _, _, _, _ => rfl
  | e :: l, i, c, q, h => by
    simp only [firstC]
    rw [if_neg (by omega)]
    exact firstC_stay y T l (i + 1) _ q h
theorem check_is {y : List Int} (hy : Sm y) {P : List S52} {T : List S64} (hN : NetOk P T) (hl : y.length = P.length) (d : Int) (hd : -100000000000 ≤ d ∧ d ≤ 100000000000) : ∀ (l : List S48) (i : Nat) (c : Int), (∀ f ∈ l, FiOk T.length f) → -100000000000 ≤ c + 16777216 * (l.length : Int) → c + 16777216 * (l.length : Int) ≤ 100000000000 → -100000000000 ≤ c - 16777216 * (l.length : Int) →
    checkS y T d l i (d + c, true) = firstC y T l i c (-1)
  | [], i, c, _, _, _, _ => rfl
  | e :: l, i, c, hf, h0, h1, h2 => by
    have he := hf e List.mem_cons_self
    rw [List.length_cons] at h0 h1 h2
    obtain ⟨j, hj⟩ := Int.eq_ofNat_of_zero_le he.1
    have hb := chY_small hy hN hl (rdTr_mem (l := T) (i := j) (by have := he.2; omega))
    rw [← hj] at hb
    simp only [checkS, firstC]
    rw [fire_is hy hN hl he.1 he.2 (by omega) true]
    by_cases h : c + chY y (rd_T64 T e.f1) = 0
    · rw [if_pos (by simp; omega), if_neg (by omega), Int.add_assoc]
      exact check_is hy hN hl d hd l (i + 1) _ (fun f hf' => hf f (List.mem_cons_of_mem _ hf')) (by omega) (by omega) (by omega)
    · rw [if_neg (by simp; omega), if_pos ⟨h, by decide⟩, firstC_stay y T l (i + 1) _ _ (by omega)]

def sumS (a b c : List Int) : Int × Bool := if (dotS 0 a b).2 = true then (if (dotS 0 a c).2 = true then addS (dotS 0 a b).1 (dotS 0 a c).1 else (0, false)) else (0, false)
theorem sum_ev {a b c : List Int} (h0 : ∀ x ∈ a, I x) (h1 : ∀ x ∈ b, I x) (h2 : ∀ x ∈ c, I x) (hb : a.length ≤ 9223372036854775806) (p : List (S48)) (q : Int) : Ev (fun k => weigh_Sum.f k a p b c q) (sumS a b c) := by
  obtain ⟨K1, h1⟩ := dot_ev h0 h1 hb
  obtain ⟨K2, h2⟩ := dot_ev h0 h2 hb
  refine ⟨K1 + K2, fun k hk => ?_⟩
  dsimp only; unfold weigh_Sum.f sumS
  have h1 := h1 k (by omega); have h2 := h2 k (by omega)
  dsimp only at h1 h2
  rw [h1, Option.bind_some, h2, Option.bind_some, add_is (dotS_I 0 a b (by decide)) (dotS_I 0 a c (by decide))]
  split <;> (try split) <;> rfl

theorem few_ev (l : List Int) (m : List S83) : ∃ b, marblerunlaw13_few.f l m = some b ∧ (b = true → l.length ≤ 60 ∧ m.length ≤ 12) := by
  unfold marblerunlaw13_few.f
  by_cases h : (l.length : Int) ≤ 60
  · rw [if_pos h]
    refine ⟨_, rfl, fun hb => ?_⟩
    have := of_decide_eq_true hb
    omega
  · rw [if_neg h]; exact ⟨false, rfl, fun hb => by simp at hb⟩

theorem awake_ev : Ev (fun k => marblerunlaw13_awake.f k) true := Ev.of (k := 40) marblerunlaw13_awake.mono (by kernel_rfl)

set_option linter.unusedSectionVars false
def lsum : List Int → Int
  | [] => 0
  | a :: l => a + lsum l
theorem lsum_app : ∀ (l m : List Int), lsum (l ++ m) = lsum l + lsum m
  | [], m => by simp [lsum]
  | a :: l, m => by simp only [List.cons_append, lsum]; rw [lsum_app l m]; omega
theorem lsum_take {l : List Int} {i : Nat} (h : i < l.length) : lsum (l.take (i + 1)) = lsum (l.take i) + rd l (i : Int) := by
  rw [List.take_succ_eq_append_getElem h, lsum_app, rd_lt (by omega) (by omega)]; simp [lsum]
def Me (l : List Int) : Prop := ∀ x ∈ l, -40000 ≤ x ∧ x ≤ 40000
theorem Me.i {y : List Int} (h : Me y) : ∀ x ∈ y, I x := fun x hx => by have := h x hx; unfold I; omega
theorem lsum_b : ∀ {l : List Int}, Me l → -(40000 * (l.length : Int)) ≤ lsum l ∧ lsum l ≤ 40000 * (l.length : Int)
  | [], _ => by simp [lsum]
  | a :: l, h => by
    have h1 := h a List.mem_cons_self
    have h2 := lsum_b (l := l) fun x hx => h x (List.mem_cons_of_mem _ hx)
    simp only [lsum, List.length_cons]; omega
theorem me_take {l : List Int} (h : Me l) (i : Nat) : Me (l.take i) := fun x hx => h x (List.mem_of_mem_take hx)
theorem dot_ones (z : List Int) : ∀ (m : List Int) (s : Int), (∀ x ∈ z, x = 1) → z.length = m.length → Me m → -100000000000 + 40000 * (m.length : Int) ≤ s → s ≤ 100000000000 - 40000 * (m.length : Int) → dotS s z m = (s + lsum m, true) := by
  induction z with
  | nil =>
    intro m s _ h _ _ _
    cases m with
    | nil => show (s, true) = (s + 0, true); rw [Int.add_zero]
    | cons x m => simp at h
  | cons a z ih =>
    intro m s hz hl hm h0 h1
    cases m with
    | nil => simp at hl
    | cons x m =>
      have hx := hm x List.mem_cons_self
      have ha : a = 1 := hz a List.mem_cons_self
      subst ha
      rw [List.length_cons] at h0 h1
      rw [dotS_cons, Int.one_mul, if_pos (by unfold I; omega), if_pos (by unfold I; omega), ih m (s + x) (fun y hy => hz y (List.mem_cons_of_mem _ hy)) (by simpa using hl) (fun y hy => hm y (List.mem_cons_of_mem _ hy)) (by omega) (by omega)]
      simp only [lsum]
      rw [Int.add_assoc]
theorem dot_zeros : ∀ (z m : List Int), (∀ x ∈ z, x = 0) → dotS 0 z m = (0, true)
  | [], _, _ => rfl
  | _ :: _, [], _ => rfl
  | a :: z, x :: m, hz => by
    have ha : a = 0 := hz a List.mem_cons_self
    subst ha
    rw [dotS_cons, Int.zero_mul, if_pos (by decide), if_pos (by decide), Int.add_zero]
    exact dot_zeros z m fun y hy => hz y (List.mem_cons_of_mem _ hy)
theorem wsum_zero {y : List Int} (hy : ∀ x ∈ y, x = 0) : ∀ {l : List S66}, (∀ a ∈ l, 0 ≤ a.f0 ∧ a.f0 < (y.length : Int)) → wsum y l = 0
  | [], _ => rfl
  | a :: l, h => by
    have ha := h a List.mem_cons_self
    simp only [wsum]
    rw [hy _ (rd_mem ha.1 ha.2), wsum_zero hy fun x hx => h x (List.mem_cons_of_mem _ hx)]; simp
theorem firstC_zero {y : List Int} (hy : ∀ x ∈ y, x = 0) {P : List S52} {T : List S64} (hN : NetOk P T) (hl : y.length = P.length) : ∀ (l : List S48) (i : Nat), (∀ f ∈ l, FiOk T.length f) → firstC y T l i 0 (-1) = -1
  | [], _, _ => rfl
  | e :: l, i, hf => by
    have he := hf e List.mem_cons_self
    obtain ⟨j, hj⟩ := Int.eq_ofNat_of_zero_le he.1
    have h := hN.trs _ (rdTr_mem (l := T) (i := j) (by have := he.2; omega))
    have hc : chY y (rd_T64 T e.f1) = 0 := by
      rw [hj]; unfold chY
      rw [wsum_zero hy fun a ha => ⟨(h.2.2.1.2.1 a ha).1, by rw [hl]; exact (h.2.2.1.2.1 a ha).2.1⟩, wsum_zero hy fun a ha => ⟨(h.2.2.2.2.2.1 a ha).1, by rw [hl]; exact (h.2.2.2.2.2.1 a ha).2.1⟩]; rfl
    simp only [firstC, hc]
    rw [Int.add_zero, if_neg (by simp)]
    exact firstC_zero hy hN hl l (i + 1) fun f hf' => hf f (List.mem_cons_of_mem _ hf')
def oz (n i : Nat) : List Int := List.replicate i 1 ++ List.replicate (n - i) 0
theorem oz_len {n i : Nat} (h : i ≤ n) : (oz n i).length = n := by simp [oz]; omega
theorem oz_set {n i : Nat} (h : i < n) : (oz n i).set i 1 = oz n (i + 1) := by
  unfold oz
  rw [List.set_append_right _ _ (by simp), List.length_replicate, Nat.sub_self, show n - i = (n - (i + 1)) + 1 by omega, List.replicate_succ, List.set_cons_zero, List.replicate_succ' (n := i), List.append_assoc]; rfl
section
variable {P : List S52} {T : List S64} (hN : NetOk P T) {r : List S48 × List Int × List Int × Int × Int} (hr : Good P T r) (hm : Me r.2.1) (hw : Me r.2.2.1)
include hN hr hm hw
theorem none_l0 (n : Nat) : ∀ i : Nat, P.length = i + n → Ev (fun k => marblerunlaw13_WeighNone.l0 k (oz P.length i) (-1) 0 0 true (lsum (r.2.1.take i) + lsum (r.2.2.1.take i)) (i : Int) r.1 r.2.1 r.2.2.1 r.2.2.2.1) true := by
  have hP7 := hN.p7
  have l1 := hr.lm
  have l2 := hr.lw
  induction n with
  | zero =>
    intro i hi
    have e1 : oz P.length i = List.replicate P.length 1 := by unfold oz; rw [show P.length - i = 0 by omega, show i = P.length by omega]; simp
    have hz : ∀ x ∈ List.replicate P.length (1 : Int), x = 1 := fun x hx => (List.mem_replicate.1 hx).2
    have d1 := dot_ones (List.replicate P.length 1) r.2.1 0 hz (by simp; omega) hm (by omega) (by omega)
    have d2 := dot_ones (List.replicate P.length 1) r.2.2.1 0 hz (by simp; omega) hw (by omega) (by omega)
    have hs := sum_ev (a := List.replicate P.length 1) (b := r.2.1) (c := r.2.2.1) (fun x hx => by rw [hz x hx]; decide) hm.i hw.i (by simp; omega) r.1 r.2.2.2.1
    have es : sumS (List.replicate P.length 1) r.2.1 r.2.2.1 = (lsum r.2.1 + lsum r.2.2.1, true) := by
      have b1 := lsum_b hm
      have b2 := lsum_b hw
      unfold sumS addS
      rw [d1, d2]
      simp only [if_true, Int.zero_add]
      rw [if_pos (by unfold I; omega)]
    rw [es] at hs
    rw [e1, List.take_of_length_le (by omega), List.take_of_length_le (by omega)]
    refine Ev.step (f := fun k => (weigh_Sum.f k (List.replicate P.length 1) r.1 r.2.1 r.2.2.1 r.2.2.2.1).bind fun bt372 => (if bt372.1 = lsum r.2.1 + lsum r.2.2.1 then (some bt372.2) else (some false))) (fun k => by simp only [marblerunlaw13_WeighNone.l0]; rw [if_neg (by simp; omega)]; rfl) ?_
    refine Ev.bind hs ?_
    simp only [if_true]
    exact Ev.now _
  | succ n ih =>
    intro i hi
    have ta := lsum_b (me_take hm i)
    have tb := lsum_b (me_take hw i)
    rw [List.length_take] at ta tb
    have b1 := hr.bd i (by omega)
    have e := ih (i + 1) (by omega)
    rw [lsum_take (by omega), lsum_take (by omega)] at e
    refine Ev.step (fun k => ?_) e
    simp only [marblerunlaw13_WeighNone.l0]
    rw [if_pos (by rw [oz_len (by omega)]; omega), if_pos (by omega), if_pos (by omega), if_pos (by omega), Int.toNat_natCast, oz_set (by omega), wrap_succ (by omega), wrap_id (x := rd r.2.1 (i : Int) + rd r.2.2.1 (i : Int)) (by unfold I; omega), wrap_id (by unfold I; omega)]
    rw [show lsum (r.2.1.take i) + lsum (r.2.2.1.take i) + (rd r.2.1 (i : Int) + rd r.2.2.1 (i : Int)) = lsum (r.2.1.take i) + rd r.2.1 (i : Int) + (lsum (r.2.2.1.take i) + rd r.2.2.1 (i : Int)) by omega]
end
theorem me_of {l : List Int} {n : Nat} (hl : l.length = n) (h : ∀ p : Nat, p < n → -40000 ≤ rd l (p : Int) ∧ rd l (p : Int) ≤ 40000) : Me l := by
  intro x hx
  obtain ⟨p, hp, rfl⟩ := List.getElem_of_mem hx
  have := h p (by omega)
  rw [rd_lt (by omega) (by omega)] at this
  simpa using this
theorem none_j0 (b : Bool) (l : List Int) (a : List S83) (h : Int) (hh : By h) (hb : b = false → l.length ≤ 60) (hlb : ∀ q ∈ l, By q) (hab : ∀ x ∈ a, ActBy x) :
    Ev (fun k => marblerunlaw13_WeighNone.j0 k h b l a) true := by
  cases b with
  | true => exact Ev.step (f := fun k => (marblerunlaw13_awake.f k).bind fun t278 => (some t278)) (fun k => by simp only [marblerunlaw13_WeighNone.j0]; rfl) (Ev.bind awake_ev (Ev.now _))
  | false =>
    have hll := hb rfl
    obtain ⟨P, T, hmk, hN⟩ := make_ev l a hlb (by omega) hab
    have hP7 := hN.p7
    have ez : wrap64 (Int.tmod h 20) = h % 20 := by rw [Int.tmod_eq_emod_of_nonneg hh.1]; exact wrap_id (by unfold I; omega)
    obtain ⟨r, hrun, hr⟩ := run_ev P T hN (h % 20) (by omega)
    have hm : Me r.2.1 := me_of hr.lm fun p hp => ⟨(hr.bd p hp).1, (hr.bd p hp).2.1⟩
    have hw : Me r.2.2.1 := me_of hr.lw fun p hp => ⟨by have := (hr.bd p hp).2.2.1; omega, (hr.bd p hp).2.2.2⟩
    have hz : ∀ x ∈ List.replicate P.length (0 : Int), x = 0 := fun x hx => (List.mem_replicate.1 hx).2
    have hzS : Sm (List.replicate P.length 0) := fun x hx => by rw [hz x hx]; omega
    have hlen := hr.len
    have hck := check_ev hzS.i (by simp; omega) P (T := T) (tokI hN) (by omega) (fun e => by rw [e]; exact netW hN) r.1 (by omega)
    have ec : checkR P T (List.replicate P.length 0) r.1 = (-1, 0) := by
      have en : newS P T (List.replicate P.length 0) = (P, T, List.replicate P.length 0, 0, 0, true, 0) := by
        unfold newS newR; rw [if_pos (by simp), dot_zeros _ _ hz]; rfl
      unfold checkR
      rw [en]
      have := check_is hzS hN (by simp) 0 (by omega) r.1 0 0 hr.fi (by omega) (by omega) (by omega)
      rw [Int.add_zero] at this
      simp only [if_true, this, firstC_zero hz hN (by simp) r.1 0 hr.fi]
    rw [ec] at hck
    have hs := sum_ev (a := List.replicate P.length 0) (b := r.2.1) (c := r.2.2.1) hzS.i hm.i hw.i (by simp; omega) r.1 r.2.2.2.1
    have es : sumS (List.replicate P.length 0) r.2.1 r.2.2.1 = (0, true) := by
      unfold sumS; rw [dot_zeros _ _ hz, dot_zeros _ _ hz]; rfl
    rw [es] at hs
    refine Ev.step (f := fun k => (marblerunref05_Make.f k l a).bind fun bt343 => ((marblerunref09_Run.f k bt343.1 bt343.2 (h % 20)).bind fun bt350 => (if 0 ≤ (bt343.1.length : Int) then (if ((bt343.1.length : Int) : Int).toNat ≤ 35184372088832 then ((some (List.replicate ((bt343.1.length : Int) : Int).toNat 0 : List Int)).bind fun y362 => ((weigh_Check.f k bt343.1 bt343.2 y362 bt350.1).bind fun bt365 => ((weigh_Sum.f k y362 bt350.1 bt350.2.1 bt350.2.2.1 bt350.2.2.2.1).bind fun bt367 => (marblerunlaw13_WeighNone.l0 k y362 bt365.1 bt365.2 bt367.1 bt367.2 0 0 bt350.1 bt350.2.1 bt350.2.2.1 bt350.2.2.2.1)))) else (none)) else (none)))) (fun k => by simp only [marblerunlaw13_WeighNone.j0, ez]; rw [if_neg (by simp)]) ?_
    refine Ev.bind hmk ?_
    refine Ev.bind hrun ?_
    simp only [if_pos (show (0 : Int) ≤ (P.length : Int) by omega), Int.toNat_natCast, if_pos (show P.length ≤ 35184372088832 by omega), Option.bind_some]
    refine Ev.bind hck ?_
    refine Ev.bind hs ?_
    have e0 : oz P.length 0 = List.replicate P.length 0 := by simp [oz]
    have h0 := none_l0 hN hr hm hw P.length 0 (by simp)
    rw [e0] at h0
    simpa [lsum] using h0
theorem WeighNone : ∀ (l0 : List Int) (m0 : List S83) (a1 : Int), l0.length ≤ maxLen → (∀ q ∈ l0, (Lit.int .u8 q).wf = true) → m0.length ≤ maxLen → (∀ a ∈ m0, (Lit.int .u8 a.f0).wf = true ∧ (Lit.int .u8 a.f1).wf = true ∧ (Lit.int .u8 a.f2).wf = true ∧ (Lit.int .u8 a.f3).wf = true ∧ (Lit.int .u8 a.f4).wf = true ∧ (Lit.int .u8 a.f5).wf = true ∧ (Lit.int .u8 a.f6).wf = true) → (Lit.int .u8 a1).wf = true → ∃ k, marblerunlaw13_WeighNone.f k l0 m0 a1 = some true := by
  intro l a h hl hlb ha hab hh
  refine Ev.rounds ?_
  have hlb' : ∀ q ∈ l, By q := fun q hq => by_of_wf (hlb q hq)
  have hab' : ∀ x ∈ a, ActBy x := fun x hx => by
    obtain ⟨h0, h1, h2, h3, h4, h5, h6⟩ := hab x hx
    exact ⟨by_of_wf h0, by_of_wf h1, by_of_wf h2, by_of_wf h3, by_of_wf h4, by_of_wf h5, by_of_wf h6⟩
  obtain ⟨b, hb, hfew⟩ := few_ev l a
  unfold marblerunlaw13_WeighNone.f
  refine Ev.bind awake_ev ?_
  simp only [if_true, hb, Option.bind_some]
  exact none_j0 (!b) l a h (by_of_wf hh) (fun e => (hfew (by simpa using e)).1) hlb' hab'
end Go.Proofs.Ytigpmhicdmjbeaa.Pure
