/- Along with the functions that WeighErrs reaches: what their plain forms answer -/
import Derived.Test.YtigpmhicdmjbeaaPWeighErrsx
import Derived.Laws.BitsLemmas
import Derived.KernelRfl
set_option linter.unusedVariables false
set_option linter.unusedSimpArgs false
namespace Go.Proofs.Ytigpmhicdmjbeaa.M
open Go.RowKit Go.Proofs.YtigpmhicdmjbeaaW.PrintWords
/-- A number of 64 bits. -/
def I (x : Int) : Prop := -9223372036854775808 ≤ x ∧ x ≤ 9223372036854775807
instance (x : Int) : Decidable (I x) := by unfold I; infer_instance
theorem I_of_wf {x : Int} (h : (Lit.int .i64 x).wf = true) : I x := by
  simp [Lit.wf, IntKind.min, IntKind.max, IntKind.bits, IntKind.signed] at h
  unfold I; omega
theorem wrap_id {x : Int} (h : I x) : wrap64 x = x := by unfold I at h; unfold wrap64; omega
theorem wrap_I (x : Int) : I (wrap64 x) := by unfold wrap64 I; omega
theorem wrap_add {x : Int} {n : Nat} (h0 : 0 ≤ x) (h1 : x < (n : Int)) (hn : n ≤ 9223372036854775807) : wrap64 (x + 1) = x + 1 := wrap_id (by unfold I; omega)
theorem u64 (x : Int) : IntKind.u64.wrap x = x % 18446744073709551616 := by simp [IntKind.wrap, IntKind.bits, IntKind.signed]
theorem wraps_u64 (n : Int) (h₀ : 0 ≤ n) (h₁ : n < 2 ^ 64) : IntKind.u64.wrap n = n := by rw [u64]; omega
theorem and32 (x : Int) (h₀ : 0 ≤ x) (h₁ : x < 18446744073709551616) : bits .and .u64 x 4294967295 = x % 4294967296 :=
  bits_mask .u64 64 (by decide) wraps_u64 32 (by decide) x h₀ (by omega)
/-- What a number is without its sign. -/
def ab (x : Int) : Int := if x < 0 then -x else x
theorem ab_nat (x : Int) : ab x = (x.natAbs : Int) := by unfold ab; omega
/-- A sum that is a number of 64 bits, or none. -/
def addS (a b : Int) : Int × Bool := if I (a + b) then (a + b, true) else (0, false)
/-- A product likewise. -/
def mulS (a b : Int) : Int × Bool := if I (a * b) then (a * b, true) else (0, false)
/-- A sum of products likewise, from a first sum on. -/
def dotS : Int → List Int → List Int → Int × Bool
  | s, a :: xs, b :: ys => if I (a * b) then (if I (s + a * b) then dotS (s + a * b) xs ys else (0, false)) else (0, false)
  | s, _, _ => (s, true)
theorem hi_lo {x y p0 p1 q0 q1 : Int} (hx : x = p1 * 4294967296 + p0) (hy : y = q1 * 4294967296 + q0) :
    x * y = p1 * q1 * 18446744073709551616 + (p1 * q0 + p0 * q1) * 4294967296 + p0 * q0 := by
  subst hx hy; simp only [Int.add_mul, Int.mul_add]
  have e1 : p1 * 4294967296 * (q1 * 4294967296) = p1 * q1 * 18446744073709551616 := by
    rw [Int.mul_assoc, Int.mul_left_comm 4294967296, ← Int.mul_assoc]; rfl
  have e2 : p0 * (q1 * 4294967296) = p0 * q1 * 4294967296 := by rw [Int.mul_assoc]
  have e3 : p1 * 4294967296 * q0 = p1 * q0 * 4294967296 := by rw [Int.mul_assoc, Int.mul_comm 4294967296, ← Int.mul_assoc]
  rw [e1, e2, e3]; omega
theorem mul_le32 {x y : Int} (hx0 : 0 ≤ x) (hx : x ≤ 4294967295) (hy0 : 0 ≤ y) (hy : y ≤ 4294967295) : 0 ≤ x * y ∧ x * y ≤ 18446744065119617025 := by
  refine ⟨Int.mul_nonneg hx0 hy0, ?_⟩
  have := Int.mul_le_mul hx hy hy0 (by omega)
  omega
theorem rd_lt {xs : List Int} {i : Int} (h0 : 0 ≤ i) (h1 : i < (xs.length : Int)) : rd xs i = xs[i.toNat]'(by omega) := by
  unfold rd; rw [List.getD_eq_getElem?_getD, List.getElem?_eq_getElem (by omega)]; rfl
theorem rd_mem {xs : List Int} {i : Int} (h0 : 0 ≤ i) (h1 : i < (xs.length : Int)) : rd xs i ∈ xs := by rw [rd_lt h0 h1]; exact List.getElem_mem _
end Go.Proofs.Ytigpmhicdmjbeaa.M

namespace Go.Proofs.Ytigpmhicdmjbeaa.M
open Go.RowKit Go.Proofs.YtigpmhicdmjbeaaW.PrintWords
/-- A number of 64 bits above the least one. -/
def J (x : Int) : Prop := -9223372036854775807 ≤ x ∧ x ≤ 9223372036854775807
theorem J.i {x : Int} (h : J x) : I x := by unfold J at h; unfold I; omega
theorem J.nat {x : Int} (h : J x) : x.natAbs ≤ 9223372036854775807 := by unfold J at h; omega
/-- The greatest common divisor of g and all of a list. -/
def gl (g : Nat) (l : List Int) : Nat := l.foldl (fun g x => Nat.gcd g x.natAbs) g
theorem gl_cons (g : Nat) (x : Int) (l : List Int) : gl g (x :: l) = gl (Nat.gcd g x.natAbs) l := rfl
theorem gl_append (g : Nat) (l m : List Int) : gl g (l ++ m) = gl (gl g l) m := by unfold gl; rw [List.foldl_append]
theorem gl_gcd (l : List Int) : ∀ g, gl g l = Nat.gcd g (gl 0 l) := by
  induction l with
  | nil => intro g; simp [gl]
  | cons x l ih => intro g; rw [gl_cons, gl_cons, ih, ih (Nat.gcd 0 _), Nat.gcd_zero_left, Nat.gcd_assoc]
theorem gl_dvd (l : List Int) : ∀ x ∈ l, (gl 0 l) ∣ x.natAbs := by
  induction l with
  | nil => intro x h; simp at h
  | cons a l ih =>
    intro x h
    rw [gl_cons, gl_gcd, Nat.gcd_zero_left]
    rcases List.mem_cons.1 h with rfl | h
    · exact Nat.gcd_dvd_left _ _
    · exact Nat.dvd_trans (Nat.gcd_dvd_right _ _) (ih x h)
theorem gl_le (l : List Int) (h : ∀ x ∈ l, J x) : ∀ g, g ≤ 9223372036854775807 → gl g l ≤ 9223372036854775807 := by
  induction l with
  | nil => intro g hg; exact hg
  | cons a l ih =>
    intro g hg
    rw [gl_cons]
    refine ih (fun x hx => h x (List.mem_cons_of_mem _ hx)) _ ?_
    have ha := (h a (List.mem_cons_self ..)).nat
    rcases Nat.eq_zero_or_pos g with e | e
    · subst e; rw [Nat.gcd_zero_left]; exact ha
    · exact Nat.le_trans (Nat.gcd_le_left _ e) hg
theorem gl_mul (c : Nat) (l : List Int) : ∀ g, gl (c * g) (l.map fun x => (c : Int) * x) = c * gl g l := by
  induction l with
  | nil => intro g; rfl
  | cons a l ih =>
    intro g
    rw [List.map_cons, gl_cons, gl_cons, Int.natAbs_mul, Int.natAbs_natCast, Nat.gcd_mul_left, ih]
theorem gl_neg (l : List Int) : ∀ g, gl g (l.map fun x => -x) = gl g l := by
  induction l with
  | nil => intro g; rfl
  | cons a l ih => intro g; rw [List.map_cons, gl_cons, gl_cons, Int.natAbs_neg, ih]
/-- A vector by the greatest number that all have. -/
def normS (l : List Int) : List Int := if 1 < gl 0 l then l.map (fun x => Int.tdiv x (gl 0 l : Int)) else l
theorem normS_length (l : List Int) : (normS l).length = l.length := by unfold normS; split <;> simp
theorem back_of (l : List Int) : (normS l).map (fun x => (gl 0 l : Int) * x) = if 0 < gl 0 l then l else l.map (fun _ => 0) := by
  unfold normS
  split
  · rename_i h
    rw [if_pos (by omega), List.map_map]
    conv => rhs; rw [← List.map_id l]
    refine List.map_congr_left fun x hx => ?_
    have hd : (gl 0 l : Int) ∣ x := Int.ofNat_dvd_left.2 (gl_dvd l x hx)
    simp only [Function.comp, id]
    exact Int.mul_tdiv_cancel' hd
  · rename_i h
    split
    · have e : gl 0 l = 1 := by omega
      rw [e]; simp
    · have e : gl 0 l = 0 := by omega
      rw [e]; simp
theorem zero_of {l : List Int} (h : gl 0 l = 0) : ∀ x ∈ l, x = 0 := by
  intro x hx
  have := gl_dvd l x hx
  rw [h] at this
  have := Nat.eq_zero_of_zero_dvd this
  omega
/-- The vector so made has nothing more. -/
theorem gl_norm (l : List Int) (hp : 0 < gl 0 l) : gl 0 (normS l) = 1 := by
  have h1 := gl_mul (gl 0 l) (normS l) 0
  rw [back_of, if_pos hp, Nat.mul_zero] at h1
  have h2 : gl 0 l * 1 = gl 0 l * gl 0 (normS l) := by rw [Nat.mul_one]; exact h1
  exact (Nat.eq_of_mul_eq_mul_left hp h2).symm
theorem gl_norm_le (l : List Int) : gl 0 (normS l) ≤ 1 := by
  rcases Nat.eq_zero_or_pos (gl 0 l) with e | e
  · unfold normS; rw [if_neg (by omega), e]; omega
  · rw [gl_norm l e]; omega
theorem normS_idem (l : List Int) : normS (normS l) = normS l := by
  have h := gl_norm_le l
  generalize hm : normS l = m at *
  unfold normS; rw [if_neg (by omega)]
theorem tdiv_J {x : Int} {g : Nat} (h : J x) : J (Int.tdiv x (g : Int)) := by
  have h1 : (Int.tdiv x (g : Int)).natAbs ≤ x.natAbs := by
    rw [Int.natAbs_tdiv]; exact Nat.div_le_self _ _
  unfold J at *; omega
theorem normS_J {l : List Int} (h : ∀ x ∈ l, J x) : ∀ x ∈ normS l, J x := by
  unfold normS
  split
  · intro x hx
    obtain ⟨y, hy, rfl⟩ := List.mem_map.1 hx
    exact tdiv_J (h y hy)
  · exact h
theorem normS_neg (l : List Int) : normS (l.map fun x => -x) = (normS l).map fun x => -x := by
  unfold normS
  rw [gl_neg]
  split
  · simp only [List.map_map]
    refine List.map_congr_left fun x _ => ?_
    simp only [Function.comp, Int.neg_tdiv]
  · rfl
end Go.Proofs.Ytigpmhicdmjbeaa.M

namespace Go.Proofs.Ytigpmhicdmjbeaa.Pure
open Go.RowKit Go.Proofs.Ytigpmhicdmjbeaa.PWeighErrs Go.Proofs.YtigpmhicdmjbeaaW.PrintWords Go.Proofs.YtigpmhicdmjbeaaW.PrintLast Go.Proofs.YtigpmhicdmjbeaaW.PrintMore Go.Proofs.Ytigpmhicdmjbeaa.M
/-- A byte. -/
def By (x : Int) : Prop := 0 ≤ x ∧ x ≤ 255
theorem by_of_wf {x : Int} (h : (Lit.int .u8 x).wf = true) : By x := by
  simp [Lit.wf, IntKind.min, IntKind.max, IntKind.bits, IntKind.signed] at h
  unfold By; omega
/-- Arcs that may be, of n places. -/
def ArcsOk (n : Nat) (l : List S66) : Prop := l.length ≤ 2 ∧ (∀ a ∈ l, 0 ≤ a.f0 ∧ a.f0 < (n : Int) ∧ 1 ≤ a.f1 ∧ a.f1 ≤ 4) ∧ l.Pairwise fun a b => a.f0 ≠ b.f0
/-- A transition that may be. -/
def TrOk (n : Nat) (t : S64) : Prop := (0 ≤ t.f1 ∧ t.f1 ≤ 4) ∧ (0 ≤ t.f2 ∧ t.f2 ≤ 2) ∧ ArcsOk n t.f3 ∧ ArcsOk n t.f4 ∧ ArcsOk n t.f5
/-- A net that Make makes. -/
structure NetOk (P : List S52) (T : List S64) : Prop where
  p1 : 1 ≤ P.length
  p7 : P.length ≤ 7
  t9 : T.length ≤ 9
  tok : ∀ p ∈ P, 0 ≤ p.f1 ∧ p.f1 ≤ 4
  trs : ∀ t ∈ T, TrOk P.length t
theorem rdA_lt {l : List S66} {i : Nat} (h : i < l.length) : rd_T66 l (i : Int) = l[i] := by
  unfold rd_T66; rw [Int.toNat_natCast, List.getD_eq_getElem?_getD, List.getElem?_eq_getElem h]; rfl
theorem rdA_mem {l : List S66} {i : Nat} (h : i < l.length) : rd_T66 l (i : Int) ∈ l := by rw [rdA_lt h]; exact List.getElem_mem _
theorem dropA_cons {l : List S66} {i : Nat} (h : i < l.length) : l.drop i = rd_T66 l (i : Int) :: l.drop (i + 1) := by
  rw [rdA_lt h]; exact List.drop_eq_getElem_cons h
theorem rdTr_lt {l : List S64} {i : Nat} (h : i < l.length) : rd_T64 l (i : Int) = l[i] := by
  unfold rd_T64; rw [Int.toNat_natCast, List.getD_eq_getElem?_getD, List.getElem?_eq_getElem h]; rfl
theorem rdTr_mem {l : List S64} {i : Nat} (h : i < l.length) : rd_T64 l (i : Int) ∈ l := by rw [rdTr_lt h]; exact List.getElem_mem _
theorem rdP_lt {l : List S52} {i : Nat} (h : i < l.length) : rd_T52 l (i : Int) = l[i] := by
  unfold rd_T52; rw [Int.toNat_natCast, List.getD_eq_getElem?_getD, List.getElem?_eq_getElem h]; rfl
theorem rdP_mem {l : List S52} {i : Nat} (h : i < l.length) : rd_T52 l (i : Int) ∈ l := by rw [rdP_lt h]; exact List.getElem_mem _
theorem rdC_mem {l : List S83} {i : Nat} (h : i < l.length) : rd_T83 l (i : Int) ∈ l := by
  have : rd_T83 l (i : Int) = l[i] := by
    unfold rd_T83; rw [Int.toNat_natCast, List.getD_eq_getElem?_getD, List.getElem?_eq_getElem h]; rfl
  rw [this]; exact List.getElem_mem _
theorem wrap_succ {i : Nat} (h : i < 1000000) : wrap64 ((i : Int) + 1) = ((i + 1 : Nat) : Int) := by rw [wrap_add (n := 1000001) (by omega) (by omega) (by omega)]; rfl

/-- One more arc, if its place isn't there. -/
def putS (l : List S66) (p n : Int) : List S66 := if l.any (fun a => a.f0 == p) then l else l ++ [⟨p, n⟩]
theorem put_loop (l : List S66) (p n : Int) (hl : l.length ≤ 1000) (d : Nat) :
    ∀ i : Nat, l.length = i + d → Ev (fun k => marblerunref05_put.l0 k l p n (i : Int)) (if (l.drop i).any (fun a => a.f0 == p) then l else l ++ [⟨p, n⟩]) := by
  induction d with
  | zero =>
    intro i hi
    rw [List.drop_eq_nil_of_le (by omega)]
    exact Ev.step (f := fun _ => some (l ++ [⟨p, n⟩])) (fun k => by simp only [marblerunref05_put.l0]; rw [if_neg (by omega), if_pos (by omega)]) (Ev.now _)
  | succ d ih =>
    intro i hi
    rw [dropA_cons (by omega), List.any_cons]
    by_cases h : (rd_T66 l (i : Int)).f0 = p
    · refine Ev.step (f := fun _ => some l) (fun k => by simp only [marblerunref05_put.l0]; rw [if_pos (by omega), if_pos (by omega), if_pos h]) ?_
      rw [if_pos (by simp [h])]; exact Ev.now _
    · refine Ev.step (f := fun k => marblerunref05_put.l0 k l p n ((i + 1 : Nat) : Int)) (fun k => ?_) ?_
      · simp only [marblerunref05_put.l0]; rw [if_pos (by omega), if_pos (by omega), if_neg h, wrap_add (n := l.length) (by omega) (by omega) (by omega)]; rfl
      · have := ih (i + 1) (by omega)
        simpa [h] using this
theorem put_ev (l : List S66) (p n : Int) (hl : l.length ≤ 1000) : Ev (fun k => marblerunref05_put.f k l p n) (putS l p n) := by
  have := put_loop l p n hl l.length 0 (by simp)
  rw [List.drop_zero] at this
  exact this
theorem put_len (l : List S66) (p n : Int) : (putS l p n).length ≤ l.length + 1 := by unfold putS; split <;> simp
theorem arcs_put {m : Nat} {l : List S66} {p n : Int} (h : ArcsOk m l) (hl : l.length ≤ 1) (hp : 0 ≤ p ∧ p < (m : Int)) (hn : 1 ≤ n ∧ n ≤ 4) : ArcsOk m (putS l p n) := by
  obtain ⟨h1, h2, h3⟩ := h
  refine ⟨by have := put_len l p n; omega, fun a ha => ?_, ?_⟩
  · unfold putS at ha
    split at ha
    · exact h2 a ha
    · rcases List.mem_append.1 ha with q | q
      · exact h2 a q
      · rw [List.mem_singleton.1 q]; exact ⟨hp.1, hp.2, hn.1, hn.2⟩
  · unfold putS
    split
    · exact h3
    · rename_i hq
      refine List.pairwise_append.2 ⟨h3, List.pairwise_singleton _ _, fun a ha b hb => ?_⟩
      rw [List.mem_singleton.1 hb]
      intro e
      exact hq (List.any_eq_true.2 ⟨a, ha, by simp [e]⟩)
theorem arcs_nil (m : Nat) : ArcsOk m [] := ⟨by simp, fun a ha => by simp at ha, List.Pairwise.nil⟩
theorem str1 (x : Int) : 1 + (strOfNums [x]).size ≤ 9223372036854775807 := by show 1 + 1 ≤ _; omega
theorem str2 (x : Int) : 1 + (strOfNums [x]).size + 2 ≤ 9223372036854775807 := by show 1 + 1 + 2 ≤ _; omega
theorem tmod_by {x : Int} {n : Nat} (h : By x) (hn : 1 ≤ n) : 0 ≤ Int.tmod (wrap64 x) (n : Int) ∧ Int.tmod (wrap64 x) (n : Int) < (n : Int) := by
  unfold By at h
  rw [wrap_id (by unfold I; omega), Int.tmod_eq_emod_of_nonneg h.1]
  exact ⟨Int.emod_nonneg _ (by omega), Int.emod_lt_of_pos _ (by omega)⟩
theorem mod_by (d : Int) {n : Nat} (hn : 1 ≤ n) : 0 ≤ d % 256 % (n : Int) ∧ d % 256 % (n : Int) < (n : Int) := ⟨Int.emod_nonneg _ (by omega), Int.emod_lt_of_pos _ (by omega)⟩
/-- An act of bytes. -/
def ActBy (x : S83) : Prop := By x.f0 ∧ By x.f1 ∧ By x.f2 ∧ By x.f3 ∧ By x.f4 ∧ By x.f5 ∧ By x.f6
section
variable (l : List Int) (m : List S83) (P : List S52) (hm : ∀ a ∈ m, ActBy a) (hml : m.length ≤ 1000) (hp1 : 1 ≤ P.length) (hp7 : P.length ≤ 7) (htok : ∀ p ∈ P, 0 ≤ p.f1 ∧ p.f1 ≤ 4)
/-- What is told of the rest of the run. -/
def Rest (i : Nat) : Prop := ∀ T : List S64, T.length = i → (∀ t ∈ T, TrOk P.length t) → ∃ T', Ev (fun k => marblerunref05_Make.l1 k (P.length : Int) (i : Int) l m P T) (P, T') ∧ T'.length ≤ 9 ∧ ∀ t ∈ T', TrOk P.length t
theorem make_j6 (i : Nat) (hi : i < 9) (hrest : Rest l m P (i + 1)) (T : List S64) (hT : T.length = i) (hok : ∀ t ∈ T, TrOk P.length t) (x : S83) (hx : ActBy x) (s : ByteArray) (dl pr : Int) (hd : 0 ≤ dl ∧ dl ≤ 4) (hpr : 0 ≤ pr ∧ pr ≤ 2) (a b c : List S66)
    (ha : ArcsOk P.length a) (hb : ArcsOk P.length b) (hc : ArcsOk P.length c) :
    ∃ T', Ev (fun k => marblerunref05_Make.j6 k (P.length : Int) (i : Int) l m P T x.f0 x.f1 x.f2 x.f3 x.f4 x.f5 x.f6 s dl pr a b c) (P, T') ∧ T'.length ≤ 9 ∧ ∀ t ∈ T', TrOk P.length t := by
  have ew : wrap64 ((i : Int) + 1) = ((i + 1 : Nat) : Int) := by rw [wrap_add (n := 9) (by omega) (by omega) (by omega)]; rfl
  have nxt : ∀ q : Int, 0 ≤ q ∧ q ≤ 4 → ∃ T', Ev (fun k => marblerunref05_Make.l1 k (P.length : Int) (wrap64 ((i : Int) + 1)) l m P (T ++ [(⟨s, q, pr, a, b, c⟩ : S64)])) (P, T') ∧ T'.length ≤ 9 ∧ ∀ t ∈ T', TrOk P.length t := by
    intro q hq
    rw [ew]
    refine hrest _ (by simp [hT]) (fun t ht => ?_)
    rcases List.mem_append.1 ht with h | h
    · exact hok t h
    · rw [List.mem_singleton.1 h]; exact ⟨hq, hpr, ha, hb, hc⟩
  by_cases h0 : dl = 0
  · by_cases h1 : x.f0 < 128
    · obtain ⟨T', h, hh⟩ := nxt 1 (by omega)
      exact ⟨T', Ev.step (fun k => by simp only [marblerunref05_Make.j6]; rw [if_pos h0, if_pos h1, if_pos (by omega)]) h, hh⟩
    · obtain ⟨T', h, hh⟩ := nxt dl hd
      exact ⟨T', Ev.step (fun k => by simp only [marblerunref05_Make.j6]; rw [if_pos h0, if_neg h1, if_pos (by omega)]) h, hh⟩
  · obtain ⟨T', h, hh⟩ := nxt dl hd
    exact ⟨T', Ev.step (fun k => by simp only [marblerunref05_Make.j6]; rw [if_neg h0, if_pos (by omega)]) h, hh⟩
include hp1 in
theorem make_j5 (i : Nat) (hi : i < 9) (hrest : Rest l m P (i + 1)) (T : List S64) (hT : T.length = i) (hok : ∀ t ∈ T, TrOk P.length t) (x : S83) (hx : ActBy x) (s : ByteArray) (dl pr : Int) (hd : 0 ≤ dl ∧ dl ≤ 4) (hpr : 0 ≤ pr ∧ pr ≤ 2) (a b c : List S66)
    (ha : ArcsOk P.length a) (hb : ArcsOk P.length b) (hc : ArcsOk P.length c) (hcl : c.length ≤ 1) :
    ∃ T', Ev (fun k => marblerunref05_Make.j5 k (P.length : Int) (i : Int) l m P T x.f0 x.f1 x.f2 x.f3 x.f4 x.f5 x.f6 s dl pr a b c) (P, T') ∧ T'.length ≤ 9 ∧ ∀ t ∈ T', TrOk P.length t := by
  by_cases h : Int.tmod x.f6 3 > 0
  · obtain ⟨T', h1, h2⟩ := make_j6 l m P i hi hrest T hT hok x hx s dl pr hd hpr a b (putS c (((Int.tdiv x.f6 3) % 256) % (P.length : Int)) 1) ha hb (arcs_put hc hcl (mod_by _ hp1) (by omega))
    exact ⟨T', Ev.step (fun k => by simp only [marblerunref05_Make.j5]; rw [if_pos h, if_neg (by omega)]) (Ev.bind (put_ev _ _ _ (by omega)) h1), h2⟩
  · obtain ⟨T', h1, h2⟩ := make_j6 l m P i hi hrest T hT hok x hx s dl pr hd hpr a b c ha hb hc
    exact ⟨T', Ev.step (fun k => by simp only [marblerunref05_Make.j5]; rw [if_neg h]) h1, h2⟩
include hp1 in
theorem make_j4 (i : Nat) (hi : i < 9) (hrest : Rest l m P (i + 1)) (T : List S64) (hT : T.length = i) (hok : ∀ t ∈ T, TrOk P.length t) (x : S83) (hx : ActBy x) (s : ByteArray) (dl pr : Int) (hd : 0 ≤ dl ∧ dl ≤ 4) (hpr : 0 ≤ pr ∧ pr ≤ 2) (a b : List S66)
    (ha : ArcsOk P.length a) (hb : ArcsOk P.length b) :
    ∃ T', Ev (fun k => marblerunref05_Make.j4 k (P.length : Int) (i : Int) l m P T x.f0 x.f1 x.f2 x.f3 x.f4 x.f5 x.f6 s dl pr a b) (P, T') ∧ T'.length ≤ 9 ∧ ∀ t ∈ T', TrOk P.length t := by
  by_cases h : Int.tmod x.f5 5 > 0
  · have hb5 : By x.f5 := hx.2.2.2.2.2.1
    have e : Int.tdiv x.f5 128 = x.f5 / 128 := Int.tdiv_eq_ediv_of_nonneg hb5.1
    obtain ⟨T', h1, h2⟩ := make_j5 l m P hp1 i hi hrest T hT hok x hx s dl pr hd hpr a b (putS [] (((Int.tdiv x.f5 5) % 256) % (P.length : Int)) (1 + ((Int.tdiv x.f5 128) % 256))) ha hb (arcs_put (arcs_nil _) (by simp) (mod_by _ hp1) (by unfold By at hb5; rw [e]; omega)) (put_len _ _ _)
    exact ⟨T', Ev.step (fun k => by simp only [marblerunref05_Make.j4]; rw [if_pos h, if_neg (by omega)]) (Ev.bind (put_ev [] _ _ (by simp)) h1), h2⟩
  · obtain ⟨T', h1, h2⟩ := make_j5 l m P hp1 i hi hrest T hT hok x hx s dl pr hd hpr a b [] ha hb (arcs_nil _) (by simp)
    exact ⟨T', Ev.step (fun k => by simp only [marblerunref05_Make.j4]; rw [if_neg h]) h1, h2⟩
include hp1 in
theorem make_j3 (i : Nat) (hi : i < 9) (hrest : Rest l m P (i + 1)) (T : List S64) (hT : T.length = i) (hok : ∀ t ∈ T, TrOk P.length t) (x : S83) (hx : ActBy x) (s : ByteArray) (dl pr : Int) (hd : 0 ≤ dl ∧ dl ≤ 4) (hpr : 0 ≤ pr ∧ pr ≤ 2) (a : List S66)
    (ha : ArcsOk P.length a) :
    ∃ T', Ev (fun k => marblerunref05_Make.j3 k (P.length : Int) (i : Int) l m P T x.f0 x.f1 x.f2 x.f3 x.f4 x.f5 x.f6 s dl pr a) (P, T') ∧ T'.length ≤ 9 ∧ ∀ t ∈ T', TrOk P.length t := by
  by_cases h : Int.tmod x.f4 4 = 0
  · have hb4 : By x.f4 := hx.2.2.2.2.1
    have e : Int.tdiv x.f4 64 = x.f4 / 64 := Int.tdiv_eq_ediv_of_nonneg hb4.1
    obtain ⟨T', h1, h2⟩ := make_j4 l m P hp1 i hi hrest T hT hok x hx s dl pr hd hpr a (putS [] (((Int.tdiv x.f4 4) % 256) % (P.length : Int)) (1 + ((Int.tdiv x.f4 64) % 256))) ha (arcs_put (arcs_nil _) (by simp) (mod_by _ hp1) (by unfold By at hb4; rw [e]; omega))
    exact ⟨T', Ev.step (fun k => by simp only [marblerunref05_Make.j3]; rw [if_pos h, if_neg (by omega)]) (Ev.bind (put_ev [] _ _ (by simp)) h1), h2⟩
  · obtain ⟨T', h1, h2⟩ := make_j4 l m P hp1 i hi hrest T hT hok x hx s dl pr hd hpr a [] ha (arcs_nil _)
    exact ⟨T', Ev.step (fun k => by simp only [marblerunref05_Make.j3]; rw [if_neg h]) h1, h2⟩
include hm hp1 in
theorem make_j2 (i : Nat) (hi : i < 9) (him : i < m.length) (hrest : Rest l m P (i + 1)) (T : List S64) (hT : T.length = i) (hok : ∀ t ∈ T, TrOk P.length t) :
    ∃ T', Ev (fun k => marblerunref05_Make.j2 k (P.length : Int) (i : Int) true l m P T) (P, T') ∧ T'.length ≤ 9 ∧ ∀ t ∈ T', TrOk P.length t := by
  obtain ⟨x, hxe⟩ : ∃ x, rd_T83 m (i : Int) = x := ⟨_, rfl⟩
  have hx : ActBy x := by rw [← hxe]; exact hm _ (rdC_mem him)
  have hb0 : By x.f0 := hx.1
  have hb1 : By x.f1 := hx.2.1
  have hb2 : By x.f2 := hx.2.2.1
  have ed : wrap64 (Int.tmod x.f0 5) = x.f0 % 5 := by
    have := hb0.1
    rw [Int.tmod_eq_emod_of_nonneg hb0.1]; exact wrap_id (by unfold I; omega)
  have ep : wrap64 (Int.tmod x.f1 3) = x.f1 % 3 := by
    have := hb1.1
    rw [Int.tmod_eq_emod_of_nonneg hb1.1]; exact wrap_id (by unfold I; omega)
  have ha := arcs_put (arcs_nil P.length) (by simp) (tmod_by hb2 hp1) (n := 1 + (((Int.tdiv x.f2 64) % 256) % 2)) (by omega)
  have hal := put_len [] (Int.tmod (wrap64 x.f2) (P.length : Int)) (1 + (((Int.tdiv x.f2 64) % 256) % 2))
  by_cases h : Int.tmod x.f3 3 = 0
  · obtain ⟨T', h1, h2⟩ := make_j3 l m P hp1 i hi hrest T hT hok x hx ((((⟨#[116]⟩ : ByteArray) ++ (strOfNums ([(wrap64 (48 + (i : Int))) % 256] : List Int))) ++ (⟨#[46, 120]⟩ : ByteArray))) (wrap64 (Int.tmod x.f0 5)) (wrap64 (Int.tmod x.f1 3)) (by rw [ed]; omega) (by rw [ep]; omega) _ (arcs_put ha hal (mod_by (Int.tdiv x.f3 3) hp1) (show (1 : Int) ≤ 1 ∧ (1 : Int) ≤ 4 by omega))
    refine ⟨T', Ev.step (fun k => ?_) (Ev.bind (f := fun k t197 => (marblerunref05_put.f k t197 (((Int.tdiv x.f3 3) % 256) % (P.length : Int)) 1).bind fun t200 => marblerunref05_Make.j3 k (P.length : Int) (i : Int) l m P T x.f0 x.f1 x.f2 x.f3 x.f4 x.f5 x.f6 ((((⟨#[116]⟩ : ByteArray) ++ (strOfNums ([(wrap64 (48 + (i : Int))) % 256] : List Int))) ++ (⟨#[46, 120]⟩ : ByteArray))) (wrap64 (Int.tmod x.f0 5)) (wrap64 (Int.tmod x.f1 3)) t200) (put_ev [] (Int.tmod (wrap64 x.f2) (P.length : Int)) (1 + (((Int.tdiv x.f2 64) % 256) % 2)) (by simp)) (Ev.bind (put_ev _ _ _ (by have := hal; simp only [List.length_nil] at this; omega)) h1)), h2⟩
    simp only [marblerunref05_Make.j2, hxe, if_true]
    rw [if_pos (by omega), if_pos (by omega)]
    simp only [Option.bind_some]
    rw [if_pos (str1 _), if_pos (str2 _), if_neg (by omega)]
    simp only [if_pos h]
  · obtain ⟨T', h1, h2⟩ := make_j3 l m P hp1 i hi hrest T hT hok x hx ((((⟨#[116]⟩ : ByteArray) ++ (strOfNums ([(wrap64 (48 + (i : Int))) % 256] : List Int))) ++ (⟨#[46, 120]⟩ : ByteArray))) (wrap64 (Int.tmod x.f0 5)) (wrap64 (Int.tmod x.f1 3)) (by rw [ed]; omega) (by rw [ep]; omega) _ ha
    refine ⟨T', Ev.step (fun k => ?_) (Ev.bind (f := fun k t197 => marblerunref05_Make.j3 k (P.length : Int) (i : Int) l m P T x.f0 x.f1 x.f2 x.f3 x.f4 x.f5 x.f6 ((((⟨#[116]⟩ : ByteArray) ++ (strOfNums ([(wrap64 (48 + (i : Int))) % 256] : List Int))) ++ (⟨#[46, 120]⟩ : ByteArray))) (wrap64 (Int.tmod x.f0 5)) (wrap64 (Int.tmod x.f1 3)) t197) (put_ev [] (Int.tmod (wrap64 x.f2) (P.length : Int)) (1 + (((Int.tdiv x.f2 64) % 256) % 2)) (by simp)) h1), h2⟩
    simp only [marblerunref05_Make.j2, hxe, if_true]
    rw [if_pos (by omega), if_pos (by omega)]
    simp only [Option.bind_some]
    rw [if_pos (str1 _), if_pos (str2 _), if_neg (by omega)]
    simp only [if_neg h]
include hm hp1 in
theorem make_l1 (d : Nat) : ∀ i : Nat, i ≤ 9 → i ≤ m.length → min 9 m.length = i + d → Rest l m P i := by
  induction d with
  | zero =>
    intro i hi him hd T hT hok
    refine ⟨T, ?_, by omega, hok⟩
    by_cases h : (i : Int) < (m.length : Int)
    · have h9 : ¬ ((i : Int) < 9) := by omega
      refine Ev.step (f := fun k => marblerunref05_Make.j2 k (P.length : Int) (i : Int) (decide ((i : Int) < 9)) l m P T) (fun k => by simp only [marblerunref05_Make.l1]; rw [if_pos h]) ?_
      rw [decide_eq_false h9]
      exact Ev.step (f := fun _ => some (P, T)) (fun k => by simp only [marblerunref05_Make.j2]; rw [if_neg (by simp)]) (Ev.now _)
    · refine Ev.step (f := fun k => marblerunref05_Make.j2 k (P.length : Int) (i : Int) false l m P T) (fun k => by simp only [marblerunref05_Make.l1]; rw [if_neg h]) ?_
      exact Ev.step (f := fun _ => some (P, T)) (fun k => by simp only [marblerunref05_Make.j2]; rw [if_neg (by simp)]) (Ev.now _)
  | succ d ih =>
    intro i hi him hd T hT hok
    obtain ⟨T', h1, h2⟩ := make_j2 l m P hm hp1 i (by omega) (by omega) (ih (i + 1) (by omega) (by omega) (by omega)) T hT hok
    refine ⟨T', Ev.step (fun k => ?_) h1, h2⟩
    simp only [marblerunref05_Make.l1]
    rw [if_pos (by omega), decide_eq_true (show (i : Int) < 9 by omega)]
end
theorem make_l0 (l : List Int) (m : List S83) (hl : ∀ q ∈ l, By q) (hll : l.length ≤ 1000) (hm : ∀ a ∈ m, ActBy a) (d : Nat) :
    ∀ (i : Nat) (P : List S52), 1 + l.length % 7 = i + d → P.length = i → (∀ p ∈ P, 0 ≤ p.f1 ∧ p.f1 ≤ 4) → ∃ P' T', Ev (fun k => marblerunref05_Make.l0 k (i : Int) l m P) (P', T') ∧ NetOk P' T' := by
  induction d with
  | zero =>
    intro i P hi hP htok
    obtain ⟨T', h1, h2, h3⟩ := make_l1 l m P hm (by omega) (min 9 m.length) 0 (by omega) (by omega) (by omega) [] rfl (fun t ht => by simp at ht)
    refine ⟨P, T', Ev.step (fun k => ?_) h1, by omega, by omega, h2, htok, h3⟩
    simp only [marblerunref05_Make.l0]
    rw [if_neg (by omega)]
    rfl
  | succ d ih =>
    intro i P hi hP htok
    have ew : wrap64 ((i : Int) + 1) = ((i + 1 : Nat) : Int) := by rw [wrap_add (n := 9) (by omega) (by omega) (by omega)]; rfl
    have nxt : ∀ (s : ByteArray) (q : Int), 0 ≤ q ∧ q ≤ 4 → ∃ P' T', Ev (fun k => marblerunref05_Make.l0 k (wrap64 ((i : Int) + 1)) l m (P ++ [(⟨s, q⟩ : S52)])) (P', T') ∧ NetOk P' T' := by
      intro s q hq
      rw [ew]
      refine ih (i + 1) _ (by omega) (by simp [hP]) (fun p hp => ?_)
      rcases List.mem_append.1 hp with h | h
      · exact htok p h
      · rw [List.mem_singleton.1 h]; exact hq
    by_cases h : (i : Int) < (l.length : Int)
    · have hb : By (rd l (i : Int)) := hl _ (rd_mem (by omega) h)
      have e : wrap64 (Int.tmod (rd l (i : Int)) 5) = rd l (i : Int) % 5 := by
        have := hb.1
        rw [Int.tmod_eq_emod_of_nonneg hb.1]; exact wrap_id (by unfold I; omega)
      obtain ⟨P', T', h1, h2⟩ := nxt ((⟨#[112]⟩ : ByteArray) ++ (strOfNums ([(wrap64 (97 + (i : Int))) % 256] : List Int))) (wrap64 (Int.tmod (rd l (i : Int)) 5)) (by rw [e]; omega)
      refine ⟨P', T', Ev.step (fun k => ?_) h1, h2⟩
      simp only [marblerunref05_Make.l0]
      rw [if_pos (by omega), if_pos h, if_pos (by omega)]
      simp only [Option.bind_some]
      rw [if_pos (str1 _), if_pos (by omega)]
    · obtain ⟨P', T', h1, h2⟩ := nxt ((⟨#[112]⟩ : ByteArray) ++ (strOfNums ([(wrap64 (97 + (i : Int))) % 256] : List Int))) 0 (by omega)
      refine ⟨P', T', Ev.step (fun k => ?_) h1, h2⟩
      simp only [marblerunref05_Make.l0]
      rw [if_pos (by omega), if_neg h]
      simp only [Option.bind_some]
      rw [if_pos (str1 _), if_pos (by omega)]
/-- Make answers a net that may be. -/
theorem make_ev (l : List Int) (m : List S83) (hl : ∀ q ∈ l, By q) (hll : l.length ≤ 1000) (hm : ∀ a ∈ m, ActBy a) : ∃ P T, Ev (fun k => marblerunref05_Make.f k l m) (P, T) ∧ NetOk P T := by
  obtain ⟨P, T, h1, h2⟩ := make_l0 l m hl hll hm (1 + l.length % 7) 0 [] (by omega) rfl (fun p hp => by simp at hp)
  exact ⟨P, T, h1, h2⟩

theorem size_is {a : Int} (h : I a) : whole_size.f a = some (ab a) := by
  unfold I at h
  unfold whole_size.f ab
  simp only [u64]
  split
  · rw [show (-(a % 18446744073709551616)) % 18446744073709551616 = -a by omega]
  · rw [show a % 18446744073709551616 = a by omega]

theorem mul64_is {x y : Int} (hx0 : 0 ≤ x) (hx : x < 18446744073709551616) (hy0 : 0 ≤ y) (hy : y < 18446744073709551616) :
    bits_Mul64.f x y = some (x * y / 18446744073709551616, x * y % 18446744073709551616) := by
  unfold bits_Mul64.f
  rw [and32 y hy0 hy, and32 x hx0 hx]
  obtain ⟨x1, hx1⟩ : ∃ z, z = x / 4294967296 := ⟨_, rfl⟩
  obtain ⟨x0, hx0'⟩ : ∃ z, z = x % 4294967296 := ⟨_, rfl⟩
  obtain ⟨y1, hy1⟩ : ∃ z, z = y / 4294967296 := ⟨_, rfl⟩
  obtain ⟨y0, hy0'⟩ : ∃ z, z = y % 4294967296 := ⟨_, rfl⟩
  rw [← hx1, ← hx0', ← hy1, ← hy0']
  have e := hi_lo (x := x) (y := y) (p0 := x0) (p1 := x1) (q0 := y0) (q1 := y1) (by omega) (by omega)
  have b11 := mul_le32 (x := x1) (y := y1) (by omega) (by omega) (by omega) (by omega)
  have b10 := mul_le32 (x := x1) (y := y0) (by omega) (by omega) (by omega) (by omega)
  have b01 := mul_le32 (x := x0) (y := y1) (by omega) (by omega) (by omega) (by omega)
  have b00 := mul_le32 (x := x0) (y := y0) (by omega) (by omega) (by omega) (by omega)
  rw [e]
  generalize x1 * y1 = p11 at *
  generalize x1 * y0 = p10 at *
  generalize x0 * y1 = p01 at *
  generalize x0 * y0 = p00 at *
  simp only [u64]
  have w11 : p11 % 18446744073709551616 = p11 := by omega
  have w10 : p10 % 18446744073709551616 = p10 := by omega
  have w01 : p01 % 18446744073709551616 = p01 := by omega
  have w00 : p00 % 18446744073709551616 = p00 := by omega
  rw [w11, w10, w01, w00]
  obtain ⟨t, ht⟩ : ∃ z, z = p10 + p00 / 4294967296 := ⟨_, rfl⟩
  have wt : (p10 + p00 / 4294967296) % 18446744073709551616 = t := by omega
  rw [wt, and32 t (by omega) (by omega)]
  congr 2
  omega
theorem mul_ab (a b : Int) : ab a * ab b = if (decide (a < 0)) = (decide (b < 0)) then a * b else -(a * b) := by
  unfold ab
  by_cases ha : a < 0 <;> by_cases hb : b < 0 <;> simp [ha, hb, Int.neg_mul, Int.mul_neg]
theorem ab_le {a : Int} (h : I a) : 0 ≤ ab a ∧ ab a ≤ 9223372036854775808 := by unfold I at h; unfold ab; omega
theorem mul_ev {a b : Int} (ha : I a) (hb : I b) : Ev (fun k => whole_Mul.f k a b) (mulS a b) := by
  have hp0 := ab_le ha
  have hq0 := ab_le hb
  have hpn : 0 ≤ ab a * ab b := Int.mul_nonneg hp0.1 hq0.1
  have hm := mul_ab a b
  refine Ev.of (k := 3) (whole_Mul.mono a b) ?_
  unfold whole_Mul.f
  rw [size_is ha, size_is hb]
  simp only [Option.bind_some]
  rw [mul64_is hp0.1 (by omega) hq0.1 (by omega)]
  simp only [Option.bind_some]
  generalize hP : ab a * ab b = P at *
  have key : ∀ neg : Bool, (a * b = if neg then -P else P) → (neg = true → P ≠ 0) → whole_Mul.j0 3 (P / 18446744073709551616) (P % 18446744073709551616) neg = some (mulS a b) := by
    intro neg hn hz
    have hI : I (a * b) ↔ (if neg then P ≤ 9223372036854775808 else P ≤ 9223372036854775807) := by
      rw [hn]; unfold I; cases neg <;> simp <;> omega
    unfold mulS
    by_cases h1 : P / 18446744073709551616 > 0
    · have h2 : ¬ I (a * b) := by rw [hI]; cases neg <;> simp <;> omega
      rw [if_neg h2]; simp only [whole_Mul.j0, whole_Mul.j1]; rw [if_pos h1]; rfl
    · have e : P % 18446744073709551616 = P := by omega
      rw [e]
      simp only [whole_Mul.j0, whole_Mul.j1]
      rw [if_neg h1]
      by_cases h2 : P > 9223372036854775808
      · have h3 : ¬ I (a * b) := by rw [hI]; cases neg <;> simp <;> omega
        rw [if_neg h3, if_pos h2]; rfl
      · rw [if_neg h2]
        by_cases h4 : P = 9223372036854775808
        · rw [if_pos h4]
          cases neg with
          | true =>
            have h3 : I (a * b) := by rw [hI]; simp; omega
            rw [if_pos h3]
            simp only [Bool.not_true, if_true] at *
            rw [hn, u64]
            simp only [Bool.false_eq_true, if_false]
            congr 2
            unfold wrap64; omega
          | false =>
            have h3 : ¬ I (a * b) := by rw [hI]; simp; omega
            rw [if_neg h3]; rfl
        · rw [if_neg h4]
          have h3 : I (a * b) := by rw [hI]; cases neg <;> simp <;> omega
          rw [if_pos h3]
          simp only [Bool.false_eq_true, if_false]
          cases neg with
          | true =>
            simp only [if_true] at *
            have := hz trivial
            rw [hn, u64]
            congr 2
            unfold wrap64; omega
          | false =>
            simp only [Bool.false_eq_true, if_false] at *
            rw [hn]
            congr 2
            unfold wrap64; omega
  have hne : ∀ {x : Int}, x ≠ 0 → 1 ≤ ab x := by intro x hx; unfold ab; omega
  by_cases hs : decide (a < 0) = decide (b < 0)
  · rw [if_neg (by simp [hs])]
    rw [if_pos hs] at hm
    exact key false (by simp [hm]) (by simp)
  · rw [if_pos (by simpa using hs)]
    rw [if_neg hs] at hm
    by_cases ha0 : a = 0
    · rw [if_pos ha0]
      refine key false ?_ (by simp)
      subst ha0; simp only [Int.zero_mul] at hm ⊢; simp; omega
    · rw [if_neg ha0]
      by_cases hb0 : b = 0
      · rw [show (b != 0) = false by simp [hb0]]
        refine key false ?_ (by simp)
        subst hb0; simp only [Int.mul_zero] at hm ⊢; simp; omega
      · rw [show (b != 0) = true by simp [hb0]]
        refine key true (by simp; omega) (fun _ => ?_)
        rw [← hP]
        have h1 := hne ha0
        have h2 := hne hb0
        have := Int.mul_le_mul h1 h2 (by omega) (by omega)
        omega

theorem add_is {a b : Int} (ha : I a) (hb : I b) : whole_Add.f a b = some (addS a b) := by
  unfold whole_Add.f addS
  by_cases hI : I (a + b)
  · rw [if_pos hI, wrap_id hI]
    unfold I at ha hb hI
    by_cases h1 : a < 0 <;> by_cases h2 : b < 0 <;> by_cases h3 : a + b < 0 <;> simp [h1, h2, h3] <;> omega
  · rw [if_neg hI]
    unfold I at ha hb hI
    have hi := wrap_I (a + b)
    unfold I at hi
    have hw : wrap64 (a + b) = a + b - 18446744073709551616 ∨ wrap64 (a + b) = a + b + 18446744073709551616 := by unfold wrap64; omega
    by_cases h1 : a < 0 <;> by_cases h2 : b < 0 <;> by_cases h3 : wrap64 (a + b) < 0 <;> simp [h1, h2, h3] <;> omega

theorem radd_is {a b : Int} (ha : I a) (hb : I b) : marblerunref01_Add.f a b = some (addS a b) := by
  unfold I at ha hb
  have h1 : b > 0 → wrap64 (9223372036854775807 - b) = 9223372036854775807 - b := fun h => wrap_id (by unfold I; omega)
  have h2 : b < 0 → wrap64 ((-9223372036854775808) - b) = -9223372036854775808 - b := fun h => wrap_id (by unfold I; omega)
  have h3 : I (a + b) → wrap64 (a + b) = a + b := wrap_id
  unfold marblerunref01_Add.f addS
  by_cases hI : I (a + b)
  · rw [if_pos hI, h3 hI]
    unfold I at hI
    by_cases p : b > 0
    · rw [if_pos p, h1 p, if_neg (by omega), if_neg (by omega)]
    · rw [if_neg p]
      by_cases n : b < 0
      · rw [if_pos n, h2 n, if_neg (by omega)]
      · rw [if_neg n]
  · rw [if_neg hI]
    unfold I at hI
    by_cases p : b > 0
    · rw [if_pos p, h1 p, if_pos (by omega)]
    · rw [if_neg p, if_pos (by omega), h2 (by omega), if_pos (by omega)]

theorem odd_part {x y : Int} (hx0 : 1 ≤ x) (hy0 : 1 ≤ y) (hy : y ≤ 9223372036854775807) (h : x * y = 9223372036854775808) : x % 2 = 0 := by
  obtain ⟨a, rfl⟩ := Int.eq_ofNat_of_zero_le (show 0 ≤ x by omega)
  obtain ⟨b, rfl⟩ := Int.eq_ofNat_of_zero_le (show 0 ≤ y by omega)
  have hn : a * b = 2 ^ 63 := by
    have : ((a * b : Nat) : Int) = 9223372036854775808 := by rw [Int.natCast_mul]; exact h
    omega
  rcases Nat.mod_two_eq_zero_or_one a with e | e
  · omega
  · exfalso
    have hc : Nat.Coprime a 2 := by
      have h2 := Nat.gcd_rec 2 a
      rw [e] at h2
      rw [Nat.coprime_comm]
      exact h2
    have h1 := Nat.Coprime.eq_one_of_dvd (Nat.Coprime.pow_right 63 hc) ⟨b, hn.symm⟩
    rw [h1] at hn
    omega
theorem pos_mul {x y : Int} (hx0 : 1 ≤ x) (hy0 : 1 ≤ y) : 1 ≤ x * y := by
  have := Int.mul_le_mul hx0 hy0 (by omega) (by omega)
  omega
theorem half_ne {x y : Int} (ev : x % 2 = 0) (hx0 : 1 ≤ x) (hy0 : 1 ≤ y) (hle : x / 2 * y ≤ 9223372036854775807) (hE : x * y ≠ 9223372036854775808) : ¬ wrap64 (x / 2 * y) = 4611686018427387904 := by
  intro e
  have h0 : 0 ≤ x / 2 * y := Int.mul_nonneg (by omega) (by omega)
  rw [wrap_id ⟨by omega, by omega⟩] at e
  apply hE
  have : x * y = 2 * (x / 2 * y) := by rw [← Int.mul_assoc, show 2 * (x / 2) = x by omega]
  omega
theorem le_div_iff {x y : Int} (hy0 : 1 ≤ y) (hy : y ≤ 9223372036854775807) : x ≤ wrap64 (Int.tdiv 9223372036854775807 y) ↔ x * y ≤ 9223372036854775807 := by
  rw [Int.tdiv_eq_ediv_of_nonneg (by omega)]
  have h1 : 0 ≤ (9223372036854775807 : Int) / y := Int.ediv_nonneg (by omega) (by omega)
  have h2 : (9223372036854775807 : Int) / y ≤ 9223372036854775807 := Int.ediv_le_self _ (by omega)
  rw [wrap_id ⟨by omega, by omega⟩]
  exact Int.le_ediv_iff_mul_le (by omega)
theorem half_is {x : Int} (hx0 : 1 ≤ x) (hx : x ≤ 9223372036854775807) : wrap64 (Int.tdiv x 2) = x / 2 := by
  rw [Int.tdiv_eq_ediv_of_nonneg (by omega)]
  exact wrap_id ⟨by omega, by omega⟩
/-- What is left where the product lies below 0. -/
def negB (x y : Int) (J : Option (Int × Bool)) : Option (Int × Bool) := if x ≤ wrap64 (Int.tdiv (9223372036854775807 : Int) y) then some (wrap64 (-(wrap64 (x * y))), true) else
  if Int.tmod x 2 = 0 then (if wrap64 (Int.tdiv x 2) ≤ wrap64 (Int.tdiv (9223372036854775807 : Int) y) then (if wrap64 ((wrap64 (Int.tdiv x 2)) * y) = 4611686018427387904 then some ((-9223372036854775808), true) else J) else J) else J
theorem negB_is {x y : Int} {J : Option (Int × Bool)} (hx0 : 1 ≤ x) (hx : x ≤ 9223372036854775807) (hy0 : 1 ≤ y) (hy : y ≤ 9223372036854775807) (hJ : x * y ≠ 9223372036854775808 → J = some (0, false)) :
    negB x y J = some (if x * y ≤ 9223372036854775808 then (-(x * y), true) else (0, false)) := by
  have hp : 1 ≤ x * y := pos_mul hx0 hy0
  unfold negB
  simp only [le_div_iff hy0 hy, half_is hx0 hx, Int.tmod_eq_emod_of_nonneg (show 0 ≤ x by omega)]
  by_cases h : x * y ≤ 9223372036854775807
  · rw [if_pos h, if_pos (by omega), wrap_id (x := x * y) ⟨by omega, by omega⟩, wrap_id ⟨by omega, by omega⟩]
  · rw [if_neg h]
    by_cases hE : x * y = 9223372036854775808
    · have ev := odd_part hx0 hy0 hy hE
      have e2 : x / 2 * y = 4611686018427387904 := by
        have : 2 * (x / 2) * y = 9223372036854775808 := by rw [show 2 * (x / 2) = x by omega]; exact hE
        rw [Int.mul_assoc] at this; omega
      rw [if_pos ev, if_pos (by omega), e2, if_pos (wrap_id ⟨by omega, by omega⟩), if_pos (by omega), hE]
    · rw [hJ hE, if_neg (show ¬ x * y ≤ 9223372036854775808 by omega)]
      split
      · rename_i ev
        split
        · rename_i hle
          rw [if_neg (half_ne ev hx0 hy0 hle hE)]
        · rfl
      · rfl
theorem last_is {x y : Int} (hx0 : 1 ≤ x) (hx : x ≤ 9223372036854775807) (hy0 : 1 ≤ y) (hy : y ≤ 9223372036854775807) (hE : x * y ≠ 9223372036854775808) :
    (if Int.tmod y 2 = 0 then (if wrap64 (Int.tdiv y 2) ≤ wrap64 (Int.tdiv (9223372036854775807 : Int) x) then (if wrap64 ((wrap64 (Int.tdiv y 2)) * x) = 4611686018427387904 then some ((-9223372036854775808 : Int), true) else some (0, false)) else some (0, false)) else some (0, false)) = some (0, false) := by
  simp only [le_div_iff hx0 hx, half_is hy0 hy, Int.tmod_eq_emod_of_nonneg (show 0 ≤ y by omega)]
  split
  · rename_i ev
    split
    · rename_i hle
      rw [if_neg (half_ne ev hy0 hx0 hle (by rw [Int.mul_comm]; exact hE))]
    · rfl
  · rfl
theorem rmul_is {a b : Int} (ha : I a) (hb : I b) : marblerunref01_Mul.f a b = some (mulS a b) := by
  unfold marblerunref01_Mul.f
  by_cases a0 : a = 0
  · rw [if_pos a0]; subst a0; simp [mulS, I]
  rw [if_neg a0]
  by_cases b0 : b = 0
  · rw [if_pos b0]; subst b0; simp [mulS, I]
  rw [if_neg b0]
  unfold I at ha hb
  by_cases am : a = -9223372036854775808
  · rw [if_pos am, if_neg (by omega)]
    subst am
    by_cases b1 : b = 1
    · rw [if_pos b1]; subst b1; simp [mulS, I]
    · rw [if_neg b1, mulS, if_neg]
      unfold I; omega
  rw [if_neg am]
  by_cases bm : b = -9223372036854775808
  · rw [if_pos bm]
    subst bm
    by_cases a1 : a = 1
    · rw [if_pos a1]; subst a1; simp [mulS, I]
    · rw [if_neg a1, if_neg (by omega), mulS, if_neg]
      unfold I; omega
  rw [if_neg bm]
  have wa : wrap64 (-a) = -a := wrap_id ⟨by omega, by omega⟩
  have wb : wrap64 (-b) = -b := wrap_id ⟨by omega, by omega⟩
  rw [wa, wb]
  by_cases an : a < 0
  · rw [if_pos an]
    by_cases bn : b < 0
    · rw [if_pos bn, if_neg (by omega)]
      simp only [le_div_iff (x := -a) (y := -b) (by omega) (by omega), Int.neg_mul_neg]
      have hp : 1 ≤ a * b := by
        have := pos_mul (x := -a) (y := -b) (by omega) (by omega)
        rwa [Int.neg_mul_neg] at this
      by_cases h : a * b ≤ 9223372036854775807
      · rw [if_pos h, mulS, if_pos (show I (a * b) from ⟨by omega, by omega⟩), wrap_id ⟨by omega, by omega⟩]
      · rw [if_neg h, mulS, if_neg (by unfold I; omega)]
    · rw [if_neg bn]
      refine Eq.trans (show _ = negB (-a) b _ from rfl) ?_
      rw [negB_is (by omega) (by omega) (by omega) (by omega) (fun hE => by rw [if_neg (show ¬ -a = 0 by omega)]; exact last_is (by omega) (by omega) (by omega) (by omega) hE), Int.neg_mul, Int.neg_neg]
      have hp : a * b ≤ -1 := by
        have := pos_mul (x := -a) (y := b) (by omega) (by omega)
        rw [Int.neg_mul] at this; omega
      by_cases h : -(a * b) ≤ 9223372036854775808
      · rw [if_pos h, mulS, if_pos (show I (a * b) from ⟨by omega, by omega⟩)]
      · rw [if_neg h, mulS, if_neg (by unfold I; omega)]
  · rw [if_neg an]
    by_cases bn : b < 0
    · rw [if_pos bn, if_neg (by omega)]
      refine Eq.trans (show _ = negB a (-b) _ from rfl) ?_
      rw [negB_is (by omega) (by omega) (by omega) (by omega) (fun hE => last_is (by omega) (by omega) (by omega) (by omega) hE), Int.mul_neg, Int.neg_neg]
      have hp : a * b ≤ -1 := by
        have := pos_mul (x := a) (y := -b) (by omega) (by omega)
        rw [Int.mul_neg] at this; omega
      by_cases h : -(a * b) ≤ 9223372036854775808
      · rw [if_pos h, mulS, if_pos (show I (a * b) from ⟨by omega, by omega⟩)]
      · rw [if_neg h, mulS, if_neg (by unfold I; omega)]
    · rw [if_neg bn]
      have hp : 1 ≤ a * b := pos_mul (by omega) (by omega)
      simp only [le_div_iff (x := a) (y := b) (by omega) (by omega)]
      by_cases h : a * b ≤ 9223372036854775807
      · rw [if_pos h, mulS, if_pos (show I (a * b) from ⟨by omega, by omega⟩), wrap_id ⟨by omega, by omega⟩]
      · rw [if_neg h, mulS, if_neg (by unfold I; omega)]

theorem drop_cons {l : List Int} {i : Nat} (h : i < l.length) : l.drop i = rd l (i : Int) :: l.drop (i + 1) := by
  rw [List.drop_eq_getElem_cons h, rd_lt (by omega) (by omega)]; rfl

theorem mulS_I (a b : Int) : I (mulS a b).1 := by
  unfold mulS; split
  · assumption
  · decide
theorem dotS_cons (s a b : Int) (xs ys : List Int) : dotS s (a :: xs) (b :: ys) = if I (a * b) then (if I (s + a * b) then dotS (s + a * b) xs ys else (0, false)) else (0, false) := rfl
theorem dot_loop (l0 l1 : List Int) (h0 : ∀ x ∈ l0, I x) (h1 : ∀ x ∈ l1, I x) (hb : l0.length ≤ 9223372036854775806) (d : Nat) :
    ∀ (i : Nat), min l0.length l1.length = i + d → ∀ s, I s → Ev (fun k => whole_Dot.l0 k l0 l1 s ((min l0.length l1.length : Nat) : Int) (i : Int)) (dotS s (l0.drop i) (l1.drop i)) := by
  induction d with
  | zero =>
    intro i hi s hs
    refine Ev.step (f := fun _ => some (s, true)) (fun k => by simp only [whole_Dot.l0]; rw [if_neg (by omega)]) ?_
    have : dotS s (l0.drop i) (l1.drop i) = (s, true) := by
      by_cases h : l0.length ≤ i
      · rw [List.drop_eq_nil_of_le h]; rfl
      · rw [List.drop_eq_nil_of_le (show l1.length ≤ i by omega)]; cases l0.drop i <;> rfl
    rw [this]; exact Ev.now _
  | succ d ih =>
    intro i hi s hs
    have e0 := drop_cons (l := l0) (i := i) (by omega)
    have e1 := drop_cons (l := l1) (i := i) (by omega)
    rw [e0, e1, dotS_cons]
    have i0 := h0 _ (rd_mem (xs := l0) (i := (i : Int)) (by omega) (by omega))
    have i1 := h1 _ (rd_mem (xs := l1) (i := (i : Int)) (by omega) (by omega))
    refine Ev.step (f := fun k => (whole_Mul.f k (rd l0 (i : Int)) (rd l1 (i : Int))).bind fun p => ((whole_Add.f s p.1).bind fun q => (if p.2 = true then (if q.2 = true then (whole_Dot.l0 k l0 l1 q.1 ((min l0.length l1.length : Nat) : Int) (wrap64 ((i : Int) + 1))) else (some (0, false))) else (some (0, false))))) (fun k => by simp only [whole_Dot.l0]; rw [if_pos (by omega), if_pos (by omega), if_pos (by omega), if_pos (by omega)]) ?_
    refine Ev.bind (mul_ev i0 i1) ?_
    refine Ev.congr (f := fun k => (if (mulS (rd l0 (i : Int)) (rd l1 (i : Int))).2 = true then (if (addS s (mulS (rd l0 (i : Int)) (rd l1 (i : Int))).1).2 = true then (whole_Dot.l0 k l0 l1 (addS s (mulS (rd l0 (i : Int)) (rd l1 (i : Int))).1).1 ((min l0.length l1.length : Nat) : Int) (wrap64 ((i : Int) + 1))) else (some (0, false))) else (some (0, false)))) (fun k => by rw [add_is hs (mulS_I _ _)]; rfl) ?_
    rw [wrap_add (n := l0.length) (by omega) (by omega) (by omega)]
    by_cases hm : I (rd l0 (i : Int) * rd l1 (i : Int))
    · rw [if_pos hm]
      have em : mulS (rd l0 (i : Int)) (rd l1 (i : Int)) = (rd l0 (i : Int) * rd l1 (i : Int), true) := by rw [mulS, if_pos hm]
      rw [em]
      by_cases ha : I (s + rd l0 (i : Int) * rd l1 (i : Int))
      · rw [if_pos ha]
        have ea : addS s (rd l0 (i : Int) * rd l1 (i : Int)) = (s + rd l0 (i : Int) * rd l1 (i : Int), true) := by rw [addS, if_pos ha]
        simp only [ea, if_true]
        have := ih (i + 1) (by omega) _ ha
        simpa only [Int.natCast_add, Int.natCast_one] using this
      · rw [if_neg ha]
        have ea : addS s (rd l0 (i : Int) * rd l1 (i : Int)) = (0, false) := by rw [addS, if_neg ha]
        simp only [ea, if_true, Bool.false_eq_true, if_false]
        exact Ev.now _
    · rw [if_neg hm]
      have em : mulS (rd l0 (i : Int)) (rd l1 (i : Int)) = (0, false) := by rw [mulS, if_neg hm]
      rw [em]
      simp only [Bool.false_eq_true, if_false]
      exact Ev.now _
theorem dot_ev {a b : List Int} (h0 : ∀ x ∈ a, I x) (h1 : ∀ x ∈ b, I x) (hb : a.length ≤ 9223372036854775806) : Ev (fun k => whole_Dot.f k a b) (dotS 0 a b) := by
  have h := dot_loop a b h0 h1 hb (min a.length b.length) 0 (by simp) 0 (by decide)
  have e : mn (a.length : Int) (b.length : Int) = ((min a.length b.length : Nat) : Int) := by unfold mn; omega
  unfold whole_Dot.f
  rw [e]
  simpa using h

theorem rdot_end (l0 l1 : List Int) (i : Nat) (s : Int) (h : min l0.length l1.length ≤ i) : Ev (fun k => marblerunref01_Dot.l0 k l0 l1 s (i : Int)) (s, true) := by
  by_cases h0 : (i : Int) < (l0.length : Int)
  · refine Ev.step (f := fun k => marblerunref01_Dot.j1 k l0 l1 s (i : Int) (decide ((i : Int) < (l1.length : Int)))) (fun k => by simp only [marblerunref01_Dot.l0]; rw [if_pos h0]) ?_
    rw [show decide ((i : Int) < (l1.length : Int)) = false from decide_eq_false (by omega)]
    exact Ev.step (f := fun _ => some (s, true)) (fun k => by simp [marblerunref01_Dot.j1]) (Ev.now _)
  · refine Ev.step (f := fun k => marblerunref01_Dot.j1 k l0 l1 s (i : Int) false) (fun k => by simp only [marblerunref01_Dot.l0]; rw [if_neg h0]) ?_
    exact Ev.step (f := fun _ => some (s, true)) (fun k => by simp [marblerunref01_Dot.j1]) (Ev.now _)
theorem rdot_loop (l0 l1 : List Int) (h0 : ∀ x ∈ l0, I x) (h1 : ∀ x ∈ l1, I x) (hb : l0.length ≤ 9223372036854775806) (d : Nat) :
    ∀ (i : Nat), min l0.length l1.length = i + d → ∀ s, I s → Ev (fun k => marblerunref01_Dot.l0 k l0 l1 s (i : Int)) (dotS s (l0.drop i) (l1.drop i)) := by
  induction d with
  | zero =>
    intro i hi s hs
    have : dotS s (l0.drop i) (l1.drop i) = (s, true) := by
      by_cases h : l0.length ≤ i
      · rw [List.drop_eq_nil_of_le h]; rfl
      · rw [List.drop_eq_nil_of_le (show l1.length ≤ i by omega)]; cases l0.drop i <;> rfl
    rw [this]; exact rdot_end l0 l1 i s (by omega)
  | succ d ih =>
    intro i hi s hs
    have e0 := drop_cons (l := l0) (i := i) (by omega)
    have e1 := drop_cons (l := l1) (i := i) (by omega)
    rw [e0, e1, dotS_cons]
    have i0 := h0 _ (rd_mem (xs := l0) (i := (i : Int)) (by omega) (by omega))
    have i1 := h1 _ (rd_mem (xs := l1) (i := (i : Int)) (by omega) (by omega))
    refine Ev.step (f := fun k => marblerunref01_Dot.j1 k l0 l1 s (i : Int) true) (fun k => by simp only [marblerunref01_Dot.l0]; rw [if_pos (by omega), decide_eq_true (by omega)]) ?_
    refine Ev.step (f := fun k => if (mulS (rd l0 (i : Int)) (rd l1 (i : Int))).2 = true then (if (addS s (mulS (rd l0 (i : Int)) (rd l1 (i : Int))).1).2 = true then (marblerunref01_Dot.l0 k l0 l1 (addS s (mulS (rd l0 (i : Int)) (rd l1 (i : Int))).1).1 (wrap64 ((i : Int) + 1))) else (some (0, false))) else (some (0, false))) (fun k => by
      simp only [marblerunref01_Dot.j1]; rw [if_pos trivial, if_pos (by omega), if_pos (by omega), if_pos (by omega), rmul_is i0 i1]; simp only [Option.bind_some]; rw [radd_is hs (mulS_I _ _)]; rfl) ?_
    rw [wrap_add (n := l0.length) (by omega) (by omega) (by omega)]
    by_cases hm : I (rd l0 (i : Int) * rd l1 (i : Int))
    · rw [if_pos hm]
      have em : mulS (rd l0 (i : Int)) (rd l1 (i : Int)) = (rd l0 (i : Int) * rd l1 (i : Int), true) := by rw [mulS, if_pos hm]
      rw [em]
      by_cases ha : I (s + rd l0 (i : Int) * rd l1 (i : Int))
      · rw [if_pos ha]
        have ea : addS s (rd l0 (i : Int) * rd l1 (i : Int)) = (s + rd l0 (i : Int) * rd l1 (i : Int), true) := by rw [addS, if_pos ha]
        simp only [ea, if_true]
        have := ih (i + 1) (by omega) _ ha
        simpa only [Int.natCast_add, Int.natCast_one] using this
      · rw [if_neg ha]
        have ea : addS s (rd l0 (i : Int) * rd l1 (i : Int)) = (0, false) := by rw [addS, if_neg ha]
        simp only [ea, if_true, Bool.false_eq_true, if_false]
        exact Ev.now _
    · rw [if_neg hm]
      have em : mulS (rd l0 (i : Int)) (rd l1 (i : Int)) = (0, false) := by rw [mulS, if_neg hm]
      rw [em]
      simp only [Bool.false_eq_true, if_false]
      exact Ev.now _
theorem rdot_ev {a b : List Int} (h0 : ∀ x ∈ a, I x) (h1 : ∀ x ∈ b, I x) (hb : a.length ≤ 9223372036854775806) : Ev (fun k => marblerunref01_Dot.f k a b) (dotS 0 a b) := by
  have h := rdot_loop a b h0 h1 hb (min a.length b.length) 0 (by simp) 0 (by decide)
  unfold marblerunref01_Dot.f
  simpa using h

theorem dotS_I : ∀ (s : Int) (a b : List Int), I s → I (dotS s a b).1
  | s, a :: xs, b :: ys, hs => by
    simp only [dotS]
    split
    · split
      · exact dotS_I _ xs ys (by assumption)
      · exact (by decide : I 0)
    · exact (by decide : I 0)
  | s, [], _, hs => by simpa [dotS] using hs
  | s, _ :: _, [], hs => by simpa [dotS] using hs

/-- What a watch holds behind n tokens more on place p. -/
def addW (y : List Int) (s : Int × Bool) (n p : Int) : Int × Bool := ((addS s.1 (mulS n (rd y p)).1).1, s.2 && (mulS n (rd y p)).2 && (addS s.1 (mulS n (rd y p)).1).2)
def inW (y : List Int) (l : List S66) (s : Int × Bool) : Int × Bool := l.foldl (fun s a => addW y s (wrap64 (-a.f1)) a.f0) s
def outW (y : List Int) (l : List S66) (s : Int × Bool) : Int × Bool := l.foldl (fun s a => addW y s a.f1 a.f0) s
theorem addS_I (a b : Int) : I (addS a b).1 := by unfold addS; split <;> first | assumption | decide
theorem addW_I (y : List Int) (s : Int × Bool) (n p : Int) : I (addW y s n p).1 := addS_I _ _
theorem inW_I (y : List Int) : ∀ (l : List S66) (s : Int × Bool), I s.1 → I (inW y l s).1
  | [], _, h => h
  | a :: l, s, _ => inW_I y l _ (addW_I y s _ _)
theorem outW_I (y : List Int) : ∀ (l : List S66) (s : Int × Bool), I s.1 → I (outW y l s).1
  | [], _, h => h
  | a :: l, s, _ => outW_I y l _ (addW_I y s _ _)
def ArcW (n : Nat) (a : S66) : Prop := I a.f1 ∧ 0 ≤ a.f0 ∧ a.f0 < (n : Int)
theorem addW_ev {y : List Int} (hy : ∀ x ∈ y, I x) {s : Int × Bool} (hs : I s.1) {n p : Int} (hn : I n) (h0 : 0 ≤ p) (h1 : p < (y.length : Int)) (P : List S52) (T : List S64) (f : Int) : Ev (fun k => weigh_Watch_add.f k P T y f s.1 s.2 n p) (f, (addW y s n p).1, (addW y s n p).2) := by
  obtain ⟨K, hK⟩ := mul_ev hn (hy _ (rd_mem h0 h1))
  refine ⟨K, fun k hk => ?_⟩
  have h := hK k hk
  dsimp only at h ⊢
  unfold weigh_Watch_add.f addW
  rw [if_pos h0, if_pos h1, h, Option.bind_some, add_is hs (mulS_I _ _), Option.bind_some]
  cases s.2 <;> cases (mulS n (rd y p)).2 <;> simp
theorem outW_ev {y : List Int} (hy : ∀ x ∈ y, I x) (P : List S52) (T : List S64) (f : Int) {l : List S66} (hl : ∀ a ∈ l, ArcW y.length a) (hll : l.length ≤ 1000) (d : Nat) :
    ∀ (i : Nat) (s : Int × Bool), l.length = i + d → I s.1 → Ev (fun k => weigh_Watch_Fire.l1 k l (l.length : Int) (i : Int) P T y f s.1 s.2) (f, (outW y (l.drop i) s).1, (outW y (l.drop i) s).2) := by
  induction d with
  | zero =>
    intro i s hi hs
    rw [List.drop_eq_nil_of_le (by omega)]
    exact Ev.step (f := fun _ => some (f, s.1, s.2)) (fun k => by simp only [weigh_Watch_Fire.l1]; rw [if_neg (by omega)]) (Ev.now _)
  | succ d ih =>
    intro i s hi hs
    have ha := hl _ (rdA_mem (l := l) (i := i) (by omega))
    rw [dropA_cons (by omega)]
    refine Ev.step (f := fun k => (weigh_Watch_add.f k P T y f s.1 s.2 ((rd_T66 l (i : Int)).f1) ((rd_T66 l (i : Int)).f0)).bind fun b => weigh_Watch_Fire.l1 k l (l.length : Int) ((i + 1 : Nat) : Int) P T y b.1 b.2.1 b.2.2) (fun k => by simp only [weigh_Watch_Fire.l1]; rw [if_pos (by omega), if_pos (by omega), if_pos (by omega), wrap_succ (by omega)]) ?_
    refine Ev.bind (addW_ev hy hs ha.1 ha.2.1 ha.2.2 P T f) ?_
    exact ih (i + 1) _ (by omega) (addW_I y s _ _)
theorem inW_ev {y : List Int} (hy : ∀ x ∈ y, I x) (P : List S52) (T : List S64) (f : Int) {l : List S66} (hl : ∀ a ∈ l, ArcW y.length a) (hll : l.length ≤ 1000) {t : Int} (t0 : 0 ≤ t) (t1 : t < (T.length : Int)) (ho : ∀ a ∈ (rd_T64 T t).f5, ArcW y.length a) (hol : (rd_T64 T t).f5.length ≤ 1000) (d : Nat) :
    ∀ (i : Nat) (s : Int × Bool), l.length = i + d → I s.1 → Ev (fun k => weigh_Watch_Fire.l0 k t l (l.length : Int) (i : Int) P T y f s.1 s.2) (f, (outW y (rd_T64 T t).f5 (inW y (l.drop i) s)).1, (outW y (rd_T64 T t).f5 (inW y (l.drop i) s)).2) := by
  induction d with
  | zero =>
    intro i s hi hs
    rw [List.drop_eq_nil_of_le (by omega)]
    refine Ev.step (f := fun k => weigh_Watch_Fire.l1 k (rd_T64 T t).f5 ((rd_T64 T t).f5.length : Int) ((0 : Nat) : Int) P T y f s.1 s.2) (fun k => by simp only [weigh_Watch_Fire.l0]; rw [if_neg (by omega), if_pos t0, if_pos t1]; rfl) ?_
    exact outW_ev hy P T f ho hol (rd_T64 T t).f5.length 0 s (by omega) hs
  | succ d ih =>
    intro i s hi hs
    have ha := hl _ (rdA_mem (l := l) (i := i) (by omega))
    rw [dropA_cons (by omega)]
    refine Ev.step (f := fun k => (weigh_Watch_add.f k P T y f s.1 s.2 (wrap64 (-((rd_T66 l (i : Int)).f1))) ((rd_T66 l (i : Int)).f0)).bind fun b => weigh_Watch_Fire.l0 k t l (l.length : Int) ((i + 1 : Nat) : Int) P T y b.1 b.2.1 b.2.2) (fun k => by simp only [weigh_Watch_Fire.l0]; rw [if_pos (by omega), if_pos (by omega), if_pos (by omega), wrap_succ (by omega)]) ?_
    refine Ev.bind (addW_ev hy hs (wrap_I _) ha.2.1 ha.2.2 P T f) ?_
    exact ih (i + 1) _ (by omega) (addW_I y s _ _)
/-- What a watch holds behind a firing. -/
def fireS (y : List Int) (T : List S64) (s : Int × Bool) (t : Int) : Int × Bool := if 0 ≤ t ∧ t < (T.length : Int) then outW y (rd_T64 T t).f5 (inW y (rd_T64 T t).f3 s) else s
theorem fireS_I (y : List Int) (T : List S64) (s : Int × Bool) (t : Int) (hs : I s.1) : I (fireS y T s t).1 := by
  unfold fireS; split
  · exact outW_I y _ _ (inW_I y _ _ hs)
  · exact hs
def TransW (n : Nat) (T : List S64) : Prop := ∀ t : Int, 0 ≤ t → t < (T.length : Int) → ((∀ a ∈ (rd_T64 T t).f3, ArcW n a) ∧ (rd_T64 T t).f3.length ≤ 1000) ∧ (∀ a ∈ (rd_T64 T t).f5, ArcW n a) ∧ (rd_T64 T t).f5.length ≤ 1000
theorem fire_ev {y : List Int} (hy : ∀ x ∈ y, I x) (P : List S52) {T : List S64} (f : Int) (hT : TransW y.length T) (t : Int) (s : Int × Bool) (hs : I s.1) :
    Ev (fun k => weigh_Watch_Fire.f k P T y f s.1 s.2 t) (f, (fireS y T s t).1, (fireS y T s t).2) := by
  by_cases h0 : t < 0
  · refine ⟨1, fun k hk => ?_⟩
    obtain ⟨k, rfl⟩ : ∃ m, k = m + 1 := ⟨k - 1, by omega⟩
    dsimp only
    unfold weigh_Watch_Fire.f fireS
    rw [if_pos h0, if_neg (by omega)]
    simp only [weigh_Watch_Fire.j0]
    exact if_pos trivial
  by_cases h1 : t < (T.length : Int)
  · obtain ⟨⟨a, al⟩, b, bl⟩ := hT t (by omega) h1
    have h := inW_ev hy P T f a al (by omega) h1 b bl (rd_T64 T t).f3.length 0 s (by omega) hs
    unfold fireS
    rw [if_pos ⟨by omega, h1⟩]
    unfold weigh_Watch_Fire.f
    refine Ev.step (f := fun k => weigh_Watch_Fire.l0 k t (rd_T64 T t).f3 ((rd_T64 T t).f3.length : Int) ((0 : Nat) : Int) P T y f s.1 s.2) (fun k => ?_) h
    rw [if_neg h0]
    simp only [weigh_Watch_Fire.j0]
    rw [if_neg (show ¬ (decide (t ≥ (T.length : Int)) = true) by simp; omega), if_pos (by omega), if_pos h1]; rfl
  · refine ⟨1, fun k hk => ?_⟩
    obtain ⟨k, rfl⟩ : ∃ m, k = m + 1 := ⟨k - 1, by omega⟩
    dsimp only
    unfold weigh_Watch_Fire.f fireS
    rw [if_neg h0, if_neg (by omega)]
    simp only [weigh_Watch_Fire.j0]
    rw [if_pos (show decide (t ≥ (T.length : Int)) = true by simp; omega)]
theorem same_is (P : List S52) (T : List S64) (y : List Int) (f : Int) (s : Int × Bool) : weigh_Watch_Same.f P T y f s.1 s.2 = some (s.2 && (s.1 == f), f, s.1, s.2) := by
  unfold weigh_Watch_Same.f; cases h : s.2 <;> simp [h]
/-- A new watch. -/
def newR (P : List S52) (T : List S64) (y m : List Int) : List S52 × List S64 × List Int × Int × Int × Bool × Int := if (dotS 0 y m).2 = true then (P, T, y, (dotS 0 y m).1, (dotS 0 y m).1, true, 0) else ([], [], [], 0, 0, false, 3)
theorem new_loop {y : List Int} (hy : ∀ x ∈ y, I x) (hyl : y.length ≤ 1000) (P : List S52) (T : List S64) (hP : ∀ p ∈ P, I p.f1) (hPl : P.length ≤ 1000) (d : Nat) :
    ∀ (i : Nat) (acc : List Int), P.length = i + d → (∀ x ∈ acc, I x) → acc.length ≤ i → Ev (fun k => weigh_New.l0 k y acc P (P.length : Int) (i : Int) P T) (newR P T y (acc ++ (P.drop i).map fun p => p.f1)) := by
  induction d with
  | zero =>
    intro i acc hi ha hal
    rw [List.drop_eq_nil_of_le (by omega), List.map_nil, List.append_nil]
    refine Ev.step (f := fun k => (whole_Dot.f k y acc).bind fun q => (if q.2 = true then (some (P, T, y, q.1, q.1, true, 0)) else (some (([] : List (S52)), ([] : List (S64)), ([] : List Int), 0, 0, false, 3)))) (fun k => by simp only [weigh_New.l0]; rw [if_neg (by omega)]) ?_
    refine Ev.bind (dot_ev hy ha (by omega)) ?_
    refine Ev.congr (f := fun _ => some (newR P T y acc)) (fun k => ?_) (Ev.now _)
    unfold newR; split <;> rfl
  | succ d ih =>
    intro i acc hi ha hal
    have hp : rd_T52 P (i : Int) = P[i]'(by omega) := rdP_lt (by omega)
    refine Ev.step (f := fun k => weigh_New.l0 k y (acc ++ [(rd_T52 P (i : Int)).f1]) P (P.length : Int) ((i + 1 : Nat) : Int) P T) (fun k => by simp only [weigh_New.l0]; rw [if_pos (by omega), if_pos (by omega), if_pos (by omega), if_pos (by omega), wrap_succ (by omega)]) ?_
    have e := ih (i + 1) (acc ++ [(rd_T52 P (i : Int)).f1]) (by omega) (fun x hx => ?_) (by simp; omega)
    · rw [List.drop_eq_getElem_cons (by omega : i < P.length), List.map_cons]
      rw [hp, List.append_assoc, List.singleton_append] at e
      exact hp ▸ e
    · rcases List.mem_append.1 hx with h | h
      · exact ha x h
      · rw [List.mem_singleton.1 h, hp]; exact hP _ (List.getElem_mem _)
def newS (P : List S52) (T : List S64) (y : List Int) : List S52 × List S64 × List Int × Int × Int × Bool × Int := if y.length = P.length then newR P T y (P.map fun p => p.f1) else ([], [], [], 0, 0, false, 1)
theorem new_ev {y : List Int} (hy : ∀ x ∈ y, I x) (hyl : y.length ≤ 1000) (P : List S52) (T : List S64) (hP : ∀ p ∈ P, I p.f1) (hPl : P.length ≤ 1000) : Ev (fun k => weigh_New.f k P T y) (newS P T y) := by
  unfold weigh_New.f newS
  by_cases h : y.length = P.length
  · rw [if_pos h]
    have e := new_loop hy hyl P T hP hPl P.length 0 [] (by simp) (by simp) (by simp)
    rw [List.nil_append, List.drop_zero] at e
    refine Ev.congr (fun k => ?_) e
    rw [if_pos (by omega)]; rfl
  · rw [if_neg h]
    refine Ev.congr (fun k => ?_) (Ev.now _)
    rw [if_neg (by omega)]

theorem rdG_lt {l : List S48} {i : Nat} (h : i < l.length) : rd_T48 l (i : Int) = l[i] := by
  unfold rd_T48; rw [Int.toNat_natCast, List.getD_eq_getElem?_getD, List.getElem?_eq_getElem h]; rfl
theorem dropG_cons {l : List S48} {i : Nat} (h : i < l.length) : l.drop i = rd_T48 l (i : Int) :: l.drop (i + 1) := by
  rw [rdG_lt h]; exact List.drop_eq_getElem_cons h
/-- The first firing behind which it weighs something else, counted from i on. -/
def checkS (y : List Int) (T : List S64) (f : Int) : List S48 → Nat → Int × Bool → Int
  | [], _, _ => -1
  | e :: l, i, s => if ((fireS y T s e.f1).2 && ((fireS y T s e.f1).1 == f)) = true then checkS y T f l (i + 1) (fireS y T s e.f1) else (i : Int)
theorem check_loop {y : List Int} (hy : ∀ x ∈ y, I x) (P : List S52) {T : List S64} (f : Int) (hT : TransW y.length T) (l : List S48) (hl : l.length ≤ 100000) (d : Nat) :
    ∀ (i : Nat) (s : Int × Bool), l.length = i + d → I s.1 → Ev (fun k => weigh_Check.l0 k l (l.length : Int) (i : Int) P T y f s.1 s.2) (checkS y T f (l.drop i) i s, 0) := by
  induction d with
  | zero =>
    intro i s hi hs
    rw [List.drop_eq_nil_of_le (by omega)]
    exact Ev.step (f := fun _ => some (-1, 0)) (fun k => by simp only [weigh_Check.l0]; rw [if_neg (by omega)]) (Ev.now _)
  | succ d ih =>
    intro i s hi hs
    rw [dropG_cons (by omega)]
    refine Ev.step (f := fun k => (weigh_Watch_Fire.f k P T y f s.1 s.2 ((rd_T48 l (i : Int)).f1)).bind fun b => ((weigh_Watch_Same.f P T y b.1 b.2.1 b.2.2).bind fun c => (if c.1 = true then (weigh_Check.l0 k l (l.length : Int) ((i + 1 : Nat) : Int) P T y c.2.1 c.2.2.1 c.2.2.2) else (some ((i : Int), 0))))) (fun k => by simp only [weigh_Check.l0]; rw [if_pos (by omega), if_pos (by omega), if_pos (by omega), wrap_succ (by omega)]) ?_
    refine Ev.bind (fire_ev hy P f hT _ s hs) ?_
    simp only [same_is, Option.bind_some, checkS]
    split
    · exact ih (i + 1) _ (by omega) (fireS_I y T s _ hs)
    · exact Ev.now _
def checkR (P : List S52) (T : List S64) (y : List Int) (l : List S48) : Int × Int := if (newS P T y).2.2.2.2.2.2 = 0 then (checkS y T (newS P T y).2.2.2.1 l 0 ((newS P T y).2.2.2.1, true), 0) else (-1, (newS P T y).2.2.2.2.2.2)
theorem newS_ok {P : List S52} {T : List S64} {y : List Int} (h : (newS P T y).2.2.2.2.2.2 = 0) : y.length = P.length ∧ (dotS 0 y (P.map fun p => p.f1)).2 = true ∧ newS P T y = (P, T, y, (dotS 0 y (P.map fun p => p.f1)).1, (dotS 0 y (P.map fun p => p.f1)).1, true, 0) := by
  unfold newS at h ⊢
  by_cases e : y.length = P.length
  · rw [if_pos e] at h ⊢
    unfold newR at h ⊢
    by_cases g : (dotS 0 y (P.map fun p => p.f1)).2 = true
    · rw [if_pos g]; exact ⟨e, g, rfl⟩
    · rw [if_neg g] at h; exact absurd h (by decide)
  · rw [if_neg e] at h; exact absurd h (by decide)
theorem check_ev {y : List Int} (hy : ∀ x ∈ y, I x) (hyl : y.length ≤ 1000) (P : List S52) {T : List S64} (hP : ∀ p ∈ P, I p.f1) (hPl : P.length ≤ 1000) (hT : y.length = P.length → TransW y.length T) (l : List S48) (hl : l.length ≤ 100000) :
    Ev (fun k => weigh_Check.f k P T y l) (checkR P T y l) := by
  unfold weigh_Check.f
  refine Ev.bind (new_ev hy hyl P T hP hPl) ?_
  unfold checkR
  by_cases h : (newS P T y).2.2.2.2.2.2 = 0
  · rw [if_pos h]
    obtain ⟨e, g, hn⟩ := newS_ok h
    simp only [hn, if_true]
    have h2 := check_loop hy P (dotS 0 y (P.map fun p => p.f1)).1 (hT e) l hl l.length 0 ((dotS 0 y (P.map fun p => p.f1)).1, true) (by simp) (dotS_I _ _ _ (by decide))
    exact h2
  · rw [if_neg h]
    refine Ev.congr (fun k => ?_) (Ev.now _)
    rw [if_neg h]

theorem netW {P : List S52} {T : List S64} (h : NetOk P T) : TransW P.length T := by
  intro t h0 h1
  obtain ⟨i, rfl⟩ := Int.eq_ofNat_of_zero_le h0
  have ht := h.trs _ (rdTr_mem (l := T) (i := i) (by omega))
  refine ⟨⟨fun a ha => ?_, by have := ht.2.2.1.1; omega⟩, fun a ha => ?_, by have := ht.2.2.2.2.1; omega⟩
  · have := ht.2.2.1.2.1 a ha; exact ⟨by unfold I; omega, this.1, this.2.1⟩
  · have := ht.2.2.2.2.2.1 a ha; exact ⟨by unfold I; omega, this.1, this.2.1⟩
theorem tokI {P : List S52} {T : List S64} (h : NetOk P T) : ∀ p ∈ P, I p.f1 := fun p hp => by have := h.tok p hp; unfold I; omega
theorem takeP_snoc {l : List S52} {i : Nat} (h : i < l.length) : (l.take i).map (fun p => p.f1) ++ [(rd_T52 l (i : Int)).f1] = (l.take (i + 1)).map fun p => p.f1 := by
  rw [List.take_succ_eq_append_getElem h, List.map_append, rdP_lt h]; rfl

theorem few_ev (l : List Int) (m : List S83) : ∃ b, marblerunlaw13_few.f l m = some b ∧ (b = true → l.length ≤ 60 ∧ m.length ≤ 12) := by
  unfold marblerunlaw13_few.f
  by_cases h : (l.length : Int) ≤ 60
  · rw [if_pos h]
    refine ⟨_, rfl, fun hb => ?_⟩
    have := of_decide_eq_true hb
    omega
  · rw [if_neg h]; exact ⟨false, rfl, fun hb => by simp at hb⟩

theorem awake_ev : Ev (fun k => marblerunlaw13_awake.f k) true := Ev.of (k := 40) marblerunlaw13_awake.mono (by kernel_rfl)

set_option linter.unusedSectionVars false
section
variable {P : List S52} {T : List S64} (hN : NetOk P T) {y : List Int} (hy : ∀ x ∈ y, I x) (hyl : y.length ≤ 20) (t : Int)
include hN hy hyl
theorem errs_j3 (b : Bool) (hb : b = true → ¬ (0 ≤ t ∧ t < (T.length : Int))) (hyP : y.length = P.length) (d : Int) (hd : I d) : Ev (fun k => marblerunlaw13_WeighErrs.j3 k t b P T y d d true) true := by
  cases b with
  | false => exact Ev.step (f := fun _ => some true) (fun k => by simp only [marblerunlaw13_WeighErrs.j3]; rfl) (Ev.now _)
  | true =>
    refine Ev.step (f := fun k => (weigh_Watch_Fire.f k P T y d d true t).bind fun bt304 => ((weigh_Watch_Same.f P T y bt304.1 bt304.2.1 bt304.2.2).bind fun bt307 => (if bt307.1 = true then some true else (some false)))) (fun k => by simp only [marblerunlaw13_WeighErrs.j3]; rfl) ?_
    have f0 := fire_ev hy P (T := T) d (by rw [hyP]; exact netW hN) t (d, true) hd
    have e : fireS y T (d, true) t = (d, true) := by unfold fireS; rw [if_neg (hb rfl)]
    rw [e] at f0
    refine Ev.bind f0 ?_
    have s1 := same_is P T y d (d, true)
    dsimp only at s1
    simp only [s1, Option.bind_some, beq_self_eq_true, Bool.and_self, if_true]
    exact Ev.now _
theorem errs_j2 (hyP : y.length = P.length) (d : Int) (hd : I d) : Ev (fun k => marblerunlaw13_WeighErrs.j2 k t false P T P T y d d true) true := by
  by_cases h : t < 0
  · exact Ev.step (fun k => by simp only [marblerunlaw13_WeighErrs.j2]; rw [if_neg (by simp), if_pos h]) (errs_j3 hN hy hyl t true (fun _ => by omega) hyP d hd)
  · exact Ev.step (fun k => by simp only [marblerunlaw13_WeighErrs.j2]; rw [if_neg (by simp), if_neg h]) (errs_j3 hN hy hyl t (decide (t ≥ (T.length : Int))) (fun hb => by have := of_decide_eq_true hb; omega) hyP d hd)
theorem errs_l0 (hyP : y.length = P.length) (ho : (dotS 0 y (P.map fun p => p.f1)).2 = true) (d : Int) (hd : I d) (n : Nat) :
    ∀ i : Nat, P.length = i + n → Ev (fun k => marblerunlaw13_WeighErrs.l0 k y t 0 (-1) 0 ((P.take i).map fun p => p.f1) (i : Int) P T P T y d d true) true := by
  have hP := hN.p7
  induction n with
  | zero =>
    intro i hi
    rw [List.take_of_length_le (by omega)]
    refine Ev.step (f := fun k => (marblerunref01_Dot.f k y (P.map fun p => p.f1)).bind fun bt302 => (if bt302.2 = true then (marblerunlaw13_WeighErrs.j2 k t false P T P T y d d true) else (some false))) (fun k => by simp only [marblerunlaw13_WeighErrs.l0]; rw [if_neg (by omega)]; rfl) ?_
    refine Ev.bind (rdot_ev hy (fun x hx => ?_) (by omega)) ?_
    · obtain ⟨p, hp, rfl⟩ := List.mem_map.1 hx; exact tokI hN p hp
    · simp only [ho, if_true]
      exact errs_j2 hN hy hyl t hyP d hd
  | succ n ih =>
    intro i hi
    refine Ev.step (fun k => ?_) (ih (i + 1) (by omega))
    simp only [marblerunlaw13_WeighErrs.l0]
    rw [if_pos (by omega), if_pos (by omega), if_pos (by simp; omega), wrap_succ (by omega), takeP_snoc (by omega)]
theorem errs_l100 (hyP : y.length = P.length) (ho : ¬ (dotS 0 y (P.map fun p => p.f1)).2 = true) (n : Nat) :
    ∀ i : Nat, P.length = i + n → Ev (fun k => marblerunlaw13_WeighErrs.l100 k y t 3 (-1) 3 ((P.take i).map fun p => p.f1) (i : Int) P T) true := by
  have hP := hN.p7
  induction n with
  | zero =>
    intro i hi
    rw [List.take_of_length_le (by omega)]
    refine Ev.step (f := fun k => (marblerunref01_Dot.f k y (P.map fun p => p.f1)).bind fun bt302 => (if bt302.2 = true then (marblerunlaw13_WeighErrs.j5 k t true P T) else (some true))) (fun k => by simp only [marblerunlaw13_WeighErrs.l100]; rw [if_neg (by omega)]; rfl) ?_
    refine Ev.bind (rdot_ev hy (fun x hx => ?_) (by omega)) ?_
    · obtain ⟨p, hp, rfl⟩ := List.mem_map.1 hx; exact tokI hN p hp
    · simp only [if_neg ho]
      exact Ev.now _
  | succ n ih =>
    intro i hi
    refine Ev.step (fun k => ?_) (ih (i + 1) (by omega))
    simp only [marblerunlaw13_WeighErrs.l100]
    rw [if_pos (by omega), if_pos (by omega), if_pos (by simp; omega), wrap_succ (by omega), takeP_snoc (by omega)]
end
theorem errs_j0 (b : Bool) (l : List Int) (a : List S83) (y : List Int) (t : Int) (hy : ∀ x ∈ y, I x) (hb : b = false → y.length ≤ 20 ∧ l.length ≤ 60) (hlb : ∀ q ∈ l, By q) (hab : ∀ x ∈ a, ActBy x) :
    Ev (fun k => marblerunlaw13_WeighErrs.j0 k y t b l a) true := by
  cases b with
  | true => exact Ev.step (f := fun k => (marblerunlaw13_awake.f k).bind fun t278 => (some t278)) (fun k => by simp only [marblerunlaw13_WeighErrs.j0]; rfl) (Ev.bind awake_ev (Ev.now _))
  | false =>
    obtain ⟨hyl, hll⟩ := hb rfl
    obtain ⟨P, T, hmk, hN⟩ := make_ev l a hlb (by omega) hab
    have hP7 := hN.p7
    have hnew := new_ev hy (by omega) P T (tokI hN) (by omega)
    have hck := check_ev hy (by omega) P (T := T) (tokI hN) (by omega) (fun e => by rw [e]; exact netW hN) [] (by simp)
    refine Ev.step (fun k => by simp only [marblerunlaw13_WeighErrs.j0]; rw [if_neg (by simp)]) ?_
    refine Ev.bind hmk ?_
    refine Ev.bind hnew ?_
    by_cases hl : y.length = P.length
    · by_cases ho : (dotS 0 y (P.map fun p => p.f1)).2 = true
      · have en : newS P T y = (P, T, y, (dotS 0 y (P.map fun p => p.f1)).1, (dotS 0 y (P.map fun p => p.f1)).1, true, 0) := by
          unfold newS newR; rw [if_pos hl, if_pos ho]
        have ec : checkR P T y [] = (-1, 0) := by unfold checkR; rw [en]; rfl
        rw [ec] at hck
        simp only [en, if_true]
        refine Ev.bind hck ?_
        simp only [if_pos (show (y.length : Int) = (P.length : Int) by omega)]
        exact errs_l0 hN hy hyl t hl ho _ (dotS_I _ _ _ (by decide)) P.length 0 (by simp)
      · have en : newS P T y = ([], [], [], 0, 0, false, 3) := by
          unfold newS newR; rw [if_pos hl, if_neg ho]
        have ec : checkR P T y [] = (-1, 3) := by unfold checkR; rw [en]; rfl
        rw [ec] at hck
        simp only [en]
        rw [show (fun k => (if (3 : Int) = 0 then _ else _ : Option Bool)) = _ from funext fun k => if_neg (by decide)]
        refine Ev.bind hck ?_
        simp only [if_pos (show (y.length : Int) = (P.length : Int) by omega)]
        exact errs_l100 hN hy hyl t hl ho P.length 0 (by simp)
    · have en : newS P T y = ([], [], [], 0, 0, false, 1) := by
        unfold newS; rw [if_neg hl]
      have ec : checkR P T y [] = (-1, 1) := by unfold checkR; rw [en]; rfl
      rw [ec] at hck
      simp only [en]
      rw [show (fun k => (if (1 : Int) = 0 then _ else _ : Option Bool)) = _ from funext fun k => if_neg (by decide)]
      refine Ev.bind hck ?_
      simp only [if_neg (show ¬ (y.length : Int) = (P.length : Int) by omega)]
      exact Ev.now _
theorem WeighErrs : ∀ (l0 : List Int) (m0 : List S83) (l1 : List Int) (a2 : Int), l0.length ≤ maxLen → (∀ q ∈ l0, (Lit.int .u8 q).wf = true) → m0.length ≤ maxLen → (∀ a ∈ m0, (Lit.int .u8 a.f0).wf = true ∧ (Lit.int .u8 a.f1).wf = true ∧ (Lit.int .u8 a.f2).wf = true ∧ (Lit.int .u8 a.f3).wf = true ∧ (Lit.int .u8 a.f4).wf = true ∧ (Lit.int .u8 a.f5).wf = true ∧ (Lit.int .u8 a.f6).wf = true) → l1.length ≤ maxLen → (∀ q ∈ l1, (Lit.int .i64 q).wf = true) → (Lit.int .i64 a2).wf = true → ∃ k, marblerunlaw13_WeighErrs.f k l0 m0 l1 a2 = some true := by
  intro l a y t hl hlb ha hab hyl hyb ht
  refine Ev.rounds ?_
  have hlb' : ∀ q ∈ l, By q := fun q hq => by_of_wf (hlb q hq)
  have hab' : ∀ x ∈ a, ActBy x := fun x hx => by
    obtain ⟨h0, h1, h2, h3, h4, h5, h6⟩ := hab x hx
    exact ⟨by_of_wf h0, by_of_wf h1, by_of_wf h2, by_of_wf h3, by_of_wf h4, by_of_wf h5, by_of_wf h6⟩
  have hyb' : ∀ x ∈ y, I x := fun x hx => I_of_wf (hyb x hx)
  obtain ⟨b, hb, hfew⟩ := few_ev l a
  unfold marblerunlaw13_WeighErrs.f
  refine Ev.bind awake_ev ?_
  simp only [if_true, hb, Option.bind_some]
  cases b with
  | true =>
    simp only [if_true]
    refine errs_j0 _ l a y t hyb' (fun h => ?_) hlb' hab'
    have := hfew rfl
    have := of_decide_eq_false h
    omega
  | false =>
    simp only [Bool.false_eq_true, if_false]
    exact errs_j0 true l a y t hyb' (fun h => by simp at h) hlb' hab'
end Go.Proofs.Ytigpmhicdmjbeaa.Pure
