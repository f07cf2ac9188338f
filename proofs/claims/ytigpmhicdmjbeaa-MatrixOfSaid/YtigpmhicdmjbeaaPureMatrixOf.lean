/- The plain law of the statement MatrixOf: a net that Make makes has a matrix of what its transitions change, turned and turned again; no condition. -/
import Derived.Test.YtigpmhicdmjbeaaPMatrixOfx
import Derived.Laws.BitsLemmas
import Derived.KernelRfl
set_option linter.unusedVariables false
set_option linter.unusedSimpArgs false
namespace Go.Proofs.Ytigpmhicdmjbeaa.M
open Go.RowKit Go.Proofs.YtigpmhicdmjbeaaW.PrintWords
/-- A number of 64 bits. -/
def I (x : Int) : Prop := -9223372036854775808 ≤ x ∧ x ≤ 9223372036854775807
instance (x : Int) : Decidable (I x) := by unfold I; infer_instance
theorem I_of_wf {x : Int} (h : (Lit.int .i64 x).wf = true) : I x := by
  simp [Lit.wf, IntKind.min, IntKind.max, IntKind.bits, IntKind.signed] at h
  unfold I; omega
theorem wrap_id {x : Int} (h : I x) : wrap64 x = x := by unfold I at h; unfold wrap64; omega
theorem wrap_I (x : Int) : I (wrap64 x) := by unfold wrap64 I; omega
theorem wrap_add {x : Int} {n : Nat} (h0 : 0 ≤ x) (h1 : x < (n : Int)) (hn : n ≤ 9223372036854775807) : wrap64 (x + 1) = x + 1 := wrap_id (by unfold I; omega)
theorem u64 (x : Int) : IntKind.u64.wrap x = x % 18446744073709551616 := by simp [IntKind.wrap, IntKind.bits, IntKind.signed]
theorem wraps_u64 (n : Int) (h₀ : 0 ≤ n) (h₁ : n < 2 ^ 64) : IntKind.u64.wrap n = n := by rw [u64]; omega
theorem and32 (x : Int) (h₀ : 0 ≤ x) (h₁ : x < 18446744073709551616) : bits .and .u64 x 4294967295 = x % 4294967296 :=
  bits_mask .u64 64 (by decide) wraps_u64 32 (by decide) x h₀ (by omega)
/-- What a number is without its sign. -/
def ab (x : Int) : Int := if x < 0 then -x else x
theorem ab_nat (x : Int) : ab x = (x.natAbs : Int) := by unfold ab; omega
/-- A sum that is a number of 64 bits, or none. -/
def addS (a b : Int) : Int × Bool := if I (a + b) then (a + b, true) else (0, false)
/-- A product likewise. -/
def mulS (a b : Int) : Int × Bool := if I (a * b) then (a * b, true) else (0, false)
/-- A sum of products likewise, from a first sum on. -/
def dotS : Int → List Int → List Int → Int × Bool
  | s, a :: xs, b :: ys => if I (a * b) then (if I (s + a * b) then dotS (s + a * b) xs ys else (0, false)) else (0, false)
  | s, _, _ => (s, true)
theorem hi_lo {x y p0 p1 q0 q1 : Int} (hx : x = p1 * 4294967296 + p0) (hy : y = q1 * 4294967296 + q0) :
    x * y = p1 * q1 * 18446744073709551616 + (p1 * q0 + p0 * q1) * 4294967296 + p0 * q0 := by
  subst hx hy; simp only [Int.add_mul, Int.mul_add]
  have e1 : p1 * 4294967296 * (q1 * 4294967296) = p1 * q1 * 18446744073709551616 := by
    rw [Int.mul_assoc, Int.mul_left_comm 4294967296, ← Int.mul_assoc]; rfl
  have e2 : p0 * (q1 * 4294967296) = p0 * q1 * 4294967296 := by rw [Int.mul_assoc]
  have e3 : p1 * 4294967296 * q0 = p1 * q0 * 4294967296 := by rw [Int.mul_assoc, Int.mul_comm 4294967296, ← Int.mul_assoc]
  rw [e1, e2, e3]; omega
theorem mul_le32 {x y : Int} (hx0 : 0 ≤ x) (hx : x ≤ 4294967295) (hy0 : 0 ≤ y) (hy : y ≤ 4294967295) : 0 ≤ x * y ∧ x * y ≤ 18446744065119617025 := by
  refine ⟨Int.mul_nonneg hx0 hy0, ?_⟩
  have := Int.mul_le_mul hx hy hy0 (by omega)
  omega
theorem rd_lt {xs : List Int} {i : Int} (h0 : 0 ≤ i) (h1 : i < (xs.length : Int)) : rd xs i = xs[i.toNat]'(by omega) := by
  unfold rd; rw [List.getD_eq_getElem?_getD, List.getElem?_eq_getElem (by omega)]; rfl
theorem rd_mem {xs : List Int} {i : Int} (h0 : 0 ≤ i) (h1 : i < (xs.length : Int)) : rd xs i ∈ xs := by rw [rd_lt h0 h1]; exact List.getElem_mem _
end Go.Proofs.Ytigpmhicdmjbeaa.M

namespace Go.Proofs.Ytigpmhicdmjbeaa.M
open Go.RowKit Go.Proofs.YtigpmhicdmjbeaaW.PrintWords
/-- A number of 64 bits above the least one. -/
def J (x : Int) : Prop := -9223372036854775807 ≤ x ∧ x ≤ 9223372036854775807
theorem J.i {x : Int} (h : J x) : I x := by unfold J at h; unfold I; omega
theorem J.nat {x : Int} (h : J x) : x.natAbs ≤ 9223372036854775807 := by unfold J at h; omega
/-- The greatest common divisor of g and all of a list. -/
def gl (g : Nat) (l : List Int) : Nat := l.foldl (fun g x => Nat.gcd g x.natAbs) g
theorem gl_cons (g : Nat) (x : Int) (l : List Int) : gl g (x :: l) = gl (Nat.gcd g x.natAbs) l := rfl
theorem gl_append (g : Nat) (l m : List Int) : gl g (l ++ m) = gl (gl g l) m := by unfold gl; rw [List.foldl_append]
theorem gl_gcd (l : List Int) : ∀ g, gl g l = Nat.gcd g (gl 0 l) := by
  induction l with
  | nil => intro g; simp [gl]
  | cons x l ih => intro g; rw [gl_cons, gl_cons, ih, ih (Nat.gcd 0 _), Nat.gcd_zero_left, Nat.gcd_assoc]
theorem gl_dvd (l : List Int) : ∀ x ∈ l, (gl 0 l) ∣ x.natAbs := by
  induction l with
  | nil => intro x h; simp at h
  | cons a l ih =>
    intro x h
    rw [gl_cons, gl_gcd, Nat.gcd_zero_left]
    rcases List.mem_cons.1 h with rfl | h
    · exact Nat.gcd_dvd_left _ _
    · exact Nat.dvd_trans (Nat.gcd_dvd_right _ _) (ih x h)
theorem gl_le (l : List Int) (h : ∀ x ∈ l, J x) : ∀ g, g ≤ 9223372036854775807 → gl g l ≤ 9223372036854775807 := by
  induction l with
  | nil => intro g hg; exact hg
  | cons a l ih =>
    intro g hg
    rw [gl_cons]
    refine ih (fun x hx => h x (List.mem_cons_of_mem _ hx)) _ ?_
    have ha := (h a (List.mem_cons_self ..)).nat
    rcases Nat.eq_zero_or_pos g with e | e
    · subst e; rw [Nat.gcd_zero_left]; exact ha
    · exact Nat.le_trans (Nat.gcd_le_left _ e) hg
theorem gl_mul (c : Nat) (l : List Int) : ∀ g, gl (c * g) (l.map fun x => (c : Int) * x) = c * gl g l := by
  induction l with
  | nil => intro g; rfl
  | cons a l ih =>
    intro g
    rw [List.map_cons, gl_cons, gl_cons, Int.natAbs_mul, Int.natAbs_natCast, Nat.gcd_mul_left, ih]
theorem gl_neg (l : List Int) : ∀ g, gl g (l.map fun x => -x) = gl g l := by
  induction l with
  | nil => intro g; rfl
  | cons a l ih => intro g; rw [List.map_cons, gl_cons, gl_cons, Int.natAbs_neg, ih]
/-- A vector by the greatest number that all have. -/
def normS (l : List Int) : List Int := if 1 < gl 0 l then l.map (fun x => Int.tdiv x (gl 0 l : Int)) else l
theorem normS_length (l : List Int) : (normS l).length = l.length := by unfold normS; split <;> simp
theorem back_of (l : List Int) : (normS l).map (fun x => (gl 0 l : Int) * x) = if 0 < gl 0 l then l else l.map (fun _ => 0) := by
  unfold normS
  split
  · rename_i h
    rw [if_pos (by omega), List.map_map]
    conv => rhs; rw [← List.map_id l]
    refine List.map_congr_left fun x hx => ?_
    have hd : (gl 0 l : Int) ∣ x := Int.ofNat_dvd_left.2 (gl_dvd l x hx)
    simp only [Function.comp, id]
    exact Int.mul_tdiv_cancel' hd
  · rename_i h
    split
    · have e : gl 0 l = 1 := by omega
      rw [e]; simp
    · have e : gl 0 l = 0 := by omega
      rw [e]; simp
theorem zero_of {l : List Int} (h : gl 0 l = 0) : ∀ x ∈ l, x = 0 := by
  intro x hx
  have := gl_dvd l x hx
  rw [h] at this
  have := Nat.eq_zero_of_zero_dvd this
  omega
/-- The vector so made has nothing more. -/
theorem gl_norm (l : List Int) (hp : 0 < gl 0 l) : gl 0 (normS l) = 1 := by
  have h1 := gl_mul (gl 0 l) (normS l) 0
  rw [back_of, if_pos hp, Nat.mul_zero] at h1
  have h2 : gl 0 l * 1 = gl 0 l * gl 0 (normS l) := by rw [Nat.mul_one]; exact h1
  exact (Nat.eq_of_mul_eq_mul_left hp h2).symm
theorem gl_norm_le (l : List Int) : gl 0 (normS l) ≤ 1 := by
  rcases Nat.eq_zero_or_pos (gl 0 l) with e | e
  · unfold normS; rw [if_neg (by omega), e]; omega
  · rw [gl_norm l e]; omega
theorem normS_idem (l : List Int) : normS (normS l) = normS l := by
  have h := gl_norm_le l
  generalize hm : normS l = m at *
  unfold normS; rw [if_neg (by omega)]
theorem tdiv_J {x : Int} {g : Nat} (h : J x) : J (Int.tdiv x (g : Int)) := by
  have h1 : (Int.tdiv x (g : Int)).natAbs ≤ x.natAbs := by
    rw [Int.natAbs_tdiv]; exact Nat.div_le_self _ _
  unfold J at *; omega
theorem normS_J {l : List Int} (h : ∀ x ∈ l, J x) : ∀ x ∈ normS l, J x := by
  unfold normS
  split
  · intro x hx
    obtain ⟨y, hy, rfl⟩ := List.mem_map.1 hx
    exact tdiv_J (h y hy)
  · exact h
theorem normS_neg (l : List Int) : normS (l.map fun x => -x) = (normS l).map fun x => -x := by
  unfold normS
  rw [gl_neg]
  split
  · simp only [List.map_map]
    refine List.map_congr_left fun x _ => ?_
    simp only [Function.comp, Int.neg_tdiv]
  · rfl
end Go.Proofs.Ytigpmhicdmjbeaa.M

namespace Go.Proofs.Ytigpmhicdmjbeaa.Pure
open Go.RowKit Go.Proofs.Ytigpmhicdmjbeaa.PMatrixOf Go.Proofs.YtigpmhicdmjbeaaW.PrintWords Go.Proofs.YtigpmhicdmjbeaaW.PrintLast Go.Proofs.YtigpmhicdmjbeaaW.PrintMore Go.Proofs.Ytigpmhicdmjbeaa.M
/-- A byte. -/
def By (x : Int) : Prop := 0 ≤ x ∧ x ≤ 255
theorem by_of_wf {x : Int} (h : (Lit.int .u8 x).wf = true) : By x := by
  simp [Lit.wf, IntKind.min, IntKind.max, IntKind.bits, IntKind.signed] at h
  unfold By; omega
/-- Arcs that may be, of n places. -/
def ArcsOk (n : Nat) (l : List S66) : Prop := l.length ≤ 2 ∧ (∀ a ∈ l, 0 ≤ a.f0 ∧ a.f0 < (n : Int) ∧ 1 ≤ a.f1 ∧ a.f1 ≤ 4) ∧ l.Pairwise fun a b => a.f0 ≠ b.f0
/-- A transition that may be. -/
def TrOk (n : Nat) (t : S64) : Prop := (0 ≤ t.f1 ∧ t.f1 ≤ 4) ∧ (0 ≤ t.f2 ∧ t.f2 ≤ 2) ∧ ArcsOk n t.f3 ∧ ArcsOk n t.f4 ∧ ArcsOk n t.f5
/-- A net that Make makes. -/
structure NetOk (P : List S52) (T : List S64) : Prop where
  p1 : 1 ≤ P.length
  p7 : P.length ≤ 7
  t9 : T.length ≤ 9
  tok : ∀ p ∈ P, 0 ≤ p.f1 ∧ p.f1 ≤ 4
  trs : ∀ t ∈ T, TrOk P.length t
theorem rdA_lt {l : List S66} {i : Nat} (h : i < l.length) : rd_T66 l (i : Int) = l[i] := by
  unfold rd_T66; rw [Int.toNat_natCast, List.getD_eq_getElem?_getD, List.getElem?_eq_getElem h]; rfl
theorem rdA_mem {l : List S66} {i : Nat} (h : i < l.length) : rd_T66 l (i : Int) ∈ l := by rw [rdA_lt h]; exact List.getElem_mem _
theorem dropA_cons {l : List S66} {i : Nat} (h : i < l.length) : l.drop i = rd_T66 l (i : Int) :: l.drop (i + 1) := by
  rw [rdA_lt h]; exact List.drop_eq_getElem_cons h
theorem rdT_lt {l : List S64} {i : Nat} (h : i < l.length) : rd_T64 l (i : Int) = l[i] := by
  unfold rd_T64; rw [Int.toNat_natCast, List.getD_eq_getElem?_getD, List.getElem?_eq_getElem h]; rfl
theorem rdT_mem {l : List S64} {i : Nat} (h : i < l.length) : rd_T64 l (i : Int) ∈ l := by rw [rdT_lt h]; exact List.getElem_mem _
theorem rdP_lt {l : List S52} {i : Nat} (h : i < l.length) : rd_T52 l (i : Int) = l[i] := by
  unfold rd_T52; rw [Int.toNat_natCast, List.getD_eq_getElem?_getD, List.getElem?_eq_getElem h]; rfl
theorem rdP_mem {l : List S52} {i : Nat} (h : i < l.length) : rd_T52 l (i : Int) ∈ l := by rw [rdP_lt h]; exact List.getElem_mem _
theorem rdC_mem {l : List S83} {i : Nat} (h : i < l.length) : rd_T83 l (i : Int) ∈ l := by
  have : rd_T83 l (i : Int) = l[i] := by
    unfold rd_T83; rw [Int.toNat_natCast, List.getD_eq_getElem?_getD, List.getElem?_eq_getElem h]; rfl
  rw [this]; exact List.getElem_mem _
theorem wrap_succ {i : Nat} (h : i < 1000000) : wrap64 ((i : Int) + 1) = ((i + 1 : Nat) : Int) := by rw [wrap_add (n := 1000001) (by omega) (by omega) (by omega)]; rfl

/-- One more arc, if its place isn't there. -/
def putS (l : List S66) (p n : Int) : List S66 := if l.any (fun a => a.f0 == p) then l else l ++ [⟨p, n⟩]
theorem put_loop (l : List S66) (p n : Int) (hl : l.length ≤ 1000) (d : Nat) :
    ∀ i : Nat, l.length = i + d → Ev (fun k => marblerunref05_put.l0 k l p n (i : Int)) (if (l.drop i).any (fun a => a.f0 == p) then l else l ++ [⟨p, n⟩]) := by
  induction d with
  | zero =>
    intro i hi
    rw [List.drop_eq_nil_of_le (by omega)]
    exact Ev.step (f := fun _ => some (l ++ [⟨p, n⟩])) (fun k => by simp only [marblerunref05_put.l0]; rw [if_neg (by omega), if_pos (by omega)]) (Ev.now _)
  | succ d ih =>
    intro i hi
    rw [dropA_cons (by omega), List.any_cons]
    by_cases h : (rd_T66 l (i : Int)).f0 = p
    · refine Ev.step (f := fun _ => some l) (fun k => by simp only [marblerunref05_put.l0]; rw [if_pos (by omega), if_pos (by omega), if_pos h]) ?_
      rw [if_pos (by simp [h])]; exact Ev.now _
    · refine Ev.step (f := fun k => marblerunref05_put.l0 k l p n ((i + 1 : Nat) : Int)) (fun k => ?_) ?_
      · simp only [marblerunref05_put.l0]; rw [if_pos (by omega), if_pos (by omega), if_neg h, wrap_add (n := l.length) (by omega) (by omega) (by omega)]; rfl
      · have := ih (i + 1) (by omega)
        simpa [h] using this
theorem put_ev (l : List S66) (p n : Int) (hl : l.length ≤ 1000) : Ev (fun k => marblerunref05_put.f k l p n) (putS l p n) := by
  have := put_loop l p n hl l.length 0 (by simp)
  rw [List.drop_zero] at this
  exact this
theorem put_len (l : List S66) (p n : Int) : (putS l p n).length ≤ l.length + 1 := by unfold putS; split <;> simp
theorem arcs_put {m : Nat} {l : List S66} {p n : Int} (h : ArcsOk m l) (hl : l.length ≤ 1) (hp : 0 ≤ p ∧ p < (m : Int)) (hn : 1 ≤ n ∧ n ≤ 4) : ArcsOk m (putS l p n) := by
  obtain ⟨h1, h2, h3⟩ := h
  refine ⟨by have := put_len l p n; omega, fun a ha => ?_, ?_⟩
  · unfold putS at ha
    split at ha
    · exact h2 a ha
    · rcases List.mem_append.1 ha with q | q
      · exact h2 a q
      · rw [List.mem_singleton.1 q]; exact ⟨hp.1, hp.2, hn.1, hn.2⟩
  · unfold putS
    split
    · exact h3
    · rename_i hq
      refine List.pairwise_append.2 ⟨h3, List.pairwise_singleton _ _, fun a ha b hb => ?_⟩
      rw [List.mem_singleton.1 hb]
      intro e
      exact hq (List.any_eq_true.2 ⟨a, ha, by simp [e]⟩)
theorem arcs_nil (m : Nat) : ArcsOk m [] := ⟨by simp, fun a ha => by simp at ha, List.Pairwise.nil⟩
theorem str1 (x : Int) : 1 + (strOfNums [x]).size ≤ 9223372036854775807 := by show 1 + 1 ≤ _; omega
theorem str2 (x : Int) : 1 + (strOfNums [x]).size + 2 ≤ 9223372036854775807 := by show 1 + 1 + 2 ≤ _; omega
theorem tmod_by {x : Int} {n : Nat} (h : By x) (hn : 1 ≤ n) : 0 ≤ Int.tmod (wrap64 x) (n : Int) ∧ Int.tmod (wrap64 x) (n : Int) < (n : Int) := by
  unfold By at h
  rw [wrap_id (by unfold I; omega), Int.tmod_eq_emod_of_nonneg h.1]
  exact ⟨Int.emod_nonneg _ (by omega), Int.emod_lt_of_pos _ (by omega)⟩
theorem mod_by (d : Int) {n : Nat} (hn : 1 ≤ n) : 0 ≤ d % 256 % (n : Int) ∧ d % 256 % (n : Int) < (n : Int) := ⟨Int.emod_nonneg _ (by omega), Int.emod_lt_of_pos _ (by omega)⟩
/-- An act of bytes. -/
def ActBy (x : S83) : Prop := By x.f0 ∧ By x.f1 ∧ By x.f2 ∧ By x.f3 ∧ By x.f4 ∧ By x.f5 ∧ By x.f6
section
variable (l : List Int) (m : List S83) (P : List S52) (hm : ∀ a ∈ m, ActBy a) (hml : m.length ≤ 1000) (hp1 : 1 ≤ P.length) (hp7 : P.length ≤ 7) (htok : ∀ p ∈ P, 0 ≤ p.f1 ∧ p.f1 ≤ 4)
/-- What is told of the rest of the run. -/
def Rest (i : Nat) : Prop := ∀ T : List S64, T.length = i → (∀ t ∈ T, TrOk P.length t) → ∃ T', Ev (fun k => marblerunref05_Make.l1 k (P.length : Int) (i : Int) l m P T) (P, T') ∧ T'.length ≤ 9 ∧ ∀ t ∈ T', TrOk P.length t
theorem make_j6 (i : Nat) (hi : i < 9) (hrest : Rest l m P (i + 1)) (T : List S64) (hT : T.length = i) (hok : ∀ t ∈ T, TrOk P.length t) (x : S83) (hx : ActBy x) (s : ByteArray) (dl pr : Int) (hd : 0 ≤ dl ∧ dl ≤ 4) (hpr : 0 ≤ pr ∧ pr ≤ 2) (a b c : List S66)
    (ha : ArcsOk P.length a) (hb : ArcsOk P.length b) (hc : ArcsOk P.length c) :
    ∃ T', Ev (fun k => marblerunref05_Make.j6 k (P.length : Int) (i : Int) l m P T x.f0 x.f1 x.f2 x.f3 x.f4 x.f5 x.f6 s dl pr a b c) (P, T') ∧ T'.length ≤ 9 ∧ ∀ t ∈ T', TrOk P.length t := by
  have ew : wrap64 ((i : Int) + 1) = ((i + 1 : Nat) : Int) := by rw [wrap_add (n := 9) (by omega) (by omega) (by omega)]; rfl
  have nxt : ∀ q : Int, 0 ≤ q ∧ q ≤ 4 → ∃ T', Ev (fun k => marblerunref05_Make.l1 k (P.length : Int) (wrap64 ((i : Int) + 1)) l m P (T ++ [(⟨s, q, pr, a, b, c⟩ : S64)])) (P, T') ∧ T'.length ≤ 9 ∧ ∀ t ∈ T', TrOk P.length t := by
    intro q hq
    rw [ew]
    refine hrest _ (by simp [hT]) (fun t ht => ?_)
    rcases List.mem_append.1 ht with h | h
    · exact hok t h
    · rw [List.mem_singleton.1 h]; exact ⟨hq, hpr, ha, hb, hc⟩
  by_cases h0 : dl = 0
  · by_cases h1 : x.f0 < 128
    · obtain ⟨T', h, hh⟩ := nxt 1 (by omega)
      exact ⟨T', Ev.step (fun k => by simp only [marblerunref05_Make.j6]; rw [if_pos h0, if_pos h1, if_pos (by omega)]) h, hh⟩
    · obtain ⟨T', h, hh⟩ := nxt dl hd
      exact ⟨T', Ev.step (fun k => by simp only [marblerunref05_Make.j6]; rw [if_pos h0, if_neg h1, if_pos (by omega)]) h, hh⟩
  · obtain ⟨T', h, hh⟩ := nxt dl hd
    exact ⟨T', Ev.step (fun k => by simp only [marblerunref05_Make.j6]; rw [if_neg h0, if_pos (by omega)]) h, hh⟩
include hp1 in
theorem make_j5 (i : Nat) (hi : i < 9) (hrest : Rest l m P (i + 1)) (T : List S64) (hT : T.length = i) (hok : ∀ t ∈ T, TrOk P.length t) (x : S83) (hx : ActBy x) (s : ByteArray) (dl pr : Int) (hd : 0 ≤ dl ∧ dl ≤ 4) (hpr : 0 ≤ pr ∧ pr ≤ 2) (a b c : List S66)
    (ha : ArcsOk P.length a) (hb : ArcsOk P.length b) (hc : ArcsOk P.length c) (hcl : c.length ≤ 1) :
    ∃ T', Ev (fun k => marblerunref05_Make.j5 k (P.length : Int) (i : Int) l m P T x.f0 x.f1 x.f2 x.f3 x.f4 x.f5 x.f6 s dl pr a b c) (P, T') ∧ T'.length ≤ 9 ∧ ∀ t ∈ T', TrOk P.length t := by
  by_cases h : Int.tmod x.f6 3 > 0
  · obtain ⟨T', h1, h2⟩ := make_j6 l m P i hi hrest T hT hok x hx s dl pr hd hpr a b (putS c (((Int.tdiv x.f6 3) % 256) % (P.length : Int)) 1) ha hb (arcs_put hc hcl (mod_by _ hp1) (by omega))
    exact ⟨T', Ev.step (fun k => by simp only [marblerunref05_Make.j5]; rw [if_pos h, if_neg (by omega)]) (Ev.bind (put_ev _ _ _ (by omega)) h1), h2⟩
  · obtain ⟨T', h1, h2⟩ := make_j6 l m P i hi hrest T hT hok x hx s dl pr hd hpr a b c ha hb hc
    exact ⟨T', Ev.step (fun k => by simp only [marblerunref05_Make.j5]; rw [if_neg h]) h1, h2⟩
include hp1 in
theorem make_j4 (i : Nat) (hi : i < 9) (hrest : Rest l m P (i + 1)) (T : List S64) (hT : T.length = i) (hok : ∀ t ∈ T, TrOk P.length t) (x : S83) (hx : ActBy x) (s : ByteArray) (dl pr : Int) (hd : 0 ≤ dl ∧ dl ≤ 4) (hpr : 0 ≤ pr ∧ pr ≤ 2) (a b : List S66)
    (ha : ArcsOk P.length a) (hb : ArcsOk P.length b) :
    ∃ T', Ev (fun k => marblerunref05_Make.j4 k (P.length : Int) (i : Int) l m P T x.f0 x.f1 x.f2 x.f3 x.f4 x.f5 x.f6 s dl pr a b) (P, T') ∧ T'.length ≤ 9 ∧ ∀ t ∈ T', TrOk P.length t := by
  by_cases h : Int.tmod x.f5 5 > 0
  · have hb5 : By x.f5 := hx.2.2.2.2.2.1
    have e : Int.tdiv x.f5 128 = x.f5 / 128 := Int.tdiv_eq_ediv_of_nonneg hb5.1
    obtain ⟨T', h1, h2⟩ := make_j5 l m P hp1 i hi hrest T hT hok x hx s dl pr hd hpr a b (putS [] (((Int.tdiv x.f5 5) % 256) % (P.length : Int)) (1 + ((Int.tdiv x.f5 128) % 256))) ha hb (arcs_put (arcs_nil _) (by simp) (mod_by _ hp1) (by unfold By at hb5; rw [e]; omega)) (put_len _ _ _)
    exact ⟨T', Ev.step (fun k => by simp only [marblerunref05_Make.j4]; rw [if_pos h, if_neg (by omega)]) (Ev.bind (put_ev [] _ _ (by simp)) h1), h2⟩
  · obtain ⟨T', h1, h2⟩ := make_j5 l m P hp1 i hi hrest T hT hok x hx s dl pr hd hpr a b [] ha hb (arcs_nil _) (by simp)
    exact ⟨T', Ev.step (fun k => by simp only [marblerunref05_Make.j4]; rw [if_neg h]) h1, h2⟩
include hp1 in
theorem make_j3 (i : Nat) (hi : i < 9) (hrest : Rest l m P (i + 1)) (T : List S64) (hT : T.length = i) (hok : ∀ t ∈ T, TrOk P.length t) (x : S83) (hx : ActBy x) (s : ByteArray) (dl pr : Int) (hd : 0 ≤ dl ∧ dl ≤ 4) (hpr : 0 ≤ pr ∧ pr ≤ 2) (a : List S66)
    (ha : ArcsOk P.length a) :
    ∃ T', Ev (fun k => marblerunref05_Make.j3 k (P.length : Int) (i : Int) l m P T x.f0 x.f1 x.f2 x.f3 x.f4 x.f5 x.f6 s dl pr a) (P, T') ∧ T'.length ≤ 9 ∧ ∀ t ∈ T', TrOk P.length t := by
  by_cases h : Int.tmod x.f4 4 = 0
  · have hb4 : By x.f4 := hx.2.2.2.2.1
    have e : Int.tdiv x.f4 64 = x.f4 / 64 := Int.tdiv_eq_ediv_of_nonneg hb4.1
    obtain ⟨T', h1, h2⟩ := make_j4 l m P hp1 i hi hrest T hT hok x hx s dl pr hd hpr a (putS [] (((Int.tdiv x.f4 4) % 256) % (P.length : Int)) (1 + ((Int.tdiv x.f4 64) % 256))) ha (arcs_put (arcs_nil _) (by simp) (mod_by _ hp1) (by unfold By at hb4; rw [e]; omega))
    exact ⟨T', Ev.step (fun k => by simp only [marblerunref05_Make.j3]; rw [if_pos h, if_neg (by omega)]) (Ev.bind (put_ev [] _ _ (by simp)) h1), h2⟩
  · obtain ⟨T', h1, h2⟩ := make_j4 l m P hp1 i hi hrest T hT hok x hx s dl pr hd hpr a [] ha (arcs_nil _)
    exact ⟨T', Ev.step (fun k => by simp only [marblerunref05_Make.j3]; rw [if_neg h]) h1, h2⟩
include hm hp1 in
theorem make_j2 (i : Nat) (hi : i < 9) (him : i < m.length) (hrest : Rest l m P (i + 1)) (T : List S64) (hT : T.length = i) (hok : ∀ t ∈ T, TrOk P.length t) :
    ∃ T', Ev (fun k => marblerunref05_Make.j2 k (P.length : Int) (i : Int) true l m P T) (P, T') ∧ T'.length ≤ 9 ∧ ∀ t ∈ T', TrOk P.length t := by
  obtain ⟨x, hxe⟩ : ∃ x, rd_T83 m (i : Int) = x := ⟨_, rfl⟩
  have hx : ActBy x := by rw [← hxe]; exact hm _ (rdC_mem him)
  have hb0 : By x.f0 := hx.1
  have hb1 : By x.f1 := hx.2.1
  have hb2 : By x.f2 := hx.2.2.1
  have ed : wrap64 (Int.tmod x.f0 5) = x.f0 % 5 := by
    have := hb0.1
    rw [Int.tmod_eq_emod_of_nonneg hb0.1]; exact wrap_id (by unfold I; omega)
  have ep : wrap64 (Int.tmod x.f1 3) = x.f1 % 3 := by
    have := hb1.1
    rw [Int.tmod_eq_emod_of_nonneg hb1.1]; exact wrap_id (by unfold I; omega)
  have ha := arcs_put (arcs_nil P.length) (by simp) (tmod_by hb2 hp1) (n := 1 + (((Int.tdiv x.f2 64) % 256) % 2)) (by omega)
  have hal := put_len [] (Int.tmod (wrap64 x.f2) (P.length : Int)) (1 + (((Int.tdiv x.f2 64) % 256) % 2))
  by_cases h : Int.tmod x.f3 3 = 0
  · obtain ⟨T', h1, h2⟩ := make_j3 l m P hp1 i hi hrest T hT hok x hx ((((⟨#[116]⟩ : ByteArray) ++ (strOfNums ([(wrap64 (48 + (i : Int))) % 256] : List Int))) ++ (⟨#[46, 120]⟩ : ByteArray))) (wrap64 (Int.tmod x.f0 5)) (wrap64 (Int.tmod x.f1 3)) (by rw [ed]; omega) (by rw [ep]; omega) _ (arcs_put ha hal (mod_by (Int.tdiv x.f3 3) hp1) (show (1 : Int) ≤ 1 ∧ (1 : Int) ≤ 4 by omega))
    refine ⟨T', Ev.step (fun k => ?_) (Ev.bind (f := fun k t197 => (marblerunref05_put.f k t197 (((Int.tdiv x.f3 3) % 256) % (P.length : Int)) 1).bind fun t200 => marblerunref05_Make.j3 k (P.length : Int) (i : Int) l m P T x.f0 x.f1 x.f2 x.f3 x.f4 x.f5 x.f6 ((((⟨#[116]⟩ : ByteArray) ++ (strOfNums ([(wrap64 (48 + (i : Int))) % 256] : List Int))) ++ (⟨#[46, 120]⟩ : ByteArray))) (wrap64 (Int.tmod x.f0 5)) (wrap64 (Int.tmod x.f1 3)) t200) (put_ev [] (Int.tmod (wrap64 x.f2) (P.length : Int)) (1 + (((Int.tdiv x.f2 64) % 256) % 2)) (by simp)) (Ev.bind (put_ev _ _ _ (by have := hal; simp only [List.length_nil] at this; omega)) h1)), h2⟩
    simp only [marblerunref05_Make.j2, hxe, if_true]
    rw [if_pos (by omega), if_pos (by omega)]
    simp only [Option.bind_some]
    rw [if_pos (str1 _), if_pos (str2 _), if_neg (by omega)]
    simp only [if_pos h]
  · obtain ⟨T', h1, h2⟩ := make_j3 l m P hp1 i hi hrest T hT hok x hx ((((⟨#[116]⟩ : ByteArray) ++ (strOfNums ([(wrap64 (48 + (i : Int))) % 256] : List Int))) ++ (⟨#[46, 120]⟩ : ByteArray))) (wrap64 (Int.tmod x.f0 5)) (wrap64 (Int.tmod x.f1 3)) (by rw [ed]; omega) (by rw [ep]; omega) _ ha
    refine ⟨T', Ev.step (fun k => ?_) (Ev.bind (f := fun k t197 => marblerunref05_Make.j3 k (P.length : Int) (i : Int) l m P T x.f0 x.f1 x.f2 x.f3 x.f4 x.f5 x.f6 ((((⟨#[116]⟩ : ByteArray) ++ (strOfNums ([(wrap64 (48 + (i : Int))) % 256] : List Int))) ++ (⟨#[46, 120]⟩ : ByteArray))) (wrap64 (Int.tmod x.f0 5)) (wrap64 (Int.tmod x.f1 3)) t197) (put_ev [] (Int.tmod (wrap64 x.f2) (P.length : Int)) (1 + (((Int.tdiv x.f2 64) % 256) % 2)) (by simp)) h1), h2⟩
    simp only [marblerunref05_Make.j2, hxe, if_true]
    rw [if_pos (by omega), if_pos (by omega)]
    simp only [Option.bind_some]
    rw [if_pos (str1 _), if_pos (str2 _), if_neg (by omega)]
    simp only [if_neg h]
include hm hp1 in
theorem make_l1 (d : Nat) : ∀ i : Nat, i ≤ 9 → i ≤ m.length → min 9 m.length = i + d → Rest l m P i := by
  induction d with
  | zero =>
    intro i hi him hd T hT hok
    refine ⟨T, ?_, by omega, hok⟩
    by_cases h : (i : Int) < (m.length : Int)
    · have h9 : ¬ ((i : Int) < 9) := by omega
      refine Ev.step (f := fun k => marblerunref05_Make.j2 k (P.length : Int) (i : Int) (decide ((i : Int) < 9)) l m P T) (fun k => by simp only [marblerunref05_Make.l1]; rw [if_pos h]) ?_
      rw [decide_eq_false h9]
      exact Ev.step (f := fun _ => some (P, T)) (fun k => by simp only [marblerunref05_Make.j2]; rw [if_neg (by simp)]) (Ev.now _)
    · refine Ev.step (f := fun k => marblerunref05_Make.j2 k (P.length : Int) (i : Int) false l m P T) (fun k => by simp only [marblerunref05_Make.l1]; rw [if_neg h]) ?_
      exact Ev.step (f := fun _ => some (P, T)) (fun k => by simp only [marblerunref05_Make.j2]; rw [if_neg (by simp)]) (Ev.now _)
  | succ d ih =>
    intro i hi him hd T hT hok
    obtain ⟨T', h1, h2⟩ := make_j2 l m P hm hp1 i (by omega) (by omega) (ih (i + 1) (by omega) (by omega) (by omega)) T hT hok
    refine ⟨T', Ev.step (fun k => ?_) h1, h2⟩
    simp only [marblerunref05_Make.l1]
    rw [if_pos (by omega), decide_eq_true (show (i : Int) < 9 by omega)]
end
theorem make_l0 (l : List Int) (m : List S83) (hl : ∀ q ∈ l, By q) (hll : l.length ≤ 1000) (hm : ∀ a ∈ m, ActBy a) (d : Nat) :
    ∀ (i : Nat) (P : List S52), 1 + l.length % 7 = i + d → P.length = i → (∀ p ∈ P, 0 ≤ p.f1 ∧ p.f1 ≤ 4) → ∃ P' T', Ev (fun k => marblerunref05_Make.l0 k (i : Int) l m P) (P', T') ∧ NetOk P' T' := by
  induction d with
  | zero =>
    intro i P hi hP htok
    obtain ⟨T', h1, h2, h3⟩ := make_l1 l m P hm (by omega) (min 9 m.length) 0 (by omega) (by omega) (by omega) [] rfl (fun t ht => by simp at ht)
    refine ⟨P, T', Ev.step (fun k => ?_) h1, by omega, by omega, h2, htok, h3⟩
    simp only [marblerunref05_Make.l0]
    rw [if_neg (by omega)]
    rfl
  | succ d ih =>
    intro i P hi hP htok
    have ew : wrap64 ((i : Int) + 1) = ((i + 1 : Nat) : Int) := by rw [wrap_add (n := 9) (by omega) (by omega) (by omega)]; rfl
    have nxt : ∀ (s : ByteArray) (q : Int), 0 ≤ q ∧ q ≤ 4 → ∃ P' T', Ev (fun k => marblerunref05_Make.l0 k (wrap64 ((i : Int) + 1)) l m (P ++ [(⟨s, q⟩ : S52)])) (P', T') ∧ NetOk P' T' := by
      intro s q hq
      rw [ew]
      refine ih (i + 1) _ (by omega) (by simp [hP]) (fun p hp => ?_)
      rcases List.mem_append.1 hp with h | h
      · exact htok p h
      · rw [List.mem_singleton.1 h]; exact hq
    by_cases h : (i : Int) < (l.length : Int)
    · have hb : By (rd l (i : Int)) := hl _ (rd_mem (by omega) h)
      have e : wrap64 (Int.tmod (rd l (i : Int)) 5) = rd l (i : Int) % 5 := by
        have := hb.1
        rw [Int.tmod_eq_emod_of_nonneg hb.1]; exact wrap_id (by unfold I; omega)
      obtain ⟨P', T', h1, h2⟩ := nxt ((⟨#[112]⟩ : ByteArray) ++ (strOfNums ([(wrap64 (97 + (i : Int))) % 256] : List Int))) (wrap64 (Int.tmod (rd l (i : Int)) 5)) (by rw [e]; omega)
      refine ⟨P', T', Ev.step (fun k => ?_) h1, h2⟩
      simp only [marblerunref05_Make.l0]
      rw [if_pos (by omega), if_pos h, if_pos (by omega)]
      simp only [Option.bind_some]
      rw [if_pos (str1 _), if_pos (by omega)]
    · obtain ⟨P', T', h1, h2⟩ := nxt ((⟨#[112]⟩ : ByteArray) ++ (strOfNums ([(wrap64 (97 + (i : Int))) % 256] : List Int))) 0 (by omega)
      refine ⟨P', T', Ev.step (fun k => ?_) h1, h2⟩
      simp only [marblerunref05_Make.l0]
      rw [if_pos (by omega), if_neg h]
      simp only [Option.bind_some]
      rw [if_pos (str1 _), if_pos (by omega)]
/-- Make answers a net that may be. -/
theorem make_ev (l : List Int) (m : List S83) (hl : ∀ q ∈ l, By q) (hll : l.length ≤ 1000) (hm : ∀ a ∈ m, ActBy a) : ∃ P T, Ev (fun k => marblerunref05_Make.f k l m) (P, T) ∧ NetOk P T := by
  obtain ⟨P, T, h1, h2⟩ := make_l0 l m hl hll hm (1 + l.length % 7) 0 [] (by omega) rfl (fun p hp => by simp at hp)
  exact ⟨P, T, h1, h2⟩

/-- What arcs bring of a place. -/
def sumAt : List S66 → Int → Int
  | [], _ => 0
  | a :: l, p => (if a.f0 = p then a.f1 else 0) + sumAt l p
/-- What a transition changes on a place. -/
def chS (t : S64) (p : Int) : Int := sumAt t.f5 p - sumAt t.f3 p
/-- A matrix by a function. -/
def mk (n m : Nat) (f : Nat → Nat → Int) : List (List Int) := (List.range n).map fun p => (List.range m).map (f p)
/-- A net's matrix. -/
def chM (P : List S52) (T : List S64) : List (List Int) := mk P.length T.length fun p t => chS (rd_T64 T (t : Int)) (p : Int)
theorem mk_length (n m : Nat) (f : Nat → Nat → Int) : (mk n m f).length = n := by simp [mk]
theorem mk_congr {n m : Nat} {f g : Nat → Nat → Int} (h : ∀ p t, p < n → t < m → f p t = g p t) : mk n m f = mk n m g := by
  unfold mk
  refine List.map_congr_left fun p hp => List.map_congr_left fun t ht => ?_
  exact h p t (by simpa using hp) (by simpa using ht)
theorem mk_row {n m : Nat} {f : Nat → Nat → Int} {p : Nat} (h : p < n) : rd_L1 (mk n m f) (p : Int) = (List.range m).map (f p) := by
  unfold rd_L1 mk; rw [Int.toNat_natCast, List.getD_eq_getElem?_getD, List.getElem?_map, List.getElem?_range h]; rfl
theorem mk_rowlen {n m : Nat} {f : Nat → Nat → Int} {p : Nat} (h : p < n) : (rd_L1 (mk n m f) (p : Int)).length = m := by rw [mk_row h]; simp
theorem mk_at {n m : Nat} {f : Nat → Nat → Int} {p t : Nat} (h : p < n) (ht : t < m) : rd (rd_L1 (mk n m f) (p : Int)) (t : Int) = f p t := by
  rw [mk_row h]; unfold rd; rw [Int.toNat_natCast, List.getD_eq_getElem?_getD, List.getElem?_map, List.getElem?_range ht]; rfl
theorem mk_rows {n m : Nat} {f : Nat → Nat → Int} : ∀ r ∈ mk n m f, r.length = m := by
  intro r hr; obtain ⟨p, _, rfl⟩ := List.mem_map.1 hr; simp
theorem mk_set {n m : Nat} {f : Nat → Nat → Int} {p t : Nat} (h : p < n) (ht : t < m) (v : Int) :
    (mk n m f).set p ((rd_L1 (mk n m f) (p : Int)).set t v) = mk n m fun p' t' => if t' = t then (if p' = p then v else f p' t') else f p' t' := by
  rw [mk_row h]
  unfold mk
  refine List.ext_getElem (by simp) fun i h1 h2 => ?_
  simp only [List.length_set, List.length_map, List.length_range] at h1
  rw [List.getElem_set]
  by_cases e : p = i
  · subst e
    rw [if_pos rfl, List.getElem_map, List.getElem_range]
    refine List.ext_getElem (by simp) fun j g1 g2 => ?_
    simp only [List.length_set, List.length_map, List.length_range] at g1
    rw [List.getElem_set]
    by_cases e2 : t = j
    · subst e2; simp
    · rw [if_neg e2]; simp [show ¬ j = t from fun x => e2 x.symm]
  · rw [if_neg e]
    simp only [List.getElem_map, List.getElem_range]
    refine List.map_congr_left fun j hj => ?_
    simp [show ¬ i = p from fun x => e x.symm]
theorem sumAt_bound {n : Nat} {l : List S66} (h : ∀ a ∈ l, 0 ≤ a.f0 ∧ a.f0 < (n : Int) ∧ 1 ≤ a.f1 ∧ a.f1 ≤ 4) (p : Int) : 0 ≤ sumAt l p ∧ sumAt l p ≤ 4 * (l.length : Int) := by
  induction l with
  | nil => simp [sumAt]
  | cons a l ih =>
    have h1 := ih fun x hx => h x (List.mem_cons_of_mem _ hx)
    have h2 := h a List.mem_cons_self
    unfold sumAt
    rw [List.length_cons]
    split <;> omega
theorem chS_bound {n : Nat} {t : S64} (h : TrOk n t) (p : Int) : -8 ≤ chS t p ∧ chS t p ≤ 8 := by
  have h3 := sumAt_bound h.2.2.1.2.1 p
  have h5 := sumAt_bound h.2.2.2.2.2.1 p
  have l3 := h.2.2.1.1
  have l5 := h.2.2.2.2.1
  unfold chS; omega
section
variable (T : List S64) (n : Nat) (hT : T.length ≤ 9) (hok : ∀ t ∈ T, TrOk n t)
theorem of_l3 (f : Nat → Nat → Int) (t : Nat) (ht : t < T.length) (l : List S66) (hl : ∀ a ∈ l, 0 ≤ a.f0 ∧ a.f0 < (n : Int) ∧ 1 ≤ a.f1 ∧ a.f1 ≤ 4) (hll : l.length ≤ 1000) (u v w : Int) (r : List (List Int)) (d : Nat) :
    ∀ (i : Nat) (f : Nat → Nat → Int), l.length = i + d → (∀ p t, -100 - 4 * (i : Int) ≤ f p t ∧ f p t ≤ 100 + 4 * (i : Int)) →
    Ev (fun k => matrix_Of.l1 k (mk n T.length fun p' t' => if t' = t then f p' t' + sumAt (l.drop i) p' else f p' t') T u (wrap64 (v + 1))) r →
    Ev (fun k => matrix_Of.l3 k (mk n T.length f) (t : Int) T u v l (l.length : Int) (i : Int)) r := by
  induction d with
  | zero =>
    intro i f hi hf hend
    rw [List.drop_eq_nil_of_le (by omega)] at hend
    have e : (mk n T.length fun p' t' => if t' = t then f p' t' + sumAt [] p' else f p' t') = mk n T.length f := mk_congr fun p q _ _ => by simp [sumAt]
    rw [e] at hend
    exact Ev.step (fun k => by simp only [matrix_Of.l3]; rw [if_neg (by omega)]) hend
  | succ d ih =>
    intro i f hi hf hend
    have ha := hl _ (rdA_mem (l := l) (i := i) (by omega))
    obtain ⟨a, hae⟩ : ∃ a, rd_T66 l (i : Int) = a := ⟨_, rfl⟩
    rw [hae] at ha
    obtain ⟨q, hq⟩ := Int.eq_ofNat_of_zero_le ha.1
    have hqn : q < n := by omega
    have ew : wrap64 ((i : Int) + 1) = ((i + 1 : Nat) : Int) := by rw [wrap_add (n := l.length) (by omega) (by omega) (by omega)]; rfl
    refine Ev.step (f := fun k => matrix_Of.l3 k (mk n T.length fun p' t' => if t' = t then (if p' = q then f q t + a.f1 else f p' t') else f p' t') (t : Int) T u v l (l.length : Int) ((i + 1 : Nat) : Int)) (fun k => ?_) ?_
    · simp only [matrix_Of.l3, hae, hq]
      rw [if_pos (by omega), if_pos (by omega), if_pos (by omega), if_pos (by omega), if_pos (by rw [mk_length]; omega), if_pos (by omega), if_pos (by rw [mk_rowlen hqn]; omega), mk_at hqn ht, wrap_id (x := f q t + a.f1) (by have := hf q t; unfold I; omega), ew, Int.toNat_natCast, Int.toNat_natCast, mk_set hqn ht]
    · refine ih (i + 1) _ (by omega) (fun p' t' => ?_) ?_
      · have := hf p' t'
        have := hf q t
        (try dsimp only)
        split
        · split <;> omega
        · omega
      · have e : (mk n T.length fun p' t' => if t' = t then (if t' = t then (if p' = q then f q t + a.f1 else f p' t') else f p' t') + sumAt (l.drop (i + 1)) p' else (if t' = t then (if p' = q then f q t + a.f1 else f p' t') else f p' t')) = mk n T.length fun p' t' => if t' = t then f p' t' + sumAt (l.drop i) p' else f p' t' := by
          refine mk_congr fun p' t' _ _ => ?_
          rw [dropA_cons (l := l) (i := i) (by omega), hae]
          by_cases h1 : t' = t
          · subst h1
            simp only [if_true, sumAt, hq]
            by_cases h2 : p' = q
            · subst h2; simp only [if_true]; omega
            · rw [if_neg h2, if_neg (by omega)]; omega
          · simp only [if_neg h1]
        rw [e]; exact hend
theorem of_l2 (f : Nat → Nat → Int) (t : Nat) (ht : t < T.length) (l : List S66) (hl : ∀ a ∈ l, 0 ≤ a.f0 ∧ a.f0 < (n : Int) ∧ 1 ≤ a.f1 ∧ a.f1 ≤ 4) (hll : l.length ≤ 1000) (u v w : Int) (s : ByteArray) (b1 b2 : Int) (l3 l4 l5 : List S66) (r : List (List Int)) (d : Nat) :
    ∀ (i : Nat) (f : Nat → Nat → Int), l.length = i + d → (∀ p t, -50 - 4 * (i : Int) ≤ f p t ∧ f p t ≤ 50 + 4 * (i : Int)) →
    Ev (fun k => matrix_Of.l3 k (mk n T.length fun p' t' => if t' = t then f p' t' - sumAt (l.drop i) p' else f p' t') (t : Int) T u v l5 (l5.length : Int) 0) r →
    Ev (fun k => matrix_Of.l2 k (mk n T.length f) (t : Int) T u v l (l.length : Int) (i : Int) s b1 b2 l3 l4 l5) r := by
  induction d with
  | zero =>
    intro i f hi hf hend
    rw [List.drop_eq_nil_of_le (by omega)] at hend
    have e : (mk n T.length fun p' t' => if t' = t then f p' t' - sumAt [] p' else f p' t') = mk n T.length f := mk_congr fun p q _ _ => by simp [sumAt]
    rw [e] at hend
    exact Ev.step (fun k => by simp only [matrix_Of.l2]; rw [if_neg (by omega)]) hend
  | succ d ih =>
    intro i f hi hf hend
    have ha := hl _ (rdA_mem (l := l) (i := i) (by omega))
    obtain ⟨a, hae⟩ : ∃ a, rd_T66 l (i : Int) = a := ⟨_, rfl⟩
    rw [hae] at ha
    obtain ⟨q, hq⟩ := Int.eq_ofNat_of_zero_le ha.1
    have hqn : q < n := by omega
    have ew : wrap64 ((i : Int) + 1) = ((i + 1 : Nat) : Int) := by rw [wrap_add (n := l.length) (by omega) (by omega) (by omega)]; rfl
    refine Ev.step (f := fun k => matrix_Of.l2 k (mk n T.length fun p' t' => if t' = t then (if p' = q then f q t - a.f1 else f p' t') else f p' t') (t : Int) T u v l (l.length : Int) ((i + 1 : Nat) : Int) s b1 b2 l3 l4 l5) (fun k => ?_) ?_
    · simp only [matrix_Of.l2, hae, hq]
      rw [if_pos (by omega), if_pos (by omega), if_pos (by omega), if_pos (by omega), if_pos (by rw [mk_length]; omega), if_pos (by omega), if_pos (by rw [mk_rowlen hqn]; omega), mk_at hqn ht, wrap_id (x := f q t - a.f1) (by have := hf q t; unfold I; omega), ew, Int.toNat_natCast, Int.toNat_natCast, mk_set hqn ht]
    · refine ih (i + 1) _ (by omega) (fun p' t' => ?_) ?_
      · have := hf p' t'
        have := hf q t
        (try dsimp only)
        split
        · split <;> omega
        · omega
      · have e : (mk n T.length fun p' t' => if t' = t then (if t' = t then (if p' = q then f q t - a.f1 else f p' t') else f p' t') - sumAt (l.drop (i + 1)) p' else (if t' = t then (if p' = q then f q t - a.f1 else f p' t') else f p' t')) = mk n T.length fun p' t' => if t' = t then f p' t' - sumAt (l.drop i) p' else f p' t' := by
          refine mk_congr fun p' t' _ _ => ?_
          rw [dropA_cons (l := l) (i := i) (by omega), hae]
          by_cases h1 : t' = t
          · subst h1
            simp only [if_true, sumAt, hq]
            by_cases h2 : p' = q
            · subst h2; simp only [if_true]; omega
            · rw [if_neg h2, if_neg (by omega)]; omega
          · simp only [if_neg h1]
        rw [e]; exact hend
include hT hok in
theorem of_l1 (d : Nat) : ∀ i : Nat, T.length = i + d → Ev (fun k => matrix_Of.l1 k (mk n T.length fun p t => if t < i then chS (rd_T64 T (t : Int)) (p : Int) else 0) T (T.length : Int) (i : Int)) (mk n T.length fun p t => chS (rd_T64 T (t : Int)) (p : Int)) := by
  induction d with
  | zero =>
    intro i hi
    have e : (mk n T.length fun p t => if t < i then chS (rd_T64 T (t : Int)) (p : Int) else 0) = mk n T.length fun p t => chS (rd_T64 T (t : Int)) (p : Int) := mk_congr fun p t _ ht => by rw [if_pos (by omega)]
    rw [e]
    exact Ev.step (f := fun _ => some _) (fun k => by simp only [matrix_Of.l1]; rw [if_neg (by omega)]) (Ev.now _)
  | succ d ih =>
    intro i hi
    have hmem := rdT_mem (l := T) (i := i) (by omega)
    have hk := hok _ hmem
    have ew : wrap64 ((i : Int) + 1) = ((i + 1 : Nat) : Int) := by rw [wrap_add (n := T.length) (by omega) (by omega) (by omega)]; rfl
    have l3 := hk.2.2.1.1
    have l5 := hk.2.2.2.2.1
    refine Ev.step (f := fun k => matrix_Of.l2 k (mk n T.length fun p t => if t < i then chS (rd_T64 T (t : Int)) (p : Int) else 0) (i : Int) T (T.length : Int) (i : Int) (rd_T64 T (i : Int)).f3 ((rd_T64 T (i : Int)).f3.length : Int) ((0 : Nat) : Int) (rd_T64 T (i : Int)).f0 (rd_T64 T (i : Int)).f1 (rd_T64 T (i : Int)).f2 (rd_T64 T (i : Int)).f3 (rd_T64 T (i : Int)).f4 (rd_T64 T (i : Int)).f5) (fun k => by simp only [matrix_Of.l1]; rw [if_pos (by omega), if_pos (by omega), if_pos (by omega)]; rfl) (of_l2 T n (fun _ _ => 0) i (by omega) (rd_T64 T (i : Int)).f3 hk.2.2.1.2.1 (by omega) (T.length : Int) (i : Int) 0 _ _ _ _ _ _ _ (rd_T64 T (i : Int)).f3.length 0 (fun p t => if t < i then chS (rd_T64 T (t : Int)) (p : Int) else 0) (by simp) (fun p t => ?_) (of_l3 T n (fun _ _ => 0) i (by omega) (rd_T64 T (i : Int)).f5 hk.2.2.2.2.2.1 (by omega) (T.length : Int) (i : Int) 0 _ (rd_T64 T (i : Int)).f5.length 0 _ (by simp) (fun p t => ?_) ?_))
    · (try dsimp only)
      split
      · have := chS_bound (hok _ (rdT_mem (l := T) (i := t) (by omega))) (p : Int); omega
      · omega
    · have hs := sumAt_bound hk.2.2.1.2.1 (p : Int)
      (try dsimp only)
      rw [List.drop_zero]
      by_cases h1 : t = i
      · rw [if_pos h1, if_neg (by omega)]; omega
      · rw [if_neg h1]
        split
        · have := chS_bound (hok _ (rdT_mem (l := T) (i := t) (by omega))) (p : Int); omega
        · omega
    · rw [ew]
      have e : (mk n T.length fun p' t' => if t' = i then (if t' = i then (if t' < i then chS (rd_T64 T (t' : Int)) (p' : Int) else 0) - sumAt ((rd_T64 T (i : Int)).f3.drop 0) (p' : Int) else (if t' < i then chS (rd_T64 T (t' : Int)) (p' : Int) else 0)) + sumAt ((rd_T64 T (i : Int)).f5.drop 0) (p' : Int) else (if t' = i then (if t' < i then chS (rd_T64 T (t' : Int)) (p' : Int) else 0) - sumAt ((rd_T64 T (i : Int)).f3.drop 0) (p' : Int) else (if t' < i then chS (rd_T64 T (t' : Int)) (p' : Int) else 0))) = mk n T.length fun p t => if t < i + 1 then chS (rd_T64 T (t : Int)) (p : Int) else 0 := by
        refine mk_congr fun p t _ _ => ?_
        by_cases h1 : t = i
        · subst h1
          rw [if_pos rfl, if_pos rfl, if_neg (by omega), if_pos (by omega), List.drop_zero, List.drop_zero]; unfold chS; omega
        · rw [if_neg h1, if_neg h1]
          by_cases h2 : t < i
          · rw [if_pos h2, if_pos (by omega)]
          · rw [if_neg h2, if_neg (by omega)]
      rw [e]
      exact ih (i + 1) (by omega)
include hT hok in
theorem of_l0 (P : List S52) (hn : P.length = n) (hn7 : n ≤ 1000) (d : Nat) : ∀ i : Nat, n = i + d → Ev (fun k => matrix_Of.l0 k (List.replicate i (List.replicate T.length 0) ++ List.replicate d []) (n : Int) (i : Int) P T) (mk n T.length fun p t => chS (rd_T64 T (t : Int)) (p : Int)) := by
  induction d with
  | zero =>
    intro i hi
    have e : List.replicate i (List.replicate T.length 0) ++ List.replicate 0 [] = mk n T.length fun p t => if t < 0 then chS (rd_T64 T (t : Int)) (p : Int) else 0 := by
      rw [List.replicate_zero, List.append_nil]
      unfold mk
      refine List.ext_getElem (by simp; omega) fun j h1 h2 => ?_
      rw [List.getElem_replicate, List.getElem_map]
      refine List.ext_getElem (by simp) fun q g1 g2 => ?_
      simp
    rw [e]
    refine Ev.step (fun k => ?_) (of_l1 T n hT hok T.length 0 (by simp))
    simp only [matrix_Of.l0]
    rw [if_neg (by omega)]
    rfl
  | succ d ih =>
    intro i hi
    have ew : wrap64 ((i : Int) + 1) = ((i + 1 : Nat) : Int) := by rw [wrap_add (n := n) (by omega) (by omega) (by omega)]; rfl
    refine Ev.step (fun k => ?_) (ih (i + 1) (by omega))
    simp only [matrix_Of.l0]
    rw [if_pos (by omega), if_pos (by omega), if_pos (by omega), if_pos (by omega), if_pos (by simp; omega), ew, Int.toNat_natCast, Int.toNat_natCast]
    congr 1
    rw [List.set_append_right _ _ (by simp), List.length_replicate, Nat.sub_self, List.replicate_succ, List.set_cons_zero, List.replicate_succ', List.append_assoc]
    rfl
end
theorem of_ev (P : List S52) (T : List S64) (h : NetOk P T) : Ev (fun k => matrix_Of.f k P T) (chM P T) := by
  have h7 := h.p7
  have := of_l0 T P.length h.t9 h.trs P rfl (by omega) P.length 0 (by simp)
  unfold matrix_Of.f
  simp only [if_pos (show (0 : Int) ≤ (P.length : Int) by omega), if_pos (show ((P.length : Int)).toNat ≤ 11728124029610 by omega), Option.bind_some]
  have e : ((List.replicate ((P.length : Int)).toNat ([] : List Int)).length : Int) = (P.length : Int) := by simp
  simp only [Int.toNat_natCast, List.length_replicate]
  unfold chM
  simpa using this

section
variable (P : List S52) (T : List S64) (hT : T.length ≤ 9) (hP : P.length ≤ 1000) (hok : ∀ t ∈ T, TrOk P.length t)
theorem ch_l3 (m : List (List Int)) (p : Nat) (row : List Int) (hrow : row.length ≤ 1000) (t : Nat) (ht : t < T.length) (hl : ∀ a ∈ (rd_T64 T (t : Int)).f3, 0 ≤ a.f0 ∧ a.f0 < (P.length : Int) ∧ 1 ≤ a.f1 ∧ a.f1 ≤ 4) (hll : (rd_T64 T (t : Int)).f3.length ≤ 1000) (r : List (List Int)) (d : Nat) :
    ∀ (i : Nat) (s : Int), (rd_T64 T (t : Int)).f3.length = i + d → -100 - 4 * (i : Int) ≤ s → s ≤ 100 + 4 * (i : Int) →
    Ev (fun k => marblerunref11_Change.l1 k m (p : Int) (row ++ [s - sumAt ((rd_T64 T (t : Int)).f3.drop i) (p : Int)]) (wrap64 ((t : Int) + 1)) P T) r →
    Ev (fun k => marblerunref11_Change.l3 k m (p : Int) row (t : Int) s (i : Int) P T) r := by
  induction d with
  | zero =>
    intro i s hi h1 h2 hend
    rw [List.drop_eq_nil_of_le (by omega), sumAt, Int.sub_zero] at hend
    exact Ev.step (fun k => by simp only [marblerunref11_Change.l3]; rw [if_pos (by omega), if_pos (by omega), if_neg (by omega), if_pos (by omega)]) hend
  | succ d ih =>
    intro i s hi h1 h2 hend
    have ha := hl _ (rdA_mem (i := i) (by omega))
    rw [dropA_cons (by omega), sumAt] at hend
    obtain ⟨a, hae⟩ : ∃ a, rd_T66 (rd_T64 T (t : Int)).f3 (i : Int) = a := ⟨_, rfl⟩
    rw [hae] at ha hend
    by_cases h : a.f0 = (p : Int)
    · rw [if_pos h] at hend
      refine Ev.step (f := fun k => marblerunref11_Change.l3 k m (p : Int) row (t : Int) (s - a.f1) ((i + 1 : Nat) : Int) P T) (fun k => ?_) (ih (i + 1) _ (by omega) (by omega) (by omega) ?_)
      · simp only [marblerunref11_Change.l3, hae]
        rw [if_pos (by omega), if_pos (by omega), if_pos (by omega), if_pos (by omega), if_pos h, wrap_succ (by omega), wrap_id (by unfold I; omega)]
      · rw [show s - a.f1 - sumAt ((rd_T64 T (t : Int)).f3.drop (i + 1)) (p : Int) = s - (a.f1 + sumAt ((rd_T64 T (t : Int)).f3.drop (i + 1)) (p : Int)) by omega]
        exact hend
    · rw [if_neg h] at hend
      refine Ev.step (f := fun k => marblerunref11_Change.l3 k m (p : Int) row (t : Int) s ((i + 1 : Nat) : Int) P T) (fun k => ?_) (ih (i + 1) _ (by omega) (by omega) (by omega) ?_)
      · simp only [marblerunref11_Change.l3, hae]
        rw [if_pos (by omega), if_pos (by omega), if_pos (by omega), if_pos (by omega), if_neg h, wrap_succ (by omega)]
      · rw [Int.zero_add] at hend
        exact hend
theorem ch_l2 (m : List (List Int)) (p : Nat) (row : List Int) (t : Nat) (ht : t < T.length) (hl : ∀ a ∈ (rd_T64 T (t : Int)).f5, 0 ≤ a.f0 ∧ a.f0 < (P.length : Int) ∧ 1 ≤ a.f1 ∧ a.f1 ≤ 4) (hll : (rd_T64 T (t : Int)).f5.length ≤ 1000) (r : List (List Int)) (d : Nat) :
    ∀ (i : Nat) (s : Int), (rd_T64 T (t : Int)).f5.length = i + d → -50 - 4 * (i : Int) ≤ s → s ≤ 50 + 4 * (i : Int) →
    Ev (fun k => marblerunref11_Change.l3 k m (p : Int) row (t : Int) (s + sumAt ((rd_T64 T (t : Int)).f5.drop i) (p : Int)) 0 P T) r →
    Ev (fun k => marblerunref11_Change.l2 k m (p : Int) row (t : Int) s (i : Int) P T) r := by
  induction d with
  | zero =>
    intro i s hi h1 h2 hend
    rw [List.drop_eq_nil_of_le (by omega), sumAt, Int.add_zero] at hend
    exact Ev.step (fun k => by simp only [marblerunref11_Change.l2]; rw [if_pos (by omega), if_pos (by omega), if_neg (by omega)]) hend
  | succ d ih =>
    intro i s hi h1 h2 hend
    have ha := hl _ (rdA_mem (i := i) (by omega))
    rw [dropA_cons (by omega), sumAt] at hend
    obtain ⟨a, hae⟩ : ∃ a, rd_T66 (rd_T64 T (t : Int)).f5 (i : Int) = a := ⟨_, rfl⟩
    rw [hae] at ha hend
    by_cases h : a.f0 = (p : Int)
    · rw [if_pos h] at hend
      refine Ev.step (f := fun k => marblerunref11_Change.l2 k m (p : Int) row (t : Int) (s + a.f1) ((i + 1 : Nat) : Int) P T) (fun k => ?_) (ih (i + 1) _ (by omega) (by omega) (by omega) ?_)
      · simp only [marblerunref11_Change.l2, hae]
        rw [if_pos (by omega), if_pos (by omega), if_pos (by omega), if_pos (by omega), if_pos h, wrap_succ (by omega), wrap_id (by unfold I; omega)]
      · rw [Int.add_assoc]
        exact hend
    · rw [if_neg h] at hend
      refine Ev.step (f := fun k => marblerunref11_Change.l2 k m (p : Int) row (t : Int) s ((i + 1 : Nat) : Int) P T) (fun k => ?_) (ih (i + 1) _ (by omega) (by omega) (by omega) ?_)
      · simp only [marblerunref11_Change.l2, hae]
        rw [if_pos (by omega), if_pos (by omega), if_pos (by omega), if_pos (by omega), if_neg h, wrap_succ (by omega)]
      · rw [Int.zero_add] at hend
        exact hend
include hT hok in
theorem ch_l1 (m : List (List Int)) (hm : m.length ≤ 1000) (p : Nat) (r : List (List Int)) (hend : Ev (fun k => marblerunref11_Change.l0 k (m ++ [(List.range T.length).map fun t => chS (rd_T64 T ((t : Nat) : Int)) (p : Int)]) (wrap64 ((p : Int) + 1)) P T) r) (d : Nat) :
    ∀ i : Nat, T.length = i + d → Ev (fun k => marblerunref11_Change.l1 k m (p : Int) ((List.range i).map fun t => chS (rd_T64 T ((t : Nat) : Int)) (p : Int)) (i : Int) P T) r := by
  induction d with
  | zero =>
    intro i hi
    rw [show i = T.length by omega]
    exact Ev.step (fun k => by simp only [marblerunref11_Change.l1]; rw [if_neg (by omega), if_pos (by omega)]) hend
  | succ d ih =>
    intro i hi
    have hk := hok _ (rdT_mem (l := T) (i := i) (by omega))
    have l3 := hk.2.2.1.1
    have l5 := hk.2.2.2.2.1
    have b5 := sumAt_bound hk.2.2.2.2.2.1 (p : Int)
    refine Ev.step (f := fun k => marblerunref11_Change.l2 k m (p : Int) ((List.range i).map fun t => chS (rd_T64 T ((t : Nat) : Int)) (p : Int)) (i : Int) 0 ((0 : Nat) : Int) P T) (fun k => by simp only [marblerunref11_Change.l1]; rw [if_pos (by omega)]; rfl)
      (ch_l2 P T m p _ i (by omega) hk.2.2.2.2.2.1 (by omega) r (rd_T64 T (i : Int)).f5.length 0 0 (by simp) (by omega) (by omega)
        (ch_l3 P T m p _ (by simp; omega) i (by omega) hk.2.2.1.2.1 (by omega) r (rd_T64 T (i : Int)).f3.length 0 _ (by simp) (by rw [List.drop_zero]; omega) (by rw [List.drop_zero]; omega) ?_))
    rw [wrap_succ (by omega), List.drop_zero, List.drop_zero]
    have := ih (i + 1) (by omega)
    rw [List.range_succ, List.map_append] at this
    rw [show (0 : Int) + sumAt (rd_T64 T (i : Int)).f5 (p : Int) - sumAt (rd_T64 T (i : Int)).f3 (p : Int) = chS (rd_T64 T (i : Int)) (p : Int) by unfold chS; omega]
    exact this
include hT hP hok in
theorem ch_l0 (d : Nat) : ∀ i : Nat, P.length = i + d → Ev (fun k => marblerunref11_Change.l0 k ((List.range i).map fun p => (List.range T.length).map fun t => chS (rd_T64 T ((t : Nat) : Int)) ((p : Nat) : Int)) (i : Int) P T) (chM P T) := by
  induction d with
  | zero =>
    intro i hi
    rw [show i = P.length by omega]
    exact Ev.step (f := fun _ => some (chM P T)) (fun k => by simp only [marblerunref11_Change.l0]; rw [if_neg (by omega)]; rfl) (Ev.now _)
  | succ d ih =>
    intro i hi
    refine Ev.step (f := fun k => marblerunref11_Change.l1 k ((List.range i).map fun p => (List.range T.length).map fun t => chS (rd_T64 T ((t : Nat) : Int)) ((p : Nat) : Int)) (i : Int) ((List.range 0).map fun t => chS (rd_T64 T ((t : Nat) : Int)) ((i : Nat) : Int)) ((0 : Nat) : Int) P T) (fun k => by simp only [marblerunref11_Change.l0]; rw [if_pos (by omega)]; rfl)
      (ch_l1 P T hT hok _ (by simp; omega) i _ ?_ T.length 0 (by simp))
    rw [wrap_succ (by omega)]
    have := ih (i + 1) (by omega)
    rw [List.range_succ, List.map_append] at this
    exact this
end
theorem change_ev (P : List S52) (T : List S64) (h : NetOk P T) : Ev (fun k => marblerunref11_Change.f k P T) (chM P T) := by
  have h7 := h.p7
  exact ch_l0 P T h.t9 (by omega) h.trs P.length 0 (by simp)

theorem rdL_lt {m : List (List Int)} {i : Nat} (h : i < m.length) : rd_L1 m (i : Int) = m[i] := by
  unfold rd_L1; rw [Int.toNat_natCast, List.getD_eq_getElem?_getD, List.getElem?_eq_getElem h]; rfl
theorem rdL_mem {m : List (List Int)} {i : Nat} (h : i < m.length) : rd_L1 m (i : Int) ∈ m := by rw [rdL_lt h]; exact List.getElem_mem _
theorem dropL_cons {m : List (List Int)} {i : Nat} (h : i < m.length) : m.drop i = rd_L1 m (i : Int) :: m.drop (i + 1) := by
  rw [List.drop_eq_getElem_cons h, rdL_lt h]
theorem takeL_snoc {m : List (List Int)} {i : Nat} (h : i < m.length) : m.take (i + 1) = m.take i ++ [rd_L1 m (i : Int)] := by
  rw [List.take_succ_eq_append_getElem h, rdL_lt h]

/-- A column. -/
def col (m : List (List Int)) (j : Nat) : List Int := m.map fun r => rd r (j : Int)
/-- Rows of length c as columns (of no rows none). -/
def turnS (m : List (List Int)) (c : Nat) : List (List Int) := if m = [] then [] else (List.range c).map (col m)
/-- What is there when i rows are done, and j numbers of the next one. -/
def partS (m : List (List Int)) (c i j : Nat) : List (List Int) := (List.range j).map (col (m.take (i + 1))) ++ (if i = 0 then [] else ((List.range c).drop j).map (col (m.take i)))
theorem col_snoc (m : List (List Int)) (r : List Int) (j : Nat) : col (m ++ [r]) j = col m j ++ [rd r (j : Int)] := by simp [col]
theorem drop_range {c j : Nat} (h : j < c) : (List.range c).drop j = j :: (List.range c).drop (j + 1) := by
  rw [List.drop_eq_getElem_cons (by simp; omega)]; simp
theorem part_length (m : List (List Int)) (c i j : Nat) (hj : j ≤ c) : (partS m c i j).length = if i = 0 then j else c := by
  unfold partS
  split
  · simp
  · simp; omega
theorem turn_row (m : List (List Int)) (c : Nat) (hc : c ≤ 35184372088832) (hm : ∀ r ∈ m, r.length = c) (hb : m.length < 17592186044416) (hc2 : c < 5864062014805) (i : Nat) (hi : i < m.length) (r : List (List Int))
    (hend : Ev (fun k => matrix_Turn.l0 k m (partS m c i c) (m.length : Int) (wrap64 ((i : Int) + 1))) r) (d : Nat) :
    ∀ j : Nat, c = j + d → Ev (fun k => matrix_Turn.l1 k m (partS m c i j) (m.length : Int) (i : Int) (rd_L1 m (i : Int)) (c : Int) (j : Int)) r := by
  induction d with
  | zero =>
    intro j hj
    have e : j = c := by omega
    subst e
    exact Ev.step (f := fun k => matrix_Turn.l0 k m (partS m j i j) (m.length : Int) (wrap64 ((i : Int) + 1))) (fun k => by simp only [matrix_Turn.l1]; rw [if_neg (by omega)]) hend
  | succ d ih =>
    intro j hj
    have hrl := hm _ (rdL_mem hi)
    have hpl := part_length m c i j (by omega)
    have ew : wrap64 ((j : Int) + 1) = ((j + 1 : Nat) : Int) := by rw [wrap_add (n := c) (by omega) (by omega) (by omega)]; rfl
    have hn := ih (j + 1) (by omega)
    have er : (List.range (j + 1)).map (col (m.take (i + 1))) = (List.range j).map (col (m.take (i + 1))) ++ [col (m.take (i + 1)) j] := by rw [List.range_succ, List.map_append]; rfl
    have ec : col (m.take (i + 1)) j = col (m.take i) j ++ [rd (rd_L1 m (i : Int)) (j : Int)] := by rw [takeL_snoc hi, col_snoc]
    have hdl : ((List.range j).map (col (m.take (i + 1)))).length = j := by simp
    refine Ev.step (f := fun k => matrix_Turn.l1 k m (partS m c i (j + 1)) (m.length : Int) (i : Int) (rd_L1 m (i : Int)) (c : Int) ((j + 1 : Nat) : Int)) (fun k => ?_) hn
    simp only [matrix_Turn.l1]
    rw [if_pos (by omega), if_pos (by omega), if_pos (by omega), ew]
    by_cases h0 : i = 0
    · subst h0
      rw [if_pos rfl] at hpl
      have ep : partS m c 0 j = (List.range j).map (col (m.take (0 + 1))) := by simp [partS]
      have ep1 : partS m c 0 (j + 1) = (List.range (j + 1)).map (col (m.take (0 + 1))) := by simp [partS]
      rw [if_pos (by omega), if_pos (by omega)]
      simp only [Option.bind_some]
      have hg : rd_L1 (partS m c 0 j ++ [[]]) (j : Int) = [] := by
        unfold rd_L1; rw [Int.toNat_natCast, List.getD_eq_getElem?_getD, List.getElem?_append_right (by omega), hpl, Nat.sub_self]; rfl
      rw [if_pos (by simp; omega), hg, if_pos (by simp), Int.toNat_natCast, List.set_append_right _ _ (by omega), hpl, Nat.sub_self, List.set_cons_zero, ep, ep1, er, ec]
      simp [col]
    · rw [if_neg h0] at hpl
      rw [if_neg (by omega), if_pos (by omega)]
      have ep : partS m c i j = (List.range j).map (col (m.take (i + 1))) ++ (col (m.take i) j :: ((List.range c).drop (j + 1)).map (col (m.take i))) := by
        unfold partS; rw [if_neg h0, drop_range (by omega), List.map_cons]
      have ep1 : partS m c i (j + 1) = (List.range j).map (col (m.take (i + 1))) ++ ((col (m.take i) j ++ [rd (rd_L1 m (i : Int)) (j : Int)]) :: ((List.range c).drop (j + 1)).map (col (m.take i))) := by
        unfold partS; rw [if_neg h0, er, ec, List.append_assoc]; rfl
      have hg : rd_L1 (partS m c i j) (j : Int) = col (m.take i) j := by
        unfold rd_L1; rw [ep, Int.toNat_natCast, List.getD_eq_getElem?_getD, List.getElem?_append_right (by omega), hdl, Nat.sub_self]; rfl
      have hcl : (col (m.take i) j).length < 17592186044416 := by simp [col]; omega
      rw [hg, if_pos hcl, Int.toNat_natCast, ep, ep1, List.set_append_right _ _ (by omega), hdl, Nat.sub_self, List.set_cons_zero]
theorem turn_loop (m : List (List Int)) (c : Nat) (hc : c ≤ 35184372088832) (hm : ∀ r ∈ m, r.length = c) (hb : m.length < 17592186044416) (hc2 : c < 5864062014805) (d : Nat) :
    ∀ i : Nat, m.length = i + d → Ev (fun k => matrix_Turn.l0 k m (if i = 0 then [] else (List.range c).map (col (m.take i))) (m.length : Int) (i : Int)) (turnS m c) := by
  induction d with
  | zero =>
    intro i hi
    refine Ev.step (f := fun _ => some (if i = 0 then [] else (List.range c).map (col (m.take i)))) (fun k => by simp only [matrix_Turn.l0]; rw [if_neg (by omega)]) ?_
    have : (if i = 0 then [] else (List.range c).map (col (m.take i))) = turnS m c := by
      unfold turnS
      by_cases h : i = 0
      · rw [if_pos h, if_pos (List.eq_nil_of_length_eq_zero (by omega))]
      · rw [if_neg h, if_neg (by intro e; rw [e] at hi; simp at hi; omega), List.take_of_length_le (by omega)]
    rw [this]; exact Ev.now _
  | succ d ih =>
    intro i hi
    have hrl := hm _ (rdL_mem (m := m) (i := i) (by omega))
    have e0 : (if i = 0 then [] else (List.range c).map (col (m.take i))) = partS m c i 0 := by simp [partS]
    have e1 : partS m c i c = (List.range c).map (col (m.take (i + 1))) := by
      unfold partS
      split
      · simp
      · rw [List.drop_eq_nil_of_le (by simp)]; simp
    have hn := ih (i + 1) (by omega)
    rw [if_neg (by omega)] at hn
    rw [e0]
    refine Ev.step (f := fun k => matrix_Turn.l1 k m (partS m c i 0) (m.length : Int) (i : Int) (rd_L1 m (i : Int)) (c : Int) 0) (fun k => ?_) ?_
    · simp only [matrix_Turn.l0]
      rw [if_pos (by omega), if_pos (by omega), if_pos (by omega), hrl]
    · refine turn_row m c hc hm hb hc2 i (by omega) _ ?_ c 0 (by simp)
      rw [e1, wrap_add (n := m.length) (by omega) (by omega) (by omega)]
      exact hn
theorem turn_ev (m : List (List Int)) (c : Nat) (hm : ∀ r ∈ m, r.length = c) (hb : m.length < 17592186044416) (hc2 : c < 5864062014805) : Ev (fun k => matrix_Turn.f k m) (turnS m c) := by
  have h := turn_loop m c (by omega) hm hb hc2 m.length 0 (by simp)
  unfold matrix_Turn.f
  simpa using h
theorem turn_rows (m : List (List Int)) (c : Nat) : ∀ r ∈ turnS m c, r.length = m.length := by
  intro r hr
  unfold turnS at hr
  split at hr
  · simp at hr
  · obtain ⟨j, _, rfl⟩ := List.mem_map.1 hr
    simp [col]
theorem turn_I (m : List (List Int)) (c : Nat) (hm : ∀ r ∈ m, r.length = c) (hI : ∀ r ∈ m, ∀ y ∈ r, I y) : ∀ r ∈ turnS m c, ∀ y ∈ r, I y := by
  intro r hr y hy
  unfold turnS at hr
  split at hr
  · simp at hr
  · obtain ⟨j, hj, rfl⟩ := List.mem_map.1 hr
    unfold col at hy
    obtain ⟨q, hq, rfl⟩ := List.mem_map.1 hy
    have hl := hm q hq
    have hj' : j < c := by simpa using hj
    exact hI q hq _ (rd_mem (by omega) (by omega))

theorem same_loop (l : List Int) (hb : l.length ≤ 9223372036854775806) (d : Nat) : ∀ i : Nat, l.length = i + d → Ev (fun k => marblerunref01_SameInts.l0 k l l (i : Int)) true := by
  induction d with
  | zero => intro i hi; exact Ev.step (f := fun _ => some true) (fun k => by simp only [marblerunref01_SameInts.l0]; rw [if_neg (by omega)]) (Ev.now _)
  | succ d ih =>
    intro i hi
    refine Ev.step (f := fun k => marblerunref01_SameInts.l0 k l l ((i + 1 : Nat) : Int)) (fun k => ?_) (ih (i + 1) (by omega))
    simp only [marblerunref01_SameInts.l0]
    rw [if_pos (by omega), if_pos (by omega), if_pos (by omega), if_pos trivial, wrap_add (n := l.length) (by omega) (by omega) (by omega)]
    rfl
theorem same_ev (l : List Int) (hb : l.length ≤ 9223372036854775806) : Ev (fun k => marblerunref01_SameInts.f k l l) true := by
  have h := same_loop l hb l.length 0 (by simp)
  unfold marblerunref01_SameInts.f
  simpa using h

theorem sameL_loop (l : List (List Int)) (hr : ∀ r ∈ l, r.length ≤ 9223372036854775806) (hb : l.length ≤ 9223372036854775806) (d : Nat) : ∀ i : Nat, l.length = i + d → Ev (fun k => marblerunref01_Same.l0 k l l (i : Int)) true := by
  induction d with
  | zero =>
    intro i hi
    exact Ev.step (f := fun _ => some true) (fun k => by simp only [marblerunref01_Same.l0]; rw [if_neg (by omega)]) (Ev.now _)
  | succ d ih =>
    intro i hi
    refine Ev.step (f := fun k => (marblerunref01_SameInts.f k (rd_L1 l (i : Int)) (rd_L1 l (i : Int))).bind fun t => (if t = true then marblerunref01_Same.l0 k l l ((i + 1 : Nat) : Int) else some false)) (fun k => ?_) (Ev.bind (same_ev _ (hr _ (rdL_mem (by omega)))) ?_)
    · simp only [marblerunref01_Same.l0]
      rw [if_pos (by omega), if_pos (by omega), if_pos (by omega), wrap_add (n := l.length) (by omega) (by omega) (by omega)]
      rfl
    · simp only [if_true]
      exact ih (i + 1) (by omega)
theorem sameL_ev (l : List (List Int)) (hr : ∀ r ∈ l, r.length ≤ 9223372036854775806) (hb : l.length ≤ 9223372036854775806) : Ev (fun k => marblerunref01_Same.f k l l) true := by
  have h := sameL_loop l hr hb l.length 0 (by simp)
  refine Ev.congr (f := fun k => marblerunref01_Same.l0 k l l 0) (fun k => ?_) h
  unfold marblerunref01_Same.f
  rw [if_pos rfl]

theorem awake_ev : Ev (fun k => marblerunlaw11_awake.f k) true := Ev.of (k := 40) marblerunlaw11_awake.mono (by kernel_rfl)

theorem col_mk {n m : Nat} {f : Nat → Nat → Int} {j : Nat} (hj : j < m) : col (mk n m f) j = (List.range n).map fun p => f p j := by
  unfold col mk
  rw [List.map_map]
  refine List.map_congr_left fun p hp => ?_
  have : rd ((List.range m).map (f p)) (j : Int) = f p j := by
    unfold rd; rw [Int.toNat_natCast, List.getD_eq_getElem?_getD, List.getElem?_map, List.getElem?_range hj]; rfl
  simpa using this
theorem turn_mk {n m : Nat} {f : Nat → Nat → Int} (hn : 1 ≤ n) : turnS (mk n m f) m = mk m n fun p t => f t p := by
  unfold turnS
  rw [if_neg (by intro e; have := congrArg List.length e; rw [mk_length] at this; simp at this; omega)]
  unfold mk
  refine List.map_congr_left fun j hj => ?_
  exact col_mk (by simpa using hj)
section
variable (n m : Nat) (f : Nat → Nat → Int) (hn : n ≤ 7) (hm : m ≤ 9)
theorem law_l1 (hn : n ≤ 7) (hm : m ≤ 9) (p : Nat) (hp : p < n) (r : Bool) (hend : Ev (fun k => marblerunlaw11_MatrixOf.l0 k (mk n m f) (mk m n fun t p => f p t) (wrap64 ((p : Int) + 1))) r) (d : Nat) :
    ∀ i : Nat, m = i + d → Ev (fun k => marblerunlaw11_MatrixOf.l1 k (mk n m f) (mk m n fun t p => f p t) (p : Int) (i : Int)) r := by
  induction d with
  | zero =>
    intro i hi
    exact Ev.step (fun k => by simp only [marblerunlaw11_MatrixOf.l1]; rw [if_pos (by omega), if_pos (by rw [mk_length]; omega), if_neg (by rw [mk_rowlen hp]; omega)]) hend
  | succ d ih =>
    intro i hi
    refine Ev.step (fun k => ?_) (ih (i + 1) (by omega))
    have him : i < m := by omega
    simp only [marblerunlaw11_MatrixOf.l1]
    rw [if_pos (by omega), if_pos (by rw [mk_length]; omega), if_pos (by rw [mk_rowlen hp]; omega), if_pos (by rw [mk_rowlen hp, mk_length]), if_pos (by omega), if_pos (by rw [mk_length]; omega), if_pos (by rw [mk_rowlen him, mk_length]), if_pos (by rw [mk_rowlen him]; omega), if_pos (by rw [mk_at him hp, mk_at hp him]), wrap_add (n := m) (by omega) (by omega) (by omega)]
    rfl
theorem law_l0 (hn : n ≤ 7) (hm : m ≤ 9) (hn1 : 1 ≤ n) (hm1 : 1 ≤ m) (d : Nat) : ∀ i : Nat, n = i + d → Ev (fun k => marblerunlaw11_MatrixOf.l0 k (mk n m f) (mk m n fun t p => f p t) (i : Int)) true := by
  induction d with
  | zero =>
    intro i hi
    have ht := turn_ev (mk m n fun t p => f p t) n mk_rows (by rw [mk_length]; omega) (by omega)
    rw [turn_mk hm1] at ht
    refine Ev.step (f := fun k => (matrix_Turn.f k (mk m n fun t p => f p t)).bind fun t279 => ((marblerunref01_Same.f k t279 (mk n m f)).bind fun t282 => (some t282))) (fun k => by simp only [marblerunlaw11_MatrixOf.l0]; rw [if_neg (by rw [mk_length]; omega)]) (Ev.bind ht ?_)
    refine Ev.bind (sameL_ev (mk n m f) (fun r hr => by rw [mk_rows r hr]; omega) (by rw [mk_length]; omega)) (Ev.now true)
  | succ d ih =>
    intro i hi
    refine Ev.step (fun k => ?_) (law_l1 n m f hn hm i (by omega) true ?_ m 0 (by simp))
    · simp only [marblerunlaw11_MatrixOf.l0]
      rw [if_pos (by rw [mk_length]; omega)]
      rfl
    · rw [wrap_add (n := n) (by omega) (by omega) (by omega)]
      exact ih (i + 1) (by omega)
end
theorem law_j0 (b : Bool) (l : List Int) (a : List S83) (hl : ∀ q ∈ l, By q) (hll : b = false → l.length ≤ 1000) (ha : ∀ x ∈ a, ActBy x) : Ev (fun k => marblerunlaw11_MatrixOf.j0 k b l a) true := by
  cases b with
  | true =>
    exact Ev.step (f := fun k => (marblerunlaw11_awake.f k).bind fun t => some t) (fun k => by simp only [marblerunlaw11_MatrixOf.j0, if_true]) (Ev.bind awake_ev (Ev.now true))
  | false =>
    obtain ⟨P, T, hmk, hok⟩ := make_ev l a hl (hll rfl) ha
    have h7 := hok.p7
    have h9 := hok.t9
    have h1 := hok.p1
    have hof := of_ev P T hok
    have hch := change_ev P T hok
    have ht := turn_ev (chM P T) T.length mk_rows (by unfold chM; rw [mk_length]; omega) (by omega)
    have hs := sameL_ev (chM P T) (fun r hr => by rw [mk_rows r hr]; omega) (by unfold chM; rw [mk_length]; omega)
    have e : turnS (chM P T) T.length = mk T.length P.length fun t p => chS (rd_T64 T (t : Int)) (p : Int) := turn_mk h1
    rw [e] at ht
    refine Ev.step (f := fun k => (marblerunref05_Make.f k l a).bind fun bt262 => ((matrix_Of.f k bt262.1 bt262.2).bind fun t269 => ((matrix_Turn.f k t269).bind fun t272 => ((marblerunref11_Change.f k bt262.1 bt262.2).bind fun t275 => ((marblerunref01_Same.f k t269 t275).bind fun t278 => (if t278 = true then (if (bt262.2.length : Int) = 0 then (some ((t272.length : Int) == 0)) else (marblerunlaw11_MatrixOf.l0 k t269 t272 0)) else (some false))))))) (fun k => by simp only [marblerunlaw11_MatrixOf.j0]; rw [if_neg (by simp)])
      (Ev.bind hmk (Ev.bind hof (Ev.bind ht (Ev.bind hch (Ev.bind hs ?_)))))
    simp only [if_true]
    by_cases h0 : (T.length : Int) = 0
    · simp only [if_pos h0]
      have : ((mk T.length P.length fun t p => chS (rd_T64 T (t : Int)) (p : Int)).length : Int) = 0 := by rw [mk_length]; exact h0
      rw [this]
      exact Ev.now true
    · simp only [if_neg h0]
      exact law_l0 P.length T.length (fun p t => chS (rd_T64 T (t : Int)) (p : Int)) h7 h9 h1 (by omega) P.length 0 (by simp)
theorem few_ev (l : List Int) (a : List S83) : ∃ b, marblerunlaw11_few.f l a = some b ∧ (b = true → l.length ≤ 60 ∧ a.length ≤ 12) := by
  unfold marblerunlaw11_few.f
  by_cases h : (l.length : Int) ≤ 60
  · refine ⟨_, if_pos h, fun hb => ?_⟩
    have := of_decide_eq_true hb
    omega
  · exact ⟨_, if_neg h, fun hb => by simp at hb⟩
theorem MatrixOf : ∀ (l0 : List Int) (m0 : List S83), l0.length ≤ maxLen → (∀ q ∈ l0, (Lit.int .u8 q).wf = true) → m0.length ≤ maxLen → (∀ a ∈ m0, (Lit.int .u8 a.f0).wf = true ∧ (Lit.int .u8 a.f1).wf = true ∧ (Lit.int .u8 a.f2).wf = true ∧ (Lit.int .u8 a.f3).wf = true ∧ (Lit.int .u8 a.f4).wf = true ∧ (Lit.int .u8 a.f5).wf = true ∧ (Lit.int .u8 a.f6).wf = true) → ∃ k, marblerunlaw11_MatrixOf.f k l0 m0 = some true := by
  intro l a hl hlb ha hab
  refine Ev.rounds ?_
  have hlb' : ∀ q ∈ l, By q := fun q hq => by_of_wf (hlb q hq)
  have hab' : ∀ x ∈ a, ActBy x := fun x hx => by
    obtain ⟨h0, h1, h2, h3, h4, h5, h6⟩ := hab x hx
    exact ⟨by_of_wf h0, by_of_wf h1, by_of_wf h2, by_of_wf h3, by_of_wf h4, by_of_wf h5, by_of_wf h6⟩
  obtain ⟨b, hb, hfew⟩ := few_ev l a
  unfold marblerunlaw11_MatrixOf.f
  refine Ev.bind awake_ev ?_
  simp only [if_true, hb, Option.bind_some]
  refine law_j0 (!b) l a hlb' (fun h => ?_) hab'
  have := hfew (by simpa using h)
  omega
end Go.Proofs.Ytigpmhicdmjbeaa.Pure
