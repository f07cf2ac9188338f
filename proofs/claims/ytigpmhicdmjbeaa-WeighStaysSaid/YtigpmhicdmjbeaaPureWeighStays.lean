/- Along with the functions that WeighStays reaches: what their plain forms answer -/
import Derived.Test.YtigpmhicdmjbeaaPWeighStaysx
import Derived.Laws.BitsLemmas
import Derived.KernelRfl
set_option linter.unusedVariables false
set_option linter.unusedSimpArgs false
namespace Go.Proofs.Ytigpmhicdmjbeaa.M
open Go.RowKit Go.Proofs.YtigpmhicdmjbeaaW.PrintWords
/-- A number of 64 bits. -/
def I (x : Int) : Prop := -9223372036854775808 ≤ x ∧ x ≤ 9223372036854775807
instance (x : Int) : Decidable (I x) := by unfold I; infer_instance
theorem wrap_id {x : Int} (h : I x) : wrap64 x = x := by unfold I at h; unfold wrap64; omega
theorem wrap_I (x : Int) : I (wrap64 x) := by unfold wrap64 I; omega
theorem wrap_add {x : Int} {n : Nat} (h0 : 0 ≤ x) (h1 : x < (n : Int)) (hn : n ≤ 9223372036854775807) : wrap64 (x + 1) = x + 1 := wrap_id (by unfold I; omega)
theorem u64 (x : Int) : IntKind.u64.wrap x = x % 18446744073709551616 := by simp [IntKind.wrap, IntKind.bits, IntKind.signed]
theorem wraps_u64 (n : Int) (h₀ : 0 ≤ n) (h₁ : n < 2 ^ 64) : IntKind.u64.wrap n = n := by rw [u64]; omega
theorem and32 (x : Int) (h₀ : 0 ≤ x) (h₁ : x < 18446744073709551616) : bits .and .u64 x 4294967295 = x % 4294967296 :=
 bits_mask .u64 64 (by decide) wraps_u64 32 (by decide) x h₀ (by omega)
/-- What a number is without its sign. -/
def ab (x : Int) : Int := if x < 0 then -x else x
theorem ab_nat (x : Int) : ab x = (x.natAbs : Int) := by unfold ab; omega
/-- A sum that is a number of 64 bits, or none. -/
def addS (a b : Int) : Int × Bool := if I (a + b) then (a + b, true) else (0, false)
/-- A product likewise. -/
def mulS (a b : Int) : Int × Bool := if I (a * b) then (a * b, true) else (0, false)
/-- A sum of products likewise, from a first sum on. -/
def dotS : Int → List Int → List Int → Int × Bool
 | s, a :: xs, b :: ys => if I (a * b) then (if I (s + a * b) then dotS (s + a * b) xs ys else (0, false)) else (0, false)
 | s, _, _ => (s, true)
theorem hi_lo {x y p0 p1 q0 q1 : Int} (hx : x = p1 * 4294967296 + p0) (hy : y = q1 * 4294967296 + q0) :
  x * y = p1 * q1 * 18446744073709551616 + (p1 * q0 + p0 * q1) * 4294967296 + p0 * q0 := by
 subst hx hy; simp only [Int.add_mul, Int.mul_add]
 have e1 : p1 * 4294967296 * (q1 * 4294967296) = p1 * q1 * 18446744073709551616 := by
  rw [Int.mul_assoc, Int.mul_left_comm 4294967296, ← Int.mul_assoc]; rfl
 have e2 : p0 * (q1 * 4294967296) = p0 * q1 * 4294967296 := by rw [Int.mul_assoc]
 have e3 : p1 * 4294967296 * q0 = p1 * q0 * 4294967296 := by rw [Int.mul_assoc, Int.mul_comm 4294967296, ← Int.mul_assoc]
 rw [e1, e2, e3]; omega
theorem mul_le32 {x y : Int} (hx0 : 0 ≤ x) (hx : x ≤ 4294967295) (hy0 : 0 ≤ y) (hy : y ≤ 4294967295) : 0 ≤ x * y ∧ x * y ≤ 18446744065119617025 := by
 refine ⟨Int.mul_nonneg hx0 hy0, ?_⟩
 have := Int.mul_le_mul hx hy hy0 (by omega)
 omega
theorem rd_lt {xs : List Int} {i : Int} (h0 : 0 ≤ i) (h1 : i < (xs.length : Int)) : rd xs i = xs[i.toNat]'(by omega) := by
 unfold rd; rw [List.getD_eq_getElem?_getD, List.getElem?_eq_getElem (by omega)]; rfl
theorem rd_mem {xs : List Int} {i : Int} (h0 : 0 ≤ i) (h1 : i < (xs.length : Int)) : rd xs i ∈ xs := by rw [rd_lt h0 h1]; exact List.getElem_mem _
end Go.Proofs.Ytigpmhicdmjbeaa.M

namespace Go.Proofs.Ytigpmhicdmjbeaa.M
open Go.RowKit Go.Proofs.YtigpmhicdmjbeaaW.PrintWords
/-- A number of 64 bits above the least one. -/
def J (x : Int) : Prop := -9223372036854775807 ≤ x ∧ x ≤ 9223372036854775807
theorem J.i {x : Int} (h : J x) : I x := by unfold J at h; unfold I; omega
theorem J.nat {x : Int} (h : J x) : x.natAbs ≤ 9223372036854775807 := by unfold J at h; omega
/-- The greatest common divisor of g and all of a list. -/
def gl (g : Nat) (l : List Int) : Nat := l.foldl (fun g x => Nat.gcd g x.natAbs) g
theorem gl_cons (g : Nat) (x : Int) (l : List Int) : gl g (x :: l) = gl (Nat.gcd g x.natAbs) l := rfl
theorem gl_append (g : Nat) (l m : List Int) : gl g (l ++ m) = gl (gl g l) m := by unfold gl; rw [List.foldl_append]
theorem gl_gcd (l : List Int) : ∀ g, gl g l = Nat.gcd g (gl 0 l) := by
 induction l with
 | nil => intro g; simp [gl]
 | cons x l ih => intro g; rw [gl_cons, gl_cons, ih, ih (Nat.gcd 0 _), Nat.gcd_zero_left, Nat.gcd_assoc]
theorem gl_dvd (l : List Int) : ∀ x ∈ l, (gl 0 l) ∣ x.natAbs := by
 induction l with
 | nil => intro x h; simp at h
 | cons a l ih =>
  intro x h
  rw [gl_cons, gl_gcd, Nat.gcd_zero_left]
  rcases List.mem_cons.1 h with rfl | h
  ·exact Nat.gcd_dvd_left _ _
  ·exact Nat.dvd_trans (Nat.gcd_dvd_right _ _) (ih x h)
theorem gl_le (l : List Int) (h : ∀ x ∈ l, J x) : ∀ g, g ≤ 9223372036854775807 → gl g l ≤ 9223372036854775807 := by
 induction l with
 | nil => intro g hg; exact hg
 | cons a l ih =>
  intro g hg
  rw [gl_cons]
  refine ih (fun x hx => h x (List.mem_cons_of_mem _ hx)) _ ?_
  have ha := (h a (List.mem_cons_self ..)).nat
  rcases Nat.eq_zero_or_pos g with e | e
  ·subst e; rw [Nat.gcd_zero_left]; exact ha
  ·exact Nat.le_trans (Nat.gcd_le_left _ e) hg
/-- A vector by the greatest number that all have. -/
def normS (l : List Int) : List Int := if 1 < gl 0 l then l.map (fun x => Int.tdiv x (gl 0 l : Int)) else l
theorem normS_length (l : List Int) : (normS l).length = l.length := by unfold normS; split <;> simp
theorem tdiv_J {x : Int} {g : Nat} (h : J x) : J (Int.tdiv x (g : Int)) := by
 have h1 : (Int.tdiv x (g : Int)).natAbs ≤ x.natAbs := by
  rw [Int.natAbs_tdiv]; exact Nat.div_le_self _ _
 unfold J at *; omega
theorem normS_J {l : List Int} (h : ∀ x ∈ l, J x) : ∀ x ∈ normS l, J x := by
 unfold normS
 split
 ·intro x hx
  obtain ⟨y, hy, rfl⟩ := List.mem_map.1 hx
  exact tdiv_J (h y hy)
 ·exact h
end Go.Proofs.Ytigpmhicdmjbeaa.M

namespace Go.Proofs.Ytigpmhicdmjbeaa.Pure
open Go.RowKit Go.Proofs.Ytigpmhicdmjbeaa.PWeighStays Go.Proofs.YtigpmhicdmjbeaaW.PrintWords Go.Proofs.YtigpmhicdmjbeaaW.PrintLast Go.Proofs.YtigpmhicdmjbeaaW.PrintMore Go.Proofs.Ytigpmhicdmjbeaa.M
/-- A row: its vector, and what is left of its columns. -/
structure RV where
 f0 : List Int
 f1 : List Int
def rd_TRV (xs : List RV) (i : Int) : RV := xs.getD i.toNat ⟨[], []⟩

/-- A byte. -/
def By (x : Int) : Prop := 0 ≤ x ∧ x ≤ 255
theorem by_of_wf {x : Int} (h : (Lit.int .u8 x).wf = true) : By x := by
 simp [Lit.wf, IntKind.min, IntKind.max, IntKind.bits, IntKind.signed] at h
 unfold By; omega
/-- Arcs that may be, of n places. -/
def ArcsOk (n : Nat) (l : List S66) : Prop := l.length ≤ 2 ∧ (∀ a ∈ l, 0 ≤ a.f0 ∧ a.f0 < (n : Int) ∧ 1 ≤ a.f1 ∧ a.f1 ≤ 4) ∧ l.Pairwise fun a b => a.f0 ≠ b.f0
/-- A transition that may be. -/
def TrOk (n : Nat) (t : S64) : Prop := (0 ≤ t.f1 ∧ t.f1 ≤ 4) ∧ (0 ≤ t.f2 ∧ t.f2 ≤ 2) ∧ ArcsOk n t.f3 ∧ ArcsOk n t.f4 ∧ ArcsOk n t.f5
/-- A net that Make makes. -/
structure NetOk (P : List S52) (T : List S64) : Prop where
 p1 : 1 ≤ P.length
 p7 : P.length ≤ 7
 t9 : T.length ≤ 9
 tok : ∀ p ∈ P, 0 ≤ p.f1 ∧ p.f1 ≤ 4
 trs : ∀ t ∈ T, TrOk P.length t
theorem rdA_lt {l : List S66} {i : Nat} (h : i < l.length) : rd_T66 l (i : Int) = l[i] := by
 unfold rd_T66; rw [Int.toNat_natCast, List.getD_eq_getElem?_getD, List.getElem?_eq_getElem h]; rfl
theorem rdA_mem {l : List S66} {i : Nat} (h : i < l.length) : rd_T66 l (i : Int) ∈ l := by rw [rdA_lt h]; exact List.getElem_mem _
theorem dropA_cons {l : List S66} {i : Nat} (h : i < l.length) : l.drop i = rd_T66 l (i : Int) :: l.drop (i + 1) := by
 rw [rdA_lt h]; exact List.drop_eq_getElem_cons h
theorem rdTr_lt {l : List S64} {i : Nat} (h : i < l.length) : rd_T64 l (i : Int) = l[i] := by
 unfold rd_T64; rw [Int.toNat_natCast, List.getD_eq_getElem?_getD, List.getElem?_eq_getElem h]; rfl
theorem rdTr_mem {l : List S64} {i : Nat} (h : i < l.length) : rd_T64 l (i : Int) ∈ l := by rw [rdTr_lt h]; exact List.getElem_mem _
theorem rdP_lt {l : List S52} {i : Nat} (h : i < l.length) : rd_T52 l (i : Int) = l[i] := by
 unfold rd_T52; rw [Int.toNat_natCast, List.getD_eq_getElem?_getD, List.getElem?_eq_getElem h]; rfl
theorem rdP_mem {l : List S52} {i : Nat} (h : i < l.length) : rd_T52 l (i : Int) ∈ l := by rw [rdP_lt h]; exact List.getElem_mem _
theorem rdC_mem {l : List S83} {i : Nat} (h : i < l.length) : rd_T83 l (i : Int) ∈ l := by
 have : rd_T83 l (i : Int) = l[i] := by
  unfold rd_T83; rw [Int.toNat_natCast, List.getD_eq_getElem?_getD, List.getElem?_eq_getElem h]; rfl
 rw [this]; exact List.getElem_mem _
theorem wrap_succ {i : Nat} (h : i < 1000000) : wrap64 ((i : Int) + 1) = ((i + 1 : Nat) : Int) := by rw [wrap_add (n := 1000001) (by omega) (by omega) (by omega)]; rfl

/-- One more arc, if its place isn't there. -/
def putS (l : List S66) (p n : Int) : List S66 := if l.any (fun a => a.f0 == p) then l else l ++ [⟨p, n⟩]
theorem put_loop (l : List S66) (p n : Int) (hl : l.length ≤ 1000) (d : Nat) :
  ∀ i : Nat, l.length = i + d → Ev (fun k => r05put.l0 k l p n (i : Int)) (if (l.drop i).any (fun a => a.f0 == p) then l else l ++ [⟨p, n⟩]) := by
 induction d with
 | zero =>
  intro i hi
  rw [List.drop_eq_nil_of_le (by omega)]
  exact Ev.step (f := fun _ => some (l ++ [⟨p, n⟩])) (fun k => by simp only [r05put.l0]; rw [if_neg (by omega), if_pos (by omega)]) (Ev.now _)
 | succ d ih =>
  intro i hi
  rw [dropA_cons (by omega), List.any_cons]
  by_cases h : (rd_T66 l (i : Int)).f0 = p
  ·refine Ev.step (f := fun _ => some l) (fun k => by simp only [r05put.l0]; rw [if_pos (by omega), if_pos (by omega), if_pos h]) ?_
   rw [if_pos (by simp [h])]; exact Ev.now _
  ·refine Ev.step (f := fun k => r05put.l0 k l p n ((i + 1 : Nat) : Int)) (fun k => ?_) ?_
   ·simp only [r05put.l0]; rw [if_pos (by omega), if_pos (by omega), if_neg h, wrap_add (n := l.length) (by omega) (by omega) (by omega)]; rfl
   ·have := ih (i + 1) (by omega)
    simpa [h] using this
theorem put_ev (l : List S66) (p n : Int) (hl : l.length ≤ 1000) : Ev (fun k => r05put.f k l p n) (putS l p n) := by
 have := put_loop l p n hl l.length 0 (by simp)
 rw [List.drop_zero] at this
 exact this
theorem put_len (l : List S66) (p n : Int) : (putS l p n).length ≤ l.length + 1 := by unfold putS; split <;> simp
theorem arcs_put {m : Nat} {l : List S66} {p n : Int} (h : ArcsOk m l) (hl : l.length ≤ 1) (hp : 0 ≤ p ∧ p < (m : Int)) (hn : 1 ≤ n ∧ n ≤ 4) : ArcsOk m (putS l p n) := by
 obtain ⟨h1, h2, h3⟩ := h
 refine ⟨by have := put_len l p n; omega, fun a ha => ?_, ?_⟩
 ·unfold putS at ha
  split at ha
  ·exact h2 a ha
  ·rcases List.mem_append.1 ha with q | q
   ·exact h2 a q
   ·rw [List.mem_singleton.1 q]; exact ⟨hp.1, hp.2, hn.1, hn.2⟩
 ·unfold putS
  split
  ·exact h3
  ·rename_i hq
   refine List.pairwise_append.2 ⟨h3, List.pairwise_singleton _ _, fun a ha b hb => ?_⟩
   rw [List.mem_singleton.1 hb]
   intro e
   exact hq (List.any_eq_true.2 ⟨a, ha, by simp [e]⟩)
theorem arcs_nil (m : Nat) : ArcsOk m [] := ⟨by simp, fun a ha => by simp at ha, List.Pairwise.nil⟩
theorem str1 (x : Int) : 1 + (strOfNums [x]).size ≤ 9223372036854775807 := by show 1 + 1 ≤ _; omega
theorem str2 (x : Int) : 1 + (strOfNums [x]).size + 2 ≤ 9223372036854775807 := by show 1 + 1 + 2 ≤ _; omega
theorem tmod_by {x : Int} {n : Nat} (h : By x) (hn : 1 ≤ n) : 0 ≤ Int.tmod (wrap64 x) (n : Int) ∧ Int.tmod (wrap64 x) (n : Int) < (n : Int) := by
 unfold By at h
 rw [wrap_id (by unfold I; omega), Int.tmod_eq_emod_of_nonneg h.1]
 exact ⟨Int.emod_nonneg _ (by omega), Int.emod_lt_of_pos _ (by omega)⟩
theorem mod_by (d : Int) {n : Nat} (hn : 1 ≤ n) : 0 ≤ d % 256 % (n : Int) ∧ d % 256 % (n : Int) < (n : Int) := ⟨Int.emod_nonneg _ (by omega), Int.emod_lt_of_pos _ (by omega)⟩
/-- An act of bytes. -/
def ActBy (x : S83) : Prop := By x.f0 ∧ By x.f1 ∧ By x.f2 ∧ By x.f3 ∧ By x.f4 ∧ By x.f5 ∧ By x.f6
section
variable (l : List Int) (m : List S83) (P : List S52) (hm : ∀ a ∈ m, ActBy a) (hml : m.length ≤ 1000) (hp1 : 1 ≤ P.length) (hp7 : P.length ≤ 7) (htok : ∀ p ∈ P, 0 ≤ p.f1 ∧ p.f1 ≤ 4)
/-- What is told of the rest of the run. -/
def Rest (i : Nat) : Prop := ∀ T : List S64, T.length = i → (∀ t ∈ T, TrOk P.length t) → ∃ T', Ev (fun k => r05Make.l1 k (P.length : Int) (i : Int) l m P T) (P, T') ∧ T'.length ≤ 9 ∧ ∀ t ∈ T', TrOk P.length t
theorem make_j6 (i : Nat) (hi : i < 9) (hrest : Rest l m P (i + 1)) (T : List S64) (hT : T.length = i) (hok : ∀ t ∈ T, TrOk P.length t) (x : S83) (hx : ActBy x) (s : ByteArray) (dl pr : Int) (hd : 0 ≤ dl ∧ dl ≤ 4) (hpr : 0 ≤ pr ∧ pr ≤ 2) (a b c : List S66)
  (ha : ArcsOk P.length a) (hb : ArcsOk P.length b) (hc : ArcsOk P.length c) :
  ∃ T', Ev (fun k => r05Make.j6 k (P.length : Int) (i : Int) l m P T x.f0 x.f1 x.f2 x.f3 x.f4 x.f5 x.f6 s dl pr a b c) (P, T') ∧ T'.length ≤ 9 ∧ ∀ t ∈ T', TrOk P.length t := by
 have ew : wrap64 ((i : Int) + 1) = ((i + 1 : Nat) : Int) := by rw [wrap_add (n := 9) (by omega) (by omega) (by omega)]; rfl
 have nxt : ∀ q : Int, 0 ≤ q ∧ q ≤ 4 → ∃ T', Ev (fun k => r05Make.l1 k (P.length : Int) (wrap64 ((i : Int) + 1)) l m P (T ++ [(⟨s, q, pr, a, b, c⟩ : S64)])) (P, T') ∧ T'.length ≤ 9 ∧ ∀ t ∈ T', TrOk P.length t := by
  intro q hq
  rw [ew]
  refine hrest _ (by simp [hT]) (fun t ht => ?_)
  rcases List.mem_append.1 ht with h | h
  ·exact hok t h
  ·rw [List.mem_singleton.1 h]; exact ⟨hq, hpr, ha, hb, hc⟩
 by_cases h0 : dl = 0
 ·by_cases h1 : x.f0 < 128
  ·obtain ⟨T', h, hh⟩ := nxt 1 (by omega)
   exact ⟨T', Ev.step (fun k => by simp only [r05Make.j6]; rw [if_pos h0, if_pos h1, if_pos (by omega)]) h, hh⟩
  ·obtain ⟨T', h, hh⟩ := nxt dl hd
   exact ⟨T', Ev.step (fun k => by simp only [r05Make.j6]; rw [if_pos h0, if_neg h1, if_pos (by omega)]) h, hh⟩
 ·obtain ⟨T', h, hh⟩ := nxt dl hd
  exact ⟨T', Ev.step (fun k => by simp only [r05Make.j6]; rw [if_neg h0, if_pos (by omega)]) h, hh⟩
include hp1 in
theorem make_j5 (i : Nat) (hi : i < 9) (hrest : Rest l m P (i + 1)) (T : List S64) (hT : T.length = i) (hok : ∀ t ∈ T, TrOk P.length t) (x : S83) (hx : ActBy x) (s : ByteArray) (dl pr : Int) (hd : 0 ≤ dl ∧ dl ≤ 4) (hpr : 0 ≤ pr ∧ pr ≤ 2) (a b c : List S66)
  (ha : ArcsOk P.length a) (hb : ArcsOk P.length b) (hc : ArcsOk P.length c) (hcl : c.length ≤ 1) :
  ∃ T', Ev (fun k => r05Make.j5 k (P.length : Int) (i : Int) l m P T x.f0 x.f1 x.f2 x.f3 x.f4 x.f5 x.f6 s dl pr a b c) (P, T') ∧ T'.length ≤ 9 ∧ ∀ t ∈ T', TrOk P.length t := by
 by_cases h : Int.tmod x.f6 3 > 0
 ·obtain ⟨T', h1, h2⟩ := make_j6 l m P i hi hrest T hT hok x hx s dl pr hd hpr a b (putS c (((Int.tdiv x.f6 3) % 256) % (P.length : Int)) 1) ha hb (arcs_put hc hcl (mod_by _ hp1) (by omega))
  exact ⟨T', Ev.step (fun k => by simp only [r05Make.j5]; rw [if_pos h, if_neg (by omega)]) (Ev.bind (put_ev _ _ _ (by omega)) h1), h2⟩
 ·obtain ⟨T', h1, h2⟩ := make_j6 l m P i hi hrest T hT hok x hx s dl pr hd hpr a b c ha hb hc
  exact ⟨T', Ev.step (fun k => by simp only [r05Make.j5]; rw [if_neg h]) h1, h2⟩
include hp1 in
theorem make_j4 (i : Nat) (hi : i < 9) (hrest : Rest l m P (i + 1)) (T : List S64) (hT : T.length = i) (hok : ∀ t ∈ T, TrOk P.length t) (x : S83) (hx : ActBy x) (s : ByteArray) (dl pr : Int) (hd : 0 ≤ dl ∧ dl ≤ 4) (hpr : 0 ≤ pr ∧ pr ≤ 2) (a b : List S66)
  (ha : ArcsOk P.length a) (hb : ArcsOk P.length b) :
  ∃ T', Ev (fun k => r05Make.j4 k (P.length : Int) (i : Int) l m P T x.f0 x.f1 x.f2 x.f3 x.f4 x.f5 x.f6 s dl pr a b) (P, T') ∧ T'.length ≤ 9 ∧ ∀ t ∈ T', TrOk P.length t := by
 by_cases h : Int.tmod x.f5 5 > 0
 ·have hb5 : By x.f5 := hx.2.2.2.2.2.1
  have e : Int.tdiv x.f5 128 = x.f5 / 128 := Int.tdiv_eq_ediv_of_nonneg hb5.1
  obtain ⟨T', h1, h2⟩ := make_j5 l m P hp1 i hi hrest T hT hok x hx s dl pr hd hpr a b (putS [] (((Int.tdiv x.f5 5) % 256) % (P.length : Int)) (1 + ((Int.tdiv x.f5 128) % 256))) ha hb (arcs_put (arcs_nil _) (by simp) (mod_by _ hp1) (by unfold By at hb5; rw [e]; omega)) (put_len _ _ _)
  exact ⟨T', Ev.step (fun k => by simp only [r05Make.j4]; rw [if_pos h, if_neg (by omega)]) (Ev.bind (put_ev [] _ _ (by simp)) h1), h2⟩
 ·obtain ⟨T', h1, h2⟩ := make_j5 l m P hp1 i hi hrest T hT hok x hx s dl pr hd hpr a b [] ha hb (arcs_nil _) (by simp)
  exact ⟨T', Ev.step (fun k => by simp only [r05Make.j4]; rw [if_neg h]) h1, h2⟩
include hp1 in
theorem make_j3 (i : Nat) (hi : i < 9) (hrest : Rest l m P (i + 1)) (T : List S64) (hT : T.length = i) (hok : ∀ t ∈ T, TrOk P.length t) (x : S83) (hx : ActBy x) (s : ByteArray) (dl pr : Int) (hd : 0 ≤ dl ∧ dl ≤ 4) (hpr : 0 ≤ pr ∧ pr ≤ 2) (a : List S66)
  (ha : ArcsOk P.length a) :
  ∃ T', Ev (fun k => r05Make.j3 k (P.length : Int) (i : Int) l m P T x.f0 x.f1 x.f2 x.f3 x.f4 x.f5 x.f6 s dl pr a) (P, T') ∧ T'.length ≤ 9 ∧ ∀ t ∈ T', TrOk P.length t := by
 by_cases h : Int.tmod x.f4 4 = 0
 ·have hb4 : By x.f4 := hx.2.2.2.2.1
  have e : Int.tdiv x.f4 64 = x.f4 / 64 := Int.tdiv_eq_ediv_of_nonneg hb4.1
  obtain ⟨T', h1, h2⟩ := make_j4 l m P hp1 i hi hrest T hT hok x hx s dl pr hd hpr a (putS [] (((Int.tdiv x.f4 4) % 256) % (P.length : Int)) (1 + ((Int.tdiv x.f4 64) % 256))) ha (arcs_put (arcs_nil _) (by simp) (mod_by _ hp1) (by unfold By at hb4; rw [e]; omega))
  exact ⟨T', Ev.step (fun k => by simp only [r05Make.j3]; rw [if_pos h, if_neg (by omega)]) (Ev.bind (put_ev [] _ _ (by simp)) h1), h2⟩
 ·obtain ⟨T', h1, h2⟩ := make_j4 l m P hp1 i hi hrest T hT hok x hx s dl pr hd hpr a [] ha (arcs_nil _)
  exact ⟨T', Ev.step (fun k => by simp only [r05Make.j3]; rw [if_neg h]) h1, h2⟩
include hm hp1 in
theorem make_j2 (i : Nat) (hi : i < 9) (him : i < m.length) (hrest : Rest l m P (i + 1)) (T : List S64) (hT : T.length = i) (hok : ∀ t ∈ T, TrOk P.length t) :
  ∃ T', Ev (fun k => r05Make.j2 k (P.length : Int) (i : Int) true l m P T) (P, T') ∧ T'.length ≤ 9 ∧ ∀ t ∈ T', TrOk P.length t := by
 obtain ⟨x, hxe⟩ : ∃ x, rd_T83 m (i : Int) = x := ⟨_, rfl⟩
 have hx : ActBy x := by rw [← hxe]; exact hm _ (rdC_mem him)
 have hb0 : By x.f0 := hx.1
 have hb1 : By x.f1 := hx.2.1
 have hb2 : By x.f2 := hx.2.2.1
 have ed : wrap64 (Int.tmod x.f0 5) = x.f0 % 5 := by
  have := hb0.1
  rw [Int.tmod_eq_emod_of_nonneg hb0.1]; exact wrap_id (by unfold I; omega)
 have ep : wrap64 (Int.tmod x.f1 3) = x.f1 % 3 := by
  have := hb1.1
  rw [Int.tmod_eq_emod_of_nonneg hb1.1]; exact wrap_id (by unfold I; omega)
 have ha := arcs_put (arcs_nil P.length) (by simp) (tmod_by hb2 hp1) (n := 1 + (((Int.tdiv x.f2 64) % 256) % 2)) (by omega)
 have hal := put_len [] (Int.tmod (wrap64 x.f2) (P.length : Int)) (1 + (((Int.tdiv x.f2 64) % 256) % 2))
 by_cases h : Int.tmod x.f3 3 = 0
 ·obtain ⟨T', h1, h2⟩ := make_j3 l m P hp1 i hi hrest T hT hok x hx ((((⟨#[116]⟩ : ByteArray) ++ (strOfNums ([(wrap64 (48 + (i : Int))) % 256] : List Int))) ++ (⟨#[46, 120]⟩ : ByteArray))) (wrap64 (Int.tmod x.f0 5)) (wrap64 (Int.tmod x.f1 3)) (by rw [ed]; omega) (by rw [ep]; omega) _ (arcs_put ha hal (mod_by (Int.tdiv x.f3 3) hp1) (show (1 : Int) ≤ 1 ∧ (1 : Int) ≤ 4 by omega))
  refine ⟨T', Ev.step (fun k => ?_) (Ev.bind (f := fun k t197 => (r05put.f k t197 (((Int.tdiv x.f3 3) % 256) % (P.length : Int)) 1).bind fun t200 => r05Make.j3 k (P.length : Int) (i : Int) l m P T x.f0 x.f1 x.f2 x.f3 x.f4 x.f5 x.f6 ((((⟨#[116]⟩ : ByteArray) ++ (strOfNums ([(wrap64 (48 + (i : Int))) % 256] : List Int))) ++ (⟨#[46, 120]⟩ : ByteArray))) (wrap64 (Int.tmod x.f0 5)) (wrap64 (Int.tmod x.f1 3)) t200) (put_ev [] (Int.tmod (wrap64 x.f2) (P.length : Int)) (1 + (((Int.tdiv x.f2 64) % 256) % 2)) (by simp)) (Ev.bind (put_ev _ _ _ (by have := hal; simp only [List.length_nil] at this; omega)) h1)), h2⟩
  simp only [r05Make.j2, hxe, if_true]
  rw [if_pos (by omega), if_pos (by omega)]
  simp only [Option.bind_some]
  rw [if_pos (str1 _), if_pos (str2 _), if_neg (by omega)]
  simp only [if_pos h]
 ·obtain ⟨T', h1, h2⟩ := make_j3 l m P hp1 i hi hrest T hT hok x hx ((((⟨#[116]⟩ : ByteArray) ++ (strOfNums ([(wrap64 (48 + (i : Int))) % 256] : List Int))) ++ (⟨#[46, 120]⟩ : ByteArray))) (wrap64 (Int.tmod x.f0 5)) (wrap64 (Int.tmod x.f1 3)) (by rw [ed]; omega) (by rw [ep]; omega) _ ha
  refine ⟨T', Ev.step (fun k => ?_) (Ev.bind (f := fun k t197 => r05Make.j3 k (P.length : Int) (i : Int) l m P T x.f0 x.f1 x.f2 x.f3 x.f4 x.f5 x.f6 ((((⟨#[116]⟩ : ByteArray) ++ (strOfNums ([(wrap64 (48 + (i : Int))) % 256] : List Int))) ++ (⟨#[46, 120]⟩ : ByteArray))) (wrap64 (Int.tmod x.f0 5)) (wrap64 (Int.tmod x.f1 3)) t197) (put_ev [] (Int.tmod (wrap64 x.f2) (P.length : Int)) (1 + (((Int.tdiv x.f2 64) % 256) % 2)) (by simp)) h1), h2⟩
  simp only [r05Make.j2, hxe, if_true]
  rw [if_pos (by omega), if_pos (by omega)]
  simp only [Option.bind_some]
  rw [if_pos (str1 _), if_pos (str2 _), if_neg (by omega)]
  simp only [if_neg h]
include hm hp1 in
theorem make_l1 (d : Nat) : ∀ i : Nat, i ≤ 9 → i ≤ m.length → min 9 m.length = i + d → Rest l m P i := by
 induction d with
 | zero =>
  intro i hi him hd T hT hok
  refine ⟨T, ?_, by omega, hok⟩
  by_cases h : (i : Int) < (m.length : Int)
  ·have h9 : ¬ ((i : Int) < 9) := by omega
   refine Ev.step (f := fun k => r05Make.j2 k (P.length : Int) (i : Int) (decide ((i : Int) < 9)) l m P T) (fun k => by simp only [r05Make.l1]; rw [if_pos h]) ?_
   rw [decide_eq_false h9]
   exact Ev.step (f := fun _ => some (P, T)) (fun k => by simp only [r05Make.j2]; rw [if_neg (by simp)]) (Ev.now _)
  ·refine Ev.step (f := fun k => r05Make.j2 k (P.length : Int) (i : Int) false l m P T) (fun k => by simp only [r05Make.l1]; rw [if_neg h]) ?_
   exact Ev.step (f := fun _ => some (P, T)) (fun k => by simp only [r05Make.j2]; rw [if_neg (by simp)]) (Ev.now _)
 | succ d ih =>
  intro i hi him hd T hT hok
  obtain ⟨T', h1, h2⟩ := make_j2 l m P hm hp1 i (by omega) (by omega) (ih (i + 1) (by omega) (by omega) (by omega)) T hT hok
  refine ⟨T', Ev.step (fun k => ?_) h1, h2⟩
  simp only [r05Make.l1]
  rw [if_pos (by omega), decide_eq_true (show (i : Int) < 9 by omega)]
end
theorem make_l0 (l : List Int) (m : List S83) (hl : ∀ q ∈ l, By q) (hll : l.length ≤ 1000) (hm : ∀ a ∈ m, ActBy a) (d : Nat) :
  ∀ (i : Nat) (P : List S52), 1 + l.length % 7 = i + d → P.length = i → (∀ p ∈ P, 0 ≤ p.f1 ∧ p.f1 ≤ 4) → ∃ P' T', Ev (fun k => r05Make.l0 k (i : Int) l m P) (P', T') ∧ NetOk P' T' := by
 induction d with
 | zero =>
  intro i P hi hP htok
  obtain ⟨T', h1, h2, h3⟩ := make_l1 l m P hm (by omega) (min 9 m.length) 0 (by omega) (by omega) (by omega) [] rfl (fun t ht => by simp at ht)
  refine ⟨P, T', Ev.step (fun k => ?_) h1, by omega, by omega, h2, htok, h3⟩
  simp only [r05Make.l0]
  rw [if_neg (by omega)]
  rfl
 | succ d ih =>
  intro i P hi hP htok
  have ew : wrap64 ((i : Int) + 1) = ((i + 1 : Nat) : Int) := by rw [wrap_add (n := 9) (by omega) (by omega) (by omega)]; rfl
  have nxt : ∀ (s : ByteArray) (q : Int), 0 ≤ q ∧ q ≤ 4 → ∃ P' T', Ev (fun k => r05Make.l0 k (wrap64 ((i : Int) + 1)) l m (P ++ [(⟨s, q⟩ : S52)])) (P', T') ∧ NetOk P' T' := by
   intro s q hq
   rw [ew]
   refine ih (i + 1) _ (by omega) (by simp [hP]) (fun p hp => ?_)
   rcases List.mem_append.1 hp with h | h
   ·exact htok p h
   ·rw [List.mem_singleton.1 h]; exact hq
  by_cases h : (i : Int) < (l.length : Int)
  ·have hb : By (rd l (i : Int)) := hl _ (rd_mem (by omega) h)
   have e : wrap64 (Int.tmod (rd l (i : Int)) 5) = rd l (i : Int) % 5 := by
    have := hb.1
    rw [Int.tmod_eq_emod_of_nonneg hb.1]; exact wrap_id (by unfold I; omega)
   obtain ⟨P', T', h1, h2⟩ := nxt ((⟨#[112]⟩ : ByteArray) ++ (strOfNums ([(wrap64 (97 + (i : Int))) % 256] : List Int))) (wrap64 (Int.tmod (rd l (i : Int)) 5)) (by rw [e]; omega)
   refine ⟨P', T', Ev.step (fun k => ?_) h1, h2⟩
   simp only [r05Make.l0]
   rw [if_pos (by omega), if_pos h, if_pos (by omega)]
   simp only [Option.bind_some]
   rw [if_pos (str1 _), if_pos (by omega)]
  ·obtain ⟨P', T', h1, h2⟩ := nxt ((⟨#[112]⟩ : ByteArray) ++ (strOfNums ([(wrap64 (97 + (i : Int))) % 256] : List Int))) 0 (by omega)
   refine ⟨P', T', Ev.step (fun k => ?_) h1, h2⟩
   simp only [r05Make.l0]
   rw [if_pos (by omega), if_neg h]
   simp only [Option.bind_some]
   rw [if_pos (str1 _), if_pos (by omega)]
/-- Make answers a net that may be. -/
theorem make_ev (l : List Int) (m : List S83) (hl : ∀ q ∈ l, By q) (hll : l.length ≤ 1000) (hm : ∀ a ∈ m, ActBy a) : ∃ P T, Ev (fun k => r05Make.f k l m) (P, T) ∧ NetOk P T := by
 obtain ⟨P, T, h1, h2⟩ := make_l0 l m hl hll hm (1 + l.length % 7) 0 [] (by omega) rfl (fun p hp => by simp at hp)
 exact ⟨P, T, h1, h2⟩

/-- What arcs bring of a place. -/
def sumAt : List S66 → Int → Int
 | [], _ => 0
 | a :: l, p => (if a.f0 = p then a.f1 else 0) + sumAt l p
/-- What a transition changes on a place. -/
def chS (t : S64) (p : Int) : Int := sumAt t.f5 p - sumAt t.f3 p
/-- A matrix by a function. -/
def mk (n m : Nat) (f : Nat → Nat → Int) : List (List Int) := (List.range n).map fun p => (List.range m).map (f p)
/-- A net's matrix. -/
def chM (P : List S52) (T : List S64) : List (List Int) := mk P.length T.length fun p t => chS (rd_T64 T (t : Int)) (p : Int)
theorem mk_length (n m : Nat) (f : Nat → Nat → Int) : (mk n m f).length = n := by simp [mk]
theorem mk_row {n m : Nat} {f : Nat → Nat → Int} {p : Nat} (h : p < n) : rd_L10 (mk n m f) (p : Int) = (List.range m).map (f p) := by
 unfold rd_L10 mk; rw [Int.toNat_natCast, List.getD_eq_getElem?_getD, List.getElem?_map, List.getElem?_range h]; rfl
theorem mk_at {n m : Nat} {f : Nat → Nat → Int} {p t : Nat} (h : p < n) (ht : t < m) : rd (rd_L10 (mk n m f) (p : Int)) (t : Int) = f p t := by
 rw [mk_row h]; unfold rd; rw [Int.toNat_natCast, List.getD_eq_getElem?_getD, List.getElem?_map, List.getElem?_range ht]; rfl
theorem mk_rows {n m : Nat} {f : Nat → Nat → Int} : ∀ r ∈ mk n m f, r.length = m := by
 intro r hr; obtain ⟨p, _, rfl⟩ := List.mem_map.1 hr; simp
theorem sumAt_bound {n : Nat} {l : List S66} (h : ∀ a ∈ l, 0 ≤ a.f0 ∧ a.f0 < (n : Int) ∧ 1 ≤ a.f1 ∧ a.f1 ≤ 4) (p : Int) : 0 ≤ sumAt l p ∧ sumAt l p ≤ 4 * (l.length : Int) := by
 induction l with
 | nil => simp [sumAt]
 | cons a l ih =>
  have h1 := ih fun x hx => h x (List.mem_cons_of_mem _ hx)
  have h2 := h a List.mem_cons_self
  unfold sumAt
  rw [List.length_cons]
  split <;> omega
theorem chS_bound {n : Nat} {t : S64} (h : TrOk n t) (p : Int) : -8 ≤ chS t p ∧ chS t p ≤ 8 := by
 have h3 := sumAt_bound h.2.2.1.2.1 p
 have h5 := sumAt_bound h.2.2.2.2.2.1 p
 have l3 := h.2.2.1.1
 have l5 := h.2.2.2.2.1
 unfold chS; omega
section
variable (T : List S64) (n : Nat) (hT : T.length ≤ 9) (hok : ∀ t ∈ T, TrOk n t)
end
theorem chM_rows {P : List S52} {T : List S64} : ∀ r ∈ chM P T, r.length = T.length := mk_rows
theorem chM_J {P : List S52} {T : List S64} {n : Nat} (hok : ∀ t ∈ T, TrOk n t) : ∀ r ∈ chM P T, ∀ x ∈ r, J x := by
 intro r hr x hx
 obtain ⟨p, _, rfl⟩ := List.mem_map.1 hr
 obtain ⟨t, ht, rfl⟩ := List.mem_map.1 hx
 have := chS_bound (hok _ (rdTr_mem (l := T) (i := t) (by simpa using ht))) (p : Int)
 change J (chS (rd_T64 T (t : Int)) (p : Int))
 unfold J; omega
theorem chM_len (P : List S52) (T : List S64) : (chM P T).length = P.length := mk_length _ _ _

section
variable (P : List S52) (T : List S64) (hT : T.length ≤ 9) (hP : P.length ≤ 1000) (hok : ∀ t ∈ T, TrOk P.length t)
theorem ch_l3 (m : List (List Int)) (p : Nat) (row : List Int) (hrow : row.length ≤ 1000) (t : Nat) (ht : t < T.length) (hl : ∀ a ∈ (rd_T64 T (t : Int)).f3, 0 ≤ a.f0 ∧ a.f0 < (P.length : Int) ∧ 1 ≤ a.f1 ∧ a.f1 ≤ 4) (hll : (rd_T64 T (t : Int)).f3.length ≤ 1000) (r : List (List Int)) (d : Nat) :
  ∀ (i : Nat) (s : Int), (rd_T64 T (t : Int)).f3.length = i + d → -100 - 4 * (i : Int) ≤ s → s ≤ 100 + 4 * (i : Int) →
  Ev (fun k => r11Change.l1 k m (p : Int) (row ++ [s - sumAt ((rd_T64 T (t : Int)).f3.drop i) (p : Int)]) (wrap64 ((t : Int) + 1)) P T) r →
  Ev (fun k => r11Change.l3 k m (p : Int) row (t : Int) s (i : Int) P T) r := by
 induction d with
 | zero =>
  intro i s hi h1 h2 hend
  rw [List.drop_eq_nil_of_le (by omega), sumAt, Int.sub_zero] at hend
  exact Ev.step (fun k => by simp only [r11Change.l3]; rw [if_pos (by omega), if_pos (by omega), if_neg (by omega), if_pos (by omega)]) hend
 | succ d ih =>
  intro i s hi h1 h2 hend
  have ha := hl _ (rdA_mem (i := i) (by omega))
  rw [dropA_cons (by omega), sumAt] at hend
  obtain ⟨a, hae⟩ : ∃ a, rd_T66 (rd_T64 T (t : Int)).f3 (i : Int) = a := ⟨_, rfl⟩
  rw [hae] at ha hend
  by_cases h : a.f0 = (p : Int)
  ·rw [if_pos h] at hend
   refine Ev.step (f := fun k => r11Change.l3 k m (p : Int) row (t : Int) (s - a.f1) ((i + 1 : Nat) : Int) P T) (fun k => ?_) (ih (i + 1) _ (by omega) (by omega) (by omega) ?_)
   ·simp only [r11Change.l3, hae]
    rw [if_pos (by omega), if_pos (by omega), if_pos (by omega), if_pos (by omega), if_pos h, wrap_succ (by omega), wrap_id (by unfold I; omega)]
   ·rw [show s - a.f1 - sumAt ((rd_T64 T (t : Int)).f3.drop (i + 1)) (p : Int) = s - (a.f1 + sumAt ((rd_T64 T (t : Int)).f3.drop (i + 1)) (p : Int)) by omega]
    exact hend
  ·rw [if_neg h] at hend
   refine Ev.step (f := fun k => r11Change.l3 k m (p : Int) row (t : Int) s ((i + 1 : Nat) : Int) P T) (fun k => ?_) (ih (i + 1) _ (by omega) (by omega) (by omega) ?_)
   ·simp only [r11Change.l3, hae]
    rw [if_pos (by omega), if_pos (by omega), if_pos (by omega), if_pos (by omega), if_neg h, wrap_succ (by omega)]
   ·rw [Int.zero_add] at hend
    exact hend
theorem ch_l2 (m : List (List Int)) (p : Nat) (row : List Int) (t : Nat) (ht : t < T.length) (hl : ∀ a ∈ (rd_T64 T (t : Int)).f5, 0 ≤ a.f0 ∧ a.f0 < (P.length : Int) ∧ 1 ≤ a.f1 ∧ a.f1 ≤ 4) (hll : (rd_T64 T (t : Int)).f5.length ≤ 1000) (r : List (List Int)) (d : Nat) :
  ∀ (i : Nat) (s : Int), (rd_T64 T (t : Int)).f5.length = i + d → -50 - 4 * (i : Int) ≤ s → s ≤ 50 + 4 * (i : Int) →
  Ev (fun k => r11Change.l3 k m (p : Int) row (t : Int) (s + sumAt ((rd_T64 T (t : Int)).f5.drop i) (p : Int)) 0 P T) r →
  Ev (fun k => r11Change.l2 k m (p : Int) row (t : Int) s (i : Int) P T) r := by
 induction d with
 | zero =>
  intro i s hi h1 h2 hend
  rw [List.drop_eq_nil_of_le (by omega), sumAt, Int.add_zero] at hend
  exact Ev.step (fun k => by simp only [r11Change.l2]; rw [if_pos (by omega), if_pos (by omega), if_neg (by omega)]) hend
 | succ d ih =>
  intro i s hi h1 h2 hend
  have ha := hl _ (rdA_mem (i := i) (by omega))
  rw [dropA_cons (by omega), sumAt] at hend
  obtain ⟨a, hae⟩ : ∃ a, rd_T66 (rd_T64 T (t : Int)).f5 (i : Int) = a := ⟨_, rfl⟩
  rw [hae] at ha hend
  by_cases h : a.f0 = (p : Int)
  ·rw [if_pos h] at hend
   refine Ev.step (f := fun k => r11Change.l2 k m (p : Int) row (t : Int) (s + a.f1) ((i + 1 : Nat) : Int) P T) (fun k => ?_) (ih (i + 1) _ (by omega) (by omega) (by omega) ?_)
   ·simp only [r11Change.l2, hae]
    rw [if_pos (by omega), if_pos (by omega), if_pos (by omega), if_pos (by omega), if_pos h, wrap_succ (by omega), wrap_id (by unfold I; omega)]
   ·rw [Int.add_assoc]
    exact hend
  ·rw [if_neg h] at hend
   refine Ev.step (f := fun k => r11Change.l2 k m (p : Int) row (t : Int) s ((i + 1 : Nat) : Int) P T) (fun k => ?_) (ih (i + 1) _ (by omega) (by omega) (by omega) ?_)
   ·simp only [r11Change.l2, hae]
    rw [if_pos (by omega), if_pos (by omega), if_pos (by omega), if_pos (by omega), if_neg h, wrap_succ (by omega)]
   ·rw [Int.zero_add] at hend
    exact hend
include hT hok in
theorem ch_l1 (m : List (List Int)) (hm : m.length ≤ 1000) (p : Nat) (r : List (List Int)) (hend : Ev (fun k => r11Change.l0 k (m ++ [(List.range T.length).map fun t => chS (rd_T64 T ((t : Nat) : Int)) (p : Int)]) (wrap64 ((p : Int) + 1)) P T) r) (d : Nat) :
  ∀ i : Nat, T.length = i + d → Ev (fun k => r11Change.l1 k m (p : Int) ((List.range i).map fun t => chS (rd_T64 T ((t : Nat) : Int)) (p : Int)) (i : Int) P T) r := by
 induction d with
 | zero =>
  intro i hi
  rw [show i = T.length by omega]
  exact Ev.step (fun k => by simp only [r11Change.l1]; rw [if_neg (by omega), if_pos (by omega)]) hend
 | succ d ih =>
  intro i hi
  have hk := hok _ (rdTr_mem (l := T) (i := i) (by omega))
  have l3 := hk.2.2.1.1
  have l5 := hk.2.2.2.2.1
  have b5 := sumAt_bound hk.2.2.2.2.2.1 (p : Int)
  refine Ev.step (f := fun k => r11Change.l2 k m (p : Int) ((List.range i).map fun t => chS (rd_T64 T ((t : Nat) : Int)) (p : Int)) (i : Int) 0 ((0 : Nat) : Int) P T) (fun k => by simp only [r11Change.l1]; rw [if_pos (by omega)]; rfl)
   (ch_l2 P T m p _ i (by omega) hk.2.2.2.2.2.1 (by omega) r (rd_T64 T (i : Int)).f5.length 0 0 (by simp) (by omega) (by omega)
    (ch_l3 P T m p _ (by simp; omega) i (by omega) hk.2.2.1.2.1 (by omega) r (rd_T64 T (i : Int)).f3.length 0 _ (by simp) (by rw [List.drop_zero]; omega) (by rw [List.drop_zero]; omega) ?_))
  rw [wrap_succ (by omega), List.drop_zero, List.drop_zero]
  have := ih (i + 1) (by omega)
  rw [List.range_succ, List.map_append] at this
  rw [show (0 : Int) + sumAt (rd_T64 T (i : Int)).f5 (p : Int) - sumAt (rd_T64 T (i : Int)).f3 (p : Int) = chS (rd_T64 T (i : Int)) (p : Int) by unfold chS; omega]
  exact this
include hT hP hok in
theorem ch_l0 (d : Nat) : ∀ i : Nat, P.length = i + d → Ev (fun k => r11Change.l0 k ((List.range i).map fun p => (List.range T.length).map fun t => chS (rd_T64 T ((t : Nat) : Int)) ((p : Nat) : Int)) (i : Int) P T) (chM P T) := by
 induction d with
 | zero =>
  intro i hi
  rw [show i = P.length by omega]
  exact Ev.step (f := fun _ => some (chM P T)) (fun k => by simp only [r11Change.l0]; rw [if_neg (by omega)]; rfl) (Ev.now _)
 | succ d ih =>
  intro i hi
  refine Ev.step (f := fun k => r11Change.l1 k ((List.range i).map fun p => (List.range T.length).map fun t => chS (rd_T64 T ((t : Nat) : Int)) ((p : Nat) : Int)) (i : Int) ((List.range 0).map fun t => chS (rd_T64 T ((t : Nat) : Int)) ((i : Nat) : Int)) ((0 : Nat) : Int) P T) (fun k => by simp only [r11Change.l0]; rw [if_pos (by omega)]; rfl)
   (ch_l1 P T hT hok _ (by simp; omega) i _ ?_ T.length 0 (by simp))
  rw [wrap_succ (by omega)]
  have := ih (i + 1) (by omega)
  rw [List.range_succ, List.map_append] at this
  exact this
end
theorem change_ev (P : List S52) (T : List S64) (h : NetOk P T) : Ev (fun k => r11Change.f k P T) (chM P T) := by
 have h7 := h.p7
 exact ch_l0 P T h.t9 (by omega) h.trs P.length 0 (by simp)

theorem size_is {a : Int} (h : I a) : whole_size.f a = some (ab a) := by
 unfold I at h
 unfold whole_size.f ab
 simp only [u64]
 split
 ·rw [show (-(a % 18446744073709551616)) % 18446744073709551616 = -a by omega]
 ·rw [show a % 18446744073709551616 = a by omega]

theorem mul64_is {x y : Int} (hx0 : 0 ≤ x) (hx : x < 18446744073709551616) (hy0 : 0 ≤ y) (hy : y < 18446744073709551616) :
  bits_Mul64.f x y = some (x * y / 18446744073709551616, x * y % 18446744073709551616) := by
 unfold bits_Mul64.f
 rw [and32 y hy0 hy, and32 x hx0 hx]
 obtain ⟨x1, hx1⟩ : ∃ z, z = x / 4294967296 := ⟨_, rfl⟩
 obtain ⟨x0, hx0'⟩ : ∃ z, z = x % 4294967296 := ⟨_, rfl⟩
 obtain ⟨y1, hy1⟩ : ∃ z, z = y / 4294967296 := ⟨_, rfl⟩
 obtain ⟨y0, hy0'⟩ : ∃ z, z = y % 4294967296 := ⟨_, rfl⟩
 rw [← hx1, ← hx0', ← hy1, ← hy0']
 have e := hi_lo (x := x) (y := y) (p0 := x0) (p1 := x1) (q0 := y0) (q1 := y1) (by omega) (by omega)
 have b11 := mul_le32 (x := x1) (y := y1) (by omega) (by omega) (by omega) (by omega)
 have b10 := mul_le32 (x := x1) (y := y0) (by omega) (by omega) (by omega) (by omega)
 have b01 := mul_le32 (x := x0) (y := y1) (by omega) (by omega) (by omega) (by omega)
 have b00 := mul_le32 (x := x0) (y := y0) (by omega) (by omega) (by omega) (by omega)
 rw [e]
 generalize x1 * y1 = p11 at *
 generalize x1 * y0 = p10 at *
 generalize x0 * y1 = p01 at *
 generalize x0 * y0 = p00 at *
 simp only [u64]
 have w11 : p11 % 18446744073709551616 = p11 := by omega
 have w10 : p10 % 18446744073709551616 = p10 := by omega
 have w01 : p01 % 18446744073709551616 = p01 := by omega
 have w00 : p00 % 18446744073709551616 = p00 := by omega
 rw [w11, w10, w01, w00]
 obtain ⟨t, ht⟩ : ∃ z, z = p10 + p00 / 4294967296 := ⟨_, rfl⟩
 have wt : (p10 + p00 / 4294967296) % 18446744073709551616 = t := by omega
 rw [wt, and32 t (by omega) (by omega)]
 congr 2
 omega
theorem mul_ab (a b : Int) : ab a * ab b = if (decide (a < 0)) = (decide (b < 0)) then a * b else -(a * b) := by
 unfold ab
 by_cases ha : a < 0 <;> by_cases hb : b < 0 <;> simp [ha, hb, Int.neg_mul, Int.mul_neg]
theorem ab_le {a : Int} (h : I a) : 0 ≤ ab a ∧ ab a ≤ 9223372036854775808 := by unfold I at h; unfold ab; omega
theorem mul_ev {a b : Int} (ha : I a) (hb : I b) : Ev (fun k => whole_Mul.f k a b) (mulS a b) := by
 have hp0 := ab_le ha
 have hq0 := ab_le hb
 have hpn : 0 ≤ ab a * ab b := Int.mul_nonneg hp0.1 hq0.1
 have hm := mul_ab a b
 refine Ev.of (k := 3) (whole_Mul.mono a b) ?_
 unfold whole_Mul.f
 rw [size_is ha, size_is hb]
 simp only [Option.bind_some]
 rw [mul64_is hp0.1 (by omega) hq0.1 (by omega)]
 simp only [Option.bind_some]
 generalize hP : ab a * ab b = P at *
 have key : ∀ neg : Bool, (a * b = if neg then -P else P) → (neg = true → P ≠ 0) → whole_Mul.j0 3 (P / 18446744073709551616) (P % 18446744073709551616) neg = some (mulS a b) := by
  intro neg hn hz
  have hI : I (a * b) ↔ (if neg then P ≤ 9223372036854775808 else P ≤ 9223372036854775807) := by
   rw [hn]; unfold I; cases neg <;> simp <;> omega
  unfold mulS
  by_cases h1 : P / 18446744073709551616 > 0
  ·have h2 : ¬ I (a * b) := by rw [hI]; cases neg <;> simp <;> omega
   rw [if_neg h2]; simp only [whole_Mul.j0, whole_Mul.j1]; rw [if_pos h1]; rfl
  ·have e : P % 18446744073709551616 = P := by omega
   rw [e]
   simp only [whole_Mul.j0, whole_Mul.j1]
   rw [if_neg h1]
   by_cases h2 : P > 9223372036854775808
   ·have h3 : ¬ I (a * b) := by rw [hI]; cases neg <;> simp <;> omega
    rw [if_neg h3, if_pos h2]; rfl
   ·rw [if_neg h2]
    by_cases h4 : P = 9223372036854775808
    ·rw [if_pos h4]
     cases neg with
     | true =>
      have h3 : I (a * b) := by rw [hI]; simp; omega
      rw [if_pos h3]
      simp only [Bool.not_true, if_true] at *
      rw [hn, u64]
      simp only [Bool.false_eq_true, if_false]
      congr 2
      unfold wrap64; omega
     | false =>
      have h3 : ¬ I (a * b) := by rw [hI]; simp; omega
      rw [if_neg h3]; rfl
    ·rw [if_neg h4]
     have h3 : I (a * b) := by rw [hI]; cases neg <;> simp <;> omega
     rw [if_pos h3]
     simp only [Bool.false_eq_true, if_false]
     cases neg with
     | true =>
      simp only [if_true] at *
      have := hz trivial
      rw [hn, u64]
      congr 2
      unfold wrap64; omega
     | false =>
      simp only [Bool.false_eq_true, if_false] at *
      rw [hn]
      congr 2
      unfold wrap64; omega
 have hne : ∀ {x : Int}, x ≠ 0 → 1 ≤ ab x := by intro x hx; unfold ab; omega
 by_cases hs : decide (a < 0) = decide (b < 0)
 ·rw [if_neg (by simp [hs])]
  rw [if_pos hs] at hm
  exact key false (by simp [hm]) (by simp)
 ·rw [if_pos (by simpa using hs)]
  rw [if_neg hs] at hm
  by_cases ha0 : a = 0
  ·rw [if_pos ha0]
   refine key false ?_ (by simp)
   subst ha0; simp only [Int.zero_mul] at hm ⊢; simp; omega
  ·rw [if_neg ha0]
   by_cases hb0 : b = 0
   ·rw [show (b != 0) = false by simp [hb0]]
    refine key false ?_ (by simp)
    subst hb0; simp only [Int.mul_zero] at hm ⊢; simp; omega
   ·rw [show (b != 0) = true by simp [hb0]]
    refine key true (by simp; omega) (fun _ => ?_)
    rw [← hP]
    have h1 := hne ha0
    have h2 := hne hb0
    have := Int.mul_le_mul h1 h2 (by omega) (by omega)
    omega

theorem add_is {a b : Int} (ha : I a) (hb : I b) : whole_Add.f a b = some (addS a b) := by
 unfold whole_Add.f addS
 by_cases hI : I (a + b)
 ·rw [if_pos hI, wrap_id hI]
  unfold I at ha hb hI
  by_cases h1 : a < 0 <;> by_cases h2 : b < 0 <;> by_cases h3 : a + b < 0 <;> simp [h1, h2, h3] <;> omega
 ·rw [if_neg hI]
  unfold I at ha hb hI
  have hi := wrap_I (a + b)
  unfold I at hi
  have hw : wrap64 (a + b) = a + b - 18446744073709551616 ∨ wrap64 (a + b) = a + b + 18446744073709551616 := by unfold wrap64; omega
  by_cases h1 : a < 0 <;> by_cases h2 : b < 0 <;> by_cases h3 : wrap64 (a + b) < 0 <;> simp [h1, h2, h3] <;> omega

theorem radd_is {a b : Int} (ha : I a) (hb : I b) : r01Add.f a b = some (addS a b) := by
 unfold I at ha hb
 have h1 : b > 0 → wrap64 (9223372036854775807 - b) = 9223372036854775807 - b := fun h => wrap_id (by unfold I; omega)
 have h2 : b < 0 → wrap64 ((-9223372036854775808) - b) = -9223372036854775808 - b := fun h => wrap_id (by unfold I; omega)
 have h3 : I (a + b) → wrap64 (a + b) = a + b := wrap_id
 unfold r01Add.f addS
 by_cases hI : I (a + b)
 ·rw [if_pos hI, h3 hI]
  unfold I at hI
  by_cases p : b > 0
  ·rw [if_pos p, h1 p, if_neg (by omega), if_neg (by omega)]
  ·rw [if_neg p]
   by_cases n : b < 0
   ·rw [if_pos n, h2 n, if_neg (by omega)]
   ·rw [if_neg n]
 ·rw [if_neg hI]
  unfold I at hI
  by_cases p : b > 0
  ·rw [if_pos p, h1 p, if_pos (by omega)]
  ·rw [if_neg p, if_pos (by omega), h2 (by omega), if_pos (by omega)]

theorem odd_part {x y : Int} (hx0 : 1 ≤ x) (hy0 : 1 ≤ y) (hy : y ≤ 9223372036854775807) (h : x * y = 9223372036854775808) : x % 2 = 0 := by
 obtain ⟨a, rfl⟩ := Int.eq_ofNat_of_zero_le (show 0 ≤ x by omega)
 obtain ⟨b, rfl⟩ := Int.eq_ofNat_of_zero_le (show 0 ≤ y by omega)
 have hn : a * b = 2 ^ 63 := by
  have : ((a * b : Nat) : Int) = 9223372036854775808 := by rw [Int.natCast_mul]; exact h
  omega
 rcases Nat.mod_two_eq_zero_or_one a with e | e
 ·omega
 ·exfalso
  have hc : Nat.Coprime a 2 := by
   have h2 := Nat.gcd_rec 2 a
   rw [e] at h2
   rw [Nat.coprime_comm]
   exact h2
  have h1 := Nat.Coprime.eq_one_of_dvd (Nat.Coprime.pow_right 63 hc) ⟨b, hn.symm⟩
  rw [h1] at hn
  omega
theorem pos_mul {x y : Int} (hx0 : 1 ≤ x) (hy0 : 1 ≤ y) : 1 ≤ x * y := by
 have := Int.mul_le_mul hx0 hy0 (by omega) (by omega)
 omega
theorem half_ne {x y : Int} (ev : x % 2 = 0) (hx0 : 1 ≤ x) (hy0 : 1 ≤ y) (hle : x / 2 * y ≤ 9223372036854775807) (hE : x * y ≠ 9223372036854775808) : ¬ wrap64 (x / 2 * y) = 4611686018427387904 := by
 intro e
 have h0 : 0 ≤ x / 2 * y := Int.mul_nonneg (by omega) (by omega)
 rw [wrap_id ⟨by omega, by omega⟩] at e
 apply hE
 have : x * y = 2 * (x / 2 * y) := by rw [← Int.mul_assoc, show 2 * (x / 2) = x by omega]
 omega
theorem le_div_iff {x y : Int} (hy0 : 1 ≤ y) (hy : y ≤ 9223372036854775807) : x ≤ wrap64 (Int.tdiv 9223372036854775807 y) ↔ x * y ≤ 9223372036854775807 := by
 rw [Int.tdiv_eq_ediv_of_nonneg (by omega)]
 have h1 : 0 ≤ (9223372036854775807 : Int) / y := Int.ediv_nonneg (by omega) (by omega)
 have h2 : (9223372036854775807 : Int) / y ≤ 9223372036854775807 := Int.ediv_le_self _ (by omega)
 rw [wrap_id ⟨by omega, by omega⟩]
 exact Int.le_ediv_iff_mul_le (by omega)
theorem half_is {x : Int} (hx0 : 1 ≤ x) (hx : x ≤ 9223372036854775807) : wrap64 (Int.tdiv x 2) = x / 2 := by
 rw [Int.tdiv_eq_ediv_of_nonneg (by omega)]
 exact wrap_id ⟨by omega, by omega⟩
/-- What is left where the product lies below 0. -/
def negB (x y : Int) (J : Option (Int × Bool)) : Option (Int × Bool) := if x ≤ wrap64 (Int.tdiv (9223372036854775807 : Int) y) then some (wrap64 (-(wrap64 (x * y))), true) else
 if Int.tmod x 2 = 0 then (if wrap64 (Int.tdiv x 2) ≤ wrap64 (Int.tdiv (9223372036854775807 : Int) y) then (if wrap64 ((wrap64 (Int.tdiv x 2)) * y) = 4611686018427387904 then some ((-9223372036854775808), true) else J) else J) else J
theorem negB_is {x y : Int} {J : Option (Int × Bool)} (hx0 : 1 ≤ x) (hx : x ≤ 9223372036854775807) (hy0 : 1 ≤ y) (hy : y ≤ 9223372036854775807) (hJ : x * y ≠ 9223372036854775808 → J = some (0, false)) :
  negB x y J = some (if x * y ≤ 9223372036854775808 then (-(x * y), true) else (0, false)) := by
 have hp : 1 ≤ x * y := pos_mul hx0 hy0
 unfold negB
 simp only [le_div_iff hy0 hy, half_is hx0 hx, Int.tmod_eq_emod_of_nonneg (show 0 ≤ x by omega)]
 by_cases h : x * y ≤ 9223372036854775807
 ·rw [if_pos h, if_pos (by omega), wrap_id (x := x * y) ⟨by omega, by omega⟩, wrap_id ⟨by omega, by omega⟩]
 ·rw [if_neg h]
  by_cases hE : x * y = 9223372036854775808
  ·have ev := odd_part hx0 hy0 hy hE
   have e2 : x / 2 * y = 4611686018427387904 := by
    have : 2 * (x / 2) * y = 9223372036854775808 := by rw [show 2 * (x / 2) = x by omega]; exact hE
    rw [Int.mul_assoc] at this; omega
   rw [if_pos ev, if_pos (by omega), e2, if_pos (wrap_id ⟨by omega, by omega⟩), if_pos (by omega), hE]
  ·rw [hJ hE, if_neg (show ¬ x * y ≤ 9223372036854775808 by omega)]
   split
   ·rename_i ev
    split
    ·rename_i hle
     rw [if_neg (half_ne ev hx0 hy0 hle hE)]
    ·rfl
   ·rfl
theorem last_is {x y : Int} (hx0 : 1 ≤ x) (hx : x ≤ 9223372036854775807) (hy0 : 1 ≤ y) (hy : y ≤ 9223372036854775807) (hE : x * y ≠ 9223372036854775808) :
  (if Int.tmod y 2 = 0 then (if wrap64 (Int.tdiv y 2) ≤ wrap64 (Int.tdiv (9223372036854775807 : Int) x) then (if wrap64 ((wrap64 (Int.tdiv y 2)) * x) = 4611686018427387904 then some ((-9223372036854775808 : Int), true) else some (0, false)) else some (0, false)) else some (0, false)) = some (0, false) := by
 simp only [le_div_iff hx0 hx, half_is hy0 hy, Int.tmod_eq_emod_of_nonneg (show 0 ≤ y by omega)]
 split
 ·rename_i ev
  split
  ·rename_i hle
   rw [if_neg (half_ne ev hy0 hx0 hle (by rw [Int.mul_comm]; exact hE))]
  ·rfl
 ·rfl
theorem rmul_is {a b : Int} (ha : I a) (hb : I b) : r01Mul.f a b = some (mulS a b) := by
 unfold r01Mul.f
 by_cases a0 : a = 0
 ·rw [if_pos a0]; subst a0; simp [mulS, I]
 rw [if_neg a0]
 by_cases b0 : b = 0
 ·rw [if_pos b0]; subst b0; simp [mulS, I]
 rw [if_neg b0]
 unfold I at ha hb
 by_cases am : a = -9223372036854775808
 ·rw [if_pos am, if_neg (by omega)]
  subst am
  by_cases b1 : b = 1
  ·rw [if_pos b1]; subst b1; simp [mulS, I]
  ·rw [if_neg b1, mulS, if_neg]
   unfold I; omega
 rw [if_neg am]
 by_cases bm : b = -9223372036854775808
 ·rw [if_pos bm]
  subst bm
  by_cases a1 : a = 1
  ·rw [if_pos a1]; subst a1; simp [mulS, I]
  ·rw [if_neg a1, if_neg (by omega), mulS, if_neg]
   unfold I; omega
 rw [if_neg bm]
 have wa : wrap64 (-a) = -a := wrap_id ⟨by omega, by omega⟩
 have wb : wrap64 (-b) = -b := wrap_id ⟨by omega, by omega⟩
 rw [wa, wb]
 by_cases an : a < 0
 ·rw [if_pos an]
  by_cases bn : b < 0
  ·rw [if_pos bn, if_neg (by omega)]
   simp only [le_div_iff (x := -a) (y := -b) (by omega) (by omega), Int.neg_mul_neg]
   have hp : 1 ≤ a * b := by
    have := pos_mul (x := -a) (y := -b) (by omega) (by omega)
    rwa [Int.neg_mul_neg] at this
   by_cases h : a * b ≤ 9223372036854775807
   ·rw [if_pos h, mulS, if_pos (show I (a * b) from ⟨by omega, by omega⟩), wrap_id ⟨by omega, by omega⟩]
   ·rw [if_neg h, mulS, if_neg (by unfold I; omega)]
  ·rw [if_neg bn]
   refine Eq.trans (show _ = negB (-a) b _ from rfl) ?_
   rw [negB_is (by omega) (by omega) (by omega) (by omega) (fun hE => by rw [if_neg (show ¬ -a = 0 by omega)]; exact last_is (by omega) (by omega) (by omega) (by omega) hE), Int.neg_mul, Int.neg_neg]
   have hp : a * b ≤ -1 := by
    have := pos_mul (x := -a) (y := b) (by omega) (by omega)
    rw [Int.neg_mul] at this; omega
   by_cases h : -(a * b) ≤ 9223372036854775808
   ·rw [if_pos h, mulS, if_pos (show I (a * b) from ⟨by omega, by omega⟩)]
   ·rw [if_neg h, mulS, if_neg (by unfold I; omega)]
 ·rw [if_neg an]
  by_cases bn : b < 0
  ·rw [if_pos bn, if_neg (by omega)]
   refine Eq.trans (show _ = negB a (-b) _ from rfl) ?_
   rw [negB_is (by omega) (by omega) (by omega) (by omega) (fun hE => last_is (by omega) (by omega) (by omega) (by omega) hE), Int.mul_neg, Int.neg_neg]
   have hp : a * b ≤ -1 := by
    have := pos_mul (x := a) (y := -b) (by omega) (by omega)
    rw [Int.mul_neg] at this; omega
   by_cases h : -(a * b) ≤ 9223372036854775808
   ·rw [if_pos h, mulS, if_pos (show I (a * b) from ⟨by omega, by omega⟩)]
   ·rw [if_neg h, mulS, if_neg (by unfold I; omega)]
  ·rw [if_neg bn]
   have hp : 1 ≤ a * b := pos_mul (by omega) (by omega)
   simp only [le_div_iff (x := a) (y := b) (by omega) (by omega)]
   by_cases h : a * b ≤ 9223372036854775807
   ·rw [if_pos h, mulS, if_pos (show I (a * b) from ⟨by omega, by omega⟩), wrap_id ⟨by omega, by omega⟩]
   ·rw [if_neg h, mulS, if_neg (by unfold I; omega)]

theorem drop_cons {l : List Int} {i : Nat} (h : i < l.length) : l.drop i = rd l (i : Int) :: l.drop (i + 1) := by
 rw [List.drop_eq_getElem_cons h, rd_lt (by omega) (by omega)]; rfl

theorem mulS_I (a b : Int) : I (mulS a b).1 := by
 unfold mulS; split
 ·assumption
 ·decide
theorem dotS_cons (s a b : Int) (xs ys : List Int) : dotS s (a :: xs) (b :: ys) = if I (a * b) then (if I (s + a * b) then dotS (s + a * b) xs ys else (0, false)) else (0, false) := rfl
theorem dot_loop (l0 l1 : List Int) (h0 : ∀ x ∈ l0, I x) (h1 : ∀ x ∈ l1, I x) (hb : l0.length ≤ 9223372036854775806) (d : Nat) :
  ∀ (i : Nat), min l0.length l1.length = i + d → ∀ s, I s → Ev (fun k => whole_Dot.l0 k l0 l1 s ((min l0.length l1.length : Nat) : Int) (i : Int)) (dotS s (l0.drop i) (l1.drop i)) := by
 induction d with
 | zero =>
  intro i hi s hs
  refine Ev.step (f := fun _ => some (s, true)) (fun k => by simp only [whole_Dot.l0]; rw [if_neg (by omega)]) ?_
  have : dotS s (l0.drop i) (l1.drop i) = (s, true) := by
   by_cases h : l0.length ≤ i
   ·rw [List.drop_eq_nil_of_le h]; rfl
   ·rw [List.drop_eq_nil_of_le (show l1.length ≤ i by omega)]; cases l0.drop i <;> rfl
  rw [this]; exact Ev.now _
 | succ d ih =>
  intro i hi s hs
  have e0 := drop_cons (l := l0) (i := i) (by omega)
  have e1 := drop_cons (l := l1) (i := i) (by omega)
  rw [e0, e1, dotS_cons]
  have i0 := h0 _ (rd_mem (xs := l0) (i := (i : Int)) (by omega) (by omega))
  have i1 := h1 _ (rd_mem (xs := l1) (i := (i : Int)) (by omega) (by omega))
  refine Ev.step (f := fun k => (whole_Mul.f k (rd l0 (i : Int)) (rd l1 (i : Int))).bind fun p => ((whole_Add.f s p.1).bind fun q => (if p.2 = true then (if q.2 = true then (whole_Dot.l0 k l0 l1 q.1 ((min l0.length l1.length : Nat) : Int) (wrap64 ((i : Int) + 1))) else (some (0, false))) else (some (0, false))))) (fun k => by simp only [whole_Dot.l0]; rw [if_pos (by omega), if_pos (by omega), if_pos (by omega), if_pos (by omega)]) ?_
  refine Ev.bind (mul_ev i0 i1) ?_
  refine Ev.congr (f := fun k => (if (mulS (rd l0 (i : Int)) (rd l1 (i : Int))).2 = true then (if (addS s (mulS (rd l0 (i : Int)) (rd l1 (i : Int))).1).2 = true then (whole_Dot.l0 k l0 l1 (addS s (mulS (rd l0 (i : Int)) (rd l1 (i : Int))).1).1 ((min l0.length l1.length : Nat) : Int) (wrap64 ((i : Int) + 1))) else (some (0, false))) else (some (0, false)))) (fun k => by rw [add_is hs (mulS_I _ _)]; rfl) ?_
  rw [wrap_add (n := l0.length) (by omega) (by omega) (by omega)]
  by_cases hm : I (rd l0 (i : Int) * rd l1 (i : Int))
  ·rw [if_pos hm]
   have em : mulS (rd l0 (i : Int)) (rd l1 (i : Int)) = (rd l0 (i : Int) * rd l1 (i : Int), true) := by rw [mulS, if_pos hm]
   rw [em]
   by_cases ha : I (s + rd l0 (i : Int) * rd l1 (i : Int))
   ·rw [if_pos ha]
    have ea : addS s (rd l0 (i : Int) * rd l1 (i : Int)) = (s + rd l0 (i : Int) * rd l1 (i : Int), true) := by rw [addS, if_pos ha]
    simp only [ea, if_true]
    have := ih (i + 1) (by omega) _ ha
    simpa only [Int.natCast_add, Int.natCast_one] using this
   ·rw [if_neg ha]
    have ea : addS s (rd l0 (i : Int) * rd l1 (i : Int)) = (0, false) := by rw [addS, if_neg ha]
    simp only [ea, if_true, Bool.false_eq_true, if_false]
    exact Ev.now _
  ·rw [if_neg hm]
   have em : mulS (rd l0 (i : Int)) (rd l1 (i : Int)) = (0, false) := by rw [mulS, if_neg hm]
   rw [em]
   simp only [Bool.false_eq_true, if_false]
   exact Ev.now _
theorem dot_ev {a b : List Int} (h0 : ∀ x ∈ a, I x) (h1 : ∀ x ∈ b, I x) (hb : a.length ≤ 9223372036854775806) : Ev (fun k => whole_Dot.f k a b) (dotS 0 a b) := by
 have h := dot_loop a b h0 h1 hb (min a.length b.length) 0 (by simp) 0 (by decide)
 have e : mn (a.length : Int) (b.length : Int) = ((min a.length b.length : Nat) : Int) := by unfold mn; omega
 unfold whole_Dot.f
 rw [e]
 simpa using h

theorem rdot_end (l0 l1 : List Int) (i : Nat) (s : Int) (h : min l0.length l1.length ≤ i) : Ev (fun k => r01Dot.l0 k l0 l1 s (i : Int)) (s, true) := by
 by_cases h0 : (i : Int) < (l0.length : Int)
 ·refine Ev.step (f := fun k => r01Dot.j1 k l0 l1 s (i : Int) (decide ((i : Int) < (l1.length : Int)))) (fun k => by simp only [r01Dot.l0]; rw [if_pos h0]) ?_
  rw [show decide ((i : Int) < (l1.length : Int)) = false from decide_eq_false (by omega)]
  exact Ev.step (f := fun _ => some (s, true)) (fun k => by simp [r01Dot.j1]) (Ev.now _)
 ·refine Ev.step (f := fun k => r01Dot.j1 k l0 l1 s (i : Int) false) (fun k => by simp only [r01Dot.l0]; rw [if_neg h0]) ?_
  exact Ev.step (f := fun _ => some (s, true)) (fun k => by simp [r01Dot.j1]) (Ev.now _)
theorem rdot_loop (l0 l1 : List Int) (h0 : ∀ x ∈ l0, I x) (h1 : ∀ x ∈ l1, I x) (hb : l0.length ≤ 9223372036854775806) (d : Nat) :
  ∀ (i : Nat), min l0.length l1.length = i + d → ∀ s, I s → Ev (fun k => r01Dot.l0 k l0 l1 s (i : Int)) (dotS s (l0.drop i) (l1.drop i)) := by
 induction d with
 | zero =>
  intro i hi s hs
  have : dotS s (l0.drop i) (l1.drop i) = (s, true) := by
   by_cases h : l0.length ≤ i
   ·rw [List.drop_eq_nil_of_le h]; rfl
   ·rw [List.drop_eq_nil_of_le (show l1.length ≤ i by omega)]; cases l0.drop i <;> rfl
  rw [this]; exact rdot_end l0 l1 i s (by omega)
 | succ d ih =>
  intro i hi s hs
  have e0 := drop_cons (l := l0) (i := i) (by omega)
  have e1 := drop_cons (l := l1) (i := i) (by omega)
  rw [e0, e1, dotS_cons]
  have i0 := h0 _ (rd_mem (xs := l0) (i := (i : Int)) (by omega) (by omega))
  have i1 := h1 _ (rd_mem (xs := l1) (i := (i : Int)) (by omega) (by omega))
  refine Ev.step (f := fun k => r01Dot.j1 k l0 l1 s (i : Int) true) (fun k => by simp only [r01Dot.l0]; rw [if_pos (by omega), decide_eq_true (by omega)]) ?_
  refine Ev.step (f := fun k => if (mulS (rd l0 (i : Int)) (rd l1 (i : Int))).2 = true then (if (addS s (mulS (rd l0 (i : Int)) (rd l1 (i : Int))).1).2 = true then (r01Dot.l0 k l0 l1 (addS s (mulS (rd l0 (i : Int)) (rd l1 (i : Int))).1).1 (wrap64 ((i : Int) + 1))) else (some (0, false))) else (some (0, false))) (fun k => by
   simp only [r01Dot.j1]; rw [if_pos trivial, if_pos (by omega), if_pos (by omega), if_pos (by omega), rmul_is i0 i1]; simp only [Option.bind_some]; rw [radd_is hs (mulS_I _ _)]; rfl) ?_
  rw [wrap_add (n := l0.length) (by omega) (by omega) (by omega)]
  by_cases hm : I (rd l0 (i : Int) * rd l1 (i : Int))
  ·rw [if_pos hm]
   have em : mulS (rd l0 (i : Int)) (rd l1 (i : Int)) = (rd l0 (i : Int) * rd l1 (i : Int), true) := by rw [mulS, if_pos hm]
   rw [em]
   by_cases ha : I (s + rd l0 (i : Int) * rd l1 (i : Int))
   ·rw [if_pos ha]
    have ea : addS s (rd l0 (i : Int) * rd l1 (i : Int)) = (s + rd l0 (i : Int) * rd l1 (i : Int), true) := by rw [addS, if_pos ha]
    simp only [ea, if_true]
    have := ih (i + 1) (by omega) _ ha
    simpa only [Int.natCast_add, Int.natCast_one] using this
   ·rw [if_neg ha]
    have ea : addS s (rd l0 (i : Int) * rd l1 (i : Int)) = (0, false) := by rw [addS, if_neg ha]
    simp only [ea, if_true, Bool.false_eq_true, if_false]
    exact Ev.now _
  ·rw [if_neg hm]
   have em : mulS (rd l0 (i : Int)) (rd l1 (i : Int)) = (0, false) := by rw [mulS, if_neg hm]
   rw [em]
   simp only [Bool.false_eq_true, if_false]
   exact Ev.now _
theorem rdot_ev {a b : List Int} (h0 : ∀ x ∈ a, I x) (h1 : ∀ x ∈ b, I x) (hb : a.length ≤ 9223372036854775806) : Ev (fun k => r01Dot.f k a b) (dotS 0 a b) := by
 have h := rdot_loop a b h0 h1 hb (min a.length b.length) 0 (by simp) 0 (by decide)
 unfold r01Dot.f
 simpa using h

theorem rgcd_loop (y : Nat) : ∀ (x : Nat), Ev (fun k => r01Gcd.l0 k (x : Int) (y : Int)) (Nat.gcd x y : Int) := by
 induction y using Nat.strongRecOn with
 | ind y ih =>
  intro x
  by_cases h : y = 0
  ·subst h
   refine Ev.step (f := fun _ => some (x : Int)) (fun k => by simp only [r01Gcd.l0]; rw [if_pos (by omega)]) ?_
   rw [Nat.gcd_zero_right]; exact Ev.now _
  ·refine Ev.step (f := fun k => r01Gcd.l0 k (y : Int) ((x % y : Nat) : Int)) (fun k => by simp only [r01Gcd.l0]; rw [if_neg (by omega)]; rfl) ?_
   have := ih (x % y) (Nat.mod_lt _ (by omega)) y
   rwa [show Nat.gcd y (x % y) = Nat.gcd x y by rw [Nat.gcd_comm x y, Nat.gcd_rec y x, Nat.gcd_comm]] at this
theorem rgcd_ev {a b : Int} (ha : J a) (hb : J b) : Ev (fun k => r01Gcd.f k a b) (Int.gcd a b : Int) := by
 have h := rgcd_loop b.natAbs a.natAbs
 have hj : ∀ x : Int, Ev (fun k => r01Gcd.l0 k x (b.natAbs : Int)) (Int.gcd a b : Int) → Ev (fun k => r01Gcd.j0 k x b) (Int.gcd a b : Int) := by
  intro x hx
  unfold J at hb
  by_cases hn : b < 0
  ·refine Ev.step (f := fun k => r01Gcd.j1 k x (b.natAbs : Int)) (fun k => by simp only [r01Gcd.j0]; rw [if_pos hn, wrap_id (by unfold I; omega), show -b = (b.natAbs : Int) by omega]) ?_
   exact Ev.step (f := fun k => r01Gcd.l0 k x (b.natAbs : Int)) (fun k => by simp only [r01Gcd.j1]) hx
  ·refine Ev.step (f := fun k => r01Gcd.j1 k x (b.natAbs : Int)) (fun k => by simp only [r01Gcd.j0]; rw [if_neg hn, show b = (b.natAbs : Int) by omega]; rfl) ?_
   exact Ev.step (f := fun k => r01Gcd.l0 k x (b.natAbs : Int)) (fun k => by simp only [r01Gcd.j1]) hx
 have h2 := hj _ h
 unfold J at ha
 unfold r01Gcd.f
 by_cases hn : a < 0
 ·simp only [if_pos hn]
  rw [wrap_id (by unfold I; omega), show -a = (a.natAbs : Int) by omega]; exact h2
 ·simp only [if_neg hn]
  rw [show (a.natAbs : Int) = a by omega] at h2; exact h2
theorem gcdJ {a b : Int} (ha : J a) (hb : J b) : J (Int.gcd a b : Int) := by
 have := gl_le [a, b] (by intro x hx; simp at hx; rcases hx with rfl | rfl <;> assumption) 0 (by omega)
 simp only [gl, List.foldl, Nat.gcd_zero_left] at this
 have e : Int.gcd a b = Nat.gcd a.natAbs b.natAbs := rfl
 unfold J; omega

/-- So much of one number, and so much of another one; none: it is no number, or the least one. -/
def mixS (a b : Int) : List Int → List Int → Option (List Int)
 | x :: xs, y :: ys => if (dotS 0 [a, b] [x, y]).2 = true then (if (dotS 0 [a, b] [x, y]).1 = -9223372036854775808 then none else (mixS a b xs ys).map ((dotS 0 [a, b] [x, y]).1 :: ·)) else none
 | _, _ => some []
theorem mixS_cons (a b x y : Int) (xs ys : List Int) : mixS a b (x :: xs) (y :: ys) = if (dotS 0 [a, b] [x, y]).2 = true then (if (dotS 0 [a, b] [x, y]).1 = -9223372036854775808 then none else (mixS a b xs ys).map ((dotS 0 [a, b] [x, y]).1 :: ·)) else none := rfl
theorem mixS_nil (a b : Int) (xs ys : List Int) (h : xs = [] ∨ ys = []) : mixS a b xs ys = some [] := by
 rcases h with rfl | rfl
 ·rfl
 ·cases xs <;> rfl
theorem mixS_length {a b : Int} (xs : List Int) : ∀ (ys r : List Int), mixS a b xs ys = some r → r.length = min xs.length ys.length := by
 induction xs with
 | nil => intro ys r h; rw [mixS_nil _ _ _ _ (.inl rfl)] at h; cases h; simp
 | cons x xs ih =>
  intro ys r h
  cases ys with
  | nil => rw [mixS_nil _ _ _ _ (.inr rfl)] at h; cases h; simp
  | cons y ys =>
   rw [mixS_cons] at h
   split at h
   ·split at h
    ·cases h
    ·obtain ⟨q, hq, rfl⟩ := Option.map_eq_some_iff.1 h
     have := ih ys q hq
     simp only [List.length_cons, this]; omega
   ·cases h
theorem two_I {a b : Int} (ha : I a) (hb : I b) : ∀ x ∈ [a, b], I x := by
 intro x hx; simp at hx; rcases hx with rfl | rfl <;> assumption
theorem rdL_lt {m : List (List Int)} {i : Nat} (h : i < m.length) : rd_L10 m (i : Int) = m[i] := by
 unfold rd_L10; rw [Int.toNat_natCast, List.getD_eq_getElem?_getD, List.getElem?_eq_getElem h]; rfl
theorem rdL_mem {m : List (List Int)} {i : Nat} (h : i < m.length) : rd_L10 m (i : Int) ∈ m := by rw [rdL_lt h]; exact List.getElem_mem _
theorem dropL_cons {m : List (List Int)} {i : Nat} (h : i < m.length) : m.drop i = rd_L10 m (i : Int) :: m.drop (i + 1) := by
 rw [List.drop_eq_getElem_cons h, rdL_lt h]
theorem takeL_snoc {m : List (List Int)} {i : Nat} (h : i < m.length) : m.take (i + 1) = m.take i ++ [rd_L10 m (i : Int)] := by
 rw [List.take_succ_eq_append_getElem h, rdL_lt h]
theorem rdT_lt {l : List RV} {i : Nat} (h : i < l.length) : rd_TRV l (i : Int) = l[i] := by
 unfold rd_TRV; rw [Int.toNat_natCast, List.getD_eq_getElem?_getD, List.getElem?_eq_getElem h]; rfl
theorem rdT_mem {l : List RV} {i : Nat} (h : i < l.length) : rd_TRV l (i : Int) ∈ l := by rw [rdT_lt h]; exact List.getElem_mem _
theorem dropT_cons {l : List RV} {i : Nat} (h : i < l.length) : l.drop i = rd_TRV l (i : Int) :: l.drop (i + 1) := by
 rw [List.drop_eq_getElem_cons h, rdT_lt h]
/-- Has the first nothing where the second has nothing. -/
def winS : List Int → List Int → Bool
 | x :: xs, y :: ys => (x == 0 || y != 0) && winS xs ys
 | _, _ => true
theorem winS_cons (x y : Int) (xs ys : List Int) : winS (x :: xs) (y :: ys) = ((x == 0 || y != 0) && winS xs ys) := rfl
/-- Does a row stay beside all, where it stands at i. -/
def keepS (y : List Int) (i : Nat) : Nat → List RV → Bool
 | _, [] => true
 | k, o :: l => if k = i then keepS y i (k + 1) l else if winS o.f0 y = true then (if winS y o.f0 = true then (if k < i then false else keepS y i (k + 1) l) else false) else keepS y i (k + 1) l
def leastS (all : List RV) : Nat → List RV → List RV
 | _, [] => []
 | i, r :: l => if keepS r.f0 i 0 all = true then r :: leastS all (i + 1) l else leastS all (i + 1) l
/-- A row of n places and w columns, of numbers above the least one. -/
structure Rw (n w : Nat) (r : RV) : Prop where
 y : r.f0.length = n
 c : r.f1.length = w
 jy : ∀ x ∈ r.f0, J x
 jc : ∀ x ∈ r.f1, J x
theorem leastS_mem (all : List RV) : ∀ (l : List RV) (i : Nat), ∀ r ∈ leastS all i l, r ∈ l
 | [], _, r, h => by simp [leastS] at h
 | a :: l, i, r, h => by
  simp only [leastS] at h
  split at h
  ·rcases List.mem_cons.1 h with h | h
   ·exact h ▸ List.mem_cons_self
   ·exact List.mem_cons_of_mem _ (leastS_mem all l _ r h)
  ·exact List.mem_cons_of_mem _ (leastS_mem all l _ r h)
theorem leastS_len (all : List RV) : ∀ (l : List RV) (i : Nat), (leastS all i l).length ≤ l.length
 | [], _ => by simp [leastS]
 | a :: l, i => by
  have := leastS_len all l (i + 1)
  simp only [leastS]
  split <;> simp <;> omega

theorem dot2_is {a b x y : Int} (h : (dotS 0 [a, b] [x, y]).2 = true) : (dotS 0 [a, b] [x, y]).1 = a * x + b * y ∧ I (a * x + b * y) := by
 simp only [dotS_cons, Int.zero_add] at h ⊢
 by_cases c1 : I (a * x)
 ·simp only [if_pos c1] at h ⊢
  by_cases c2 : I (b * y)
  ·simp only [if_pos c2] at h ⊢
   by_cases c3 : I (a * x + b * y)
   ·simp only [if_pos c3] at h ⊢
    exact ⟨rfl, c3⟩
   ·simp only [if_neg c3] at h; exact absurd h (by simp)
  ·simp only [if_neg c2] at h; exact absurd h (by simp)
 ·simp only [if_neg c1] at h; exact absurd h (by simp)
theorem mixS_J {a b : Int} (xs : List Int) : ∀ (ys r : List Int), mixS a b xs ys = some r → ∀ z ∈ r, J z := by
 induction xs with
 | nil => intro ys r h; rw [mixS_nil _ _ _ _ (.inl rfl)] at h; cases h; simp
 | cons x xs ih =>
  intro ys r h
  cases ys with
  | nil => rw [mixS_nil _ _ _ _ (.inr rfl)] at h; cases h; simp
  | cons y ys =>
   rw [mixS_cons] at h
   by_cases h2 : (dotS 0 [a, b] [x, y]).2 = true
   ·rw [if_pos h2] at h
    by_cases h3 : (dotS 0 [a, b] [x, y]).1 = -9223372036854775808
    ·rw [if_pos h3] at h; cases h
    ·rw [if_neg h3] at h
     obtain ⟨q, hq, rfl⟩ := Option.map_eq_some_iff.1 h
     have hd := dot2_is h2
     intro z hz
     rcases List.mem_cons.1 hz with rfl | hz
     ·rw [hd.1] at h3 ⊢
      have := hd.2
      unfold I at this
      unfold J
      omega
     ·exact ih ys q hq z hz
   ·rw [if_neg h2] at h; cases h
theorem ab_J {x : Int} (h : J x) : J (ab x) := by unfold J ab at *; omega
/-- The numbers by which two rows are taken. -/
def bothS (p q : Int) : Int := Int.tdiv (ab q) (Int.gcd p q : Int)
/-- A row of two that has nought in a column. -/
def joinS (c : Nat) (a b : RV) : Option RV :=
 match mixS (bothS (rd a.f1 c) (rd b.f1 c)) (Int.tdiv (ab (rd a.f1 c)) (Int.gcd (rd a.f1 c) (rd b.f1 c) : Int)) a.f0 b.f0, mixS (bothS (rd a.f1 c) (rd b.f1 c)) (Int.tdiv (ab (rd a.f1 c)) (Int.gcd (rd a.f1 c) (rd b.f1 c) : Int)) a.f1 b.f1 with
 | some u, some v => some ⟨(normS (u ++ v)).take u.length, (normS (u ++ v)).drop u.length⟩
 | _, _ => none
theorem joinS_some {n w c : Nat} {a b r : RV} (ha : Rw n w a) (hb : Rw n w b) (h : joinS c a b = some r) :
  ∃ u v, mixS (bothS (rd a.f1 c) (rd b.f1 c)) (Int.tdiv (ab (rd a.f1 c)) (Int.gcd (rd a.f1 c) (rd b.f1 c) : Int)) a.f0 b.f0 = some u ∧ mixS (bothS (rd a.f1 c) (rd b.f1 c)) (Int.tdiv (ab (rd a.f1 c)) (Int.gcd (rd a.f1 c) (rd b.f1 c) : Int)) a.f1 b.f1 = some v ∧ u.length = n ∧ v.length = w ∧ r = ⟨(normS (u ++ v)).take u.length, (normS (u ++ v)).drop u.length⟩ ∧ Rw n w r := by
 unfold joinS at h
 split at h
 ·rename_i u v hu hv
  cases h
  have lu := mixS_length _ _ _ hu
  have lv := mixS_length _ _ _ hv
  rw [ha.y, hb.y, Nat.min_self] at lu
  rw [ha.c, hb.c, Nat.min_self] at lv
  have hJ : ∀ x ∈ normS (u ++ v), J x := normS_J (fun x hx => (List.mem_append.1 hx).elim (mixS_J _ _ _ hu x) (mixS_J _ _ _ hv x))
  have hlen : (normS (u ++ v)).length = n + w := by rw [normS_length, List.length_append, lu, lv]
  exact ⟨u, v, hu, hv, lu, lv, rfl, ⟨by simp [hlen, lu], by simp [hlen, lu], fun x hx => hJ x (List.mem_of_mem_take hx), fun x hx => hJ x (List.mem_of_mem_drop hx)⟩⟩
 ·cases h
def innerS (c : Nat) (a : RV) : List RV → List RV → Except Int (List RV)
 | out, [] => .ok out
 | out, b :: t => if rd a.f1 (c : Int) = 0 ∨ rd b.f1 (c : Int) = 0 ∨ decide (rd a.f1 (c : Int) < 0) = decide (rd b.f1 (c : Int) < 0) then innerS c a out t else
  match joinS c a b with
  | none => .error 3
  | some r => if 400 < out.length + 1 then .error 5 else innerS c a (out ++ [r]) t
def outerS (c : Nat) : List RV → List RV → Except Int (List RV)
 | out, [] => .ok out
 | out, a :: t => match innerS c a out t with
  | .ok o => outerS c o t
  | .error e => .error e
def zeroS (c : Nat) (l : List RV) : List RV := l.filter fun r => rd r.f1 (c : Int) == 0
def columnS (c : Nat) (l : List RV) : Except Int (List RV) := outerS c (zeroS c l) l
def unitS (n i : Nat) : List Int := (List.replicate n 0).set i 1
def startS (n : Nat) : Nat → List (List Int) → List RV
 | _, [] => []
 | i, r :: m => ⟨unitS n i, r⟩ :: startS n (i + 1) m
def colsS : Nat → Nat → List RV → Except Int (List RV)
 | 0, _, l => .ok l
 | d + 1, c, l => match columnS c l with
  | .ok o => colsS d (c + 1) (leastS o 0 o)
  | .error e => .error e
def widthS (m : List (List Int)) : Nat := match m with | [] => 0 | r :: _ => r.length
def outS : Except Int (List RV) → List (List Int) × Int
 | .ok l => (l.map RV.f0, 0)
 | .error e => ([], e)
def findS (m : List (List Int)) : List (List Int) × Int := outS (colsS (widthS m) 0 (startS m.length 0 m))
theorem startS_len (n : Nat) : ∀ (m : List (List Int)) (i : Nat), (startS n i m).length = m.length
 | [], _ => rfl
 | r :: m, i => by simp [startS, startS_len n m]
theorem unit_J (n i : Nat) : ∀ x ∈ unitS n i, J x := by
 intro x hx
 unfold unitS at hx
 rcases List.mem_or_eq_of_mem_set hx with h | h
 ·rw [(List.mem_replicate.1 h).2]; unfold J; omega
 ·rw [h]; unfold J; omega
theorem startS_rw {n w : Nat} : ∀ (m : List (List Int)) (i : Nat), (∀ r ∈ m, r.length = w) → (∀ r ∈ m, ∀ x ∈ r, J x) → ∀ r ∈ startS n i m, Rw n w r
 | [], _, _, _, r, h => by simp [startS] at h
 | a :: m, i, h1, h2, r, h => by
  rcases List.mem_cons.1 h with rfl | h
  ·exact ⟨by simp [unitS], h1 a List.mem_cons_self, unit_J n i, h2 a List.mem_cons_self⟩
  ·exact startS_rw m (i + 1) (fun r hr => h1 r (List.mem_cons_of_mem _ hr)) (fun r hr => h2 r (List.mem_cons_of_mem _ hr)) r h
theorem rd_map0 (l : List RV) (i : Nat) : rd_L10 (l.map RV.f0) (i : Int) = (rd_TRV l (i : Int)).f0 := by
 unfold rd_L10 rd_TRV
 rw [Int.toNat_natCast, List.getD_eq_getElem?_getD, List.getD_eq_getElem?_getD, List.getElem?_map]
 cases l[i]? <;> rfl
theorem rd_map1 (l : List RV) (i : Nat) : rd_L10 (l.map RV.f1) (i : Int) = (rd_TRV l (i : Int)).f1 := by
 unfold rd_L10 rd_TRV
 rw [Int.toNat_natCast, List.getD_eq_getElem?_getD, List.getD_eq_getElem?_getD, List.getElem?_map]
 cases l[i]? <;> rfl
theorem wrap_s {i : Nat} (h : i < 100000000000000) : wrap64 ((i : Int) + 1) = ((i + 1 : Nat) : Int) := by rw [wrap_add (n := 100000000000001) (by omega) (by omega) (by omega)]; rfl
theorem rwithin_loop (a b : List Int) (he : a.length ≤ b.length) (hb : a.length ≤ 1000000) (d : Nat) :
  ∀ i : Nat, a.length = i + d → Ev (fun k => r12within.l0 k a b (i : Int)) (winS (a.drop i) (b.drop i)) := by
 induction d with
 | zero =>
  intro i hi
  rw [List.drop_eq_nil_of_le (by omega)]
  exact Ev.step (f := fun _ => some true) (fun k => by simp only [r12within.l0]; rw [if_neg (by omega)]) (by simp only [winS]; exact Ev.now _)
 | succ d ih =>
  intro i hi
  rw [drop_cons (l := a) (i := i) (by omega), drop_cons (l := b) (i := i) (by omega), winS_cons]
  by_cases h : rd a (i : Int) = 0
  ·rw [show (rd a (i : Int) == 0) = true by rw [h]; rfl, Bool.true_or, Bool.true_and]
   refine Ev.step (fun k => ?_) (ih (i + 1) (by omega))
   simp only [r12within.l0]
   rw [if_pos (by omega), if_pos (by omega), if_pos h, wrap_s (by omega)]
  ·rw [show (rd a (i : Int) == 0) = false from beq_eq_false_iff_ne.2 h, Bool.false_or]
   by_cases h2 : rd b (i : Int) = 0
   ·rw [show (rd b (i : Int) != 0) = false by rw [h2]; rfl, Bool.false_and]
    refine Ev.step (f := fun _ => some false) (fun k => ?_) (Ev.now _)
    simp only [r12within.l0]
    rw [if_pos (by omega), if_pos (by omega), if_neg h, if_pos (by omega), if_pos h2]
   ·rw [show (rd b (i : Int) != 0) = true from bne_iff_ne.2 h2, Bool.true_and]
    refine Ev.step (fun k => ?_) (ih (i + 1) (by omega))
    simp only [r12within.l0]
    rw [if_pos (by omega), if_pos (by omega), if_neg h, if_pos (by omega), if_neg h2, wrap_s (by omega)]
theorem rwithin_ev (a b : List Int) (he : a.length ≤ b.length) (hb : a.length ≤ 1000000) : Ev (fun k => r12within.f k a b) (winS a b) := by
 have h := rwithin_loop a b he hb a.length 0 (by simp)
 rw [List.drop_zero, List.drop_zero] at h
 exact h
theorem rsize_is {x : Int} (h : J x) : r12size.f x = some (ab x) := by
 unfold r12size.f ab
 unfold J at h
 split
 ·rw [wrap_id (by unfold I; omega)]
 ·rfl
section
variable (n w c : Nat) (hn : n ≤ 1000) (hw : w ≤ 1000) (hc : c < w)
/-- Rows that stay beside all. -/
theorem f_l8 (o : List RV) (ho : ∀ r ∈ o, Rw n w r) (hol : o.length ≤ 1000) (acc : List RV) (hal : acc.length ≤ 1000) (i : Nat) (hi : i < o.length) (R : List (List Int) × Int) (hn : n ≤ 1000)
  (h1 : keepS (rd_TRV o (i : Int)).f0 i 0 o = true → Ev (fun k => r12Find.l7 k ((acc ++ [rd_TRV o (i : Int)]).map RV.f0) ((acc ++ [rd_TRV o (i : Int)]).map RV.f1) (w : Int) (c : Int) (o.map RV.f0) (o.map RV.f1) ((i + 1 : Nat) : Int)) R)
  (h2 : keepS (rd_TRV o (i : Int)).f0 i 0 o = false → Ev (fun k => r12Find.l7 k (acc.map RV.f0) (acc.map RV.f1) (w : Int) (c : Int) (o.map RV.f0) (o.map RV.f1) ((i + 1 : Nat) : Int)) R) (d : Nat) :
  ∀ (j : Nat) (b : Bool), o.length = j + d → (b && keepS (rd_TRV o (i : Int)).f0 i j (o.drop j)) = keepS (rd_TRV o (i : Int)).f0 i 0 o →
  Ev (fun k => r12Find.l8 k (acc.map RV.f0) (acc.map RV.f1) (w : Int) (c : Int) (o.map RV.f0) (o.map RV.f1) (i : Int) b (j : Int)) R := by
 have hri := ho _ (rdT_mem hi)
 induction d with
 | zero =>
  intro j b hj hb
  rw [List.drop_eq_nil_of_le (by omega), keepS, Bool.and_true] at hb
  cases b with
  | true =>
   refine Ev.step (fun k => ?_) (h1 hb.symm)
   simp only [r12Find.l8, if_true]
   rw [if_neg (by rw [List.length_map]; omega), if_pos (by omega), if_pos (by rw [List.length_map]; omega), if_pos (by rw [List.length_map]; omega), if_pos (by rw [List.length_map]; omega), if_pos (by rw [List.length_map]; omega), rd_map0, rd_map1, wrap_s (by omega), List.map_append, List.map_append]
   rfl
  | false =>
   refine Ev.step (fun k => ?_) (h2 hb.symm)
   simp only [r12Find.l8]
   rw [if_neg (by rw [List.length_map]; omega), if_neg (by simp), wrap_s (by omega)]
 | succ d ih =>
  intro j b hj hb
  have hrj := ho _ (rdT_mem (l := o) (i := j) (by omega))
  rw [dropT_cons (by omega)] at hb
  have j12 : ∀ x : Bool, (if x = true then false else b && keepS (rd_TRV o (i : Int)).f0 i (j + 1) (o.drop (j + 1))) = keepS (rd_TRV o (i : Int)).f0 i 0 o → Ev (fun k => r12Find.j12 k (acc.map RV.f0) (acc.map RV.f1) (w : Int) (c : Int) (o.map RV.f0) (o.map RV.f1) (i : Int) b (j : Int) x) R := by
   intro x hx
   cases x with
   | true =>
    refine Ev.step (fun k => ?_) (ih (j + 1) false (by omega) (by simpa using hx))
    simp only [r12Find.j12, if_true]
    rw [wrap_s (by omega)]
   | false =>
    refine Ev.step (fun k => ?_) (ih (j + 1) b (by omega) (by simpa using hx))
    simp only [r12Find.j12]
    rw [if_neg (by simp), wrap_s (by omega)]
  by_cases e : j = i
  ·refine Ev.step (fun k => ?_) (j12 false ?_)
   ·simp only [r12Find.l8]
    rw [if_pos (by rw [List.length_map]; omega), if_pos (by omega)]
   ·simp only [keepS, if_pos e] at hb
    simpa using hb
  ·simp only [keepS, if_neg e] at hb
   have w1 := rwithin_ev (rd_TRV o (j : Int)).f0 (rd_TRV o (i : Int)).f0 (by rw [hrj.y, hri.y]; omega) (by rw [hrj.y]; omega)
   have w2 := rwithin_ev (rd_TRV o (i : Int)).f0 (rd_TRV o (j : Int)).f0 (by rw [hrj.y, hri.y]; omega) (by rw [hri.y]; omega)
   refine Ev.step (f := fun k => (r12within.f k (rd_TRV o (j : Int)).f0 (rd_TRV o (i : Int)).f0).bind fun t430 => (if t430 = true then ((r12within.f k (rd_TRV o (i : Int)).f0 (rd_TRV o (j : Int)).f0).bind fun t433 => (if t433 = true then (r12Find.j12 k (acc.map RV.f0) (acc.map RV.f1) (w : Int) (c : Int) (o.map RV.f0) (o.map RV.f1) (i : Int) b (j : Int) (decide ((j : Int) < (i : Int)))) else (r12Find.j12 k (acc.map RV.f0) (acc.map RV.f1) (w : Int) (c : Int) (o.map RV.f0) (o.map RV.f1) (i : Int) b (j : Int) true))) else (r12Find.j12 k (acc.map RV.f0) (acc.map RV.f1) (w : Int) (c : Int) (o.map RV.f0) (o.map RV.f1) (i : Int) b (j : Int) false))) (fun k => ?_) (Ev.bind w1 ?_)
   ·simp only [r12Find.l8]
    rw [if_pos (by rw [List.length_map]; omega), if_neg (by omega), if_pos (by omega), if_pos (by omega), if_pos (by rw [List.length_map]; omega), rd_map0, rd_map0]
   ·by_cases c1 : winS (rd_TRV o (j : Int)).f0 (rd_TRV o (i : Int)).f0 = true
    ·simp only [if_pos c1] at hb ⊢
     refine Ev.bind w2 ?_
     by_cases c2 : winS (rd_TRV o (i : Int)).f0 (rd_TRV o (j : Int)).f0 = true
     ·simp only [if_pos c2] at hb ⊢
      by_cases c3 : j < i
      ·rw [decide_eq_true (show (j : Int) < (i : Int) by omega)]
       simp only [if_pos c3] at hb
       exact j12 true (by simpa using hb)
      ·rw [decide_eq_false (show ¬ (j : Int) < (i : Int) by omega)]
       simp only [if_neg c3] at hb
       exact j12 false (by simpa using hb)
     ·simp only [if_neg c2] at hb ⊢
      exact j12 true (by simpa using hb)
    ·simp only [if_neg c1] at hb ⊢
     exact j12 false (by simpa using hb)
theorem f_l7 (hn : n ≤ 1000) (o : List RV) (ho : ∀ r ∈ o, Rw n w r) (hol : o.length ≤ 1000) (R : List (List Int) × Int) (d : Nat) :
  ∀ (i : Nat) (acc : List RV), o.length = i + d → acc.length ≤ i → Ev (fun k => r12Find.l1 k ((acc ++ leastS o i (o.drop i)).map RV.f0) ((acc ++ leastS o i (o.drop i)).map RV.f1) (w : Int) (wrap64 ((c : Int) + 1))) R →
  Ev (fun k => r12Find.l7 k (acc.map RV.f0) (acc.map RV.f1) (w : Int) (c : Int) (o.map RV.f0) (o.map RV.f1) (i : Int)) R := by
 induction d with
 | zero =>
  intro i acc hi ha h
  rw [List.drop_eq_nil_of_le (by omega), leastS, List.append_nil] at h
  exact Ev.step (fun k => by simp only [r12Find.l7]; rw [if_neg (by rw [List.length_map]; omega)]) h
 | succ d ih =>
  intro i acc hi ha h
  rw [dropT_cons (by omega)] at h
  simp only [leastS] at h
  refine Ev.step (f := fun k => r12Find.l8 k (acc.map RV.f0) (acc.map RV.f1) (w : Int) (c : Int) (o.map RV.f0) (o.map RV.f1) (i : Int) true ((0 : Nat) : Int)) (fun k => by simp only [r12Find.l7]; rw [if_pos (by rw [List.length_map]; omega)]; rfl)
   (f_l8 n w c o ho hol acc (by omega) i (by omega) R hn (fun hk => ?_) (fun hk => ?_) o.length 0 true (by simp) (by rw [List.drop_zero, Bool.true_and]))
  ·rw [if_pos hk] at h
   exact ih (i + 1) (acc ++ [rd_TRV o (i : Int)]) (by omega) (by simp; omega) (by rw [List.append_assoc]; exact h)
  ·rw [if_neg (by rw [hk]; simp)] at h
   exact ih (i + 1) acc (by omega) (by omega) h
end

theorem wrap_nw {n w : Nat} (h : n ≤ 1000) (h2 : w ≤ 1000) : wrap64 ((n : Int) + (w : Int)) = ((n + w : Nat) : Int) := by rw [wrap_id (by unfold I; omega)]; rfl
theorem wrap_nq {n q : Nat} (h : q ≤ 1000) : wrap64 (((n + q : Nat) : Int) - (n : Int)) = (q : Int) := by rw [show ((n + q : Nat) : Int) - (n : Int) = (q : Int) by omega]; exact wrap_id (by unfold I; omega)
theorem widthS_cons (a : List Int) (m : List (List Int)) : widthS (a :: m) = a.length := rfl
theorem mixS_app {a b : Int} : ∀ (xs ys xs' ys' : List Int), xs.length = ys.length → mixS a b (xs ++ xs') (ys ++ ys') = match mixS a b xs ys, mixS a b xs' ys' with | some u, some v => some (u ++ v) | _, _ => none
 | [], [], xs', ys', _ => by
  rw [mixS_nil a b [] [] (.inl rfl)]
  simp only [List.nil_append]
  cases mixS a b xs' ys' <;> rfl
 | [], _ :: _, _, _, h => by simp at h
 | _ :: _, [], _, _, h => by simp at h
 | x :: xs, y :: ys, xs', ys', h => by
  rw [List.cons_append, List.cons_append, mixS_cons, mixS_cons, mixS_app xs ys xs' ys' (by simpa using h)]
  split
  ·split
   ·rfl
   ·cases mixS a b xs ys with
    | none => rfl
    | some u => cases mixS a b xs' ys' <;> rfl
  ·rfl
theorem joinS_app {n w c : Nat} {a b : RV} (ha : Rw n w a) (hb : Rw n w b) : joinS c a b = (mixS (bothS (rd a.f1 c) (rd b.f1 c)) (Int.tdiv (ab (rd a.f1 c)) (Int.gcd (rd a.f1 c) (rd b.f1 c) : Int)) (a.f0 ++ a.f1) (b.f0 ++ b.f1)).map fun t => (⟨(normS t).take n, (normS t).drop n⟩ : RV) := by
 rw [mixS_app _ _ _ _ (by rw [ha.y, hb.y])]
 unfold joinS
 cases hu : mixS (bothS (rd a.f1 c) (rd b.f1 c)) (Int.tdiv (ab (rd a.f1 c)) (Int.gcd (rd a.f1 c) (rd b.f1 c) : Int)) a.f0 b.f0 with
 | none => rfl
 | some u =>
  have lu := mixS_length _ _ _ hu
  rw [ha.y, hb.y, Nat.min_self] at lu
  cases mixS (bothS (rd a.f1 c) (rd b.f1 c)) (Int.tdiv (ab (rd a.f1 c)) (Int.gcd (rd a.f1 c) (rd b.f1 c) : Int)) a.f1 b.f1 with
  | none => rfl
  | some v => simp only [Option.map_some, lu]
def inK (K : List RV → List (List Int) × Int) : Except Int (List RV) → List (List Int) × Int
 | .ok o => K o
 | .error e => ([], e)
theorem f_l6 (Y C NY NC : List (List Int)) (i j w c : Int) (t : List Int) (hJ : ∀ x ∈ t, J x) (hl : t.length ≤ 100000) (R : List (List Int) × Int) (hend : Ev (fun k => r12Find.j9 k Y C w c NY NC i j (normS t)) R) :
  Ev (fun k => r12Find.l6 k Y C w c NY NC i j t (gl 0 t : Int) 0) R := by
 have hg := gl_le t hJ 0 (by omega)
 by_cases h1 : 1 < gl 0 t
 ·obtain ⟨g, hge⟩ : ∃ g, gl 0 t = g := ⟨_, rfl⟩
  have hn : normS t = t.map fun x => Int.tdiv x (g : Int) := by unfold normS; rw [if_pos h1, hge]
  rw [hge] at h1 hg
  rw [hge]
  rw [hn] at hend
  have loop : ∀ (d p : Nat), t.length = p + d → Ev (fun k => r12Find.l6 k Y C w c NY NC i j ((t.take p).map (fun x => Int.tdiv x (g : Int)) ++ t.drop p) (g : Int) (p : Int)) R := by
   intro d
   induction d with
   | zero =>
    intro p hp
    have e : p = t.length := by omega
    subst e
    rw [List.take_length, List.drop_eq_nil_of_le (Nat.le_refl _), List.append_nil]
    exact Ev.step (fun k => by simp only [r12Find.l6]; rw [if_neg (by simp)]) hend
   | succ d ih =>
    intro p hp
    have hx := hJ _ (rd_mem (xs := t) (i := (p : Int)) (by omega) (by omega))
    have hl2 : ((t.take p).map (fun x => Int.tdiv x (g : Int))).length = p := by simp; omega
    have er : rd ((t.take p).map (fun x => Int.tdiv x (g : Int)) ++ t.drop p) (p : Int) = rd t (p : Int) := by
     unfold rd
     rw [List.getD_eq_getElem?_getD, List.getD_eq_getElem?_getD, Int.toNat_natCast, List.getElem?_append_right (by omega), hl2, Nat.sub_self, List.getElem?_drop, Nat.add_zero]
    have es : ((t.take p).map (fun x => Int.tdiv x (g : Int)) ++ t.drop p).set p (Int.tdiv (rd t (p : Int)) (g : Int)) = (t.take (p + 1)).map (fun x => Int.tdiv x (g : Int)) ++ t.drop (p + 1) := by
     rw [List.set_append_right _ _ (by omega), hl2, Nat.sub_self, drop_cons (l := t) (i := p) (by omega), List.set_cons_zero, List.take_succ_eq_append_getElem (by omega), List.map_append, List.append_assoc]
     congr 1
     simp only [List.map_cons, List.map_nil, List.cons_append, List.nil_append]
     rw [rd_lt (by omega) (by omega)]; rfl
    refine Ev.step (fun k => ?_) (ih (p + 1) (by omega))
    simp only [r12Find.l6]
    rw [if_pos (by simp; omega), if_pos (by omega), if_pos (by omega), if_neg (by omega), er, wrap_id (tdiv_J hx).i, Int.toNat_natCast, es, wrap_s (by omega)]
  have := loop t.length 0 (by simp)
  rw [List.take_zero, List.drop_zero, List.map_nil, List.nil_append] at this
  exact this
 ·have hn : normS t = t := by unfold normS; rw [if_neg h1]
  rw [hn] at hend
  refine Ev.step (fun k => ?_) hend
  simp only [r12Find.l6]
  split
  ·rw [if_neg (by omega)]
  ·rfl
section
variable (n w c : Nat) (hn : n ≤ 1000) (hw : w ≤ 1000) (hc : c < w) (l : List RV) (hl : ∀ r ∈ l, Rw n w r) (hll : l.length ≤ 400)
include hn hw hc hl in
/-- A row of two. -/
theorem f_l5 (NY NC : List (List Int)) (i j : Nat) (hi : i < l.length) (hj : j < l.length) (x y : Int) (hx : J x) (hy : J y) (Kt : List Int → List (List Int) × Int)
  (hend : ∀ t : List Int, t.length = n + w → (∀ z ∈ t, J z) → Ev (fun k => r12Find.l6 k (l.map RV.f0) (l.map RV.f1) (w : Int) (c : Int) NY NC (i : Int) (j : Int) t (gl 0 t : Int) 0) (Kt t)) (d : Nat) :
  ∀ (p : Nat) (u : List Int), n + w = p + d → u.length = p → (∀ z ∈ u, J z) → Ev (fun k => r12Find.l5 k (l.map RV.f0) (l.map RV.f1) (w : Int) (c : Int) NY NC (i : Int) (j : Int) x y u (gl 0 u : Int) (p : Int))
   (match mixS x y (((rd_TRV l (i : Int)).f0 ++ (rd_TRV l (i : Int)).f1).drop p) (((rd_TRV l (j : Int)).f0 ++ (rd_TRV l (j : Int)).f1).drop p) with | none => ([], 3) | some t => Kt (u ++ t)) := by
 have hri := hl _ (rdT_mem hi)
 have hrj := hl _ (rdT_mem hj)
 obtain ⟨a, hae⟩ : ∃ a, rd_TRV l (i : Int) = a := ⟨_, rfl⟩
 obtain ⟨b, hbe⟩ : ∃ b, rd_TRV l (j : Int) = b := ⟨_, rfl⟩
 rw [hae] at hri
 rw [hbe] at hrj
 rw [hae, hbe]
 have ry := hri.y
 have rc := hri.c
 have sy := hrj.y
 have sc := hrj.c
 have la : (a.f0 ++ a.f1).length = n + w := by rw [List.length_append, ry, rc]
 have lb : (b.f0 ++ b.f1).length = n + w := by rw [List.length_append, sy, sc]
 have jA : ∀ z ∈ a.f0 ++ a.f1, J z := fun z hz => (List.mem_append.1 hz).elim (hri.jy z) (hri.jc z)
 have jB : ∀ z ∈ b.f0 ++ b.f1, J z := fun z hz => (List.mem_append.1 hz).elim (hrj.jy z) (hrj.jc z)
 induction d with
 | zero =>
  intro p u hp hu hJu
  rw [List.drop_eq_nil_of_le (by omega), mixS_nil x y [] _ (.inl rfl)]
  simp only [List.append_nil]
  refine Ev.step (fun k => ?_) (hend u (by omega) hJu)
  simp only [r12Find.l5, rd_map0, rd_map1, hae, hbe, ry, rc, sy, sc, List.length_map]
  rw [if_pos (by omega), if_pos (by omega), wrap_nw hn hw, if_neg (by omega)]
 | succ d ih =>
  intro p u hp hu hJu
  have hA := jA _ (rd_mem (xs := a.f0 ++ a.f1) (i := (p : Int)) (by omega) (by omega))
  have hB := jB _ (rd_mem (xs := b.f0 ++ b.f1) (i := (p : Int)) (by omega) (by omega))
  have hgl := gl_le u hJu 0 (by omega)
  have hgJ : J (gl 0 u : Int) := by unfold J; omega
  rw [drop_cons (l := a.f0 ++ a.f1) (i := p) (by omega), drop_cons (l := b.f0 ++ b.f1) (i := p) (by omega), mixS_cons]
  have hd := rdot_ev (a := [x, y]) (b := [rd (a.f0 ++ a.f1) (p : Int), rd (b.f0 ++ b.f1) (p : Int)]) (two_I hx.i hy.i) (two_I hA.i hB.i) (by simp)
  have j7 : Ev (fun k => r12Find.j7 k (l.map RV.f0) (l.map RV.f1) (w : Int) (c : Int) NY NC (i : Int) (j : Int) x y u (gl 0 u : Int) (p : Int) (rd (a.f0 ++ a.f1) (p : Int)) (rd (b.f0 ++ b.f1) (p : Int)))
    (match if (dotS 0 [x, y] [rd (a.f0 ++ a.f1) (p : Int), rd (b.f0 ++ b.f1) (p : Int)]).2 = true then (if (dotS 0 [x, y] [rd (a.f0 ++ a.f1) (p : Int), rd (b.f0 ++ b.f1) (p : Int)]).1 = -9223372036854775808 then none else (mixS x y ((a.f0 ++ a.f1).drop (p + 1)) ((b.f0 ++ b.f1).drop (p + 1))).map ((dotS 0 [x, y] [rd (a.f0 ++ a.f1) (p : Int), rd (b.f0 ++ b.f1) (p : Int)]).1 :: ·)) else none with | none => ([], 3) | some t => Kt (u ++ t)) := by
   refine Ev.step (fun k => by simp only [r12Find.j7]) (Ev.bind (f := fun k bt402 => (if bt402.2 = true then (if bt402.1 = (-9223372036854775808) then (some (([] : List (List Int)), 3)) else (if u.length < 17592186044416 then ((r01Gcd.f k (gl 0 u : Int) bt402.1).bind fun t407 => (r12Find.l5 k (l.map RV.f0) (l.map RV.f1) (w : Int) (c : Int) NY NC (i : Int) (j : Int) x y (u ++ [bt402.1]) t407 (wrap64 ((p : Int) + 1)))) else (none))) else (some (([] : List (List Int)), 3)))) hd ?_)
   by_cases h2 : (dotS 0 [x, y] [rd (a.f0 ++ a.f1) (p : Int), rd (b.f0 ++ b.f1) (p : Int)]).2 = true
   ·have his := dot2_is h2
    obtain ⟨s, hs⟩ : ∃ s, (dotS 0 [x, y] [rd (a.f0 ++ a.f1) (p : Int), rd (b.f0 ++ b.f1) (p : Int)]).1 = s := ⟨_, rfl⟩
    have hsI : I s := by rw [← hs, his.1]; exact his.2
    simp only [if_pos h2, hs]
    by_cases h3 : s = -9223372036854775808
    ·simp only [if_pos h3]; exact Ev.now _
    ·simp only [if_neg h3, if_pos (show u.length < 17592186044416 by omega)]
     have hsJ : J s := by unfold I at hsI; unfold J; omega
     have hG := rgcd_ev hgJ hsJ
     have eg : Int.gcd (gl 0 u : Int) s = gl 0 (u ++ [s]) := by rw [gl_append]; rfl
     rw [eg] at hG
     refine Ev.bind hG ?_
     have hn := ih (p + 1) (u ++ [s]) (by omega) (by simp [hu]) (fun z hz => (List.mem_append.1 hz).elim (hJu z) (fun h => by rw [List.mem_singleton.1 h]; exact hsJ))
     rw [wrap_s (by omega)]
     cases hm : mixS x y ((a.f0 ++ a.f1).drop (p + 1)) ((b.f0 ++ b.f1).drop (p + 1)) with
     | none => rw [hm] at hn; exact hn
     | some t =>
      rw [hm] at hn
      simp only [Option.map_some]
      rw [show u ++ s :: t = (u ++ [s]) ++ t by simp]
      exact hn
   ·simp only [if_neg h2]; exact Ev.now _
  refine Ev.step (fun k => ?_) j7
  simp only [r12Find.l5, rd_map0, rd_map1, hae, hbe, ry, rc, sy, sc, List.length_map]
  rw [if_pos (by omega), if_pos (by omega), wrap_nw hn hw, if_pos (by omega)]
  by_cases hpn : p < n
  ·have e1 : rd (a.f0 ++ a.f1) (p : Int) = rd a.f0 (p : Int) := by unfold rd; rw [Int.toNat_natCast, List.getD_eq_getElem?_getD, List.getD_eq_getElem?_getD, List.getElem?_append_left (by omega)]
   have e2 : rd (b.f0 ++ b.f1) (p : Int) = rd b.f0 (p : Int) := by unfold rd; rw [Int.toNat_natCast, List.getD_eq_getElem?_getD, List.getD_eq_getElem?_getD, List.getElem?_append_left (by omega)]
   rw [if_pos (by omega), if_pos (by omega), if_pos (by omega), if_pos (by omega), if_pos (by omega), e1, e2]
  ·obtain ⟨q, rfl⟩ : ∃ q, p = n + q := ⟨p - n, by omega⟩
   have e1 : rd (a.f0 ++ a.f1) ((n + q : Nat) : Int) = rd a.f1 (q : Int) := by unfold rd; rw [Int.toNat_natCast, Int.toNat_natCast, List.getD_eq_getElem?_getD, List.getD_eq_getElem?_getD, List.getElem?_append_right (by omega), ry, Nat.add_sub_cancel_left]
   have e2 : rd (b.f0 ++ b.f1) ((n + q : Nat) : Int) = rd b.f1 (q : Int) := by unfold rd; rw [Int.toNat_natCast, Int.toNat_natCast, List.getD_eq_getElem?_getD, List.getD_eq_getElem?_getD, List.getElem?_append_right (by omega), sy, Nat.add_sub_cancel_left]
   rw [if_neg (by omega), if_pos (by omega), wrap_nq (by omega), if_pos (by omega), if_pos (by omega), if_pos (by omega), if_pos (by omega), if_pos (by omega), e1, e2]
include hn hw hc hl hll in
theorem f_l4 (i : Nat) (hi : i < l.length) (K : List RV → List (List Int) × Int) (hK : ∀ o : List RV, (∀ r ∈ o, Rw n w r) → o.length ≤ 400 → Ev (fun k => r12Find.l3 k (l.map RV.f0) (l.map RV.f1) (w : Int) (c : Int) (o.map RV.f0) (o.map RV.f1) ((i + 1 : Nat) : Int)) (K o)) (d : Nat) :
  ∀ (j : Nat) (out : List RV), l.length = j + d → (∀ r ∈ out, Rw n w r) → out.length ≤ 400 → Ev (fun k => r12Find.l4 k (l.map RV.f0) (l.map RV.f1) (w : Int) (c : Int) (out.map RV.f0) (out.map RV.f1) (i : Int) (j : Int)) (inK K (innerS c (rd_TRV l (i : Int)) out (l.drop j))) := by
 have hri := hl _ (rdT_mem hi)
 induction d with
 | zero =>
  intro j out hj ho hol
  rw [List.drop_eq_nil_of_le (by omega), innerS]
  refine Ev.step (fun k => ?_) (hK out ho hol)
  simp only [r12Find.l4]
  rw [if_neg (by rw [List.length_map]; omega), wrap_s (by omega)]
 | succ d ih =>
  intro j out hj ho hol
  have hjl : j < l.length := by omega
  have hrj := hl _ (rdT_mem hjl)
  rw [dropT_cons hjl]
  obtain ⟨a, hae⟩ : ∃ a, rd_TRV l (i : Int) = a := ⟨_, rfl⟩
  obtain ⟨b, hbe⟩ : ∃ b, rd_TRV l (j : Int) = b := ⟨_, rfl⟩
  rw [hae] at hri ih
  rw [hbe] at hrj
  rw [hae, hbe]
  have rc := hri.c
  have sc := hrj.c
  have es : ∀ k, r12Find.l4 (k + 1) (l.map RV.f0) (l.map RV.f1) (w : Int) (c : Int) (out.map RV.f0) (out.map RV.f1) (i : Int) (j : Int) = r12Find.j5 k (l.map RV.f0) (l.map RV.f1) (w : Int) (c : Int) (out.map RV.f0) (out.map RV.f1) (i : Int) (j : Int) (decide (rd a.f1 (c : Int) = 0 ∨ rd b.f1 (c : Int) = 0 ∨ decide (rd a.f1 (c : Int) < 0) = decide (rd b.f1 (c : Int) < 0))) := by
   intro k
   simp only [r12Find.l4, rd_map1, hae, hbe, rc, sc, List.length_map]
   rw [if_pos (by omega), if_pos (by omega), if_pos (by omega), if_pos (by omega), if_pos (by omega)]
   obtain ⟨p, hp⟩ : ∃ p, rd a.f1 (c : Int) = p := ⟨_, rfl⟩
   obtain ⟨q, hq⟩ : ∃ q, rd b.f1 (c : Int) = q := ⟨_, rfl⟩
   rw [hp, hq]
   by_cases h1 : p < 0
   ·rw [if_pos h1, if_pos (by omega), if_pos (by omega), if_pos (by omega)]
    by_cases h2 : q > 0
    ·rw [if_pos h2, decide_eq_false (p := p = 0 ∨ q = 0 ∨ _)]
     rintro (h | h | h)
     ·omega
     ·omega
     ·rw [decide_eq_true h1, decide_eq_false (show ¬ q < 0 by omega)] at h; cases h
    ·rw [if_neg h2, if_neg (by omega), decide_eq_true (p := p = 0 ∨ q = 0 ∨ _)]
     ·rfl
     ·by_cases h3 : q = 0
      ·exact .inr (.inl h3)
      ·exact .inr (.inr (by rw [decide_eq_true h1, decide_eq_true (show q < 0 by omega)]))
   ·rw [if_neg h1]
    by_cases h2 : p > 0
    ·rw [if_pos h2, if_pos (by omega), if_pos (by omega), if_pos (by omega)]
     congr 1
     by_cases h3 : q < 0
     ·rw [decide_eq_true h3, decide_eq_false (p := p = 0 ∨ q = 0 ∨ _)]
      ·rfl
      ·rintro (h | h | h)
       ·omega
       ·omega
       ·rw [decide_eq_false h1] at h; cases h
     ·rw [decide_eq_false h3, decide_eq_true (p := p = 0 ∨ q = 0 ∨ _)]
      ·rfl
      ·exact .inr (.inr (by rw [decide_eq_false h1]))
    ·rw [if_neg h2, decide_eq_true (p := p = 0 ∨ q = 0 ∨ _)]
     ·rfl
     ·exact .inl (by omega)
  simp only [innerS]
  by_cases hs : rd a.f1 (c : Int) = 0 ∨ rd b.f1 (c : Int) = 0 ∨ decide (rd a.f1 (c : Int) < 0) = decide (rd b.f1 (c : Int) < 0)
  ·rw [if_pos hs]
   refine Ev.step (fun k => by rw [es k, decide_eq_true hs]) ?_
   refine Ev.step (fun k => ?_) (ih (j + 1) out (by omega) ho hol)
   simp only [r12Find.j5, if_true]
   rw [wrap_s (by omega)]
  ·rw [if_neg hs]
   have hp0 : rd a.f1 (c : Int) ≠ 0 := fun h => hs (.inl h)
   have hq0 : rd b.f1 (c : Int) ≠ 0 := fun h => hs (.inr (.inl h))
   have hpJ : J (rd a.f1 (c : Int)) := hri.jc _ (rd_mem (by omega) (by omega))
   have hqJ : J (rd b.f1 (c : Int)) := hrj.jc _ (rd_mem (by omega) (by omega))
   have hgJ := gcdJ hpJ hqJ
   have hg0 : 0 < Int.gcd (rd a.f1 (c : Int)) (rd b.f1 (c : Int)) := Int.gcd_pos_of_ne_zero_left _ hp0
   have h5 := f_l5 n w c hn hw hc l hl (out.map RV.f0) (out.map RV.f1) i j hi hjl (bothS (rd a.f1 c) (rd b.f1 c)) (Int.tdiv (ab (rd a.f1 c)) (Int.gcd (rd a.f1 c) (rd b.f1 c) : Int)) (tdiv_J (ab_J hqJ)) (tdiv_J (ab_J hpJ))
    (fun t => if 400 < out.length + 1 then ([], 5) else inK K (innerS c a (out ++ [⟨(normS t).take n, (normS t).drop n⟩]) (l.drop (j + 1)))) (fun t ht hJt => ?_) (n + w) 0 [] (by simp) rfl (fun z hz => by simp at hz)
   ·rw [hae, hbe, List.drop_zero, List.drop_zero] at h5
    obtain ⟨Rm, hRm⟩ : ∃ Rm, (match mixS (bothS (rd a.f1 c) (rd b.f1 c)) (Int.tdiv (ab (rd a.f1 c)) (Int.gcd (rd a.f1 c) (rd b.f1 c) : Int)) (a.f0 ++ a.f1) (b.f0 ++ b.f1) with | none => (([] : List (List Int)), (3 : Int)) | some t => (fun t => if 400 < out.length + 1 then (([] : List (List Int)), (5 : Int)) else inK K (innerS c a (out ++ [(⟨(normS t).take n, (normS t).drop n⟩ : RV)]) (l.drop (j + 1)))) ([] ++ t)) = Rm := ⟨_, rfl⟩
    have main : Ev (fun k => r12Find.l4 k (l.map RV.f0) (l.map RV.f1) (w : Int) (c : Int) (out.map RV.f0) (out.map RV.f1) (i : Int) (j : Int)) Rm := by
     rw [← hRm]
     refine Ev.step (fun k => by rw [es k, decide_eq_false hs]) ?_
     refine Ev.step (f := fun k => (r01Gcd.f k (rd a.f1 (c : Int)) (rd b.f1 (c : Int))).bind fun t377 => ((some (ab (rd b.f1 (c : Int)))).bind fun t380 => (if t377 = 0 then (none) else ((some (ab (rd a.f1 (c : Int)))).bind fun t383 => (r12Find.l5 k (l.map RV.f0) (l.map RV.f1) (w : Int) (c : Int) (out.map RV.f0) (out.map RV.f1) (i : Int) (j : Int) (wrap64 (Int.tdiv t380 t377)) (wrap64 (Int.tdiv t383 t377)) ([] : List Int) 0 0))))) (fun k => ?_) (Ev.bind (rgcd_ev hpJ hqJ) ?_)
     ·simp only [r12Find.j5, rd_map1, hae, hbe, rc, sc, List.length_map]
      rw [if_neg (by simp), if_pos (by omega), if_pos (by omega), if_pos (by omega), if_pos (by omega), if_pos (by omega), if_pos (by omega), if_pos (by omega), rsize_is hqJ, rsize_is hpJ]
     ·simp only [Option.bind_some]
      rw [wrap_id (tdiv_J (ab_J hqJ)).i, wrap_id (tdiv_J (ab_J hpJ)).i]
      simp only [if_neg (show ¬ ((Int.gcd (rd a.f1 (c : Int)) (rd b.f1 (c : Int)) : Nat) : Int) = 0 by omega)]
      exact h5
    cases hm : mixS (bothS (rd a.f1 c) (rd b.f1 c)) (Int.tdiv (ab (rd a.f1 c)) (Int.gcd (rd a.f1 c) (rd b.f1 c) : Int)) (a.f0 ++ a.f1) (b.f0 ++ b.f1) with
    | none =>
     have hj : joinS c a b = none := by rw [joinS_app hri hrj, hm]; rfl
     rw [hm] at hRm
     have hg : Rm = (([] : List (List Int)), (3 : Int)) := hRm.symm
     rw [hj]
     rw [hg] at main
     exact main
    | some t =>
     have hj : joinS c a b = some ⟨(normS t).take n, (normS t).drop n⟩ := by rw [joinS_app hri hrj, hm]; rfl
     rw [hm] at hRm
     rw [hj]
     have hg : Rm = inK K (if 400 < out.length + 1 then Except.error 5 else innerS c a (out ++ [(⟨(normS t).take n, (normS t).drop n⟩ : RV)]) (l.drop (j + 1))) := by
      rw [← hRm]
      simp only [List.nil_append]
      split <;> rfl
     rw [hg] at main
     exact main
   ·refine f_l6 _ _ _ _ _ _ _ _ t hJt (by omega) _ ?_
    have hNl : (normS t).length = n + w := by rw [normS_length, ht]
    have hNJ : ∀ z ∈ normS t, J z := normS_J hJt
    have hy := hri.y
    refine Ev.step (f := fun k => if 400 < out.length + 1 then some (([] : List (List Int)), 5) else r12Find.l4 k (l.map RV.f0) (l.map RV.f1) (w : Int) (c : Int) ((out ++ [(⟨(normS t).take n, (normS t).drop n⟩ : RV)]).map RV.f0) ((out ++ [(⟨(normS t).take n, (normS t).drop n⟩ : RV)]).map RV.f1) (i : Int) ((j + 1 : Nat) : Int)) (fun k => ?_) ?_
    ·simp only [r12Find.j9, rd_map0, hae, hy, List.length_map]
     rw [if_pos (by omega), if_pos (by omega), if_pos (by omega), if_pos (by omega), if_pos (by omega)]
     simp only [Option.bind_some]
     rw [if_pos (by omega), wrap_s (by omega), Int.toNat_natCast, List.map_append, List.map_append]
     by_cases h4 : 400 < out.length + 1
     ·rw [if_pos (by simp; omega), if_pos h4]
     ·rw [if_neg (by simp; omega), if_neg h4]; rfl
    ·by_cases h4 : 400 < out.length + 1
     ·simp only [if_pos h4]; exact Ev.now _
     ·simp only [if_neg h4]
      refine ih (j + 1) _ (by omega) (fun r hr => ?_) (by simp; omega)
      rcases List.mem_append.1 hr with h | h
      ·exact ho r h
      ·rw [List.mem_singleton.1 h]
       exact ⟨by simp [hNl], by simp [hNl], fun z hz => hNJ z (List.mem_of_mem_take hz), fun z hz => hNJ z (List.mem_of_mem_drop hz)⟩
include hn hw hc hl hll in
theorem f_l3 (K : List RV → List (List Int) × Int) (hK : ∀ o : List RV, (∀ r ∈ o, Rw n w r) → o.length ≤ 400 → Ev (fun k => r12Find.l7 k [] [] (w : Int) (c : Int) (o.map RV.f0) (o.map RV.f1) 0) (K o)) (d : Nat) :
  ∀ (i : Nat) (out : List RV), l.length = i + d → (∀ r ∈ out, Rw n w r) → out.length ≤ 400 → Ev (fun k => r12Find.l3 k (l.map RV.f0) (l.map RV.f1) (w : Int) (c : Int) (out.map RV.f0) (out.map RV.f1) (i : Int)) (inK K (outerS c out (l.drop i))) := by
 induction d with
 | zero =>
  intro i out hi ho hol
  rw [List.drop_eq_nil_of_le (by omega), outerS]
  exact Ev.step (fun k => by simp only [r12Find.l3]; rw [if_neg (by rw [List.length_map]; omega)]) (hK out ho hol)
 | succ d ih =>
  intro i out hi ho hol
  rw [dropT_cons (by omega)]
  simp only [outerS]
  have h4 := f_l4 n w c hn hw hc l hl hll i (by omega) (fun o => inK K (outerS c o (l.drop (i + 1)))) (fun o h1 h2 => ih (i + 1) o (by omega) h1 h2) (l.length - (i + 1)) (i + 1) out (by omega) ho hol
  have e : inK (fun o => inK K (outerS c o (l.drop (i + 1)))) (innerS c (rd_TRV l (i : Int)) out (l.drop (i + 1))) = inK K (match innerS c (rd_TRV l (i : Int)) out (l.drop (i + 1)) with | .ok o => outerS c o (l.drop (i + 1)) | .error e => .error e) := by
   cases innerS c (rd_TRV l (i : Int)) out (l.drop (i + 1)) <;> rfl
  rw [e] at h4
  refine Ev.step (fun k => ?_) h4
  simp only [r12Find.l3]
  rw [if_pos (by rw [List.length_map]; omega), wrap_s (by omega)]
include hn hw hc hl hll in
theorem f_l2 (K : List RV → List (List Int) × Int) (hK : ∀ o : List RV, (∀ r ∈ o, Rw n w r) → o.length ≤ 400 → Ev (fun k => r12Find.l7 k [] [] (w : Int) (c : Int) (o.map RV.f0) (o.map RV.f1) 0) (K o)) (d : Nat) :
  ∀ (i : Nat) (out : List RV), l.length = i + d → out.length ≤ i → (∀ r ∈ out, Rw n w r) → Ev (fun k => r12Find.l2 k (l.map RV.f0) (l.map RV.f1) (w : Int) (c : Int) (out.map RV.f0) (out.map RV.f1) (i : Int)) (inK K (outerS c (out ++ zeroS c (l.drop i)) l)) := by
 induction d with
 | zero =>
  intro i out hi hol ho
  rw [List.drop_eq_nil_of_le (by omega)]
  have h3 := f_l3 n w c hn hw hc l hl hll K hK l.length 0 out (by simp) ho (by omega)
  rw [List.drop_zero] at h3
  simp only [zeroS, List.filter_nil, List.append_nil]
  exact Ev.step (fun k => by simp only [r12Find.l2]; rw [if_neg (by rw [List.length_map]; omega)]; rfl) h3
 | succ d ih =>
  intro i out hi hol ho
  have hr := hl _ (rdT_mem (l := l) (i := i) (by omega))
  have rc := hr.c
  rw [dropT_cons (by omega)]
  by_cases h : rd (rd_TRV l (i : Int)).f1 (c : Int) = 0
  ·have e : out ++ zeroS c (rd_TRV l (i : Int) :: l.drop (i + 1)) = (out ++ [rd_TRV l (i : Int)]) ++ zeroS c (l.drop (i + 1)) := by
    unfold zeroS; rw [List.filter_cons, show (rd (rd_TRV l (i : Int)).f1 (c : Int) == 0) = true by rw [h]; rfl, if_pos rfl, List.append_assoc]; rfl
   rw [e]
   refine Ev.step (fun k => ?_) (ih (i + 1) (out ++ [rd_TRV l (i : Int)]) (by omega) (by simp; omega) (fun r hr2 => (List.mem_append.1 hr2).elim (ho r) (fun h => List.mem_singleton.1 h ▸ hr)))
   simp only [r12Find.l2, rd_map0, rd_map1, List.length_map, rc]
   rw [if_pos (by omega), if_pos (by omega), if_pos (by omega), if_pos (by omega), if_pos (by omega), if_pos h, if_pos (by omega), if_pos (by omega), wrap_s (by omega), List.map_append, List.map_append]
   rfl
  ·have e : out ++ zeroS c (rd_TRV l (i : Int) :: l.drop (i + 1)) = out ++ zeroS c (l.drop (i + 1)) := by
    unfold zeroS; rw [List.filter_cons, show (rd (rd_TRV l (i : Int)).f1 (c : Int) == 0) = false from beq_eq_false_iff_ne.2 h, if_neg (by simp)]
   rw [e]
   refine Ev.step (fun k => ?_) (ih (i + 1) out (by omega) (by omega) ho)
   simp only [r12Find.l2, rd_map1, List.length_map, rc]
   rw [if_pos (by omega), if_pos (by omega), if_pos (by omega), if_pos (by omega), if_pos (by omega), if_neg h, wrap_s (by omega)]
end
theorem f_l1 (n w : Nat) (hn : n ≤ 1000) (hw : w ≤ 1000) (d : Nat) : ∀ (c : Nat) (l : List RV), w = c + d → (∀ r ∈ l, Rw n w r) → l.length ≤ 400 → Ev (fun k => r12Find.l1 k (l.map RV.f0) (l.map RV.f1) (w : Int) (c : Int)) (outS (colsS d c l)) := by
 induction d with
 | zero =>
  intro c l hc hl hll
  exact Ev.step (f := fun _ => some (l.map RV.f0, 0)) (fun k => by simp only [r12Find.l1]; rw [if_neg (by omega)]) (Ev.now _)
 | succ d ih =>
  intro c l hc hl hll
  have h2 := f_l2 n w c hn hw (by omega) l hl hll (fun o => outS (colsS d (c + 1) (leastS o 0 o))) (fun o ho hol => ?_) l.length 0 [] (by simp) (by simp) (fun r hr => by simp at hr)
  ·rw [List.drop_zero, List.nil_append] at h2
   have e : inK (fun o => outS (colsS d (c + 1) (leastS o 0 o))) (outerS c (zeroS c l) l) = outS (colsS (d + 1) c l) := by
    simp only [colsS, columnS]
    cases outerS c (zeroS c l) l <;> rfl
   rw [e] at h2
   exact Ev.step (fun k => by simp only [r12Find.l1]; rw [if_pos (by omega)]; rfl) h2
  ·have := f_l7 n w c hn o ho (by omega) (outS (colsS d (c + 1) (leastS o 0 o))) o.length 0 [] (by simp) (by simp) (by
    rw [List.drop_zero, List.nil_append, wrap_s (by omega)]
    exact ih (c + 1) (leastS o 0 o) (by omega) (fun r hr => ho r (leastS_mem o o 0 r hr)) (Nat.le_trans (leastS_len o o 0) hol))
   exact this
theorem startS_app (n : Nat) : ∀ (a b : List (List Int)) (i : Nat), startS n i (a ++ b) = startS n i a ++ startS n (i + a.length) b
 | [], b, i => by simp [startS]
 | r :: a, b, i => by
  simp only [List.cons_append, startS]
  rw [startS_app n a b (i + 1)]
  simp only [List.length_cons]
  rw [show i + 1 + a.length = i + (a.length + 1) by omega]
theorem f_l0 (m : List (List Int)) (w : Nat) (hm : ∀ r ∈ m, r.length = w) (hw : w ≤ 1000) (hb : m.length ≤ 400) (R : List (List Int) × Int)
  (h : Ev (fun k => r12Find.l1 k ((startS m.length 0 m).map RV.f0) ((startS m.length 0 m).map RV.f1) (widthS m : Int) 0) R) (d : Nat) :
  ∀ i : Nat, m.length = i + d → Ev (fun k => r12Find.l0 k m ((startS m.length 0 (m.take i)).map RV.f0) ((startS m.length 0 (m.take i)).map RV.f1) (if i = 0 then 0 else (w : Int)) (i : Int)) R := by
 induction d with
 | zero =>
  intro i hi
  have e : i = m.length := by omega
  subst e
  have ew : (if m.length = 0 then (0 : Int) else (w : Int)) = (widthS m : Int) := by
   cases m with
   | nil => rfl
   | cons a m => rw [if_neg (by simp), widthS_cons, hm a List.mem_cons_self]
  rw [List.take_length, ew]
  exact Ev.step (fun k => by simp only [r12Find.l0]; rw [if_neg (by omega)]) h
 | succ d ih =>
  intro i hi
  have hr := hm _ (rdL_mem (m := m) (i := i) (by omega))
  have hn := ih (i + 1) (by omega)
  rw [takeL_snoc (by omega), startS_app, if_neg (by omega), List.map_append, List.map_append] at hn
  have hl : (startS m.length 0 (m.take i)).length = i := by rw [startS_len]; simp; omega
  have htl : (m.take i).length = i := by simp; omega
  refine Ev.step (fun k => ?_) hn
  simp only [r12Find.l0]
  rw [if_pos (by omega), if_pos (by omega), if_pos (by omega)]
  simp only [Option.bind_some]
  rw [if_pos (by omega), if_pos (by rw [List.length_replicate]; omega), if_pos (by rw [List.length_map]; omega), if_pos (by rw [hr]; simp; omega), if_pos (by rw [List.length_map]; omega), hr, wrap_s (by omega), Int.toNat_natCast, Int.toNat_natCast]
  simp only [startS, htl, Nat.zero_add, List.map_cons, List.map_nil, List.nil_append]
  rfl
/-- The document's answer is the program's. -/
theorem rfind_ev (m : List (List Int)) (w : Nat) (hm : ∀ r ∈ m, r.length = w) (hJ : ∀ r ∈ m, ∀ x ∈ r, J x) (hw : w ≤ 1000) (hb : m.length ≤ 400) : Ev (fun k => r12Find.f k m) (findS m) := by
 have hr : ∀ r ∈ startS m.length 0 m, Rw m.length (widthS m) r := startS_rw m 0 (fun r hr => by
  cases m with
  | nil => simp at hr
  | cons a m => rw [widthS_cons, hm r hr, hm a List.mem_cons_self]) hJ
 have hww : widthS m ≤ 1000 := by
  cases m with
  | nil => simp [widthS]
  | cons a m => rw [widthS_cons, hm a List.mem_cons_self]; exact hw
 have h1 := f_l1 m.length (widthS m) (by omega) hww (widthS m) 0 (startS m.length 0 m) (by omega) hr (by rw [startS_len]; exact hb)
 have h0 := f_l0 m w hm hw hb _ h1 m.length 0 (by simp)
 exact h0

/-- A list by a function. -/
def vec (n : Nat) (F : Nat → Int) : List Int := (List.range n).map F
theorem vec_length (n : Nat) (F : Nat → Int) : (vec n F).length = n := by simp [vec]
theorem vec_rd {n : Nat} {F : Nat → Int} {p : Nat} (h : p < n) : rd (vec n F) (p : Int) = F p := by
 unfold rd vec; rw [Int.toNat_natCast, List.getD_eq_getElem?_getD, List.getElem?_map, List.getElem?_range h]; rfl
theorem vec_congr {n : Nat} {F G : Nat → Int} (h : ∀ p, p < n → F p = G p) : vec n F = vec n G :=
 List.map_congr_left fun p hp => h p (by simpa using hp)
theorem vec_set {n : Nat} {F : Nat → Int} {p : Nat} (v : Int) : (vec n F).set p v = vec n fun q => if q = p then v else F q := by
 unfold vec
 refine List.ext_getElem (by simp) fun i h1 h2 => ?_
 rw [List.getElem_set]
 by_cases e : p = i
 ·subst e; simp
 ·rw [if_neg e]; simp [show ¬ i = p from fun x => e x.symm]
/-- The sum of the first numbers. -/
def sumR : Nat → (Nat → Int) → Int
 | 0, _ => 0
 | m + 1, g => sumR m g + g m
theorem sumR_congr : ∀ {m : Nat} {f g : Nat → Int}, (∀ k, k < m → f k = g k) → sumR m f = sumR m g
 | 0, _, _, _ => rfl
 | m + 1, f, g, h => by rw [sumR, sumR, sumR_congr fun k hk => h k (by omega), h m (by omega)]
theorem sumR_zero : ∀ (m : Nat), sumR m (fun _ => 0) = 0
 | 0 => rfl
 | m + 1 => by rw [sumR, sumR_zero m]; rfl
theorem sumR_add : ∀ (m : Nat) (f g : Nat → Int), sumR m (fun k => f k + g k) = sumR m f + sumR m g
 | 0, _, _ => rfl
 | m + 1, f, g => by rw [sumR, sumR, sumR, sumR_add m]; omega
theorem sumR_one : ∀ (m q : Nat) (v : Int), q < m → sumR m (fun k => if k = q then v else 0) = v
 | 0, q, v, h => by omega
 | m + 1, q, v, h => by
  rw [sumR]
  by_cases e : q = m
  ·subst e
   rw [if_pos rfl, sumR_congr (g := fun _ => 0) fun k hk => if_neg (by omega), sumR_zero]; omega
  ·rw [if_neg (fun x => e x.symm), sumR_one m q v (by omega)]; omega
theorem sumR_bound {b : Int} : ∀ {m : Nat} {f : Nat → Int}, (∀ k, k < m → -b ≤ f k ∧ f k ≤ b) → -((m : Int) * b) ≤ sumR m f ∧ sumR m f ≤ (m : Int) * b
 | 0, _, _ => by simp [sumR]
 | m + 1, f, h => by
  have h1 := sumR_bound (m := m) (f := f) fun k hk => h k (by omega)
  have h2 := h m (by omega)
  have e : ((m + 1 : Nat) : Int) * b = (m : Int) * b + b := by push_cast; rw [Int.add_mul, Int.one_mul]
  rw [sumR, e]; omega

theorem sumR_mul (g : Int) : ∀ (m : Nat) (f : Nat → Int), sumR m (fun k => g * f k) = g * sumR m f
 | 0, _ => (Int.mul_zero g).symm
 | m + 1, f => by rw [sumR, sumR, sumR_mul g m f, Int.mul_add]
theorem mixS_get {a b : Int} : ∀ (xs ys r : List Int), mixS a b xs ys = some r → ∀ i : Nat, i < xs.length → i < ys.length → rd r (i : Int) = a * rd xs (i : Int) + b * rd ys (i : Int)
 | [], _, _, _, i, h, _ => by simp at h
 | _ :: _, [], _, _, i, _, h => by simp at h
 | x :: xs, y :: ys, r, h, i, h1, h2 => by
  rw [mixS_cons] at h
  split at h
  ·rename_i hd
   split at h
   ·cases h
   ·cases hm : mixS a b xs ys with
    | none => rw [hm] at h; cases h
    | some r' =>
     rw [hm] at h
     obtain rfl := Option.some.inj h
     cases i with
     | zero => exact (dot2_is hd).1
     | succ i =>
      have := mixS_get xs ys r' hm i (by simpa using h1) (by simpa using h2)
      simpa [rd] using this
  ·cases h
theorem normS_gets (l : List Int) : ∃ g : Nat, 0 < g ∧ ∀ i : Nat, i < l.length → (g : Int) * rd (normS l) (i : Int) = rd l (i : Int) := by
 unfold normS
 split
 ·rename_i hg
  refine ⟨gl 0 l, by omega, fun i hi => ?_⟩
  have hd : (gl 0 l) ∣ (rd l (i : Int)).natAbs := gl_dvd l _ (rd_mem (by omega) (by omega))
  have e : rd (l.map fun x => Int.tdiv x (gl 0 l : Int)) (i : Int) = Int.tdiv (rd l (i : Int)) (gl 0 l : Int) := by
   unfold rd; rw [Int.toNat_natCast, List.getD_eq_getElem?_getD, List.getD_eq_getElem?_getD, List.getElem?_map, List.getElem?_eq_getElem hi]; rfl
  rw [e]
  exact Int.mul_tdiv_cancel' (Int.ofNat_dvd_left.2 hd)
 ·exact ⟨1, by omega, fun i _ => by simp⟩
theorem both_mul {p q : Int} (hq : q ≠ 0) : bothS p q * (Int.gcd p q : Int) = ab q ∧ 0 < bothS p q := by
 unfold bothS
 have hg : (Int.gcd p q) ∣ q.natAbs := Int.gcd_dvd_natAbs_right p q
 have hg0 : 0 < Int.gcd p q := Int.gcd_pos_of_ne_zero_right _ hq
 obtain ⟨t, ht⟩ := hg
 have hab : ab q = ((Int.gcd p q : Nat) : Int) * (t : Int) := by rw [ab_nat, ht]; push_cast; rfl
 rw [hab, Int.mul_tdiv_cancel_left _ (by omega)]
 refine ⟨Int.mul_comm _ _, ?_⟩
 have : t ≠ 0 := by intro e; rw [e] at ht; simp at ht; exact hq ht
 omega
section
variable (m : List (List Int)) (n w : Nat)
/-- A row that comes to what it tells. -/
structure Ex (r : RV) : Prop where
 rw_ : Rw n w r
 pos : ∀ i : Nat, i < n → 0 ≤ rd r.f0 (i : Int)
 nz : ∃ i : Nat, i < n ∧ 0 < rd r.f0 (i : Int)
 sum : ∀ c : Nat, c < w → (sumR n fun k => rd r.f0 (k : Int) * rd (rd_L10 m (k : Int)) (c : Int)) = rd r.f1 (c : Int)
theorem join_ex {c : Nat} (hc : c < w) {a b r : RV} (ha : Ex m n w a) (hb : Ex m n w b) (za : ∀ q : Nat, q < c → rd a.f1 (q : Int) = 0) (zb : ∀ q : Nat, q < c → rd b.f1 (q : Int) = 0)
  (hs : ¬ (rd a.f1 (c : Int) = 0 ∨ rd b.f1 (c : Int) = 0 ∨ decide (rd a.f1 (c : Int) < 0) = decide (rd b.f1 (c : Int) < 0))) (h : joinS c a b = some r) : Ex m n w r ∧ ∀ q : Nat, q < c + 1 → rd r.f1 (q : Int) = 0 := by
 obtain ⟨u, v, hu, hv, lu, lv, hr, hrw⟩ := joinS_some ha.rw_ hb.rw_ h
 have na : rd a.f1 (c : Int) ≠ 0 := fun h => hs (.inl h)
 have nb : rd b.f1 (c : Int) ≠ 0 := fun h => hs (.inr (.inl h))
 obtain ⟨mx, px⟩ := both_mul (p := rd a.f1 (c : Int)) nb
 have my : Int.tdiv (ab (rd a.f1 c)) (Int.gcd (rd a.f1 c) (rd b.f1 c) : Int) * (Int.gcd (rd a.f1 (c : Int)) (rd b.f1 (c : Int)) : Int) = ab (rd a.f1 (c : Int)) ∧ 0 < Int.tdiv (ab (rd a.f1 c)) (Int.gcd (rd a.f1 c) (rd b.f1 c) : Int) := by
  rw [Int.gcd_comm]; exact both_mul na
 obtain ⟨my, py⟩ := my
 have hg0 : 0 < Int.gcd (rd a.f1 (c : Int)) (rd b.f1 (c : Int)) := Int.gcd_pos_of_ne_zero_left _ na
 obtain ⟨G, hG⟩ : ∃ G, Int.gcd (rd a.f1 (c : Int)) (rd b.f1 (c : Int)) = G := ⟨_, rfl⟩
 obtain ⟨x, hx⟩ : ∃ x, bothS (rd a.f1 c) (rd b.f1 c) = x := ⟨_, rfl⟩
 obtain ⟨y, hy⟩ : ∃ y, Int.tdiv (ab (rd a.f1 c)) (Int.gcd (rd a.f1 c) (rd b.f1 c) : Int) = y := ⟨_, rfl⟩
 rw [hx] at px mx hu hv
 rw [hy] at py my hu hv
 rw [hG] at mx my hg0
 obtain ⟨g, hgp, hg⟩ := normS_gets (u ++ v)
 have ra := ha.rw_
 have rb := hb.rw_
 have hy0 : ∀ i : Nat, i < n → (g : Int) * rd r.f0 (i : Int) = x * rd a.f0 (i : Int) + y * rd b.f0 (i : Int) := by
  intro i hi
  have e1 : rd r.f0 (i : Int) = rd (normS (u ++ v)) (i : Int) := by
   rw [hr]; show rd ((normS (u ++ v)).take u.length) (i : Int) = _
   unfold rd; rw [Int.toNat_natCast, List.getD_eq_getElem?_getD, List.getD_eq_getElem?_getD, List.getElem?_take_of_lt (by omega)]
  have e2 : rd (u ++ v) (i : Int) = rd u (i : Int) := by unfold rd; rw [Int.toNat_natCast, List.getD_eq_getElem?_getD, List.getD_eq_getElem?_getD, List.getElem?_append_left (by omega)]
  rw [e1, hg i (by simp; omega), e2]
  exact mixS_get _ _ _ hu i (by rw [ra.y]; exact hi) (by rw [rb.y]; exact hi)
 have hc0 : ∀ q : Nat, q < w → (g : Int) * rd r.f1 (q : Int) = x * rd a.f1 (q : Int) + y * rd b.f1 (q : Int) := by
  intro q hq
  have e1 : rd r.f1 (q : Int) = rd (normS (u ++ v)) ((n + q : Nat) : Int) := by
   rw [hr]; show rd ((normS (u ++ v)).drop u.length) (q : Int) = _
   unfold rd; rw [Int.toNat_natCast, Int.toNat_natCast, List.getD_eq_getElem?_getD, List.getD_eq_getElem?_getD, List.getElem?_drop, lu]
  have e2 : rd (u ++ v) ((n + q : Nat) : Int) = rd v (q : Int) := by unfold rd; rw [Int.toNat_natCast, Int.toNat_natCast, List.getD_eq_getElem?_getD, List.getD_eq_getElem?_getD, List.getElem?_append_right (by omega), lu, Nat.add_sub_cancel_left]
  rw [e1, hg (n + q) (by simp; omega), e2]
  exact mixS_get _ _ _ hv q (by rw [ra.c]; exact hq) (by rw [rb.c]; exact hq)
 have hgz : (g : Int) ≠ 0 := by omega
 refine ⟨⟨hrw, fun i hi => ?_, ?_, fun q hq => ?_⟩, fun q hq => ?_⟩
 ·have h1 := Int.mul_nonneg (Int.le_of_lt px) (ha.pos i hi)
  have h2 := Int.mul_nonneg (Int.le_of_lt py) (hb.pos i hi)
  have h3 := hy0 i hi
  refine Int.not_lt.1 fun hn => ?_
  have := Int.mul_neg_of_pos_of_neg (show (0 : Int) < (g : Int) by omega) hn
  omega
 ·obtain ⟨i, hi, hp⟩ := ha.nz
  refine ⟨i, hi, ?_⟩
  have h1 := Int.mul_pos px hp
  have h2 := Int.mul_nonneg (Int.le_of_lt py) (hb.pos i hi)
  have h3 := hy0 i hi
  refine Int.not_le.1 fun hn => ?_
  have := Int.mul_nonpos_of_nonneg_of_nonpos (show (0 : Int) ≤ (g : Int) by omega) hn
  omega
 ·refine Int.eq_of_mul_eq_mul_left hgz ?_
  rw [hc0 q hq, ← ha.sum q hq, ← hb.sum q hq, ← sumR_mul, ← sumR_mul, ← sumR_mul, ← sumR_add]
  refine sumR_congr fun k hk => ?_
  rw [← Int.mul_assoc, hy0 k hk, Int.add_mul, Int.mul_assoc, Int.mul_assoc]
 ·have h1 := hc0 q (by omega)
  refine (Int.mul_eq_zero.1 ?_).resolve_left hgz
  rw [h1]
  rcases Nat.lt_or_ge q c with h2 | h2
  ·rw [za q h2, zb q h2, Int.mul_zero, Int.mul_zero]; rfl
  ·obtain rfl : q = c := by omega
   refine (Int.mul_eq_zero.1 (?_ : (G : Int) * (x * rd a.f1 (q : Int) + y * rd b.f1 (q : Int)) = 0)).resolve_left (by omega)
   obtain ⟨p, hp⟩ : ∃ p, rd a.f1 (q : Int) = p := ⟨_, rfl⟩
   obtain ⟨s, hs2⟩ : ∃ s, rd b.f1 (q : Int) = s := ⟨_, rfl⟩
   rw [hp] at na my hs
   rw [hs2] at nb mx hs
   rw [hp, hs2, Int.mul_add, ← Int.mul_assoc, ← Int.mul_assoc, Int.mul_comm (G : Int) x, Int.mul_comm (G : Int) y, mx, my]
   unfold ab
   by_cases h3 : p < 0
   ·have h4 : ¬ s < 0 := fun h4 => hs (.inr (.inr (by rw [decide_eq_true h3, decide_eq_true h4])))
    rw [if_pos h3, if_neg h4, Int.neg_mul, Int.mul_comm s p]; omega
   ·have h4 : s < 0 := Decidable.byContradiction fun h4 => hs (.inr (.inr (by rw [decide_eq_false h3, decide_eq_false h4])))
    rw [if_neg h3, if_pos h4, Int.neg_mul, Int.mul_comm s p]; omega
theorem inner_ex {c : Nat} (hc : c < w) {a : RV} (ha : Ex m n w a) (za : ∀ q : Nat, q < c → rd a.f1 (q : Int) = 0) : ∀ (t out o : List RV), (∀ r ∈ t, Ex m n w r ∧ ∀ q : Nat, q < c → rd r.f1 (q : Int) = 0) → (∀ r ∈ out, Ex m n w r ∧ ∀ q : Nat, q < c + 1 → rd r.f1 (q : Int) = 0) → innerS c a out t = .ok o → ∀ r ∈ o, Ex m n w r ∧ ∀ q : Nat, q < c + 1 → rd r.f1 (q : Int) = 0
 | [], out, o, _, h2, h => by
  simp only [innerS, Except.ok.injEq] at h
  exact h ▸ h2
 | b :: t, out, o, h1, h2, h => by
  have r1 := fun r hr => h1 r (List.mem_cons_of_mem b hr)
  simp only [innerS] at h
  split at h
  ·exact inner_ex hc ha za t out o r1 h2 h
  ·rename_i hcond
   split at h
   ·cases h
   ·rename_i r hj
    have hb := h1 b List.mem_cons_self
    have hx := join_ex m n w hc ha hb.1 za hb.2 hcond hj
    split at h
    ·cases h
    ·refine inner_ex hc ha za t (out ++ [r]) o r1 (fun z hz => ?_) h
     rcases List.mem_append.1 hz with q | q
     ·exact h2 z q
     ·rw [List.mem_singleton.1 q]; exact hx
theorem outer_ex {c : Nat} (hc : c < w) : ∀ (t out o : List RV), (∀ r ∈ t, Ex m n w r ∧ ∀ q : Nat, q < c → rd r.f1 (q : Int) = 0) → (∀ r ∈ out, Ex m n w r ∧ ∀ q : Nat, q < c + 1 → rd r.f1 (q : Int) = 0) → outerS c out t = .ok o → ∀ r ∈ o, Ex m n w r ∧ ∀ q : Nat, q < c + 1 → rd r.f1 (q : Int) = 0
 | [], out, o, _, h2, h => by
  simp only [outerS, Except.ok.injEq] at h
  exact h ▸ h2
 | a :: t, out, o, h1, h2, h => by
  have r1 := fun r hr => h1 r (List.mem_cons_of_mem a hr)
  simp only [outerS] at h
  split at h
  ·rename_i o1 hi
   have ha := h1 a List.mem_cons_self
   exact outer_ex hc t o1 o r1 (inner_ex m n w hc ha.1 ha.2 t out o1 r1 h2 hi) h
  ·cases h
theorem cols_ex : ∀ (d c : Nat) (l r : List RV), c + d = w → (∀ r ∈ l, Ex m n w r ∧ ∀ q : Nat, q < c → rd r.f1 (q : Int) = 0) → colsS d c l = .ok r → ∀ z ∈ r, Ex m n w z ∧ ∀ q : Nat, q < w → rd z.f1 (q : Int) = 0
 | 0, c, l, r, hw, h, hr => by
  simp only [colsS, Except.ok.injEq] at hr
  obtain rfl : c = w := by omega
  exact hr ▸ h
 | d + 1, c, l, r, hw, h, hr => by
  simp only [colsS] at hr
  split at hr
  ·rename_i o ho
   have h2 := outer_ex m n w (by omega) l (zeroS c l) o h (fun z hz => by
    obtain ⟨h1, h2⟩ := List.mem_filter.1 hz
    refine ⟨(h z h1).1, fun q hq => ?_⟩
    rcases Nat.lt_or_ge q c with h3 | h3
    ·exact (h z h1).2 q h3
    ·obtain rfl : q = c := by omega
     exact eq_of_beq h2) ho
   exact cols_ex d (c + 1) _ r (by omega) (fun z hz => h2 z (leastS_mem o o 0 z hz)) hr
  ·cases hr
end
theorem rd_unit {n i j : Nat} (hi : i < n) (hj : j < n) : rd (unitS n i) (j : Int) = if i = j then 1 else 0 := by
 unfold unitS rd
 rw [Int.toNat_natCast, List.getD_eq_getElem?_getD, List.getElem?_set]
 split
 ·rw [if_pos (by simp; omega)]; rfl
 ·rw [List.getElem?_replicate, if_pos hj]; rfl
theorem start_ex (m : List (List Int)) (w : Nat) (hm : ∀ r ∈ m, r.length = w) (hJ : ∀ r ∈ m, ∀ x ∈ r, J x) : ∀ (t : List (List Int)) (i : Nat), t = m.drop i → ∀ r ∈ startS m.length i t, Ex m m.length w r
 | [], _, _, r, h => by simp [startS] at h
 | a :: t, i, ht, r, h => by
  have hi : i < m.length := by
   rcases Nat.lt_or_ge i m.length with h1 | h1
   ·exact h1
   ·rw [List.drop_eq_nil_of_le h1] at ht; cases ht
  rw [dropL_cons hi] at ht
  injection ht with h1 h2
  simp only [startS] at h
  rcases List.mem_cons.1 h with rfl | h
  ·have hma : a ∈ m := h1 ▸ rdL_mem hi
   refine ⟨⟨by simp [unitS], hm a hma, unit_J _ i, hJ a hma⟩, fun j hj => ?_, ⟨i, hi, ?_⟩, fun c hc => ?_⟩
   ·show 0 ≤ rd (unitS m.length i) (j : Int)
    rw [rd_unit hi hj]; split <;> omega
   ·show 0 < rd (unitS m.length i) (i : Int)
    rw [rd_unit hi hi, if_pos rfl]; omega
   ·show (sumR m.length fun k => rd (unitS m.length i) (k : Int) * rd (rd_L10 m (k : Int)) (c : Int)) = rd a (c : Int)
    rw [h1, ← sumR_one m.length i (rd (rd_L10 m (i : Int)) (c : Int)) hi]
    refine sumR_congr fun k hk => ?_
    rw [rd_unit hi hk]
    by_cases e : i = k
    ·subst e; rw [if_pos rfl, if_pos rfl, Int.one_mul]
    ·rw [if_neg e, if_neg (fun x => e x.symm), Int.zero_mul]
  ·exact start_ex m w hm hJ t (i + 1) h2 r h
/-- What Find answers, if it answers: vectors by which the rows come to noughts. -/
theorem findS_ex (m : List (List Int)) (w : Nat) (hm : ∀ r ∈ m, r.length = w) (hJ : ∀ r ∈ m, ∀ x ∈ r, J x) (h0 : (findS m).2 = 0) :
  ∀ y ∈ (findS m).1, y.length = m.length ∧ (∀ i : Nat, i < m.length → 0 ≤ rd y (i : Int)) ∧ (∃ i : Nat, i < m.length ∧ 0 < rd y (i : Int)) ∧ (m ≠ [] → ∀ c : Nat, c < w → (sumR m.length fun k => rd y (k : Int) * rd (rd_L10 m (k : Int)) (c : Int)) = 0) := by
 intro y hy
 by_cases hne : m = []
 ·subst hne
  simp [findS, widthS, startS, colsS, outS] at hy
 ·have hw : widthS m = w := by
   cases m with
   | nil => exact absurd rfl hne
   | cons a m => exact hm a List.mem_cons_self
  unfold findS at hy h0
  rw [hw] at hy h0
  cases hc : colsS w 0 (startS m.length 0 m) with
  | error e =>
   rw [hc] at hy
   simp [outS] at hy
  | ok r =>
   rw [hc] at hy
   simp only [outS] at hy
   obtain ⟨z, hz, rfl⟩ := List.mem_map.1 hy
   have := cols_ex m m.length w w 0 _ r (by omega) (fun r hr => ⟨start_ex m w hm hJ m 0 rfl r hr, fun q hq => by omega⟩) hc z hz
   exact ⟨this.1.rw_.y, this.1.pos, this.1.nz, fun _ c hc => by rw [this.1.sum c hc, this.2 c hc]⟩
section
variable (l m : List (List Int)) (w : Nat) (hml : m.length ≤ 1000) (hw : w ≤ 1000) (hll : l.length ≤ 1000) (hm : ∀ r ∈ m, r.length = w)
  (hl : ∀ y ∈ l, y.length = m.length ∧ (∀ i : Nat, i < m.length → 0 ≤ rd y (i : Int)) ∧ (∃ i : Nat, i < m.length ∧ 0 < rd y (i : Int)) ∧ (m ≠ [] → ∀ c : Nat, c < w → (sumR m.length fun k => rd y (k : Int) * rd (rd_L10 m (k : Int)) (c : Int)) = 0))
end

theorem rdE_lt {l : List S88} {i : Nat} (h : i < l.length) : rd_T88 l (i : Int) = l[i] := by
 unfold rd_T88; rw [Int.toNat_natCast, List.getD_eq_getElem?_getD, List.getElem?_eq_getElem h]; rfl
theorem rdE_mem {l : List S88} {i : Nat} (h : i < l.length) : rd_T88 l (i : Int) ∈ l := by rw [rdE_lt h]; exact List.getElem_mem _
theorem dropE_cons {l : List S88} {i : Nat} (h : i < l.length) : l.drop i = rd_T88 l (i : Int) :: l.drop (i + 1) := by
 rw [rdE_lt h]; exact List.drop_eq_getElem_cons h
/-- What is on its way to a place. -/
def wayS : List S88 → Nat → Int
 | [], _ => 0
 | e :: l, p => (if e.f1 = (p : Int) then e.f2 else 0) + wayS l p
theorem wayS_app : ∀ (l m : List S88) (p : Nat), wayS (l ++ m) p = wayS l p + wayS m p
 | [], m, p => by simp [wayS]
 | e :: l, m, p => by simp only [List.cons_append, wayS]; rw [wayS_app l m p]; omega
/-- What is due at a time. -/
def dueS (t : Int) : List S88 → Nat → Int
 | [], _ => 0
 | e :: l, p => (if e.f0 = t ∧ e.f1 = (p : Int) then e.f2 else 0) + dueS t l p
/-- An event that may be. -/
def EvOk (n : Nat) (e : S88) : Prop := 0 ≤ e.f1 ∧ e.f1 < (n : Int) ∧ 1 ≤ e.f2 ∧ e.f2 ≤ 4
theorem wayS_bound {n : Nat} : ∀ {l : List S88}, (∀ e ∈ l, EvOk n e) → ∀ p, 0 ≤ wayS l p ∧ wayS l p ≤ 4 * (l.length : Int)
 | [], _, p => by simp [wayS]
 | e :: l, h, p => by
  have h1 := wayS_bound (l := l) (fun x hx => h x (List.mem_cons_of_mem _ hx)) p
  have h2 := h e List.mem_cons_self
  unfold EvOk at h2
  rw [wayS, List.length_cons]
  split <;> omega
theorem way_due (t : Int) : ∀ (l : List S88) (p : Nat), wayS (l.filter fun e => e.f0 != t) p + dueS t l p = wayS l p
 | [], p => rfl
 | e :: l, p => by
  have ih := way_due t l p
  rw [List.filter_cons, dueS, wayS]
  by_cases h : e.f0 = t
  ·rw [show (e.f0 != t) = false by rw [h]; simp, if_neg (by simp)]
   by_cases h2 : e.f1 = (p : Int)
   ·rw [if_pos ⟨h, h2⟩, if_pos h2]; omega
   ·rw [if_neg (show ¬ (e.f0 = t ∧ e.f1 = (p : Int)) from fun x => h2 x.2), if_neg h2]; omega
  ·rw [show (e.f0 != t) = true from bne_iff_ne.2 h, if_pos rfl, wayS, if_neg (show ¬ (e.f0 = t ∧ e.f1 = (p : Int)) from fun x => h x.1)]; omega
/-- What a list of firings changes. -/
def logS (T : List S64) : List S48 → Nat → Int
 | [], _ => 0
 | f :: l, p => chS (rd_T64 T f.f1) (p : Int) + logS T l p
theorem logS_app (T : List S64) : ∀ (l m : List S48) (p : Nat), logS T (l ++ m) p = logS T l p + logS T m p
 | [], m, p => by simp [logS]
 | e :: l, m, p => by simp only [List.cons_append, logS]; rw [logS_app T l m p]; omega
def FiOk (m : Nat) (f : S48) : Prop := 0 ≤ f.f1 ∧ f.f1 < (m : Int)
theorem tr_at {T : List S64} {n : Nat} (hok : ∀ t ∈ T, TrOk n t) {x : Int} (h0 : 0 ≤ x) (h1 : x < (T.length : Int)) : TrOk n (rd_T64 T x) := by
 obtain ⟨q, rfl⟩ := Int.eq_ofNat_of_zero_le h0
 exact hok _ (rdTr_mem (by omega))
theorem logS_bound {T : List S64} {n : Nat} (hok : ∀ t ∈ T, TrOk n t) : ∀ {l : List S48}, (∀ f ∈ l, FiOk T.length f) → ∀ p, -(8 * (l.length : Int)) ≤ logS T l p ∧ logS T l p ≤ 8 * (l.length : Int)
 | [], _, p => by simp [logS]
 | f :: l, h, p => by
  have h1 := logS_bound hok (l := l) (fun x hx => h x (List.mem_cons_of_mem _ hx)) p
  have h2 := h f List.mem_cons_self
  have h3 := chS_bound (tr_at hok h2.1 h2.2) (p : Int)
  rw [logS, List.length_cons]; omega
section
variable (P : List S52) (T : List S64) (hN : NetOk P T) (hz : Int) (hz30 : hz ≤ 29)
/-- What a run that has ended tells. -/
structure Good (r : List S48 × List Int × List Int × Int × Int) : Prop where
 lm : r.2.1.length = P.length
 lw : r.2.2.1.length = P.length
 fi : ∀ f ∈ r.1, FiOk T.length f
 len : r.1.length ≤ 2000
 sum : ∀ p : Nat, p < P.length → rd r.2.1 (p : Int) + rd r.2.2.1 (p : Int) = (rd_T52 P (p : Int)).f1 + logS T r.1 p
 bd : ∀ p : Nat, p < P.length → -40000 ≤ rd r.2.1 (p : Int) ∧ rd r.2.1 (p : Int) ≤ 40000 ∧ 0 ≤ rd r.2.2.1 (p : Int) ∧ rd r.2.2.1 (p : Int) ≤ 40000
/-- What holds along a run: F the marks, G what is on its way. -/
structure St (wait : List S88) (t : Int) (log : List S48) (F G : Nat → Int) : Prop where
 ev : ∀ e ∈ wait, EvOk P.length e ∧ t ≤ e.f0 ∧ e.f0 ≤ 40
 wl : wait.length ≤ 2 * log.length
 fi : ∀ f ∈ log, FiOk T.length f
 len : log.length ≤ 2000
 way : ∀ p : Nat, p < P.length → G p = wayS wait p
 sum : ∀ p : Nat, p < P.length → F p + G p = (rd_T52 P (p : Int)).f1 + logS T log p
 t0 : 0 ≤ t
include hN in
theorem St.bound {wait : List S88} {t : Int} {log : List S48} {F G : Nat → Int} (h : St P T wait t log F G) {p : Nat} (hp : p < P.length) : -40000 ≤ F p ∧ F p ≤ 40000 ∧ 0 ≤ G p ∧ G p ≤ 40000 := by
 have h1 := wayS_bound (fun e he => (h.ev e he).1) p
 have h2 := logS_bound hN.trs h.fi p
 have h3 := h.way p hp
 have h4 := h.sum p hp
 have h5 := hN.tok _ (rdP_mem hp)
 have h6 := h.wl
 have h7 := h.len
 omega
include hN in
theorem St.good {wait : List S88} {t : Int} {log : List S48} {F G : Nat → Int} (h : St P T wait t log F G) (tm er : Int) : Good P T (log, vec P.length F, vec P.length G, tm, er) :=
 ⟨vec_length _ _, vec_length _ _, h.fi, h.len, fun p hp => by simp only; rw [vec_rd hp, vec_rd hp]; exact h.sum p hp, fun p hp => by simp only; rw [vec_rd hp, vec_rd hp]; exact h.bound P T hN hp⟩
/-- The next time. -/
theorem run_l7 (wait : List S88) (hw : wait.length ≤ 4000) (t : Int) (ht0 : 0 ≤ t) (ht : ∀ e ∈ wait, t < e.f0) (log : List S48) (M W : List Int) (tm : Int) (r : List S48 × List Int × List Int × Int × Int) (Good_ : (List S48 × List Int × List Int × Int × Int) → Prop)
  (h0 : Good_ (log, M, W, tm, 0)) (hend : ∀ x : Int, t < x → (∃ e ∈ wait, e.f0 = x) → (∀ e ∈ wait, x ≤ e.f0) → ∃ r, Ev (fun k => r09Run.l1 k hz wait x P T log M W tm) r ∧ Good_ r) (d : Nat) :
  ∀ (i : Nat) (x : Int), wait.length = i + d → ((x = -1 ∧ i = 0) ∨ (t < x ∧ (∃ e ∈ wait, e.f0 = x) ∧ ∀ j : Nat, j < i → x ≤ (rd_T88 wait (j : Int)).f0)) → ∃ r, Ev (fun k => r09Run.l7 k hz wait x (i : Int) P T log M W tm) r ∧ Good_ r := by
 induction d with
 | zero =>
  intro i x hi hx
  rcases hx with ⟨hx, h⟩ | ⟨hx, he, h⟩
  ·exact ⟨_, Ev.step (f := fun _ => some (log, M, W, tm, 0)) (fun k => by simp only [r09Run.l7]; rw [if_neg (by omega), if_pos (by omega)]) (Ev.now _), h0⟩
  ·obtain ⟨r, h1, h2⟩ := hend x hx he (fun e he => by
    obtain ⟨j, hj, rfl⟩ := List.getElem_of_mem he
    have := h j (by omega)
    rwa [rdE_lt hj] at this)
   exact ⟨r, Ev.step (fun k => by simp only [r09Run.l7]; rw [if_neg (by omega), if_neg (by omega)]) h1, h2⟩
 | succ d ih =>
  intro i x hi hx
  have hmem := rdE_mem (l := wait) (i := i) (by omega)
  have hgt := ht _ hmem
  have take : ∀ y : Int, (y = (rd_T88 wait (i : Int)).f0 ∧ (x = -1 ∧ i = 0 ∨ y ≤ x)) ∨ (y = x ∧ x ≠ -1 ∧ x ≤ (rd_T88 wait (i : Int)).f0) → ∃ r, Ev (fun k => r09Run.l7 k hz wait y (wrap64 ((i : Int) + 1)) P T log M W tm) r ∧ Good_ r := by
   intro y hy
   rw [wrap_succ (by omega)]
   refine ih (i + 1) y (by omega) (.inr ?_)
   rcases hy with ⟨hy, hc⟩ | ⟨hy, hc, hle⟩
   ·refine ⟨by omega, ⟨_, hmem, hy.symm⟩, fun j hj => ?_⟩
    by_cases e : j = i
    ·subst e; omega
    ·rcases hx with ⟨_, h⟩ | ⟨_, _, h⟩
     ·omega
     ·have := h j (by omega)
      rcases hc with ⟨h1, h2⟩ | hc <;> omega
   ·rcases hx with ⟨h, _⟩ | ⟨h1, h2, h⟩
    ·exact absurd h hc
    ·refine ⟨by omega, hy ▸ h2, fun j hj => ?_⟩
     by_cases e : j = i
     ·subst e; omega
     ·have := h j (by omega); omega
  by_cases hx0 : x < 0
  ·have hx1 : x = -1 ∧ i = 0 := hx.resolve_right fun h => by omega
   obtain ⟨r, h1, h2⟩ := take _ (.inl ⟨rfl, .inl hx1⟩)
   exact ⟨r, Ev.step (fun k => by simp only [r09Run.l7]; rw [if_pos (by omega), if_pos hx0, if_pos (by omega)]) h1, h2⟩
  ·by_cases hlt : (rd_T88 wait (i : Int)).f0 < x
   ·obtain ⟨r, h1, h2⟩ := take _ (.inl ⟨rfl, .inr (by omega)⟩)
    exact ⟨r, Ev.step (fun k => by simp only [r09Run.l7]; rw [if_pos (by omega), if_neg hx0, if_pos (by omega), if_pos hlt]) h1, h2⟩
   ·obtain ⟨r, h1, h2⟩ := take x (.inr ⟨rfl, by omega, by omega⟩)
    exact ⟨r, Ev.step (fun k => by simp only [r09Run.l7]; rw [if_pos (by omega), if_neg hx0, if_pos (by omega), if_neg hlt]) h1, h2⟩
/-- Tokens come in. -/
theorem run_l2 (wait : List S88) (hw : wait.length ≤ 4000) (hev : ∀ e ∈ wait, EvOk P.length e) (t : Int) (log : List S48) (tm : Int) (r : List S48 × List Int × List Int × Int × Int) (b : Bool) (d : Nat) :
  ∀ (i : Nat) (left : List S88) (F G : Nat → Int), wait.length = i + d → left.length ≤ i → (∀ p : Nat, p < P.length → -100000 - 4 * (i : Int) ≤ F p ∧ F p ≤ 100000 + 4 * (i : Int) ∧ -100000 - 4 * (i : Int) ≤ G p ∧ G p ≤ 100000 + 4 * (i : Int)) →
  Ev (fun k => r09Run.l3 k hz (left ++ (wait.drop i).filter fun e => e.f0 != t) t b 0 P T log (vec P.length fun p => F p + dueS t (wait.drop i) p) (vec P.length fun p => G p - dueS t (wait.drop i) p) tm) r →
  Ev (fun k => r09Run.l2 k hz wait t b left (i : Int) P T log (vec P.length F) (vec P.length G) tm) r := by
 induction d with
 | zero =>
  intro i left F G hi hl hb hend
  rw [List.drop_eq_nil_of_le (by omega), List.filter_nil, List.append_nil] at hend
  simp only [dueS, Int.add_zero, Int.sub_zero] at hend
  exact Ev.step (fun k => by simp only [r09Run.l2]; rw [if_neg (by omega)]) hend
 | succ d ih =>
  intro i left F G hi hl hb hend
  have hmem := rdE_mem (l := wait) (i := i) (by omega)
  have hok := hev _ hmem
  rw [dropE_cons (by omega), List.filter_cons] at hend
  simp only [dueS] at hend
  obtain ⟨e, he⟩ : ∃ e, rd_T88 wait (i : Int) = e := ⟨_, rfl⟩
  rw [he] at hok
  simp only [he] at hend
  obtain ⟨ha, hb1, hb2, hb3⟩ := hok
  by_cases h : e.f0 = t
  ·obtain ⟨q, hq⟩ := Int.eq_ofNat_of_zero_le ha
   have hqn : q < P.length := by omega
   have fb := hb q hqn
   rw [show (e.f0 != t) = false by rw [h]; simp, if_neg (by simp)] at hend
   refine Ev.step (f := fun k => r09Run.l2 k hz wait t b left ((i + 1 : Nat) : Int) P T log (vec P.length fun p => if p = q then F q + e.f2 else F p) (vec P.length fun p => if p = q then G q - e.f2 else G p) tm) (fun k => ?_) (ih (i + 1) left _ _ (by omega) (by omega) (fun p hp => ?_) ?_)
   ·simp only [r09Run.l2, he]
    rw [if_pos (by omega), if_pos (by omega), if_pos h, if_pos ha, if_pos (by rw [vec_length]; omega), if_pos (by rw [vec_length]; omega), wrap_succ (by omega), hq, vec_rd hqn, vec_rd hqn, wrap_id (x := F q + e.f2) (by unfold I; clear hend ih; omega), wrap_id (x := G q - e.f2) (by unfold I; clear hend ih; omega), Int.toNat_natCast, vec_set, vec_set]
   ·have := hb p hp
    clear hend ih
    (try dsimp only)
    by_cases e2 : p = q
    ·subst e2; rw [if_pos rfl, if_pos rfl]; omega
    ·rw [if_neg e2, if_neg e2]; omega
   ·have e1 : (vec P.length fun p => (if p = q then F q + e.f2 else F p) + dueS t (wait.drop (i + 1)) p) = vec P.length fun p => F p + ((if e.f0 = t ∧ e.f1 = (p : Int) then e.f2 else 0) + dueS t (wait.drop (i + 1)) p) := vec_congr fun p _ => by
     by_cases e2 : p = q
     ·subst e2; rw [if_pos rfl, if_pos ⟨h, hq⟩]; omega
     ·rw [if_neg e2, if_neg (fun x => e2 (by omega))]; omega
    have e3 : (vec P.length fun p => (if p = q then G q - e.f2 else G p) - dueS t (wait.drop (i + 1)) p) = vec P.length fun p => G p - ((if e.f0 = t ∧ e.f1 = (p : Int) then e.f2 else 0) + dueS t (wait.drop (i + 1)) p) := vec_congr fun p _ => by
     by_cases e2 : p = q
     ·subst e2; rw [if_pos rfl, if_pos ⟨h, hq⟩]; omega
     ·rw [if_neg e2, if_neg (fun x => e2 (by omega))]; omega
    rw [e1, e3]; exact hend
  ·rw [show (e.f0 != t) = true from bne_iff_ne.2 h, if_pos rfl] at hend
   refine Ev.step (f := fun k => r09Run.l2 k hz wait t b (left ++ [e]) ((i + 1 : Nat) : Int) P T log (vec P.length F) (vec P.length G) tm) (fun k => ?_) (ih (i + 1) (left ++ [e]) F G (by omega) (by simp; omega) (fun p hp => by have := hb p hp; omega) ?_)
   ·simp only [r09Run.l2, he]
    rw [if_pos (by omega), if_pos (by omega), if_neg h, if_pos (by omega), wrap_succ (by omega)]
   ·have e1 : (vec P.length fun p => F p + dueS t (wait.drop (i + 1)) p) = vec P.length fun p => F p + ((if e.f0 = t ∧ e.f1 = (p : Int) then e.f2 else 0) + dueS t (wait.drop (i + 1)) p) := vec_congr fun p _ => by rw [if_neg (fun x => h x.1)]; omega
    have e3 : (vec P.length fun p => G p - dueS t (wait.drop (i + 1)) p) = vec P.length fun p => G p - ((if e.f0 = t ∧ e.f1 = (p : Int) then e.f2 else 0) + dueS t (wait.drop (i + 1)) p) := vec_congr fun p _ => by rw [if_neg (fun x => h x.1)]; omega
    rw [e1, e3, List.append_assoc]; exact hend
/-- May a transition fire: it is told. -/
theorem may_ev (t : S64) {n : Nat} (ht : TrOk n t) (M : List Int) (hM : M.length = n) : ∃ b, Ev (fun k => r08May.f k t.f0 t.f1 t.f2 t.f3 t.f4 t.f5 M) b := by
 have l1 : ∀ (d i : Nat), t.f4.length = i + d → ∃ b, Ev (fun k => r08May.l1 k M (i : Int) t.f0 t.f1 t.f2 t.f3 t.f4 t.f5) b := by
  intro d
  induction d with
  | zero => intro i hi; exact ⟨true, Ev.step (f := fun _ => some true) (fun k => by simp only [r08May.l1]; rw [if_neg (by omega)]) (Ev.now _)⟩
  | succ d ih =>
   intro i hi
   have ha := ht.2.2.2.1.2.1 _ (rdA_mem (l := t.f4) (i := i) (by omega))
   have hl := ht.2.2.2.1.1
   by_cases h : rd M ((rd_T66 t.f4 (i : Int)).f0) ≥ (rd_T66 t.f4 (i : Int)).f1
   ·exact ⟨false, Ev.step (f := fun _ => some false) (fun k => by simp only [r08May.l1]; rw [if_pos (by omega), if_pos (by omega), if_pos ha.1, if_pos (by omega), if_pos h]) (Ev.now _)⟩
   ·obtain ⟨b, hb⟩ := ih (i + 1) (by omega)
    exact ⟨b, Ev.step (fun k => by simp only [r08May.l1]; rw [if_pos (by omega), if_pos (by omega), if_pos ha.1, if_pos (by omega), if_neg h, wrap_succ (by omega)]) hb⟩
 have l0 : ∀ (d i : Nat), t.f3.length = i + d → ∃ b, Ev (fun k => r08May.l0 k M (i : Int) t.f0 t.f1 t.f2 t.f3 t.f4 t.f5) b := by
  intro d
  induction d with
  | zero =>
   intro i hi
   obtain ⟨b, hb⟩ := l1 t.f4.length 0 (by simp)
   exact ⟨b, Ev.step (fun k => by simp only [r08May.l0]; rw [if_neg (by omega)]; rfl) hb⟩
  | succ d ih =>
   intro i hi
   have ha := ht.2.2.1.2.1 _ (rdA_mem (l := t.f3) (i := i) (by omega))
   have hl := ht.2.2.1.1
   by_cases h : rd M ((rd_T66 t.f3 (i : Int)).f0) < (rd_T66 t.f3 (i : Int)).f1
   ·exact ⟨false, Ev.step (f := fun _ => some false) (fun k => by simp only [r08May.l0]; rw [if_pos (by omega), if_pos (by omega), if_pos ha.1, if_pos (by omega), if_pos h]) (Ev.now _)⟩
   ·obtain ⟨b, hb⟩ := ih (i + 1) (by omega)
    exact ⟨b, Ev.step (fun k => by simp only [r08May.l0]; rw [if_pos (by omega), if_pos (by omega), if_pos ha.1, if_pos (by omega), if_neg h, wrap_succ (by omega)]) hb⟩
 exact l0 t.f3.length 0 (by simp)
include hN in
/-- Which fires: none, or one that there is. -/
theorem best_ev (M : List Int) (hM : M.length = P.length) : ∃ b : Int, Ev (fun k => r09Best.f k P T M) b ∧ (b = -1 ∨ (0 ≤ b ∧ b < (T.length : Int))) := by
 have h9 := hN.t9
 have loop : ∀ (d i : Nat) (x : Int), T.length = i + d → (x = -1 ∨ (0 ≤ x ∧ x < (T.length : Int))) → ∃ b : Int, Ev (fun k => r08Best.l0 k M x (i : Int) P T) b ∧ (b = -1 ∨ (0 ≤ b ∧ b < (T.length : Int))) := by
  intro d
  induction d with
  | zero => intro i x hi hx; exact ⟨x, Ev.step (f := fun _ => some x) (fun k => by simp only [r08Best.l0]; rw [if_neg (by omega)]) (Ev.now _), hx⟩
  | succ d ih =>
   intro i x hi hx
   obtain ⟨m, hm⟩ := may_ev (rd_T64 T (i : Int)) (hN.trs _ (rdTr_mem (by omega))) M hM
   have j1 : ∀ c : Bool, ∃ b : Int, Ev (fun k => r08Best.j1 k M x (i : Int) c P T) b ∧ (b = -1 ∨ (0 ≤ b ∧ b < (T.length : Int))) := by
    intro c
    cases c with
    | true =>
     obtain ⟨b, h1, h2⟩ := ih (i + 1) (i : Int) (by omega) (.inr (by omega))
     exact ⟨b, Ev.step (fun k => by simp only [r08Best.j1, if_true]; rw [wrap_succ (by omega)]) h1, h2⟩
    | false =>
     obtain ⟨b, h1, h2⟩ := ih (i + 1) x (by omega) hx
     exact ⟨b, Ev.step (fun k => by simp only [r08Best.j1]; rw [if_neg (by simp), wrap_succ (by omega)]) h1, h2⟩
   cases m with
   | false =>
    obtain ⟨b, h1, h2⟩ := j1 false
    refine ⟨b, Ev.step (fun k => ?_) (Ev.bind (f := fun k t230 => if t230 = true then (if x < 0 then (r08Best.j1 k M x (i : Int) true P T) else (if 0 ≤ x then (if x < (T.length : Int) then (r08Best.j1 k M x (i : Int) (decide (((rd_T64 T (i : Int)).f2) < ((rd_T64 T x).f2))) P T) else (none)) else (none))) else (r08Best.j1 k M x (i : Int) false P T)) hm (by simpa using h1)), h2⟩
    simp only [r08Best.l0]; rw [if_pos (by omega), if_pos (by omega)]
   | true =>
    have key : ∃ b : Int, Ev (fun k => if x < 0 then (r08Best.j1 k M x (i : Int) true P T) else (if 0 ≤ x then (if x < (T.length : Int) then (r08Best.j1 k M x (i : Int) (decide (((rd_T64 T (i : Int)).f2) < ((rd_T64 T x).f2))) P T) else (none)) else (none))) b ∧ (b = -1 ∨ (0 ≤ b ∧ b < (T.length : Int))) := by
     by_cases h : x < 0
     ·simp only [if_pos h]; exact j1 true
     ·simp only [if_neg h, if_pos (show 0 ≤ x by omega), if_pos (show x < (T.length : Int) by omega)]; exact j1 _
    obtain ⟨b, h1, h2⟩ := key
    refine ⟨b, Ev.step (fun k => ?_) (Ev.bind (f := fun k t230 => if t230 = true then (if x < 0 then (r08Best.j1 k M x (i : Int) true P T) else (if 0 ≤ x then (if x < (T.length : Int) then (r08Best.j1 k M x (i : Int) (decide (((rd_T64 T (i : Int)).f2) < ((rd_T64 T x).f2))) P T) else (none)) else (none))) else (r08Best.j1 k M x (i : Int) false P T)) hm (by simpa using h1)), h2⟩
    simp only [r08Best.l0]; rw [if_pos (by omega), if_pos (by omega)]
 obtain ⟨b, h1, h2⟩ := loop T.length 0 (-1) (by simp) (.inl rfl)
 exact ⟨b, Ev.bind (f := fun _ t => some t) h1 (Ev.now _), h2⟩
end

theorem wayS_map (x : Int) : ∀ (l : List S66) (p : Nat), wayS (l.map fun a => (⟨x, a.f0, a.f1⟩ : S88)) p = sumAt l (p : Int)
 | [], p => rfl
 | a :: l, p => by simp only [List.map_cons, wayS, sumAt]; rw [wayS_map x l p]
/-- What follows where it is told which fires. -/
def cont4 (k : Nat) (hz : Int) (wait : List S88) (t : Int) (X : List Int) (P : List S52) (T : List S64) (log : List S48) (M W : List Int) (tm : Int) (b : Int) : Option (List S48 × List Int × List Int × Int × Int) :=
 if b < 0 then (r09Run.l7 k hz wait (-1) ((0 : Nat) : Int) P T log M W tm) else (if 0 ≤ b then (if b < (T.length : Int) then (if b < (X.length : Int) then (if (rd X b) = 20 then (some (log, M, W, tm, 4)) else (if (log.length : Int) = 2000 then (some (log, M, W, tm, 5)) else (if (((rd_T64 T b).f5).length : Int) > 0 then (r09Run.j5 k hz wait t false X b (decide ((wrap64 (t + ((rd_T64 T b).f1))) > 1099511627776)) P T log M W tm ((rd_T64 T b).f0) ((rd_T64 T b).f1) ((rd_T64 T b).f2) ((rd_T64 T b).f3) ((rd_T64 T b).f4) ((rd_T64 T b).f5)) else (r09Run.j5 k hz wait t false X b false P T log M W tm ((rd_T64 T b).f0) ((rd_T64 T b).f1) ((rd_T64 T b).f2) ((rd_T64 T b).f3) ((rd_T64 T b).f4) ((rd_T64 T b).f5))))) else (none)) else (none)) else (none))
theorem l4_is (k : Nat) (hz : Int) (wait : List S88) (t : Int) (X : List Int) (P : List S52) (T : List S64) (log : List S48) (M W : List Int) (tm : Int) : r09Run.l4 (k + 1) hz wait t false X P T log M W tm = (r09Best.f k P T M).bind fun b => cont4 k hz wait t X P T log M W tm b := by
 simp only [r09Run.l4, cont4]; rfl
theorem l4_ev {hz : Int} {wait : List S88} {t : Int} {X : List Int} {P : List S52} {T : List S64} {log : List S48} {M W : List Int} {tm : Int} {b : Int} {r : List S48 × List Int × List Int × Int × Int} (hb : Ev (fun k => r09Best.f k P T M) b) (h : Ev (fun k => cont4 k hz wait t X P T log M W tm b) r) : Ev (fun k => r09Run.l4 k hz wait t false X P T log M W tm) r :=
 Ev.step (fun k => l4_is k hz wait t X P T log M W tm) (Ev.bind (f := fun k b => cont4 k hz wait t X P T log M W tm b) hb h)
section
variable (P : List S52) (T : List S64) (hN : NetOk P T) (hz : Int) (hz30 : hz ≤ 29)
theorem run_l5 (wait : List S88) (t : Int) (b : Bool) (X : List Int) (log : List S48) (W : List Int) (tm : Int) (x : S64) (hx : TrOk P.length x) (r : List S48 × List Int × List Int × Int × Int) (d : Nat) :
  ∀ (i : Nat) (F : Nat → Int), x.f3.length = i + d → (∀ p : Nat, p < P.length → -100000 - 4 * (i : Int) ≤ F p ∧ F p ≤ 100000 + 4 * (i : Int)) →
  Ev (fun k => r09Run.l6 k hz wait t b X 0 P T log (vec P.length fun p => F p - sumAt (x.f3.drop i) (p : Int)) W tm x.f0 x.f1 x.f2 x.f3 x.f4 x.f5) r →
  Ev (fun k => r09Run.l5 k hz wait t b X (i : Int) P T log (vec P.length F) W tm x.f0 x.f1 x.f2 x.f3 x.f4 x.f5) r := by
 have h2 := hx.2.2.1.1
 induction d with
 | zero =>
  intro i F hi hb hend
  rw [List.drop_eq_nil_of_le (by omega)] at hend
  simp only [sumAt, Int.sub_zero] at hend
  exact Ev.step (fun k => by simp only [r09Run.l5]; rw [if_neg (by omega)]) hend
 | succ d ih =>
  intro i F hi hb hend
  have ha := hx.2.2.1.2.1 _ (rdA_mem (l := x.f3) (i := i) (by omega))
  rw [dropA_cons (by omega)] at hend
  obtain ⟨a, hae⟩ : ∃ a, rd_T66 x.f3 (i : Int) = a := ⟨_, rfl⟩
  rw [hae] at ha
  simp only [hae, sumAt] at hend
  obtain ⟨ha0, ha1, ha2, ha3⟩ := ha
  obtain ⟨q, hq⟩ := Int.eq_ofNat_of_zero_le ha0
  have hqn : q < P.length := by omega
  have fb := hb q hqn
  refine Ev.step (f := fun k => r09Run.l5 k hz wait t b X ((i + 1 : Nat) : Int) P T log (vec P.length fun p => if p = q then F q - a.f1 else F p) W tm x.f0 x.f1 x.f2 x.f3 x.f4 x.f5) (fun k => ?_) (ih (i + 1) _ (by omega) (fun p hp => ?_) ?_)
  ·simp only [r09Run.l5, hae]
   rw [if_pos (by omega), if_pos (by omega), if_pos ha0, if_pos (by rw [vec_length]; omega), wrap_succ (by omega), hq, vec_rd hqn, wrap_id (x := F q - a.f1) (by unfold I; clear hend ih; omega), Int.toNat_natCast, vec_set]
  ·have := hb p hp
   clear hend ih
   (try dsimp only)
   by_cases e2 : p = q
   ·subst e2; rw [if_pos rfl]; omega
   ·rw [if_neg e2]; omega
  ·have e1 : (vec P.length fun p => (if p = q then F q - a.f1 else F p) - sumAt (x.f3.drop (i + 1)) (p : Int)) = vec P.length fun p => F p - ((if a.f0 = (p : Int) then a.f1 else 0) + sumAt (x.f3.drop (i + 1)) (p : Int)) := vec_congr fun p _ => by
    by_cases e2 : p = q
    ·subst e2; rw [if_pos rfl, if_pos hq]; omega
    ·rw [if_neg e2, if_neg (show ¬ a.f0 = (p : Int) from fun y => e2 (by omega))]; omega
   rw [e1]; exact hend
theorem run_l6a (wait : List S88) (t : Int) (X : List Int) (log : List S48) (W : List Int) (tm : Int) (x : S64) (hx : TrOk P.length x) (hd : x.f1 = 0) (Good_ : (List S48 × List Int × List Int × Int × Int) → Prop) (d : Nat) :
  ∀ (i : Nat) (F : Nat → Int) (b : Bool), x.f5.length = i + d → (∀ p : Nat, p < P.length → -100000 - 4 * (i : Int) ≤ F p ∧ F p ≤ 100000 + 4 * (i : Int)) →
  Good_ (log, vec P.length fun p => F p + sumAt (x.f5.drop i) (p : Int), W, tm, 3) →
  (∃ r, Ev (fun k => r09Run.l4 k hz wait t false X P T log (vec P.length fun p => F p + sumAt (x.f5.drop i) (p : Int)) W tm) r ∧ Good_ r) →
  ∃ r, Ev (fun k => r09Run.l6 k hz wait t b X (i : Int) P T log (vec P.length F) W tm x.f0 x.f1 x.f2 x.f3 x.f4 x.f5) r ∧ Good_ r := by
 have h2 := hx.2.2.2.2.1
 induction d with
 | zero =>
  intro i F b hi hb hg hend
  rw [List.drop_eq_nil_of_le (by omega)] at hend hg
  simp only [sumAt, Int.add_zero] at hend hg
  cases b with
  | true => exact ⟨_, Ev.step (f := fun _ => some (log, vec P.length F, W, tm, 3)) (fun k => by simp only [r09Run.l6, if_true]; rw [if_neg (by omega)]) (Ev.now _), hg⟩
  | false =>
   obtain ⟨r, h1, h3⟩ := hend
   exact ⟨r, Ev.step (fun k => by simp only [r09Run.l6]; rw [if_neg (by omega), if_neg (by simp)]) h1, h3⟩
 | succ d ih =>
  intro i F b hi hb hg hend
  have ha := hx.2.2.2.2.2.1 _ (rdA_mem (l := x.f5) (i := i) (by omega))
  rw [dropA_cons (by omega)] at hend hg
  obtain ⟨a, hae⟩ : ∃ a, rd_T66 x.f5 (i : Int) = a := ⟨_, rfl⟩
  rw [hae] at ha
  simp only [hae, sumAt] at hend hg
  obtain ⟨ha0, ha1, ha2, ha3⟩ := ha
  obtain ⟨q, hq⟩ := Int.eq_ofNat_of_zero_le ha0
  have hqn : q < P.length := by omega
  have fb := hb q hqn
  have e1 : (vec P.length fun p => (if p = q then F q + a.f1 else F p) + sumAt (x.f5.drop (i + 1)) (p : Int)) = vec P.length fun p => F p + ((if a.f0 = (p : Int) then a.f1 else 0) + sumAt (x.f5.drop (i + 1)) (p : Int)) := vec_congr fun p _ => by
   clear hend ih hg
   by_cases e2 : p = q
   ·subst e2; rw [if_pos rfl, if_pos hq]; omega
   ·rw [if_neg e2, if_neg (show ¬ a.f0 = (p : Int) from fun y => e2 (by omega))]; omega
  have nxt : ∀ b : Bool, ∃ r, Ev (fun k => r09Run.l6 k hz wait t b X ((i + 1 : Nat) : Int) P T log (vec P.length fun p => if p = q then F q + a.f1 else F p) W tm x.f0 x.f1 x.f2 x.f3 x.f4 x.f5) r ∧ Good_ r := fun b => ih (i + 1) _ b (by omega) (fun p hp => by
   have := hb p hp
   clear hend ih hg e1
   (try dsimp only)
   by_cases e2 : p = q
   ·subst e2; rw [if_pos rfl]; omega
   ·rw [if_neg e2]; omega) (by rw [e1]; exact hg) (by rw [e1]; exact hend)
  have es : ∀ k, r09Run.l6 (k + 1) hz wait t b X (i : Int) P T log (vec P.length F) W tm x.f0 x.f1 x.f2 x.f3 x.f4 x.f5 = if b = true then r09Run.l6 k hz wait t true X ((i + 1 : Nat) : Int) P T log (vec P.length fun p => if p = q then F q + a.f1 else F p) W tm x.f0 x.f1 x.f2 x.f3 x.f4 x.f5 else r09Run.l6 k hz wait t (decide (F q + a.f1 > 1099511627776)) X ((i + 1 : Nat) : Int) P T log (vec P.length fun p => if p = q then F q + a.f1 else F p) W tm x.f0 x.f1 x.f2 x.f3 x.f4 x.f5 := fun k => by
   simp only [r09Run.l6, hae]
   rw [if_pos (by omega), if_pos (by omega), if_pos hd, if_pos ha0, if_pos (by rw [vec_length]; omega), wrap_succ (by omega), hq, vec_rd hqn, wrap_id (x := F q + a.f1) (by unfold I; clear hend ih hg nxt e1; omega), Int.toNat_natCast, vec_set]
   rfl
  cases b with
  | true =>
   obtain ⟨r, h1, h3⟩ := nxt true
   exact ⟨r, Ev.step (fun k => by rw [es k, if_pos rfl]) h1, h3⟩
  | false =>
   obtain ⟨r, h1, h3⟩ := nxt (decide (F q + a.f1 > 1099511627776))
   exact ⟨r, Ev.step (fun k => by rw [es k, if_neg (by simp)]) h1, h3⟩
theorem run_l6b (t : Int) (ht : 0 ≤ t ∧ t ≤ 29) (X : List Int) (log : List S48) (M : List Int) (tm : Int) (x : S64) (hx : TrOk P.length x) (hd : ¬ x.f1 = 0) (Good_ : (List S48 × List Int × List Int × Int × Int) → Prop) (d : Nat) :
  ∀ (i : Nat) (wait : List S88) (G : Nat → Int) (b : Bool), x.f5.length = i + d → wait.length ≤ 5000 + i → (∀ p : Nat, p < P.length → -100000 - 4 * (i : Int) ≤ G p ∧ G p ≤ 100000 + 4 * (i : Int)) →
  Good_ (log, M, vec P.length fun p => G p + sumAt (x.f5.drop i) (p : Int), tm, 3) →
  (∃ r, Ev (fun k => r09Run.l4 k hz (wait ++ (x.f5.drop i).map fun a => (⟨t + x.f1, a.f0, a.f1⟩ : S88)) t false X P T log M (vec P.length fun p => G p + sumAt (x.f5.drop i) (p : Int)) tm) r ∧ Good_ r) →
  ∃ r, Ev (fun k => r09Run.l6 k hz wait t b X (i : Int) P T log M (vec P.length G) tm x.f0 x.f1 x.f2 x.f3 x.f4 x.f5) r ∧ Good_ r := by
 have h2 := hx.2.2.2.2.1
 have h4 := hx.1
 induction d with
 | zero =>
  intro i wait G b hi hw hb hg hend
  rw [List.drop_eq_nil_of_le (by omega)] at hend hg
  simp only [sumAt, Int.add_zero, List.map_nil, List.append_nil] at hend hg
  cases b with
  | true => exact ⟨_, Ev.step (f := fun _ => some (log, M, vec P.length G, tm, 3)) (fun k => by simp only [r09Run.l6, if_true]; rw [if_neg (by omega)]) (Ev.now _), hg⟩
  | false =>
   obtain ⟨r, h1, h3⟩ := hend
   exact ⟨r, Ev.step (fun k => by simp only [r09Run.l6]; rw [if_neg (by omega), if_neg (by simp)]) h1, h3⟩
 | succ d ih =>
  intro i wait G b hi hw hb hg hend
  have ha := hx.2.2.2.2.2.1 _ (rdA_mem (l := x.f5) (i := i) (by omega))
  rw [dropA_cons (by omega)] at hend hg
  obtain ⟨a, hae⟩ : ∃ a, rd_T66 x.f5 (i : Int) = a := ⟨_, rfl⟩
  rw [hae] at ha
  simp only [hae, sumAt, List.map_cons] at hend hg
  obtain ⟨ha0, ha1, ha2, ha3⟩ := ha
  obtain ⟨q, hq⟩ := Int.eq_ofNat_of_zero_le ha0
  have hqn : q < P.length := by omega
  have fb := hb q hqn
  have e1 : (vec P.length fun p => (if p = q then G q + a.f1 else G p) + sumAt (x.f5.drop (i + 1)) (p : Int)) = vec P.length fun p => G p + ((if a.f0 = (p : Int) then a.f1 else 0) + sumAt (x.f5.drop (i + 1)) (p : Int)) := vec_congr fun p _ => by
   clear hend ih hg
   by_cases e2 : p = q
   ·subst e2; rw [if_pos rfl, if_pos hq]; omega
   ·rw [if_neg e2, if_neg (show ¬ a.f0 = (p : Int) from fun y => e2 (by omega))]; omega
  obtain ⟨r, h1, h3⟩ := ih (i + 1) (wait ++ [⟨t + x.f1, a.f0, a.f1⟩]) (fun p => if p = q then G q + a.f1 else G p) b (by omega) (by simp; omega) (fun p hp => by
   have := hb p hp
   clear hend ih hg e1
   (try dsimp only)
   by_cases e2 : p = q
   ·subst e2; rw [if_pos rfl]; omega
   ·rw [if_neg e2]; omega) (by rw [e1]; exact hg) (by rw [e1, List.append_assoc]; exact hend)
  refine ⟨r, Ev.step (fun k => ?_) h1, h3⟩
  simp only [r09Run.l6, hae]
  rw [if_pos (by omega), if_pos (by omega), if_neg hd, if_pos ha0, if_pos (by rw [vec_length]; omega), if_pos (by omega), wrap_succ (by omega), wrap_id (x := t + x.f1) (by unfold I; omega)]
  rw [hq, vec_rd hqn, wrap_id (x := G q + a.f1) (by unfold I; clear hend ih hg e1; omega), Int.toNat_natCast, vec_set]
include hN in
theorem fire_st {wait : List S88} {t : Int} {log : List S48} {F G : Nat → Int} (h : St P T wait (t + 1) log F G) (ht : 0 ≤ t ∧ t ≤ 29) (hlog : log.length < 2000) {b : Int} (hb0 : 0 ≤ b) (hb1 : b < (T.length : Int)) (c : Int) :
  ((rd_T64 T b).f1 = 0 → St P T wait (t + 1) (log ++ [⟨c, b⟩]) (fun p => F p - sumAt (rd_T64 T b).f3 (p : Int) + sumAt (rd_T64 T b).f5 (p : Int)) G) ∧
  (¬ (rd_T64 T b).f1 = 0 → St P T (wait ++ (rd_T64 T b).f5.map fun a => (⟨t + (rd_T64 T b).f1, a.f0, a.f1⟩ : S88)) (t + 1) (log ++ [⟨c, b⟩]) (fun p => F p - sumAt (rd_T64 T b).f3 (p : Int)) (fun p => G p + sumAt (rd_T64 T b).f5 (p : Int))) := by
 have hx := tr_at hN.trs hb0 hb1
 have hfi : ∀ f ∈ log ++ [(⟨c, b⟩ : S48)], FiOk T.length f := fun f hf => by
  rcases List.mem_append.1 hf with q | q
  ·exact h.fi f q
  ·rw [List.mem_singleton.1 q]; exact ⟨hb0, hb1⟩
 have hls : ∀ p : Nat, logS T (log ++ [(⟨c, b⟩ : S48)]) p = logS T log p + chS (rd_T64 T b) (p : Int) := fun p => by rw [logS_app]; simp [logS]
 have hwl := h.wl
 have hln : (log ++ [(⟨c, b⟩ : S48)]).length = log.length + 1 := by simp
 refine ⟨fun _ => ⟨h.ev, by omega, hfi, by omega, h.way, fun p hp => ?_, h.t0⟩, fun hd => ⟨fun e he => ?_, ?_, hfi, by omega, fun p hp => ?_, fun p hp => ?_, h.t0⟩⟩
 ·have := h.sum p hp
  rw [hls]; unfold chS; omega
 ·rcases List.mem_append.1 he with q | q
  ·exact h.ev e q
  ·obtain ⟨a, ha, rfl⟩ := List.mem_map.1 q
   have := hx.2.2.2.2.2.1 a ha
   have h1 := hx.1
   refine ⟨⟨this.1, this.2.1, this.2.2.1, this.2.2.2⟩, ?_, ?_⟩
   ·show t + 1 ≤ t + (rd_T64 T b).f1; omega
   ·show t + (rd_T64 T b).f1 ≤ 40; omega
 ·have := hx.2.2.2.2.1
  rw [List.length_append, List.length_map]; omega
 ·rw [wayS_app, wayS_map, ← h.way p hp]
 ·have := h.sum p hp
  rw [hls]; unfold chS; omega
include hN hz30 in
theorem run_l4 (t : Int) (ht0 : 0 ≤ t) (hth : t ≤ hz) (tm : Int) (hl1 : ∀ (x : Int) (wait : List S88) (log : List S48) (F G : Nat → Int), t < x → St P T wait x log F G → ∃ r, Ev (fun k => r09Run.l1 k hz wait x P T log (vec P.length F) (vec P.length G) tm) r ∧ Good P T r) (fuel : Nat) :
  ∀ (wait : List S88) (log : List S48) (F G : Nat → Int) (X : List Int), 2000 - log.length ≤ fuel → St P T wait (t + 1) log F G → X.length = T.length → (∀ v ∈ X, 0 ≤ v ∧ v ≤ 20) →
  ∃ r, Ev (fun k => r09Run.l4 k hz wait t false X P T log (vec P.length F) (vec P.length G) tm) r ∧ Good P T r := by
 have h9 := hN.t9
 induction fuel with
 | zero =>
  intro wait log F G X hf hst hX hXb
  obtain ⟨b, hb, hbb⟩ := best_ev P T hN (vec P.length F) (vec_length _ _)
  have hlen := hst.len
  rcases hbb with hbb | ⟨hb0, hb1⟩
  ·obtain ⟨r, h1, h2⟩ := run_l7 P T hz wait (by have := hst.wl; omega) t ht0 (fun e he => by have := (hst.ev e he).2.1; omega) log (vec P.length F) (vec P.length G) tm (log, [], [], 0, 0) (Good P T) (hst.good P T hN tm 0)
    (fun x hx he hall => hl1 x wait log F G hx ⟨fun e he => ⟨(hst.ev e he).1, hall e he, (hst.ev e he).2.2⟩, hst.wl, hst.fi, hst.len, hst.way, hst.sum, by omega⟩) wait.length 0 (-1) (by simp) (.inl ⟨rfl, rfl⟩)
   refine ⟨r, l4_ev hb ?_, h2⟩
   simp only [cont4, if_pos (show b < 0 by omega)]
   exact h1
  ·have e2 : (log.length : Int) = 2000 := by omega
   by_cases h20 : rd X b = 20
   ·refine ⟨_, l4_ev hb ?_, hst.good P T hN tm 4⟩
    simp only [cont4, if_neg (show ¬ b < 0 by omega), if_pos hb0, if_pos hb1, if_pos (show b < (X.length : Int) by omega), if_pos h20]
    exact Ev.now _
   ·refine ⟨_, l4_ev hb ?_, hst.good P T hN tm 5⟩
    simp only [cont4, if_neg (show ¬ b < 0 by omega), if_pos hb0, if_pos hb1, if_pos (show b < (X.length : Int) by omega), if_neg h20, if_pos e2]
    exact Ev.now _
 | succ fuel ih =>
  intro wait log F G X hf hst hX hXb
  obtain ⟨b, hb, hbb⟩ := best_ev P T hN (vec P.length F) (vec_length _ _)
  have hlen := hst.len
  rcases hbb with hbb | ⟨hb0, hb1⟩
  ·obtain ⟨r, h1, h2⟩ := run_l7 P T hz wait (by have := hst.wl; omega) t ht0 (fun e he => by have := (hst.ev e he).2.1; omega) log (vec P.length F) (vec P.length G) tm (log, [], [], 0, 0) (Good P T) (hst.good P T hN tm 0)
    (fun x hx he hall => hl1 x wait log F G hx ⟨fun e he => ⟨(hst.ev e he).1, hall e he, (hst.ev e he).2.2⟩, hst.wl, hst.fi, hst.len, hst.way, hst.sum, by omega⟩) wait.length 0 (-1) (by simp) (.inl ⟨rfl, rfl⟩)
   refine ⟨r, l4_ev hb ?_, h2⟩
   simp only [cont4, if_pos (show b < 0 by omega)]
   exact h1
  ·by_cases h20 : rd X b = 20
   ·refine ⟨_, l4_ev hb ?_, hst.good P T hN tm 4⟩
    simp only [cont4, if_neg (show ¬ b < 0 by omega), if_pos hb0, if_pos hb1, if_pos (show b < (X.length : Int) by omega), if_pos h20]
    exact Ev.now _
   by_cases e2 : (log.length : Int) = 2000
   ·refine ⟨_, l4_ev hb ?_, hst.good P T hN tm 5⟩
    simp only [cont4, if_neg (show ¬ b < 0 by omega), if_pos hb0, if_pos hb1, if_pos (show b < (X.length : Int) by omega), if_neg h20, if_pos e2]
    exact Ev.now _
   have hx := tr_at hN.trs hb0 hb1
   obtain ⟨x, hxe⟩ : ∃ x, rd_T64 T b = x := ⟨_, rfl⟩
   have hXl : b < (X.length : Int) := by omega
   have hXv := hXb _ (rd_mem hb0 hXl)
   obtain ⟨s0, s1⟩ := fire_st P T hN hst ⟨ht0, by omega⟩ (by omega) hb0 hb1 t
   rw [hxe] at hx s0 s1
   have hX' : (X.set b.toNat (wrap64 (rd X b + 1))).length = T.length := by simp [hX]
   have hXb' : ∀ v ∈ X.set b.toNat (wrap64 (rd X b + 1)), 0 ≤ v ∧ v ≤ 20 := fun v hv => by
    rcases List.mem_or_eq_of_mem_set hv with q | q
    ·exact hXb v q
    ·rw [q, wrap_id (by unfold I; omega)]; omega
   have hln : (log ++ [(⟨t, b⟩ : S48)]).length = log.length + 1 := by simp
   have hbd := fun (p : Nat) (hp : p < P.length) => hst.bound P T hN hp
   have l3b := fun p : Nat => sumAt_bound hx.2.2.1.2.1 (p : Int)
   have l3l := hx.2.2.1.1
   have key : ∃ r, Ev (fun k => r09Run.l5 k hz wait t false (X.set b.toNat (wrap64 (rd X b + 1))) ((0 : Nat) : Int) P T (log ++ [⟨t, b⟩]) (vec P.length F) (vec P.length G) tm x.f0 x.f1 x.f2 x.f3 x.f4 x.f5) r ∧ Good P T r := by
    by_cases hd : x.f1 = 0
    ·obtain ⟨r, h1, h2⟩ := run_l6a P T hz wait t (X.set b.toNat (wrap64 (rd X b + 1))) (log ++ [⟨t, b⟩]) (vec P.length G) tm x hx hd (Good P T) x.f5.length 0 (fun p => F p - sumAt x.f3 (p : Int)) false (by simp) (fun p hp => by have := hbd p hp; have := l3b p; omega) ((s0 hd).good P T hN tm 3) (ih wait _ _ _ _ (by omega) (s0 hd) hX' hXb')
     exact ⟨r, run_l5 P T hz wait t false _ _ _ tm x hx r x.f3.length 0 F (by simp) (fun p hp => by have := hbd p hp; omega) h1, h2⟩
    ·obtain ⟨r, h1, h2⟩ := run_l6b P T hz t ⟨ht0, by omega⟩ (X.set b.toNat (wrap64 (rd X b + 1))) (log ++ [⟨t, b⟩]) (vec P.length fun p => F p - sumAt x.f3 (p : Int)) tm x hx hd (Good P T) x.f5.length 0 wait G false (by simp) (by have := hst.wl; omega) (fun p hp => by have := hbd p hp; omega) (by simp only [List.drop_zero]; exact (s1 hd).good P T hN tm 3) (by simp only [List.drop_zero]; exact ih _ _ _ _ _ (by omega) (s1 hd) hX' hXb')
     exact ⟨r, run_l5 P T hz wait t false _ _ _ tm x hx r x.f3.length 0 F (by simp) (fun p hp => by have := hbd p hp; omega) h1, h2⟩
   have j5 : ∀ c : Bool, ∃ r, Ev (fun k => r09Run.j5 k hz wait t false X b c P T log (vec P.length F) (vec P.length G) tm x.f0 x.f1 x.f2 x.f3 x.f4 x.f5) r ∧ Good P T r := by
    intro c
    cases c with
    | true => exact ⟨_, Ev.step (f := fun _ => some (log, vec P.length F, vec P.length G, tm, 3)) (fun k => by simp only [r09Run.j5, if_true]) (Ev.now _), hst.good P T hN tm 3⟩
    | false =>
     obtain ⟨r, h1, h2⟩ := key
     exact ⟨r, Ev.step (fun k => by simp only [r09Run.j5]; rw [if_neg (by simp), if_pos hb0, if_pos hXl, if_pos (by omega)]; rfl) h1, h2⟩
   by_cases hf5 : (x.f5.length : Int) > 0
   ·obtain ⟨r, h1, h2⟩ := j5 (decide ((wrap64 (t + x.f1)) > 1099511627776))
    refine ⟨r, l4_ev hb ?_, h2⟩
    simp only [cont4, if_neg (show ¬ b < 0 by omega), if_pos hb0, if_pos hb1, if_pos hXl, if_neg h20, if_neg e2, hxe, if_pos hf5]
    exact h1
   ·obtain ⟨r, h1, h2⟩ := j5 false
    refine ⟨r, l4_ev hb ?_, h2⟩
    simp only [cont4, if_neg (show ¬ b < 0 by omega), if_pos hb0, if_pos hb1, if_pos hXl, if_neg h20, if_neg e2, hxe, if_neg hf5]
    exact h1
include hN in
theorem run_l3 (wait : List S88) (t : Int) (log : List S48) (F G : Nat → Int) (tm : Int) (hg : Good P T (log, vec P.length F, vec P.length G, tm, 3)) (hl4 : ∃ r, Ev (fun k => r09Run.l4 k hz wait t false (List.replicate T.length 0) P T log (vec P.length F) (vec P.length G) tm) r ∧ Good P T r) (d : Nat) :
  ∀ (i : Nat) (b : Bool), P.length = i + d → ∃ r, Ev (fun k => r09Run.l3 k hz wait t b (i : Int) P T log (vec P.length F) (vec P.length G) tm) r ∧ Good P T r := by
 have h9 := hN.t9
 have h7 := hN.p7
 induction d with
 | zero =>
  intro i b hi
  cases b with
  | true => exact ⟨_, Ev.step (f := fun _ => some (log, vec P.length F, vec P.length G, tm, 3)) (fun k => by simp only [r09Run.l3, if_true]; rw [if_neg (by rw [vec_length]; omega)]) (Ev.now _), hg⟩
  | false =>
   obtain ⟨r, h1, h2⟩ := hl4
   exact ⟨r, Ev.step (fun k => by simp only [r09Run.l3]; rw [if_neg (by rw [vec_length]; omega), if_neg (by simp), if_pos (by omega), if_pos (by omega), Int.toNat_natCast]) h1, h2⟩
 | succ d ih =>
  intro i b hi
  cases b with
  | true =>
   obtain ⟨r, h1, h2⟩ := ih (i + 1) true (by omega)
   exact ⟨r, Ev.step (fun k => by simp only [r09Run.l3, if_true]; rw [if_pos (by rw [vec_length]; omega), wrap_succ (by omega)]) h1, h2⟩
  | false =>
   obtain ⟨r, h1, h2⟩ := ih (i + 1) (decide ((rd (vec P.length F) (i : Int)) > 1099511627776)) (by omega)
   exact ⟨r, Ev.step (fun k => by simp only [r09Run.l3]; rw [if_pos (by rw [vec_length]; omega), if_neg (by simp), if_pos (by omega), wrap_succ (by omega)]) h1, h2⟩
include hN hz30 in
theorem run_l1 (D : Nat) : ∀ (t : Int) (wait : List S88) (log : List S48) (F G : Nat → Int) (tm : Int), (hz + 1 - t).toNat ≤ D → St P T wait t log F G → ∃ r, Ev (fun k => r09Run.l1 k hz wait t P T log (vec P.length F) (vec P.length G) tm) r ∧ Good P T r := by
 induction D with
 | zero =>
  intro t wait log F G tm hD hst
  exact ⟨_, Ev.step (f := fun _ => some (log, vec P.length F, vec P.length G, tm, 0)) (fun k => by simp only [r09Run.l1]; rw [if_neg (by omega)]) (Ev.now _), hst.good P T hN tm 0⟩
 | succ D ih =>
  intro t wait log F G tm hD hst
  by_cases hth : t ≤ hz
  ·have hst2 : St P T (wait.filter fun e => e.f0 != t) (t + 1) log (fun p => F p + dueS t wait p) (fun p => G p - dueS t wait p) := by
    refine ⟨fun e he => ?_, Nat.le_trans (List.length_filter_le _ _) hst.wl, hst.fi, hst.len, fun p hp => ?_, fun p hp => ?_, by have := hst.t0; omega⟩
    ·obtain ⟨h1, h2⟩ := List.mem_filter.1 he
     have h3 := hst.ev e h1
     have h4 : e.f0 ≠ t := bne_iff_ne.1 h2
     exact ⟨h3.1, by omega, h3.2.2⟩
    ·have := way_due t wait p
     have := hst.way p hp
     omega
    ·have := hst.sum p hp
     omega
   have hl4 := run_l4 P T hN hz hz30 t hst.t0 hth t (fun x wait log F G hx h => ih x wait log F G t (by omega) h) 2000 (wait.filter fun e => e.f0 != t) log _ _ (List.replicate T.length 0) (by omega) hst2 (by simp) (fun v hv => by rw [(List.mem_replicate.1 hv).2]; omega)
   obtain ⟨r, h1, h2⟩ := run_l3 P T hN hz (wait.filter fun e => e.f0 != t) t log _ _ t (hst2.good P T hN t 3) hl4 P.length 0 false (by simp)
   have h3 := run_l2 P T hz wait (by have := hst.wl; have := hst.len; omega) (fun e he => (hst.ev e he).1) t log t r false wait.length 0 [] F G (by simp) (by simp) (fun p hp => by have := hst.bound P T hN hp; omega) h1
   exact ⟨r, Ev.step (fun k => by simp only [r09Run.l1]; rw [if_pos hth]; rfl) h3, h2⟩
  ·exact ⟨_, Ev.step (f := fun _ => some (log, vec P.length F, vec P.length G, tm, 0)) (fun k => by simp only [r09Run.l1]; rw [if_neg hth]) (Ev.now _), hst.good P T hN tm 0⟩
include hN hz30 in
theorem run_l0 (d : Nat) : ∀ i : Nat, P.length = i + d → ∃ r, Ev (fun k => r09Run.l0 k hz (i : Int) P T (vec i fun p => (rd_T52 P (p : Int)).f1) (vec i fun _ => 0) 0) r ∧ Good P T r := by
 have h7 := hN.p7
 induction d with
 | zero =>
  intro i hi
  have e : i = P.length := by omega
  obtain ⟨r, h1, h2⟩ := run_l1 P T hN hz hz30 (hz + 1 - 0).toNat 0 [] [] (fun p => (rd_T52 P (p : Int)).f1) (fun _ => 0) 0 (by omega) ⟨fun e he => by simp at he, by simp, fun f hf => by simp at hf, by simp, fun p hp => rfl, fun p hp => by simp [logS], by omega⟩
  rw [e]
  exact ⟨r, Ev.step (fun k => by simp only [r09Run.l0]; rw [if_neg (by omega)]) h1, h2⟩
 | succ d ih =>
  intro i hi
  obtain ⟨r, h1, h2⟩ := ih (i + 1) (by omega)
  have e1 : ∀ F : Nat → Int, vec (i + 1) F = vec i F ++ [F i] := fun F => by unfold vec; rw [List.range_succ, List.map_append]; rfl
  rw [e1, e1] at h1
  exact ⟨r, Ev.step (fun k => by simp only [r09Run.l0]; rw [if_pos (by omega), if_pos (by omega), if_pos (by rw [vec_length]; omega), if_pos (by rw [vec_length]; omega), wrap_succ (by omega)]) h1, h2⟩
include hN hz30 in
theorem run_ev : ∃ r, Ev (fun k => r09Run.f k P T hz) r ∧ Good P T r := run_l0 P T hN hz hz30 P.length 0 (by simp)
end

theorem dotS_I : ∀ (s : Int) (a b : List Int), I s → I (dotS s a b).1
 | s, a :: xs, b :: ys, hs => by
  simp only [dotS]
  split
  ·split
   ·exact dotS_I _ xs ys (by assumption)
   ·exact (by decide : I 0)
  ·exact (by decide : I 0)
 | s, [], _, hs => by simpa [dotS] using hs
 | s, _ :: _, [], hs => by simpa [dotS] using hs

/-- What a watch holds behind n tokens more on place p. -/
def addW (y : List Int) (s : Int × Bool) (n p : Int) : Int × Bool := ((addS s.1 (mulS n (rd y p)).1).1, s.2 && (mulS n (rd y p)).2 && (addS s.1 (mulS n (rd y p)).1).2)
def inW (y : List Int) (l : List S66) (s : Int × Bool) : Int × Bool := l.foldl (fun s a => addW y s (wrap64 (-a.f1)) a.f0) s
def outW (y : List Int) (l : List S66) (s : Int × Bool) : Int × Bool := l.foldl (fun s a => addW y s a.f1 a.f0) s
theorem addS_I (a b : Int) : I (addS a b).1 := by unfold addS; split <;> first | assumption | decide
theorem addW_I (y : List Int) (s : Int × Bool) (n p : Int) : I (addW y s n p).1 := addS_I _ _
theorem inW_I (y : List Int) : ∀ (l : List S66) (s : Int × Bool), I s.1 → I (inW y l s).1
 | [], _, h => h
 | a :: l, s, _ => inW_I y l _ (addW_I y s _ _)
theorem outW_I (y : List Int) : ∀ (l : List S66) (s : Int × Bool), I s.1 → I (outW y l s).1
 | [], _, h => h
 | a :: l, s, _ => outW_I y l _ (addW_I y s _ _)
def ArcW (n : Nat) (a : S66) : Prop := I a.f1 ∧ 0 ≤ a.f0 ∧ a.f0 < (n : Int)
theorem addW_ev {y : List Int} (hy : ∀ x ∈ y, I x) {s : Int × Bool} (hs : I s.1) {n p : Int} (hn : I n) (h0 : 0 ≤ p) (h1 : p < (y.length : Int)) (P : List S52) (T : List S64) (f : Int) : Ev (fun k => weigh_Watch_add.f k P T y f s.1 s.2 n p) (f, (addW y s n p).1, (addW y s n p).2) := by
 obtain ⟨K, hK⟩ := mul_ev hn (hy _ (rd_mem h0 h1))
 refine ⟨K, fun k hk => ?_⟩
 have h := hK k hk
 dsimp only at h ⊢
 unfold weigh_Watch_add.f addW
 rw [if_pos h0, if_pos h1, h, Option.bind_some, add_is hs (mulS_I _ _), Option.bind_some]
 cases s.2 <;> cases (mulS n (rd y p)).2 <;> simp
theorem outW_ev {y : List Int} (hy : ∀ x ∈ y, I x) (P : List S52) (T : List S64) (f : Int) {l : List S66} (hl : ∀ a ∈ l, ArcW y.length a) (hll : l.length ≤ 1000) (d : Nat) :
  ∀ (i : Nat) (s : Int × Bool), l.length = i + d → I s.1 → Ev (fun k => weigh_Watch_Fire.l1 k l (l.length : Int) (i : Int) P T y f s.1 s.2) (f, (outW y (l.drop i) s).1, (outW y (l.drop i) s).2) := by
 induction d with
 | zero =>
  intro i s hi hs
  rw [List.drop_eq_nil_of_le (by omega)]
  exact Ev.step (f := fun _ => some (f, s.1, s.2)) (fun k => by simp only [weigh_Watch_Fire.l1]; rw [if_neg (by omega)]) (Ev.now _)
 | succ d ih =>
  intro i s hi hs
  have ha := hl _ (rdA_mem (l := l) (i := i) (by omega))
  rw [dropA_cons (by omega)]
  refine Ev.step (f := fun k => (weigh_Watch_add.f k P T y f s.1 s.2 ((rd_T66 l (i : Int)).f1) ((rd_T66 l (i : Int)).f0)).bind fun b => weigh_Watch_Fire.l1 k l (l.length : Int) ((i + 1 : Nat) : Int) P T y b.1 b.2.1 b.2.2) (fun k => by simp only [weigh_Watch_Fire.l1]; rw [if_pos (by omega), if_pos (by omega), if_pos (by omega), wrap_succ (by omega)]) ?_
  refine Ev.bind (addW_ev hy hs ha.1 ha.2.1 ha.2.2 P T f) ?_
  exact ih (i + 1) _ (by omega) (addW_I y s _ _)
theorem inW_ev {y : List Int} (hy : ∀ x ∈ y, I x) (P : List S52) (T : List S64) (f : Int) {l : List S66} (hl : ∀ a ∈ l, ArcW y.length a) (hll : l.length ≤ 1000) {t : Int} (t0 : 0 ≤ t) (t1 : t < (T.length : Int)) (ho : ∀ a ∈ (rd_T64 T t).f5, ArcW y.length a) (hol : (rd_T64 T t).f5.length ≤ 1000) (d : Nat) :
  ∀ (i : Nat) (s : Int × Bool), l.length = i + d → I s.1 → Ev (fun k => weigh_Watch_Fire.l0 k t l (l.length : Int) (i : Int) P T y f s.1 s.2) (f, (outW y (rd_T64 T t).f5 (inW y (l.drop i) s)).1, (outW y (rd_T64 T t).f5 (inW y (l.drop i) s)).2) := by
 induction d with
 | zero =>
  intro i s hi hs
  rw [List.drop_eq_nil_of_le (by omega)]
  refine Ev.step (f := fun k => weigh_Watch_Fire.l1 k (rd_T64 T t).f5 ((rd_T64 T t).f5.length : Int) ((0 : Nat) : Int) P T y f s.1 s.2) (fun k => by simp only [weigh_Watch_Fire.l0]; rw [if_neg (by omega), if_pos t0, if_pos t1]; rfl) ?_
  exact outW_ev hy P T f ho hol (rd_T64 T t).f5.length 0 s (by omega) hs
 | succ d ih =>
  intro i s hi hs
  have ha := hl _ (rdA_mem (l := l) (i := i) (by omega))
  rw [dropA_cons (by omega)]
  refine Ev.step (f := fun k => (weigh_Watch_add.f k P T y f s.1 s.2 (wrap64 (-((rd_T66 l (i : Int)).f1))) ((rd_T66 l (i : Int)).f0)).bind fun b => weigh_Watch_Fire.l0 k t l (l.length : Int) ((i + 1 : Nat) : Int) P T y b.1 b.2.1 b.2.2) (fun k => by simp only [weigh_Watch_Fire.l0]; rw [if_pos (by omega), if_pos (by omega), if_pos (by omega), wrap_succ (by omega)]) ?_
  refine Ev.bind (addW_ev hy hs (wrap_I _) ha.2.1 ha.2.2 P T f) ?_
  exact ih (i + 1) _ (by omega) (addW_I y s _ _)
/-- What a watch holds behind a firing. -/
def fireS (y : List Int) (T : List S64) (s : Int × Bool) (t : Int) : Int × Bool := if 0 ≤ t ∧ t < (T.length : Int) then outW y (rd_T64 T t).f5 (inW y (rd_T64 T t).f3 s) else s
theorem fireS_I (y : List Int) (T : List S64) (s : Int × Bool) (t : Int) (hs : I s.1) : I (fireS y T s t).1 := by
 unfold fireS; split
 ·exact outW_I y _ _ (inW_I y _ _ hs)
 ·exact hs
def TransW (n : Nat) (T : List S64) : Prop := ∀ t : Int, 0 ≤ t → t < (T.length : Int) → ((∀ a ∈ (rd_T64 T t).f3, ArcW n a) ∧ (rd_T64 T t).f3.length ≤ 1000) ∧ (∀ a ∈ (rd_T64 T t).f5, ArcW n a) ∧ (rd_T64 T t).f5.length ≤ 1000
theorem fire_ev {y : List Int} (hy : ∀ x ∈ y, I x) (P : List S52) {T : List S64} (f : Int) (hT : TransW y.length T) (t : Int) (s : Int × Bool) (hs : I s.1) :
  Ev (fun k => weigh_Watch_Fire.f k P T y f s.1 s.2 t) (f, (fireS y T s t).1, (fireS y T s t).2) := by
 by_cases h0 : t < 0
 ·refine ⟨1, fun k hk => ?_⟩
  obtain ⟨k, rfl⟩ : ∃ m, k = m + 1 := ⟨k - 1, by omega⟩
  dsimp only
  unfold weigh_Watch_Fire.f fireS
  rw [if_pos h0, if_neg (by omega)]
  simp only [weigh_Watch_Fire.j0]
  exact if_pos trivial
 by_cases h1 : t < (T.length : Int)
 ·obtain ⟨⟨a, al⟩, b, bl⟩ := hT t (by omega) h1
  have h := inW_ev hy P T f a al (by omega) h1 b bl (rd_T64 T t).f3.length 0 s (by omega) hs
  unfold fireS
  rw [if_pos ⟨by omega, h1⟩]
  unfold weigh_Watch_Fire.f
  refine Ev.step (f := fun k => weigh_Watch_Fire.l0 k t (rd_T64 T t).f3 ((rd_T64 T t).f3.length : Int) ((0 : Nat) : Int) P T y f s.1 s.2) (fun k => ?_) h
  rw [if_neg h0]
  simp only [weigh_Watch_Fire.j0]
  rw [if_neg (show ¬ (decide (t ≥ (T.length : Int)) = true) by simp; omega), if_pos (by omega), if_pos h1]; rfl
 ·refine ⟨1, fun k hk => ?_⟩
  obtain ⟨k, rfl⟩ : ∃ m, k = m + 1 := ⟨k - 1, by omega⟩
  dsimp only
  unfold weigh_Watch_Fire.f fireS
  rw [if_neg h0, if_neg (by omega)]
  simp only [weigh_Watch_Fire.j0]
  rw [if_pos (show decide (t ≥ (T.length : Int)) = true by simp; omega)]
theorem same_is (P : List S52) (T : List S64) (y : List Int) (f : Int) (s : Int × Bool) : weigh_Watch_Same.f P T y f s.1 s.2 = some (s.2 && (s.1 == f), f, s.1, s.2) := by
 unfold weigh_Watch_Same.f; cases h : s.2 <;> simp [h]
/-- A new watch. -/
def newR (P : List S52) (T : List S64) (y m : List Int) : List S52 × List S64 × List Int × Int × Int × Bool × Int := if (dotS 0 y m).2 = true then (P, T, y, (dotS 0 y m).1, (dotS 0 y m).1, true, 0) else ([], [], [], 0, 0, false, 3)
theorem new_loop {y : List Int} (hy : ∀ x ∈ y, I x) (hyl : y.length ≤ 1000) (P : List S52) (T : List S64) (hP : ∀ p ∈ P, I p.f1) (hPl : P.length ≤ 1000) (d : Nat) :
  ∀ (i : Nat) (acc : List Int), P.length = i + d → (∀ x ∈ acc, I x) → acc.length ≤ i → Ev (fun k => weigh_New.l0 k y acc P (P.length : Int) (i : Int) P T) (newR P T y (acc ++ (P.drop i).map fun p => p.f1)) := by
 induction d with
 | zero =>
  intro i acc hi ha hal
  rw [List.drop_eq_nil_of_le (by omega), List.map_nil, List.append_nil]
  refine Ev.step (f := fun k => (whole_Dot.f k y acc).bind fun q => (if q.2 = true then (some (P, T, y, q.1, q.1, true, 0)) else (some (([] : List (S52)), ([] : List (S64)), ([] : List Int), 0, 0, false, 3)))) (fun k => by simp only [weigh_New.l0]; rw [if_neg (by omega)]) ?_
  refine Ev.bind (dot_ev hy ha (by omega)) ?_
  refine Ev.congr (f := fun _ => some (newR P T y acc)) (fun k => ?_) (Ev.now _)
  unfold newR; split <;> rfl
 | succ d ih =>
  intro i acc hi ha hal
  have hp : rd_T52 P (i : Int) = P[i]'(by omega) := rdP_lt (by omega)
  refine Ev.step (f := fun k => weigh_New.l0 k y (acc ++ [(rd_T52 P (i : Int)).f1]) P (P.length : Int) ((i + 1 : Nat) : Int) P T) (fun k => by simp only [weigh_New.l0]; rw [if_pos (by omega), if_pos (by omega), if_pos (by omega), if_pos (by omega), wrap_succ (by omega)]) ?_
  have e := ih (i + 1) (acc ++ [(rd_T52 P (i : Int)).f1]) (by omega) (fun x hx => ?_) (by simp; omega)
  ·rw [List.drop_eq_getElem_cons (by omega : i < P.length), List.map_cons]
   rw [hp, List.append_assoc, List.singleton_append] at e
   exact hp ▸ e
  ·rcases List.mem_append.1 hx with h | h
   ·exact ha x h
   ·rw [List.mem_singleton.1 h, hp]; exact hP _ (List.getElem_mem _)
def newS (P : List S52) (T : List S64) (y : List Int) : List S52 × List S64 × List Int × Int × Int × Bool × Int := if y.length = P.length then newR P T y (P.map fun p => p.f1) else ([], [], [], 0, 0, false, 1)
theorem new_ev {y : List Int} (hy : ∀ x ∈ y, I x) (hyl : y.length ≤ 1000) (P : List S52) (T : List S64) (hP : ∀ p ∈ P, I p.f1) (hPl : P.length ≤ 1000) : Ev (fun k => weigh_New.f k P T y) (newS P T y) := by
 unfold weigh_New.f newS
 by_cases h : y.length = P.length
 ·rw [if_pos h]
  have e := new_loop hy hyl P T hP hPl P.length 0 [] (by simp) (by simp) (by simp)
  rw [List.nil_append, List.drop_zero] at e
  refine Ev.congr (fun k => ?_) e
  rw [if_pos (by omega)]; rfl
 ·rw [if_neg h]
  refine Ev.congr (fun k => ?_) (Ev.now _)
  rw [if_neg (by omega)]

theorem rdG_lt {l : List S48} {i : Nat} (h : i < l.length) : rd_T48 l (i : Int) = l[i] := by
 unfold rd_T48; rw [Int.toNat_natCast, List.getD_eq_getElem?_getD, List.getElem?_eq_getElem h]; rfl
theorem dropG_cons {l : List S48} {i : Nat} (h : i < l.length) : l.drop i = rd_T48 l (i : Int) :: l.drop (i + 1) := by
 rw [rdG_lt h]; exact List.drop_eq_getElem_cons h
/-- The first firing behind which it weighs something else, counted from i on. -/
def checkS (y : List Int) (T : List S64) (f : Int) : List S48 → Nat → Int × Bool → Int
 | [], _, _ => -1
 | e :: l, i, s => if ((fireS y T s e.f1).2 && ((fireS y T s e.f1).1 == f)) = true then checkS y T f l (i + 1) (fireS y T s e.f1) else (i : Int)
theorem check_loop {y : List Int} (hy : ∀ x ∈ y, I x) (P : List S52) {T : List S64} (f : Int) (hT : TransW y.length T) (l : List S48) (hl : l.length ≤ 100000) (d : Nat) :
  ∀ (i : Nat) (s : Int × Bool), l.length = i + d → I s.1 → Ev (fun k => weigh_Check.l0 k l (l.length : Int) (i : Int) P T y f s.1 s.2) (checkS y T f (l.drop i) i s, 0) := by
 induction d with
 | zero =>
  intro i s hi hs
  rw [List.drop_eq_nil_of_le (by omega)]
  exact Ev.step (f := fun _ => some (-1, 0)) (fun k => by simp only [weigh_Check.l0]; rw [if_neg (by omega)]) (Ev.now _)
 | succ d ih =>
  intro i s hi hs
  rw [dropG_cons (by omega)]
  refine Ev.step (f := fun k => (weigh_Watch_Fire.f k P T y f s.1 s.2 ((rd_T48 l (i : Int)).f1)).bind fun b => ((weigh_Watch_Same.f P T y b.1 b.2.1 b.2.2).bind fun c => (if c.1 = true then (weigh_Check.l0 k l (l.length : Int) ((i + 1 : Nat) : Int) P T y c.2.1 c.2.2.1 c.2.2.2) else (some ((i : Int), 0))))) (fun k => by simp only [weigh_Check.l0]; rw [if_pos (by omega), if_pos (by omega), if_pos (by omega), wrap_succ (by omega)]) ?_
  refine Ev.bind (fire_ev hy P f hT _ s hs) ?_
  simp only [same_is, Option.bind_some, checkS]
  split
  ·exact ih (i + 1) _ (by omega) (fireS_I y T s _ hs)
  ·exact Ev.now _
def checkR (P : List S52) (T : List S64) (y : List Int) (l : List S48) : Int × Int := if (newS P T y).2.2.2.2.2.2 = 0 then (checkS y T (newS P T y).2.2.2.1 l 0 ((newS P T y).2.2.2.1, true), 0) else (-1, (newS P T y).2.2.2.2.2.2)
theorem newS_ok {P : List S52} {T : List S64} {y : List Int} (h : (newS P T y).2.2.2.2.2.2 = 0) : y.length = P.length ∧ (dotS 0 y (P.map fun p => p.f1)).2 = true ∧ newS P T y = (P, T, y, (dotS 0 y (P.map fun p => p.f1)).1, (dotS 0 y (P.map fun p => p.f1)).1, true, 0) := by
 unfold newS at h ⊢
 by_cases e : y.length = P.length
 ·rw [if_pos e] at h ⊢
  unfold newR at h ⊢
  by_cases g : (dotS 0 y (P.map fun p => p.f1)).2 = true
  ·rw [if_pos g]; exact ⟨e, g, rfl⟩
  ·rw [if_neg g] at h; exact absurd h (by decide)
 ·rw [if_neg e] at h; exact absurd h (by decide)
theorem check_ev {y : List Int} (hy : ∀ x ∈ y, I x) (hyl : y.length ≤ 1000) (P : List S52) {T : List S64} (hP : ∀ p ∈ P, I p.f1) (hPl : P.length ≤ 1000) (hT : y.length = P.length → TransW y.length T) (l : List S48) (hl : l.length ≤ 100000) :
  Ev (fun k => weigh_Check.f k P T y l) (checkR P T y l) := by
 unfold weigh_Check.f
 refine Ev.bind (new_ev hy hyl P T hP hPl) ?_
 unfold checkR
 by_cases h : (newS P T y).2.2.2.2.2.2 = 0
 ·rw [if_pos h]
  obtain ⟨e, g, hn⟩ := newS_ok h
  simp only [hn, if_true]
  have h2 := check_loop hy P (dotS 0 y (P.map fun p => p.f1)).1 (hT e) l hl l.length 0 ((dotS 0 y (P.map fun p => p.f1)).1, true) (by simp) (dotS_I _ _ _ (by decide))
  exact h2
 ·rw [if_neg h]
  refine Ev.congr (fun k => ?_) (Ev.now _)
  rw [if_neg h]

theorem netW {P : List S52} {T : List S64} (h : NetOk P T) : TransW P.length T := by
 intro t h0 h1
 obtain ⟨i, rfl⟩ := Int.eq_ofNat_of_zero_le h0
 have ht := h.trs _ (rdTr_mem (l := T) (i := i) (by omega))
 refine ⟨⟨fun a ha => ?_, by have := ht.2.2.1.1; omega⟩, fun a ha => ?_, by have := ht.2.2.2.2.1; omega⟩
 ·have := ht.2.2.1.2.1 a ha; exact ⟨by unfold I; omega, this.1, this.2.1⟩
 ·have := ht.2.2.2.2.2.1 a ha; exact ⟨by unfold I; omega, this.1, this.2.1⟩
theorem tokI {P : List S52} {T : List S64} (h : NetOk P T) : ∀ p ∈ P, I p.f1 := fun p hp => by have := h.tok p hp; unfold I; omega
theorem takeP_snoc {l : List S52} {i : Nat} (h : i < l.length) : (l.take i).map (fun p => p.f1) ++ [(rd_T52 l (i : Int)).f1] = (l.take (i + 1)).map fun p => p.f1 := by
 rw [List.take_succ_eq_append_getElem h, List.map_append, rdP_lt h]; rfl

/-- No more than 2^20, either way. -/
def Sm (y : List Int) : Prop := ∀ x ∈ y, -1048576 ≤ x ∧ x ≤ 1048576
theorem Sm.i {y : List Int} (h : Sm y) : ∀ x ∈ y, I x := fun x hx => by have := h x hx; unfold I; omega
theorem times4 {n x B : Int} (h1 : 1 ≤ n) (h4 : n ≤ 4) (hx : -B ≤ x ∧ x ≤ B) (hB : 0 ≤ B) : -(4 * B) ≤ n * x ∧ n * x ≤ 4 * B := by
 have : n = 1 ∨ n = 2 ∨ n = 3 ∨ n = 4 := by omega
 rcases this with rfl | rfl | rfl | rfl <;> omega
/-- What arcs weigh. -/
def wsum (y : List Int) : List S66 → Int
 | [] => 0
 | a :: l => a.f1 * rd y a.f0 + wsum y l
/-- What a firing changes of the weight. -/
def chY (y : List Int) (t : S64) : Int := wsum y t.f5 - wsum y t.f3
def ArcS (n : Nat) (a : S66) : Prop := 0 ≤ a.f0 ∧ a.f0 < (n : Int) ∧ 1 ≤ a.f1 ∧ a.f1 ≤ 4
theorem arc_small {y : List Int} (hy : Sm y) {a : S66} (ha : ArcS y.length a) : -4194304 ≤ a.f1 * rd y a.f0 ∧ a.f1 * rd y a.f0 ≤ 4194304 := by
 have := times4 ha.2.2.1 ha.2.2.2 (hy _ (rd_mem ha.1 ha.2.1)) (by decide); omega
theorem wsum_small {y : List Int} (hy : Sm y) : ∀ {l : List S66}, (∀ a ∈ l, ArcS y.length a) → -(4194304 * (l.length : Int)) ≤ wsum y l ∧ wsum y l ≤ 4194304 * (l.length : Int)
 | [], _ => by simp [wsum]
 | a :: l, h => by
  have h1 := arc_small hy (h a List.mem_cons_self)
  have h2 := wsum_small hy (l := l) fun x hx => h x (List.mem_cons_of_mem _ hx)
  simp only [wsum, List.length_cons]; omega
theorem addW_is {y : List Int} {s : Int × Bool} {n p : Int} (h0 : I (n * rd y p)) (h1 : I (s.1 + n * rd y p)) : addW y s n p = (s.1 + n * rd y p, s.2) := by
 unfold addW mulS addS
 simp only [if_pos h0, if_pos h1, Bool.and_true]
theorem inW_is {y : List Int} (hy : Sm y) (b : Bool) (l : List S66) : ∀ s : Int, (∀ a ∈ l, ArcS y.length a) → l.length ≤ 1000 → -(1000000000000000 + 4194304 * (1000 - (l.length : Int))) ≤ s → s ≤ 1000000000000000 + 4194304 * (1000 - (l.length : Int)) → inW y l (s, b) = (s - wsum y l, b) := by
 induction l with
 | nil => intro s _ _ _ _; show (s, b) = (s - 0, b); rw [Int.sub_zero]
 | cons a l ih =>
  intro s h hl h0 h1
  have ha := h a List.mem_cons_self
  have hs := arc_small hy ha
  rw [List.length_cons] at hl h0 h1
  have ew : wrap64 (-a.f1) = -a.f1 := wrap_id (by have := ha.2.2; unfold I; omega)
  have en : -a.f1 * rd y a.f0 = -(a.f1 * rd y a.f0) := Int.neg_mul _ _
  have e : inW y (a :: l) (s, b) = inW y l (addW y (s, b) (wrap64 (-a.f1)) a.f0) := rfl
  rw [e, ew, addW_is (by rw [en]; unfold I; omega) (by rw [en]; unfold I; dsimp only; omega), en]
  dsimp only
  rw [ih _ (fun x hx => h x (List.mem_cons_of_mem _ hx)) (by omega) (by omega) (by omega)]
  simp only [wsum]
  rw [show s + -(a.f1 * rd y a.f0) - wsum y l = s - (a.f1 * rd y a.f0 + wsum y l) by omega]
theorem outW_is {y : List Int} (hy : Sm y) (b : Bool) (l : List S66) : ∀ s : Int, (∀ a ∈ l, ArcS y.length a) → l.length ≤ 1000 → -(1000000000000000 + 4194304 * (1000 - (l.length : Int))) ≤ s → s ≤ 1000000000000000 + 4194304 * (1000 - (l.length : Int)) → outW y l (s, b) = (s + wsum y l, b) := by
 induction l with
 | nil => intro s _ _ _ _; show (s, b) = (s + 0, b); rw [Int.add_zero]
 | cons a l ih =>
  intro s h hl h0 h1
  have ha := h a List.mem_cons_self
  have hs := arc_small hy ha
  rw [List.length_cons] at hl h0 h1
  have e : outW y (a :: l) (s, b) = outW y l (addW y (s, b) a.f1 a.f0) := rfl
  rw [e, addW_is (by unfold I; omega) (by unfold I; dsimp only; omega)]
  dsimp only
  rw [ih _ (fun x hx => h x (List.mem_cons_of_mem _ hx)) (by omega) (by omega) (by omega)]
  simp only [wsum]
  rw [show s + a.f1 * rd y a.f0 + wsum y l = s + (a.f1 * rd y a.f0 + wsum y l) by omega]
theorem chY_small {y : List Int} (hy : Sm y) {P : List S52} {T : List S64} (hN : NetOk P T) (hl : y.length = P.length) {t : S64} (ht : t ∈ T) : -16777216 ≤ chY y t ∧ chY y t ≤ 16777216 := by
 have h := hN.trs t ht
 have h3 := wsum_small hy (l := t.f3) fun a ha => by rw [hl]; exact ⟨(h.2.2.1.2.1 a ha).1, (h.2.2.1.2.1 a ha).2.1, (h.2.2.1.2.1 a ha).2.2.1, (h.2.2.1.2.1 a ha).2.2.2⟩
 have h5 := wsum_small hy (l := t.f5) fun a ha => by rw [hl]; exact ⟨(h.2.2.2.2.2.1 a ha).1, (h.2.2.2.2.2.1 a ha).2.1, (h.2.2.2.2.2.1 a ha).2.2.1, (h.2.2.2.2.2.1 a ha).2.2.2⟩
 have l3 := h.2.2.1.1
 have l5 := h.2.2.2.2.1
 unfold chY; omega
theorem fire_is {y : List Int} (hy : Sm y) {P : List S52} {T : List S64} (hN : NetOk P T) (hl : y.length = P.length) {t : Int} (h0 : 0 ≤ t) (h1 : t < (T.length : Int)) {a : Int} (ha : -100000000000000 ≤ a ∧ a ≤ 100000000000000) (b : Bool) :
  fireS y T (a, b) t = (a + chY y (rd_T64 T t), b) := by
 obtain ⟨i, rfl⟩ := Int.eq_ofNat_of_zero_le h0
 have h := hN.trs _ (rdTr_mem (l := T) (i := i) (by omega))
 have g3 : ∀ a ∈ (rd_T64 T (i : Int)).f3, ArcS y.length a := fun a ha => by rw [hl]; exact ⟨(h.2.2.1.2.1 a ha).1, (h.2.2.1.2.1 a ha).2.1, (h.2.2.1.2.1 a ha).2.2.1, (h.2.2.1.2.1 a ha).2.2.2⟩
 have g5 : ∀ a ∈ (rd_T64 T (i : Int)).f5, ArcS y.length a := fun a ha => by rw [hl]; exact ⟨(h.2.2.2.2.2.1 a ha).1, (h.2.2.2.2.2.1 a ha).2.1, (h.2.2.2.2.2.1 a ha).2.2.1, (h.2.2.2.2.2.1 a ha).2.2.2⟩
 have l3 := h.2.2.1.1
 have l5 := h.2.2.2.2.1
 have w3 := wsum_small hy g3
 unfold fireS
 rw [if_pos ⟨h0, h1⟩, inW_is hy b _ _ g3 (by omega) (by omega) (by omega), outW_is hy b _ _ g5 (by omega) (by omega) (by omega)]
 unfold chY
 rw [show a - wsum y (rd_T64 T (i : Int)).f3 + wsum y (rd_T64 T (i : Int)).f5 = a + (wsum y (rd_T64 T (i : Int)).f5 - wsum y (rd_T64 T (i : Int)).f3) by omega]
theorem dot_small : ∀ (y m : List Int) (s C : Int), Sm y → (∀ x ∈ m, 0 ≤ x ∧ x ≤ 4) → -C ≤ s → s ≤ C → C + 4194304 * (y.length : Int) ≤ 100000000000000 → (dotS s y m).2 = true ∧ -(C + 4194304 * (y.length : Int)) ≤ (dotS s y m).1 ∧ (dotS s y m).1 ≤ C + 4194304 * (y.length : Int)
 | [], m, s, C, _, _, h0, h1, hC => by simp [dotS]; omega
 | a :: y, [], s, C, _, _, h0, h1, hC => by simp only [dotS, List.length_cons]; refine ⟨trivial, ?_, ?_⟩ <;> omega
 | a :: y, x :: m, s, C, hy, hm, h0, h1, hC => by
  have hx := hm x List.mem_cons_self
  have ha := hy a List.mem_cons_self
  have hp : -4194304 ≤ a * x ∧ a * x ≤ 4194304 := by
   have : x = 0 ∨ x = 1 ∨ x = 2 ∨ x = 3 ∨ x = 4 := by omega
   rcases this with rfl | rfl | rfl | rfl | rfl <;> omega
  rw [List.length_cons] at hC ⊢
  rw [dotS_cons, if_pos (by unfold I; omega), if_pos (by unfold I; omega)]
  have ih := dot_small y m (s + a * x) (C + 4194304) (fun z hz => hy z (List.mem_cons_of_mem _ hz)) (fun z hz => hm z (List.mem_cons_of_mem _ hz)) (by omega) (by omega) (by omega)
  refine ⟨ih.1, ?_, ?_⟩ <;> have := ih.2 <;> omega
/-- The first firing behind which the weight is another one. -/
def firstC (y : List Int) (T : List S64) : List S48 → Nat → Int → Int → Int
 | [], _, _, q => q
 | e :: l, i, c, q => firstC y T l (i + 1) (c + chY y (rd_T64 T e.f1)) (if c + chY y (rd_T64 T e.f1) ≠ 0 ∧ q < 0 then (i : Int) else q)
theorem firstC_stay (y : List Int) (T : List S64) : ∀ (l : List S48) (i : Nat) (c q : Int), 0 ≤ q → firstC y T l i c q = q
 | [], _, _, _, _ => rfl
 | e :: l, i, c, q, h => by
  simp only [firstC]
  rw [if_neg (by omega)]
  exact firstC_stay y T l (i + 1) _ q h
theorem check_is {y : List Int} (hy : Sm y) {P : List S52} {T : List S64} (hN : NetOk P T) (hl : y.length = P.length) (d : Int) (hd : -100000000000 ≤ d ∧ d ≤ 100000000000) : ∀ (l : List S48) (i : Nat) (c : Int), (∀ f ∈ l, FiOk T.length f) → -100000000000 ≤ c + 16777216 * (l.length : Int) → c + 16777216 * (l.length : Int) ≤ 100000000000 → -100000000000 ≤ c - 16777216 * (l.length : Int) →
  checkS y T d l i (d + c, true) = firstC y T l i c (-1)
 | [], i, c, _, _, _, _ => rfl
 | e :: l, i, c, hf, h0, h1, h2 => by
  have he := hf e List.mem_cons_self
  rw [List.length_cons] at h0 h1 h2
  obtain ⟨j, hj⟩ := Int.eq_ofNat_of_zero_le he.1
  have hb := chY_small hy hN hl (rdTr_mem (l := T) (i := j) (by have := he.2; omega))
  rw [← hj] at hb
  simp only [checkS, firstC]
  rw [fire_is hy hN hl he.1 he.2 (by omega) true]
  by_cases h : c + chY y (rd_T64 T e.f1) = 0
  ·rw [if_pos (by simp; omega), if_neg (by omega), Int.add_assoc]
   exact check_is hy hN hl d hd l (i + 1) _ (fun f hf' => hf f (List.mem_cons_of_mem _ hf')) (by omega) (by omega) (by omega)
  ·rw [if_neg (by simp; omega), if_pos ⟨h, by decide⟩, firstC_stay y T l (i + 1) _ _ (by omega)]

def sumS (a b c : List Int) : Int × Bool := if (dotS 0 a b).2 = true then (if (dotS 0 a c).2 = true then addS (dotS 0 a b).1 (dotS 0 a c).1 else (0, false)) else (0, false)
theorem sum_ev {a b c : List Int} (h0 : ∀ x ∈ a, I x) (h1 : ∀ x ∈ b, I x) (h2 : ∀ x ∈ c, I x) (hb : a.length ≤ 9223372036854775806) (p : List (S48)) (q : Int) : Ev (fun k => weigh_Sum.f k a p b c q) (sumS a b c) := by
 obtain ⟨K1, h1⟩ := dot_ev h0 h1 hb
 obtain ⟨K2, h2⟩ := dot_ev h0 h2 hb
 refine ⟨K1 + K2, fun k hk => ?_⟩
 dsimp only; unfold weigh_Sum.f sumS
 have h1 := h1 k (by omega); have h2 := h2 k (by omega)
 dsimp only at h1 h2
 rw [h1, Option.bind_some, h2, Option.bind_some, add_is (dotS_I 0 a b (by decide)) (dotS_I 0 a c (by decide))]
 split <;> (try split) <;> rfl

theorem few_ev (l : List Int) (m : List S83) : ∃ b, u13few.f l m = some b ∧ (b = true → l.length ≤ 60 ∧ m.length ≤ 12) := by
 unfold u13few.f
 by_cases h : (l.length : Int) ≤ 60
 ·rw [if_pos h]
  refine ⟨_, rfl, fun hb => ?_⟩
  have := of_decide_eq_true hb
  omega
 ·rw [if_neg h]; exact ⟨false, rfl, fun hb => by simp at hb⟩

theorem awake_ev : Ev (fun k => u13awake.f k) true := Ev.of (k := 40) u13awake.mono (by kernel_rfl)

set_option linter.unusedSectionVars false
theorem sumR_front : ∀ (n : Nat) (f : Nat → Int), sumR (n + 1) f = f 0 + sumR n fun k => f (k + 1)
 | 0, f => by simp [sumR]
 | n + 1, f => by
  rw [sumR, sumR_front n f, sumR]; omega
theorem rd_succ (a : Int) (l : List Int) (k : Nat) : rd (a :: l) ((k + 1 : Nat) : Int) = rd l (k : Int) := by
 unfold rd; rw [Int.toNat_natCast, Int.toNat_natCast]; rfl
theorem prod_b {x y : Int} {A B : Nat} (hx : -(A : Int) ≤ x ∧ x ≤ A) (hy : -(B : Int) ≤ y ∧ y ≤ B) : -((A * B : Nat) : Int) ≤ x * y ∧ x * y ≤ ((A * B : Nat) : Int) := by
 have h := Nat.mul_le_mul (show x.natAbs ≤ A by omega) (show y.natAbs ≤ B by omega)
 rw [← Int.natAbs_mul] at h
 omega
theorem dot_sum (y : List Int) : ∀ (m : List Int) (s : Int), Sm y → y.length = m.length → (∀ x ∈ m, -50000 ≤ x ∧ x ≤ 50000) → -1000000000000000 + 60000000000 * (y.length : Int) ≤ s → s ≤ 1000000000000000 - 60000000000 * (y.length : Int) →
  dotS s y m = (s + sumR y.length (fun p => rd y (p : Int) * rd m (p : Int)), true) := by
 induction y with
 | nil =>
  intro m s _ h _ _ _
  cases m with
  | nil => show (s, true) = (s + 0, true); rw [Int.add_zero]
  | cons x m => simp at h
 | cons a y ih =>
  intro m s hy hl hm h0 h1
  cases m with
  | nil => simp at hl
  | cons x m =>
   have hx := hm x List.mem_cons_self
   have ha := hy a List.mem_cons_self
   have hp := prod_b (A := 1048576) (B := 50000) (x := a) (y := x) (by omega) (by omega)
   rw [List.length_cons] at h0 h1
   rw [dotS_cons, if_pos (by unfold I; omega), if_pos (by unfold I; omega), ih m (s + a * x) (fun z hz => hy z (List.mem_cons_of_mem _ hz)) (by simpa using hl) (fun z hz => hm z (List.mem_cons_of_mem _ hz)) (by omega) (by omega), List.length_cons, sumR_front]
   have e : (sumR y.length fun k => rd (a :: y) ((k + 1 : Nat) : Int) * rd (x :: m) ((k + 1 : Nat) : Int)) = sumR y.length fun k => rd y (k : Int) * rd m (k : Int) := sumR_congr fun k _ => by rw [rd_succ, rd_succ]
   rw [e]
   show (s + a * x + _, true) = (s + (a * x + _), true)
   rw [Int.add_assoc]
theorem sumR_sub (m : Nat) (f g : Nat → Int) : sumR m (fun k => f k - g k) = sumR m f - sumR m g := by
 have h := sumR_add m (fun k => f k - g k) g
 have e : (sumR m fun k => f k - g k + g k) = sumR m f := sumR_congr fun k _ => by omega
 rw [e] at h; omega
theorem wsum_at {n : Nat} (y : List Int) : ∀ {l : List S66}, (∀ a ∈ l, 0 ≤ a.f0 ∧ a.f0 < (n : Int)) → wsum y l = sumR n fun p => rd y (p : Int) * sumAt l (p : Int)
 | [], _ => by
  have e : (sumR n fun p => rd y (p : Int) * sumAt [] (p : Int)) = sumR n fun _ => 0 := sumR_congr fun k _ => by simp [sumAt]
  rw [e, sumR_zero]; rfl
 | a :: l, h => by
  have ha := h a List.mem_cons_self
  obtain ⟨q, hq⟩ := Int.eq_ofNat_of_zero_le ha.1
  have e : (sumR n fun p => rd y (p : Int) * sumAt (a :: l) (p : Int)) = sumR n fun p => (if p = q then a.f1 * rd y (q : Int) else 0) + rd y (p : Int) * sumAt l (p : Int) := sumR_congr fun k _ => by
   simp only [sumAt]
   by_cases c : k = q
   ·subst c; rw [if_pos (by omega), if_pos rfl, Int.mul_add, Int.mul_comm]
   ·rw [if_neg (by omega), if_neg c]; simp
  rw [e, sumR_add, sumR_one n q _ (by omega), ← wsum_at y fun x hx => h x (List.mem_cons_of_mem _ hx)]
  simp only [wsum, hq]
section
variable {P : List S52} {T : List S64} (hN : NetOk P T) {y : List Int} (hl : y.length = P.length)
include hN
theorem chY_at (y : List Int) {t : S64} (ht : t ∈ T) : chY y t = sumR P.length fun p => rd y (p : Int) * chS t (p : Int) := by
 have h := hN.trs t ht
 have e : (sumR P.length fun p => rd y (p : Int) * chS t (p : Int)) = sumR P.length fun p => rd y (p : Int) * sumAt t.f5 (p : Int) - rd y (p : Int) * sumAt t.f3 (p : Int) := sumR_congr fun k _ => by
  unfold chS; rw [Int.mul_sub]
 rw [e, sumR_sub, ← wsum_at y fun a ha => ⟨(h.2.2.1.2.1 a ha).1, (h.2.2.1.2.1 a ha).2.1⟩, ← wsum_at y fun a ha => ⟨(h.2.2.2.2.2.1 a ha).1, (h.2.2.2.2.2.1 a ha).2.1⟩]
 rfl
theorem log_zero (y : List Int) (hc : ∀ t ∈ T, chY y t = 0) : ∀ l : List S48, (∀ f ∈ l, FiOk T.length f) → (sumR P.length fun p => rd y (p : Int) * logS T l p) = 0
 | [], _ => by
  have e : (sumR P.length fun p => rd y (p : Int) * logS T [] p) = sumR P.length fun _ => 0 := sumR_congr fun k _ => by simp [logS]
  rw [e, sumR_zero]
 | f :: l, h => by
  have hf := h f List.mem_cons_self
  obtain ⟨j, hj⟩ := Int.eq_ofNat_of_zero_le hf.1
  have ht : rd_T64 T f.f1 ∈ T := by rw [hj]; exact rdTr_mem (by have := hf.2; omega)
  have e : (sumR P.length fun p => rd y (p : Int) * logS T (f :: l) p) = sumR P.length fun p => rd y (p : Int) * chS (rd_T64 T f.f1) (p : Int) + rd y (p : Int) * logS T l p := sumR_congr fun k _ => by
   simp only [logS]; rw [Int.mul_add]
  rw [e, sumR_add, ← chY_at hN y ht, hc _ ht, log_zero y hc l fun x hx => h x (List.mem_cons_of_mem _ hx)]; rfl
theorem firstC_nil (y : List Int) (hc : ∀ t ∈ T, chY y t = 0) : ∀ (l : List S48) (i : Nat), (∀ f ∈ l, FiOk T.length f) → firstC y T l i 0 (-1) = -1
 | [], _, _ => rfl
 | e :: l, i, hf => by
  have he := hf e List.mem_cons_self
  obtain ⟨j, hj⟩ := Int.eq_ofNat_of_zero_le he.1
  have h0 : chY y (rd_T64 T e.f1) = 0 := hc _ (by rw [hj]; exact rdTr_mem (by have := he.2; omega))
  simp only [firstC, h0]
  rw [Int.add_zero, if_neg (by simp)]
  exact firstC_nil y hc l (i + 1) fun f hf' => hf f (List.mem_cons_of_mem _ hf')
include hl
theorem stays_l1 (hy : Sm y) (hc : ∀ t ∈ T, chY y t = 0) {r : List S48 × List Int × List Int × Int × Int} (hr : Good P T r) (n : Nat) :
  ∀ i : Nat, P.length = i + n → Ev (fun k => u13WeighStays.l1 k y r.2.2.2.2 ((P.take i).map fun p => p.f1) (i : Int) P T r.1 r.2.1 r.2.2.1 r.2.2.2.1) true := by
 have hP7 := hN.p7
 have hlen := hr.len
 have hlm := hr.lm
 have hlw := hr.lw
 induction n with
 | succ n ih =>
  intro i hi
  refine Ev.step (fun k => ?_) (ih (i + 1) (by omega))
  simp only [u13WeighStays.l1]
  rw [if_pos (by omega), if_pos (by omega), if_pos (by simp; omega), wrap_succ (by omega), takeP_snoc (by omega)]
 | zero =>
  intro i hi
  rw [List.take_of_length_le (by omega)]
  have mt : ∀ x ∈ (P.map fun p => p.f1), -50000 ≤ x ∧ x ≤ 50000 := fun x hx => by obtain ⟨p, hp, rfl⟩ := List.mem_map.1 hx; have := hN.tok p hp; omega
  have mm : ∀ x ∈ r.2.1, -50000 ≤ x ∧ x ≤ 50000 := fun x hx => by
   obtain ⟨p, hp, rfl⟩ := List.getElem_of_mem hx
   have := hr.bd p (by omega)
   rw [rd_lt (xs := r.2.1) (by omega) (by omega)] at this
   simp only [Int.toNat_natCast] at this; omega
  have mw : ∀ x ∈ r.2.2.1, -50000 ≤ x ∧ x ≤ 50000 := fun x hx => by
   obtain ⟨p, hp, rfl⟩ := List.getElem_of_mem hx
   have := hr.bd p (by omega)
   rw [rd_lt (xs := r.2.2.1) (by omega) (by omega)] at this
   simp only [Int.toNat_natCast] at this; omega
  have d0 := dot_sum y (P.map fun p => p.f1) 0 hy (by simp; omega) mt (by omega) (by omega)
  have d1 := dot_sum y r.2.1 0 hy (by omega) mm (by omega) (by omega)
  have d2 := dot_sum y r.2.2.1 0 hy (by omega) mw (by omega) (by omega)
  have b1 : -(7 * 60000000000) ≤ sumR y.length (fun p => rd y (p : Int) * rd r.2.1 (p : Int)) ∧ sumR y.length (fun p => rd y (p : Int) * rd r.2.1 (p : Int)) ≤ 7 * 60000000000 := by
   have := sumR_bound (b := 60000000000) (m := y.length) (f := fun p => rd y (p : Int) * rd r.2.1 (p : Int)) (fun k hk => by
    have h1 := hy _ (rd_mem (xs := y) (i := (k : Int)) (by omega) (by omega))
    have h2 := mm _ (rd_mem (xs := r.2.1) (i := (k : Int)) (by omega) (by omega))
    have := prod_b (A := 1048576) (B := 50000) (x := rd y (k : Int)) (y := rd r.2.1 (k : Int)) (by omega) (by omega)
    (try dsimp only); omega)
   omega
  have b2 : -(7 * 60000000000) ≤ sumR y.length (fun p => rd y (p : Int) * rd r.2.2.1 (p : Int)) ∧ sumR y.length (fun p => rd y (p : Int) * rd r.2.2.1 (p : Int)) ≤ 7 * 60000000000 := by
   have := sumR_bound (b := 60000000000) (m := y.length) (f := fun p => rd y (p : Int) * rd r.2.2.1 (p : Int)) (fun k hk => by
    have h1 := hy _ (rd_mem (xs := y) (i := (k : Int)) (by omega) (by omega))
    have h2 := mw _ (rd_mem (xs := r.2.2.1) (i := (k : Int)) (by omega) (by omega))
    have := prod_b (A := 1048576) (B := 50000) (x := rd y (k : Int)) (y := rd r.2.2.1 (k : Int)) (by omega) (by omega)
    (try dsimp only); omega)
   omega
  have tot : sumR y.length (fun p => rd y (p : Int) * rd r.2.1 (p : Int)) + sumR y.length (fun p => rd y (p : Int) * rd r.2.2.1 (p : Int)) = sumR y.length (fun p => rd y (p : Int) * rd (P.map fun p => p.f1) (p : Int)) := by
   rw [← sumR_add]
   have e : (sumR y.length fun k => rd y (k : Int) * rd r.2.1 (k : Int) + rd y (k : Int) * rd r.2.2.1 (k : Int)) = sumR y.length fun k => rd y (k : Int) * rd (P.map fun p => p.f1) (k : Int) + rd y (k : Int) * logS T r.1 k := sumR_congr fun k hk => by
    rw [← Int.mul_add, ← Int.mul_add, hr.sum k (by omega)]
    have : rd (P.map fun p => p.f1) (k : Int) = (rd_T52 P (k : Int)).f1 := by
     rw [rd_lt (by omega) (by simp; omega), rdP_lt (by omega)]; simp
    rw [this]
   rw [e, sumR_add, show (sumR y.length fun k => rd y (k : Int) * logS T r.1 k) = 0 by rw [hl]; exact log_zero hN y hc r.1 hr.fi, Int.add_zero]
  have s0 := sum_ev (a := y) (b := P.map fun p => p.f1) (c := []) hy.i (fun x hx => by have := mt x hx; unfold I; omega) (by simp) (by omega) [] 0
  have s1 := sum_ev (a := y) (b := r.2.1) (c := r.2.2.1) hy.i (fun x hx => by have := mm x hx; unfold I; omega) (fun x hx => by have := mw x hx; unfold I; omega) (by omega) r.1 r.2.2.2.1
  have dn : dotS 0 y [] = (0, true) := by cases y <;> rfl
  have e0 : sumS y (P.map fun p => p.f1) [] = (sumR y.length (fun p => rd y (p : Int) * rd (P.map fun p => p.f1) (p : Int)), true) := by
   unfold sumS addS
   rw [d0, dn]
   simp only [if_true, Int.zero_add, Int.add_zero]
   rw [if_pos (by unfold I; omega)]
  have e1 : sumS y r.2.1 r.2.2.1 = (sumR y.length (fun p => rd y (p : Int) * rd (P.map fun p => p.f1) (p : Int)), true) := by
   unfold sumS addS
   rw [d1, d2]
   simp only [if_true, Int.zero_add]
   rw [if_pos (by unfold I; omega), tot]
  rw [e0] at s0
  rw [e1] at s1
  have hdot := dot_small y (P.map fun p => p.f1) 0 0 hy (fun x hx => by obtain ⟨p, hp, rfl⟩ := List.mem_map.1 hx; exact hN.tok p hp) (by omega) (by omega) (by omega)
  have hck := check_ev hy.i (by omega) P (T := T) (tokI hN) (by omega) (fun e => by rw [e]; exact netW hN) r.1 (by omega)
  have ec : checkR P T y r.1 = (-1, 0) := by
   have en : newS P T y = (P, T, y, (dotS 0 y (P.map fun p => p.f1)).1, (dotS 0 y (P.map fun p => p.f1)).1, true, 0) := by
    unfold newS newR; rw [if_pos hl, if_pos hdot.1]
   unfold checkR
   rw [en]
   have := check_is hy hN hl (dotS 0 y (P.map fun p => p.f1)).1 (by omega) r.1 0 0 hr.fi (by omega) (by omega) (by omega)
   rw [Int.add_zero] at this
   simp only [if_true, this, firstC_nil hN y hc r.1 0 hr.fi]
  rw [ec] at hck
  refine Ev.step (f := fun k => (weigh_Sum.f k y ([] : List (S48)) (P.map fun p => p.f1) ([] : List Int) 0).bind fun bt520 => ((weigh_Sum.f k y r.1 r.2.1 r.2.2.1 r.2.2.2.1).bind fun bt522 => ((weigh_Check.f k P T y r.1).bind fun bt524 => (if bt520.2 = true then (if bt522.2 = true then (if bt524.2 = 0 then (if bt524.1 = (-1) then (if r.2.2.2.2 = 3 then (some true) else (some (bt520.1 == bt522.1))) else (none)) else (none)) else (none)) else (none))))) (fun k => by simp only [u13WeighStays.l1]; rw [if_neg (by omega)]) ?_
  refine Ev.bind s0 ?_
  refine Ev.bind s1 ?_
  refine Ev.bind hck ?_
  simp only [if_true, beq_self_eq_true]
  refine Ev.congr (fun k => ?_) (Ev.now true)
  split <;> rfl
theorem stays_l00 (h : Int) (hh : By h) (hc : ∀ t ∈ T, chY y t = 0) (h0 : ∀ i : Nat, i < P.length → 0 ≤ rd y (i : Int)) (n : Nat) :
  ∀ i : Nat, y.length = i + n → (∀ j : Nat, j < i → rd y (j : Int) ≤ 1048576) → Ev (fun k => u13WeighStays.l0 k h y (i : Int) P T) true := by
 have hP7 := hN.p7
 have ez : wrap64 (Int.tmod h 30) = h % 30 := by rw [Int.tmod_eq_emod_of_nonneg hh.1]; exact wrap_id (by unfold I; omega)
 induction n with
 | zero =>
  intro i hi hb
  have hy : Sm y := fun x hx => by
   obtain ⟨p, hp, rfl⟩ := List.getElem_of_mem hx
   have a := h0 p (by omega)
   have b := hb p (by omega)
   rw [rd_lt (by omega) (by omega)] at a b
   simp only [Int.toNat_natCast] at a b; omega
  obtain ⟨r, hrun, hr⟩ := run_ev P T hN (h % 30) (by omega)
  refine Ev.step (f := fun k => (r09Run.f k P T (h % 30)).bind fun bt494 => (u13WeighStays.l1 k y bt494.2.2.2.2 ([] : List Int) 0 P T bt494.1 bt494.2.1 bt494.2.2.1 bt494.2.2.2.1)) (fun k => by simp only [u13WeighStays.l0, ez]; rw [if_neg (by omega)]) ?_
  refine Ev.bind hrun ?_
  exact stays_l1 hN hl hy hc hr P.length 0 (by simp)
 | succ n ih =>
  intro i hi hb
  by_cases c : rd y (i : Int) > 1048576
  ·exact Ev.step (f := fun _ => some true) (fun k => by simp only [u13WeighStays.l0]; rw [if_pos (by omega), if_pos (by omega), if_pos c]) (Ev.now _)
  ·refine Ev.step (fun k => ?_) (ih (i + 1) (by omega) (fun j hj => by
    rcases Nat.lt_succ_iff_lt_or_eq.1 hj with g | g
    ·exact hb j g
    ·rw [g]; omega))
   simp only [u13WeighStays.l0]
   rw [if_pos (by omega), if_pos (by omega), if_neg c, wrap_succ (by omega)]
end
theorem stays_j1 {P : List S52} {T : List S64} (hN : NetOk P T) (a h : Int) (ha : By a) (hh : By h) (l : List (List Int)) (b : Bool) (hb : b = false → l.length ≠ 0) (hlv : b = false → ∀ y ∈ l, y.length = P.length ∧ (∀ i : Nat, i < P.length → 0 ≤ rd y (i : Int)) ∧ ∀ t ∈ T, chY y t = 0) :
  Ev (fun k => u13WeighStays.j1 k a h l b P T) true := by
 cases b with
 | true => exact Ev.step (f := fun _ => some true) (fun k => by simp only [u13WeighStays.j1]; rfl) (Ev.now _)
 | false =>
  have h0 := hb rfl
  have wa : wrap64 a = a := wrap_id (by have := ha.1; have := ha.2; unfold I; omega)
  have em : Int.tmod a (l.length : Int) = a % (l.length : Int) := Int.tmod_eq_emod_of_nonneg ha.1
  have e0 := Int.emod_nonneg a (show (l.length : Int) ≠ 0 by omega)
  have e1 := Int.emod_lt_of_pos a (show (0 : Int) < (l.length : Int) by omega)
  obtain ⟨q, hq⟩ := Int.eq_ofNat_of_zero_le e0
  obtain ⟨g1, g2, g3⟩ := hlv rfl _ (rdL_mem (m := l) (i := q) (by omega))
  refine Ev.step (fun k => ?_) (stays_l00 hN g1 h hh g3 g2 _ 0 (by simp; rfl) (by simp))
  simp only [u13WeighStays.j1, wa, em]
  rw [if_neg (by simp), if_neg (by omega), if_pos (by omega), if_pos (by omega), hq]; rfl
theorem stays_j0 (b : Bool) (l : List Int) (a : List S83) (u h : Int) (hu : By u) (hh : By h) (hb : b = false → l.length ≤ 60) (hlb : ∀ q ∈ l, By q) (hab : ∀ x ∈ a, ActBy x) :
  Ev (fun k => u13WeighStays.j0 k u h b l a) true := by
 cases b with
 | true => exact Ev.step (f := fun k => (u13awake.f k).bind fun t278 => (some t278)) (fun k => by simp only [u13WeighStays.j0]; rfl) (Ev.bind awake_ev (Ev.now _))
 | false =>
  have hll := hb rfl
  obtain ⟨P, T, hmk, hN⟩ := make_ev l a hlb (by omega) hab
  have hP7 := hN.p7
  have hP1 := hN.p1
  have hT9 := hN.t9
  have hch := change_ev P T hN
  have hf := rfind_ev (chM P T) T.length chM_rows (chM_J hN.trs) (by omega) (by rw [chM_len]; omega)
  refine Ev.step (f := fun k => (r05Make.f k l a).bind fun bt478 => ((r12Change.f k bt478.1 bt478.2).bind fun t485 => ((r12Find.f k t485).bind fun bt488 => (if bt488.2 = 0 then (u13WeighStays.j1 k u h bt488.1 ((bt488.1.length : Int) == 0) bt478.1 bt478.2) else (u13WeighStays.j1 k u h bt488.1 true bt478.1 bt478.2))))) (fun k => by simp only [u13WeighStays.j0]; rfl) ?_
  refine Ev.bind hmk ?_
  refine Ev.bind (a := chM P T) (by unfold r12Change.f; exact Ev.bind hch (Ev.now _)) ?_
  refine Ev.bind hf ?_
  by_cases c : (findS (chM P T)).2 = 0
  ·simp only [if_pos c]
   have hx := findS_ex (chM P T) T.length chM_rows (chM_J hN.trs) c
   refine stays_j1 hN u h hu hh _ _ (fun e => by intro e2; rw [e2] at e; simp at e) (fun _ y hy => ?_)
   obtain ⟨x1, x2, _, x4⟩ := hx y hy
   rw [chM_len] at x1 x2
   refine ⟨x1, x2, fun t ht => ?_⟩
   obtain ⟨c, hc, rfl⟩ := List.getElem_of_mem ht
   have := x4 (by intro e; have := congrArg List.length e; rw [chM_len] at this; simp only [List.length_nil] at this; omega) c hc
   rw [chM_len] at this
   rw [chY_at hN y ht, ← this]
   refine sumR_congr fun k hk => ?_
   unfold chM
   rw [mk_at hk hc, rdTr_lt hc]
  ·simp only [if_neg c]
   exact stays_j1 hN u h hu hh _ true (fun e => by simp at e) (fun e => by simp at e)
theorem WeighStays : ∀ (l0 : List Int) (m0 : List S83) (a1 : Int) (a2 : Int), l0.length ≤ maxLen → (∀ q ∈ l0, (Lit.int .u8 q).wf = true) → m0.length ≤ maxLen → (∀ a ∈ m0, (Lit.int .u8 a.f0).wf = true ∧ (Lit.int .u8 a.f1).wf = true ∧ (Lit.int .u8 a.f2).wf = true ∧ (Lit.int .u8 a.f3).wf = true ∧ (Lit.int .u8 a.f4).wf = true ∧ (Lit.int .u8 a.f5).wf = true ∧ (Lit.int .u8 a.f6).wf = true) → (Lit.int .u8 a1).wf = true → (Lit.int .u8 a2).wf = true → ∃ k, u13WeighStays.f k l0 m0 a1 a2 = some true := by
 intro l a u h hl hlb ha hab hu hh
 refine Ev.rounds ?_
 have hlb' : ∀ q ∈ l, By q := fun q hq => by_of_wf (hlb q hq)
 have hab' : ∀ x ∈ a, ActBy x := fun x hx => by
  obtain ⟨h0, h1, h2, h3, h4, h5, h6⟩ := hab x hx
  exact ⟨by_of_wf h0, by_of_wf h1, by_of_wf h2, by_of_wf h3, by_of_wf h4, by_of_wf h5, by_of_wf h6⟩
 obtain ⟨b, hb, hfew⟩ := few_ev l a
 unfold u13WeighStays.f
 refine Ev.bind awake_ev ?_
 simp only [if_true, hb, Option.bind_some]
 exact stays_j0 (!b) l a u h (by_of_wf hu) (by_of_wf hh) (fun e => (hfew (by simpa using e)).1) hlb' hab'
end Go.Proofs.Ytigpmhicdmjbeaa.Pure
