/- The plain law of the statement BasisMore: a place that no transition touches is a vector by itself, and one alone; no condition. -/
import Derived.Test.YtifbflpaednfnaaPBasisMorex
import Derived.Laws.BitsLemmas
import Derived.KernelRfl
set_option linter.unusedVariables false
set_option linter.unusedSimpArgs false
namespace Go.Proofs.Ytifbflpaednfnaa.M
open Go.RowKit Go.Proofs.YtifbflpaednfnaaW.PrintWords
/-- A number of 64 bits. -/
def I (x : Int) : Prop := -9223372036854775808 ≤ x ∧ x ≤ 9223372036854775807
instance (x : Int) : Decidable (I x) := by unfold I; infer_instance
theorem wrap_id {x : Int} (h : I x) : wrap64 x = x := by unfold I at h; unfold wrap64; omega
theorem wrap_I (x : Int) : I (wrap64 x) := by unfold wrap64 I; omega
theorem wrap_add {x : Int} {n : Nat} (h0 : 0 ≤ x) (h1 : x < (n : Int)) (hn : n ≤ 9223372036854775807) : wrap64 (x + 1) = x + 1 := wrap_id (by unfold I; omega)
theorem u64 (x : Int) : IntKind.u64.wrap x = x % 18446744073709551616 := by simp [IntKind.wrap, IntKind.bits, IntKind.signed]
theorem wraps_u64 (n : Int) (h₀ : 0 ≤ n) (h₁ : n < 2 ^ 64) : IntKind.u64.wrap n = n := by rw [u64]; omega
theorem and32 (x : Int) (h₀ : 0 ≤ x) (h₁ : x < 18446744073709551616) : bits .and .u64 x 4294967295 = x % 4294967296 :=
 bits_mask .u64 64 (by decide) wraps_u64 32 (by decide) x h₀ (by omega)
/-- What a number is without its sign. -/
def ab (x : Int) : Int := if x < 0 then -x else x
theorem ab_nat (x : Int) : ab x = (x.natAbs : Int) := by unfold ab; omega
/-- A sum that is a number of 64 bits, or none. -/
def addS (a b : Int) : Int × Bool := if I (a + b) then (a + b, true) else (0, false)
/-- A product likewise. -/
def mulS (a b : Int) : Int × Bool := if I (a * b) then (a * b, true) else (0, false)
/-- A sum of products likewise, from a first sum on. -/
def dotS : Int → List Int → List Int → Int × Bool
 | s, a :: xs, b :: ys => if I (a * b) then (if I (s + a * b) then dotS (s + a * b) xs ys else (0, false)) else (0, false)
 | s, _, _ => (s, true)
theorem hi_lo {x y p0 p1 q0 q1 : Int} (hx : x = p1 * 4294967296 + p0) (hy : y = q1 * 4294967296 + q0) :
 x * y = p1 * q1 * 18446744073709551616 + (p1 * q0 + p0 * q1) * 4294967296 + p0 * q0 := by
 subst hx hy; simp only [Int.add_mul, Int.mul_add]
 have e1 : p1 * 4294967296 * (q1 * 4294967296) = p1 * q1 * 18446744073709551616 := by
  rw [Int.mul_assoc, Int.mul_left_comm 4294967296, ← Int.mul_assoc]; rfl
 have e2 : p0 * (q1 * 4294967296) = p0 * q1 * 4294967296 := by rw [Int.mul_assoc]
 have e3 : p1 * 4294967296 * q0 = p1 * q0 * 4294967296 := by rw [Int.mul_assoc, Int.mul_comm 4294967296, ← Int.mul_assoc]
 rw [e1, e2, e3]; omega
theorem mul_le32 {x y : Int} (hx0 : 0 ≤ x) (hx : x ≤ 4294967295) (hy0 : 0 ≤ y) (hy : y ≤ 4294967295) : 0 ≤ x * y ∧ x * y ≤ 18446744065119617025 := by
 refine ⟨Int.mul_nonneg hx0 hy0, ?_⟩
 have := Int.mul_le_mul hx hy hy0 (by omega)
 omega
theorem rd_lt {xs : List Int} {i : Int} (h0 : 0 ≤ i) (h1 : i < (xs.length : Int)) : rd xs i = xs[i.toNat]'(by omega) := by
 unfold rd; rw [List.getD_eq_getElem?_getD, List.getElem?_eq_getElem (by omega)]; rfl
theorem rd_mem {xs : List Int} {i : Int} (h0 : 0 ≤ i) (h1 : i < (xs.length : Int)) : rd xs i ∈ xs := by rw [rd_lt h0 h1]; exact List.getElem_mem _
end Go.Proofs.Ytifbflpaednfnaa.M

namespace Go.Proofs.Ytifbflpaednfnaa.M
open Go.RowKit Go.Proofs.YtifbflpaednfnaaW.PrintWords
/-- A number of 64 bits above the least one. -/
def J (x : Int) : Prop := -9223372036854775807 ≤ x ∧ x ≤ 9223372036854775807
theorem J.i {x : Int} (h : J x) : I x := by unfold J at h; unfold I; omega
theorem J.nat {x : Int} (h : J x) : x.natAbs ≤ 9223372036854775807 := by unfold J at h; omega
/-- The greatest common divisor of g and all of a list. -/
def gl (g : Nat) (l : List Int) : Nat := l.foldl (fun g x => Nat.gcd g x.natAbs) g
theorem gl_cons (g : Nat) (x : Int) (l : List Int) : gl g (x :: l) = gl (Nat.gcd g x.natAbs) l := rfl
theorem gl_append (g : Nat) (l m : List Int) : gl g (l ++ m) = gl (gl g l) m := by unfold gl; rw [List.foldl_append]
theorem gl_gcd (l : List Int) : ∀ g, gl g l = Nat.gcd g (gl 0 l) := by
 induction l with
 | nil => intro g; simp [gl]
 | cons x l ih => intro g; rw [gl_cons, gl_cons, ih, ih (Nat.gcd 0 _), Nat.gcd_zero_left, Nat.gcd_assoc]
theorem gl_dvd (l : List Int) : ∀ x ∈ l, (gl 0 l) ∣ x.natAbs := by
 induction l with
 | nil => intro x h; simp at h
 | cons a l ih =>
  intro x h
  rw [gl_cons, gl_gcd, Nat.gcd_zero_left]
  rcases List.mem_cons.1 h with rfl | h
  ·exact Nat.gcd_dvd_left _ _
  ·exact Nat.dvd_trans (Nat.gcd_dvd_right _ _) (ih x h)
theorem gl_le (l : List Int) (h : ∀ x ∈ l, J x) : ∀ g, g ≤ 9223372036854775807 → gl g l ≤ 9223372036854775807 := by
 induction l with
 | nil => intro g hg; exact hg
 | cons a l ih =>
  intro g hg
  rw [gl_cons]
  refine ih (fun x hx => h x (List.mem_cons_of_mem _ hx)) _ ?_
  have ha := (h a (List.mem_cons_self ..)).nat
  rcases Nat.eq_zero_or_pos g with e | e
  ·subst e; rw [Nat.gcd_zero_left]; exact ha
  ·exact Nat.le_trans (Nat.gcd_le_left _ e) hg
/-- A vector by the greatest number that all have. -/
def normS (l : List Int) : List Int := if 1 < gl 0 l then l.map (fun x => Int.tdiv x (gl 0 l : Int)) else l
theorem normS_length (l : List Int) : (normS l).length = l.length := by unfold normS; split <;> simp
theorem tdiv_J {x : Int} {g : Nat} (h : J x) : J (Int.tdiv x (g : Int)) := by
 have h1 : (Int.tdiv x (g : Int)).natAbs ≤ x.natAbs := by
  rw [Int.natAbs_tdiv]; exact Nat.div_le_self _ _
 unfold J at *; omega
theorem normS_J {l : List Int} (h : ∀ x ∈ l, J x) : ∀ x ∈ normS l, J x := by
 unfold normS
 split
 ·intro x hx
  obtain ⟨y, hy, rfl⟩ := List.mem_map.1 hx
  exact tdiv_J (h y hy)
 ·exact h
end Go.Proofs.Ytifbflpaednfnaa.M

namespace Go.Proofs.Ytifbflpaednfnaa.Pure
open Go.RowKit Go.Proofs.Ytifbflpaednfnaa.PBasisMore Go.Proofs.YtifbflpaednfnaaW.PrintWords Go.Proofs.YtifbflpaednfnaaW.PrintLast Go.Proofs.YtifbflpaednfnaaW.PrintMore Go.Proofs.Ytifbflpaednfnaa.M
/-- A byte. -/
def By (x : Int) : Prop := 0 ≤ x ∧ x ≤ 255
theorem by_of_wf {x : Int} (h : (Lit.int .u8 x).wf = true) : By x := by
 simp [Lit.wf, IntKind.min, IntKind.max, IntKind.bits, IntKind.signed] at h
 unfold By; omega
/-- Arcs that may be, of n places. -/
def ArcsOk (n : Nat) (l : List S51) : Prop := l.length ≤ 2 ∧ (∀ a ∈ l, 0 ≤ a.f0 ∧ a.f0 < (n : Int) ∧ 1 ≤ a.f1 ∧ a.f1 ≤ 4) ∧ l.Pairwise fun a b => a.f0 ≠ b.f0
/-- A transition that may be. -/
def TrOk (n : Nat) (t : S54) : Prop := (0 ≤ t.f1 ∧ t.f1 ≤ 4) ∧ (0 ≤ t.f2 ∧ t.f2 ≤ 2) ∧ ArcsOk n t.f3 ∧ ArcsOk n t.f4 ∧ ArcsOk n t.f5
/-- A net that Make makes. -/
structure NetOk (P : List S46) (T : List S54) : Prop where
 p1 : 1 ≤ P.length
 p7 : P.length ≤ 7
 t9 : T.length ≤ 9
 tok : ∀ p ∈ P, 0 ≤ p.f1 ∧ p.f1 ≤ 4
 trs : ∀ t ∈ T, TrOk P.length t
theorem rdA_lt {l : List S51} {i : Nat} (h : i < l.length) : rd_T51 l (i : Int) = l[i] := by
 unfold rd_T51; rw [Int.toNat_natCast, List.getD_eq_getElem?_getD, List.getElem?_eq_getElem h]; rfl
theorem rdA_mem {l : List S51} {i : Nat} (h : i < l.length) : rd_T51 l (i : Int) ∈ l := by rw [rdA_lt h]; exact List.getElem_mem _
theorem dropA_cons {l : List S51} {i : Nat} (h : i < l.length) : l.drop i = rd_T51 l (i : Int) :: l.drop (i + 1) := by
 rw [rdA_lt h]; exact List.drop_eq_getElem_cons h
theorem rdTr_lt {l : List S54} {i : Nat} (h : i < l.length) : rd_T54 l (i : Int) = l[i] := by
 unfold rd_T54; rw [Int.toNat_natCast, List.getD_eq_getElem?_getD, List.getElem?_eq_getElem h]; rfl
theorem rdTr_mem {l : List S54} {i : Nat} (h : i < l.length) : rd_T54 l (i : Int) ∈ l := by rw [rdTr_lt h]; exact List.getElem_mem _
theorem rdC_mem {l : List S60} {i : Nat} (h : i < l.length) : rd_T60 l (i : Int) ∈ l := by
 have : rd_T60 l (i : Int) = l[i] := by
  unfold rd_T60; rw [Int.toNat_natCast, List.getD_eq_getElem?_getD, List.getElem?_eq_getElem h]; rfl
 rw [this]; exact List.getElem_mem _
theorem wrap_succ {i : Nat} (h : i < 1000000) : wrap64 ((i : Int) + 1) = ((i + 1 : Nat) : Int) := by rw [wrap_add (n := 1000001) (by omega) (by omega) (by omega)]; rfl

/-- One more arc, if its place isn't there. -/
def putS (l : List S51) (p n : Int) : List S51 := if l.any (fun a => a.f0 == p) then l else l ++ [⟨p, n⟩]
theorem put_loop (l : List S51) (p n : Int) (hl : l.length ≤ 1000) (d : Nat) :
 ∀ i : Nat, l.length = i + d → Ev (fun k => marblerunref05_put.l0 k l p n (i : Int)) (if (l.drop i).any (fun a => a.f0 == p) then l else l ++ [⟨p, n⟩]) := by
 induction d with
 | zero =>
  intro i hi
  rw [List.drop_eq_nil_of_le (by omega)]
  exact Ev.step (f := fun _ => some (l ++ [⟨p, n⟩])) (fun k => by simp only [marblerunref05_put.l0]; rw [if_neg (by omega), if_pos (by omega)]) (Ev.now _)
 | succ d ih =>
  intro i hi
  rw [dropA_cons (by omega), List.any_cons]
  by_cases h : (rd_T51 l (i : Int)).f0 = p
  ·refine Ev.step (f := fun _ => some l) (fun k => by simp only [marblerunref05_put.l0]; rw [if_pos (by omega), if_pos (by omega), if_pos h]) ?_
   rw [if_pos (by simp [h])]; exact Ev.now _
  ·refine Ev.step (f := fun k => marblerunref05_put.l0 k l p n ((i + 1 : Nat) : Int)) (fun k => ?_) ?_
   ·simp only [marblerunref05_put.l0]; rw [if_pos (by omega), if_pos (by omega), if_neg h, wrap_add (n := l.length) (by omega) (by omega) (by omega)]; rfl
   ·have := ih (i + 1) (by omega)
    simpa [h] using this
theorem put_ev (l : List S51) (p n : Int) (hl : l.length ≤ 1000) : Ev (fun k => marblerunref05_put.f k l p n) (putS l p n) := by
 have := put_loop l p n hl l.length 0 (by simp)
 rw [List.drop_zero] at this
 exact this
theorem put_len (l : List S51) (p n : Int) : (putS l p n).length ≤ l.length + 1 := by unfold putS; split <;> simp
theorem arcs_put {m : Nat} {l : List S51} {p n : Int} (h : ArcsOk m l) (hl : l.length ≤ 1) (hp : 0 ≤ p ∧ p < (m : Int)) (hn : 1 ≤ n ∧ n ≤ 4) : ArcsOk m (putS l p n) := by
 obtain ⟨h1, h2, h3⟩ := h
 refine ⟨by have := put_len l p n; omega, fun a ha => ?_, ?_⟩
 ·unfold putS at ha
  split at ha
  ·exact h2 a ha
  ·rcases List.mem_append.1 ha with q | q
   ·exact h2 a q
   ·rw [List.mem_singleton.1 q]; exact ⟨hp.1, hp.2, hn.1, hn.2⟩
 ·unfold putS
  split
  ·exact h3
  ·rename_i hq
   refine List.pairwise_append.2 ⟨h3, List.pairwise_singleton _ _, fun a ha b hb => ?_⟩
   rw [List.mem_singleton.1 hb]
   intro e
   exact hq (List.any_eq_true.2 ⟨a, ha, by simp [e]⟩)
theorem arcs_nil (m : Nat) : ArcsOk m [] := ⟨by simp, fun a ha => by simp at ha, List.Pairwise.nil⟩
theorem str1 (x : Int) : 1 + (strOfNums [x]).size ≤ 9223372036854775807 := by show 1 + 1 ≤ _; omega
theorem str2 (x : Int) : 1 + (strOfNums [x]).size + 2 ≤ 9223372036854775807 := by show 1 + 1 + 2 ≤ _; omega
theorem tmod_by {x : Int} {n : Nat} (h : By x) (hn : 1 ≤ n) : 0 ≤ Int.tmod (wrap64 x) (n : Int) ∧ Int.tmod (wrap64 x) (n : Int) < (n : Int) := by
 unfold By at h
 rw [wrap_id (by unfold I; omega), Int.tmod_eq_emod_of_nonneg h.1]
 exact ⟨Int.emod_nonneg _ (by omega), Int.emod_lt_of_pos _ (by omega)⟩
theorem mod_by (d : Int) {n : Nat} (hn : 1 ≤ n) : 0 ≤ d % 256 % (n : Int) ∧ d % 256 % (n : Int) < (n : Int) := ⟨Int.emod_nonneg _ (by omega), Int.emod_lt_of_pos _ (by omega)⟩
/-- An act of bytes. -/
def ActBy (x : S60) : Prop := By x.f0 ∧ By x.f1 ∧ By x.f2 ∧ By x.f3 ∧ By x.f4 ∧ By x.f5 ∧ By x.f6
section
variable (l : List Int) (m : List S60) (P : List S46) (hm : ∀ a ∈ m, ActBy a) (hml : m.length ≤ 1000) (hp1 : 1 ≤ P.length) (hp7 : P.length ≤ 7) (htok : ∀ p ∈ P, 0 ≤ p.f1 ∧ p.f1 ≤ 4)
/-- What is told of the rest of the run. -/
def Rest (i : Nat) : Prop := ∀ T : List S54, T.length = i → (∀ t ∈ T, TrOk P.length t) → ∃ T', Ev (fun k => marblerunref05_Make.l1 k (P.length : Int) (i : Int) l m P T) (P, T') ∧ T'.length ≤ 9 ∧ ∀ t ∈ T', TrOk P.length t
theorem make_j6 (i : Nat) (hi : i < 9) (hrest : Rest l m P (i + 1)) (T : List S54) (hT : T.length = i) (hok : ∀ t ∈ T, TrOk P.length t) (x : S60) (hx : ActBy x) (s : ByteArray) (dl pr : Int) (hd : 0 ≤ dl ∧ dl ≤ 4) (hpr : 0 ≤ pr ∧ pr ≤ 2) (a b c : List S51)
 (ha : ArcsOk P.length a) (hb : ArcsOk P.length b) (hc : ArcsOk P.length c) :
 ∃ T', Ev (fun k => marblerunref05_Make.j6 k (P.length : Int) (i : Int) l m P T x.f0 x.f1 x.f2 x.f3 x.f4 x.f5 x.f6 s dl pr a b c) (P, T') ∧ T'.length ≤ 9 ∧ ∀ t ∈ T', TrOk P.length t := by
 have ew : wrap64 ((i : Int) + 1) = ((i + 1 : Nat) : Int) := by rw [wrap_add (n := 9) (by omega) (by omega) (by omega)]; rfl
 have nxt : ∀ q : Int, 0 ≤ q ∧ q ≤ 4 → ∃ T', Ev (fun k => marblerunref05_Make.l1 k (P.length : Int) (wrap64 ((i : Int) + 1)) l m P (T ++ [(⟨s, q, pr, a, b, c⟩ : S54)])) (P, T') ∧ T'.length ≤ 9 ∧ ∀ t ∈ T', TrOk P.length t := by
  intro q hq
  rw [ew]
  refine hrest _ (by simp [hT]) (fun t ht => ?_)
  rcases List.mem_append.1 ht with h | h
  ·exact hok t h
  ·rw [List.mem_singleton.1 h]; exact ⟨hq, hpr, ha, hb, hc⟩
 by_cases h0 : dl = 0
 ·by_cases h1 : x.f0 < 128
  ·obtain ⟨T', h, hh⟩ := nxt 1 (by omega)
   exact ⟨T', Ev.step (fun k => by simp only [marblerunref05_Make.j6]; rw [if_pos h0, if_pos h1, if_pos (by omega)]) h, hh⟩
  ·obtain ⟨T', h, hh⟩ := nxt dl hd
   exact ⟨T', Ev.step (fun k => by simp only [marblerunref05_Make.j6]; rw [if_pos h0, if_neg h1, if_pos (by omega)]) h, hh⟩
 ·obtain ⟨T', h, hh⟩ := nxt dl hd
  exact ⟨T', Ev.step (fun k => by simp only [marblerunref05_Make.j6]; rw [if_neg h0, if_pos (by omega)]) h, hh⟩
include hp1 in
theorem make_j5 (i : Nat) (hi : i < 9) (hrest : Rest l m P (i + 1)) (T : List S54) (hT : T.length = i) (hok : ∀ t ∈ T, TrOk P.length t) (x : S60) (hx : ActBy x) (s : ByteArray) (dl pr : Int) (hd : 0 ≤ dl ∧ dl ≤ 4) (hpr : 0 ≤ pr ∧ pr ≤ 2) (a b c : List S51)
 (ha : ArcsOk P.length a) (hb : ArcsOk P.length b) (hc : ArcsOk P.length c) (hcl : c.length ≤ 1) :
 ∃ T', Ev (fun k => marblerunref05_Make.j5 k (P.length : Int) (i : Int) l m P T x.f0 x.f1 x.f2 x.f3 x.f4 x.f5 x.f6 s dl pr a b c) (P, T') ∧ T'.length ≤ 9 ∧ ∀ t ∈ T', TrOk P.length t := by
 by_cases h : Int.tmod x.f6 3 > 0
 ·obtain ⟨T', h1, h2⟩ := make_j6 l m P i hi hrest T hT hok x hx s dl pr hd hpr a b (putS c (((Int.tdiv x.f6 3) % 256) % (P.length : Int)) 1) ha hb (arcs_put hc hcl (mod_by _ hp1) (by omega))
  exact ⟨T', Ev.step (fun k => by simp only [marblerunref05_Make.j5]; rw [if_pos h, if_neg (by omega)]) (Ev.bind (put_ev _ _ _ (by omega)) h1), h2⟩
 ·obtain ⟨T', h1, h2⟩ := make_j6 l m P i hi hrest T hT hok x hx s dl pr hd hpr a b c ha hb hc
  exact ⟨T', Ev.step (fun k => by simp only [marblerunref05_Make.j5]; rw [if_neg h]) h1, h2⟩
include hp1 in
theorem make_j4 (i : Nat) (hi : i < 9) (hrest : Rest l m P (i + 1)) (T : List S54) (hT : T.length = i) (hok : ∀ t ∈ T, TrOk P.length t) (x : S60) (hx : ActBy x) (s : ByteArray) (dl pr : Int) (hd : 0 ≤ dl ∧ dl ≤ 4) (hpr : 0 ≤ pr ∧ pr ≤ 2) (a b : List S51)
 (ha : ArcsOk P.length a) (hb : ArcsOk P.length b) :
 ∃ T', Ev (fun k => marblerunref05_Make.j4 k (P.length : Int) (i : Int) l m P T x.f0 x.f1 x.f2 x.f3 x.f4 x.f5 x.f6 s dl pr a b) (P, T') ∧ T'.length ≤ 9 ∧ ∀ t ∈ T', TrOk P.length t := by
 by_cases h : Int.tmod x.f5 5 > 0
 ·have hb5 : By x.f5 := hx.2.2.2.2.2.1
  have e : Int.tdiv x.f5 128 = x.f5 / 128 := Int.tdiv_eq_ediv_of_nonneg hb5.1
  obtain ⟨T', h1, h2⟩ := make_j5 l m P hp1 i hi hrest T hT hok x hx s dl pr hd hpr a b (putS [] (((Int.tdiv x.f5 5) % 256) % (P.length : Int)) (1 + ((Int.tdiv x.f5 128) % 256))) ha hb (arcs_put (arcs_nil _) (by simp) (mod_by _ hp1) (by unfold By at hb5; rw [e]; omega)) (put_len _ _ _)
  exact ⟨T', Ev.step (fun k => by simp only [marblerunref05_Make.j4]; rw [if_pos h, if_neg (by omega)]) (Ev.bind (put_ev [] _ _ (by simp)) h1), h2⟩
 ·obtain ⟨T', h1, h2⟩ := make_j5 l m P hp1 i hi hrest T hT hok x hx s dl pr hd hpr a b [] ha hb (arcs_nil _) (by simp)
  exact ⟨T', Ev.step (fun k => by simp only [marblerunref05_Make.j4]; rw [if_neg h]) h1, h2⟩
include hp1 in
theorem make_j3 (i : Nat) (hi : i < 9) (hrest : Rest l m P (i + 1)) (T : List S54) (hT : T.length = i) (hok : ∀ t ∈ T, TrOk P.length t) (x : S60) (hx : ActBy x) (s : ByteArray) (dl pr : Int) (hd : 0 ≤ dl ∧ dl ≤ 4) (hpr : 0 ≤ pr ∧ pr ≤ 2) (a : List S51)
 (ha : ArcsOk P.length a) :
 ∃ T', Ev (fun k => marblerunref05_Make.j3 k (P.length : Int) (i : Int) l m P T x.f0 x.f1 x.f2 x.f3 x.f4 x.f5 x.f6 s dl pr a) (P, T') ∧ T'.length ≤ 9 ∧ ∀ t ∈ T', TrOk P.length t := by
 by_cases h : Int.tmod x.f4 4 = 0
 ·have hb4 : By x.f4 := hx.2.2.2.2.1
  have e : Int.tdiv x.f4 64 = x.f4 / 64 := Int.tdiv_eq_ediv_of_nonneg hb4.1
  obtain ⟨T', h1, h2⟩ := make_j4 l m P hp1 i hi hrest T hT hok x hx s dl pr hd hpr a (putS [] (((Int.tdiv x.f4 4) % 256) % (P.length : Int)) (1 + ((Int.tdiv x.f4 64) % 256))) ha (arcs_put (arcs_nil _) (by simp) (mod_by _ hp1) (by unfold By at hb4; rw [e]; omega))
  exact ⟨T', Ev.step (fun k => by simp only [marblerunref05_Make.j3]; rw [if_pos h, if_neg (by omega)]) (Ev.bind (put_ev [] _ _ (by simp)) h1), h2⟩
 ·obtain ⟨T', h1, h2⟩ := make_j4 l m P hp1 i hi hrest T hT hok x hx s dl pr hd hpr a [] ha (arcs_nil _)
  exact ⟨T', Ev.step (fun k => by simp only [marblerunref05_Make.j3]; rw [if_neg h]) h1, h2⟩
include hm hp1 in
theorem make_j2 (i : Nat) (hi : i < 9) (him : i < m.length) (hrest : Rest l m P (i + 1)) (T : List S54) (hT : T.length = i) (hok : ∀ t ∈ T, TrOk P.length t) :
 ∃ T', Ev (fun k => marblerunref05_Make.j2 k (P.length : Int) (i : Int) true l m P T) (P, T') ∧ T'.length ≤ 9 ∧ ∀ t ∈ T', TrOk P.length t := by
 obtain ⟨x, hxe⟩ : ∃ x, rd_T60 m (i : Int) = x := ⟨_, rfl⟩
 have hx : ActBy x := by rw [← hxe]; exact hm _ (rdC_mem him)
 have hb0 : By x.f0 := hx.1
 have hb1 : By x.f1 := hx.2.1
 have hb2 : By x.f2 := hx.2.2.1
 have ed : wrap64 (Int.tmod x.f0 5) = x.f0 % 5 := by
  have := hb0.1
  rw [Int.tmod_eq_emod_of_nonneg hb0.1]; exact wrap_id (by unfold I; omega)
 have ep : wrap64 (Int.tmod x.f1 3) = x.f1 % 3 := by
  have := hb1.1
  rw [Int.tmod_eq_emod_of_nonneg hb1.1]; exact wrap_id (by unfold I; omega)
 have ha := arcs_put (arcs_nil P.length) (by simp) (tmod_by hb2 hp1) (n := 1 + (((Int.tdiv x.f2 64) % 256) % 2)) (by omega)
 have hal := put_len [] (Int.tmod (wrap64 x.f2) (P.length : Int)) (1 + (((Int.tdiv x.f2 64) % 256) % 2))
 by_cases h : Int.tmod x.f3 3 = 0
 ·obtain ⟨T', h1, h2⟩ := make_j3 l m P hp1 i hi hrest T hT hok x hx ((((⟨#[116]⟩ : ByteArray) ++ (strOfNums ([(wrap64 (48 + (i : Int))) % 256] : List Int))) ++ (⟨#[46, 120]⟩ : ByteArray))) (wrap64 (Int.tmod x.f0 5)) (wrap64 (Int.tmod x.f1 3)) (by rw [ed]; omega) (by rw [ep]; omega) _ (arcs_put ha hal (mod_by (Int.tdiv x.f3 3) hp1) (show (1 : Int) ≤ 1 ∧ (1 : Int) ≤ 4 by omega))
  refine ⟨T', Ev.step (fun k => ?_) (Ev.bind (f := fun k t197 => (marblerunref05_put.f k t197 (((Int.tdiv x.f3 3) % 256) % (P.length : Int)) 1).bind fun t200 => marblerunref05_Make.j3 k (P.length : Int) (i : Int) l m P T x.f0 x.f1 x.f2 x.f3 x.f4 x.f5 x.f6 ((((⟨#[116]⟩ : ByteArray) ++ (strOfNums ([(wrap64 (48 + (i : Int))) % 256] : List Int))) ++ (⟨#[46, 120]⟩ : ByteArray))) (wrap64 (Int.tmod x.f0 5)) (wrap64 (Int.tmod x.f1 3)) t200) (put_ev [] (Int.tmod (wrap64 x.f2) (P.length : Int)) (1 + (((Int.tdiv x.f2 64) % 256) % 2)) (by simp)) (Ev.bind (put_ev _ _ _ (by have := hal; simp only [List.length_nil] at this; omega)) h1)), h2⟩
  simp only [marblerunref05_Make.j2, hxe, if_true]
  rw [if_pos (by omega), if_pos (by omega)]
  simp only [Option.bind_some]
  rw [if_pos (str1 _), if_pos (str2 _), if_neg (by omega)]
  simp only [if_pos h]
 ·obtain ⟨T', h1, h2⟩ := make_j3 l m P hp1 i hi hrest T hT hok x hx ((((⟨#[116]⟩ : ByteArray) ++ (strOfNums ([(wrap64 (48 + (i : Int))) % 256] : List Int))) ++ (⟨#[46, 120]⟩ : ByteArray))) (wrap64 (Int.tmod x.f0 5)) (wrap64 (Int.tmod x.f1 3)) (by rw [ed]; omega) (by rw [ep]; omega) _ ha
  refine ⟨T', Ev.step (fun k => ?_) (Ev.bind (f := fun k t197 => marblerunref05_Make.j3 k (P.length : Int) (i : Int) l m P T x.f0 x.f1 x.f2 x.f3 x.f4 x.f5 x.f6 ((((⟨#[116]⟩ : ByteArray) ++ (strOfNums ([(wrap64 (48 + (i : Int))) % 256] : List Int))) ++ (⟨#[46, 120]⟩ : ByteArray))) (wrap64 (Int.tmod x.f0 5)) (wrap64 (Int.tmod x.f1 3)) t197) (put_ev [] (Int.tmod (wrap64 x.f2) (P.length : Int)) (1 + (((Int.tdiv x.f2 64) % 256) % 2)) (by simp)) h1), h2⟩
  simp only [marblerunref05_Make.j2, hxe, if_true]
  rw [if_pos (by omega), if_pos (by omega)]
  simp only [Option.bind_some]
  rw [if_pos (str1 _), if_pos (str2 _), if_neg (by omega)]
  simp only [if_neg h]
include hm hp1 in
theorem make_l1 (d : Nat) : ∀ i : Nat, i ≤ 9 → i ≤ m.length → min 9 m.length = i + d → Rest l m P i := by
 induction d with
 | zero =>
  intro i hi him hd T hT hok
  refine ⟨T, ?_, by omega, hok⟩
  by_cases h : (i : Int) < (m.length : Int)
  ·have h9 : ¬ ((i : Int) < 9) := by omega
   refine Ev.step (f := fun k => marblerunref05_Make.j2 k (P.length : Int) (i : Int) (decide ((i : Int) < 9)) l m P T) (fun k => by simp only [marblerunref05_Make.l1]; rw [if_pos h]) ?_
   rw [decide_eq_false h9]
   exact Ev.step (f := fun _ => some (P, T)) (fun k => by simp only [marblerunref05_Make.j2]; rw [if_neg (by simp)]) (Ev.now _)
  ·refine Ev.step (f := fun k => marblerunref05_Make.j2 k (P.length : Int) (i : Int) false l m P T) (fun k => by simp only [marblerunref05_Make.l1]; rw [if_neg h]) ?_
   exact Ev.step (f := fun _ => some (P, T)) (fun k => by simp only [marblerunref05_Make.j2]; rw [if_neg (by simp)]) (Ev.now _)
 | succ d ih =>
  intro i hi him hd T hT hok
  obtain ⟨T', h1, h2⟩ := make_j2 l m P hm hp1 i (by omega) (by omega) (ih (i + 1) (by omega) (by omega) (by omega)) T hT hok
  refine ⟨T', Ev.step (fun k => ?_) h1, h2⟩
  simp only [marblerunref05_Make.l1]
  rw [if_pos (by omega), decide_eq_true (show (i : Int) < 9 by omega)]
end
theorem make_l0 (l : List Int) (m : List S60) (hl : ∀ q ∈ l, By q) (hll : l.length ≤ 1000) (hm : ∀ a ∈ m, ActBy a) (d : Nat) :
 ∀ (i : Nat) (P : List S46), 1 + l.length % 7 = i + d → P.length = i → (∀ p ∈ P, 0 ≤ p.f1 ∧ p.f1 ≤ 4) → ∃ P' T', Ev (fun k => marblerunref05_Make.l0 k (i : Int) l m P) (P', T') ∧ NetOk P' T' := by
 induction d with
 | zero =>
  intro i P hi hP htok
  obtain ⟨T', h1, h2, h3⟩ := make_l1 l m P hm (by omega) (min 9 m.length) 0 (by omega) (by omega) (by omega) [] rfl (fun t ht => by simp at ht)
  refine ⟨P, T', Ev.step (fun k => ?_) h1, by omega, by omega, h2, htok, h3⟩
  simp only [marblerunref05_Make.l0]
  rw [if_neg (by omega)]
  rfl
 | succ d ih =>
  intro i P hi hP htok
  have ew : wrap64 ((i : Int) + 1) = ((i + 1 : Nat) : Int) := by rw [wrap_add (n := 9) (by omega) (by omega) (by omega)]; rfl
  have nxt : ∀ (s : ByteArray) (q : Int), 0 ≤ q ∧ q ≤ 4 → ∃ P' T', Ev (fun k => marblerunref05_Make.l0 k (wrap64 ((i : Int) + 1)) l m (P ++ [(⟨s, q⟩ : S46)])) (P', T') ∧ NetOk P' T' := by
   intro s q hq
   rw [ew]
   refine ih (i + 1) _ (by omega) (by simp [hP]) (fun p hp => ?_)
   rcases List.mem_append.1 hp with h | h
   ·exact htok p h
   ·rw [List.mem_singleton.1 h]; exact hq
  by_cases h : (i : Int) < (l.length : Int)
  ·have hb : By (rd l (i : Int)) := hl _ (rd_mem (by omega) h)
   have e : wrap64 (Int.tmod (rd l (i : Int)) 5) = rd l (i : Int) % 5 := by
    have := hb.1
    rw [Int.tmod_eq_emod_of_nonneg hb.1]; exact wrap_id (by unfold I; omega)
   obtain ⟨P', T', h1, h2⟩ := nxt ((⟨#[112]⟩ : ByteArray) ++ (strOfNums ([(wrap64 (97 + (i : Int))) % 256] : List Int))) (wrap64 (Int.tmod (rd l (i : Int)) 5)) (by rw [e]; omega)
   refine ⟨P', T', Ev.step (fun k => ?_) h1, h2⟩
   simp only [marblerunref05_Make.l0]
   rw [if_pos (by omega), if_pos h, if_pos (by omega)]
   simp only [Option.bind_some]
   rw [if_pos (str1 _), if_pos (by omega)]
  ·obtain ⟨P', T', h1, h2⟩ := nxt ((⟨#[112]⟩ : ByteArray) ++ (strOfNums ([(wrap64 (97 + (i : Int))) % 256] : List Int))) 0 (by omega)
   refine ⟨P', T', Ev.step (fun k => ?_) h1, h2⟩
   simp only [marblerunref05_Make.l0]
   rw [if_pos (by omega), if_neg h]
   simp only [Option.bind_some]
   rw [if_pos (str1 _), if_pos (by omega)]
/-- Make answers a net that may be. -/
theorem make_ev (l : List Int) (m : List S60) (hl : ∀ q ∈ l, By q) (hll : l.length ≤ 1000) (hm : ∀ a ∈ m, ActBy a) : ∃ P T, Ev (fun k => marblerunref05_Make.f k l m) (P, T) ∧ NetOk P T := by
 obtain ⟨P, T, h1, h2⟩ := make_l0 l m hl hll hm (1 + l.length % 7) 0 [] (by omega) rfl (fun p hp => by simp at hp)
 exact ⟨P, T, h1, h2⟩

/-- What arcs bring of a place. -/
def sumAt : List S51 → Int → Int
 | [], _ => 0
 | a :: l, p => (if a.f0 = p then a.f1 else 0) + sumAt l p
/-- What a transition changes on a place. -/
def chS (t : S54) (p : Int) : Int := sumAt t.f5 p - sumAt t.f3 p
/-- A matrix by a function. -/
def mk (n m : Nat) (f : Nat → Nat → Int) : List (List Int) := (List.range n).map fun p => (List.range m).map (f p)
/-- A net's matrix. -/
def chM (P : List S46) (T : List S54) : List (List Int) := mk P.length T.length fun p t => chS (rd_T54 T (t : Int)) (p : Int)
theorem mk_length (n m : Nat) (f : Nat → Nat → Int) : (mk n m f).length = n := by simp [mk]
theorem mk_congr {n m : Nat} {f g : Nat → Nat → Int} (h : ∀ p t, p < n → t < m → f p t = g p t) : mk n m f = mk n m g := by
 unfold mk
 refine List.map_congr_left fun p hp => List.map_congr_left fun t ht => ?_
 exact h p t (by simpa using hp) (by simpa using ht)
theorem mk_row {n m : Nat} {f : Nat → Nat → Int} {p : Nat} (h : p < n) : rd_L1 (mk n m f) (p : Int) = (List.range m).map (f p) := by
 unfold rd_L1 mk; rw [Int.toNat_natCast, List.getD_eq_getElem?_getD, List.getElem?_map, List.getElem?_range h]; rfl
theorem mk_rowlen {n m : Nat} {f : Nat → Nat → Int} {p : Nat} (h : p < n) : (rd_L1 (mk n m f) (p : Int)).length = m := by rw [mk_row h]; simp
theorem mk_at {n m : Nat} {f : Nat → Nat → Int} {p t : Nat} (h : p < n) (ht : t < m) : rd (rd_L1 (mk n m f) (p : Int)) (t : Int) = f p t := by
 rw [mk_row h]; unfold rd; rw [Int.toNat_natCast, List.getD_eq_getElem?_getD, List.getElem?_map, List.getElem?_range ht]; rfl
theorem mk_rows {n m : Nat} {f : Nat → Nat → Int} : ∀ r ∈ mk n m f, r.length = m := by
 intro r hr; obtain ⟨p, _, rfl⟩ := List.mem_map.1 hr; simp
theorem mk_set {n m : Nat} {f : Nat → Nat → Int} {p t : Nat} (h : p < n) (ht : t < m) (v : Int) :
 (mk n m f).set p ((rd_L1 (mk n m f) (p : Int)).set t v) = mk n m fun p' t' => if t' = t then (if p' = p then v else f p' t') else f p' t' := by
 rw [mk_row h]
 unfold mk
 refine List.ext_getElem (by simp) fun i h1 h2 => ?_
 simp only [List.length_set, List.length_map, List.length_range] at h1
 rw [List.getElem_set]
 by_cases e : p = i
 ·subst e
  rw [if_pos rfl, List.getElem_map, List.getElem_range]
  refine List.ext_getElem (by simp) fun j g1 g2 => ?_
  simp only [List.length_set, List.length_map, List.length_range] at g1
  rw [List.getElem_set]
  by_cases e2 : t = j
  ·subst e2; simp
  ·rw [if_neg e2]; simp [show ¬ j = t from fun x => e2 x.symm]
 ·rw [if_neg e]
  simp only [List.getElem_map, List.getElem_range]
  refine List.map_congr_left fun j hj => ?_
  simp [show ¬ i = p from fun x => e x.symm]
theorem sumAt_bound {n : Nat} {l : List S51} (h : ∀ a ∈ l, 0 ≤ a.f0 ∧ a.f0 < (n : Int) ∧ 1 ≤ a.f1 ∧ a.f1 ≤ 4) (p : Int) : 0 ≤ sumAt l p ∧ sumAt l p ≤ 4 * (l.length : Int) := by
 induction l with
 | nil => simp [sumAt]
 | cons a l ih =>
  have h1 := ih fun x hx => h x (List.mem_cons_of_mem _ hx)
  have h2 := h a List.mem_cons_self
  unfold sumAt
  rw [List.length_cons]
  split <;> omega
theorem chS_bound {n : Nat} {t : S54} (h : TrOk n t) (p : Int) : -8 ≤ chS t p ∧ chS t p ≤ 8 := by
 have h3 := sumAt_bound h.2.2.1.2.1 p
 have h5 := sumAt_bound h.2.2.2.2.2.1 p
 have l3 := h.2.2.1.1
 have l5 := h.2.2.2.2.1
 unfold chS; omega
section
variable (T : List S54) (n : Nat) (hT : T.length ≤ 9) (hok : ∀ t ∈ T, TrOk n t)
theorem of_l3 (f : Nat → Nat → Int) (t : Nat) (ht : t < T.length) (l : List S51) (hl : ∀ a ∈ l, 0 ≤ a.f0 ∧ a.f0 < (n : Int) ∧ 1 ≤ a.f1 ∧ a.f1 ≤ 4) (hll : l.length ≤ 1000) (u v w : Int) (r : List (List Int)) (d : Nat) :
 ∀ (i : Nat) (f : Nat → Nat → Int), l.length = i + d → (∀ p t, -100 - 4 * (i : Int) ≤ f p t ∧ f p t ≤ 100 + 4 * (i : Int)) →
 Ev (fun k => matrix_Of.l1 k (mk n T.length fun p' t' => if t' = t then f p' t' + sumAt (l.drop i) p' else f p' t') T u (wrap64 (v + 1))) r →
 Ev (fun k => matrix_Of.l3 k (mk n T.length f) (t : Int) T u v l (l.length : Int) (i : Int)) r := by
 induction d with
 | zero =>
  intro i f hi hf hend
  rw [List.drop_eq_nil_of_le (by omega)] at hend
  have e : (mk n T.length fun p' t' => if t' = t then f p' t' + sumAt [] p' else f p' t') = mk n T.length f := mk_congr fun p q _ _ => by simp [sumAt]
  rw [e] at hend
  exact Ev.step (fun k => by simp only [matrix_Of.l3]; rw [if_neg (by omega)]) hend
 | succ d ih =>
  intro i f hi hf hend
  have ha := hl _ (rdA_mem (l := l) (i := i) (by omega))
  obtain ⟨a, hae⟩ : ∃ a, rd_T51 l (i : Int) = a := ⟨_, rfl⟩
  rw [hae] at ha
  obtain ⟨q, hq⟩ := Int.eq_ofNat_of_zero_le ha.1
  have hqn : q < n := by omega
  have ew : wrap64 ((i : Int) + 1) = ((i + 1 : Nat) : Int) := by rw [wrap_add (n := l.length) (by omega) (by omega) (by omega)]; rfl
  refine Ev.step (f := fun k => matrix_Of.l3 k (mk n T.length fun p' t' => if t' = t then (if p' = q then f q t + a.f1 else f p' t') else f p' t') (t : Int) T u v l (l.length : Int) ((i + 1 : Nat) : Int)) (fun k => ?_) ?_
  ·simp only [matrix_Of.l3, hae, hq]
   rw [if_pos (by omega), if_pos (by omega), if_pos (by omega), if_pos (by omega), if_pos (by rw [mk_length]; omega), if_pos (by omega), if_pos (by rw [mk_rowlen hqn]; omega), mk_at hqn ht, wrap_id (x := f q t + a.f1) (by have := hf q t; unfold I; omega), ew, Int.toNat_natCast, Int.toNat_natCast, mk_set hqn ht]
  ·refine ih (i + 1) _ (by omega) (fun p' t' => ?_) ?_
   ·have := hf p' t'
    have := hf q t
    (try dsimp only)
    split
    ·split <;> omega
    ·omega
   ·have e : (mk n T.length fun p' t' => if t' = t then (if t' = t then (if p' = q then f q t + a.f1 else f p' t') else f p' t') + sumAt (l.drop (i + 1)) p' else (if t' = t then (if p' = q then f q t + a.f1 else f p' t') else f p' t')) = mk n T.length fun p' t' => if t' = t then f p' t' + sumAt (l.drop i) p' else f p' t' := by
     refine mk_congr fun p' t' _ _ => ?_
     rw [dropA_cons (l := l) (i := i) (by omega), hae]
     by_cases h1 : t' = t
     ·subst h1
      simp only [if_true, sumAt, hq]
      by_cases h2 : p' = q
      ·subst h2; simp only [if_true]; omega
      ·rw [if_neg h2, if_neg (by omega)]; omega
     ·simp only [if_neg h1]
    rw [e]; exact hend
theorem of_l2 (f : Nat → Nat → Int) (t : Nat) (ht : t < T.length) (l : List S51) (hl : ∀ a ∈ l, 0 ≤ a.f0 ∧ a.f0 < (n : Int) ∧ 1 ≤ a.f1 ∧ a.f1 ≤ 4) (hll : l.length ≤ 1000) (u v w : Int) (s : ByteArray) (b1 b2 : Int) (l3 l4 l5 : List S51) (r : List (List Int)) (d : Nat) :
 ∀ (i : Nat) (f : Nat → Nat → Int), l.length = i + d → (∀ p t, -50 - 4 * (i : Int) ≤ f p t ∧ f p t ≤ 50 + 4 * (i : Int)) →
 Ev (fun k => matrix_Of.l3 k (mk n T.length fun p' t' => if t' = t then f p' t' - sumAt (l.drop i) p' else f p' t') (t : Int) T u v l5 (l5.length : Int) 0) r →
 Ev (fun k => matrix_Of.l2 k (mk n T.length f) (t : Int) T u v l (l.length : Int) (i : Int) s b1 b2 l3 l4 l5) r := by
 induction d with
 | zero =>
  intro i f hi hf hend
  rw [List.drop_eq_nil_of_le (by omega)] at hend
  have e : (mk n T.length fun p' t' => if t' = t then f p' t' - sumAt [] p' else f p' t') = mk n T.length f := mk_congr fun p q _ _ => by simp [sumAt]
  rw [e] at hend
  exact Ev.step (fun k => by simp only [matrix_Of.l2]; rw [if_neg (by omega)]) hend
 | succ d ih =>
  intro i f hi hf hend
  have ha := hl _ (rdA_mem (l := l) (i := i) (by omega))
  obtain ⟨a, hae⟩ : ∃ a, rd_T51 l (i : Int) = a := ⟨_, rfl⟩
  rw [hae] at ha
  obtain ⟨q, hq⟩ := Int.eq_ofNat_of_zero_le ha.1
  have hqn : q < n := by omega
  have ew : wrap64 ((i : Int) + 1) = ((i + 1 : Nat) : Int) := by rw [wrap_add (n := l.length) (by omega) (by omega) (by omega)]; rfl
  refine Ev.step (f := fun k => matrix_Of.l2 k (mk n T.length fun p' t' => if t' = t then (if p' = q then f q t - a.f1 else f p' t') else f p' t') (t : Int) T u v l (l.length : Int) ((i + 1 : Nat) : Int) s b1 b2 l3 l4 l5) (fun k => ?_) ?_
  ·simp only [matrix_Of.l2, hae, hq]
   rw [if_pos (by omega), if_pos (by omega), if_pos (by omega), if_pos (by omega), if_pos (by rw [mk_length]; omega), if_pos (by omega), if_pos (by rw [mk_rowlen hqn]; omega), mk_at hqn ht, wrap_id (x := f q t - a.f1) (by have := hf q t; unfold I; omega), ew, Int.toNat_natCast, Int.toNat_natCast, mk_set hqn ht]
  ·refine ih (i + 1) _ (by omega) (fun p' t' => ?_) ?_
   ·have := hf p' t'
    have := hf q t
    (try dsimp only)
    split
    ·split <;> omega
    ·omega
   ·have e : (mk n T.length fun p' t' => if t' = t then (if t' = t then (if p' = q then f q t - a.f1 else f p' t') else f p' t') - sumAt (l.drop (i + 1)) p' else (if t' = t then (if p' = q then f q t - a.f1 else f p' t') else f p' t')) = mk n T.length fun p' t' => if t' = t then f p' t' - sumAt (l.drop i) p' else f p' t' := by
     refine mk_congr fun p' t' _ _ => ?_
     rw [dropA_cons (l := l) (i := i) (by omega), hae]
     by_cases h1 : t' = t
     ·subst h1
      simp only [if_true, sumAt, hq]
      by_cases h2 : p' = q
      ·subst h2; simp only [if_true]; omega
      ·rw [if_neg h2, if_neg (by omega)]; omega
     ·simp only [if_neg h1]
    rw [e]; exact hend
include hT hok in
theorem of_l1 (d : Nat) : ∀ i : Nat, T.length = i + d → Ev (fun k => matrix_Of.l1 k (mk n T.length fun p t => if t < i then chS (rd_T54 T (t : Int)) (p : Int) else 0) T (T.length : Int) (i : Int)) (mk n T.length fun p t => chS (rd_T54 T (t : Int)) (p : Int)) := by
 induction d with
 | zero =>
  intro i hi
  have e : (mk n T.length fun p t => if t < i then chS (rd_T54 T (t : Int)) (p : Int) else 0) = mk n T.length fun p t => chS (rd_T54 T (t : Int)) (p : Int) := mk_congr fun p t _ ht => by rw [if_pos (by omega)]
  rw [e]
  exact Ev.step (f := fun _ => some _) (fun k => by simp only [matrix_Of.l1]; rw [if_neg (by omega)]) (Ev.now _)
 | succ d ih =>
  intro i hi
  have hmem := rdTr_mem (l := T) (i := i) (by omega)
  have hk := hok _ hmem
  have ew : wrap64 ((i : Int) + 1) = ((i + 1 : Nat) : Int) := by rw [wrap_add (n := T.length) (by omega) (by omega) (by omega)]; rfl
  have l3 := hk.2.2.1.1
  have l5 := hk.2.2.2.2.1
  refine Ev.step (f := fun k => matrix_Of.l2 k (mk n T.length fun p t => if t < i then chS (rd_T54 T (t : Int)) (p : Int) else 0) (i : Int) T (T.length : Int) (i : Int) (rd_T54 T (i : Int)).f3 ((rd_T54 T (i : Int)).f3.length : Int) ((0 : Nat) : Int) (rd_T54 T (i : Int)).f0 (rd_T54 T (i : Int)).f1 (rd_T54 T (i : Int)).f2 (rd_T54 T (i : Int)).f3 (rd_T54 T (i : Int)).f4 (rd_T54 T (i : Int)).f5) (fun k => by simp only [matrix_Of.l1]; rw [if_pos (by omega), if_pos (by omega), if_pos (by omega)]; rfl) (of_l2 T n (fun _ _ => 0) i (by omega) (rd_T54 T (i : Int)).f3 hk.2.2.1.2.1 (by omega) (T.length : Int) (i : Int) 0 _ _ _ _ _ _ _ (rd_T54 T (i : Int)).f3.length 0 (fun p t => if t < i then chS (rd_T54 T (t : Int)) (p : Int) else 0) (by simp) (fun p t => ?_) (of_l3 T n (fun _ _ => 0) i (by omega) (rd_T54 T (i : Int)).f5 hk.2.2.2.2.2.1 (by omega) (T.length : Int) (i : Int) 0 _ (rd_T54 T (i : Int)).f5.length 0 _ (by simp) (fun p t => ?_) ?_))
  ·(try dsimp only)
   split
   ·have := chS_bound (hok _ (rdTr_mem (l := T) (i := t) (by omega))) (p : Int); omega
   ·omega
  ·have hs := sumAt_bound hk.2.2.1.2.1 (p : Int)
   (try dsimp only)
   rw [List.drop_zero]
   by_cases h1 : t = i
   ·rw [if_pos h1, if_neg (by omega)]; omega
   ·rw [if_neg h1]
    split
    ·have := chS_bound (hok _ (rdTr_mem (l := T) (i := t) (by omega))) (p : Int); omega
    ·omega
  ·rw [ew]
   have e : (mk n T.length fun p' t' => if t' = i then (if t' = i then (if t' < i then chS (rd_T54 T (t' : Int)) (p' : Int) else 0) - sumAt ((rd_T54 T (i : Int)).f3.drop 0) (p' : Int) else (if t' < i then chS (rd_T54 T (t' : Int)) (p' : Int) else 0)) + sumAt ((rd_T54 T (i : Int)).f5.drop 0) (p' : Int) else (if t' = i then (if t' < i then chS (rd_T54 T (t' : Int)) (p' : Int) else 0) - sumAt ((rd_T54 T (i : Int)).f3.drop 0) (p' : Int) else (if t' < i then chS (rd_T54 T (t' : Int)) (p' : Int) else 0))) = mk n T.length fun p t => if t < i + 1 then chS (rd_T54 T (t : Int)) (p : Int) else 0 := by
    refine mk_congr fun p t _ _ => ?_
    by_cases h1 : t = i
    ·subst h1
     rw [if_pos rfl, if_pos rfl, if_neg (by omega), if_pos (by omega), List.drop_zero, List.drop_zero]; unfold chS; omega
    ·rw [if_neg h1, if_neg h1]
     by_cases h2 : t < i
     ·rw [if_pos h2, if_pos (by omega)]
     ·rw [if_neg h2, if_neg (by omega)]
   rw [e]
   exact ih (i + 1) (by omega)
include hT hok in
theorem of_l0 (P : List S46) (hn : P.length = n) (hn7 : n ≤ 1000) (d : Nat) : ∀ i : Nat, n = i + d → Ev (fun k => matrix_Of.l0 k (List.replicate i (List.replicate T.length 0) ++ List.replicate d []) (n : Int) (i : Int) P T) (mk n T.length fun p t => chS (rd_T54 T (t : Int)) (p : Int)) := by
 induction d with
 | zero =>
  intro i hi
  have e : List.replicate i (List.replicate T.length 0) ++ List.replicate 0 [] = mk n T.length fun p t => if t < 0 then chS (rd_T54 T (t : Int)) (p : Int) else 0 := by
   rw [List.replicate_zero, List.append_nil]
   unfold mk
   refine List.ext_getElem (by simp; omega) fun j h1 h2 => ?_
   rw [List.getElem_replicate, List.getElem_map]
   refine List.ext_getElem (by simp) fun q g1 g2 => ?_
   simp
  rw [e]
  refine Ev.step (fun k => ?_) (of_l1 T n hT hok T.length 0 (by simp))
  simp only [matrix_Of.l0]
  rw [if_neg (by omega)]
  rfl
 | succ d ih =>
  intro i hi
  have ew : wrap64 ((i : Int) + 1) = ((i + 1 : Nat) : Int) := by rw [wrap_add (n := n) (by omega) (by omega) (by omega)]; rfl
  refine Ev.step (fun k => ?_) (ih (i + 1) (by omega))
  simp only [matrix_Of.l0]
  rw [if_pos (by omega), if_pos (by omega), if_pos (by omega), if_pos (by omega), if_pos (by simp; omega), ew, Int.toNat_natCast, Int.toNat_natCast]
  congr 1
  rw [List.set_append_right _ _ (by simp), List.length_replicate, Nat.sub_self, List.replicate_succ, List.set_cons_zero, List.replicate_succ', List.append_assoc]
  rfl
end
theorem of_ev' (P : List S46) (T : List S54) (h7 : P.length ≤ 1000) (h9 : T.length ≤ 9) (hok : ∀ t ∈ T, TrOk P.length t) : Ev (fun k => matrix_Of.f k P T) (chM P T) := by
 have := of_l0 T P.length h9 hok P rfl (by omega) P.length 0 (by simp)
 unfold matrix_Of.f
 simp only [if_pos (show (0 : Int) ≤ (P.length : Int) by omega), if_pos (show ((P.length : Int)).toNat ≤ 11728124029610 by omega), Option.bind_some]
 simp only [Int.toNat_natCast, List.length_replicate]
 unfold chM
 simpa using this
theorem chM_rows {P : List S46} {T : List S54} : ∀ r ∈ chM P T, r.length = T.length := mk_rows
theorem chM_J {P : List S46} {T : List S54} {n : Nat} (hok : ∀ t ∈ T, TrOk n t) : ∀ r ∈ chM P T, ∀ x ∈ r, J x := by
 intro r hr x hx
 obtain ⟨p, _, rfl⟩ := List.mem_map.1 hr
 obtain ⟨t, ht, rfl⟩ := List.mem_map.1 hx
 have := chS_bound (hok _ (rdTr_mem (l := T) (i := t) (by simpa using ht))) (p : Int)
 change J (chS (rd_T54 T (t : Int)) (p : Int))
 unfold J; omega
theorem chM_len (P : List S46) (T : List S54) : (chM P T).length = P.length := mk_length _ _ _

theorem size_is {a : Int} (h : I a) : whole_size.f a = some (ab a) := by
 unfold I at h
 unfold whole_size.f ab
 simp only [u64]
 split
 ·rw [show (-(a % 18446744073709551616)) % 18446744073709551616 = -a by omega]
 ·rw [show a % 18446744073709551616 = a by omega]

theorem mul64_is {x y : Int} (hx0 : 0 ≤ x) (hx : x < 18446744073709551616) (hy0 : 0 ≤ y) (hy : y < 18446744073709551616) :
 bits_Mul64.f x y = some (x * y / 18446744073709551616, x * y % 18446744073709551616) := by
 unfold bits_Mul64.f
 rw [and32 y hy0 hy, and32 x hx0 hx]
 obtain ⟨x1, hx1⟩ : ∃ z, z = x / 4294967296 := ⟨_, rfl⟩
 obtain ⟨x0, hx0'⟩ : ∃ z, z = x % 4294967296 := ⟨_, rfl⟩
 obtain ⟨y1, hy1⟩ : ∃ z, z = y / 4294967296 := ⟨_, rfl⟩
 obtain ⟨y0, hy0'⟩ : ∃ z, z = y % 4294967296 := ⟨_, rfl⟩
 rw [← hx1, ← hx0', ← hy1, ← hy0']
 have e := hi_lo (x := x) (y := y) (p0 := x0) (p1 := x1) (q0 := y0) (q1 := y1) (by omega) (by omega)
 have b11 := mul_le32 (x := x1) (y := y1) (by omega) (by omega) (by omega) (by omega)
 have b10 := mul_le32 (x := x1) (y := y0) (by omega) (by omega) (by omega) (by omega)
 have b01 := mul_le32 (x := x0) (y := y1) (by omega) (by omega) (by omega) (by omega)
 have b00 := mul_le32 (x := x0) (y := y0) (by omega) (by omega) (by omega) (by omega)
 rw [e]
 generalize x1 * y1 = p11 at *
 generalize x1 * y0 = p10 at *
 generalize x0 * y1 = p01 at *
 generalize x0 * y0 = p00 at *
 simp only [u64]
 have w11 : p11 % 18446744073709551616 = p11 := by omega
 have w10 : p10 % 18446744073709551616 = p10 := by omega
 have w01 : p01 % 18446744073709551616 = p01 := by omega
 have w00 : p00 % 18446744073709551616 = p00 := by omega
 rw [w11, w10, w01, w00]
 obtain ⟨t, ht⟩ : ∃ z, z = p10 + p00 / 4294967296 := ⟨_, rfl⟩
 have wt : (p10 + p00 / 4294967296) % 18446744073709551616 = t := by omega
 rw [wt, and32 t (by omega) (by omega)]
 congr 2
 omega
theorem mul_ab (a b : Int) : ab a * ab b = if (decide (a < 0)) = (decide (b < 0)) then a * b else -(a * b) := by
 unfold ab
 by_cases ha : a < 0 <;> by_cases hb : b < 0 <;> simp [ha, hb, Int.neg_mul, Int.mul_neg]
theorem ab_le {a : Int} (h : I a) : 0 ≤ ab a ∧ ab a ≤ 9223372036854775808 := by unfold I at h; unfold ab; omega
theorem mul_ev {a b : Int} (ha : I a) (hb : I b) : Ev (fun k => whole_Mul.f k a b) (mulS a b) := by
 have hp0 := ab_le ha
 have hq0 := ab_le hb
 have hpn : 0 ≤ ab a * ab b := Int.mul_nonneg hp0.1 hq0.1
 have hm := mul_ab a b
 refine Ev.of (k := 3) (whole_Mul.mono a b) ?_
 unfold whole_Mul.f
 rw [size_is ha, size_is hb]
 simp only [Option.bind_some]
 rw [mul64_is hp0.1 (by omega) hq0.1 (by omega)]
 simp only [Option.bind_some]
 generalize hP : ab a * ab b = P at *
 have key : ∀ neg : Bool, (a * b = if neg then -P else P) → (neg = true → P ≠ 0) → whole_Mul.j0 3 (P / 18446744073709551616) (P % 18446744073709551616) neg = some (mulS a b) := by
  intro neg hn hz
  have hI : I (a * b) ↔ (if neg then P ≤ 9223372036854775808 else P ≤ 9223372036854775807) := by
   rw [hn]; unfold I; cases neg <;> simp <;> omega
  unfold mulS
  by_cases h1 : P / 18446744073709551616 > 0
  ·have h2 : ¬ I (a * b) := by rw [hI]; cases neg <;> simp <;> omega
   rw [if_neg h2]; simp only [whole_Mul.j0, whole_Mul.j1]; rw [if_pos h1]; rfl
  ·have e : P % 18446744073709551616 = P := by omega
   rw [e]
   simp only [whole_Mul.j0, whole_Mul.j1]
   rw [if_neg h1]
   by_cases h2 : P > 9223372036854775808
   ·have h3 : ¬ I (a * b) := by rw [hI]; cases neg <;> simp <;> omega
    rw [if_neg h3, if_pos h2]; rfl
   ·rw [if_neg h2]
    by_cases h4 : P = 9223372036854775808
    ·rw [if_pos h4]
     cases neg with
     | true =>
      have h3 : I (a * b) := by rw [hI]; simp; omega
      rw [if_pos h3]
      simp only [Bool.not_true, if_true] at *
      rw [hn, u64]
      simp only [Bool.false_eq_true, if_false]
      congr 2
      unfold wrap64; omega
     | false =>
      have h3 : ¬ I (a * b) := by rw [hI]; simp; omega
      rw [if_neg h3]; rfl
    ·rw [if_neg h4]
     have h3 : I (a * b) := by rw [hI]; cases neg <;> simp <;> omega
     rw [if_pos h3]
     simp only [Bool.false_eq_true, if_false]
     cases neg with
     | true =>
      simp only [if_true] at *
      have := hz trivial
      rw [hn, u64]
      congr 2
      unfold wrap64; omega
     | false =>
      simp only [Bool.false_eq_true, if_false] at *
      rw [hn]
      congr 2
      unfold wrap64; omega
 have hne : ∀ {x : Int}, x ≠ 0 → 1 ≤ ab x := by intro x hx; unfold ab; omega
 by_cases hs : decide (a < 0) = decide (b < 0)
 ·rw [if_neg (by simp [hs])]
  rw [if_pos hs] at hm
  exact key false (by simp [hm]) (by simp)
 ·rw [if_pos (by simpa using hs)]
  rw [if_neg hs] at hm
  by_cases ha0 : a = 0
  ·rw [if_pos ha0]
   refine key false ?_ (by simp)
   subst ha0; simp only [Int.zero_mul] at hm ⊢; simp; omega
  ·rw [if_neg ha0]
   by_cases hb0 : b = 0
   ·rw [show (b != 0) = false by simp [hb0]]
    refine key false ?_ (by simp)
    subst hb0; simp only [Int.mul_zero] at hm ⊢; simp; omega
   ·rw [show (b != 0) = true by simp [hb0]]
    refine key true (by simp; omega) (fun _ => ?_)
    rw [← hP]
    have h1 := hne ha0
    have h2 := hne hb0
    have := Int.mul_le_mul h1 h2 (by omega) (by omega)
    omega

theorem add_is {a b : Int} (ha : I a) (hb : I b) : whole_Add.f a b = some (addS a b) := by
 unfold whole_Add.f addS
 by_cases hI : I (a + b)
 ·rw [if_pos hI, wrap_id hI]
  unfold I at ha hb hI
  by_cases h1 : a < 0 <;> by_cases h2 : b < 0 <;> by_cases h3 : a + b < 0 <;> simp [h1, h2, h3] <;> omega
 ·rw [if_neg hI]
  unfold I at ha hb hI
  have hi := wrap_I (a + b)
  unfold I at hi
  have hw : wrap64 (a + b) = a + b - 18446744073709551616 ∨ wrap64 (a + b) = a + b + 18446744073709551616 := by unfold wrap64; omega
  by_cases h1 : a < 0 <;> by_cases h2 : b < 0 <;> by_cases h3 : wrap64 (a + b) < 0 <;> simp [h1, h2, h3] <;> omega

theorem drop_cons {l : List Int} {i : Nat} (h : i < l.length) : l.drop i = rd l (i : Int) :: l.drop (i + 1) := by
 rw [List.drop_eq_getElem_cons h, rd_lt (by omega) (by omega)]; rfl

theorem mulS_I (a b : Int) : I (mulS a b).1 := by
 unfold mulS; split
 ·assumption
 ·decide
theorem dotS_cons (s a b : Int) (xs ys : List Int) : dotS s (a :: xs) (b :: ys) = if I (a * b) then (if I (s + a * b) then dotS (s + a * b) xs ys else (0, false)) else (0, false) := rfl
theorem dot_loop (l0 l1 : List Int) (h0 : ∀ x ∈ l0, I x) (h1 : ∀ x ∈ l1, I x) (hb : l0.length ≤ 9223372036854775806) (d : Nat) :
 ∀ (i : Nat), min l0.length l1.length = i + d → ∀ s, I s → Ev (fun k => whole_Dot.l0 k l0 l1 s ((min l0.length l1.length : Nat) : Int) (i : Int)) (dotS s (l0.drop i) (l1.drop i)) := by
 induction d with
 | zero =>
  intro i hi s hs
  refine Ev.step (f := fun _ => some (s, true)) (fun k => by simp only [whole_Dot.l0]; rw [if_neg (by omega)]) ?_
  have : dotS s (l0.drop i) (l1.drop i) = (s, true) := by
   by_cases h : l0.length ≤ i
   ·rw [List.drop_eq_nil_of_le h]; rfl
   ·rw [List.drop_eq_nil_of_le (show l1.length ≤ i by omega)]; cases l0.drop i <;> rfl
  rw [this]; exact Ev.now _
 | succ d ih =>
  intro i hi s hs
  have e0 := drop_cons (l := l0) (i := i) (by omega)
  have e1 := drop_cons (l := l1) (i := i) (by omega)
  rw [e0, e1, dotS_cons]
  have i0 := h0 _ (rd_mem (xs := l0) (i := (i : Int)) (by omega) (by omega))
  have i1 := h1 _ (rd_mem (xs := l1) (i := (i : Int)) (by omega) (by omega))
  refine Ev.step (f := fun k => (whole_Mul.f k (rd l0 (i : Int)) (rd l1 (i : Int))).bind fun p => ((whole_Add.f s p.1).bind fun q => (if p.2 = true then (if q.2 = true then (whole_Dot.l0 k l0 l1 q.1 ((min l0.length l1.length : Nat) : Int) (wrap64 ((i : Int) + 1))) else (some (0, false))) else (some (0, false))))) (fun k => by simp only [whole_Dot.l0]; rw [if_pos (by omega), if_pos (by omega), if_pos (by omega), if_pos (by omega)]) ?_
  refine Ev.bind (mul_ev i0 i1) ?_
  refine Ev.congr (f := fun k => (if (mulS (rd l0 (i : Int)) (rd l1 (i : Int))).2 = true then (if (addS s (mulS (rd l0 (i : Int)) (rd l1 (i : Int))).1).2 = true then (whole_Dot.l0 k l0 l1 (addS s (mulS (rd l0 (i : Int)) (rd l1 (i : Int))).1).1 ((min l0.length l1.length : Nat) : Int) (wrap64 ((i : Int) + 1))) else (some (0, false))) else (some (0, false)))) (fun k => by rw [add_is hs (mulS_I _ _)]; rfl) ?_
  rw [wrap_add (n := l0.length) (by omega) (by omega) (by omega)]
  by_cases hm : I (rd l0 (i : Int) * rd l1 (i : Int))
  ·rw [if_pos hm]
   have em : mulS (rd l0 (i : Int)) (rd l1 (i : Int)) = (rd l0 (i : Int) * rd l1 (i : Int), true) := by rw [mulS, if_pos hm]
   rw [em]
   by_cases ha : I (s + rd l0 (i : Int) * rd l1 (i : Int))
   ·rw [if_pos ha]
    have ea : addS s (rd l0 (i : Int) * rd l1 (i : Int)) = (s + rd l0 (i : Int) * rd l1 (i : Int), true) := by rw [addS, if_pos ha]
    simp only [ea, if_true]
    have := ih (i + 1) (by omega) _ ha
    simpa only [Int.natCast_add, Int.natCast_one] using this
   ·rw [if_neg ha]
    have ea : addS s (rd l0 (i : Int) * rd l1 (i : Int)) = (0, false) := by rw [addS, if_neg ha]
    simp only [ea, if_true, Bool.false_eq_true, if_false]
    exact Ev.now _
  ·rw [if_neg hm]
   have em : mulS (rd l0 (i : Int)) (rd l1 (i : Int)) = (0, false) := by rw [mulS, if_neg hm]
   rw [em]
   simp only [Bool.false_eq_true, if_false]
   exact Ev.now _
theorem dot_ev {a b : List Int} (h0 : ∀ x ∈ a, I x) (h1 : ∀ x ∈ b, I x) (hb : a.length ≤ 9223372036854775806) : Ev (fun k => whole_Dot.f k a b) (dotS 0 a b) := by
 have h := dot_loop a b h0 h1 hb (min a.length b.length) 0 (by simp) 0 (by decide)
 have e : mn (a.length : Int) (b.length : Int) = ((min a.length b.length : Nat) : Int) := by unfold mn; omega
 unfold whole_Dot.f
 rw [e]
 simpa using h

theorem gcd_loop (y : Nat) : ∀ (x : Nat), x ≤ 9223372036854775808 → y ≤ 9223372036854775808 → Ev (fun k => whole_Gcd.l0 k (x : Int) (y : Int)) (wrap64 (Nat.gcd x y : Int)) := by
 induction y using Nat.strongRecOn with
 | ind y ih =>
  intro x hx hy
  by_cases h : y = 0
  ·subst h
   refine Ev.step (f := fun _ => some (wrap64 (x : Int))) (fun k => by simp only [whole_Gcd.l0]; rw [if_neg (by omega)]) ?_
   rw [Nat.gcd_zero_right]; exact Ev.now _
  ·refine Ev.step (f := fun k => whole_Gcd.l0 k (y : Int) ((x % y : Nat) : Int)) (fun k => by simp only [whole_Gcd.l0]; rw [if_pos (by omega), if_neg (by omega)]; rfl) ?_
   have hlt : x % y < y := Nat.mod_lt _ (by omega)
   have := ih (x % y) hlt y hy (by omega)
   rwa [show Nat.gcd y (x % y) = Nat.gcd x y by rw [Nat.gcd_comm x y, Nat.gcd_rec y x, Nat.gcd_comm]] at this
theorem gcd_ev {a b : Int} (ha : I a) (hb : I b) : Ev (fun k => whole_Gcd.f k a b) (wrap64 (Int.gcd a b : Int)) := by
 unfold whole_Gcd.f
 refine Ev.congr (f := fun k => whole_Gcd.l0 k (a.natAbs : Int) (b.natAbs : Int)) (fun k => by rw [size_is ha, size_is hb, ab_nat, ab_nat]; rfl) ?_
 unfold I at ha hb
 exact gcd_loop b.natAbs a.natAbs (by omega) (by omega)

theorem gcdJ {a b : Int} (ha : J a) (hb : J b) : J (Int.gcd a b : Int) := by
 have := gl_le [a, b] (by intro x hx; simp at hx; rcases hx with rfl | rfl <;> assumption) 0 (by omega)
 simp only [gl, List.foldl, Nat.gcd_zero_left] at this
 have e : Int.gcd a b = Nat.gcd a.natAbs b.natAbs := rfl
 unfold J; omega

/-- So much of one number, and so much of another one; none: it is no number, or the least one. -/
def mixS (a b : Int) : List Int → List Int → Option (List Int)
 | x :: xs, y :: ys => if (dotS 0 [a, b] [x, y]).2 = true then (if (dotS 0 [a, b] [x, y]).1 = -9223372036854775808 then none else (mixS a b xs ys).map ((dotS 0 [a, b] [x, y]).1 :: ·)) else none
 | _, _ => some []
theorem mixS_cons (a b x y : Int) (xs ys : List Int) : mixS a b (x :: xs) (y :: ys) = if (dotS 0 [a, b] [x, y]).2 = true then (if (dotS 0 [a, b] [x, y]).1 = -9223372036854775808 then none else (mixS a b xs ys).map ((dotS 0 [a, b] [x, y]).1 :: ·)) else none := rfl
theorem mixS_nil (a b : Int) (xs ys : List Int) (h : xs = [] ∨ ys = []) : mixS a b xs ys = some [] := by
 rcases h with rfl | rfl
 ·rfl
 ·cases xs <;> rfl
theorem mixS_length {a b : Int} (xs : List Int) : ∀ (ys r : List Int), mixS a b xs ys = some r → r.length = min xs.length ys.length := by
 induction xs with
 | nil => intro ys r h; rw [mixS_nil _ _ _ _ (.inl rfl)] at h; cases h; simp
 | cons x xs ih =>
  intro ys r h
  cases ys with
  | nil => rw [mixS_nil _ _ _ _ (.inr rfl)] at h; cases h; simp
  | cons y ys =>
   rw [mixS_cons] at h
   split at h
   ·split at h
    ·cases h
    ·obtain ⟨q, hq, rfl⟩ := Option.map_eq_some_iff.1 h
     have := ih ys q hq
     simp only [List.length_cons, this]; omega
   ·cases h
theorem two_I {a b : Int} (ha : I a) (hb : I b) : ∀ x ∈ [a, b], I x := by
 intro x hx; simp at hx; rcases hx with rfl | rfl <;> assumption
theorem mix_loop (a b : Int) (ha : I a) (hb : I b) (xs ys : List Int) (hx : ∀ x ∈ xs, I x) (hy : ∀ y ∈ ys, I y) (n : Nat) (hn : n = min xs.length ys.length) (hbd : n ≤ 35184372088832) (d : Nat) :
 ∀ (i : Nat) (done : List Int), n = i + d → done.length = i →
  Ev (fun k => whole_Mix.l0 k a xs b ys (done ++ List.replicate d 0) (n : Int) (i : Int)) (match mixS a b (xs.drop i) (ys.drop i) with | some r => (done ++ r, true) | none => ([], false)) := by
 induction d with
 | zero =>
  intro i done hi hd
  rw [mixS_nil _ _ _ _ (by
   by_cases h : xs.length ≤ i
   ·exact .inl (List.drop_eq_nil_of_le h)
   ·exact .inr (List.drop_eq_nil_of_le (by omega)))]
  exact Ev.step (f := fun _ => some (done ++ [], true)) (fun k => by simp only [whole_Mix.l0]; rw [if_neg (by omega)]; rfl) (Ev.now _)
 | succ d ih =>
  intro i done hi hd
  have ix := hx _ (rd_mem (xs := xs) (i := (i : Int)) (by omega) (by omega))
  have iy := hy _ (rd_mem (xs := ys) (i := (i : Int)) (by omega) (by omega))
  rw [drop_cons (l := xs) (i := i) (by omega), drop_cons (l := ys) (i := i) (by omega), mixS_cons]
  have hdot := dot_ev (two_I ha hb) (two_I ix iy) (by simp)
  generalize dotS 0 [a, b] [rd xs (i : Int), rd ys (i : Int)] = p at *
  refine Ev.step (f := fun k => (whole_Dot.f k [a, b] [rd xs (i : Int), rd ys (i : Int)]).bind fun q => (if q.2 = true then (if q.1 = (-9223372036854775808) then (some (([] : List Int), false)) else (whole_Mix.l0 k a xs b ys ((done ++ [q.1]) ++ List.replicate d 0) (n : Int) ((i + 1 : Nat) : Int))) else (some (([] : List Int), false)))) (fun k => ?_) ?_
  ·simp only [whole_Mix.l0]
   rw [if_pos (by omega), if_pos (by omega), if_pos (by omega), if_pos (by omega)]
   congr 1
   funext q
   have es : (done ++ List.replicate (d + 1) 0).set i q.1 = (done ++ [q.1]) ++ List.replicate d 0 := by
    rw [List.set_append_right _ _ (by omega), hd, Nat.sub_self, List.replicate_succ, List.set_cons_zero, List.append_assoc]; rfl
   have hlt : (i : Int) < ((done ++ List.replicate (d + 1) (0 : Int)).length : Int) := by rw [List.length_append, List.length_replicate]; omega
   simp only [if_pos hlt, Int.toNat_natCast, es]
   rw [wrap_add (n := n) (by omega) (by omega) (by omega)]
   rfl
  ·refine Ev.bind hdot ?_
   by_cases h2 : p.2 = true
   ·simp only [if_pos h2]
    by_cases h3 : p.1 = -9223372036854775808
    ·simp only [if_pos h3]; exact Ev.now _
    ·simp only [if_neg h3]
     have := ih (i + 1) (done ++ [p.1]) (by omega) (by simp; omega)
     revert this
     cases mixS a b (xs.drop (i + 1)) (ys.drop (i + 1)) with
     | none => exact fun h => h
     | some r => simp only [Option.map_some, List.append_assoc, List.singleton_append]; exact fun h => h
   ·simp only [if_neg h2]; exact Ev.now _
theorem mix_ev {a b : Int} (ha : I a) (hb : I b) {xs ys : List Int} (hx : ∀ x ∈ xs, I x) (hy : ∀ y ∈ ys, I y) (hbd : min xs.length ys.length ≤ 35184372088832) :
 Ev (fun k => whole_Mix.f k a xs b ys) (match mixS a b xs ys with | some r => (r, true) | none => ([], false)) := by
 have e : mn (xs.length : Int) (ys.length : Int) = ((min xs.length ys.length : Nat) : Int) := by unfold mn; omega
 unfold whole_Mix.f
 rw [e]
 have h := mix_loop a b ha hb xs ys hx hy _ rfl hbd (min xs.length ys.length) 0 [] (by simp) rfl
 simp only [List.drop_zero, List.nil_append] at h
 refine Ev.congr (f := fun k => whole_Mix.l0 k a xs b ys (List.replicate (min xs.length ys.length) 0) ((min xs.length ys.length : Nat) : Int) 0) (fun k => ?_) h
 rw [if_pos (by omega), if_pos (by omega)]
 simp only [Option.bind_some, Int.toNat_natCast, List.length_replicate]

theorem norm_gcds (l : List Int) (hJ : ∀ x ∈ l, J x) (hb : l.length ≤ 35184372088832) (r : List Int)
 (hend : ∀ g : Nat, g = gl 0 l → Ev (fun k => whole_Norm.l0 k l (g : Int) l (l.length : Int) (l.length : Int)) r) (d : Nat) :
 ∀ i : Nat, l.length = i + d → Ev (fun k => whole_Norm.l0 k l ((gl 0 (l.take i) : Nat) : Int) l (l.length : Int) (i : Int)) r := by
 induction d with
 | zero =>
  intro i hi
  have e : i = l.length := by omega
  subst e
  rw [List.take_length]
  exact hend _ rfl
 | succ d ih =>
  intro i hi
  have hx := hJ _ (rd_mem (xs := l) (i := (i : Int)) (by omega) (by omega))
  have hg : gl 0 (l.take i) ≤ 9223372036854775807 := gl_le _ (fun x hx => hJ x (List.mem_of_mem_take hx)) 0 (by omega)
  refine Ev.step (f := fun k => (whole_Gcd.f k ((gl 0 (l.take i) : Nat) : Int) (rd l (i : Int))).bind fun t => whole_Norm.l0 k l t l (l.length : Int) (wrap64 ((i : Int) + 1))) (fun k => by simp only [whole_Norm.l0]; rw [if_pos (by omega), if_pos (by omega), if_pos (by omega)]) ?_
  refine Ev.bind (gcd_ev (by unfold I; omega) hx.i) ?_
  rw [wrap_add (n := l.length) (by omega) (by omega) (by omega)]
  have e1 : gl 0 (l.take (i + 1)) = Int.gcd ((gl 0 (l.take i) : Nat) : Int) (rd l (i : Int)) := by
   rw [List.take_succ_eq_append_getElem (by omega), gl_append, rd_lt (by omega) (by omega)]
   rfl
  have hle : gl 0 (l.take (i + 1)) ≤ 9223372036854775807 := gl_le _ (fun x hx => hJ x (List.mem_of_mem_take hx)) 0 (by omega)
  rw [← e1, wrap_id (by unfold I; omega)]
  have := ih (i + 1) (by omega)
  simpa only [Int.natCast_add, Int.natCast_one] using this
theorem norm_parts (g : Nat) (hg : g ≤ 9223372036854775807) (l : List Int) (hJ : ∀ x ∈ l, J x) (hb : l.length ≤ 35184372088832) (d : Nat) :
 ∀ i : Nat, l.length = i + d → Ev (fun k => whole_Norm.l1 k (g : Int) ((l.take i).map (fun x => if 1 < g then Int.tdiv x (g : Int) else x) ++ l.drop i) (l.length : Int) (i : Int)) (l.map fun x => if 1 < g then Int.tdiv x (g : Int) else x) := by
 induction d with
 | zero =>
  intro i hi
  have e : i = l.length := by omega
  subst e
  rw [List.take_length, List.drop_eq_nil_of_le (Nat.le_refl _), List.append_nil]
  exact Ev.step (f := fun _ => some (l.map fun x => if 1 < g then Int.tdiv x (g : Int) else x)) (fun k => by simp only [whole_Norm.l1]; rw [if_neg (by omega)]) (Ev.now _)
 | succ d ih =>
  intro i hi
  have hx := hJ _ (rd_mem (xs := l) (i := (i : Int)) (by omega) (by omega))
  have hn := ih (i + 1) (by omega)
  have hl : ((l.take i).map (fun x => if 1 < g then Int.tdiv x (g : Int) else x)).length = i := by simp; omega
  by_cases h1 : 1 < g
  ·refine Ev.step (f := fun k => whole_Norm.l1 k (g : Int) ((l.take (i + 1)).map (fun x => if 1 < g then Int.tdiv x (g : Int) else x) ++ l.drop (i + 1)) (l.length : Int) ((i + 1 : Nat) : Int)) (fun k => ?_) hn
   simp only [whole_Norm.l1]
   have er : rd ((l.take i).map (fun x => if 1 < g then Int.tdiv x (g : Int) else x) ++ l.drop i) (i : Int) = rd l (i : Int) := by
    unfold rd
    rw [List.getD_eq_getElem?_getD, List.getD_eq_getElem?_getD, Int.toNat_natCast, List.getElem?_append_right (by omega), hl, Nat.sub_self, List.getElem?_drop, Nat.add_zero]
   have es : ((l.take i).map (fun x => if 1 < g then Int.tdiv x (g : Int) else x) ++ l.drop i).set i (Int.tdiv (rd l (i : Int)) (g : Int)) = (l.take (i + 1)).map (fun x => if 1 < g then Int.tdiv x (g : Int) else x) ++ l.drop (i + 1) := by
    rw [List.set_append_right _ _ (by omega), hl, Nat.sub_self, drop_cons (l := l) (i := i) (by omega), List.set_cons_zero, List.take_succ_eq_append_getElem (by omega), List.map_append, List.append_assoc]
    congr 1
    simp only [List.map_cons, List.map_nil, if_pos h1, List.cons_append, List.nil_append]
    rw [rd_lt (by omega) (by omega)]; rfl
   rw [if_pos (by omega), if_pos (by omega), if_pos (by omega), if_pos (by simp; omega), if_neg (by omega), er, wrap_id (tdiv_J hx).i, Int.toNat_natCast, es, wrap_add (n := l.length) (by omega) (by omega) (by omega)]
   rfl
  ·refine Ev.step (f := fun k => whole_Norm.l1 k (g : Int) ((l.take (i + 1)).map (fun x => if 1 < g then Int.tdiv x (g : Int) else x) ++ l.drop (i + 1)) (l.length : Int) ((i + 1 : Nat) : Int)) (fun k => ?_) hn
   simp only [whole_Norm.l1]
   rw [if_pos (by omega), if_neg (by omega), wrap_add (n := l.length) (by omega) (by omega) (by omega)]
   have em : ∀ m : List Int, m.map (fun x => if 1 < g then Int.tdiv x (g : Int) else x) = m := fun m => by simp [h1]
   rw [em, em, List.take_append_drop, List.take_append_drop]
   rfl
theorem norm_ev {l : List Int} (hJ : ∀ x ∈ l, J x) (hb : l.length ≤ 35184372088832) : Ev (fun k => whole_Norm.f k l) (normS l) := by
 unfold whole_Norm.f
 have hgl := gl_le l hJ 0 (by omega)
 refine norm_gcds l hJ hb (normS l) (fun g hg => ?_) l.length 0 (by simp)
 subst hg
 refine Ev.step (f := fun k => whole_Norm.l1 k ((gl 0 l : Nat) : Int) l (l.length : Int) 0) (fun k => ?_) ?_
 ·simp only [whole_Norm.l0]
  rw [if_neg (by omega), if_pos (by omega), if_pos (by omega)]
  simp only [Option.bind_some, List.length_replicate, Int.toNat_natCast, Nat.min_self, List.take_length]
  rw [List.drop_eq_nil_of_le (by simp), List.append_nil]
 ·have h := norm_parts (gl 0 l) hgl l hJ hb l.length 0 (by simp)
  simp only [List.take_zero, List.map_nil, List.nil_append, List.drop_zero] at h
  unfold normS
  by_cases h1 : 1 < gl 0 l
  ·rw [if_pos h1]; simp only [if_pos h1] at h; exact h
  ·rw [if_neg h1]; simp only [if_neg h1, List.map_id'] at h; exact h

theorem rdL_lt {m : List (List Int)} {i : Nat} (h : i < m.length) : rd_L1 m (i : Int) = m[i] := by
 unfold rd_L1; rw [Int.toNat_natCast, List.getD_eq_getElem?_getD, List.getElem?_eq_getElem h]; rfl
theorem rdL_mem {m : List (List Int)} {i : Nat} (h : i < m.length) : rd_L1 m (i : Int) ∈ m := by rw [rdL_lt h]; exact List.getElem_mem _
theorem dropL_cons {m : List (List Int)} {i : Nat} (h : i < m.length) : m.drop i = rd_L1 m (i : Int) :: m.drop (i + 1) := by
 rw [List.drop_eq_getElem_cons h, rdL_lt h]
theorem rdT_lt {l : List S66} {i : Nat} (h : i < l.length) : rd_T66 l (i : Int) = l[i] := by
 unfold rd_T66; rw [Int.toNat_natCast, List.getD_eq_getElem?_getD, List.getElem?_eq_getElem h]; rfl
theorem rdT_mem {l : List S66} {i : Nat} (h : i < l.length) : rd_T66 l (i : Int) ∈ l := by rw [rdT_lt h]; exact List.getElem_mem _
theorem dropT_cons {l : List S66} {i : Nat} (h : i < l.length) : l.drop i = rd_T66 l (i : Int) :: l.drop (i + 1) := by
 rw [List.drop_eq_getElem_cons h, rdT_lt h]
/-- Has the first nothing where the second has nothing. -/
def winS : List Int → List Int → Bool
 | x :: xs, y :: ys => (x == 0 || y != 0) && winS xs ys
 | _, _ => true
theorem winS_cons (x y : Int) (xs ys : List Int) : winS (x :: xs) (y :: ys) = ((x == 0 || y != 0) && winS xs ys) := rfl
theorem within_loop (a b : List Int) (he : a.length ≤ b.length) (hb : a.length ≤ 9223372036854775806) (d : Nat) :
 ∀ i : Nat, a.length = i + d → Ev (fun k => basis_within.l0 k a b (a.length : Int) (i : Int)) (winS (a.drop i) (b.drop i)) := by
 induction d with
 | zero =>
  intro i hi
  rw [List.drop_eq_nil_of_le (by omega)]
  exact Ev.step (f := fun _ => some true) (fun k => by simp only [basis_within.l0]; rw [if_neg (by omega)]) (by simp only [winS]; exact Ev.now _)
 | succ d ih =>
  intro i hi
  rw [drop_cons (l := a) (i := i) (by omega), drop_cons (l := b) (i := i) (by omega), winS_cons]
  by_cases h : rd a (i : Int) = 0
  ·rw [show (rd a (i : Int) == 0) = true by rw [h]; rfl, Bool.true_or, Bool.true_and]
   refine Ev.step (f := fun k => basis_within.l0 k a b (a.length : Int) ((i + 1 : Nat) : Int)) (fun k => ?_) (ih (i + 1) (by omega))
   simp only [basis_within.l0]
   rw [if_pos (by omega), if_pos (by omega), if_pos (by omega), if_pos h, wrap_add (n := a.length) (by omega) (by omega) (by omega)]
   rfl
  ·rw [show (rd a (i : Int) == 0) = false from beq_eq_false_iff_ne.2 h, Bool.false_or]
   by_cases h2 : rd b (i : Int) = 0
   ·rw [show (rd b (i : Int) != 0) = false by rw [h2]; rfl, Bool.false_and]
    refine Ev.step (f := fun _ => some false) (fun k => ?_) (Ev.now _)
    simp only [basis_within.l0]
    rw [if_pos (by omega), if_pos (by omega), if_pos (by omega), if_neg h, if_pos (by omega), if_pos h2]
   ·rw [show (rd b (i : Int) != 0) = true from bne_iff_ne.2 h2, Bool.true_and]
    refine Ev.step (f := fun k => basis_within.l0 k a b (a.length : Int) ((i + 1 : Nat) : Int)) (fun k => ?_) (ih (i + 1) (by omega))
    simp only [basis_within.l0]
    rw [if_pos (by omega), if_pos (by omega), if_pos (by omega), if_neg h, if_pos (by omega), if_neg h2, wrap_add (n := a.length) (by omega) (by omega) (by omega)]
    rfl
theorem within_ev (a b : List Int) (he : a.length ≤ b.length) (hb : a.length ≤ 9223372036854775806) : Ev (fun k => basis_within.f k a b) (winS a b) := by
 have h := within_loop a b he hb a.length 0 (by simp)
 unfold basis_within.f
 simpa using h
/-- Does a row stay beside all, where it stands at i. -/
def keepS (y : List Int) (i : Nat) : Nat → List S66 → Bool
 | _, [] => true
 | k, o :: l => if k = i then keepS y i (k + 1) l else if winS o.f0 y = true then (if winS y o.f0 = true then (if k < i then false else keepS y i (k + 1) l) else false) else keepS y i (k + 1) l
def leastS (all : List S66) : Nat → List S66 → List S66
 | _, [] => []
 | i, r :: l => if keepS r.f0 i 0 all = true then r :: leastS all (i + 1) l else leastS all (i + 1) l
/-- A row of n places and w columns, of numbers above the least one. -/
structure Rw (n w : Nat) (r : S66) : Prop where
 y : r.f0.length = n
 c : r.f1.length = w
 jy : ∀ x ∈ r.f0, J x
 jc : ∀ x ∈ r.f1, J x
theorem least_in (n w : Nat) (hn : n ≤ 9223372036854775806) (l out : List S66) (hl : ∀ r ∈ l, Rw n w r) (hb : l.length < 2932031007402) (ho : out.length < 2932031007402) (i : Nat) (hi : i < l.length) (R1 R2 : List S66)
 (h1 : Ev (fun k => basis_least.l0 k l (out ++ [rd_T66 l (i : Int)]) l (l.length : Int) (wrap64 ((i : Int) + 1))) R1) (h2 : Ev (fun k => basis_least.l0 k l out l (l.length : Int) (wrap64 ((i : Int) + 1))) R2) (d : Nat) :
 ∀ j : Nat, l.length = j + d → Ev (fun k => basis_least.l1 k l out (i : Int) l (l.length : Int) (i : Int) l (l.length : Int) (j : Int) (rd_T66 l (i : Int)).f0 (rd_T66 l (i : Int)).f1) (if keepS (rd_T66 l (i : Int)).f0 i j (l.drop j) = true then R1 else R2) := by
 induction d with
 | zero =>
  intro j hj
  rw [List.drop_eq_nil_of_le (by omega)]
  simp only [keepS, if_pos trivial]
  refine Ev.step (fun k => ?_) h1
  simp only [basis_least.l1]
  rw [if_neg (by omega), if_pos ho]
 | succ d ih =>
  intro j hj
  have hnext := ih (j + 1) (by omega)
  have e1 : wrap64 ((j : Int) + 1) = ((j + 1 : Nat) : Int) := by rw [wrap_add (n := l.length) (by omega) (by omega) (by omega)]; rfl
  have hr := hl _ (rdT_mem (l := l) hi)
  have ho2 := hl _ (rdT_mem (l := l) (i := j) (by omega))
  rw [dropT_cons (l := l) (i := j) (by omega)]
  simp only [keepS]
  by_cases c1 : j = i
  ·simp only [if_pos c1]
   refine Ev.step (fun k => ?_) hnext
   simp only [basis_least.l1]
   rw [if_pos (by omega), if_pos (by omega), if_pos (by omega), if_pos (by omega), e1]
  ·simp only [if_neg c1]
   have w1 := within_ev (rd_T66 l (j : Int)).f0 (rd_T66 l (i : Int)).f0 (by rw [hr.y, ho2.y]; exact Nat.le_refl _) (by rw [ho2.y]; exact hn)
   have w2 := within_ev (rd_T66 l (i : Int)).f0 (rd_T66 l (j : Int)).f0 (by rw [hr.y, ho2.y]; exact Nat.le_refl _) (by rw [hr.y]; exact hn)
   refine Ev.step (f := fun k => (basis_within.f k (rd_T66 l (j : Int)).f0 (rd_T66 l (i : Int)).f0).bind fun t182 => (if t182 = true then ((basis_within.f k (rd_T66 l (i : Int)).f0 (rd_T66 l (j : Int)).f0).bind fun t183 => (if t183 = true then (if (j : Int) < (i : Int) then (basis_least.l0 k l out l (l.length : Int) (wrap64 ((i : Int) + 1))) else (basis_least.l1 k l out (i : Int) l (l.length : Int) (i : Int) l (l.length : Int) ((j + 1 : Nat) : Int) (rd_T66 l (i : Int)).f0 (rd_T66 l (i : Int)).f1)) else (basis_least.l0 k l out l (l.length : Int) (wrap64 ((i : Int) + 1))))) else (basis_least.l1 k l out (i : Int) l (l.length : Int) (i : Int) l (l.length : Int) ((j + 1 : Nat) : Int) (rd_T66 l (i : Int)).f0 (rd_T66 l (i : Int)).f1))) (fun k => ?_) (Ev.bind w1 ?_)
   ·simp only [basis_least.l1]
    rw [if_pos (by omega), if_pos (by omega), if_pos (by omega), if_neg (by omega), e1]
   ·by_cases c2 : winS (rd_T66 l (j : Int)).f0 (rd_T66 l (i : Int)).f0 = true
    ·simp only [if_pos c2]
     refine Ev.bind w2 ?_
     by_cases c3 : winS (rd_T66 l (i : Int)).f0 (rd_T66 l (j : Int)).f0 = true
     ·simp only [if_pos c3]
      by_cases c4 : j < i
      ·simp only [if_pos c4, if_pos (show (j : Int) < (i : Int) by omega)]
       exact h2
      ·simp only [if_neg c4, if_neg (show ¬ (j : Int) < (i : Int) by omega)]
       exact hnext
     ·simp only [if_neg c3]
      exact h2
    ·simp only [if_neg c2]
     exact hnext
theorem least_loop (n w : Nat) (hn : n ≤ 9223372036854775806) (l : List S66) (hl : ∀ r ∈ l, Rw n w r) (hb : l.length < 2932031007402) (d : Nat) :
 ∀ (i : Nat) (out : List S66), l.length = i + d → out.length ≤ i → Ev (fun k => basis_least.l0 k l out l (l.length : Int) (i : Int)) (out ++ leastS l i (l.drop i)) := by
 induction d with
 | zero =>
  intro i out hi ho
  rw [List.drop_eq_nil_of_le (by omega)]
  simp only [leastS, List.append_nil]
  exact Ev.step (f := fun _ => some out) (fun k => by simp only [basis_least.l0]; rw [if_neg (by omega)]) (Ev.now _)
 | succ d ih =>
  intro i out hi ho
  have e1 : wrap64 ((i : Int) + 1) = ((i + 1 : Nat) : Int) := by rw [wrap_add (n := l.length) (by omega) (by omega) (by omega)]; rfl
  have h := least_in n w hn l out hl hb (by omega) i (by omega) _ _ (by rw [e1]; exact ih (i + 1) (out ++ [rd_T66 l (i : Int)]) (by omega) (by simp; omega)) (by rw [e1]; exact ih (i + 1) out (by omega) (by omega)) l.length 0 (by simp)
  rw [List.drop_zero] at h
  have e2 : (out ++ leastS l i (l.drop i)) = (if keepS (rd_T66 l (i : Int)).f0 i 0 l = true then (out ++ [rd_T66 l (i : Int)]) ++ leastS l (i + 1) (l.drop (i + 1)) else out ++ leastS l (i + 1) (l.drop (i + 1))) := by
   rw [dropT_cons (l := l) (i := i) (by omega)]
   simp only [leastS]
   split <;> simp
  rw [e2]
  refine Ev.step (fun k => ?_) h
  simp only [basis_least.l0]
  rw [if_pos (by omega), if_pos (by omega), if_pos (by omega)]
  rfl
theorem least_ev (n w : Nat) (hn : n ≤ 9223372036854775806) (l : List S66) (hl : ∀ r ∈ l, Rw n w r) (hb : l.length < 2932031007402) : Ev (fun k => basis_least.f k l) (leastS l 0 l) := by
 have h := least_loop n w hn l hl hb l.length 0 [] (by simp) (by simp)
 unfold basis_least.f
 simpa using h
theorem leastS_mem (all : List S66) : ∀ (l : List S66) (i : Nat), ∀ r ∈ leastS all i l, r ∈ l
 | [], _, r, h => by simp [leastS] at h
 | a :: l, i, r, h => by
  simp only [leastS] at h
  split at h
  ·rcases List.mem_cons.1 h with h | h
   ·exact h ▸ List.mem_cons_self
   ·exact List.mem_cons_of_mem _ (leastS_mem all l _ r h)
  ·exact List.mem_cons_of_mem _ (leastS_mem all l _ r h)
theorem leastS_len (all : List S66) : ∀ (l : List S66) (i : Nat), (leastS all i l).length ≤ l.length
 | [], _ => by simp [leastS]
 | a :: l, i => by
  have := leastS_len all l (i + 1)
  simp only [leastS]
  split <;> simp <;> omega

theorem dot2_is {a b x y : Int} (h : (dotS 0 [a, b] [x, y]).2 = true) : (dotS 0 [a, b] [x, y]).1 = a * x + b * y ∧ I (a * x + b * y) := by
 simp only [dotS_cons, Int.zero_add] at h ⊢
 by_cases c1 : I (a * x)
 ·simp only [if_pos c1] at h ⊢
  by_cases c2 : I (b * y)
  ·simp only [if_pos c2] at h ⊢
   by_cases c3 : I (a * x + b * y)
   ·simp only [if_pos c3] at h ⊢
    exact ⟨rfl, c3⟩
   ·simp only [if_neg c3] at h; exact absurd h (by simp)
  ·simp only [if_neg c2] at h; exact absurd h (by simp)
 ·simp only [if_neg c1] at h; exact absurd h (by simp)
theorem mixS_J {a b : Int} (xs : List Int) : ∀ (ys r : List Int), mixS a b xs ys = some r → ∀ z ∈ r, J z := by
 induction xs with
 | nil => intro ys r h; rw [mixS_nil _ _ _ _ (.inl rfl)] at h; cases h; simp
 | cons x xs ih =>
  intro ys r h
  cases ys with
  | nil => rw [mixS_nil _ _ _ _ (.inr rfl)] at h; cases h; simp
  | cons y ys =>
   rw [mixS_cons] at h
   by_cases h2 : (dotS 0 [a, b] [x, y]).2 = true
   ·rw [if_pos h2] at h
    by_cases h3 : (dotS 0 [a, b] [x, y]).1 = -9223372036854775808
    ·rw [if_pos h3] at h; cases h
    ·rw [if_neg h3] at h
     obtain ⟨q, hq, rfl⟩ := Option.map_eq_some_iff.1 h
     have hd := dot2_is h2
     intro z hz
     rcases List.mem_cons.1 hz with rfl | hz
     ·rw [hd.1] at h3 ⊢
      have := hd.2
      unfold I at this
      unfold J
      omega
     ·exact ih ys q hq z hz
   ·rw [if_neg h2] at h; cases h
theorem ab_J {x : Int} (h : J x) : J (ab x) := by unfold J ab at *; omega
theorem abs_is {x : Int} (h : J x) : basis_abs.f x = some (ab x) := by
 unfold J at h
 unfold basis_abs.f
 rw [wrap_id (by unfold I; omega)]
 unfold mx ab
 congr 1
 split <;> split <;> omega
/-- The numbers by which two rows are taken. -/
def bothS (p q : Int) : Int := Int.tdiv (ab q) (Int.gcd p q : Int)
/-- A row of two that has nought in a column. -/
def joinS (c : Nat) (a b : S66) : Option S66 :=
 match mixS (bothS (rd a.f1 c) (rd b.f1 c)) (Int.tdiv (ab (rd a.f1 c)) (Int.gcd (rd a.f1 c) (rd b.f1 c) : Int)) a.f0 b.f0, mixS (bothS (rd a.f1 c) (rd b.f1 c)) (Int.tdiv (ab (rd a.f1 c)) (Int.gcd (rd a.f1 c) (rd b.f1 c) : Int)) a.f1 b.f1 with
 | some u, some v => some ⟨(normS (u ++ v)).take u.length, (normS (u ++ v)).drop u.length⟩
 | _, _ => none
theorem joinS_some {n w c : Nat} {a b r : S66} (ha : Rw n w a) (hb : Rw n w b) (h : joinS c a b = some r) :
 ∃ u v, mixS (bothS (rd a.f1 c) (rd b.f1 c)) (Int.tdiv (ab (rd a.f1 c)) (Int.gcd (rd a.f1 c) (rd b.f1 c) : Int)) a.f0 b.f0 = some u ∧ mixS (bothS (rd a.f1 c) (rd b.f1 c)) (Int.tdiv (ab (rd a.f1 c)) (Int.gcd (rd a.f1 c) (rd b.f1 c) : Int)) a.f1 b.f1 = some v ∧ u.length = n ∧ v.length = w ∧ r = ⟨(normS (u ++ v)).take u.length, (normS (u ++ v)).drop u.length⟩ ∧ Rw n w r := by
 unfold joinS at h
 split at h
 ·rename_i u v hu hv
  cases h
  have lu := mixS_length _ _ _ hu
  have lv := mixS_length _ _ _ hv
  rw [ha.y, hb.y, Nat.min_self] at lu
  rw [ha.c, hb.c, Nat.min_self] at lv
  have hJ : ∀ x ∈ normS (u ++ v), J x := normS_J (fun x hx => (List.mem_append.1 hx).elim (mixS_J _ _ _ hu x) (mixS_J _ _ _ hv x))
  have hlen : (normS (u ++ v)).length = n + w := by rw [normS_length, List.length_append, lu, lv]
  exact ⟨u, v, hu, hv, lu, lv, rfl, ⟨by simp [hlen, lu], by simp [hlen, lu], fun x hx => hJ x (List.mem_of_mem_take hx), fun x hx => hJ x (List.mem_of_mem_drop hx)⟩⟩
 ·cases h
def told3 (r : Option S66) : List Int × List Int × Bool := match r with | some r => (r.f0, r.f1, true) | none => ([], [], false)
theorem join_j (n w : Nat) (hN : n + w < 17592186044416) (u v : List Int) (hu : u.length = n) (hv : v.length = w) (ju : ∀ x ∈ u, J x) (jv : ∀ x ∈ v, J x) :
 Ev (fun k => basis_join.j0 k u v false) ((normS (u ++ v)).take u.length, (normS (u ++ v)).drop u.length, true) := by
 have hJ : ∀ x ∈ u ++ v, J x := fun x hx => (List.mem_append.1 hx).elim (ju x) (jv x)
 refine Ev.step (f := fun k => (whole_Norm.f k (u ++ v)).bind fun t160 => (if (u.length : Int) ≤ (t160.length : Int) then (some ((t160.take u.length), (t160.drop u.length), true)) else (none))) (fun k => ?_) (Ev.bind (norm_ev hJ (by simp; omega)) ?_)
 ·simp only [basis_join.j0, slices_Clone_int_int.f]
  rw [if_neg (by simp), if_pos (by omega)]
  simp only [Option.bind_some]
  rw [if_pos (by omega)]
  simp only [if_pos (show (0 : Int) ≤ (u.length : Int) by omega), Int.toNat_natCast]
 ·simp only [normS_length]
  rw [if_pos (by simp; omega)]
  exact Ev.now _
theorem join_ev (n w c : Nat) (hN : n + w < 17592186044416) (hc : c < w) (a b : S66) (ha : Rw n w a) (hb : Rw n w b) (hz : rd a.f1 (c : Int) ≠ 0) :
 Ev (fun k => basis_join.f k a.f0 a.f1 b.f0 b.f1 (c : Int)) (told3 (joinS c a b)) := by
 have jp : J (rd a.f1 (c : Int)) := ha.jc _ (rd_mem (by omega) (by rw [ha.c]; omega))
 have jq : J (rd b.f1 (c : Int)) := hb.jc _ (rd_mem (by omega) (by rw [hb.c]; omega))
 have hg0 : (Int.gcd (rd a.f1 (c : Int)) (rd b.f1 (c : Int)) : Int) ≠ 0 := by
  intro h
  exact hz (Int.gcd_eq_zero_iff.1 (Int.natCast_eq_zero.1 h)).1
 have hgJ := gcdJ jp jq
 have jx : J (bothS (rd a.f1 (c : Int)) (rd b.f1 (c : Int))) := tdiv_J (ab_J jq)
 have jy : J (Int.tdiv (ab (rd a.f1 (c : Int))) (Int.gcd (rd a.f1 (c : Int)) (rd b.f1 (c : Int)) : Int)) := tdiv_J (ab_J jp)
 have m1 := mix_ev jx.i jy.i (xs := a.f0) (ys := b.f0) (fun x hx => (ha.jy x hx).i) (fun x hx => (hb.jy x hx).i) (by rw [ha.y, hb.y]; omega)
 have m2 := mix_ev jx.i jy.i (xs := a.f1) (ys := b.f1) (fun x hx => (ha.jc x hx).i) (fun x hx => (hb.jc x hx).i) (by rw [ha.c, hb.c]; omega)
 refine Ev.congr (f := fun k => (whole_Gcd.f k (rd a.f1 (c : Int)) (rd b.f1 (c : Int))).bind fun t141 => (if t141 = 0 then (none) else ((whole_Mix.f k (wrap64 (Int.tdiv (ab (rd b.f1 (c : Int))) t141)) a.f0 (wrap64 (Int.tdiv (ab (rd a.f1 (c : Int))) t141)) b.f0).bind fun bt146 => ((whole_Mix.f k (wrap64 (Int.tdiv (ab (rd b.f1 (c : Int))) t141)) a.f1 (wrap64 (Int.tdiv (ab (rd a.f1 (c : Int))) t141)) b.f1).bind fun bt150 => (if bt146.2 = true then (basis_join.j0 k bt146.1 bt150.1 (!bt150.2)) else (basis_join.j0 k bt146.1 bt150.1 true)))))) (fun k => ?_) (Ev.bind (gcd_ev jp.i jq.i) ?_)
 ·unfold basis_join.f
  rw [if_pos (by omega), if_pos (by rw [ha.c]; omega), if_pos (by rw [hb.c]; omega), abs_is jp, abs_is jq]
  simp only [Option.bind_some]
 ·rw [wrap_id hgJ.i]
  simp only [if_neg hg0]
  rw [show wrap64 (Int.tdiv (ab (rd b.f1 (c : Int))) (Int.gcd (rd a.f1 (c : Int)) (rd b.f1 (c : Int)) : Int)) = bothS (rd a.f1 (c : Int)) (rd b.f1 (c : Int)) from wrap_id jx.i, wrap_id jy.i]
  refine Ev.bind m1 (Ev.bind m2 ?_)
  unfold joinS
  cases hu : mixS (bothS (rd a.f1 (c : Int)) (rd b.f1 (c : Int))) (Int.tdiv (ab (rd a.f1 (c : Int))) (Int.gcd (rd a.f1 (c : Int)) (rd b.f1 (c : Int)) : Int)) a.f0 b.f0 with
  | none =>
   simp only [told3, Bool.false_eq_true, if_false]
   exact Ev.step (f := fun _ => some ([], [], false)) (fun k => by simp only [basis_join.j0]; first | rfl | exact if_pos rfl) (Ev.now _)
  | some u =>
   cases hv : mixS (bothS (rd a.f1 (c : Int)) (rd b.f1 (c : Int))) (Int.tdiv (ab (rd a.f1 (c : Int))) (Int.gcd (rd a.f1 (c : Int)) (rd b.f1 (c : Int)) : Int)) a.f1 b.f1 with
   | none =>
    simp only [told3, if_true, Bool.not_false]
    exact Ev.step (f := fun _ => some ([], [], false)) (fun k => by simp only [basis_join.j0]; first | rfl | exact if_pos rfl) (Ev.now _)
   | some v =>
    simp only [told3, if_true, Bool.not_true]
    have lu := mixS_length _ _ _ hu
    have lv := mixS_length _ _ _ hv
    rw [ha.y, hb.y, Nat.min_self] at lu
    rw [ha.c, hb.c, Nat.min_self] at lv
    exact join_j n w hN u v lu lv (mixS_J _ _ _ hu) (mixS_J _ _ _ hv)
def innerS (c : Nat) (a : S66) : List S66 → List S66 → Except Int (List S66)
 | out, [] => .ok out
 | out, b :: t => if rd a.f1 (c : Int) = 0 ∨ rd b.f1 (c : Int) = 0 ∨ decide (rd a.f1 (c : Int) < 0) = decide (rd b.f1 (c : Int) < 0) then innerS c a out t else
  match joinS c a b with
  | none => .error 3
  | some r => if 400 < out.length + 1 then .error 5 else innerS c a (out ++ [r]) t
def outerS (c : Nat) : List S66 → List S66 → Except Int (List S66)
 | out, [] => .ok out
 | out, a :: t => match innerS c a out t with
  | .ok o => outerS c o t
  | .error e => .error e
def tellS : Except Int (List S66) → List S66 × Int
 | .ok o => (leastS o 0 o, 0)
 | .error e => ([], e)
def inS (K : List S66 → List S66 × Int) : Except Int (List S66) → List S66 × Int
 | .ok o => K o
 | .error e => ([], e)
theorem inner_loop (n w c : Nat) (hN : n + w < 17592186044416) (hc : c < w) (l t : List S66) (i : Nat) (a : S66) (ha : Rw n w a) (ht : ∀ r ∈ t, Rw n w r) (M : Nat) (hM : 400 ≤ M) (hM2 : M < 2932031007402) (htl : t.length ≤ 9223372036854775806) (K : List S66 → List S66 × Int)
 (hK : ∀ o, o.length ≤ M → (∀ r ∈ o, Rw n w r) → Ev (fun k => basis_column.l1 k l (c : Int) o l (l.length : Int) (wrap64 ((i : Int) + 1))) (K o)) (d : Nat) :
 ∀ (j : Nat) (out : List S66), t.length = j + d → out.length ≤ M → (∀ r ∈ out, Rw n w r) →
  Ev (fun k => basis_column.l2 k l (c : Int) out l (l.length : Int) (i : Int) t (t.length : Int) (j : Int) a.f0 a.f1) (inS K (innerS c a out (t.drop j))) := by
 induction d with
 | zero =>
  intro j out hj ho hr
  rw [List.drop_eq_nil_of_le (by omega)]
  simp only [innerS, inS]
  refine Ev.step (fun k => ?_) (hK out ho hr)
  simp only [basis_column.l2]
  rw [if_neg (by omega)]
 | succ d ih =>
  intro j out hj ho hr
  have e1 : wrap64 ((j : Int) + 1) = ((j + 1 : Nat) : Int) := by rw [wrap_add (n := t.length) (by omega) (by omega) (by omega)]; rfl
  have hb := ht _ (rdT_mem (l := t) (i := j) (by omega))
  rw [dropT_cons (l := t) (i := j) (by omega)]
  simp only [innerS]
  generalize hbe : rd_T66 t (j : Int) = b at hb
  have jt : Ev (fun k => basis_column.j3 k l (c : Int) out l (l.length : Int) (i : Int) t (t.length : Int) (j : Int) true a.f0 a.f1 b.f0 b.f1) (inS K (innerS c a out (t.drop (j + 1)))) := by
   refine Ev.step (fun k => ?_) (ih (j + 1) out (by omega) ho hr)
   simp only [basis_column.j3]
   rw [if_pos trivial, e1]
  by_cases c1 : rd a.f1 (c : Int) = 0
  ·rw [if_pos (.inl c1)]
   refine Ev.step (fun k => ?_) jt
   simp only [basis_column.l2]
   rw [if_pos (by omega), if_pos (by omega), if_pos (by omega), if_pos (by omega), if_pos (by rw [ha.c]; omega), if_pos c1, hbe]
  ·by_cases c2 : rd b.f1 (c : Int) = 0
   ·rw [if_pos (.inr (.inl c2))]
    refine Ev.step (fun k => ?_) jt
    simp only [basis_column.l2]
    rw [if_pos (by omega), if_pos (by omega), if_pos (by omega), if_pos (by omega), if_pos (by rw [ha.c]; omega), if_neg c1, hbe, if_pos (by rw [hb.c]; omega), if_pos c2]
   ·refine Ev.step (f := fun k => basis_column.j3 k l (c : Int) out l (l.length : Int) (i : Int) t (t.length : Int) (j : Int) (decide (rd a.f1 (c : Int) < 0) == decide (rd b.f1 (c : Int) < 0)) a.f0 a.f1 b.f0 b.f1) (fun k => ?_) ?_
    ·simp only [basis_column.l2]
     rw [if_pos (by omega), if_pos (by omega), if_pos (by omega), if_pos (by omega), if_pos (by rw [ha.c]; omega), if_neg c1, hbe, if_pos (by rw [hb.c]; omega), if_neg c2]
    ·by_cases c3 : decide (rd a.f1 (c : Int) < 0) = decide (rd b.f1 (c : Int) < 0)
     ·rw [if_pos (.inr (.inr c3)), beq_iff_eq.2 c3]
      exact jt
     ·rw [if_neg (by rintro (h | h | h) <;> contradiction), beq_eq_false_iff_ne.2 c3]
      refine Ev.step (f := fun k => (basis_join.f k a.f0 a.f1 b.f0 b.f1 (c : Int)).bind fun bt206 => (if bt206.2.2 = true then (if ((out ++ [(⟨bt206.1, bt206.2.1⟩ : S66)]).length : Int) > 400 then (some (([] : List S66), 5)) else (basis_column.l2 k l (c : Int) (out ++ [(⟨bt206.1, bt206.2.1⟩ : S66)]) l (l.length : Int) (i : Int) t (t.length : Int) ((j + 1 : Nat) : Int) a.f0 a.f1)) else (some (([] : List S66), 3)))) (fun k => ?_) (Ev.bind (join_ev n w c hN hc a b ha hb c1) ?_)
      ·simp only [basis_column.j3]
       rw [if_neg (by simp)]
       simp only [if_pos (show out.length < 2932031007402 by omega), Option.bind_some, e1]
      ·cases hjn : joinS c a b with
       | none =>
        simp only [told3, inS, Bool.false_eq_true, if_false]
        exact Ev.now _
       | some r =>
        simp only [told3, if_true]
        obtain ⟨_, _, _, _, _, _, _, hrr⟩ := joinS_some ha hb hjn
        by_cases c4 : 400 < out.length + 1
        ·have c4' : ((out ++ [(⟨r.f0, r.f1⟩ : S66)]).length : Int) > 400 := by rw [List.length_append, List.length_singleton]; omega
         simp only [if_pos c4, inS]
         exact Ev.congr (f := fun _ => some ([], 5)) (fun k => if_pos c4') (Ev.now _)
        ·have c4' : ¬ ((out ++ [(⟨r.f0, r.f1⟩ : S66)]).length : Int) > 400 := by rw [List.length_append, List.length_singleton]; omega
         simp only [if_neg c4]
         refine Ev.congr (f := fun k => basis_column.l2 k l (c : Int) (out ++ [r]) l (l.length : Int) (i : Int) t (t.length : Int) ((j + 1 : Nat) : Int) a.f0 a.f1) (fun k => if_neg c4') ?_
         refine ih (j + 1) (out ++ [r]) (by omega) (by simp; omega) (fun x hx => ?_)
         rcases List.mem_append.1 hx with hx | hx
         ·exact hr x hx
         ·exact List.mem_singleton.1 hx ▸ hrr
theorem innerS_rw {n w c : Nat} {a : S66} (ha : Rw n w a) (M : Nat) (hM : 400 ≤ M) : ∀ (t out o : List S66), (∀ r ∈ t, Rw n w r) → (∀ r ∈ out, Rw n w r) → out.length ≤ M → innerS c a out t = .ok o → (∀ r ∈ o, Rw n w r) ∧ o.length ≤ M
 | [], out, o, _, h2, h3, h => by
  simp only [innerS, Except.ok.injEq] at h
  exact h ▸ ⟨h2, h3⟩
 | b :: t, out, o, h1, h2, h3, h => by
  simp only [innerS] at h
  split at h
  ·exact innerS_rw ha M hM t out o (fun r hr => h1 r (List.mem_cons_of_mem _ hr)) h2 h3 h
  ·split at h
   ·cases h
   ·rename_i r hjn
    obtain ⟨_, _, _, _, _, _, _, hrr⟩ := joinS_some ha (h1 b List.mem_cons_self) hjn
    split at h
    ·cases h
    ·refine innerS_rw ha M hM t (out ++ [r]) o (fun r hr => h1 r (List.mem_cons_of_mem _ hr)) (fun x hx => ?_) (by simp; omega) h
     rcases List.mem_append.1 hx with hx | hx
     ·exact h2 x hx
     ·exact List.mem_singleton.1 hx ▸ hrr
theorem outerS_rw {n w c : Nat} (M : Nat) (hM : 400 ≤ M) : ∀ (t out o : List S66), (∀ r ∈ t, Rw n w r) → (∀ r ∈ out, Rw n w r) → out.length ≤ M → outerS c out t = .ok o → (∀ r ∈ o, Rw n w r) ∧ o.length ≤ M
 | [], out, o, _, h2, h3, h => by
  simp only [outerS, Except.ok.injEq] at h
  exact h ▸ ⟨h2, h3⟩
 | a :: t, out, o, h1, h2, h3, h => by
  simp only [outerS] at h
  split at h
  ·rename_i o1 hi
   obtain ⟨k1, k2⟩ := innerS_rw (h1 a List.mem_cons_self) M hM t out o1 (fun r hr => h1 r (List.mem_cons_of_mem _ hr)) h2 h3 hi
   exact outerS_rw M hM t o1 o (fun r hr => h1 r (List.mem_cons_of_mem _ hr)) k1 k2 h
  ·cases h
theorem outer_loop (n w c : Nat) (hN : n + w < 17592186044416) (hc : c < w) (l : List S66) (hl : ∀ r ∈ l, Rw n w r) (M : Nat) (hM : 400 ≤ M) (hM2 : M < 2932031007402) (hll : l.length ≤ M) (d : Nat) :
 ∀ (i : Nat) (out : List S66), l.length = i + d → out.length ≤ M → (∀ r ∈ out, Rw n w r) →
  Ev (fun k => basis_column.l1 k l (c : Int) out l (l.length : Int) (i : Int)) (tellS (outerS c out (l.drop i))) := by
 induction d with
 | zero =>
  intro i out hi ho hr
  rw [List.drop_eq_nil_of_le (by omega)]
  simp only [outerS, tellS]
  refine Ev.step (f := fun k => (basis_least.f k out).bind fun t190 => (some (t190, 0))) (fun k => ?_) (Ev.bind (least_ev n w (by omega) out hr (by omega)) (Ev.now _))
  simp only [basis_column.l1]
  rw [if_neg (by omega)]
 | succ d ih =>
  intro i out hi ho hr
  have e1 : wrap64 ((i : Int) + 1) = ((i + 1 : Nat) : Int) := by rw [wrap_add (n := l.length) (by omega) (by omega) (by omega)]; rfl
  have ha := hl _ (rdT_mem (l := l) (i := i) (by omega))
  rw [dropT_cons (l := l) (i := i) (by omega)]
  have h := inner_loop n w c hN hc l (l.drop (i + 1)) i _ ha (fun r hr => hl r (List.mem_of_mem_drop hr)) M hM hM2 (by simp; omega) (fun o => tellS (outerS c o (l.drop (i + 1)))) (fun o h1 h2 => by rw [e1]; exact ih (i + 1) o (by omega) h1 h2) (l.drop (i + 1)).length 0 out (by simp) ho hr
  rw [List.drop_zero] at h
  have e2 : tellS (outerS c out (rd_T66 l (i : Int) :: l.drop (i + 1))) = inS (fun o => tellS (outerS c o (l.drop (i + 1)))) (innerS c (rd_T66 l (i : Int)) out (l.drop (i + 1))) := by
   simp only [outerS]
   cases innerS c (rd_T66 l (i : Int)) out (l.drop (i + 1)) <;> rfl
  rw [e2]
  refine Ev.step (fun k => ?_) h
  simp only [basis_column.l1]
  rw [if_pos (by omega), if_pos (by omega), if_pos (by omega), e1, if_pos (by omega), if_pos (by omega)]
  simp only [Option.bind_some, Int.toNat_natCast]
  rfl
def zeroS (c : Nat) (l : List S66) : List S66 := l.filter fun r => rd r.f1 (c : Int) == 0
theorem zero_col (n w c : Nat) (hN : n + w < 17592186044416) (hc : c < w) (l : List S66) (hl : ∀ r ∈ l, Rw n w r) (M : Nat) (hM : 400 ≤ M) (hM2 : M < 2932031007402) (hll : l.length ≤ M) (d : Nat) :
 ∀ (i : Nat) (out : List S66), l.length = i + d → out.length ≤ i → (∀ r ∈ out, Rw n w r) →
  Ev (fun k => basis_column.l0 k l (c : Int) out l (l.length : Int) (i : Int)) (tellS (outerS c (out ++ zeroS c (l.drop i)) l)) := by
 induction d with
 | zero =>
  intro i out hi ho hr
  rw [List.drop_eq_nil_of_le (by omega)]
  have h := outer_loop n w c hN hc l hl M hM hM2 hll l.length 0 out (by simp) (by omega) hr
  rw [List.drop_zero] at h
  simp only [zeroS, List.filter_nil, List.append_nil]
  refine Ev.step (fun k => ?_) h
  simp only [basis_column.l0]
  rw [if_neg (by omega)]
  rfl
 | succ d ih =>
  intro i out hi ho hr
  have e1 : wrap64 ((i : Int) + 1) = ((i + 1 : Nat) : Int) := by rw [wrap_add (n := l.length) (by omega) (by omega) (by omega)]; rfl
  have ha := hl _ (rdT_mem (l := l) (i := i) (by omega))
  rw [dropT_cons (l := l) (i := i) (by omega)]
  by_cases c1 : rd (rd_T66 l (i : Int)).f1 (c : Int) = 0
  ·have e2 : out ++ zeroS c (rd_T66 l (i : Int) :: l.drop (i + 1)) = (out ++ [rd_T66 l (i : Int)]) ++ zeroS c (l.drop (i + 1)) := by
    unfold zeroS
    rw [List.filter_cons_of_pos (by rw [c1]; rfl)]
    simp
   rw [e2]
   refine Ev.step (fun k => ?_) (ih (i + 1) (out ++ [rd_T66 l (i : Int)]) (by omega) (by simp; omega) (fun x hx => ?_))
   ·simp only [basis_column.l0]
    rw [if_pos (by omega), if_pos (by omega), if_pos (by omega), if_pos (by omega), if_pos (by rw [ha.c]; omega), if_pos c1, if_pos (by omega), e1]
   ·rcases List.mem_append.1 hx with hx | hx
    ·exact hr x hx
    ·exact List.mem_singleton.1 hx ▸ ha
  ·have e2 : zeroS c (rd_T66 l (i : Int) :: l.drop (i + 1)) = zeroS c (l.drop (i + 1)) := by
    unfold zeroS
    rw [List.filter_cons_of_neg (by rw [beq_eq_false_iff_ne.2 c1]; simp)]
   rw [e2]
   refine Ev.step (fun k => ?_) (ih (i + 1) out (by omega) (by omega) hr)
   simp only [basis_column.l0]
   rw [if_pos (by omega), if_pos (by omega), if_pos (by omega), if_pos (by omega), if_pos (by rw [ha.c]; omega), if_neg c1, e1]
def columnS (c : Nat) (l : List S66) : Except Int (List S66) := outerS c (zeroS c l) l
theorem column_ev (n w c : Nat) (hN : n + w < 17592186044416) (hc : c < w) (l : List S66) (hl : ∀ r ∈ l, Rw n w r) (hll : l.length < 2932031007402) :
 Ev (fun k => basis_column.f k l (c : Int)) (tellS (columnS c l)) := by
 have h := zero_col n w c hN hc l hl (max 400 l.length) (by omega) (by omega) (by omega) l.length 0 [] (by simp) (by simp) (by simp)
 rw [List.drop_zero, List.nil_append] at h
 unfold basis_column.f columnS
 exact h

theorem innerS_err {c : Nat} {a : S66} {e : Int} : ∀ {t out : List S66}, innerS c a out t = .error e → e = 3 ∨ e = 5
 | [], out, h => by simp [innerS] at h
 | b :: t, out, h => by
  simp only [innerS] at h
  split at h
  ·exact innerS_err h
  ·split at h
   ·exact .inl (by simpa using h.symm)
   ·split at h
    ·exact .inr (by simpa using h.symm)
    ·exact innerS_err h
theorem outerS_err {c : Nat} {e : Int} : ∀ {t out : List S66}, outerS c out t = .error e → e = 3 ∨ e = 5
 | [], out, h => by simp [outerS] at h
 | a :: t, out, h => by
  simp only [outerS] at h
  split at h
  ·exact outerS_err h
  ·rename_i e' hi
   cases h
   exact innerS_err hi
def unitS (n i : Nat) : List Int := (List.replicate n 0).set i 1
def startS (n : Nat) : Nat → List (List Int) → List S66
 | _, [] => []
 | i, r :: m => ⟨unitS n i, r⟩ :: startS n (i + 1) m
def colsS : Nat → Nat → List S66 → Except Int (List S66)
 | 0, _, l => .ok l
 | d + 1, c, l => match columnS c l with
  | .ok o => colsS d (c + 1) (leastS o 0 o)
  | .error e => .error e
def widthS (m : List (List Int)) : Nat := match m with | [] => 0 | r :: _ => r.length
def outS : Except Int (List S66) → List (List Int) × Int
 | .ok l => (l.map S66.f0, 0)
 | .error e => ([], e)
def findS (m : List (List Int)) : List (List Int) × Int := outS (colsS (widthS m) 0 (startS m.length 0 m))
theorem startS_len (n : Nat) : ∀ (m : List (List Int)) (i : Nat), (startS n i m).length = m.length
 | [], _ => rfl
 | r :: m, i => by simp [startS, startS_len n m]
theorem unit_J (n i : Nat) : ∀ x ∈ unitS n i, J x := by
 intro x hx
 unfold unitS at hx
 rcases List.mem_or_eq_of_mem_set hx with h | h
 ·rw [(List.mem_replicate.1 h).2]; unfold J; omega
 ·rw [h]; unfold J; omega
theorem startS_rw {n w : Nat} : ∀ (m : List (List Int)) (i : Nat), (∀ r ∈ m, r.length = w) → (∀ r ∈ m, ∀ x ∈ r, J x) → ∀ r ∈ startS n i m, Rw n w r
 | [], _, _, _, r, h => by simp [startS] at h
 | a :: m, i, h1, h2, r, h => by
  rcases List.mem_cons.1 h with rfl | h
  ·exact ⟨by simp [unitS], h1 a List.mem_cons_self, unit_J n i, h2 a List.mem_cons_self⟩
  ·exact startS_rw m (i + 1) (fun r hr => h1 r (List.mem_cons_of_mem _ hr)) (fun r hr => h2 r (List.mem_cons_of_mem _ hr)) r h
theorem find_out (l : List S66) (hb : l.length < 2932031007402) (d : Nat) : ∀ (i : Nat) (out : List (List Int)), l.length = i + d → out.length ≤ i →
 Ev (fun k => basis_Find.l2 k out l (l.length : Int) (i : Int)) (out ++ (l.drop i).map S66.f0, 0) := by
 induction d with
 | zero =>
  intro i out hi ho
  rw [List.drop_eq_nil_of_le (by omega)]
  simp only [List.map_nil, List.append_nil]
  exact Ev.step (f := fun _ => some (out, 0)) (fun k => by simp only [basis_Find.l2]; rw [if_neg (by omega)]) (Ev.now _)
 | succ d ih =>
  intro i out hi ho
  have e1 : wrap64 ((i : Int) + 1) = ((i + 1 : Nat) : Int) := by rw [wrap_add (n := l.length) (by omega) (by omega) (by omega)]; rfl
  have h := ih (i + 1) (out ++ [(rd_T66 l (i : Int)).f0]) (by omega) (by simp; omega)
  rw [dropT_cons (l := l) (i := i) (by omega)]
  rw [List.append_assoc] at h
  refine Ev.step (fun k => ?_) h
  simp only [basis_Find.l2]
  rw [if_pos (by omega), if_pos (by omega), if_pos (by omega), if_pos (by omega), e1]
theorem find_cols (n w : Nat) (hN : n + w < 17592186044416) (d : Nat) : ∀ (c : Nat) (l : List S66), w = c + d → (∀ r ∈ l, Rw n w r) → l.length < 2932031007402 →
 Ev (fun k => basis_Find.l1 k l (w : Int) (c : Int)) (outS (colsS d c l)) := by
 induction d with
 | zero =>
  intro c l hw hl hb
  have h := find_out l hb l.length 0 [] (by simp) (by simp)
  rw [List.drop_zero, List.nil_append] at h
  refine Ev.step (fun k => ?_) h
  simp only [basis_Find.l1]
  rw [if_neg (by omega)]
  rfl
 | succ d ih =>
  intro c l hw hl hb
  have e1 : wrap64 ((c : Int) + 1) = ((c + 1 : Nat) : Int) := by rw [wrap_add (n := w) (by omega) (by omega) (by omega)]; rfl
  refine Ev.step (f := fun k => (basis_column.f k l (c : Int)).bind fun bt229 => (if bt229.2 = 0 then (basis_Find.l1 k bt229.1 (w : Int) ((c + 1 : Nat) : Int)) else (some (([] : List (List Int)), bt229.2)))) (fun k => ?_) (Ev.bind (column_ev n w c hN (by omega) l hl hb) ?_)
  ·simp only [basis_Find.l1]
   rw [if_pos (by omega), e1]
  ·simp only [colsS]
   cases hcol : columnS c l with
   | ok o =>
    simp only [tellS, if_true]
    have hrw := outerS_rw (n := n) (w := w) (max 400 l.length) (by omega) l (zeroS c l) o hl (fun r hr => hl r (List.mem_filter.1 hr).1) (Nat.le_trans (List.length_filter_le _ _) (by omega)) hcol
    refine ih (c + 1) (leastS o 0 o) (by omega) (fun r hr => hrw.1 r (leastS_mem o o 0 r hr)) ?_
    have := leastS_len o o 0
    omega
   | error e =>
    have he : e ≠ 0 := by rcases outerS_err hcol with h | h <;> omega
    simp only [tellS, outS]
    exact Ev.congr (f := fun _ => some ([], e)) (fun k => if_neg he) (Ev.now _)
theorem find_start (m : List (List Int)) (w : Nat) (hw : widthS m = w) (hm : ∀ r ∈ m, r.length = w) (hb : m.length < 2932031007402) (R : List (List Int) × Int)
 (hend : Ev (fun k => basis_Find.l1 k (startS m.length 0 m) (w : Int) 0) R) (d : Nat) :
 ∀ (i : Nat) (out : List S66), m.length = i + d → out.length = i → out ++ startS m.length i (m.drop i) = startS m.length 0 m → w < 17592186044416 →
  Ev (fun k => basis_Find.l0 k m out (m.length : Int) (i : Int)) R := by
 induction d with
 | zero =>
  intro i out hi ho he hw2
  rw [List.drop_eq_nil_of_le (by omega)] at he
  simp only [startS, List.append_nil] at he
  subst he
  refine Ev.step (fun k => ?_) hend
  simp only [basis_Find.l0]
  rw [if_neg (by omega)]
  have : basis_width.f m = some (w : Int) := by
   unfold basis_width.f
   cases m with
   | nil => simp only [widthS] at hw; subst hw; rfl
   | cons a m => simp only [widthS] at hw; subst hw; rw [if_neg (by simp; omega), if_pos (by simp)]; rfl
  rw [this]
  rfl
 | succ d ih =>
  intro i out hi ho he hw2
  have e1 : wrap64 ((i : Int) + 1) = ((i + 1 : Nat) : Int) := by rw [wrap_add (n := m.length) (by omega) (by omega) (by omega)]; rfl
  have hr := hm _ (rdL_mem (m := m) (i := i) (by omega))
  rw [dropL_cons (m := m) (i := i) (by omega)] at he
  simp only [startS] at he
  refine Ev.step (fun k => ?_) (ih (i + 1) (out ++ [⟨unitS m.length i, rd_L1 m (i : Int)⟩]) (by omega) (by simp; omega) (by rw [List.append_assoc]; exact he) hw2)
  simp only [basis_Find.l0, slices_Clone_int_int.f]
  rw [if_pos (by omega), if_pos (by omega), if_pos (by omega)]
  simp only [Option.bind_some, Int.toNat_natCast, List.length_replicate]
  rw [if_pos (by omega), if_pos (by omega), if_pos (by omega), if_pos (by omega)]
  simp only [Option.bind_some]
  rw [if_pos (by omega), e1]
  rfl
theorem find_ev (m : List (List Int)) (w : Nat) (hw : widthS m = w) (hm : ∀ r ∈ m, r.length = w) (hJ : ∀ r ∈ m, ∀ x ∈ r, J x) (hb : m.length < 2932031007402) (hN : m.length + w < 17592186044416) :
 Ev (fun k => basis_Find.f k m) (findS m) := by
 have h := find_cols m.length w hN w 0 (startS m.length 0 m) (by omega) (startS_rw m 0 hm hJ) (by rw [startS_len]; exact hb)
 have h2 := find_start m w hw hm hb _ h m.length 0 [] (by simp) rfl (by simp) (by omega)
 unfold findS
 rw [hw]
 exact h2

theorem find_rows (m : List (List Int)) (c : Nat) (hm : ∀ r ∈ m, r.length = c) (hJ : ∀ r ∈ m, ∀ x ∈ r, J x) (hb : m.length < 2932031007402) (hN : m.length + c < 17592186044416) :
 Ev (fun k => basis_Find.f k m) (findS m) := by
 cases m with
 | nil => exact find_ev [] 0 rfl (by simp) (by simp) (by simp) (by simp)
 | cons a m => exact find_ev (a :: m) c (hm a List.mem_cons_self) hm hJ hb hN

theorem getElem_drop_zero {l : List S66} {k : Nat} {o : S66} {t : List S66} (h : o :: t = l.drop k) : ∃ hk : k < l.length, l[k] = o ∧ t = l.drop (k + 1) := by
 have hk : k < l.length := by
  rcases Nat.lt_or_ge k l.length with h1 | h1
  ·exact h1
  ·rw [List.drop_eq_nil_of_le h1] at h; cases h
 rw [List.drop_eq_getElem_cons hk] at h
 injection h with h1 h2
 exact ⟨hk, h1.symm, h2⟩
/-- What a row that is kept has beside it. -/
theorem keepS_spec (all : List S66) (y : List Int) (i : Nat) : ∀ (l : List S66) (k : Nat), l = all.drop k → keepS y i k l = true → ∀ (j : Nat) (hj : j < all.length), k ≤ j → j ≠ i → winS all[j].f0 y = true → winS y all[j].f0 = true ∧ ¬ j < i
 | [], k, hl, _, j, hj, hkj, _, _ => by
  have := congrArg List.length hl
  simp at this; omega
 | o :: t, k, hl, h, j, hj, hkj, hji, hw => by
  obtain ⟨hk, ho, ht⟩ := getElem_drop_zero hl
  have rest : keepS y i (k + 1) t = true → k + 1 ≤ j → winS y all[j].f0 = true ∧ ¬ j < i := fun h2 h3 => keepS_spec all y i t (k + 1) ht h2 j hj h3 hji hw
  rcases Nat.lt_or_ge k j with h1 | h1
  ·refine rest ?_ h1
   simp only [keepS] at h
   split at h
   ·exact h
   ·split at h
    ·split at h
     ·split at h
      ·cases h
      ·exact h
     ·cases h
    ·exact h
  ·obtain rfl : k = j := by omega
   rw [ho] at hw ⊢
   simp only [keepS] at h
   rw [if_neg hji, if_pos hw] at h
   split at h
   ·rename_i h2
    split at h
    ·cases h
    ·rename_i h3; exact ⟨h2, h3⟩
   ·cases h
theorem leastS_idx (all : List S66) : ∀ (l : List S66) (i : Nat), l = all.drop i → ∀ b ∈ leastS all i l, ∃ (j : Nat) (hj : j < all.length), i ≤ j ∧ all[j] = b ∧ keepS b.f0 j 0 all = true
 | [], _, _, b, hb => by simp [leastS] at hb
 | r :: t, i, hl, b, hb => by
  obtain ⟨hi, hr, ht⟩ := getElem_drop_zero hl
  have rest : b ∈ leastS all (i + 1) t → ∃ (j : Nat) (hj : j < all.length), i ≤ j ∧ all[j] = b ∧ keepS b.f0 j 0 all = true := fun h => by
   obtain ⟨j, hj, h1, h2⟩ := leastS_idx all t (i + 1) ht b h
   exact ⟨j, hj, by omega, h2⟩
  simp only [leastS] at hb
  split at hb
  ·rename_i hk
   rcases List.mem_cons.1 hb with rfl | h
   ·exact ⟨i, hi, Nat.le_refl _, hr, hk⟩
   ·exact rest h
  ·exact rest hb
/-- None of two rows that are kept lies within the other. -/
theorem leastS_apart (all : List S66) : ∀ (l : List S66) (i : Nat), l = all.drop i → (leastS all i l).Pairwise fun a b => winS a.f0 b.f0 = false ∧ winS b.f0 a.f0 = false
 | [], _, _ => List.Pairwise.nil
 | r :: t, i, hl => by
  obtain ⟨hi, hr, ht⟩ := getElem_drop_zero hl
  simp only [leastS]
  split
  ·rename_i hk
   refine List.pairwise_cons.2 ⟨fun b hb => ?_, leastS_apart all t (i + 1) ht⟩
   obtain ⟨j, hj, hij, hb1, hb2⟩ := leastS_idx all t (i + 1) ht b hb
   have k1 := keepS_spec all r.f0 i all 0 rfl hk j hj (by omega) (by omega)
   have k2 := keepS_spec all b.f0 j all 0 rfl hb2 i hi (by omega) (by omega)
   rw [hb1] at k1
   rw [hr] at k2
   constructor
   ·cases h : winS r.f0 b.f0 with
    | false => rfl
    | true =>
     have := k2 h
     omega
   ·cases h : winS b.f0 r.f0 with
    | false => rfl
    | true =>
     have := k2 (k1 h).1
     omega
  ·exact leastS_apart all t (i + 1) ht
theorem colsS_rw {n w : Nat} : ∀ (d c : Nat) (l r : List S66), (∀ x ∈ l, Rw n w x) → l.length ≤ 400 → colsS d c l = .ok r → (∀ x ∈ r, Rw n w x) ∧ r.length ≤ 400 ∧ (0 < d → r.Pairwise fun a b => winS a.f0 b.f0 = false ∧ winS b.f0 a.f0 = false)
 | 0, c, l, r, h1, h2, h => by
  simp only [colsS, Except.ok.injEq] at h
  subst h
  exact ⟨h1, h2, fun h => absurd h (by omega)⟩
 | d + 1, c, l, r, h1, h2, h => by
  simp only [colsS] at h
  split at h
  ·rename_i o ho
   obtain ⟨k1, k2⟩ := outerS_rw 400 (by omega) l (zeroS c l) o h1 (fun x hx => h1 x (List.mem_filter.1 hx).1) (Nat.le_trans (List.length_filter_le _ _) h2) ho
   have k3 : (leastS o 0 o).length ≤ 400 := Nat.le_trans (leastS_len o o 0) k2
   have k4 : ∀ x ∈ leastS o 0 o, Rw n w x := fun x hx => k1 x (leastS_mem o o 0 x hx)
   obtain ⟨g1, g2, g3⟩ := colsS_rw d (c + 1) _ r k4 k3 h
   refine ⟨g1, g2, fun _ => ?_⟩
   cases d with
   | zero =>
    simp only [colsS, Except.ok.injEq] at h
    subst h
    exact leastS_apart o o 0 rfl
   | succ d => exact g3 (by omega)
  ·cases h
theorem colsS_err : ∀ (d c : Nat) (l : List S66) (e : Int), colsS d c l = .error e → e = 3 ∨ e = 5
 | 0, _, _, _, h => by simp [colsS] at h
 | d + 1, c, l, e, h => by
  simp only [colsS] at h
  split at h
  ·exact colsS_err d (c + 1) _ e h
  ·rename_i e1 h1
   have : e1 = e := by simpa using h
   exact this ▸ outerS_err h1
theorem mixS_get {a b : Int} : ∀ (xs ys r : List Int), mixS a b xs ys = some r → ∀ i : Nat, i < xs.length → i < ys.length → rd r (i : Int) = a * rd xs (i : Int) + b * rd ys (i : Int)
 | [], _, _, _, i, h, _ => by simp at h
 | _ :: _, [], _, _, i, _, h => by simp at h
 | x :: xs, y :: ys, r, h, i, h1, h2 => by
  rw [mixS_cons] at h
  split at h
  ·rename_i hd
   split at h
   ·cases h
   ·cases hm : mixS a b xs ys with
    | none => rw [hm] at h; cases h
    | some r' =>
     rw [hm] at h
     obtain rfl := Option.some.inj h
     cases i with
     | zero => exact (dot2_is hd).1
     | succ i =>
      have := mixS_get xs ys r' hm i (by simpa using h1) (by simpa using h2)
      simpa [rd] using this
  ·cases h
/-- A part of a vector, by what all its numbers have. -/
theorem normS_get (l : List Int) (i : Nat) (hi : i < l.length) : ∃ g : Nat, 0 < g ∧ (g : Int) * rd (normS l) (i : Int) = rd l (i : Int) := by
 unfold normS
 split
 ·rename_i hg
  refine ⟨gl 0 l, by omega, ?_⟩
  have hd : (gl 0 l) ∣ (rd l (i : Int)).natAbs := gl_dvd l _ (rd_mem (by omega) (by omega))
  have e : rd (l.map fun x => Int.tdiv x (gl 0 l : Int)) (i : Int) = Int.tdiv (rd l (i : Int)) (gl 0 l : Int) := by
   unfold rd; rw [Int.toNat_natCast, List.getD_eq_getElem?_getD, List.getD_eq_getElem?_getD, List.getElem?_map, List.getElem?_eq_getElem hi]; rfl
  rw [e]
  exact Int.mul_tdiv_cancel' (Int.ofNat_dvd_left.2 hd)
 ·exact ⟨1, by omega, by simp⟩
theorem both_pos {p q : Int} (hq : q ≠ 0) : 0 < bothS p q := by
 unfold bothS
 have hg : (Int.gcd p q) ∣ q.natAbs := Int.gcd_dvd_natAbs_right p q
 have hg0 : 0 < Int.gcd p q := Int.gcd_pos_of_ne_zero_right _ hq
 obtain ⟨t, ht⟩ := hg
 have hab : ab q = ((Int.gcd p q : Nat) : Int) * (t : Int) := by rw [ab_nat, ht]; push_cast; rfl
 rw [hab, Int.mul_tdiv_cancel_left _ (by omega)]
 have : t ≠ 0 := by intro e; rw [e] at ht; simp at ht; exact hq ht
 omega
theorem rd_take {l : List Int} {n i : Nat} (h : i < n) : rd (l.take n) (i : Int) = rd l (i : Int) := by
 unfold rd; rw [Int.toNat_natCast, List.getD_eq_getElem?_getD, List.getD_eq_getElem?_getD, List.getElem?_take_of_lt h]
theorem rd_app {l m : List Int} {i : Nat} (h : i < l.length) : rd (l ++ m) (i : Int) = rd l (i : Int) := by
 unfold rd; rw [Int.toNat_natCast, List.getD_eq_getElem?_getD, List.getD_eq_getElem?_getD, List.getElem?_append_left h]
section
variable (q w : Nat)
/-- The row of a place by itself. -/
def Al (r : S66) : Prop := (∀ i : Nat, i < q → rd r.f0 (i : Int) = 0) ∧ rd r.f0 (q : Int) ≠ 0 ∧ ∀ c : Nat, c < w → rd r.f1 (c : Int) = 0
/-- A row of the other places. -/
def Bt (r : S66) : Prop := rd r.f0 (q : Int) = 0 ∧ (∀ i : Nat, i < q + 1 → 0 ≤ rd r.f0 (i : Int)) ∧ ∃ i : Nat, i < q + 1 ∧ 0 < rd r.f0 (i : Int)
theorem join_bt {c : Nat} (hc : c < w) {a b r : S66} (ra : Rw (q + 1) w a) (rb : Rw (q + 1) w b) (ha : Al q w a ∨ Bt q a) (hb : Al q w b ∨ Bt q b) (na : rd a.f1 (c : Int) ≠ 0) (nb : rd b.f1 (c : Int) ≠ 0) (h : joinS c a b = some r) : Bt q r := by
 have ba : Bt q a := ha.resolve_left fun h => na (h.2.2 c hc)
 have bb : Bt q b := hb.resolve_left fun h => nb (h.2.2 c hc)
 obtain ⟨u, v, hu, hv, lu, lv, hr, _⟩ := joinS_some ra rb h
 have px : 0 < bothS (rd a.f1 c) (rd b.f1 c) := both_pos nb
 have py : 0 < Int.tdiv (ab (rd a.f1 c)) (Int.gcd (rd a.f1 c) (rd b.f1 c) : Int) := by
  rw [Int.gcd_comm]; exact both_pos na
 obtain ⟨x, hx⟩ : ∃ x, bothS (rd a.f1 c) (rd b.f1 c) = x := ⟨_, rfl⟩
 obtain ⟨y, hy⟩ : ∃ y, Int.tdiv (ab (rd a.f1 c)) (Int.gcd (rd a.f1 c) (rd b.f1 c) : Int) = y := ⟨_, rfl⟩
 rw [hx] at px
 rw [hy] at py
 rw [hx, hy] at hu
 have get : ∀ i : Nat, i < q + 1 → ∃ g : Nat, 0 < g ∧ (g : Int) * rd r.f0 (i : Int) = x * rd a.f0 (i : Int) + y * rd b.f0 (i : Int) := by
  intro i hi
  obtain ⟨g, hg, he⟩ := normS_get (u ++ v) i (by simp; omega)
  refine ⟨g, hg, ?_⟩
  rw [hr]
  show (g : Int) * rd ((normS (u ++ v)).take u.length) (i : Int) = _
  rw [rd_take (by omega), he, rd_app (by omega)]
  exact mixS_get _ _ _ hu i (by rw [ra.y]; exact hi) (by rw [rb.y]; exact hi)
 refine ⟨?_, fun i hi => ?_, ?_⟩
 ·obtain ⟨g, hg, he⟩ := get q (by omega)
  rw [ba.1, bb.1, Int.mul_zero, Int.mul_zero] at he
  exact (Int.mul_eq_zero.1 he).resolve_left (by omega)
 ·obtain ⟨g, hg, he⟩ := get i hi
  have h1 := Int.mul_nonneg (Int.le_of_lt px) (ba.2.1 i hi)
  have h2 := Int.mul_nonneg (Int.le_of_lt py) (bb.2.1 i hi)
  refine Int.not_lt.1 fun hn => ?_
  have := Int.mul_neg_of_pos_of_neg (show (0 : Int) < (g : Int) by omega) hn
  omega
 ·obtain ⟨i, hi, hp⟩ := ba.2.2
  refine ⟨i, hi, ?_⟩
  obtain ⟨g, hg, he⟩ := get i hi
  have h1 := Int.mul_pos px hp
  have h2 := Int.mul_nonneg (Int.le_of_lt py) (bb.2.1 i hi)
  refine Int.not_le.1 fun hn => ?_
  have := Int.mul_nonpos_of_nonneg_of_nonpos (show (0 : Int) ≤ (g : Int) by omega) hn
  omega
theorem inner_bt {c : Nat} (hc : c < w) {a : S66} (ra : Rw (q + 1) w a) (ha : Al q w a ∨ Bt q a) : ∀ (t out o : List S66), (∀ r ∈ t, Rw (q + 1) w r) → (∀ r ∈ t, Al q w r ∨ Bt q r) → innerS c a out t = .ok o → ∃ s, o = out ++ s ∧ ∀ r ∈ s, Bt q r
 | [], out, o, _, _, h => by
  simp only [innerS, Except.ok.injEq] at h
  exact ⟨[], by simp [h], fun r hr => by simp at hr⟩
 | b :: t, out, o, h1, h2, h => by
  have r1 := fun r hr => h1 r (List.mem_cons_of_mem b hr)
  have r2 := fun r hr => h2 r (List.mem_cons_of_mem b hr)
  simp only [innerS] at h
  split at h
  ·exact inner_bt hc ra ha t out o r1 r2 h
  ·rename_i hcond
   split at h
   ·cases h
   ·rename_i r hj
    have hb := join_bt q w hc ra (h1 b List.mem_cons_self) ha (h2 b List.mem_cons_self) (fun e => hcond (.inl e)) (fun e => hcond (.inr (.inl e))) hj
    split at h
    ·cases h
    ·obtain ⟨s, hs, hs2⟩ := inner_bt hc ra ha t (out ++ [r]) o r1 r2 h
     refine ⟨r :: s, by rw [hs]; simp, fun x hx => ?_⟩
     rcases List.mem_cons.1 hx with rfl | hx
     ·exact hb
     ·exact hs2 x hx
theorem outer_bt {c : Nat} (hc : c < w) : ∀ (t out o : List S66), (∀ r ∈ t, Rw (q + 1) w r) → (∀ r ∈ t, Al q w r ∨ Bt q r) → outerS c out t = .ok o → ∃ s, o = out ++ s ∧ ∀ r ∈ s, Bt q r
 | [], out, o, _, _, h => by
  simp only [outerS, Except.ok.injEq] at h
  exact ⟨[], by simp [h], fun r hr => by simp at hr⟩
 | a :: t, out, o, h1, h2, h => by
  have r1 := fun r hr => h1 r (List.mem_cons_of_mem a hr)
  have r2 := fun r hr => h2 r (List.mem_cons_of_mem a hr)
  simp only [outerS] at h
  split at h
  ·rename_i o1 hi
   obtain ⟨s1, e1, b1⟩ := inner_bt q w hc (h1 a List.mem_cons_self) (h2 a List.mem_cons_self) t out o1 r1 r2 hi
   obtain ⟨s2, e2, b2⟩ := outer_bt hc t o1 o r1 r2 h
   refine ⟨s1 ++ s2, by rw [e2, e1, List.append_assoc], fun r hr => ?_⟩
   rcases List.mem_append.1 hr with h | h
   ·exact b1 r h
   ·exact b2 r h
  ·cases h
/-- One row of the place by itself, and others. -/
structure Inv (l : List S66) : Prop where
 rw_ : ∀ r ∈ l, Rw (q + 1) w r
 is : ∀ r ∈ l, Al q w r ∨ Bt q r
 one : (l.filter fun r => rd r.f0 (q : Int) != 0).length = 1
theorem winS_get : ∀ {a b : List Int}, a.length = b.length → winS a b = true → ∀ i : Nat, i < a.length → rd a (i : Int) ≠ 0 → rd b (i : Int) ≠ 0
 | [], _, _, _, i, h, _ => by simp at h
 | x :: xs, [], h, _, _, _, _ => by simp at h
 | x :: xs, y :: ys, h, hw, i, hi, hn => by
  rw [winS_cons, Bool.and_eq_true] at hw
  cases i with
  | zero =>
   have hx : x ≠ 0 := hn
   have := hw.1
   simp [hx] at this
   exact this
  | succ i =>
   have hn' : rd xs (i : Int) ≠ 0 := by simpa [rd] using hn
   have := winS_get (a := xs) (b := ys) (by simpa using h) hw.2 i (by simpa using hi) hn'
   simpa [rd] using this
theorem keep_al (all : List S66) (hall : Inv q w all) {i : Nat} (hi : i < all.length) (ha : rd all[i].f0 (q : Int) ≠ 0) : ∀ (l : List S66) (k : Nat), l = all.drop k → keepS all[i].f0 i k l = true
 | [], _, _ => rfl
 | o :: t, k, hl => by
  obtain ⟨hk, ho, ht⟩ := getElem_drop_zero hl
  have rest := keep_al all hall hi ha t (k + 1) ht
  simp only [keepS]
  by_cases h1 : k = i
  ·rw [if_pos h1]; exact rest
  ·rw [if_neg h1]
   have ho2 : rd o.f0 (q : Int) = 0 := by
    refine Decidable.byContradiction fun hne => ?_
    -- two rows of the place by itself
    have hone := hall.one
    have hm : ∀ (i k : Nat) (hi : i < all.length) (hk : k < all.length), i < k → rd all[i].f0 (q : Int) ≠ 0 → rd all[k].f0 (q : Int) ≠ 0 → False := by
     intro i k hi hk hik h1 h2
     have e : all = all.take (i + 1) ++ all.drop (i + 1) := (List.take_append_drop _ _).symm
     rw [e, List.filter_append, List.length_append] at hone
     have m1 : all[i] ∈ (all.take (i + 1)).filter fun r => rd r.f0 (q : Int) != 0 := List.mem_filter.2 ⟨by rw [List.take_succ_eq_append_getElem hi]; exact List.mem_append_right _ (List.mem_singleton.2 rfl), by simpa using h1⟩
     have m2 : all[k] ∈ (all.drop (i + 1)).filter fun r => rd r.f0 (q : Int) != 0 := List.mem_filter.2 ⟨List.mem_drop_iff_getElem.2 ⟨k - (i + 1), by omega, by congr 1; omega⟩, by simpa using h2⟩
     have l1 := List.length_pos_of_mem m1
     have l2 := List.length_pos_of_mem m2
     omega
    rcases Nat.lt_or_ge i k with h | h
    ·exact hm i k hi hk h ha (by rw [ho]; exact hne)
    ·exact hm k i hk hi (by omega) (by rw [ho]; exact hne) ha
   have hob : Bt q o := (hall.is o (ho ▸ List.getElem_mem hk)).resolve_left fun h => h.2.1 ho2
   have hal : Al q w all[i] := (hall.is _ (List.getElem_mem hi)).resolve_right fun h => ha h.1
   have hw : winS o.f0 all[i].f0 = false := by
    cases h : winS o.f0 all[i].f0 with
    | false => rfl
    | true =>
     obtain ⟨j, hj, hp⟩ := hob.2.2
     have lo := (hall.rw_ o (ho ▸ List.getElem_mem hk)).y
     have la := (hall.rw_ _ (List.getElem_mem hi)).y
     have := winS_get (by rw [lo, la]) h j (by omega) (by omega)
     rcases Nat.lt_or_ge j q with h3 | h3
     ·exact absurd (hal.1 j h3) this
     ·rw [show j = q by omega] at hp; omega
   rw [if_neg (by rw [hw]; simp)]
   exact rest
theorem least_filter (all : List S66) (hall : Inv q w all) : ∀ (l : List S66) (i : Nat), l = all.drop i → ((leastS all i l).filter fun r => rd r.f0 (q : Int) != 0) = l.filter fun r => rd r.f0 (q : Int) != 0
 | [], _, _ => rfl
 | r :: t, i, hl => by
  obtain ⟨hi, hr, ht⟩ := getElem_drop_zero hl
  have rest := least_filter all hall t (i + 1) ht
  simp only [leastS]
  by_cases h : rd r.f0 (q : Int) = 0
  ·have hb : (rd r.f0 (q : Int) != 0) = false := by simp [h]
   split
   ·rw [List.filter_cons, List.filter_cons, hb, rest]
   ·rw [List.filter_cons, hb, rest]; rfl
  ·have hk := keep_al q w all hall hi (by rw [hr]; exact h) all 0 rfl
   rw [hr] at hk
   rw [if_pos hk, List.filter_cons, List.filter_cons, rest]
theorem inv_step {c : Nat} (hc : c < w) {l o : List S66} (h : Inv q w l) (h4 : l.length ≤ 400) (ho : columnS c l = .ok o) : Inv q w (leastS o 0 o) ∧ (leastS o 0 o).length ≤ 400 := by
 unfold columnS at ho
 obtain ⟨s, hs, hb⟩ := outer_bt q w hc l (zeroS c l) o h.rw_ h.is ho
 obtain ⟨k1, k2⟩ := outerS_rw 400 (by omega) l (zeroS c l) o h.rw_ (fun x hx => h.rw_ x (List.mem_filter.1 hx).1) (Nat.le_trans (List.length_filter_le _ _) h4) ho
 have hz : (zeroS c l).filter (fun r => rd r.f0 (q : Int) != 0) = l.filter fun r => rd r.f0 (q : Int) != 0 := by
  unfold zeroS
  rw [List.filter_filter]
  refine List.filter_congr fun r hr => ?_
  rcases h.is r hr with ha | ha
  ·rw [show (rd r.f1 (c : Int) == 0) = true by rw [ha.2.2 c hc]; rfl, Bool.and_true]
  ·rw [show (rd r.f0 (q : Int) != 0) = false by rw [ha.1]; rfl, Bool.false_and]
 have hsf : s.filter (fun r => rd r.f0 (q : Int) != 0) = [] := List.filter_eq_nil_iff.2 fun r hr => by rw [(hb r hr).1]; simp
 have ho2 : Inv q w o := ⟨k1, fun r hr => by
  rw [hs] at hr
  rcases List.mem_append.1 hr with h5 | h5
  ·exact h.is r (List.mem_filter.1 h5).1
  ·exact .inr (hb r h5), by rw [hs, List.filter_append, hz, hsf, List.append_nil]; exact h.one⟩
 exact ⟨⟨fun r hr => k1 r (leastS_mem o o 0 r hr), fun r hr => ho2.is r (leastS_mem o o 0 r hr), by rw [least_filter q w o ho2 o 0 rfl]; exact ho2.one⟩, Nat.le_trans (leastS_len o o 0) k2⟩
theorem inv_cols : ∀ (d c : Nat) (l r : List S66), c + d = w → Inv q w l → l.length ≤ 400 → colsS d c l = .ok r → Inv q w r
 | 0, c, l, r, _, h, _, hr => by
  simp only [colsS, Except.ok.injEq] at hr
  exact hr ▸ h
 | d + 1, c, l, r, hw, h, h4, hr => by
  simp only [colsS] at hr
  split at hr
  ·rename_i o ho
   obtain ⟨h1, h2⟩ := inv_step q w (by omega) h h4 ho
   exact inv_cols d (c + 1) _ r (by omega) h1 h2 hr
  ·cases hr
end
theorem rd_unit {n i j : Nat} (hi : i < n) (hj : j < n) : rd (unitS n i) (j : Int) = if i = j then 1 else 0 := by
 unfold unitS rd
 rw [Int.toNat_natCast, List.getD_eq_getElem?_getD, List.getElem?_set]
 split
 ·rw [if_pos (by simp; omega)]; rfl
 ·rw [List.getElem?_replicate, if_pos hj]; rfl
theorem start_inv (q w : Nat) : ∀ (m : List (List Int)) (i : Nat), (∀ r ∈ m, r.length = w) → (∀ r ∈ m, ∀ x ∈ r, J x) → i + m.length = q + 1 → (∀ (h : m ≠ []), ∀ c : Nat, c < w → rd (m.getLast h) (c : Int) = 0) →
 (∀ r ∈ startS (q + 1) i m, Al q w r ∨ Bt q r) ∧ ((startS (q + 1) i m).filter fun r => rd r.f0 (q : Int) != 0).length = if m = [] then 0 else 1
 | [], i, _, _, _, _ => ⟨fun r hr => by simp [startS] at hr, by simp [startS]⟩
 | a :: m, i, h1, h2, h3, h4 => by
  simp only [List.length_cons] at h3
  obtain ⟨g1, g2⟩ := start_inv q w m (i + 1) (fun r hr => h1 r (List.mem_cons_of_mem _ hr)) (fun r hr => h2 r (List.mem_cons_of_mem _ hr)) (by omega) (fun h c hc => by
   have := h4 (by simp) c hc
   rwa [List.getLast_cons h] at this)
  have hq : rd (unitS (q + 1) i) (q : Int) = if i = q then 1 else 0 := rd_unit (by omega) (by omega)
  by_cases hm : m = []
  ·subst hm
   have hiq : i = q := by simp at h3; omega
   refine ⟨fun r hr => ?_, ?_⟩
   ·obtain rfl : r = ⟨unitS (q + 1) i, a⟩ := by simpa [startS] using hr
    refine .inl ⟨fun j hj => ?_, ?_, fun c hc => h4 (by simp) c hc⟩
    ·show rd (unitS (q + 1) i) (j : Int) = 0
     rw [rd_unit (by omega) (by omega), if_neg (by omega)]
    ·show rd (unitS (q + 1) i) (q : Int) ≠ 0
     rw [hq, if_pos hiq]; omega
   ·simp only [startS]
    rw [List.filter_cons]
    show (if (rd (unitS (q + 1) i) (q : Int) != 0) = true then _ else _ : List S66).length = _
    rw [hq, if_pos hiq]; simp
  ·have hiq : i ≠ q := by
    have := List.length_pos_iff.2 hm
    omega
   refine ⟨fun r hr => ?_, ?_⟩
   ·simp only [startS] at hr
    rcases List.mem_cons.1 hr with rfl | hr
    ·refine .inr ⟨?_, fun j hj => ?_, i, by omega, ?_⟩
     ·show rd (unitS (q + 1) i) (q : Int) = 0
      rw [hq, if_neg hiq]
     ·show 0 ≤ rd (unitS (q + 1) i) (j : Int)
      rw [rd_unit (by omega) hj]; split <;> omega
     ·show 0 < rd (unitS (q + 1) i) (i : Int)
      rw [rd_unit (by omega) (by omega), if_pos rfl]; omega
    ·exact g1 r hr
   ·simp only [startS]
    rw [List.filter_cons]
    show (if (rd (unitS (q + 1) i) (q : Int) != 0) = true then _ else _ : List S66).length = _
    rw [hq, if_neg hiq, if_neg (by simp), g2, if_neg hm, if_neg (by simp)]

theorem few_ev (l : List Int) (a : List S60) : ∃ b, marblerunlaw12_few.f l a = some b ∧ (b = true → l.length ≤ 60 ∧ a.length ≤ 12) := by
 unfold marblerunlaw12_few.f
 by_cases h : (l.length : Int) ≤ 60
 ·refine ⟨_, if_pos h, fun hb => ?_⟩
  have := of_decide_eq_true hb
  omega
 ·exact ⟨_, if_neg h, fun hb => by simp at hb⟩
theorem awake_ev : Ev (fun k => marblerunlaw12_awake.f k) true := Ev.of (k := 60) marblerunlaw12_awake.mono (by kernel_rfl)
theorem arcs_more {n : Nat} {l : List S51} (h : ArcsOk n l) : ArcsOk (n + 1) l := ⟨h.1, fun a ha => by have := h.2.1 a ha; exact ⟨this.1, by omega, this.2.2⟩, h.2.2⟩
theorem tr_more {n : Nat} {t : S54} (h : TrOk n t) : TrOk (n + 1) t := ⟨h.1, h.2.1, arcs_more h.2.2.1, arcs_more h.2.2.2.1, arcs_more h.2.2.2.2⟩
theorem sumAt_none {n : Nat} : ∀ {l : List S51}, (∀ a ∈ l, 0 ≤ a.f0 ∧ a.f0 < (n : Int) ∧ 1 ≤ a.f1 ∧ a.f1 ≤ 4) → sumAt l (n : Int) = 0
 | [], _ => rfl
 | a :: l, h => by
  have h1 := h a List.mem_cons_self
  rw [sumAt, if_neg (by omega), sumAt_none fun x hx => h x (List.mem_cons_of_mem _ hx)]
  rfl
theorem more_places (P : List S46) (T : List S54) (h : NetOk P T) (x : S46) : Ev (fun k => basis_Places.f k (P ++ [x]) T) (findS (chM (P ++ [x]) T)) := by
 have h7 := h.p7
 have h9 := h.t9
 have hl : (P ++ [x]).length = P.length + 1 := by simp
 have hok : ∀ t ∈ T, TrOk (P ++ [x]).length t := fun t ht => by rw [hl]; exact tr_more (h.trs t ht)
 refine Ev.bind (of_ev' (P ++ [x]) T (by omega) h9 hok) ?_
 have hf := find_rows (chM (P ++ [x]) T) T.length chM_rows (chM_J hok) (by rw [chM_len]; omega) (by rw [chM_len]; omega)
 exact Ev.bind hf (Ev.now _)
/-- What a row of the answer is. -/
theorem more_find (P : List S46) (T : List S54) (h : NetOk P T) (x : S46) (h0 : (findS (chM (P ++ [x]) T)).2 = 0) :
 (∀ y ∈ (findS (chM (P ++ [x]) T)).1, y.length = P.length + 1 ∧ (rd y (P.length : Int) ≠ 0 → ∀ i : Nat, i < P.length → rd y (i : Int) = 0)) ∧ ((findS (chM (P ++ [x]) T)).1.filter fun y => rd y (P.length : Int) != 0).length = 1 ∧ (findS (chM (P ++ [x]) T)).1.length ≤ 400 := by
 have h7 := h.p7
 have h1 := h.p1
 have hl : (P ++ [x]).length = P.length + 1 := by simp
 have hok : ∀ t ∈ T, TrOk (P ++ [x]).length t := fun t ht => by rw [hl]; exact tr_more (h.trs t ht)
 have hml : (chM (P ++ [x]) T).length = P.length + 1 := by rw [chM_len, hl]
 have hw : widthS (chM (P ++ [x]) T) = T.length := by
  cases hm : chM (P ++ [x]) T with
  | nil => rw [hm] at hml; simp at hml
  | cons a m => exact chM_rows a (by rw [hm]; exact List.mem_cons_self)
 have hlast : ∀ (hne : chM (P ++ [x]) T ≠ []), ∀ c : Nat, c < T.length → rd ((chM (P ++ [x]) T).getLast hne) (c : Int) = 0 := by
  intro hne c hc
  have e : (chM (P ++ [x]) T).getLast hne = rd_L1 (chM (P ++ [x]) T) (P.length : Int) := by
   rw [List.getLast_eq_getElem, rdL_lt (by rw [hml]; omega)]
   congr 1
   rw [hml]; rfl
  rw [e]
  unfold chM
  rw [mk_at (by rw [hl]; omega) hc]
  have ht := h.trs _ (rdTr_mem (l := T) (i := c) hc)
  unfold chS
  rw [sumAt_none ht.2.2.2.2.2.1, sumAt_none ht.2.2.1.2.1]; rfl
 have hs := start_inv P.length T.length (chM (P ++ [x]) T) 0 chM_rows (chM_J hok) (by omega) hlast
 have hrw := startS_rw (n := P.length + 1) (chM (P ++ [x]) T) 0 chM_rows (chM_J hok)
 have hne : chM (P ++ [x]) T ≠ [] := by intro e; rw [e] at hml; simp at hml
 rw [if_neg hne] at hs
 have hi : Inv P.length T.length (startS (P.length + 1) 0 (chM (P ++ [x]) T)) := ⟨hrw, hs.1, hs.2⟩
 unfold findS at h0 ⊢
 rw [hw, hml] at h0 ⊢
 cases hc : colsS T.length 0 (startS (P.length + 1) 0 (chM (P ++ [x]) T)) with
 | error e =>
  rw [hc] at h0
  have := colsS_err _ _ _ _ hc
  have h00 : e = 0 := h0
  omega
 | ok r =>
  have hr := inv_cols P.length T.length T.length 0 _ r (by omega) hi (by rw [startS_len, hml]; omega) hc
  have h4 := (colsS_rw (n := P.length + 1) (w := T.length) T.length 0 _ r hrw (by rw [startS_len, hml]; omega) hc).2.1
  simp only [outS]
  refine ⟨fun y hy => ?_, ?_, by simpa using h4⟩
  ·obtain ⟨z, hz, rfl⟩ := List.mem_map.1 hy
   refine ⟨(hr.rw_ z hz).y, fun hn i hi => ?_⟩
   rcases hr.is z hz with ha | ha
   ·exact ha.1 i hi
   ·exact absurd ha.1 hn
  ·rw [List.filter_map, List.length_map]
   exact hr.one
section
variable (l : List (List Int)) (P : List S46) (T : List S54) (n : Nat) (hP : P.length = n + 1) (hn : n ≤ 1000) (hll : l.length ≤ 1000) (hl : ∀ y ∈ l, y.length = n + 1 ∧ (rd y (n : Int) ≠ 0 → ∀ i : Nat, i < n → rd y (i : Int) = 0))
include hP hn hl in
theorem more_l1 (k6 : Int) (i : Nat) (hi : i < l.length) (hnz : rd (rd_L1 l (i : Int)) (n : Int) ≠ 0) (r : Bool) (hend : Ev (fun k => marblerunlaw12_BasisMore.l0 k l k6 (wrap64 ((i : Int) + 1)) P T) r) (d : Nat) :
 ∀ p : Nat, n = p + d → Ev (fun k => marblerunlaw12_BasisMore.l1 k l k6 (i : Int) (p : Int) P T) r := by
 have hy := hl _ (rdL_mem hi)
 induction d with
 | zero =>
  intro p hp
  exact Ev.step (fun k => by simp only [marblerunlaw12_BasisMore.l1]; rw [wrap_succ (by omega), if_neg (by omega)]) hend
 | succ d ih =>
  intro p hp
  refine Ev.step (fun k => ?_) (ih (p + 1) (by omega))
  simp only [marblerunlaw12_BasisMore.l1]
  rw [wrap_succ (by omega), if_pos (by omega), if_pos (by omega), if_pos (by omega), if_pos (by omega), if_pos (by omega), if_pos (hy.2 hnz p (by omega))]
include hP hn hl hll in
theorem more_l0 (R : Int) (hR : 0 ≤ R ∧ R ≤ 1000) (d : Nat) : ∀ (i c : Nat), l.length = i + d → (c : Int) + (((l.drop i).filter fun y => rd y (n : Int) != 0).length : Int) = R → Ev (fun k => marblerunlaw12_BasisMore.l0 k l (c : Int) (i : Int) P T) (R == 1) := by
 have ew : wrap64 ((P.length : Int) - 1) = (n : Int) := by rw [wrap_id (by unfold I; omega)]; omega
 induction d with
 | zero =>
  intro i c hi hc
  rw [List.drop_eq_nil_of_le (by omega)] at hc
  have : (c : Int) = R := by simpa using hc
  rw [← this]
  exact Ev.step (f := fun _ => some ((c : Int) == 1)) (fun k => by simp only [marblerunlaw12_BasisMore.l0]; rw [if_neg (by omega)]) (Ev.now _)
 | succ d ih =>
  intro i c hi hc
  have hy := hl _ (rdL_mem (m := l) (i := i) (by omega))
  rw [dropL_cons (by omega), List.filter_cons] at hc
  by_cases h : rd (rd_L1 l (i : Int)) (n : Int) = 0
  ·rw [show (rd (rd_L1 l (i : Int)) (n : Int) != 0) = false by rw [h]; rfl] at hc
   refine Ev.step (fun k => ?_) (ih (i + 1) c (by omega) hc)
   simp only [marblerunlaw12_BasisMore.l0]
   rw [ew, if_pos (by omega), if_pos (by omega), if_pos (by omega), if_pos (by rw [hy.1]; omega), if_pos h, wrap_succ (by omega)]
  ·rw [show (rd (rd_L1 l (i : Int)) (n : Int) != 0) = true from bne_iff_ne.2 h, if_pos rfl, List.length_cons] at hc
   have hc1 : c ≤ 1000 := by omega
   refine Ev.step (f := fun k => marblerunlaw12_BasisMore.l1 k l ((c + 1 : Nat) : Int) (i : Int) ((0 : Nat) : Int) P T) (fun k => ?_) (more_l1 l P T n hP hn hl _ i (by omega) h _ ?_ n 0 (by simp))
   ·simp only [marblerunlaw12_BasisMore.l0]
    rw [ew, if_pos (by omega), if_pos (by omega), if_pos (by omega), if_pos (by rw [hy.1]; omega), if_neg h, wrap_succ (by omega)]
    rfl
   ·rw [wrap_succ (by omega)]
    exact ih (i + 1) (c + 1) (by omega) (by push_cast at hc ⊢; omega)
end
theorem law_j0 (b : Bool) (l : List Int) (a : List S60) (hl : ∀ q ∈ l, By q) (hll : b = false → l.length ≤ 1000) (ha : ∀ x ∈ a, ActBy x) : Ev (fun k => marblerunlaw12_BasisMore.j0 k b l a) true := by
 cases b with
 | true =>
  exact Ev.step (f := fun k => (marblerunlaw12_awake.f k).bind fun t => some t) (fun k => by simp only [marblerunlaw12_BasisMore.j0, if_true]) (Ev.bind awake_ev (Ev.now true))
 | false =>
  obtain ⟨P, T, hmk, hok⟩ := make_ev l a hl (hll rfl) ha
  have h7 := hok.p7
  obtain ⟨x, hx⟩ : ∃ x : S46, x = ⟨(⟨#[97, 108, 111, 110, 101]⟩ : ByteArray), 0⟩ := ⟨_, rfl⟩
  have hp := more_places P T hok x
  have hf := more_find P T hok x
  rw [hx] at hp hf
  refine Ev.step (f := fun k => (marblerunref05_Make.f k l a).bind fun bt380 => (if bt380.1.length < 5864062014805 then ((some (bt380.1 ++ [(⟨(⟨#[97, 108, 111, 110, 101]⟩ : ByteArray), 0⟩ : S46)] : List (S46))).bind fun y387 => ((basis_Places.f k y387 bt380.2).bind fun bt390 => (if bt390.2 = 0 then (marblerunlaw12_BasisMore.l0 k bt390.1 0 0 y387 bt380.2) else (some true)))) else (none))) (fun k => by simp only [marblerunlaw12_BasisMore.j0]; rw [if_neg (by simp)]) (Ev.bind hmk ?_)
  simp only [if_pos (show P.length < 5864062014805 by omega), Option.bind_some]
  refine Ev.bind hp ?_
  by_cases h0 : (findS (chM (P ++ [(⟨(⟨#[97, 108, 111, 110, 101]⟩ : ByteArray), 0⟩ : S46)]) T)).2 = 0
  ·simp only [if_pos h0]
   obtain ⟨g1, g2, g3⟩ := hf h0
   have := more_l0 _ (P ++ [(⟨(⟨#[97, 108, 111, 110, 101]⟩ : ByteArray), 0⟩ : S46)]) T P.length (by simp) (by omega) (by omega) g1 1 (by omega) _ 0 0 (by simp; rfl) (by rw [List.drop_zero, g2]; rfl)
   exact this
  ·simp only [if_neg h0]
   exact Ev.now true
theorem BasisMore : ∀ (l0 : List Int) (m0 : List S60), l0.length ≤ maxLen → (∀ q ∈ l0, (Lit.int .u8 q).wf = true) → m0.length ≤ maxLen → (∀ a ∈ m0, (Lit.int .u8 a.f0).wf = true ∧ (Lit.int .u8 a.f1).wf = true ∧ (Lit.int .u8 a.f2).wf = true ∧ (Lit.int .u8 a.f3).wf = true ∧ (Lit.int .u8 a.f4).wf = true ∧ (Lit.int .u8 a.f5).wf = true ∧ (Lit.int .u8 a.f6).wf = true) → ∃ k, marblerunlaw12_BasisMore.f k l0 m0 = some true := by
 intro l a hl hlb ha hab
 refine Ev.rounds ?_
 have hlb' : ∀ q ∈ l, By q := fun q hq => by_of_wf (hlb q hq)
 have hab' : ∀ x ∈ a, ActBy x := fun x hx => by
  obtain ⟨h0, h1, h2, h3, h4, h5, h6⟩ := hab x hx
  exact ⟨by_of_wf h0, by_of_wf h1, by_of_wf h2, by_of_wf h3, by_of_wf h4, by_of_wf h5, by_of_wf h6⟩
 obtain ⟨b, hb, hfew⟩ := few_ev l a
 unfold marblerunlaw12_BasisMore.f
 refine Ev.bind awake_ev ?_
 simp only [if_true, hb, Option.bind_some]
 refine law_j0 (!b) l a hlb' (fun h => ?_) hab'
 have := hfew (by simpa using h)
 omega
end Go.Proofs.Ytifbflpaednfnaa.Pure
