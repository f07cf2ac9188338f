/- The law BasisNets of layer 12 is proved: for every draft (and every number, every slice of ints beside it) the call answers true, and the arguments read as they did; no condition. This text is its row; the plain statement and its proof stand in YtifbflpaednfnaaPureBasisNets. -/
import Derived.Test.YtifbflpaednfnaaRows
import Derived.Test.YtifbflpaednfnaaPBasisNetsx19
import Derived.Test.YtifbflpaednfnaaPureBasisNets
import Derived.Test.YtifbflpaednfnaaBBasisNets
import Derived.WalkKit
import Derived.ProofKit
import Derived.OpenShut
import Derived.ShutString
import Derived.ChangeOld
import Derived.Below
import Derived.SizedLaws
import Derived.Deep.Slices
import Derived.Deep.Fields
import Derived.ChangeSame
import Derived.Lib.SmallJoins
import Derived.KernelRfl
set_option linter.unusedVariables false
set_option linter.unusedSimpArgs false
namespace Go.Proofs.Ytifbflpaednfnaa.basisNets
open Go.ChangeShapes Go.WideShapes Go.ChangeAt Go.RowKit Go.Deep Go.Proofs.YtifbflpaednfnaaW.PrintWords Go.Proofs.Ytifbflpaednfnaa.PBasisNets
open Go.ChangeMaps (open_string shut_string)
section
variable {H : Type} {enc : TypeId × Value → H} {P : Program} {w : World} {base : Nat} {spare : Nat → Bool} {held : Bool}
theorem open_fields {t e : TypeId} {fs : Array Field} {fuel : Nat} {cs : List Value} {x : DataW H × List MemPlace} (ht : P.underlying t = some (.slice e)) (he : P.underlying e = some (.struct fs))
    (hone : oneCellFields P fs = true) (hC : P.cellsOf e = fs.size) (h : DataW.trod enc P w base spare held fuel t cs = some x) :
    cs = [.slice none 0 0] ∨
    ∃ (a : Addr) (len cap m : Nat), cs = [.slice (some a) len cap] ∧ len ≤ cap ∧ cap ≤ maxLen ∧ len ≤ m ∧
      ∀ i, i < m → ∀ (j : Nat) (f : Field), fs[j]? = some f → ∃ (v : Value) (y : DataW H × List MemPlace) (n : Nat), w.cell? (a.add (i * fs.size + j)) = some v ∧ DataW.trod enc P w base spare held n f.type [v] = some y := by
  rcases open_slice ht h with h0 | ⟨a, len, cap, m, n, D, Pl, hcs, hb, hl, hm, hmm, hx, hi⟩
  · exact .inl h0.1
  · refine .inr ⟨a, len, cap, m, hcs, hl, hm, by rw [hmm]; split <;> omega, fun i him j f hj => ?_⟩
    obtain ⟨cs', hc, ht'⟩ := hi i him
    rw [hC] at hc
    obtain ⟨ys, n', hn', hy, hlen, hyl, hf⟩ := DataW.trod_struct he ht'
    obtain ⟨_, hcl, hat⟩ := World.cells?_some hc
    obtain ⟨ho, hk⟩ := hone_of hone j f hj
    have hjl : j < fs.size := (Array.getElem?_eq_some_iff.1 hj).1
    have hcell := hat j hjl
    have hv : cs'[j]? = some (cs'[j]'(by omega)) := List.getElem?_eq_getElem (by omega)
    have h1 := hf j f hj
    rw [ho, hk] at h1
    have hone' : (cs'.drop j).take 1 = [cs'[j]'(by omega)] := by
      rw [List.drop_eq_getElem_cons (by omega)]
      rfl
    rw [hone'] at h1
    have hys : ys[j]? = some (ys[j]'(by omega)) := List.getElem?_eq_getElem (by omega)
    refine ⟨_, _, n', ?_, h1.trans hys⟩
    rw [← Go.Deep.add_add, hcell, hv]
end
def Byte (x : Int) : Prop := (Lit.int .u8 x).wf = true
def ActOk (x : S60) : Prop := Byte x.f0 ∧ Byte x.f1 ∧ Byte x.f2 ∧ Byte x.f3 ∧ Byte x.f4 ∧ Byte x.f5 ∧ Byte x.f6
theorem acts_open {H : Type} {enc : TypeId × Value → H} {w : World} {base : Nat} {spare : Nat → Bool} {held : Bool} {fuel : Nat} {v : Value} {x : DataW H × List MemPlace}
    (h : DataW.trod enc Try.prog w base spare held fuel 23 [v] = some x) :
    ∃ (B : Option Addr) (c : Nat) (l : List S60), v = .slice B l.length c ∧ l.length ≤ c ∧ l.length ≤ maxLen ∧ Kd.C k60 w B l.length l ∧ ∀ a ∈ l, ActOk a := by
  rcases open_fields Try.underlying23 Try.underlying60 (by kernel_rfl) (by kernel_rfl) h with h0 | ⟨a, len, cap, m, hcs, hl, hm, hlm, hf⟩
  · obtain rfl : v = .slice none 0 0 := by simpa using h0
    exact ⟨none, 0, [], rfl, Nat.le_refl _, Nat.zero_le _, Kd.C_nil _ _, fun a ha => by simp at ha⟩
  · obtain rfl : v = .slice (some a) len cap := by simpa using hcs
    have one : ∀ i, i < len → ∃ x : S60, ActOk x ∧ ∀ (j : Nat) (u : Value), ([.int .u8 x.f0, .int .u8 x.f1, .int .u8 x.f2, .int .u8 x.f3, .int .u8 x.f4, .int .u8 x.f5, .int .u8 x.f6] : List Value)[j]? = some u → w.cell? (a.add (i * 7 + j)) = some u := by
      intro i hi
      have fld : ∀ (j : Nat) (f : Field), (Array.mk [{ name := "D", type := 5, offset := 0, embedded := false, tag := "", pkgPath := "", byteOffset := 0 }, { name := "P", type := 5, offset := 1, embedded := false, tag := "", pkgPath := "", byteOffset := 1 }, { name := "I", type := 5, offset := 2, embedded := false, tag := "", pkgPath := "", byteOffset := 2 }, { name := "J", type := 5, offset := 3, embedded := false, tag := "", pkgPath := "", byteOffset := 3 }, { name := "N", type := 5, offset := 4, embedded := false, tag := "", pkgPath := "", byteOffset := 4 }, { name := "O", type := 5, offset := 5, embedded := false, tag := "", pkgPath := "", byteOffset := 5 }, { name := "Q", type := 5, offset := 6, embedded := false, tag := "", pkgPath := "", byteOffset := 6 }])[j]? = some f → f.type = 5 → ∃ q : Int, Byte q ∧ w.cell? (a.add (i * 7 + j)) = some (.int .u8 q) := by
        intro j f hj hft
        obtain ⟨u, y, n, hc, ht⟩ := hf i (by omega) j f hj
        rw [hft] at ht
        obtain ⟨q, hq, _, hw⟩ := DataW.trod_int Try.underlying5 ht
        obtain rfl : u = .int .u8 q := by simpa using hq
        exact ⟨q, hw, hc⟩
      obtain ⟨q0, b0, c0⟩ := fld 0 _ rfl rfl
      obtain ⟨q1, b1, c1⟩ := fld 1 _ rfl rfl
      obtain ⟨q2, b2, c2⟩ := fld 2 _ rfl rfl
      obtain ⟨q3, b3, c3⟩ := fld 3 _ rfl rfl
      obtain ⟨q4, b4, c4⟩ := fld 4 _ rfl rfl
      obtain ⟨q5, b5, c5⟩ := fld 5 _ rfl rfl
      obtain ⟨q6, b6, c6⟩ := fld 6 _ rfl rfl
      refine ⟨⟨q0, q1, q2, q3, q4, q5, q6⟩, ⟨b0, b1, b2, b3, b4, b5, b6⟩, fun j u hj => ?_⟩
      match j, hj with
      | 0, hj => obtain rfl := Option.some.inj hj; exact c0
      | 1, hj => obtain rfl := Option.some.inj hj; exact c1
      | 2, hj => obtain rfl := Option.some.inj hj; exact c2
      | 3, hj => obtain rfl := Option.some.inj hj; exact c3
      | 4, hj => obtain rfl := Option.some.inj hj; exact c4
      | 5, hj => obtain rfl := Option.some.inj hj; exact c5
      | 6, hj => obtain rfl := Option.some.inj hj; exact c6
      | j + 7, hj => simp at hj
    have many : ∀ n, n ≤ len → ∃ l : List S60, l.length = n ∧ (∀ x ∈ l, ActOk x) ∧ ∀ (i : Nat) (x : S60), l[i]? = some x → ∀ (j : Nat) (u : Value), ([.int .u8 x.f0, .int .u8 x.f1, .int .u8 x.f2, .int .u8 x.f3, .int .u8 x.f4, .int .u8 x.f5, .int .u8 x.f6] : List Value)[j]? = some u → w.cell? (a.add (i * 7 + j)) = some u := by
      intro n
      induction n with
      | zero => intro _; exact ⟨[], rfl, fun x h => by simp at h, fun i x h => by simp at h⟩
      | succ n ih =>
        intro hn
        obtain ⟨l, hll, h1, h2⟩ := ih (by omega)
        obtain ⟨x, hx1, hx2⟩ := one n (by omega)
        refine ⟨l ++ [x], by simp [hll], fun y hy => ?_, fun i y hy => ?_⟩
        · rcases List.mem_append.1 hy with h | h
          · exact h1 y h
          · rw [List.mem_singleton.1 h]; exact hx1
        · rcases Nat.lt_or_ge i l.length with h | h
          · rw [List.getElem?_append_left h] at hy; exact h2 i y hy
          · rw [List.getElem?_append_right h] at hy
            have hi0 : i - l.length = 0 := by
              have := (List.getElem?_eq_some_iff.1 hy).1
              simp at this; omega
            rw [hi0] at hy
            obtain rfl : x = y := by simpa using hy
            obtain rfl : i = n := by omega
            exact hx2
    obtain ⟨l, hll, h1, h2⟩ := many len (Nat.le_refl _)
    subst hll
    refine ⟨some a, cap, l, rfl, hl, by omega, ⟨rfl, by simp only [maxLen] at hm; omega, fun _ => ⟨a, rfl, fun j p hj => ?_⟩⟩, h1⟩
    exact ⟨_, rfl, k60_mk w p, fun i u hu => h2 j p hj i u hu⟩
theorem toks_open {H : Type} {enc : TypeId × Value → H} {w : World} {base : Nat} {spare : Nat → Bool} {held : Bool} {fuel : Nat} {v : Value} {x : DataW H × List MemPlace}
    (h : DataW.trod enc Try.prog w base spare held fuel 22 [v] = some x) :
    ∃ (B : Option Addr) (c : Nat) (l : List Int), v = .slice B l.length c ∧ l.length ≤ c ∧ l.length ≤ maxLen ∧ Kd.C (Kd.int .u8) w B l.length l ∧ ∀ q ∈ l, Byte q := by
  rcases open_ints Try.underlying22 Try.underlying5 (by kernel_rfl) h with ⟨hcs, _⟩ | ⟨a, len, cap, zs, hcs, _, hl, hm, hz, _, hcell, hwz⟩
  · obtain rfl : v = .slice none 0 0 := by simpa using hcs
    exact ⟨none, 0, [], rfl, Nat.le_refl _, Nat.zero_le _, Kd.C_nil _ _, fun a ha => by simp at ha⟩
  · obtain rfl : v = .slice (some a) len cap := by simpa using hcs
    have hzl : len ≤ zs.length := by rw [hz]; split <;> omega
    refine ⟨some a, cap, zs.take len, by rw [List.length_take, Nat.min_eq_left hzl], by rw [List.length_take]; omega, by rw [List.length_take]; omega, ⟨rfl, by rw [List.length_take]; simp only [maxLen] at hm; omega, fun _ => ⟨a, rfl, fun j p hj => ?_⟩⟩, fun q hq => hwz q (List.mem_of_mem_take hq)⟩
    have hj' : j < len ∧ zs[j]? = some p := by
      rw [List.getElem?_take] at hj
      split at hj
      · rename_i h1; exact ⟨h1, hj⟩
      · simp at hj
    refine ⟨[.int .u8 p], rfl, rfl, fun i u hu => ?_⟩
    match i, hu with
    | 0, hu =>
      obtain rfl := Option.some.inj hu
      have h3 := hcell j (by omega)
      rw [List.getD_eq_getElem?_getD, hj'.2] at h3
      show w.cell? (a.add (j * 1 + 0)) = _
      rw [Nat.mul_one, Nat.add_zero]
      exact h3
    | i + 1, hu => simp at hu
theorem own : ownKnob Try.prog.godebug = none := by kernel_rfl
theorem laidOut : laidOutB Try.prog = true := by kernel_rfl
theorem walked (w : World) (A0 : Option Addr) (c0 : Nat) (l0 : List Int) (B0 : Option Addr) (d0 : Nat) (m0 : List S60) (hA0 : Kd.C (Kd.int .u8) w A0 l0.length l0) (hc0 : l0.length ≤ c0) (hl0 : l0.length ≤ maxLen) (hb0 : ∀ q ∈ l0, Byte q) (hB0 : Kd.C k60 w B0 m0.length m0) (hd0 : m0.length ≤ d0) (hm0 : m0.length ≤ maxLen) (ha0 : ∀ a ∈ m0, ActOk a) :
    Calls Try.prog 9 #[.agg #[.slice A0 l0.length c0, .slice B0 m0.length d0]] w fun e w' => e = .returned (.bool true) ∧ Below w.heap.size w w' := by
  obtain ⟨k, h⟩ := Pure.BasisNets l0 m0 hl0 hb0 hm0 ha0
  exact u12BasisNets.calls k A0 c0 l0 B0 d0 m0 true w hA0 hc0 hB0 hd0 h
set_option maxRecDepth 100000 in
theorem lifted (os : Os) (started : os.Started) (H : Type) (enc : TypeId × Value → H) :
    ReturnsInHanded {} Try.checked os 9 .any (Rows.basisNetsSpec.pre6 enc Try.prog Try.f9 Rows.basisNetsRow.domain false) (Rows.basisNetsSpec.post enc Try.prog Try.f9 false true false false) := by
  refine returnsInHanded_of_change_sized (C := Try.checked) own started (by kernel_rfl) Try.func9
    (ChangeSpec.witness6 (enc := enc) (C := Try.checked) false ⟨#[], #[.agg #[.slice none 0 0, .slice none 0 0]], []⟩ 8 (by kernel_rfl) (by kernel_rfl) (by kernel_rfl) (by kernel_rfl)) ?_
  intro W base args ds gs before hval0 hW hcnd hsz0 _
  have hval : ∀ (j : Nat) t v, Try.f9.params[j]? = some t → args[j]? = some v → Value.okWide Try.prog W .any base t v := hval0
  have hW' := hW
  obtain ⟨p, q, hA0, hV, rfl, hfz, hnd⟩ := hW
  have hA : DataW.TrodAll enc Try.prog W 0 (fun _ => true) true Try.f9.params.toList args.toList ds p := hA0
  rw [Try.params9] at hA hval
  obtain ⟨v0, vs0, d0, ds0, p0, q0, hargs, rfl, rfl, h0, r0⟩ := trodAll_cons hA
  obtain ⟨rfl, rfl, rfl⟩ := trodAll_nil r0
  obtain rfl : args = #[v0] := by cases args; simp_all
  obtain ⟨rfl, rfl⟩ := trodVars_none hV
  have k0 := h0
  have lt0 : ∀ x ∈ p0, x.block < W.heap.size := by obtain ⟨m, hm⟩ := k0; exact DataW.trod_lt m _ _ _ hm
  obtain ⟨va0, vb0, ya0, yb0, n0, rfl, rfl, rfl, ga0, gb0⟩ := Joins.open_agg2 Try.underlying25 (by kernel_rfl) (by kernel_rfl) (hval 0 25 v0 rfl rfl) h0
  obtain ⟨A0, c0, l0, rfl, hc0, hl0, hA0, hb0⟩ := toks_open ga0
  obtain ⟨B0, e0, m0, rfl, hd0, hm0, hB0, ha0⟩ := acts_open gb0
  clear hA0 hval0 hsz0
  refine (walked W A0 c0 l0 B0 e0 m0 hA0 hc0 hl0 hb0 hB0 hd0 hm0 ha0).mono fun e W' ⟨he, bel⟩ => ?_
  subst he
  exact ⟨_, rfl, _, _, _, [], _, [], hW', trodAll_mk1 (shut_bool Try.underlying4 _), (trodAll_cons_mk (Below.trod laidOut (by kernel_rfl) (of_decide_eq_true (by kernel_rfl)) k0 bel lt0) trodAll_mk0), rfl, bel.frame _, fun h => by cases h⟩
theorem over : Rows.basisNetsRow.holds Try.pinned (OpenSpec.ofChange Rows.basisNetsSpec) :=
  OpenClaim.holds_of_wide 9 Try.f9 rfl rfl rfl rfl rfl rfl rfl ⟨rfl, rfl, rfl, rfl, rfl⟩ rfl rfl rfl rfl rfl (by kernel_rfl) Try.func9 (by kernel_rfl)
    (of_decide_eq_true (by kernel_rfl)) (by unfold Func.isWrapper; first | (rw [if_pos (by decide +kernel)]; kernel_rfl) | (rw [if_neg (by decide +kernel)]; exact ⟨rfl, rfl⟩))
    (fun os started H enc _ => lifted os started H enc)
theorem proved : Rows.BasisNetsSaid := over
#print axioms proved
end Go.Proofs.Ytifbflpaednfnaa.basisNets
namespace Go.Proofs.Ytifbflpaednfnaa
/-- The row, under a short name, for the claim. -/
theorem basisNets_holds : Rows.BasisNetsSaid := basisNets.proved
end Go.Proofs.Ytifbflpaednfnaa
