/- What the functions that this law reaches answer, in whatever memory, and the row of the law; no condition. Written by a program of this session (mk.sh). -/
import Derived.Test.YtifbflpaednfnaaProg
import Derived.Below
import Derived.Deep.Draws
import Derived.Deep.AppendLies
import Derived.Maps.AppendAt
import Derived.OwnWalk
import Derived.Laws.BytesArg
import Derived.Laws.MakeOwn
import Derived.Laws.OwnMore
import Derived.Deep.OwnRows
import Derived.Tactics
import Derived.Lib.ConvBytes
import Derived.Laws.Slices
import Derived.WalkKit
import Derived.KernelRfl
import Derived.RowKit3
import Derived.Deep.LoopGhost
import Derived.Deep.QuietTactic
import Derived.BigQuiet
import Derived.WideLaws
import Derived.Deep.DeepCutAuto
import Derived.Deep.CutBlock
import Derived.Deep.RegionHeld3
import Derived.Laws.Rows
import Derived.Lib.AppendStr
import Derived.ArgAppend
import Derived.Laws.IdiomCopy
import Derived.OrdersHeld
import Derived.Laws.BitsLemmas
import Derived.RowKit
import Derived.Test.YtifbflpaednfnaaBBasisNets
namespace Go.Proofs.Ytifbflpaednfnaa.PBasisNets
open Go.RowKit Go.Proofs.YtifbflpaednfnaaW.PrintWords Go.Proofs.YtifbflpaednfnaaW.PrintLast Go.Proofs.YtifbflpaednfnaaW.PrintMore
attribute [local go_sem] max2_int min2_int max_two min_two   -- for this text's walks alone
set_option linter.unusedVariables false
set_option linter.unusedSimpArgs false



def errW : Option Int → Value
 | none => .nilIface
 | some c => .iface 0 (.int .i64 c)
theorem errW_none : errW none = .nilIface := rfl
theorem errW_some (c : Int) : errW (some c) = .iface 0 (.int .i64 c) := rfl

theorem info3 : (Try.prog.info? 3).map (fun i => (i.zero, i.size, i.bytes)) = some (some (.int .i64 0), 1, 8) := by kernel_rfl
theorem info37 : (Try.prog.info? 37).map (fun i => (i.zero, i.size, i.bytes)) = some (some (.slice none 0 0), 1, 24) := by kernel_rfl
theorem info46 : (Try.prog.info? 46).map (fun i => (i.zero, i.size, i.bytes)) = some (some (.agg #[(.string ⟨#[]⟩), (.int .i64 0)]), 2, 24) := by kernel_rfl
theorem info51 : (Try.prog.info? 51).map (fun i => (i.zero, i.size, i.bytes)) = some (some (.agg #[(.int .i64 0), (.int .i64 0)]), 2, 16) := by kernel_rfl
theorem info54 : (Try.prog.info? 54).map (fun i => (i.zero, i.size, i.bytes)) = some (some (.agg #[(.string ⟨#[]⟩), (.int .i64 0), (.int .i64 0), (.slice none 0 0), (.slice none 0 0), (.slice none 0 0)]), 6, 104) := by kernel_rfl
theorem info66 : (Try.prog.info? 66).map (fun i => (i.zero, i.size, i.bytes)) = some (some (.agg #[(.slice none 0 0), (.slice none 0 0)]), 2, 48) := by kernel_rfl
-- the values' own types
def rd_L1 (xs : List (List Int)) (i : Int) : (List Int) := xs.getD i.toNat ([] : List Int)
theorem at_L1 {w : World} {A : Option Addr} {n : Nat} {xs : List (List Int)} (h : Kd.C (Kd.slice 3 (Kd.int .i64)) w A n xs) (i : Int) (h0 : 0 ≤ i) (h1 : i < n) : ∃ ad A0 c0, A = some ad ∧ w.cell? (ad.add i.toNat) = some (.slice A0 (rd_L1 xs i).length c0) ∧ (rd_L1 xs i).length ≤ c0 ∧ (Kd.int .i64).C w A0 (rd_L1 xs i).length (rd_L1 xs i) := by
 obtain ⟨ad, c, e, _, hK, hc0⟩ := Kd.C_get h ([] : List Int) i h0 h1
 have hc : ∀ j u, c[j]? = some u → w.cell? (ad.add (i.toNat * 1 + j)) = some u := hc0
 obtain ⟨A0, c0, rfl, l0, g0⟩ := hK
 exact ⟨ad, A0, c0, e, by have hq := hc 0 _ rfl; rwa [Nat.mul_one, Nat.add_zero] at hq, l0, g0⟩

/-! #### struct type 66 -/
structure S66 where
 f0 : (List Int)
 f1 : (List Int)
def z66 : S66 := ⟨([] : List Int), ([] : List Int)⟩
def k66 : Kd S66 := Kd.iso (Kd.pair (Kd.slice 3 (Kd.int .i64)) (Kd.slice 3 (Kd.int .i64))) (fun x : S66 => (x.f0, x.f1))
theorem k66_open {w : World} {x : S66} {cs : List Value} (h : k66.K w x cs) : ∃ A0 c0 A1 c1, cs = [.slice A0 x.f0.length c0, .slice A1 x.f1.length c1] ∧ x.f0.length ≤ c0 ∧ (Kd.int .i64).C w A0 x.f0.length x.f0 ∧ x.f1.length ≤ c1 ∧ (Kd.int .i64).C w A1 x.f1.length x.f1 := by
 obtain ⟨_, _, rfl, ⟨A0, c0, rfl, l0, g0⟩, ⟨A1, c1, rfl, l1, g1⟩⟩ := h
 exact ⟨A0, c0, A1, c1, rfl, l0, g0, l1, g1⟩
theorem k66_mk (w : World) (x : S66) {A0 : Option Addr} {c0 : Nat} (l0 : x.f0.length ≤ c0) (g0 : (Kd.int .i64).C w A0 x.f0.length x.f0) {A1 : Option Addr} {c1 : Nat} (l1 : x.f1.length ≤ c1) (g1 : (Kd.int .i64).C w A1 x.f1.length x.f1) : k66.K w x [.slice A0 x.f0.length c0, .slice A1 x.f1.length c1] := ⟨[.slice A0 x.f0.length c0], [.slice A1 x.f1.length c1], rfl, ⟨A0, c0, rfl, l0, g0⟩, ⟨A1, c1, rfl, l1, g1⟩⟩
theorem k66_openF {W : World} {ok : Nat → Prop} {x : S66} {cs : List Value} (h : Kd.FK k66 W ok x cs) : ∃ A0 c0 A1 c1, cs = [.slice A0 x.f0.length c0, .slice A1 x.f1.length c1] ∧ x.f0.length ≤ c0 ∧ Kd.F (Kd.int .i64) W ok A0 x.f0.length x.f0 ∧ x.f1.length ≤ c1 ∧ Kd.F (Kd.int .i64) W ok A1 x.f1.length x.f1 := by
 obtain ⟨A0, c0, A1, c1, rfl, l0, _, l1, _⟩ := k66_open (Kd.FK_now h)
 exact ⟨A0, c0, A1, c1, rfl, l0, (fun W' hW => by obtain ⟨A0_, c0_, A1_, c1_, he, l0_, g0_, l1_, g1_⟩ := k66_open (h W' hW); injection (Option.some.inj (show some (Value.slice A0 x.f0.length c0) = some (Value.slice A0_ x.f0.length c0_) from congrArg (fun l => l[0]?) he)) with ha_ _ _; rw [ha_]; exact g0_), l1, (fun W' hW => by obtain ⟨A0_, c0_, A1_, c1_, he, l0_, g0_, l1_, g1_⟩ := k66_open (h W' hW); injection (Option.some.inj (show some (Value.slice A1 x.f1.length c1) = some (Value.slice A1_ x.f1.length c1_) from congrArg (fun l => l[1]?) he)) with ha_ _ _; rw [ha_]; exact g1_)⟩
theorem k66_mkF (W : World) (ok : Nat → Prop) (x : S66) {A0 : Option Addr} {c0 : Nat} (l0 : x.f0.length ≤ c0) (g0 : Kd.F (Kd.int .i64) W ok A0 x.f0.length x.f0) {A1 : Option Addr} {c1 : Nat} (l1 : x.f1.length ≤ c1) (g1 : Kd.F (Kd.int .i64) W ok A1 x.f1.length x.f1) : Kd.FK k66 W ok x [.slice A0 x.f0.length c0, .slice A1 x.f1.length c1] := fun W2 hW => k66_mk W2 x l0 (g0 W2 hW) l1 (g1 W2 hW)
def rd_T66 (xs : List S66) (i : Int) : S66 := xs.getD i.toNat z66
theorem at_T66 {w : World} {A : Option Addr} {n : Nat} {xs : List S66} (h : Kd.C k66 w A n xs) (i : Int) (h0 : 0 ≤ i) (h1 : i < n) : ∃ ad A0 c0 A1 c1, A = some ad ∧ w.cell? (ad.add (i.toNat * 2)) = some (.slice A0 (rd_T66 xs i).f0.length c0) ∧ w.cell? ⟨(ad.add (i.toNat * 2)).block, (ad.add (i.toNat * 2)).off + 1, none⟩ = some (.slice A1 (rd_T66 xs i).f1.length c1) ∧ (rd_T66 xs i).f0.length ≤ c0 ∧ (Kd.int .i64).C w A0 (rd_T66 xs i).f0.length (rd_T66 xs i).f0 ∧ (rd_T66 xs i).f1.length ≤ c1 ∧ (Kd.int .i64).C w A1 (rd_T66 xs i).f1.length (rd_T66 xs i).f1 := by
 obtain ⟨ad, c, e, _, hK, hc0⟩ := Kd.C_get h z66 i h0 h1
 have hc : ∀ j u, c[j]? = some u → w.cell? (ad.add (i.toNat * 2 + j)) = some u := hc0
 obtain ⟨A0, c0, A1, c1, rfl, l0, g0, l1, g1⟩ := k66_open hK
 exact ⟨ad, A0, c0, A1, c1, e, hc 0 _ rfl, by rw [← add_field _ _ 1 (by omega)]; exact hc 1 _ rfl, l0, g0, l1, g1⟩

/-! #### struct type 51 -/
structure S51 where
 f0 : Int
 f1 : Int
def z51 : S51 := ⟨(0 : Int), (0 : Int)⟩
def k51 : Kd S51 := Kd.iso (Kd.pair (Kd.int .i64) (Kd.int .i64)) (fun x : S51 => (x.f0, x.f1))
theorem k51_open {w : World} {x : S51} {cs : List Value} (h : k51.K w x cs) : cs = [.int .i64 x.f0, .int .i64 x.f1] := by
 obtain ⟨_, _, rfl, rfl, rfl⟩ := h
 exact rfl
theorem k51_mkM (w : World) (base : Nat) (ok : Nat → Prop) (x : S51)  : k51.M w base ok x [.int .i64 x.f0, .int .i64 x.f1] := ⟨[.int .i64 x.f0], [.int .i64 x.f1], rfl, rfl, rfl⟩
def rd_T51 (xs : List S51) (i : Int) : S51 := xs.getD i.toNat z51
theorem at_T51 {w : World} {A : Option Addr} {n : Nat} {xs : List S51} (h : Kd.C k51 w A n xs) (i : Int) (h0 : 0 ≤ i) (h1 : i < n) : ∃ ad , A = some ad ∧ w.cell? (ad.add (i.toNat * 2)) = some (.int .i64 (rd_T51 xs i).f0) ∧ w.cell? ⟨(ad.add (i.toNat * 2)).block, (ad.add (i.toNat * 2)).off + 1, none⟩ = some (.int .i64 (rd_T51 xs i).f1) := by
 obtain ⟨ad, c, e, _, hK, hc0⟩ := Kd.C_get h z51 i h0 h1
 have hc : ∀ j u, c[j]? = some u → w.cell? (ad.add (i.toNat * 2 + j)) = some u := hc0
 obtain rfl := k51_open hK
 exact ⟨ad, e, hc 0 _ rfl, by rw [← add_field _ _ 1 (by omega)]; exact hc 1 _ rfl⟩

def rd_L5 (xs : List (List S51)) (i : Int) : (List S51) := xs.getD i.toNat ([] : List S51)
/-! #### struct type 54 -/
structure S54 where
 f0 : ByteArray
 f1 : Int
 f2 : Int
 f3 : (List S51)
 f4 : (List S51)
 f5 : (List S51)
def z54 : S54 := ⟨(⟨#[]⟩ : ByteArray), (0 : Int), (0 : Int), ([] : List S51), ([] : List S51), ([] : List S51)⟩
def k54 : Kd S54 := Kd.iso (Kd.pair Kd.string (Kd.pair (Kd.int .i64) (Kd.pair (Kd.int .i64) (Kd.pair (Kd.slice 51 k51) (Kd.pair (Kd.slice 51 k51) (Kd.slice 51 k51)))))) (fun x : S54 => (x.f0, x.f1, x.f2, x.f3, x.f4, x.f5))
theorem k54_open {w : World} {x : S54} {cs : List Value} (h : k54.K w x cs) : ∃ A3 c3 A4 c4 A5 c5, cs = [.string x.f0, .int .i64 x.f1, .int .i64 x.f2, .slice A3 x.f3.length c3, .slice A4 x.f4.length c4, .slice A5 x.f5.length c5] ∧ x.f3.length ≤ c3 ∧ k51.C w A3 x.f3.length x.f3 ∧ x.f4.length ≤ c4 ∧ k51.C w A4 x.f4.length x.f4 ∧ x.f5.length ≤ c5 ∧ k51.C w A5 x.f5.length x.f5 := by
 obtain ⟨_, _, rfl, rfl, ⟨_, _, rfl, rfl, ⟨_, _, rfl, rfl, ⟨_, _, rfl, ⟨A3, c3, rfl, l3, g3⟩, ⟨_, _, rfl, ⟨A4, c4, rfl, l4, g4⟩, ⟨A5, c5, rfl, l5, g5⟩⟩⟩⟩⟩⟩ := h
 exact ⟨A3, c3, A4, c4, A5, c5, rfl, l3, g3, l4, g4, l5, g5⟩
theorem k54_mk (w : World) (x : S54) {A3 : Option Addr} {c3 : Nat} (l3 : x.f3.length ≤ c3) (g3 : k51.C w A3 x.f3.length x.f3) {A4 : Option Addr} {c4 : Nat} (l4 : x.f4.length ≤ c4) (g4 : k51.C w A4 x.f4.length x.f4) {A5 : Option Addr} {c5 : Nat} (l5 : x.f5.length ≤ c5) (g5 : k51.C w A5 x.f5.length x.f5) : k54.K w x [.string x.f0, .int .i64 x.f1, .int .i64 x.f2, .slice A3 x.f3.length c3, .slice A4 x.f4.length c4, .slice A5 x.f5.length c5] := ⟨[.string x.f0], [.int .i64 x.f1, .int .i64 x.f2, .slice A3 x.f3.length c3, .slice A4 x.f4.length c4, .slice A5 x.f5.length c5], rfl, rfl, ⟨[.int .i64 x.f1], [.int .i64 x.f2, .slice A3 x.f3.length c3, .slice A4 x.f4.length c4, .slice A5 x.f5.length c5], rfl, rfl, ⟨[.int .i64 x.f2], [.slice A3 x.f3.length c3, .slice A4 x.f4.length c4, .slice A5 x.f5.length c5], rfl, rfl, ⟨[.slice A3 x.f3.length c3], [.slice A4 x.f4.length c4, .slice A5 x.f5.length c5], rfl, ⟨A3, c3, rfl, l3, g3⟩, ⟨[.slice A4 x.f4.length c4], [.slice A5 x.f5.length c5], rfl, ⟨A4, c4, rfl, l4, g4⟩, ⟨A5, c5, rfl, l5, g5⟩⟩⟩⟩⟩⟩
theorem k54_mkM (w : World) (base : Nat) (ok : Nat → Prop) (x : S54) {v3 : Value} (g3 : k51.R 51 w base ok v3 x.f3) {v4 : Value} (g4 : k51.R 51 w base ok v4 x.f4) {v5 : Value} (g5 : k51.R 51 w base ok v5 x.f5) : k54.M w base ok x [.string x.f0, .int .i64 x.f1, .int .i64 x.f2, v3, v4, v5] := ⟨[.string x.f0], [.int .i64 x.f1, .int .i64 x.f2, v3, v4, v5], rfl, rfl, ⟨[.int .i64 x.f1], [.int .i64 x.f2, v3, v4, v5], rfl, rfl, ⟨[.int .i64 x.f2], [v3, v4, v5], rfl, rfl, ⟨[v3], [v4, v5], rfl, ⟨v3, rfl, g3⟩, ⟨[v4], [v5], rfl, ⟨v4, rfl, g4⟩, ⟨v5, rfl, g5⟩⟩⟩⟩⟩⟩
theorem k54_openF {W : World} {ok : Nat → Prop} {x : S54} {cs : List Value} (h : Kd.FK k54 W ok x cs) : ∃ A3 c3 A4 c4 A5 c5, cs = [.string x.f0, .int .i64 x.f1, .int .i64 x.f2, .slice A3 x.f3.length c3, .slice A4 x.f4.length c4, .slice A5 x.f5.length c5] ∧ x.f3.length ≤ c3 ∧ Kd.F k51 W ok A3 x.f3.length x.f3 ∧ x.f4.length ≤ c4 ∧ Kd.F k51 W ok A4 x.f4.length x.f4 ∧ x.f5.length ≤ c5 ∧ Kd.F k51 W ok A5 x.f5.length x.f5 := by
 obtain ⟨A3, c3, A4, c4, A5, c5, rfl, l3, _, l4, _, l5, _⟩ := k54_open (Kd.FK_now h)
 exact ⟨A3, c3, A4, c4, A5, c5, rfl, l3, (fun W' hW => by obtain ⟨A3_, c3_, A4_, c4_, A5_, c5_, he, l3_, g3_, l4_, g4_, l5_, g5_⟩ := k54_open (h W' hW); injection (Option.some.inj (show some (Value.slice A3 x.f3.length c3) = some (Value.slice A3_ x.f3.length c3_) from congrArg (fun l => l[3]?) he)) with ha_ _ _; rw [ha_]; exact g3_), l4, (fun W' hW => by obtain ⟨A3_, c3_, A4_, c4_, A5_, c5_, he, l3_, g3_, l4_, g4_, l5_, g5_⟩ := k54_open (h W' hW); injection (Option.some.inj (show some (Value.slice A4 x.f4.length c4) = some (Value.slice A4_ x.f4.length c4_) from congrArg (fun l => l[4]?) he)) with ha_ _ _; rw [ha_]; exact g4_), l5, (fun W' hW => by obtain ⟨A3_, c3_, A4_, c4_, A5_, c5_, he, l3_, g3_, l4_, g4_, l5_, g5_⟩ := k54_open (h W' hW); injection (Option.some.inj (show some (Value.slice A5 x.f5.length c5) = some (Value.slice A5_ x.f5.length c5_) from congrArg (fun l => l[5]?) he)) with ha_ _ _; rw [ha_]; exact g5_)⟩
theorem k54_mkF (W : World) (ok : Nat → Prop) (x : S54) {A3 : Option Addr} {c3 : Nat} (l3 : x.f3.length ≤ c3) (g3 : Kd.F k51 W ok A3 x.f3.length x.f3) {A4 : Option Addr} {c4 : Nat} (l4 : x.f4.length ≤ c4) (g4 : Kd.F k51 W ok A4 x.f4.length x.f4) {A5 : Option Addr} {c5 : Nat} (l5 : x.f5.length ≤ c5) (g5 : Kd.F k51 W ok A5 x.f5.length x.f5) : Kd.FK k54 W ok x [.string x.f0, .int .i64 x.f1, .int .i64 x.f2, .slice A3 x.f3.length c3, .slice A4 x.f4.length c4, .slice A5 x.f5.length c5] := fun W2 hW => k54_mk W2 x l3 (g3 W2 hW) l4 (g4 W2 hW) l5 (g5 W2 hW)
def rd_T54 (xs : List S54) (i : Int) : S54 := xs.getD i.toNat z54
theorem at_T54 {w : World} {A : Option Addr} {n : Nat} {xs : List S54} (h : Kd.C k54 w A n xs) (i : Int) (h0 : 0 ≤ i) (h1 : i < n) : ∃ ad A3 c3 A4 c4 A5 c5, A = some ad ∧ w.cell? (ad.add (i.toNat * 6)) = some (.string (rd_T54 xs i).f0) ∧ w.cell? ⟨(ad.add (i.toNat * 6)).block, (ad.add (i.toNat * 6)).off + 1, none⟩ = some (.int .i64 (rd_T54 xs i).f1) ∧ w.cell? ⟨(ad.add (i.toNat * 6)).block, (ad.add (i.toNat * 6)).off + 2, none⟩ = some (.int .i64 (rd_T54 xs i).f2) ∧ w.cell? ⟨(ad.add (i.toNat * 6)).block, (ad.add (i.toNat * 6)).off + 3, none⟩ = some (.slice A3 (rd_T54 xs i).f3.length c3) ∧ w.cell? ⟨(ad.add (i.toNat * 6)).block, (ad.add (i.toNat * 6)).off + 4, none⟩ = some (.slice A4 (rd_T54 xs i).f4.length c4) ∧ w.cell? ⟨(ad.add (i.toNat * 6)).block, (ad.add (i.toNat * 6)).off + 5, none⟩ = some (.slice A5 (rd_T54 xs i).f5.length c5) ∧ (rd_T54 xs i).f3.length ≤ c3 ∧ k51.C w A3 (rd_T54 xs i).f3.length (rd_T54 xs i).f3 ∧ (rd_T54 xs i).f4.length ≤ c4 ∧ k51.C w A4 (rd_T54 xs i).f4.length (rd_T54 xs i).f4 ∧ (rd_T54 xs i).f5.length ≤ c5 ∧ k51.C w A5 (rd_T54 xs i).f5.length (rd_T54 xs i).f5 := by
 obtain ⟨ad, c, e, _, hK, hc0⟩ := Kd.C_get h z54 i h0 h1
 have hc : ∀ j u, c[j]? = some u → w.cell? (ad.add (i.toNat * 6 + j)) = some u := hc0
 obtain ⟨A3, c3, A4, c4, A5, c5, rfl, l3, g3, l4, g4, l5, g5⟩ := k54_open hK
 exact ⟨ad, A3, c3, A4, c4, A5, c5, e, hc 0 _ rfl, by rw [← add_field _ _ 1 (by omega)]; exact hc 1 _ rfl, by rw [← add_field _ _ 2 (by omega)]; exact hc 2 _ rfl, by rw [← add_field _ _ 3 (by omega)]; exact hc 3 _ rfl, by rw [← add_field _ _ 4 (by omega)]; exact hc 4 _ rfl, by rw [← add_field _ _ 5 (by omega)]; exact hc 5 _ rfl, l3, g3, l4, g4, l5, g5⟩

/-! #### struct type 46 -/
structure S46 where
 f0 : ByteArray
 f1 : Int
def z46 : S46 := ⟨(⟨#[]⟩ : ByteArray), (0 : Int)⟩
def k46 : Kd S46 := Kd.iso (Kd.pair Kd.string (Kd.int .i64)) (fun x : S46 => (x.f0, x.f1))
theorem k46_open {w : World} {x : S46} {cs : List Value} (h : k46.K w x cs) : cs = [.string x.f0, .int .i64 x.f1] := by
 obtain ⟨_, _, rfl, rfl, rfl⟩ := h
 exact rfl
theorem k46_mkM (w : World) (base : Nat) (ok : Nat → Prop) (x : S46)  : k46.M w base ok x [.string x.f0, .int .i64 x.f1] := ⟨[.string x.f0], [.int .i64 x.f1], rfl, rfl, rfl⟩
def rd_T46 (xs : List S46) (i : Int) : S46 := xs.getD i.toNat z46
theorem at_T46 {w : World} {A : Option Addr} {n : Nat} {xs : List S46} (h : Kd.C k46 w A n xs) (i : Int) (h0 : 0 ≤ i) (h1 : i < n) : ∃ ad , A = some ad ∧ w.cell? (ad.add (i.toNat * 2)) = some (.string (rd_T46 xs i).f0) ∧ w.cell? ⟨(ad.add (i.toNat * 2)).block, (ad.add (i.toNat * 2)).off + 1, none⟩ = some (.int .i64 (rd_T46 xs i).f1) := by
 obtain ⟨ad, c, e, _, hK, hc0⟩ := Kd.C_get h z46 i h0 h1
 have hc : ∀ j u, c[j]? = some u → w.cell? (ad.add (i.toNat * 2 + j)) = some u := hc0
 obtain rfl := k46_open hK
 exact ⟨ad, e, hc 0 _ rfl, by rw [← add_field _ _ 1 (by omega)]; exact hc 1 _ rfl⟩

/-! #### struct type 60 -/
structure S60 where
 f0 : Int
 f1 : Int
 f2 : Int
 f3 : Int
 f4 : Int
 f5 : Int
 f6 : Int
def z60 : S60 := ⟨(0 : Int), (0 : Int), (0 : Int), (0 : Int), (0 : Int), (0 : Int), (0 : Int)⟩
def k60 : Kd S60 := Kd.iso (Kd.pair (Kd.int .u8) (Kd.pair (Kd.int .u8) (Kd.pair (Kd.int .u8) (Kd.pair (Kd.int .u8) (Kd.pair (Kd.int .u8) (Kd.pair (Kd.int .u8) (Kd.int .u8))))))) (fun x : S60 => (x.f0, x.f1, x.f2, x.f3, x.f4, x.f5, x.f6))
theorem k60_open {w : World} {x : S60} {cs : List Value} (h : k60.K w x cs) : cs = [.int .u8 x.f0, .int .u8 x.f1, .int .u8 x.f2, .int .u8 x.f3, .int .u8 x.f4, .int .u8 x.f5, .int .u8 x.f6] := by
 obtain ⟨_, _, rfl, rfl, ⟨_, _, rfl, rfl, ⟨_, _, rfl, rfl, ⟨_, _, rfl, rfl, ⟨_, _, rfl, rfl, ⟨_, _, rfl, rfl, rfl⟩⟩⟩⟩⟩⟩ := h
 exact rfl
theorem k60_mk (w : World) (x : S60)  : k60.K w x [.int .u8 x.f0, .int .u8 x.f1, .int .u8 x.f2, .int .u8 x.f3, .int .u8 x.f4, .int .u8 x.f5, .int .u8 x.f6] := ⟨[.int .u8 x.f0], [.int .u8 x.f1, .int .u8 x.f2, .int .u8 x.f3, .int .u8 x.f4, .int .u8 x.f5, .int .u8 x.f6], rfl, rfl, ⟨[.int .u8 x.f1], [.int .u8 x.f2, .int .u8 x.f3, .int .u8 x.f4, .int .u8 x.f5, .int .u8 x.f6], rfl, rfl, ⟨[.int .u8 x.f2], [.int .u8 x.f3, .int .u8 x.f4, .int .u8 x.f5, .int .u8 x.f6], rfl, rfl, ⟨[.int .u8 x.f3], [.int .u8 x.f4, .int .u8 x.f5, .int .u8 x.f6], rfl, rfl, ⟨[.int .u8 x.f4], [.int .u8 x.f5, .int .u8 x.f6], rfl, rfl, ⟨[.int .u8 x.f5], [.int .u8 x.f6], rfl, rfl, rfl⟩⟩⟩⟩⟩⟩
def rd_T60 (xs : List S60) (i : Int) : S60 := xs.getD i.toNat z60
theorem at_T60 {w : World} {A : Option Addr} {n : Nat} {xs : List S60} (h : Kd.C k60 w A n xs) (i : Int) (h0 : 0 ≤ i) (h1 : i < n) : ∃ ad , A = some ad ∧ w.cell? (ad.add (i.toNat * 7)) = some (.int .u8 (rd_T60 xs i).f0) ∧ w.cell? ⟨(ad.add (i.toNat * 7)).block, (ad.add (i.toNat * 7)).off + 1, none⟩ = some (.int .u8 (rd_T60 xs i).f1) ∧ w.cell? ⟨(ad.add (i.toNat * 7)).block, (ad.add (i.toNat * 7)).off + 2, none⟩ = some (.int .u8 (rd_T60 xs i).f2) ∧ w.cell? ⟨(ad.add (i.toNat * 7)).block, (ad.add (i.toNat * 7)).off + 3, none⟩ = some (.int .u8 (rd_T60 xs i).f3) ∧ w.cell? ⟨(ad.add (i.toNat * 7)).block, (ad.add (i.toNat * 7)).off + 4, none⟩ = some (.int .u8 (rd_T60 xs i).f4) ∧ w.cell? ⟨(ad.add (i.toNat * 7)).block, (ad.add (i.toNat * 7)).off + 5, none⟩ = some (.int .u8 (rd_T60 xs i).f5) ∧ w.cell? ⟨(ad.add (i.toNat * 7)).block, (ad.add (i.toNat * 7)).off + 6, none⟩ = some (.int .u8 (rd_T60 xs i).f6) := by
 obtain ⟨ad, c, e, _, hK, hc0⟩ := Kd.C_get h z60 i h0 h1
 have hc : ∀ j u, c[j]? = some u → w.cell? (ad.add (i.toNat * 7 + j)) = some u := hc0
 obtain rfl := k60_open hK
 exact ⟨ad, e, hc 0 _ rfl, by rw [← add_field _ _ 1 (by omega)]; exact hc 1 _ rfl, by rw [← add_field _ _ 2 (by omega)]; exact hc 2 _ rfl, by rw [← add_field _ _ 3 (by omega)]; exact hc 3 _ rfl, by rw [← add_field _ _ 4 (by omega)]; exact hc 4 _ rfl, by rw [← add_field _ _ 5 (by omega)]; exact hc 5 _ rfl, by rw [← add_field _ _ 6 (by omega)]; exact hc 6 _ rfl⟩

theorem int_ne {w : World} {g i : Nat} {t : TypeId} {cs : Array Value} {ad : Addr} {kk : IntKind} {n : Int} (hx : w.cell? (ad.add i) = some (.int kk n)) (hb : w.heap[g]? = some (.cells cs t (0, 0)))
 (hc : cs.toList.all (fun v => match v with | .int _ _ => false | _ => true) = true) : ad.block ≠ g := by
 rintro rfl
 have hblk : (ad.add i).block = ad.block := add_block _ _
 unfold World.cell? at hx
 rw [hblk, hb] at hx
 simp only at hx
 split at hx
 ·exact absurd hx (by simp)
 ·have hm : Value.int kk n ∈ cs.toList := by
   obtain ⟨hlt, he⟩ := Array.getElem?_eq_some_iff.1 hx
   rw [← he]; exact Array.getElem_mem_toList _
  have := List.all_eq_true.1 hc _ hm
  simp at this

theorem kq_R {P Q : Prop} (q : Q) (h : Q → P := by intro q; (with_reducible repeat (first | apply Kd.R_alloc | apply Kd.R_drewN | apply Kd.R_drew)); exact q) : P := h q
theorem kq_S {P Q : Prop} (q : Q) (h : Q → P := by intro q; (with_reducible repeat (first | apply Kd.S_alloc | apply Kd.S_drewN | apply Kd.S_drew)); exact q) : P := h q
theorem kq_N {P Q : Prop} (q : Q) (h : Q → P := by intro q; (with_reducible repeat (first | apply Kd.N_alloc | apply Kd.N_drewN | apply Kd.N_drew)); exact q) : P := h q
theorem kq_V {P Q : Prop} (q : Q) (h : Q → P := by intro q; (with_reducible repeat (first | apply Kd.V_alloc | apply Kd.V_drewN | apply Kd.V_drew)); exact q) : P := h q
theorem bkq {P Q : Prop} (q : Q) (h : Q → P := by intro q; (with_reducible repeat (first | refine blk_drewN ?_ _ | refine blk_drew ?_ | refine blk_alloc ?_ _)); exact q) : P := h q
theorem u8a (d : Int) : wrap64 (IntKind.u8.wrap d) = d % 256 := by simp [IntKind.wrap, IntKind.bits, IntKind.signed]; unfold wrap64; omega
theorem u8b (d : Int) (n : Nat) : (d % 256).tmod (n : Int) = d % 256 % (n : Int) := Int.tmod_eq_emod_of_nonneg (by omega)
theorem u8b2 (d : Int) : (d % 256).tmod 2 = d % 2 := by rw [Int.tmod_eq_emod_of_nonneg (by omega)]; omega
theorem u8c (d : Int) (n : Nat) : wrap64 (d % 256 % (n : Int)) = d % 256 % (n : Int) := by
 have h := Int.emod_nonneg d (show (256 : Int) ≠ 0 by decide)
 have h2 : d % 256 < 256 := Int.emod_lt_of_pos _ (by decide)
 have h1 : 0 ≤ d % 256 % (n : Int) ∧ d % 256 % (n : Int) ≤ d % 256 := by
  rcases Nat.eq_zero_or_pos n with rfl | hn
  ·simp; omega
  ·obtain ⟨m, hm⟩ := Int.eq_ofNat_of_zero_le h
   rw [hm, ← Int.natCast_emod]; have := Nat.mod_le m n; omega
 unfold wrap64; omega
theorem u8d (d : Int) : wrap64 (1 + d % 2) = 1 + d % 2 := by unfold wrap64; omega
theorem u8e (d : Int) : wrap64 (1 + d % 256) = 1 + d % 256 := by unfold wrap64; omega

theorem hbq {P Q : Prop} (q : Q) (h : Q → P := by intro q; repeat (first | (with_reducible first | exact q | apply below_alloc | apply pw_below_drewN | apply below_drew1 | refine below_set ?_ (Aside0.out (by assumption))) | exact q)) : P := h q

def rl : Bool → List Nat → List Bool
 | _, [] => []
 | b, n :: l => List.replicate n b ++ rl (!b) l
def az (l : List Nat) : Array Bool := (rl true l).toArray

theorem bky {w w' : World} {g : Nat} {o : Obj} (q : w.heap[g]? = some o) (h : w.heap[g]? = some o → w'.heap[g]? = some o := by intro q; refine bkq ?_; exact q) : w'.heap[g]? = some o := h q
theorem bkf {P Q N : Prop} (q : Q) (n : N) (h : N → Q → P := by intro n q; repeat (first | (with_reducible exact q) | (with_reducible refine blk_drewN ?_ _) | (with_reducible refine blk_drew ?_) | (with_reducible refine blk_alloc ?_ _) | refine blk_far ?_ n _)) : P := h n q
theorem hk2 {A : Nat → Prop} {g : Nat} (k : Nat) (h : A k ∧ k ≠ g) : k ≠ g := h.2
theorem abk {P Q : Prop} (q : Q) (h : Q → P := by intro q; first | (rw [add_block]; exact q) | (show (Addr.add _ _).block ≠ _; rw [add_block]; exact q) | exact q) : P := h q
theorem oa {p : Prop} [Decidable p] (h : decide p = true := by first | (with_reducible assumption) | assumption) : p := of_decide_eq_true h
theorem kc {P Q : Prop} (q : Q) (h : Q → P := by intro q; repeat (first | exact q | (with_reducible refine Kd.C_alloc ?_ _) | (with_reducible refine Kd.C_drewN ?_ _) | (with_reducible refine Kd.C_drew ?_))) : P := h q

section
variable {P : Program} {ops : Array Oper} {Q : Exit → Act → World → Prop} {md : Region.Mode} {S : World → Prop} {ds : List Nat}
theorem pz_ {T : Bool × List (List Nat × List Nat)} {oi : Oper} {v : Value} {fuel : Nat} {l : Array Bool} {a : Act} {w : World} {a' : Act} (hT : rtab md ops = T) (i : Nat) (N : Option Tmp) (l' : Array Bool)
 (hi : ops[i]? = some oi := by rfl) (hN : oi.dst = N := by rfl) (hc : anyT T l.toList l'.toList i = true := by kernel_rfl) (hQ : ∀ c a w, Q (.panic c) (a.put oi.dst v) w → Q (.panic c) a w := by exact fun _ _ _ h => h)
 (hw : Region.wanted oi (yielded ops a.tmps) = true := by rfl) (hy : ∀ w : World, Sem.run P (execOp a.eval oi) w = Result.ok (Next.value v) w := by (intro w'; go_simp; with_reducible rfl))
 (ha : a.put N v = a' := by (simp only [Act.put, List.setIfInBounds_toArray, List.set_cons_zero, List.set_cons_succ, i64_w, i32_w]; rfl)) (h : wpAnyLast P md ops Q S ds fuel l' a' w) : wpAnyLast P md ops Q S ds (fuel + 1) l a w :=
 pure_ l' hi hN (any_of hT hc) hQ (Or.inl ⟨hw, hy⟩) ha h
theorem tz_ {T : Bool × List (List Nat × List Nat)} {B : List Nat} {oi : Oper} {v : Value} {fuel : Nat} {l : Array Bool} {a : Act} {w : World} {a' : Act} (hT : rtab md ops = T) (hW : waitsOk T.snd B = true) (i : Nat) (N : Option Tmp) (l' : Array Bool) (hS : S w)
 (hi : ops[i]? = some oi := by rfl) (hN : oi.dst = N := by rfl) (hc : takeW T B ds l.toList l'.toList i = true := by kernel_rfl) (hQ : ∀ c a w, Q (.panic c) (a.put oi.dst v) w → Q (.panic c) a w := by exact fun _ _ _ h => h)
 (hw : Region.wanted oi (yielded ops a.tmps) = true := by rfl) (hy : ∀ w : World, S w → Sem.run P (execOp a.eval oi) w = Result.ok (Next.value v) w)
 (ha : a.put N v = a' := by (simp only [Act.put, List.setIfInBounds_toArray, List.set_cons_zero, List.set_cons_succ, i64_w, i32_w]; rfl)) (h : wpAnyLast P md ops Q S ds fuel l' a' w) : wpAnyLast P md ops Q S ds (fuel + 1) l a w :=
 take_ l' hi hN (take_ofW hT hW hc) hQ (Or.inl ⟨hw, hy⟩) hS ha h
end

theorem bc0 {w : World} {g : Nat} {a0 : Value} {l : List Value} {t : TypeId} (h : w.heap[g]? = some (.cells (List.toArray (a0 :: l)) t)) : w.cell? ⟨g, 0, none⟩ = some a0 := by rw [blk_cell h 0]; rfl
theorem bc1 {w : World} {g : Nat} {a0 a1 : Value} {l : List Value} {t : TypeId} (h : w.heap[g]? = some (.cells (List.toArray (a0 :: a1 :: l)) t)) : w.cell? ⟨g, 1, none⟩ = some a1 := by rw [blk_cell h 1]; rfl
theorem bc2 {w : World} {g : Nat} {a0 a1 a2 : Value} {l : List Value} {t : TypeId} (h : w.heap[g]? = some (.cells (List.toArray (a0 :: a1 :: a2 :: l)) t)) : w.cell? ⟨g, 2, none⟩ = some a2 := by rw [blk_cell h 2]; rfl
theorem bc3 {w : World} {g : Nat} {a0 a1 a2 a3 : Value} {l : List Value} {t : TypeId} (h : w.heap[g]? = some (.cells (List.toArray (a0 :: a1 :: a2 :: a3 :: l)) t)) : w.cell? ⟨g, 3, none⟩ = some a3 := by rw [blk_cell h 3]; rfl
theorem bc4 {w : World} {g : Nat} {a0 a1 a2 a3 a4 : Value} {l : List Value} {t : TypeId} (h : w.heap[g]? = some (.cells (List.toArray (a0 :: a1 :: a2 :: a3 :: a4 :: l)) t)) : w.cell? ⟨g, 4, none⟩ = some a4 := by rw [blk_cell h 4]; rfl
theorem bc5 {w : World} {g : Nat} {a0 a1 a2 a3 a4 a5 : Value} {l : List Value} {t : TypeId} (h : w.heap[g]? = some (.cells (List.toArray (a0 :: a1 :: a2 :: a3 :: a4 :: a5 :: l)) t)) : w.cell? ⟨g, 5, none⟩ = some a5 := by rw [blk_cell h 5]; rfl
theorem bc6 {w : World} {g : Nat} {a0 a1 a2 a3 a4 a5 a6 : Value} {l : List Value} {t : TypeId} (h : w.heap[g]? = some (.cells (List.toArray (a0 :: a1 :: a2 :: a3 :: a4 :: a5 :: a6 :: l)) t)) : w.cell? ⟨g, 6, none⟩ = some a6 := by rw [blk_cell h 6]; rfl
section
variable {P : Program} {ops : Array Oper} {rest : List Oper} {o : Oper} {a : Act} {Q : Exit → Act → World → Prop}
theorem bev {W : World} (N : Tmp) (cs : Array Value) (t : TypeId)
    (h : ∀ g, g = W.heap.size → ∀ w1, w1.heap[g]? = some (.cells cs t (0, 0)) → Below W.heap.size W w1 → wpList P ops Q rest (a.put o.dst (.pointer (some ⟨g, 0, none⟩))) w1) (hd : o.dst = some N := by rfl) (hgd : o.guard = none := by rfl)
    (hrun : (execOp a.eval o).run P W = .ok (.value (.pointer (some ⟨W.heap.size, 0, none⟩))) (W.alloc (.cells cs t (0, 0))) := by first | (go_simp; done) | (go_simp; rfl)) : wpList P ops Q (o :: rest) a W := box_event hgd hd hrun h
end
theorem rh {p q : Prop} {α : Type} {y e : α} (hy : y = e) (H : p) (h : y = e → p → q := by intro hy H; first | (rw [hy]; with_reducible exact H) | (have H2_ := (Option.bind_some _ _).symm.trans H; rw [hy]; with_reducible exact H2_) | (have H2_ := (Option.bind_some _ _).symm.trans H; with_reducible exact H2_) | with_reducible exact H | (rw [hy]; exact H) | exact H) : q := h hy H
theorem cq {P Q : Prop} (q : Q) (h : Q → P := by intro q; repeat (first | (with_reducible exact q) | (with_reducible refine Kd.C_alloc ?_ _) | (with_reducible refine Kd.C_drewN ?_ _) | (with_reducible refine Kd.C_drew ?_) | exact q)) : P := h q
theorem dr2 {p : Prop} (h : p := by first | exact ⟨rfl, _, World.drewN_drewN _ _ _⟩ | exact ⟨rfl, _, Eq.trans (World.drewN_drewN _ _ _) (congrArg (World.drewN _) (Nat.add_assoc _ _ _))⟩) : p := h
theorem gw {p : Prop} {g : Nat} {w W : World} (hg : g = W.heap.size) (q : p) (h : p → Below w.heap.size w W := by intro q; repeat (first | (with_reducible first | exact q | apply below_alloc | apply pw_below_drewN | apply below_drew1 | refine below_set ?_ (Aside0.out (by assumption))) | exact q)) : w.heap.size ≤ g := by rw [hg]; exact below_size (h q)
theorem nbl {w W : World} {g k : Nat} {o : Obj} (hg : g = W.heap.size) (q : w.heap[k]? = some o) (h : w.heap[k]? = some o → W.heap[k]? = some o := by intro q; (with_reducible repeat (first | refine blk_drewN ?_ _ | refine blk_drew ?_ | refine blk_alloc ?_ _)); exact q) : k ≠ g := by rw [hg]; exact Nat.ne_of_lt (blk_lt (h q))
theorem bi {α β : Type} {o : Option α} {f : α → Option β} {r : β} (h : o.bind f = some r) : ∃ a, Aside0 (o = some a) ∧ f a = some r := by
  obtain ⟨a, x, y⟩ := Option.bind_eq_some_iff.mp h
  exact ⟨a, ⟨x⟩, y⟩
section
variable {P : Program} {ops : Array Oper} {Q : Exit → Act → World → Prop} {md : Region.Mode} {S : World → Prop} {ds : List Nat}
theorem pu_ {T : Bool × List (List Nat × List Nat)} {oi : Oper} {fuel : Nat} {l : Array Bool} {a : Act} {w : World} {a' : Act} (hT : rtab md ops = T) (i : Nat) (N : Option Tmp) (l' : Array Bool)
    (hi : ops[i]? = some oi := by rfl) (hN : oi.dst = N := by rfl) (hc : anyT T l.toList l'.toList i = true := by kernel_rfl) (hQ : ∀ c a w, Q (.panic c) (a.put oi.dst undef) w → Q (.panic c) a w := by exact fun _ _ _ h => h)
    (hw : Region.wanted oi (yielded ops a.tmps) = false := by rfl)
    (ha : a.put N undef = a' := by (simp only [Act.put, List.setIfInBounds_toArray, List.set_cons_zero, List.set_cons_succ, i64_w, i32_w]; rfl)) (h : wpAnyLast P md ops Q S ds fuel l' a' w) : wpAnyLast P md ops Q S ds (fuel + 1) l a w :=
  pure_ l' hi hN (any_of hT hc) hQ (Or.inr ⟨hw, rfl⟩) ha h
end
theorem nn {α : Type} {r : α} {p : Prop} (h : (none : Option α) = some r) : p := by simp at h
theorem jj2 {α β : Type} {a c : α} {b d : β} (h : some (a, b) = some (c, d)) : a = c ∧ b = d := by simpa using h
theorem jj3 {α β γ : Type} {a d : α} {b e : β} {c f : γ} (h : some (a, b, c) = some (d, e, f)) : a = d ∧ b = e ∧ c = f := by simpa using h
theorem bz {w : World} {g : Nat} {t : TypeId} {cs : Array Value} (h : w.heap[g]? = some (.cells cs t (0, 0))) (i : Nat) : w.frozen? ⟨g, i, none⟩ = false := blk_frozen h i
theorem hbc {w W : World} {p : Addr} {v : Value} (hb : Below w.heap.size w W) (h : w.cell? p = some v) : W.cell? p = some v := (hb.cell (World.block_lt_of_cell? w _ h)).trans h
theorem f0 {p q : Prop} (a : p := by first | rfl | (simp; done) | (simp [*]; done)) (b : q := by repeat (first | exact Drawn0.refl _ | apply Drawn0.step)) : p ∧ q := ⟨a, b⟩
theorem f1 {p q : Prop} (b : q) (a : p := by first | rfl | (simp [errW_none, errW_some] <;> rfl) | (simp [*, errW_none, errW_some] <;> rfl)) : p ∧ q := ⟨a, b⟩
theorem goesD {P : Program} {ops : Array Oper} {Q : Exit → Act → World → Prop} {rest : List Oper} {oi : Oper} {a : Act} {w : World} (N : Option Tmp) (hd : oi.dst = N) (hg : oi.guard = none) {f : FuncId} {fn : Func} {os : Array Operand} {ts : Array TypeId} (hf : P.funcs[f]? = some fn) (hb : fn.body.isSome = true) (args : Array Value) (hop : oi.op = .call { callee := .value (.func f), args := os, argTypes := ts })
    (h : Calls P f args w fun e w' => ∃ v, e = .returned v ∧ wpList P ops Q rest (a.put N v) w') (hargs : os.map a.eval = args := by (try simp only [List.map_toArray, List.map_cons, List.map_nil]); first | done | rfl | (simp only [List.length_drop, List.length_take]; rfl)) (hname : (fn.name == "runtime.NumGoroutine") = false := by kernel_rfl) : wpList P ops Q (oi :: rest) a w := goesL_ N hd hg hf hname hb args hop hargs h
theorem sk {p : Prop} (h : p) : Aside0 p := ⟨h⟩
end Go.Proofs.Ytifbflpaednfnaa.PBasisNets
