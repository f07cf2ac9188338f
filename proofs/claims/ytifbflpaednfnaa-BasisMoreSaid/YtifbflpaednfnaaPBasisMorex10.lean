/- What the functions that this law reaches answer, in whatever memory, and the row of the law; no condition. Written by a program of this session (mk.sh). -/
import Derived.Test.YtifbflpaednfnaaPBasisMorex0
import Derived.Test.YtifbflpaednfnaaPBasisMorex9
namespace Go.Proofs.Ytifbflpaednfnaa.PBasisMore
open Go.RowKit Go.Proofs.YtifbflpaednfnaaW.PrintWords Go.Proofs.YtifbflpaednfnaaW.PrintLast Go.Proofs.YtifbflpaednfnaaW.PrintMore
attribute [local go_sem] max2_int min2_int max_two min_two max_three min_three max_four min_four   -- for this text's walks alone
set_option linter.unusedVariables false
set_option linter.unusedSimpArgs false

/-! ### marblerunref05_Make: function 12 -/
mutual
def marblerunref05_Make.l0 : Nat → Int → List Int → List (S60) → List (S46) → Option ((List (S46)) × (List (S54)))
 | 0, _, _, _, _ => none
 | k + 1, x4, x331000, x331001, x333000 => if x4 < (1 + ((x331000.length : Int) % 7)) then (if x4 < (x331000.length : Int) then (if 0 ≤ x4 then ((some (([(wrap64 (97 + x4)) % 256] : List Int) : List Int)).bind fun y334 => (if 1 + (strOfNums y334).size ≤ 9223372036854775807 then (if x333000.length < 5864062014805 then (marblerunref05_Make.l0 k (wrap64 (x4 + 1)) x331000 x331001 (x333000 ++ [(⟨(⟨#[112]⟩ : ByteArray) ++ (strOfNums y334), wrap64 (Int.tmod (rd x331000 x4) 5)⟩ : S46)])) else (none)) else (none))) else (none)) else ((some (([(wrap64 (97 + x4)) % 256] : List Int) : List Int)).bind fun y340 => (if 1 + (strOfNums y340).size ≤ 9223372036854775807 then (if x333000.length < 5864062014805 then (marblerunref05_Make.l0 k (wrap64 (x4 + 1)) x331000 x331001 (x333000 ++ [(⟨(⟨#[112]⟩ : ByteArray) ++ (strOfNums y340), 0⟩ : S46)])) else (none)) else (none)))) else (marblerunref05_Make.l1 k (x333000.length : Int) 0 x331000 x331001 x333000 ([] : List (S54)))
def marblerunref05_Make.l1 : Nat → Int → Int → List Int → List (S60) → List (S46) → List (S54) → Option ((List (S46)) × (List (S54)))
 | 0, _, _, _, _, _, _ => none
 | k + 1, x6, x7, x331000, x331001, x333000, x333001 => if x7 < (x331001.length : Int) then (marblerunref05_Make.j2 k x6 x7 (decide (x7 < 9)) x331000 x331001 x333000 x333001) else (marblerunref05_Make.j2 k x6 x7 false x331000 x331001 x333000 x333001)
def marblerunref05_Make.j2 : Nat → Int → Int → Bool → List Int → List (S60) → List (S46) → List (S54) → Option ((List (S46)) × (List (S54)))
 | 0, _, _, _, _, _, _, _ => none
 | k + 1, x6, x7, x55, x331000, x331001, x333000, x333001 => if x55 = true then (if 0 ≤ x7 then (if x7 < (x331001.length : Int) then ((some (([(wrap64 (48 + x7)) % 256] : List Int) : List Int)).bind fun y348 => (if 1 + (strOfNums y348).size ≤ 9223372036854775807 then (if 1 + (strOfNums y348).size + 2 ≤ 9223372036854775807 then (if x6 = 0 then (none) else ((marblerunref05_put.f k ([] : List (S51)) (Int.tmod (wrap64 ((rd_T60 x331001 x7).f2)) x6) (1 + (((Int.tdiv ((rd_T60 x331001 x7).f2) 64) % 256) % 2))).bind fun t352 => (if (Int.tmod ((rd_T60 x331001 x7).f3) 3) = 0 then ((marblerunref05_put.f k t352 (((Int.tdiv ((rd_T60 x331001 x7).f3) 3) % 256) % x6) 1).bind fun t355 => (marblerunref05_Make.j3 k x6 x7 x331000 x331001 x333000 x333001 ((rd_T60 x331001 x7).f0) ((rd_T60 x331001 x7).f1) ((rd_T60 x331001 x7).f2) ((rd_T60 x331001 x7).f3) ((rd_T60 x331001 x7).f4) ((rd_T60 x331001 x7).f5) ((rd_T60 x331001 x7).f6) (((⟨#[116]⟩ : ByteArray) ++ (strOfNums y348)) ++ (⟨#[46, 120]⟩ : ByteArray)) (wrap64 (Int.tmod ((rd_T60 x331001 x7).f0) 5)) (wrap64 (Int.tmod ((rd_T60 x331001 x7).f1) 3)) t355)) else (marblerunref05_Make.j3 k x6 x7 x331000 x331001 x333000 x333001 ((rd_T60 x331001 x7).f0) ((rd_T60 x331001 x7).f1) ((rd_T60 x331001 x7).f2) ((rd_T60 x331001 x7).f3) ((rd_T60 x331001 x7).f4) ((rd_T60 x331001 x7).f5) ((rd_T60 x331001 x7).f6) (((⟨#[116]⟩ : ByteArray) ++ (strOfNums y348)) ++ (⟨#[46, 120]⟩ : ByteArray)) (wrap64 (Int.tmod ((rd_T60 x331001 x7).f0) 5)) (wrap64 (Int.tmod ((rd_T60 x331001 x7).f1) 3)) t352)))) else (none)) else (none))) else (none)) else (none)) else (some (x333000, x333001))
def marblerunref05_Make.j3 : Nat → Int → Int → List Int → List (S60) → List (S46) → List (S54) → Int → Int → Int → Int → Int → Int → Int → ByteArray → Int → Int → List (S51) → Option ((List (S46)) × (List (S54)))
 | 0, _, _, _, _, _, _, _, _, _, _, _, _, _, _, _, _, _ => none
 | k + 1, x6, x7, x331000, x331001, x333000, x333001, x348000, x348001, x348002, x348003, x348004, x348005, x348006, x352000, x352001, x352002, x352003 => if (Int.tmod x348004 4) = 0 then (if x6 = 0 then (none) else ((marblerunref05_put.f k ([] : List (S51)) (((Int.tdiv x348004 4) % 256) % x6) (1 + ((Int.tdiv x348004 64) % 256))).bind fun t358 => (marblerunref05_Make.j4 k x6 x7 x331000 x331001 x333000 x333001 x348000 x348001 x348002 x348003 x348004 x348005 x348006 x352000 x352001 x352002 x352003 t358))) else (marblerunref05_Make.j4 k x6 x7 x331000 x331001 x333000 x333001 x348000 x348001 x348002 x348003 x348004 x348005 x348006 x352000 x352001 x352002 x352003 ([] : List (S51)))
def marblerunref05_Make.j4 : Nat → Int → Int → List Int → List (S60) → List (S46) → List (S54) → Int → Int → Int → Int → Int → Int → Int → ByteArray → Int → Int → List (S51) → List (S51) → Option ((List (S46)) × (List (S54)))
 | 0, _, _, _, _, _, _, _, _, _, _, _, _, _, _, _, _, _, _ => none
 | k + 1, x6, x7, x331000, x331001, x333000, x333001, x348000, x348001, x348002, x348003, x348004, x348005, x348006, x352000, x352001, x352002, x352003, x352004 => if (Int.tmod x348005 5) > 0 then (if x6 = 0 then (none) else ((marblerunref05_put.f k ([] : List (S51)) (((Int.tdiv x348005 5) % 256) % x6) (1 + ((Int.tdiv x348005 128) % 256))).bind fun t361 => (marblerunref05_Make.j5 k x6 x7 x331000 x331001 x333000 x333001 x348000 x348001 x348002 x348003 x348004 x348005 x348006 x352000 x352001 x352002 x352003 x352004 t361))) else (marblerunref05_Make.j5 k x6 x7 x331000 x331001 x333000 x333001 x348000 x348001 x348002 x348003 x348004 x348005 x348006 x352000 x352001 x352002 x352003 x352004 ([] : List (S51)))
def marblerunref05_Make.j5 : Nat → Int → Int → List Int → List (S60) → List (S46) → List (S54) → Int → Int → Int → Int → Int → Int → Int → ByteArray → Int → Int → List (S51) → List (S51) → List (S51) → Option ((List (S46)) × (List (S54)))
 | 0, _, _, _, _, _, _, _, _, _, _, _, _, _, _, _, _, _, _, _ => none
 | k + 1, x6, x7, x331000, x331001, x333000, x333001, x348000, x348001, x348002, x348003, x348004, x348005, x348006, x352000, x352001, x352002, x352003, x352004, x352005 => if (Int.tmod x348006 3) > 0 then (if x6 = 0 then (none) else ((marblerunref05_put.f k x352005 (((Int.tdiv x348006 3) % 256) % x6) 1).bind fun t364 => (marblerunref05_Make.j6 k x6 x7 x331000 x331001 x333000 x333001 x348000 x348001 x348002 x348003 x348004 x348005 x348006 x352000 x352001 x352002 x352003 x352004 t364))) else (marblerunref05_Make.j6 k x6 x7 x331000 x331001 x333000 x333001 x348000 x348001 x348002 x348003 x348004 x348005 x348006 x352000 x352001 x352002 x352003 x352004 x352005)
def marblerunref05_Make.j6 : Nat → Int → Int → List Int → List (S60) → List (S46) → List (S54) → Int → Int → Int → Int → Int → Int → Int → ByteArray → Int → Int → List (S51) → List (S51) → List (S51) → Option ((List (S46)) × (List (S54)))
 | 0, _, _, _, _, _, _, _, _, _, _, _, _, _, _, _, _, _, _, _ => none
 | k + 1, x6, x7, x331000, x331001, x333000, x333001, x348000, x348001, x348002, x348003, x348004, x348005, x348006, x352000, x352001, x352002, x352003, x352004, x352005 => if x352001 = 0 then (if x348000 < 128 then (if x333001.length < 1353245080339 then (marblerunref05_Make.l1 k x6 (wrap64 (x7 + 1)) x331000 x331001 x333000 (x333001 ++ [(⟨x352000, 1, x352002, x352003, x352004, x352005⟩ : S54)])) else (none)) else (if x333001.length < 1353245080339 then (marblerunref05_Make.l1 k x6 (wrap64 (x7 + 1)) x331000 x331001 x333000 (x333001 ++ [(⟨x352000, x352001, x352002, x352003, x352004, x352005⟩ : S54)])) else (none))) else (if x333001.length < 1353245080339 then (marblerunref05_Make.l1 k x6 (wrap64 (x7 + 1)) x331000 x331001 x333000 (x333001 ++ [(⟨x352000, x352001, x352002, x352003, x352004, x352005⟩ : S54)])) else (none))
end
def marblerunref05_Make.f (k : Nat) (l0_0 : List Int) (l0_1 : List (S60)) : Option ((List (S46)) × (List (S54))) := marblerunref05_Make.l0 k 0 l0_0 l0_1 ([] : List (S46))
theorem marblerunref05_Make.mono_l : ∀ k, (∀ y0 y1 y2 y3, LeO (marblerunref05_Make.l0 k y0 y1 y2 y3) (marblerunref05_Make.l0 (k + 1) y0 y1 y2 y3)) ∧ (∀ y0 y1 y2 y3 y4 y5, LeO (marblerunref05_Make.l1 k y0 y1 y2 y3 y4 y5) (marblerunref05_Make.l1 (k + 1) y0 y1 y2 y3 y4 y5)) ∧ (∀ y0 y1 y2 y3 y4 y5 y6, LeO (marblerunref05_Make.j2 k y0 y1 y2 y3 y4 y5 y6) (marblerunref05_Make.j2 (k + 1) y0 y1 y2 y3 y4 y5 y6)) ∧ (∀ y0 y1 y2 y3 y4 y5 y6 y7 y8 y9 y10 y11 y12 y13 y14 y15 y16, LeO (marblerunref05_Make.j3 k y0 y1 y2 y3 y4 y5 y6 y7 y8 y9 y10 y11 y12 y13 y14 y15 y16) (marblerunref05_Make.j3 (k + 1) y0 y1 y2 y3 y4 y5 y6 y7 y8 y9 y10 y11 y12 y13 y14 y15 y16)) ∧ (∀ y0 y1 y2 y3 y4 y5 y6 y7 y8 y9 y10 y11 y12 y13 y14 y15 y16 y17, LeO (marblerunref05_Make.j4 k y0 y1 y2 y3 y4 y5 y6 y7 y8 y9 y10 y11 y12 y13 y14 y15 y16 y17) (marblerunref05_Make.j4 (k + 1) y0 y1 y2 y3 y4 y5 y6 y7 y8 y9 y10 y11 y12 y13 y14 y15 y16 y17)) ∧ (∀ y0 y1 y2 y3 y4 y5 y6 y7 y8 y9 y10 y11 y12 y13 y14 y15 y16 y17 y18, LeO (marblerunref05_Make.j5 k y0 y1 y2 y3 y4 y5 y6 y7 y8 y9 y10 y11 y12 y13 y14 y15 y16 y17 y18) (marblerunref05_Make.j5 (k + 1) y0 y1 y2 y3 y4 y5 y6 y7 y8 y9 y10 y11 y12 y13 y14 y15 y16 y17 y18)) ∧ (∀ y0 y1 y2 y3 y4 y5 y6 y7 y8 y9 y10 y11 y12 y13 y14 y15 y16 y17 y18, LeO (marblerunref05_Make.j6 k y0 y1 y2 y3 y4 y5 y6 y7 y8 y9 y10 y11 y12 y13 y14 y15 y16 y17 y18) (marblerunref05_Make.j6 (k + 1) y0 y1 y2 y3 y4 y5 y6 y7 y8 y9 y10 y11 y12 y13 y14 y15 y16 y17 y18))
 | 0 => ⟨fun _ _ _ _ r h => by simp [marblerunref05_Make.l0] at h, fun _ _ _ _ _ _ r h => by simp [marblerunref05_Make.l1] at h, fun _ _ _ _ _ _ _ r h => by simp [marblerunref05_Make.j2] at h, fun _ _ _ _ _ _ _ _ _ _ _ _ _ _ _ _ _ r h => by simp [marblerunref05_Make.j3] at h, fun _ _ _ _ _ _ _ _ _ _ _ _ _ _ _ _ _ _ r h => by simp [marblerunref05_Make.j4] at h, fun _ _ _ _ _ _ _ _ _ _ _ _ _ _ _ _ _ _ _ r h => by simp [marblerunref05_Make.j5] at h, fun _ _ _ _ _ _ _ _ _ _ _ _ _ _ _ _ _ _ _ r h => by simp [marblerunref05_Make.j6] at h⟩
 | k + 1 => by
  obtain ⟨ih0, ih1, ih2, ih3, ih4, ih5, ih6⟩ := marblerunref05_Make.mono_l k
  refine ⟨?_, ?_, ?_, ?_, ?_, ?_, ?_⟩
  all_goals
   intros
   first
   | unfold marblerunref05_Make.l0
   | unfold marblerunref05_Make.l1
   | unfold marblerunref05_Make.j2
   | unfold marblerunref05_Make.j3
   | unfold marblerunref05_Make.j4
   | unfold marblerunref05_Make.j5
   | unfold marblerunref05_Make.j6
   repeat' first
   | (with_reducible exact ih0 _ _ _ _)
   | (with_reducible exact ih1 _ _ _ _ _ _)
   | (with_reducible exact ih2 _ _ _ _ _ _ _)
   | (with_reducible exact ih3 _ _ _ _ _ _ _ _ _ _ _ _ _ _ _ _ _)
   | (with_reducible exact ih4 _ _ _ _ _ _ _ _ _ _ _ _ _ _ _ _ _ _)
   | (with_reducible exact ih5 _ _ _ _ _ _ _ _ _ _ _ _ _ _ _ _ _ _ _)
   | (with_reducible exact ih6 _ _ _ _ _ _ _ _ _ _ _ _ _ _ _ _ _ _ _)
   | (with_reducible exact marblerunref05_put.mono _ _ _ _)
   | (with_reducible exact LeO.refl _)
   | (with_reducible exact LeO.none _)
   | (with_reducible refine LeO.ite ?_ ?_)
   | (with_reducible refine LeO.bind ?_ (fun _ => ?_))
   | exact ih0 _ _ _ _
   | exact ih1 _ _ _ _ _ _
   | exact ih2 _ _ _ _ _ _ _
   | exact ih3 _ _ _ _ _ _ _ _ _ _ _ _ _ _ _ _ _
   | exact ih4 _ _ _ _ _ _ _ _ _ _ _ _ _ _ _ _ _ _
   | exact ih5 _ _ _ _ _ _ _ _ _ _ _ _ _ _ _ _ _ _ _
   | exact ih6 _ _ _ _ _ _ _ _ _ _ _ _ _ _ _ _ _ _ _
   | exact marblerunref05_put.mono _ _ _ _
   | exact LeO.none _
   | refine LeO.ite ?_ ?_
   | refine LeO.bind ?_ (fun _ => ?_)
theorem marblerunref05_Make.mono : ∀ a0 a1 k, LeO (marblerunref05_Make.f k a0 a1) (marblerunref05_Make.f (k + 1) a0 a1) := by
 intro a0 a1 k
 obtain ⟨ih0, ih1, ih2, ih3, ih4, ih5, ih6⟩ := marblerunref05_Make.mono_l k
 unfold marblerunref05_Make.f
 repeat' first
  | (with_reducible exact ih0 _ _ _ _)
  | (with_reducible exact ih1 _ _ _ _ _ _)
  | (with_reducible exact ih2 _ _ _ _ _ _ _)
  | (with_reducible exact ih3 _ _ _ _ _ _ _ _ _ _ _ _ _ _ _ _ _)
  | (with_reducible exact ih4 _ _ _ _ _ _ _ _ _ _ _ _ _ _ _ _ _ _)
  | (with_reducible exact ih5 _ _ _ _ _ _ _ _ _ _ _ _ _ _ _ _ _ _ _)
  | (with_reducible exact ih6 _ _ _ _ _ _ _ _ _ _ _ _ _ _ _ _ _ _ _)
  | (with_reducible exact marblerunref05_put.mono _ _ _ _)
  | (with_reducible exact LeO.refl _)
  | (with_reducible exact LeO.none _)
  | (with_reducible refine LeO.ite ?_ ?_)
  | (with_reducible refine LeO.bind ?_ (fun _ => ?_))
  | exact ih0 _ _ _ _
  | exact ih1 _ _ _ _ _ _
  | exact ih2 _ _ _ _ _ _ _
  | exact ih3 _ _ _ _ _ _ _ _ _ _ _ _ _ _ _ _ _
  | exact ih4 _ _ _ _ _ _ _ _ _ _ _ _ _ _ _ _ _ _
  | exact ih5 _ _ _ _ _ _ _ _ _ _ _ _ _ _ _ _ _ _ _
  | exact ih6 _ _ _ _ _ _ _ _ _ _ _ _ _ _ _ _ _ _ _
  | exact marblerunref05_put.mono _ _ _ _
  | exact LeO.none _
  | refine LeO.ite ?_ ?_
  | refine LeO.bind ?_ (fun _ => ?_)
def marblerunref05_Make.T15 : Bool × List (List Nat × List Nat) := (true, [([], []), ([0], [0]), ([], []), ([2], [2]), ([3], [3]), ([], []), ([4, 5], [4, 5]), ([], []), ([7], [7]), ([8], [8]), ([9], [9]), ([10], [10]), ([11], [11]), ([1, 6, 12], [1, 6, 12]), ([0, 1, 2, 3, 4, 5, 6, 7, 8, 9, 10, 11, 12, 13], []), ([14, 13, 13, 0, 1, 2, 3, 4, 5, 6, 7, 8, 9, 10, 11, 12, 13], [13, 14])])
def marblerunref05_Make.B15 : List Nat := [0, 1, 0, 4, 12, 0, 60, 0, 128, 384, 896, 1920, 3968, 8191, 16383, 32767]
theorem marblerunref05_Make.tab15 : rtab .any (opsOf Try.f12 15) = marblerunref05_Make.T15 := by kernel_rfl
theorem marblerunref05_Make.bits15 : waitsOk marblerunref05_Make.T15.2 marblerunref05_Make.B15 = true := by kernel_rfl
def marblerunref05_Make.T17 : Bool × List (List Nat × List Nat) := (true, [([], []), ([0], [0]), ([], []), ([2], [2]), ([3], [3]), ([4], [4]), ([], []), ([5, 6], [5, 6]), ([1, 7], [1, 7]), ([0, 1, 2, 3, 4, 5, 6, 7, 8], []), ([9, 8, 8, 0, 1, 2, 3, 4, 5, 6, 7, 8], [8, 9])])
def marblerunref05_Make.B17 : List Nat := [0, 1, 0, 4, 12, 28, 0, 124, 255, 511, 1023]
theorem marblerunref05_Make.tab17 : rtab .any (opsOf Try.f12 17) = marblerunref05_Make.T17 := by kernel_rfl
theorem marblerunref05_Make.bits17 : waitsOk marblerunref05_Make.T17.2 marblerunref05_Make.B17 = true := by kernel_rfl
def marblerunref05_Make.T19 : Bool × List (List Nat × List Nat) := (true, [([], []), ([0], [0]), ([], []), ([2], [2]), ([3], [3]), ([4], [4]), ([], []), ([5, 6], [5, 6]), ([], []), ([8], [8]), ([9], [9]), ([10], [10]), ([11], [11]), ([1, 7, 12], [1, 7, 12]), ([0, 1, 2, 3, 4, 5, 6, 7, 8, 9, 10, 11, 12, 13], []), ([14, 13, 13, 0, 1, 2, 3, 4, 5, 6, 7, 8, 9, 10, 11, 12, 13], [13, 14])])
def marblerunref05_Make.B19 : List Nat := [0, 1, 0, 4, 12, 28, 0, 124, 0, 256, 768, 1792, 3840, 8191, 16383, 32767]
theorem marblerunref05_Make.tab19 : rtab .any (opsOf Try.f12 19) = marblerunref05_Make.T19 := by kernel_rfl
theorem marblerunref05_Make.bits19 : waitsOk marblerunref05_Make.T19.2 marblerunref05_Make.B19 = true := by kernel_rfl
def marblerunref05_Make.T21 : Bool × List (List Nat × List Nat) := (true, [([], []), ([0], [0]), ([], []), ([2], [2]), ([3], [3]), ([4], [4]), ([], []), ([5, 6], [5, 6]), ([], []), ([8], [8]), ([9], [9]), ([10], [10]), ([11], [11]), ([1, 7, 12], [1, 7, 12]), ([0, 1, 2, 3, 4, 5, 6, 7, 8, 9, 10, 11, 12, 13], []), ([14, 13, 13, 0, 1, 2, 3, 4, 5, 6, 7, 8, 9, 10, 11, 12, 13], [13, 14])])
def marblerunref05_Make.B21 : List Nat := [0, 1, 0, 4, 12, 28, 0, 124, 0, 256, 768, 1792, 3840, 8191, 16383, 32767]
theorem marblerunref05_Make.tab21 : rtab .any (opsOf Try.f12 21) = marblerunref05_Make.T21 := by kernel_rfl
theorem marblerunref05_Make.bits21 : waitsOk marblerunref05_Make.T21.2 marblerunref05_Make.B21 = true := by kernel_rfl
def marblerunref05_Make.T23 : Bool × List (List Nat × List Nat) := (true, [([], []), ([0], [0]), ([], []), ([2], [2]), ([3], [3]), ([4], [4]), ([], []), ([5, 6], [5, 6]), ([1, 7], [1, 7]), ([0, 1, 2, 3, 4, 5, 6, 7, 8], []), ([9, 8, 8, 0, 1, 2, 3, 4, 5, 6, 7, 8], [8, 9])])
def marblerunref05_Make.B23 : List Nat := [0, 1, 0, 4, 12, 28, 0, 124, 255, 511, 1023]
theorem marblerunref05_Make.tab23 : rtab .any (opsOf Try.f12 23) = marblerunref05_Make.T23 := by kernel_rfl
theorem marblerunref05_Make.bits23 : waitsOk marblerunref05_Make.T23.2 marblerunref05_Make.B23 = true := by kernel_rfl
set_option maxHeartbeats 8000000 in
set_option maxRecDepth 100000 in
theorem marblerunref05_Make.calls (k : Nat) (A0_0 : Option Addr) (c0_0 : Nat) (l0_0 : List Int) (A0_1 : Option Addr) (c0_1 : Nat) (l0_1 : List (S60)) (r1 : List (S46)) (r2 : List (S54)) (w : World) (hr0_0 : Kd.C (Kd.int .u8) w A0_0 l0_0.length l0_0) (hc0_0 : l0_0.length ≤ c0_0) (hr0_1 : Kd.C k60 w A0_1 l0_1.length l0_1) (hc0_1 : l0_1.length ≤ c0_1) (h : marblerunref05_Make.f k l0_0 l0_1 = some (r1, r2)) :
 Calls Try.prog 12 #[.agg #[.slice A0_0 l0_0.length c0_0, .slice A0_1 l0_1.length c0_1]] w fun e w' => ∃ v0_ v1_ : Value, e = .returned (.agg #[v0_, v1_]) ∧ Kd.R k46 46 w' w.heap.size (fun _ => True) v0_ r1 ∧ Kd.S k54 54 w' w.heap.size (fun _ => True) v1_ r2 ∧ Below w.heap.size w w' := by
 have hu25 := Try.underlying25
 have hu31 := Try.underlying31
 have hu46 := Try.underlying46
 have hu60 := Try.underlying60
 have hu54 := Try.underlying54
 have HR0_0 := Aside0.mk hr0_0
 have HC0_0 := Aside0.mk hc0_0
 clear hr0_0 hc0_0
 have HR0_1 := Aside0.mk hr0_1
 have HC0_1 := Aside0.mk hc0_1
 clear hr0_1 hc0_1
 have HB := Aside0.mk (Below.refl w.heap.size w)
 have H : (marblerunref05_Make.l0 k 0 l0_0 l0_1 ([] : List (S46))) = some (r1, r2) := h
 clear h
 have H' := Aside0.mk H
 clear H
 go_enter Try.func12, Try.ntmps12
 go_wp2_with (first | ((with_reducible refine gate_dst (N := 1) rfl ?_); refine box_event ?hg (N := 1) ?hd (cs := #[.slice A0_0 l0_0.length c0_0, .slice A0_1 l0_1.length c0_1]) (t := 25) ?hr ?_; (case hd => rfl); (case hg => rfl); (case hr => first | (go_simp; done) | (go_simp; rfl)); intro gb330 hg w2 hbox hb; have n0_ := Aside0.mk (below_step (hbq HB.out) hb); have n1_ := Aside0.mk (hbox); have n2_ := Aside0.mk ((by rw [hg]; exact (below_size (hbq HB.out)) : w.heap.size ≤ gb330)); have n3_ := Aside0.mk ((by rw [hg]; exact (below_size (hbq HB.out)) : w.heap.size ≤ gb330)); clear HB; have HB := n0_; have BK330 := n1_; have GW330 := n2_; have GE330 := n3_; clear n0_ n1_ n2_ n3_; clear hb hbox hg) | ((with_reducible refine gate_dst (N := 2) rfl ?_); refine box_event ?hg (N := 2) ?hd (cs := #[.slice none 0 0, .slice none 0 0]) (t := 31) ?hr ?_; (case hd => rfl); (case hg => rfl); (case hr => first | (go_simp; done) | (go_simp; rfl)); intro gb331 hg w3 hbox hb; have n0_ := Aside0.mk (blk_below (g := gb330) (o := .cells #[.slice A0_0 l0_0.length c0_0, .slice A0_1 l0_1.length c0_1] 25 (0, 0)) (bkq BK330.out) hb); have n1_ := Aside0.mk (below_step (hbq HB.out) hb); have n2_ := Aside0.mk (hbox); have n3_ := Aside0.mk ((by rw [hg]; exact (below_size (hbq HB.out)) : w.heap.size ≤ gb331)); have n4_ := Aside0.mk ((by rw [hg]; exact (below_size (hbq HB.out)) : w.heap.size ≤ gb331)); have n5_ := Aside0.mk ((by rw [hg]; exact Nat.ne_of_lt (blk_lt (g := gb330) (o := .cells #[.slice A0_0 l0_0.length c0_0, .slice A0_1 l0_1.length c0_1] 25 (0, 0)) (bkq BK330.out)) : gb330 ≠ gb331)); have n6_ := Aside0.mk ((by rw [hg]; exact Nat.ne_of_gt (blk_lt (g := gb330) (o := .cells #[.slice A0_0 l0_0.length c0_0, .slice A0_1 l0_1.length c0_1] 25 (0, 0)) (bkq BK330.out)) : gb331 ≠ gb330)); clear BK330; clear HB; have BK330 := n0_; have HB := n1_; have BK331 := n2_; have GW331 := n3_; have GE331 := n4_; have NB330_331 := n5_; have NB331_330 := n6_; clear n0_ n1_ n2_ n3_ n4_ n5_ n6_; clear hb hbox hg) | ((with_reducible refine gate_dst (N := 3) rfl ?_); refine box_event ?hg (N := 3) ?hd (cs := #[.slice none 0 0, .slice none 0 0]) (t := 31) ?hr ?_; (case hd => rfl); (case hg => rfl); (case hr => first | (go_simp; done) | (go_simp; rfl)); intro gb332 hg w4 hbox hb; have n0_ := Aside0.mk (blk_below (g := gb330) (o := .cells #[.slice A0_0 l0_0.length c0_0, .slice A0_1 l0_1.length c0_1] 25 (0, 0)) (bkq BK330.out) hb); have n1_ := Aside0.mk (blk_below (g := gb331) (o := .cells #[.slice none 0 0, .slice none 0 0] 31 (0, 0)) (bkq BK331.out) hb); have n2_ := Aside0.mk (below_step (hbq HB.out) hb); have n3_ := Aside0.mk (hbox); have n4_ := Aside0.mk ((by rw [hg]; exact (below_size (hbq HB.out)) : w.heap.size ≤ gb332)); have n5_ := Aside0.mk ((by rw [hg]; exact (below_size (hbq HB.out)) : w.heap.size ≤ gb332)); have n6_ := Aside0.mk ((by rw [hg]; exact Nat.ne_of_lt (blk_lt (g := gb330) (o := .cells #[.slice A0_0 l0_0.length c0_0, .slice A0_1 l0_1.length c0_1] 25 (0, 0)) (bkq BK330.out)) : gb330 ≠ gb332)); have n7_ := Aside0.mk ((by rw [hg]; exact Nat.ne_of_gt (blk_lt (g := gb330) (o := .cells #[.slice A0_0 l0_0.length c0_0, .slice A0_1 l0_1.length c0_1] 25 (0, 0)) (bkq BK330.out)) : gb332 ≠ gb330)); have n8_ := Aside0.mk ((by rw [hg]; exact Nat.ne_of_lt (blk_lt (g := gb331) (o := .cells #[.slice none 0 0, .slice none 0 0] 31 (0, 0)) (bkq BK331.out)) : gb331 ≠ gb332)); have n9_ := Aside0.mk ((by rw [hg]; exact Nat.ne_of_gt (blk_lt (g := gb331) (o := .cells #[.slice none 0 0, .slice none 0 0] 31 (0, 0)) (bkq BK331.out)) : gb332 ≠ gb331)); clear BK330; clear BK331; clear HB; have BK330 := n0_; have BK331 := n1_; have HB := n2_; have BK332 := n3_; have GW332 := n4_; have GE332 := n5_; have NB330_332 := n6_; have NB332_330 := n7_; have NB331_332 := n8_; have NB332_331 := n9_; clear n0_ n1_ n2_ n3_ n4_ n5_ n6_ n7_ n8_ n9_; clear hb hbox hg))
 go_loopg [4] k (fun kq v4 w' => ∃ (x4_1 : Int) (x333000_1 : List (S46)) (u333000 : Value), v4 = .int .i64 x4_1 ∧ Aside0 (marblerunref05_Make.l0 kq x4_1 l0_0 l0_1 x333000_1 = some (r1, r2)) ∧ Aside0 (kq ≤ k) ∧ Aside0 (Kd.R k46 46 w' w.heap.size (fun _ => True) u333000 x333000_1) ∧ Aside0 (w'.heap[gb330]? = some (.cells #[(.slice A0_0 l0_0.length c0_0), (.slice A0_1 l0_1.length c0_1)] 25 (0, 0))) ∧ Aside0 (w'.heap[gb331]? = some (.cells #[(.slice none 0 0), (.slice none 0 0)] 31 (0, 0))) ∧ Aside0 (w'.heap[gb332]? = some (.cells #[u333000, (.slice none 0 0)] 31 (0, 0))) ∧ Aside0 (Below w.heap.size w w'))
 case atStart => exact ⟨(0), (([] : List (S46))), (.slice none 0 0), (by first | rfl | (simp; done) | (simp [*]; done)), H', ⟨Nat.le_refl _⟩, ⟨by first | exact Kd.R_nil _ _ _ _ _ | exact Kd.N_nil _ _ _ _ _ | exact Kd.V_nil _ _ _ _ _ | exact Kd.Q_nil _ _ _ _ _ | exact Kd.S_nil _ _ _ _ _⟩, ⟨by refine bkq ?_; exact BK330.out⟩, ⟨by refine bkq ?_; exact BK331.out⟩, ⟨by refine bkq ?_; exact BK332.out⟩, ⟨hbq HB.out⟩⟩
 clear H'
 try clear c1
 try clear p2
 obtain ⟨x4_1, x333000_1, u333000, rfl, HA, HK1, HO_333000, BK330, BK331, BK332, HB⟩ := hrel
 cases gk with
 | zero => exact absurd HA.out (by simp [marblerunref05_Make.l0])
 | succ k1 =>
  have H := HA.out
  clear HA
  simp only [marblerunref05_Make.l0] at H
  by_cases c5 : x4_1 < (1 + ((l0_0.length : Int) % 7))
  ·rw [if_pos c5] at H
   have c5b0 : decide (x4_1 < (1 + ((l0_0.length : Int) % 7))) = true := decide_eq_true c5
   clear c5
   by_cases c6 : x4_1 < (l0_0.length : Int)
   ·rw [if_pos c6] at H
    have c6b0 : decide (x4_1 < (l0_0.length : Int)) = true := decide_eq_true c6
    clear c6
    by_cases c7 : 0 ≤ x4_1
    case neg => rw [if_neg c7] at H; exact absurd H (by simp)
    rw [if_pos c7] at H
    have c7b0 : decide (0 ≤ x4_1) = true := decide_eq_true c7
    clear c7
    obtain ⟨y334, hy334⟩ : ∃ y_ : List Int, y_ = (([(wrap64 (97 + x4_1)) % 256] : List Int)) := ⟨_, rfl⟩
    replace H : (if 1 + (strOfNums y334).size ≤ 9223372036854775807 then (if x333000_1.length < 5864062014805 then (marblerunref05_Make.l0 k1 (wrap64 (x4_1 + 1)) l0_0 l0_1 (x333000_1 ++ [(⟨(⟨#[112]⟩ : ByteArray) ++ (strOfNums y334), wrap64 (Int.tmod (rd l0_0 x4_1) 5)⟩ : S46)])) else (none)) else (none)) = some (r1, r2) := by first | (rw [hy334]; with_reducible exact H) | (have H2_ := (Option.bind_some _ _).symm.trans H; rw [hy334]; with_reducible exact H2_) | (have H2_ := (Option.bind_some _ _).symm.trans H; with_reducible exact H2_) | with_reducible exact H | (rw [hy334]; exact H) | exact H
    have Ny334 := Aside0.mk hy334
    clear hy334
    by_cases c8 : 1 + (strOfNums y334).size ≤ 9223372036854775807
    case neg => rw [if_neg c8] at H; exact absurd H (by simp)
    rw [if_pos c8] at H
    have c8b0 := eq_true c8
    have c8b1 : decide (1 + (strOfNums y334).size ≤ 9223372036854775807) = true := decide_eq_true c8
    try have c8b2 : (9223372036854775807 < 1 + (strOfNums y334).size) = False := eq_false (Nat.not_lt.2 c8)
    by_cases c9 : x333000_1.length < 5864062014805
    case neg => rw [if_neg c9] at H; exact absurd H (by simp)
    rw [if_pos c9] at H
    have LMc9 := Aside0.mk c9
    clear c9
    obtain ⟨y337, hy337⟩ : ∃ y_ : List (S46), y_ = (x333000_1 ++ [(⟨(⟨#[112]⟩ : ByteArray) ++ (strOfNums y334), wrap64 (Int.tmod (rd l0_0 x4_1) 5)⟩ : S46)]) := ⟨_, rfl⟩
    replace H : (marblerunref05_Make.l0 k1 (wrap64 (x4_1 + 1)) l0_0 l0_1 y337) = some (r1, r2) := by first | (rw [hy337]; with_reducible exact H) | (have H2_ := (Option.bind_some _ _).symm.trans H; rw [hy337]; with_reducible exact H2_) | (have H2_ := (Option.bind_some _ _).symm.trans H; with_reducible exact H2_) | with_reducible exact H | (rw [hy337]; exact H) | exact H
    have Ny337 := Aside0.mk hy337
    clear hy337
    have H' := Aside0.mk H
    clear H
    have hnb10 := NB330_331.out
    have hnc10 := NB331_330.out
    have hnb11 := NB330_332.out
    have hnc11 := NB332_330.out
    have hcz12_0 : wr.cell? ⟨gb330, 0, none⟩ = some (.slice A0_0 l0_0.length c0_0) := (blk_cell BK330.out 0).trans rfl
    have hcz12_1 : wr.cell? ⟨gb330, 1, none⟩ = some (.slice A0_1 l0_1.length c0_1) := (blk_cell BK330.out 1).trans rfl
    have hfz12_0 := blk_frozen BK330.out 0
    have hfz12_1 := blk_frozen BK330.out 1
    have p333 : 0 ≤ (x4_1 : Int) := of_decide_eq_true (by first | (with_reducible assumption) | assumption)
    have q333 : x4_1 < (l0_0.length : Int) := of_decide_eq_true (by first | (with_reducible assumption) | assumption)
    obtain ⟨ad333, e333, hx333_0⟩ := Kd.at_int HR0_0.out x4_1 p333 q333
    cases e333
    replace hx333_0 := (HB.out.cell (World.block_lt_of_cell? w _ hx333_0)).trans hx333_0
    replace p333 := eq_true p333
    replace q333 := eq_true q333
    have hnb13 := NB332_331.out
    have hnc13 := NB331_332.out
    have hcz14_0 : wr.cell? ⟨gb332, 0, none⟩ = some (u333000) := (blk_cell BK332.out 0).trans rfl
    have hcz14_1 : wr.cell? ⟨gb332, 1, none⟩ = some (.slice none 0 0) := (blk_cell BK332.out 1).trans rfl
    have hfz14_0 := blk_frozen BK332.out 0
    have hfz14_1 := blk_frozen BK332.out 1
    go_wp2_with (first | ((with_reducible refine gate_dst (N := 36) rfl ?_); refine Kd.R_lit (Kd.int .u8) _ 5 ?hg (N := 36) ?hd (xs := ([(wrap64 (97 + x4_1)) % 256] : List Int)) (inner := [.int .u8 ((wrap64 (97 + x4_1)) % 256)]) (ok := fun _ => True) (okp := fun _ => True) ?hr ?hp (fun _ hk => hk) trivial (Below.refl _ _) (Nat.le_refl _) (by simp) ?_; (case hd => rfl); (case hg => rfl); (case hr => first | (go_simp; done) | (go_simp; rfl)); (case hp => exact (Reps.one (show Kd.M (Kd.int .u8) _ _ _ ((wrap64 (97 + x4_1)) % 256) [.int .u8 ((wrap64 (97 + x4_1)) % 256)] from rfl) (Reps.none _ _))); intro v335 w15 ho16 hb hg_ hnew_; clear hg_ hnew_; (first | rw [← Ny334.out] at ho16 | (simp only [Int.reduceToNat] at ho16; rw [← Ny334.out] at ho16)); have n0_ := Aside0.mk (Kd.R_below (kq_R HO_333000.out) hb); have n1_ := Aside0.mk (Kd.R_lower ho16 (below_size (hbq HB.out))); have n2_ := Aside0.mk (blk_below (g := gb330) (o := .cells #[.slice (some ad333) l0_0.length c0_0, .slice A0_1 l0_1.length c0_1] 25 (0, 0)) (bkq BK330.out) hb); have n3_ := Aside0.mk (blk_below (g := gb331) (o := .cells #[.slice none 0 0, .slice none 0 0] 31 (0, 0)) (bkq BK331.out) hb); have n4_ := Aside0.mk (blk_below (g := gb332) (o := .cells #[u333000, .slice none 0 0] 31 (0, 0)) (bkq BK332.out) hb); have n5_ := Aside0.mk (below_step (hbq HB.out) hb); clear HO_333000; clear BK330; clear BK331; clear BK332; clear HB; have HO_333000 := n0_; have HO336 := n1_; have BK330 := n2_; have BK331 := n3_; have BK332 := n4_; have HB := n5_; clear n0_ n1_ n2_ n3_ n4_ n5_; clear hb ho16; have hcv17 := own_string (P := Try.prog) Try.underlying22 Try.underlying5 Try.underlying9 (Kd.own_of_R HO336.out)) | ((with_reducible refine gate_builtin (b := .append) (xs := #[.tmp 32, .tmp 41]) rfl ?_); at_builtin; refine Kd.R_append k46 (w0 := w) w.heap.size rfl (.tmp 32) (.tmp 41) 28 46 (.agg #[(.string ⟨#[]⟩), (.int .i64 0)]) 24 rfl Try.underlying28 info46 rfl (by decide) (by omega) u333000 x333000_1 (⟨(⟨#[112]⟩ : ByteArray) ++ (strOfNums y334), wrap64 (Int.tmod (rd l0_0 x4_1) 5)⟩ : S46) [.string ((⟨#[112]⟩ : ByteArray) ++ (strOfNums y334)), .int .i64 (wrap64 (Int.tmod (rd l0_0 x4_1) 5))] (fun _ => True) (fun _ => False) rfl rfl ?aP (fun _ hk => hk.elim) ?aF ?aO ?aB ?aS ?aL ?_; (case aP => exact k46_mkM _ _ _ (⟨(⟨#[112]⟩ : ByteArray) ++ (strOfNums y334), wrap64 (Int.tmod (rd l0_0 x4_1) 5)⟩ : S46)); (case aB => exact (hbq HB.out)); (case aF => exact (fun _ _ => trivial)); (case aO => exact (kq_R HO_333000.out)); (case aS => exact (below_size (hbq HB.out))); (case aL => have := LMc9.out; omega); intro v338 w18 ho hb hg hat; rw [← Ny337.out] at ho; have n0_ := Aside0.mk (blk_grown (g := gb330) (o := .cells #[.slice (some ad333) l0_0.length c0_0, .slice A0_1 l0_1.length c0_1] 25 (0, 0)) (bkq BK330.out) hg (Kd.R_ne HO_333000.out BK330.out (by decide))); have n1_ := Aside0.mk (blk_grown (g := gb331) (o := .cells #[.slice none 0 0, .slice none 0 0] 31 (0, 0)) (bkq BK331.out) hg (Kd.R_ne HO_333000.out BK331.out (by decide))); have n2_ := Aside0.mk (blk_grown (g := gb332) (o := .cells #[u333000, .slice none 0 0] 31 (0, 0)) (bkq BK332.out) hg (Kd.R_ne HO_333000.out BK332.out (by decide))); have n3_ := Aside0.mk (Kd.R_over' (kq_R HO336.out) (Kd.R_typed (kq_R HO_333000.out)) (by decide) hg); have n4_ := Aside0.mk (hb); have n5_ := Aside0.mk (ho); clear BK330; clear BK331; clear BK332; clear HO336; clear HB; clear HO_333000; have BK330 := n0_; have BK331 := n1_; have BK332 := n2_; have HO336 := n3_; have HB := n4_; have HO339 := n5_; clear n0_ n1_ n2_ n3_ n4_ n5_; clear ho hb hg hat; obtain ⟨Ao19, co19, eo19⟩ := Kd.R_slice HO339.out; subst eo19; have hcz20_0 : w18.cell? ⟨gb332, 0, none⟩ = some (u333000) := (blk_cell BK332.out 0).trans rfl; have hcz20_1 : w18.cell? ⟨gb332, 1, none⟩ = some (.slice none 0 0) := (blk_cell BK332.out 1).trans rfl; have hfz20_0 := blk_frozen BK332.out 0; have hfz20_1 := blk_frozen BK332.out 1))
    go_roundg k1
    case measure => have := HK1.out; omega
    case rel => exact ⟨(wrap64 (x4_1 + 1)), (y337), (.slice Ao19 y337.length co19), (by first | rfl | (simp; done) | (simp [*]; done)), H', ⟨by have := HK1.out; omega⟩, ⟨by refine kq_R ?_; exact Kd.R_mono (Kd.R_far (p := ⟨gb332, 0, none⟩) (Kd.R_types HO339.out BK332.out (by decide)) (fun _ hk => hk.2) (.slice Ao19 y337.length co19)) (fun _ hk => trivial)⟩, ⟨by refine bkq ?_; refine blk_far ?_ NB330_332.out _; refine bkq ?_; exact BK330.out⟩, ⟨by refine bkq ?_; refine blk_far ?_ NB331_332.out _; refine bkq ?_; exact BK331.out⟩, ⟨by refine bkq ?_; refine blk_put (cs := #[u333000, .slice none 0 0]) ?_ 0 _ rfl; refine bkq ?_; exact BK332.out⟩, ⟨hbq HB.out⟩⟩
   rw [if_neg c6] at H
   have c6b0 : decide (x4_1 < (l0_0.length : Int)) = false := decide_eq_false c6
   clear c6
   obtain ⟨y340, hy340⟩ : ∃ y_ : List Int, y_ = (([(wrap64 (97 + x4_1)) % 256] : List Int)) := ⟨_, rfl⟩
   replace H : (if 1 + (strOfNums y340).size ≤ 9223372036854775807 then (if x333000_1.length < 5864062014805 then (marblerunref05_Make.l0 k1 (wrap64 (x4_1 + 1)) l0_0 l0_1 (x333000_1 ++ [(⟨(⟨#[112]⟩ : ByteArray) ++ (strOfNums y340), 0⟩ : S46)])) else (none)) else (none)) = some (r1, r2) := by first | (rw [hy340]; with_reducible exact H) | (have H2_ := (Option.bind_some _ _).symm.trans H; rw [hy340]; with_reducible exact H2_) | (have H2_ := (Option.bind_some _ _).symm.trans H; with_reducible exact H2_) | with_reducible exact H | (rw [hy340]; exact H) | exact H
   have Ny340 := Aside0.mk hy340
   clear hy340
   by_cases c21 : 1 + (strOfNums y340).size ≤ 9223372036854775807
   case neg => rw [if_neg c21] at H; exact absurd H (by simp)
   rw [if_pos c21] at H
   have c21b0 := eq_true c21
   have c21b1 : decide (1 + (strOfNums y340).size ≤ 9223372036854775807) = true := decide_eq_true c21
   try have c21b2 : (9223372036854775807 < 1 + (strOfNums y340).size) = False := eq_false (Nat.not_lt.2 c21)
   by_cases c22 : x333000_1.length < 5864062014805
   case neg => rw [if_neg c22] at H; exact absurd H (by simp)
   rw [if_pos c22] at H
   have LMc22 := Aside0.mk c22
   clear c22
   obtain ⟨y343, hy343⟩ : ∃ y_ : List (S46), y_ = (x333000_1 ++ [(⟨(⟨#[112]⟩ : ByteArray) ++ (strOfNums y340), 0⟩ : S46)]) := ⟨_, rfl⟩
   replace H : (marblerunref05_Make.l0 k1 (wrap64 (x4_1 + 1)) l0_0 l0_1 y343) = some (r1, r2) := by first | (rw [hy343]; with_reducible exact H) | (have H2_ := (Option.bind_some _ _).symm.trans H; rw [hy343]; with_reducible exact H2_) | (have H2_ := (Option.bind_some _ _).symm.trans H; with_reducible exact H2_) | with_reducible exact H | (rw [hy343]; exact H) | exact H
   have Ny343 := Aside0.mk hy343
   clear hy343
   have H' := Aside0.mk H
   clear H
   have hnb23 := NB330_331.out
   have hnc23 := NB331_330.out
   have hnb24 := NB330_332.out
   have hnc24 := NB332_330.out
   have hcz25_0 : wr.cell? ⟨gb330, 0, none⟩ = some (.slice A0_0 l0_0.length c0_0) := (blk_cell BK330.out 0).trans rfl
   have hcz25_1 : wr.cell? ⟨gb330, 1, none⟩ = some (.slice A0_1 l0_1.length c0_1) := (blk_cell BK330.out 1).trans rfl
   have hfz25_0 := blk_frozen BK330.out 0
   have hfz25_1 := blk_frozen BK330.out 1
   have hnb26 := NB332_331.out
   have hnc26 := NB331_332.out
   have hcz27_0 : wr.cell? ⟨gb332, 0, none⟩ = some (u333000) := (blk_cell BK332.out 0).trans rfl
   have hcz27_1 : wr.cell? ⟨gb332, 1, none⟩ = some (.slice none 0 0) := (blk_cell BK332.out 1).trans rfl
   have hfz27_0 := blk_frozen BK332.out 0
   have hfz27_1 := blk_frozen BK332.out 1
   go_wp2_with (first | ((with_reducible refine gate_dst (N := 36) rfl ?_); refine Kd.R_lit (Kd.int .u8) _ 5 ?hg (N := 36) ?hd (xs := ([(wrap64 (97 + x4_1)) % 256] : List Int)) (inner := [.int .u8 ((wrap64 (97 + x4_1)) % 256)]) (ok := fun _ => True) (okp := fun _ => True) ?hr ?hp (fun _ hk => hk) trivial (Below.refl _ _) (Nat.le_refl _) (by simp) ?_; (case hd => rfl); (case hg => rfl); (case hr => first | (go_simp; done) | (go_simp; rfl)); (case hp => exact (Reps.one (show Kd.M (Kd.int .u8) _ _ _ ((wrap64 (97 + x4_1)) % 256) [.int .u8 ((wrap64 (97 + x4_1)) % 256)] from rfl) (Reps.none _ _))); intro v341 w28 ho29 hb hg_ hnew_; clear hg_ hnew_; (first | rw [← Ny340.out] at ho29 | (simp only [Int.reduceToNat] at ho29; rw [← Ny340.out] at ho29)); have n0_ := Aside0.mk (Kd.R_below (kq_R HO_333000.out) hb); have n1_ := Aside0.mk (Kd.R_lower ho29 (below_size (hbq HB.out))); have n2_ := Aside0.mk (blk_below (g := gb330) (o := .cells #[.slice A0_0 l0_0.length c0_0, .slice A0_1 l0_1.length c0_1] 25 (0, 0)) (bkq BK330.out) hb); have n3_ := Aside0.mk (blk_below (g := gb331) (o := .cells #[.slice none 0 0, .slice none 0 0] 31 (0, 0)) (bkq BK331.out) hb); have n4_ := Aside0.mk (blk_below (g := gb332) (o := .cells #[u333000, .slice none 0 0] 31 (0, 0)) (bkq BK332.out) hb); have n5_ := Aside0.mk (below_step (hbq HB.out) hb); clear HO_333000; clear BK330; clear BK331; clear BK332; clear HB; have HO_333000 := n0_; have HO342 := n1_; have BK330 := n2_; have BK331 := n3_; have BK332 := n4_; have HB := n5_; clear n0_ n1_ n2_ n3_ n4_ n5_; clear hb ho29; have hcv30 := own_string (P := Try.prog) Try.underlying22 Try.underlying5 Try.underlying9 (Kd.own_of_R HO342.out)) | ((with_reducible refine gate_builtin (b := .append) (xs := #[.tmp 32, .tmp 41]) rfl ?_); at_builtin; refine Kd.R_append k46 (w0 := w) w.heap.size rfl (.tmp 32) (.tmp 41) 28 46 (.agg #[(.string ⟨#[]⟩), (.int .i64 0)]) 24 rfl Try.underlying28 info46 rfl (by decide) (by omega) u333000 x333000_1 (⟨(⟨#[112]⟩ : ByteArray) ++ (strOfNums y340), 0⟩ : S46) [.string ((⟨#[112]⟩ : ByteArray) ++ (strOfNums y340)), .int .i64 0] (fun _ => True) (fun _ => False) rfl rfl ?aP (fun _ hk => hk.elim) ?aF ?aO ?aB ?aS ?aL ?_; (case aP => exact k46_mkM _ _ _ (⟨(⟨#[112]⟩ : ByteArray) ++ (strOfNums y340), 0⟩ : S46)); (case aB => exact (hbq HB.out)); (case aF => exact (fun _ _ => trivial)); (case aO => exact (kq_R HO_333000.out)); (case aS => exact (below_size (hbq HB.out))); (case aL => have := LMc22.out; omega); intro v344 w31 ho hb hg hat; rw [← Ny343.out] at ho; have n0_ := Aside0.mk (blk_grown (g := gb330) (o := .cells #[.slice A0_0 l0_0.length c0_0, .slice A0_1 l0_1.length c0_1] 25 (0, 0)) (bkq BK330.out) hg (Kd.R_ne HO_333000.out BK330.out (by decide))); have n1_ := Aside0.mk (blk_grown (g := gb331) (o := .cells #[.slice none 0 0, .slice none 0 0] 31 (0, 0)) (bkq BK331.out) hg (Kd.R_ne HO_333000.out BK331.out (by decide))); have n2_ := Aside0.mk (blk_grown (g := gb332) (o := .cells #[u333000, .slice none 0 0] 31 (0, 0)) (bkq BK332.out) hg (Kd.R_ne HO_333000.out BK332.out (by decide))); have n3_ := Aside0.mk (Kd.R_over' (kq_R HO342.out) (Kd.R_typed (kq_R HO_333000.out)) (by decide) hg); have n4_ := Aside0.mk (hb); have n5_ := Aside0.mk (ho); clear BK330; clear BK331; clear BK332; clear HO342; clear HB; clear HO_333000; have BK330 := n0_; have BK331 := n1_; have BK332 := n2_; have HO342 := n3_; have HB := n4_; have HO345 := n5_; clear n0_ n1_ n2_ n3_ n4_ n5_; clear ho hb hg hat; obtain ⟨Ao32, co32, eo32⟩ := Kd.R_slice HO345.out; subst eo32; have hcz33_0 : w31.cell? ⟨gb332, 0, none⟩ = some (u333000) := (blk_cell BK332.out 0).trans rfl; have hcz33_1 : w31.cell? ⟨gb332, 1, none⟩ = some (.slice none 0 0) := (blk_cell BK332.out 1).trans rfl; have hfz33_0 := blk_frozen BK332.out 0; have hfz33_1 := blk_frozen BK332.out 1))
   go_roundg k1
   case measure => have := HK1.out; omega
   case rel => exact ⟨(wrap64 (x4_1 + 1)), (y343), (.slice Ao32 y343.length co32), (by first | rfl | (simp; done) | (simp [*]; done)), H', ⟨by have := HK1.out; omega⟩, ⟨by refine kq_R ?_; exact Kd.R_mono (Kd.R_far (p := ⟨gb332, 0, none⟩) (Kd.R_types HO345.out BK332.out (by decide)) (fun _ hk => hk.2) (.slice Ao32 y343.length co32)) (fun _ hk => trivial)⟩, ⟨by refine bkq ?_; refine blk_far ?_ NB330_332.out _; refine bkq ?_; exact BK330.out⟩, ⟨by refine bkq ?_; refine blk_far ?_ NB331_332.out _; refine bkq ?_; exact BK331.out⟩, ⟨by refine bkq ?_; refine blk_put (cs := #[u333000, .slice none 0 0]) ?_ 0 _ rfl; refine bkq ?_; exact BK332.out⟩, ⟨hbq HB.out⟩⟩
  rw [if_neg c5] at H
  have c5b0 : decide (x4_1 < (1 + ((l0_0.length : Int) % 7))) = false := decide_eq_false c5
  clear c5
  have H' := Aside0.mk H
  clear H
  have hnb34 := NB330_331.out
  have hnc34 := NB331_330.out
  have hnb35 := NB330_332.out
  have hnc35 := NB332_330.out
  have hcz36_0 : wr.cell? ⟨gb330, 0, none⟩ = some (.slice A0_0 l0_0.length c0_0) := (blk_cell BK330.out 0).trans rfl
  have hcz36_1 : wr.cell? ⟨gb330, 1, none⟩ = some (.slice A0_1 l0_1.length c0_1) := (blk_cell BK330.out 1).trans rfl
  have hfz36_0 := blk_frozen BK330.out 0
  have hfz36_1 := blk_frozen BK330.out 1
  have hnb37 := NB332_331.out
  have hnc37 := NB331_332.out
  have hcz38_0 : wr.cell? ⟨gb332, 0, none⟩ = some (u333000) := (blk_cell BK332.out 0).trans rfl
  have hcz38_1 : wr.cell? ⟨gb332, 1, none⟩ = some (.slice none 0 0) := (blk_cell BK332.out 1).trans rfl
  have hfz38_0 := blk_frozen BK332.out 0
  have hfz38_1 := blk_frozen BK332.out 1
  obtain ⟨Ao39, co39, eo39⟩ := Kd.R_slice HO_333000.out
  subst eo39
  go_wp2
  go_loopg [7] k1 (fun kq v7 w' => ∃ (x7_2 : Int) (x333001_2 : List (S54)) (u333001 : Value), v7 = .int .i64 x7_2 ∧ Aside0 (marblerunref05_Make.l1 kq (x333000_1.length : Int) x7_2 l0_0 l0_1 x333000_1 x333001_2 = some (r1, r2)) ∧ Aside0 (kq ≤ k1) ∧ Aside0 (Kd.R k46 46 w' w.heap.size (fun _ => True) (.slice Ao39 x333000_1.length co39) x333000_1) ∧ Aside0 (Kd.S k54 54 w' w.heap.size (fun _ => True) u333001 x333001_2) ∧ Aside0 (w'.heap[gb330]? = some (.cells #[(.slice A0_0 l0_0.length c0_0), (.slice A0_1 l0_1.length c0_1)] 25 (0, 0))) ∧ Aside0 (w'.heap[gb331]? = some (.cells #[(.slice none 0 0), (.slice none 0 0)] 31 (0, 0))) ∧ Aside0 (w'.heap[gb332]? = some (.cells #[(.slice Ao39 x333000_1.length co39), u333001] 31 (0, 0))) ∧ Aside0 (Below w.heap.size w w'))
  case atStart => exact ⟨(0), (([] : List (S54))), (.slice none 0 0), (by first | rfl | (simp; done) | (simp [*]; done)), H', ⟨Nat.le_refl _⟩, ⟨by refine kq_R ?_; exact HO_333000.out⟩, ⟨by first | exact Kd.S_nil _ _ _ _ _ | exact Kd.N_nil _ _ _ _ _ | exact Kd.V_nil _ _ _ _ _ | exact Kd.Q_nil _ _ _ _ _ | exact Kd.R_nil _ _ _ _ _⟩, ⟨by refine bkq ?_; exact BK330.out⟩, ⟨by refine bkq ?_; exact BK331.out⟩, ⟨by refine bkq ?_; exact BK332.out⟩, ⟨hbq HB.out⟩⟩
  clear H'
  try clear c1
  try clear hcv1
  try clear c2
  try clear p2
  try clear c3
  try clear p3
  try clear q3
  try clear hx3
  try clear hcv3
  try clear c5
  try clear c5b0
  try clear c6
  try clear c6b0
  try clear p6
  try clear c7
  try clear c7b0
  try clear c8
  try clear c8b0
  try clear c8b1
  try clear c8b2
  try clear c9
  try clear c10
  try clear c11
  try clear c12
  try clear c13
  try clear hcv17
  try clear c21
  try clear c21b0
  try clear c21b1
  try clear c21b2
  try clear c22
  try clear c23
  try clear c24
  try clear c26
  try clear hcv30
  try clear p33
  try clear q33
  try clear hx33
  try clear c34
  try clear c35
  try clear c37
  try clear hcz12_0
  try clear hcz12_1
  try clear hcz14_0
  try clear hcz14_1
  try clear hcz20_0
  try clear hcz20_1
  try clear hcz25_0
  try clear hcz25_1
  try clear hcz27_0
  try clear hcz27_1
  try clear hcz33_0
  try clear hcz33_1
  try clear hcz36_0
  try clear hcz36_1
  try clear hcz38_0
  try clear hcz38_1
  try clear hfz12_0
  try clear hfz12_1
  try clear hfz14_0
  try clear hfz14_1
  try clear hfz20_0
  try clear hfz20_1
  try clear hfz25_0
  try clear hfz25_1
  try clear hfz27_0
  try clear hfz27_1
  try clear hfz33_0
  try clear hfz33_1
  try clear hfz36_0
  try clear hfz36_1
  try clear hfz38_0
  try clear hfz38_1
  try clear hx333_0
  try clear p2
  try clear p333
  try clear q333
  obtain ⟨x7_2, x333001_2, u333001, rfl, HA, HK2, HO_333000, HO_333001, BK330, BK331, BK332, HB⟩ := hrel
  cases gk with
  | zero => exact absurd HA.out (by simp [marblerunref05_Make.l1])
  | succ k2 =>
   have H := HA.out
   clear HA
   simp only [marblerunref05_Make.l1] at H
   have HC40 := Aside0.mk H
   clear H
   go_upto_region 11 with (fail)
   go_cut [55] (fun v55 wc => ∃ (kq : Nat) (x55_39 : Bool), v55 = .bool x55_39 ∧ Aside0 (marblerunref05_Make.j2 kq (x333000_1.length : Int) x7_2 x55_39 l0_0 l0_1 x333000_1 x333001_2 = some (r1, r2)) ∧ Aside0 (kq ≤ k2) ∧ Aside0 (Kd.R k46 46 wc w.heap.size (fun _ => True) (.slice Ao39 x333000_1.length co39) x333000_1) ∧ Aside0 (Kd.S k54 54 wc w.heap.size (fun _ => True) u333001 x333001_2) ∧ Aside0 (wc.heap[gb330]? = some (.cells #[(.slice A0_0 l0_0.length c0_0), (.slice A0_1 l0_1.length c0_1)] 25 (0, 0))) ∧ Aside0 (wc.heap[gb331]? = some (.cells #[(.slice none 0 0), (.slice none 0 0)] 31 (0, 0))) ∧ Aside0 (wc.heap[gb332]? = some (.cells #[(.slice Ao39 x333000_1.length co39), u333001] 31 (0, 0))) ∧ Aside0 (Below w.heap.size w wc))
   case first =>
    have H := HC40.out
    clear HC40
    by_cases c41 : x7_2 < (l0_1.length : Int)
    ·rw [if_pos c41] at H
     have c41b0 : decide (x7_2 < (l0_1.length : Int)) = true := decide_eq_true c41
     clear c41
     (first | rw [c41b0] | (simp only [i64_w, i32_w]; rw [c41b0]) | skip)
     have H' := Aside0.mk H
     clear H
     have hnb42 := NB330_331.out
     have hnc42 := NB331_330.out
     have hnb43 := NB330_332.out
     have hnc43 := NB332_330.out
     have hcz44_0 : wr.cell? ⟨gb330, 0, none⟩ = some (.slice A0_0 l0_0.length c0_0) := (blk_cell BK330.out 0).trans rfl
     have hcz44_1 : wr.cell? ⟨gb330, 1, none⟩ = some (.slice A0_1 l0_1.length c0_1) := (blk_cell BK330.out 1).trans rfl
     have hfz44_0 := blk_frozen BK330.out 0
     have hfz44_1 := blk_frozen BK330.out 1
     go_wp2
     go_meet
     case rel => exact ⟨_, (decide (x7_2 < 9)), (by first | rfl | (simp; done) | (simp [*]; done)), H', ⟨by have := HK1.out; have := HK2.out; first | omega | exact Nat.le_refl _⟩, ⟨by refine kq_R ?_; exact HO_333000.out⟩, ⟨by refine kq_S ?_; exact HO_333001.out⟩, ⟨by refine bkq ?_; exact BK330.out⟩, ⟨by refine bkq ?_; exact BK331.out⟩, ⟨by refine bkq ?_; exact BK332.out⟩, ⟨hbq HB.out⟩⟩
    rw [if_neg c41] at H
    have c41b0 : decide (x7_2 < (l0_1.length : Int)) = false := decide_eq_false c41
    clear c41
    (first | rw [c41b0] | (simp only [i64_w, i32_w]; rw [c41b0]) | skip)
    have H' := Aside0.mk H
    clear H
    have hnb45 := NB330_331.out
    have hnc45 := NB331_330.out
    have hnb46 := NB330_332.out
    have hnc46 := NB332_330.out
    have hcz47_0 : wr.cell? ⟨gb330, 0, none⟩ = some (.slice A0_0 l0_0.length c0_0) := (blk_cell BK330.out 0).trans rfl
    have hcz47_1 : wr.cell? ⟨gb330, 1, none⟩ = some (.slice A0_1 l0_1.length c0_1) := (blk_cell BK330.out 1).trans rfl
    have hfz47_0 := blk_frozen BK330.out 0
    have hfz47_1 := blk_frozen BK330.out 1
    go_wp2
    go_meet
    case rel => exact ⟨_, (false), (by first | rfl | (simp; done) | (simp [*]; done)), H', ⟨by have := HK1.out; have := HK2.out; first | omega | exact Nat.le_refl _⟩, ⟨by refine kq_R ?_; exact HO_333000.out⟩, ⟨by refine kq_S ?_; exact HO_333001.out⟩, ⟨by refine bkq ?_; exact BK330.out⟩, ⟨by refine bkq ?_; exact BK331.out⟩, ⟨by refine bkq ?_; exact BK332.out⟩, ⟨hbq HB.out⟩⟩
   clear HC40
   try clear c1
   try clear hcv1
   try clear c2
   try clear p2
   try clear c3
   try clear p3
   try clear q3
   try clear hx3
   try clear hcv3
   try clear c4
   try clear c5
   try clear c5b0
   try clear c6
   try clear c6b0
   try clear p6
   try clear c7
   try clear c7b0
   try clear c8
   try clear c8b0
   try clear c8b1
   try clear c8b2
   try clear c9
   try clear c10
   try clear c11
   try clear c12
   try clear c13
   try clear hcv17
   try clear c21
   try clear c21b0
   try clear c21b1
   try clear c21b2
   try clear c22
   try clear c23
   try clear c24
   try clear c26
   try clear hcv30
   try clear p33
   try clear q33
   try clear hx33
   try clear c34
   try clear c35
   try clear c37
   try clear c41
   try clear c41b0
   try clear c42
   try clear c43
   try clear c45
   try clear c46
   try clear hcz12_0
   try clear hcz12_1
   try clear hcz14_0
   try clear hcz14_1
   try clear hcz20_0
   try clear hcz20_1
   try clear hcz25_0
   try clear hcz25_1
   try clear hcz27_0
   try clear hcz27_1
   try clear hcz33_0
   try clear hcz33_1
   try clear hcz36_0
   try clear hcz36_1
   try clear hcz38_0
   try clear hcz38_1
   try clear hcz44_0
   try clear hcz44_1
   try clear hcz47_0
   try clear hcz47_1
   try clear hfz12_0
   try clear hfz12_1
   try clear hfz14_0
   try clear hfz14_1
   try clear hfz20_0
   try clear hfz20_1
   try clear hfz25_0
   try clear hfz25_1
   try clear hfz27_0
   try clear hfz27_1
   try clear hfz33_0
   try clear hfz33_1
   try clear hfz36_0
   try clear hfz36_1
   try clear hfz38_0
   try clear hfz38_1
   try clear hfz44_0
   try clear hfz44_1
   try clear hfz47_0
   try clear hfz47_1
   try clear hx333_0
   try clear p2
   try clear p3
   try clear p33
   try clear p333
   try clear p6
   try clear q3
   try clear q33
   try clear q333
   obtain ⟨kq, x55_39, rfl, HA, HJ39, HO_333000, HO_333001, BK330, BK331, BK332, HB⟩ := hcut
   cases kq with
   | zero => exact absurd HA.out (by simp [marblerunref05_Make.j2])
   | succ kj39 =>
    have H := HA.out
    clear HA
    simp only [marblerunref05_Make.j2] at H
    by_cases c48 : x55_39 = true
    ·subst c48
     have H1 : (if 0 ≤ x7_2 then (if x7_2 < (l0_1.length : Int) then ((some (([(wrap64 (48 + x7_2)) % 256] : List Int) : List Int)).bind fun y348 => (if 1 + (strOfNums y348).size ≤ 9223372036854775807 then (if 1 + (strOfNums y348).size + 2 ≤ 9223372036854775807 then (if (x333000_1.length : Int) = 0 then (none) else ((marblerunref05_put.f kj39 ([] : List (S51)) (Int.tmod (wrap64 ((rd_T60 l0_1 x7_2).f2)) (x333000_1.length : Int)) (1 + (((Int.tdiv ((rd_T60 l0_1 x7_2).f2) 64) % 256) % 2))).bind fun t352 => (if (Int.tmod ((rd_T60 l0_1 x7_2).f3) 3) = 0 then ((marblerunref05_put.f kj39 t352 (((Int.tdiv ((rd_T60 l0_1 x7_2).f3) 3) % 256) % (x333000_1.length : Int)) 1).bind fun t355 => (marblerunref05_Make.j3 kj39 (x333000_1.length : Int) x7_2 l0_0 l0_1 x333000_1 x333001_2 ((rd_T60 l0_1 x7_2).f0) ((rd_T60 l0_1 x7_2).f1) ((rd_T60 l0_1 x7_2).f2) ((rd_T60 l0_1 x7_2).f3) ((rd_T60 l0_1 x7_2).f4) ((rd_T60 l0_1 x7_2).f5) ((rd_T60 l0_1 x7_2).f6) (((⟨#[116]⟩ : ByteArray) ++ (strOfNums y348)) ++ (⟨#[46, 120]⟩ : ByteArray)) (wrap64 (Int.tmod ((rd_T60 l0_1 x7_2).f0) 5)) (wrap64 (Int.tmod ((rd_T60 l0_1 x7_2).f1) 3)) t355)) else (marblerunref05_Make.j3 kj39 (x333000_1.length : Int) x7_2 l0_0 l0_1 x333000_1 x333001_2 ((rd_T60 l0_1 x7_2).f0) ((rd_T60 l0_1 x7_2).f1) ((rd_T60 l0_1 x7_2).f2) ((rd_T60 l0_1 x7_2).f3) ((rd_T60 l0_1 x7_2).f4) ((rd_T60 l0_1 x7_2).f5) ((rd_T60 l0_1 x7_2).f6) (((⟨#[116]⟩ : ByteArray) ++ (strOfNums y348)) ++ (⟨#[46, 120]⟩ : ByteArray)) (wrap64 (Int.tmod ((rd_T60 l0_1 x7_2).f0) 5)) (wrap64 (Int.tmod ((rd_T60 l0_1 x7_2).f1) 3)) t352)))) else (none)) else (none))) else (none)) else (none)) = some (r1, r2) := by rw [if_pos rfl] at H; exact H
     clear H
     have H := H1
     clear H1
     by_cases c49 : 0 ≤ x7_2
     case neg => rw [if_neg c49] at H; exact absurd H (by simp)
     rw [if_pos c49] at H
     have c49b0 : decide (0 ≤ x7_2) = true := decide_eq_true c49
     clear c49
     by_cases c50 : x7_2 < (l0_1.length : Int)
     case neg => rw [if_neg c50] at H; exact absurd H (by simp)
     rw [if_pos c50] at H
     have c50b0 : decide (x7_2 < (l0_1.length : Int)) = true := decide_eq_true c50
     clear c50
     obtain ⟨y348, hy348⟩ : ∃ y_ : List Int, y_ = (([(wrap64 (48 + x7_2)) % 256] : List Int)) := ⟨_, rfl⟩
     replace H : (if 1 + (strOfNums y348).size ≤ 9223372036854775807 then (if 1 + (strOfNums y348).size + 2 ≤ 9223372036854775807 then (if (x333000_1.length : Int) = 0 then (none) else ((marblerunref05_put.f kj39 ([] : List (S51)) (Int.tmod (wrap64 ((rd_T60 l0_1 x7_2).f2)) (x333000_1.length : Int)) (1 + (((Int.tdiv ((rd_T60 l0_1 x7_2).f2) 64) % 256) % 2))).bind fun t352 => (if (Int.tmod ((rd_T60 l0_1 x7_2).f3) 3) = 0 then ((marblerunref05_put.f kj39 t352 (((Int.tdiv ((rd_T60 l0_1 x7_2).f3) 3) % 256) % (x333000_1.length : Int)) 1).bind fun t355 => (marblerunref05_Make.j3 kj39 (x333000_1.length : Int) x7_2 l0_0 l0_1 x333000_1 x333001_2 ((rd_T60 l0_1 x7_2).f0) ((rd_T60 l0_1 x7_2).f1) ((rd_T60 l0_1 x7_2).f2) ((rd_T60 l0_1 x7_2).f3) ((rd_T60 l0_1 x7_2).f4) ((rd_T60 l0_1 x7_2).f5) ((rd_T60 l0_1 x7_2).f6) (((⟨#[116]⟩ : ByteArray) ++ (strOfNums y348)) ++ (⟨#[46, 120]⟩ : ByteArray)) (wrap64 (Int.tmod ((rd_T60 l0_1 x7_2).f0) 5)) (wrap64 (Int.tmod ((rd_T60 l0_1 x7_2).f1) 3)) t355)) else (marblerunref05_Make.j3 kj39 (x333000_1.length : Int) x7_2 l0_0 l0_1 x333000_1 x333001_2 ((rd_T60 l0_1 x7_2).f0) ((rd_T60 l0_1 x7_2).f1) ((rd_T60 l0_1 x7_2).f2) ((rd_T60 l0_1 x7_2).f3) ((rd_T60 l0_1 x7_2).f4) ((rd_T60 l0_1 x7_2).f5) ((rd_T60 l0_1 x7_2).f6) (((⟨#[116]⟩ : ByteArray) ++ (strOfNums y348)) ++ (⟨#[46, 120]⟩ : ByteArray)) (wrap64 (Int.tmod ((rd_T60 l0_1 x7_2).f0) 5)) (wrap64 (Int.tmod ((rd_T60 l0_1 x7_2).f1) 3)) t352)))) else (none)) else (none)) = some (r1, r2) := by first | (rw [hy348]; with_reducible exact H) | (have H2_ := (Option.bind_some _ _).symm.trans H; rw [hy348]; with_reducible exact H2_) | (have H2_ := (Option.bind_some _ _).symm.trans H; with_reducible exact H2_) | with_reducible exact H | (rw [hy348]; exact H) | exact H
     have Ny348 := Aside0.mk hy348
     clear hy348
     by_cases c51 : 1 + (strOfNums y348).size ≤ 9223372036854775807
     case neg => rw [if_neg c51] at H; exact absurd H (by simp)
     rw [if_pos c51] at H
     have c51b0 := eq_true c51
     have c51b1 : decide (1 + (strOfNums y348).size ≤ 9223372036854775807) = true := decide_eq_true c51
     try have c51b2 : (9223372036854775807 < 1 + (strOfNums y348).size) = False := eq_false (Nat.not_lt.2 c51)
     by_cases c52 : 1 + (strOfNums y348).size + 2 ≤ 9223372036854775807
     case neg => rw [if_neg c52] at H; exact absurd H (by simp)
     rw [if_pos c52] at H
     have c52b0 := eq_true c52
     have c52b1 : decide (1 + (strOfNums y348).size + 2 ≤ 9223372036854775807) = true := decide_eq_true c52
     try have c52b2 : (9223372036854775807 < 1 + (strOfNums y348).size + 2) = False := eq_false (Nat.not_lt.2 c52)
     by_cases c53 : (x333000_1.length : Int) = 0
     case pos => rw [if_pos c53] at H; exact absurd H (by simp)
     rw [if_neg c53] at H
     have c53b0 : ((x333000_1.length : Int) == 0) = false := beq_eq_false_iff_ne.mpr c53
     have c53b1 : ((x333000_1.length : Int) != 0) = true := bne_iff_ne.mpr c53
     have c53b2 : ¬ (x333000_1 = []) := fun h_ => c53 (by rw [h_]; rfl)
     replace H := Option.bind_eq_some_iff.mp H
     obtain ⟨t352, A540, H⟩ := H
     replace H : (if (Int.tmod ((rd_T60 l0_1 x7_2).f3) 3) = 0 then ((marblerunref05_put.f kj39 t352 (((Int.tdiv ((rd_T60 l0_1 x7_2).f3) 3) % 256) % (x333000_1.length : Int)) 1).bind fun t355 => (marblerunref05_Make.j3 kj39 (x333000_1.length : Int) x7_2 l0_0 l0_1 x333000_1 x333001_2 ((rd_T60 l0_1 x7_2).f0) ((rd_T60 l0_1 x7_2).f1) ((rd_T60 l0_1 x7_2).f2) ((rd_T60 l0_1 x7_2).f3) ((rd_T60 l0_1 x7_2).f4) ((rd_T60 l0_1 x7_2).f5) ((rd_T60 l0_1 x7_2).f6) (((⟨#[116]⟩ : ByteArray) ++ (strOfNums y348)) ++ (⟨#[46, 120]⟩ : ByteArray)) (wrap64 (Int.tmod ((rd_T60 l0_1 x7_2).f0) 5)) (wrap64 (Int.tmod ((rd_T60 l0_1 x7_2).f1) 3)) t355)) else (marblerunref05_Make.j3 kj39 (x333000_1.length : Int) x7_2 l0_0 l0_1 x333000_1 x333001_2 ((rd_T60 l0_1 x7_2).f0) ((rd_T60 l0_1 x7_2).f1) ((rd_T60 l0_1 x7_2).f2) ((rd_T60 l0_1 x7_2).f3) ((rd_T60 l0_1 x7_2).f4) ((rd_T60 l0_1 x7_2).f5) ((rd_T60 l0_1 x7_2).f6) (((⟨#[116]⟩ : ByteArray) ++ (strOfNums y348)) ++ (⟨#[46, 120]⟩ : ByteArray)) (wrap64 (Int.tmod ((rd_T60 l0_1 x7_2).f0) 5)) (wrap64 (Int.tmod ((rd_T60 l0_1 x7_2).f1) 3)) t352)) = some (r1, r2) := H
     have A54 := Aside0.mk A540
     clear A540
     have HC55 := Aside0.mk H
     clear H
     have hnb56 := NB330_331.out
     have hnc56 := NB331_330.out
     have hnb57 := NB330_332.out
     have hnc57 := NB332_330.out
     have hcz58_0 : wc.cell? ⟨gb330, 0, none⟩ = some (.slice A0_0 l0_0.length c0_0) := (blk_cell BK330.out 0).trans rfl
     have hcz58_1 : wc.cell? ⟨gb330, 1, none⟩ = some (.slice A0_1 l0_1.length c0_1) := (blk_cell BK330.out 1).trans rfl
     have hfz58_0 := blk_frozen BK330.out 0
     have hfz58_1 := blk_frozen BK330.out 1
     have p346 : 0 ≤ (x7_2 : Int) := of_decide_eq_true (by first | (with_reducible assumption) | assumption)
     have q346 : x7_2 < (l0_1.length : Int) := of_decide_eq_true (by first | (with_reducible assumption) | assumption)
     obtain ⟨ad346, e346, hx346_0, hx346_1, hx346_2, hx346_3, hx346_4, hx346_5, hx346_6⟩ := at_T60 HR0_1.out x7_2 p346 q346
     cases e346
     replace hx346_0 := (HB.out.cell (World.block_lt_of_cell? w _ hx346_0)).trans hx346_0
     replace hx346_1 := (HB.out.cell (World.block_lt_of_cell? w _ hx346_1)).trans hx346_1
     replace hx346_2 := (HB.out.cell (World.block_lt_of_cell? w _ hx346_2)).trans hx346_2
     replace hx346_3 := (HB.out.cell (World.block_lt_of_cell? w _ hx346_3)).trans hx346_3
     replace hx346_4 := (HB.out.cell (World.block_lt_of_cell? w _ hx346_4)).trans hx346_4
     replace hx346_5 := (HB.out.cell (World.block_lt_of_cell? w _ hx346_5)).trans hx346_5
     replace hx346_6 := (HB.out.cell (World.block_lt_of_cell? w _ hx346_6)).trans hx346_6
     replace p346 := eq_true p346
     replace q346 := eq_true q346
     try go_wp2_with (first | ((with_reducible refine gate_dst (N := 8) rfl ?_); refine box_event ?hg (N := 8) ?hd (cs := #[.int .u8 0, .int .u8 0, .int .u8 0, .int .u8 0, .int .u8 0, .int .u8 0, .int .u8 0]) (t := 60) ?hr ?_; (case hd => rfl); (case hg => rfl); (case hr => first | (go_simp; done) | (go_simp; rfl)); intro gb347 hg w59 hbox hb; have n0_ := Aside0.mk (Kd.R_below (kq_R HO_333000.out) hb); have n1_ := Aside0.mk (Kd.S_below (kq_S HO_333001.out) hb); have n2_ := Aside0.mk (blk_below (g := gb330) (o := .cells #[.slice A0_0 l0_0.length c0_0, .slice (some ad346) l0_1.length c0_1] 25 (0, 0)) (bkq BK330.out) hb); have n3_ := Aside0.mk (blk_below (g := gb331) (o := .cells #[.slice none 0 0, .slice none 0 0] 31 (0, 0)) (bkq BK331.out) hb); have n4_ := Aside0.mk (blk_below (g := gb332) (o := .cells #[.slice Ao39 x333000_1.length co39, u333001] 31 (0, 0)) (bkq BK332.out) hb); have n5_ := Aside0.mk (below_step (hbq HB.out) hb); have n6_ := Aside0.mk (hbox); have n7_ := Aside0.mk ((by rw [hg]; exact (below_size (hbq HB.out)) : w.heap.size ≤ gb347)); have n8_ := Aside0.mk ((by rw [hg]; exact (below_size (hbq HB.out)) : w.heap.size ≤ gb347)); have n9_ := Aside0.mk ((by rw [hg]; exact Nat.ne_of_lt (blk_lt (g := gb330) (o := .cells #[.slice A0_0 l0_0.length c0_0, .slice (some ad346) l0_1.length c0_1] 25 (0, 0)) (bkq BK330.out)) : gb330 ≠ gb347)); have n10_ := Aside0.mk ((by rw [hg]; exact Nat.ne_of_gt (blk_lt (g := gb330) (o := .cells #[.slice A0_0 l0_0.length c0_0, .slice (some ad346) l0_1.length c0_1] 25 (0, 0)) (bkq BK330.out)) : gb347 ≠ gb330)); have n11_ := Aside0.mk ((by rw [hg]; exact Nat.ne_of_lt (blk_lt (g := gb331) (o := .cells #[.slice none 0 0, .slice none 0 0] 31 (0, 0)) (bkq BK331.out)) : gb331 ≠ gb347)); have n12_ := Aside0.mk ((by rw [hg]; exact Nat.ne_of_gt (blk_lt (g := gb331) (o := .cells #[.slice none 0 0, .slice none 0 0] 31 (0, 0)) (bkq BK331.out)) : gb347 ≠ gb331)); have n13_ := Aside0.mk ((by rw [hg]; exact Nat.ne_of_lt (blk_lt (g := gb332) (o := .cells #[.slice Ao39 x333000_1.length co39, u333001] 31 (0, 0)) (bkq BK332.out)) : gb332 ≠ gb347)); have n14_ := Aside0.mk ((by rw [hg]; exact Nat.ne_of_gt (blk_lt (g := gb332) (o := .cells #[.slice Ao39 x333000_1.length co39, u333001] 31 (0, 0)) (bkq BK332.out)) : gb347 ≠ gb332)); clear HO_333000; clear HO_333001; clear BK330; clear BK331; clear BK332; clear HB; have HO_333000 := n0_; have HO_333001 := n1_; have BK330 := n2_; have BK331 := n3_; have BK332 := n4_; have HB := n5_; have BK347 := n6_; have GW347 := n7_; have GE347 := n8_; have NB330_347 := n9_; have NB347_330 := n10_; have NB331_347 := n11_; have NB347_331 := n12_; have NB332_347 := n13_; have NB347_332 := n14_; clear n0_ n1_ n2_ n3_ n4_ n5_ n6_ n7_ n8_ n9_ n10_ n11_ n12_ n13_ n14_; clear hb hbox hg; have hnb60 := NB347_330.out; have hnc60 := NB330_347.out; have hnb61 := NB347_331.out; have hnc61 := NB331_347.out; have hnb62 := NB347_332.out; have hnc62 := NB332_347.out; have hcz63_0 : w59.cell? ⟨gb347, 0, none⟩ = some (.int .u8 0) := (blk_cell BK347.out 0).trans rfl; have hcz63_1 : w59.cell? ⟨gb347, 1, none⟩ = some (.int .u8 0) := (blk_cell BK347.out 1).trans rfl; have hcz63_2 : w59.cell? ⟨gb347, 2, none⟩ = some (.int .u8 0) := (blk_cell BK347.out 2).trans rfl; have hcz63_3 : w59.cell? ⟨gb347, 3, none⟩ = some (.int .u8 0) := (blk_cell BK347.out 3).trans rfl; have hcz63_4 : w59.cell? ⟨gb347, 4, none⟩ = some (.int .u8 0) := (blk_cell BK347.out 4).trans rfl; have hcz63_5 : w59.cell? ⟨gb347, 5, none⟩ = some (.int .u8 0) := (blk_cell BK347.out 5).trans rfl; have hcz63_6 : w59.cell? ⟨gb347, 6, none⟩ = some (.int .u8 0) := (blk_cell BK347.out 6).trans rfl; have hfz63_0 := blk_frozen BK347.out 0; have hfz63_1 := blk_frozen BK347.out 1; have hfz63_2 := blk_frozen BK347.out 2; have hfz63_3 := blk_frozen BK347.out 3; have hfz63_4 := blk_frozen BK347.out 4; have hfz63_5 := blk_frozen BK347.out 5; have hfz63_6 := blk_frozen BK347.out 6) | ((with_reducible refine gate_dst (N := 66) rfl ?_); refine Kd.R_lit (Kd.int .u8) _ 5 ?hg (N := 66) ?hd (xs := ([(wrap64 (48 + x7_2)) % 256] : List Int)) (inner := [.int .u8 ((wrap64 (48 + x7_2)) % 256)]) (ok := fun _ => True) (okp := fun _ => True) ?hr ?hp (fun _ hk => hk) trivial (Below.refl _ _) (Nat.le_refl _) (by simp) ?_; (case hd => rfl); (case hg => rfl); (case hr => first | (go_simp; done) | (go_simp; rfl)); (case hp => exact (Reps.one (show Kd.M (Kd.int .u8) _ _ _ ((wrap64 (48 + x7_2)) % 256) [.int .u8 ((wrap64 (48 + x7_2)) % 256)] from rfl) (Reps.none _ _))); intro v349 w64 ho65 hb hg_ hnew_; clear hg_ hnew_; (first | rw [← Ny348.out] at ho65 | (simp only [Int.reduceToNat] at ho65; rw [← Ny348.out] at ho65)); have n0_ := Aside0.mk (Kd.R_below (by refine kq_R ?_; exact (Kd.R_mono (Kd.R_far (p := ⟨gb347, 6, none⟩) (Kd.R_far (p := ⟨gb347, 5, none⟩) (Kd.R_far (p := ⟨gb347, 4, none⟩) (Kd.R_far (p := ⟨gb347, 3, none⟩) (Kd.R_far (p := ⟨gb347, 2, none⟩) (Kd.R_far (p := ⟨gb347, 1, none⟩) (Kd.R_far (p := ⟨gb347, 0, none⟩) (Kd.R_types HO_333000.out BK347.out (by decide)) (fun _ hk => hk.2) (.int .u8 ((rd_T60 l0_1 x7_2).f0))) (fun _ hk => hk.2) (.int .u8 ((rd_T60 l0_1 x7_2).f1))) (fun _ hk => hk.2) (.int .u8 ((rd_T60 l0_1 x7_2).f2))) (fun _ hk => hk.2) (.int .u8 ((rd_T60 l0_1 x7_2).f3))) (fun _ hk => hk.2) (.int .u8 ((rd_T60 l0_1 x7_2).f4))) (fun _ hk => hk.2) (.int .u8 ((rd_T60 l0_1 x7_2).f5))) (fun _ hk => hk.2) (.int .u8 ((rd_T60 l0_1 x7_2).f6))) (fun _ h_ => h_.1))) hb); have n1_ := Aside0.mk (Kd.S_below (by refine kq_S ?_; exact (Kd.S_mono (Kd.S_far (p := ⟨gb347, 6, none⟩) (Kd.S_far (p := ⟨gb347, 5, none⟩) (Kd.S_far (p := ⟨gb347, 4, none⟩) (Kd.S_far (p := ⟨gb347, 3, none⟩) (Kd.S_far (p := ⟨gb347, 2, none⟩) (Kd.S_far (p := ⟨gb347, 1, none⟩) (Kd.S_far (p := ⟨gb347, 0, none⟩) (Kd.S_types HO_333001.out BK347.out (by decide)) (fun _ hk => hk.2) (.int .u8 ((rd_T60 l0_1 x7_2).f0))) (fun _ hk => hk.2) (.int .u8 ((rd_T60 l0_1 x7_2).f1))) (fun _ hk => hk.2) (.int .u8 ((rd_T60 l0_1 x7_2).f2))) (fun _ hk => hk.2) (.int .u8 ((rd_T60 l0_1 x7_2).f3))) (fun _ hk => hk.2) (.int .u8 ((rd_T60 l0_1 x7_2).f4))) (fun _ hk => hk.2) (.int .u8 ((rd_T60 l0_1 x7_2).f5))) (fun _ hk => hk.2) (.int .u8 ((rd_T60 l0_1 x7_2).f6))) (fun _ h_ => h_.1))) hb); have n2_ := Aside0.mk (Kd.R_lower ho65 (below_size (hbq HB.out))); have n3_ := Aside0.mk (blk_below (g := gb330) (o := .cells #[.slice A0_0 l0_0.length c0_0, .slice (some ad346) l0_1.length c0_1] 25 (0, 0)) (by refine bkq ?_; refine blk_far ?_ NB330_347.out _; refine bkq ?_; refine blk_far ?_ NB330_347.out _; refine bkq ?_; refine blk_far ?_ NB330_347.out _; refine bkq ?_; refine blk_far ?_ NB330_347.out _; refine bkq ?_; refine blk_far ?_ NB330_347.out _; refine bkq ?_; refine blk_far ?_ NB330_347.out _; refine bkq ?_; refine blk_far ?_ NB330_347.out _; refine bkq ?_; exact BK330.out) hb); have n4_ := Aside0.mk (blk_below (g := gb331) (o := .cells #[.slice none 0 0, .slice none 0 0] 31 (0, 0)) (by refine bkq ?_; refine blk_far ?_ NB331_347.out _; refine bkq ?_; refine blk_far ?_ NB331_347.out _; refine bkq ?_; refine blk_far ?_ NB331_347.out _; refine bkq ?_; refine blk_far ?_ NB331_347.out _; refine bkq ?_; refine blk_far ?_ NB331_347.out _; refine bkq ?_; refine blk_far ?_ NB331_347.out _; refine bkq ?_; refine blk_far ?_ NB331_347.out _; refine bkq ?_; exact BK331.out) hb); have n5_ := Aside0.mk (blk_below (g := gb332) (o := .cells #[.slice Ao39 x333000_1.length co39, u333001] 31 (0, 0)) (by refine bkq ?_; refine blk_far ?_ NB332_347.out _; refine bkq ?_; refine blk_far ?_ NB332_347.out _; refine bkq ?_; refine blk_far ?_ NB332_347.out _; refine bkq ?_; refine blk_far ?_ NB332_347.out _; refine bkq ?_; refine blk_far ?_ NB332_347.out _; refine bkq ?_; refine blk_far ?_ NB332_347.out _; refine bkq ?_; refine blk_far ?_ NB332_347.out _; refine bkq ?_; exact BK332.out) hb); have n6_ := Aside0.mk (blk_below (g := gb347) (o := .cells #[.int .u8 ((rd_T60 l0_1 x7_2).f0), .int .u8 ((rd_T60 l0_1 x7_2).f1), .int .u8 ((rd_T60 l0_1 x7_2).f2), .int .u8 ((rd_T60 l0_1 x7_2).f3), .int .u8 ((rd_T60 l0_1 x7_2).f4), .int .u8 ((rd_T60 l0_1 x7_2).f5), .int .u8 ((rd_T60 l0_1 x7_2).f6)] 60 (0, 0)) (by refine bkq ?_; refine blk_put (cs := #[.int .u8 ((rd_T60 l0_1 x7_2).f0), .int .u8 ((rd_T60 l0_1 x7_2).f1), .int .u8 ((rd_T60 l0_1 x7_2).f2), .int .u8 ((rd_T60 l0_1 x7_2).f3), .int .u8 ((rd_T60 l0_1 x7_2).f4), .int .u8 ((rd_T60 l0_1 x7_2).f5), .int .u8 0]) ?_ 6 _ rfl; refine bkq ?_; refine blk_put (cs := #[.int .u8 ((rd_T60 l0_1 x7_2).f0), .int .u8 ((rd_T60 l0_1 x7_2).f1), .int .u8 ((rd_T60 l0_1 x7_2).f2), .int .u8 ((rd_T60 l0_1 x7_2).f3), .int .u8 ((rd_T60 l0_1 x7_2).f4), .int .u8 0, .int .u8 0]) ?_ 5 _ rfl; refine bkq ?_; refine blk_put (cs := #[.int .u8 ((rd_T60 l0_1 x7_2).f0), .int .u8 ((rd_T60 l0_1 x7_2).f1), .int .u8 ((rd_T60 l0_1 x7_2).f2), .int .u8 ((rd_T60 l0_1 x7_2).f3), .int .u8 0, .int .u8 0, .int .u8 0]) ?_ 4 _ rfl; refine bkq ?_; refine blk_put (cs := #[.int .u8 ((rd_T60 l0_1 x7_2).f0), .int .u8 ((rd_T60 l0_1 x7_2).f1), .int .u8 ((rd_T60 l0_1 x7_2).f2), .int .u8 0, .int .u8 0, .int .u8 0, .int .u8 0]) ?_ 3 _ rfl; refine bkq ?_; refine blk_put (cs := #[.int .u8 ((rd_T60 l0_1 x7_2).f0), .int .u8 ((rd_T60 l0_1 x7_2).f1), .int .u8 0, .int .u8 0, .int .u8 0, .int .u8 0, .int .u8 0]) ?_ 2 _ rfl; refine bkq ?_; refine blk_put (cs := #[.int .u8 ((rd_T60 l0_1 x7_2).f0), .int .u8 0, .int .u8 0, .int .u8 0, .int .u8 0, .int .u8 0, .int .u8 0]) ?_ 1 _ rfl; refine bkq ?_; refine blk_put (cs := #[.int .u8 0, .int .u8 0, .int .u8 0, .int .u8 0, .int .u8 0, .int .u8 0, .int .u8 0]) ?_ 0 _ rfl; refine bkq ?_; exact BK347.out) hb); have n7_ := Aside0.mk (below_step (hbq HB.out) hb); clear HO_333000; clear HO_333001; clear BK330; clear BK331; clear BK332; clear BK347; clear HB; have HO_333000 := n0_; have HO_333001 := n1_; have HO350 := n2_; have BK330 := n3_; have BK331 := n4_; have BK332 := n5_; have BK347 := n6_; have HB := n7_; clear n0_ n1_ n2_ n3_ n4_ n5_ n6_ n7_; clear hb ho65; have hcv66 := own_string (P := Try.prog) Try.underlying22 Try.underlying5 Try.underlying9 (Kd.own_of_R HO350.out); have hcz67_0 : w64.cell? ⟨gb347, 0, none⟩ = some (.int .u8 ((rd_T60 l0_1 x7_2).f0)) := (blk_cell BK347.out 0).trans rfl; have hcz67_1 : w64.cell? ⟨gb347, 1, none⟩ = some (.int .u8 ((rd_T60 l0_1 x7_2).f1)) := (blk_cell BK347.out 1).trans rfl; have hcz67_2 : w64.cell? ⟨gb347, 2, none⟩ = some (.int .u8 ((rd_T60 l0_1 x7_2).f2)) := (blk_cell BK347.out 2).trans rfl; have hcz67_3 : w64.cell? ⟨gb347, 3, none⟩ = some (.int .u8 ((rd_T60 l0_1 x7_2).f3)) := (blk_cell BK347.out 3).trans rfl; have hcz67_4 : w64.cell? ⟨gb347, 4, none⟩ = some (.int .u8 ((rd_T60 l0_1 x7_2).f4)) := (blk_cell BK347.out 4).trans rfl; have hcz67_5 : w64.cell? ⟨gb347, 5, none⟩ = some (.int .u8 ((rd_T60 l0_1 x7_2).f5)) := (blk_cell BK347.out 5).trans rfl; have hcz67_6 : w64.cell? ⟨gb347, 6, none⟩ = some (.int .u8 ((rd_T60 l0_1 x7_2).f6)) := (blk_cell BK347.out 6).trans rfl; have hfz67_0 := blk_frozen BK347.out 0; have hfz67_1 := blk_frozen BK347.out 1; have hfz67_2 := blk_frozen BK347.out 2; have hfz67_3 := blk_frozen BK347.out 3; have hfz67_4 := blk_frozen BK347.out 4; have hfz67_5 := blk_frozen BK347.out 5; have hfz67_6 := blk_frozen BK347.out 6) | ((with_reducible refine gate_dst (N := 9) rfl ?_); refine box_event ?hg (N := 9) ?hd (cs := #[.string (⟨#[]⟩ : ByteArray), .int .i64 0, .int .i64 0, .slice none 0 0, .slice none 0 0, .slice none 0 0]) (t := 54) ?hr ?_; (case hd => rfl); (case hg => rfl); (case hr => first | (go_simp; done) | (go_simp; rfl)); intro gb351 hg w68 hbox hb; have n0_ := Aside0.mk (Kd.R_below (kq_R HO_333000.out) hb); have n1_ := Aside0.mk (Kd.S_below (Kd.S_elderB (kq_S HO_333001.out) gb351 (Nat.le_of_eq hg.symm)) hb); have n2_ := Aside0.mk (Kd.R_below (kq_R HO350.out) hb); have n3_ := Aside0.mk (blk_below (g := gb330) (o := .cells #[.slice A0_0 l0_0.length c0_0, .slice (some ad346) l0_1.length c0_1] 25 (0, 0)) (bkq BK330.out) hb); have n4_ := Aside0.mk (blk_below (g := gb331) (o := .cells #[.slice none 0 0, .slice none 0 0] 31 (0, 0)) (bkq BK331.out) hb); have n5_ := Aside0.mk (blk_below (g := gb332) (o := .cells #[.slice Ao39 x333000_1.length co39, u333001] 31 (0, 0)) (bkq BK332.out) hb); have n6_ := Aside0.mk (blk_below (g := gb347) (o := .cells #[.int .u8 ((rd_T60 l0_1 x7_2).f0), .int .u8 ((rd_T60 l0_1 x7_2).f1), .int .u8 ((rd_T60 l0_1 x7_2).f2), .int .u8 ((rd_T60 l0_1 x7_2).f3), .int .u8 ((rd_T60 l0_1 x7_2).f4), .int .u8 ((rd_T60 l0_1 x7_2).f5), .int .u8 ((rd_T60 l0_1 x7_2).f6)] 60 (0, 0)) (bkq BK347.out) hb); have n7_ := Aside0.mk (below_step (hbq HB.out) hb); have n8_ := Aside0.mk (hbox); have n9_ := Aside0.mk ((by rw [hg]; exact (below_size (hbq HB.out)) : w.heap.size ≤ gb351)); have n10_ := Aside0.mk ((by rw [hg]; exact (below_size (hbq HB.out)) : w.heap.size ≤ gb351)); have n11_ := Aside0.mk ((by rw [hg]; exact Nat.ne_of_lt (blk_lt (g := gb330) (o := .cells #[.slice A0_0 l0_0.length c0_0, .slice (some ad346) l0_1.length c0_1] 25 (0, 0)) (bkq BK330.out)) : gb330 ≠ gb351)); have n12_ := Aside0.mk ((by rw [hg]; exact Nat.ne_of_gt (blk_lt (g := gb330) (o := .cells #[.slice A0_0 l0_0.length c0_0, .slice (some ad346) l0_1.length c0_1] 25 (0, 0)) (bkq BK330.out)) : gb351 ≠ gb330)); have n13_ := Aside0.mk ((by rw [hg]; exact Nat.ne_of_lt (blk_lt (g := gb331) (o := .cells #[.slice none 0 0, .slice none 0 0] 31 (0, 0)) (bkq BK331.out)) : gb331 ≠ gb351)); have n14_ := Aside0.mk ((by rw [hg]; exact Nat.ne_of_gt (blk_lt (g := gb331) (o := .cells #[.slice none 0 0, .slice none 0 0] 31 (0, 0)) (bkq BK331.out)) : gb351 ≠ gb331)); have n15_ := Aside0.mk ((by rw [hg]; exact Nat.ne_of_lt (blk_lt (g := gb332) (o := .cells #[.slice Ao39 x333000_1.length co39, u333001] 31 (0, 0)) (bkq BK332.out)) : gb332 ≠ gb351)); have n16_ := Aside0.mk ((by rw [hg]; exact Nat.ne_of_gt (blk_lt (g := gb332) (o := .cells #[.slice Ao39 x333000_1.length co39, u333001] 31 (0, 0)) (bkq BK332.out)) : gb351 ≠ gb332)); have n17_ := Aside0.mk ((by rw [hg]; exact Nat.ne_of_lt (blk_lt (g := gb347) (o := .cells #[.int .u8 ((rd_T60 l0_1 x7_2).f0), .int .u8 ((rd_T60 l0_1 x7_2).f1), .int .u8 ((rd_T60 l0_1 x7_2).f2), .int .u8 ((rd_T60 l0_1 x7_2).f3), .int .u8 ((rd_T60 l0_1 x7_2).f4), .int .u8 ((rd_T60 l0_1 x7_2).f5), .int .u8 ((rd_T60 l0_1 x7_2).f6)] 60 (0, 0)) (bkq BK347.out)) : gb347 ≠ gb351)); have n18_ := Aside0.mk ((by rw [hg]; exact Nat.ne_of_gt (blk_lt (g := gb347) (o := .cells #[.int .u8 ((rd_T60 l0_1 x7_2).f0), .int .u8 ((rd_T60 l0_1 x7_2).f1), .int .u8 ((rd_T60 l0_1 x7_2).f2), .int .u8 ((rd_T60 l0_1 x7_2).f3), .int .u8 ((rd_T60 l0_1 x7_2).f4), .int .u8 ((rd_T60 l0_1 x7_2).f5), .int .u8 ((rd_T60 l0_1 x7_2).f6)] 60 (0, 0)) (bkq BK347.out)) : gb351 ≠ gb347)); clear HO_333000; clear HO_333001; clear HO350; clear BK330; clear BK331; clear BK332; clear BK347; clear HB; have HO_333000 := n0_; have HO_333001 := n1_; have HO350 := n2_; have BK330 := n3_; have BK331 := n4_; have BK332 := n5_; have BK347 := n6_; have HB := n7_; have BK351 := n8_; have GW351 := n9_; have GE351 := n10_; have NB330_351 := n11_; have NB351_330 := n12_; have NB331_351 := n13_; have NB351_331 := n14_; have NB332_351 := n15_; have NB351_332 := n16_; have NB347_351 := n17_; have NB351_347 := n18_; clear n0_ n1_ n2_ n3_ n4_ n5_ n6_ n7_ n8_ n9_ n10_ n11_ n12_ n13_ n14_ n15_ n16_ n17_ n18_; clear hb hbox hg; have hnb69 := NB351_330.out; have hnc69 := NB330_351.out; have hnb70 := NB351_331.out; have hnc70 := NB331_351.out; have hnb71 := NB351_332.out; have hnc71 := NB332_351.out; have hnb72 := NB351_347.out; have hnc72 := NB347_351.out; have hcz73_0 : w68.cell? ⟨gb351, 0, none⟩ = some (.string (⟨#[]⟩ : ByteArray)) := (blk_cell BK351.out 0).trans rfl; have hcz73_1 : w68.cell? ⟨gb351, 1, none⟩ = some (.int .i64 0) := (blk_cell BK351.out 1).trans rfl; have hcz73_2 : w68.cell? ⟨gb351, 2, none⟩ = some (.int .i64 0) := (blk_cell BK351.out 2).trans rfl; have hcz73_3 : w68.cell? ⟨gb351, 3, none⟩ = some (.slice none 0 0) := (blk_cell BK351.out 3).trans rfl; have hcz73_4 : w68.cell? ⟨gb351, 4, none⟩ = some (.slice none 0 0) := (blk_cell BK351.out 4).trans rfl; have hcz73_5 : w68.cell? ⟨gb351, 5, none⟩ = some (.slice none 0 0) := (blk_cell BK351.out 5).trans rfl; have hfz73_0 := blk_frozen BK351.out 0; have hfz73_1 := blk_frozen BK351.out 1; have hfz73_2 := blk_frozen BK351.out 2; have hfz73_3 := blk_frozen BK351.out 3; have hfz73_4 := blk_frozen BK351.out 4; have hfz73_5 := blk_frozen BK351.out 5))
     have n0_ : Aside0 (Kd.R k46 46 ((((((w68.setCell ⟨gb351, 0, none⟩ (.string (((⟨#[116]⟩ : ByteArray) ++ (strOfNums y348)) ++ (⟨#[46, 120]⟩ : ByteArray)))).setCell ⟨gb351, 1, none⟩ (.int .i64 (wrap64 (Int.tmod ((rd_T60 l0_1 x7_2).f0) 5)))).setCell ⟨gb351, 2, none⟩ (.int .i64 (wrap64 (Int.tmod ((rd_T60 l0_1 x7_2).f1) 3)))).setCell ⟨gb351, 3, none⟩ (.slice none 0 0)).setCell ⟨gb351, 4, none⟩ (.slice none 0 0)).setCell ⟨gb351, 5, none⟩ (.slice none 0 0)) w.heap.size (fun _ => True) (.slice Ao39 x333000_1.length co39) x333000_1) := ⟨by refine kq_R ?_; exact Kd.R_mono (Kd.R_far (p := ⟨gb351, 5, none⟩) (Kd.R_far (p := ⟨gb351, 4, none⟩) (Kd.R_far (p := ⟨gb351, 3, none⟩) (Kd.R_far (p := ⟨gb351, 2, none⟩) (Kd.R_far (p := ⟨gb351, 1, none⟩) (Kd.R_far (p := ⟨gb351, 0, none⟩) (Kd.R_types HO_333000.out BK351.out (by decide)) (fun _ hk => hk.2) (.string (((⟨#[116]⟩ : ByteArray) ++ (strOfNums y348)) ++ (⟨#[46, 120]⟩ : ByteArray)))) (fun _ hk => hk.2) (.int .i64 (wrap64 (Int.tmod ((rd_T60 l0_1 x7_2).f0) 5)))) (fun _ hk => hk.2) (.int .i64 (wrap64 (Int.tmod ((rd_T60 l0_1 x7_2).f1) 3)))) (fun _ hk => hk.2) (.slice none 0 0)) (fun _ hk => hk.2) (.slice none 0 0)) (fun _ hk => hk.2) (.slice none 0 0)) (fun _ hk => trivial)⟩
     have n1_ : Aside0 (Kd.S k54 54 ((((((w68.setCell ⟨gb351, 0, none⟩ (.string (((⟨#[116]⟩ : ByteArray) ++ (strOfNums y348)) ++ (⟨#[46, 120]⟩ : ByteArray)))).setCell ⟨gb351, 1, none⟩ (.int .i64 (wrap64 (Int.tmod ((rd_T60 l0_1 x7_2).f0) 5)))).setCell ⟨gb351, 2, none⟩ (.int .i64 (wrap64 (Int.tmod ((rd_T60 l0_1 x7_2).f1) 3)))).setCell ⟨gb351, 3, none⟩ (.slice none 0 0)).setCell ⟨gb351, 4, none⟩ (.slice none 0 0)).setCell ⟨gb351, 5, none⟩ (.slice none 0 0)) w.heap.size (fun k_ => k_ ≠ gb351) u333001 x333001_2) := ⟨by refine kq_S ?_; exact Kd.S_mono (Kd.S_far (p := ⟨gb351, 5, none⟩) (Kd.S_far (p := ⟨gb351, 4, none⟩) (Kd.S_far (p := ⟨gb351, 3, none⟩) (Kd.S_far (p := ⟨gb351, 2, none⟩) (Kd.S_far (p := ⟨gb351, 1, none⟩) (Kd.S_far (p := ⟨gb351, 0, none⟩) (Kd.S_mono HO_333001.out (fun k_ hk => (⟨hk, hk.2⟩ : _ ∧ k_ ≠ gb351))) (fun _ hk => hk.2) (.string (((⟨#[116]⟩ : ByteArray) ++ (strOfNums y348)) ++ (⟨#[46, 120]⟩ : ByteArray)))) (fun _ hk => hk.2) (.int .i64 (wrap64 (Int.tmod ((rd_T60 l0_1 x7_2).f0) 5)))) (fun _ hk => hk.2) (.int .i64 (wrap64 (Int.tmod ((rd_T60 l0_1 x7_2).f1) 3)))) (fun _ hk => hk.2) (.slice none 0 0)) (fun _ hk => hk.2) (.slice none 0 0)) (fun _ hk => hk.2) (.slice none 0 0)) (fun _ hk => hk.1.2)⟩
     have n2_ : Aside0 (Kd.R (Kd.int .u8) 5 ((((((w68.setCell ⟨gb351, 0, none⟩ (.string (((⟨#[116]⟩ : ByteArray) ++ (strOfNums y348)) ++ (⟨#[46, 120]⟩ : ByteArray)))).setCell ⟨gb351, 1, none⟩ (.int .i64 (wrap64 (Int.tmod ((rd_T60 l0_1 x7_2).f0) 5)))).setCell ⟨gb351, 2, none⟩ (.int .i64 (wrap64 (Int.tmod ((rd_T60 l0_1 x7_2).f1) 3)))).setCell ⟨gb351, 3, none⟩ (.slice none 0 0)).setCell ⟨gb351, 4, none⟩ (.slice none 0 0)).setCell ⟨gb351, 5, none⟩ (.slice none 0 0)) w.heap.size (fun _ => True) v349 y348) := ⟨by refine kq_R ?_; exact Kd.R_mono (Kd.R_far (p := ⟨gb351, 5, none⟩) (Kd.R_far (p := ⟨gb351, 4, none⟩) (Kd.R_far (p := ⟨gb351, 3, none⟩) (Kd.R_far (p := ⟨gb351, 2, none⟩) (Kd.R_far (p := ⟨gb351, 1, none⟩) (Kd.R_far (p := ⟨gb351, 0, none⟩) (Kd.R_types HO350.out BK351.out (by decide)) (fun _ hk => hk.2) (.string (((⟨#[116]⟩ : ByteArray) ++ (strOfNums y348)) ++ (⟨#[46, 120]⟩ : ByteArray)))) (fun _ hk => hk.2) (.int .i64 (wrap64 (Int.tmod ((rd_T60 l0_1 x7_2).f0) 5)))) (fun _ hk => hk.2) (.int .i64 (wrap64 (Int.tmod ((rd_T60 l0_1 x7_2).f1) 3)))) (fun _ hk => hk.2) (.slice none 0 0)) (fun _ hk => hk.2) (.slice none 0 0)) (fun _ hk => hk.2) (.slice none 0 0)) (fun _ hk => trivial)⟩
     have n3_ : Aside0 (((((((w68.setCell ⟨gb351, 0, none⟩ (.string (((⟨#[116]⟩ : ByteArray) ++ (strOfNums y348)) ++ (⟨#[46, 120]⟩ : ByteArray)))).setCell ⟨gb351, 1, none⟩ (.int .i64 (wrap64 (Int.tmod ((rd_T60 l0_1 x7_2).f0) 5)))).setCell ⟨gb351, 2, none⟩ (.int .i64 (wrap64 (Int.tmod ((rd_T60 l0_1 x7_2).f1) 3)))).setCell ⟨gb351, 3, none⟩ (.slice none 0 0)).setCell ⟨gb351, 4, none⟩ (.slice none 0 0)).setCell ⟨gb351, 5, none⟩ (.slice none 0 0)).heap[gb330]? = some (.cells #[.slice A0_0 l0_0.length c0_0, .slice (some ad346) l0_1.length c0_1] 25 (0, 0))) := ⟨by refine bkq ?_; refine blk_far ?_ NB330_351.out _; refine bkq ?_; refine blk_far ?_ NB330_351.out _; refine bkq ?_; refine blk_far ?_ NB330_351.out _; refine bkq ?_; refine blk_far ?_ NB330_351.out _; refine bkq ?_; refine blk_far ?_ NB330_351.out _; refine bkq ?_; refine blk_far ?_ NB330_351.out _; refine bkq ?_; exact BK330.out⟩
     have n4_ : Aside0 (((((((w68.setCell ⟨gb351, 0, none⟩ (.string (((⟨#[116]⟩ : ByteArray) ++ (strOfNums y348)) ++ (⟨#[46, 120]⟩ : ByteArray)))).setCell ⟨gb351, 1, none⟩ (.int .i64 (wrap64 (Int.tmod ((rd_T60 l0_1 x7_2).f0) 5)))).setCell ⟨gb351, 2, none⟩ (.int .i64 (wrap64 (Int.tmod ((rd_T60 l0_1 x7_2).f1) 3)))).setCell ⟨gb351, 3, none⟩ (.slice none 0 0)).setCell ⟨gb351, 4, none⟩ (.slice none 0 0)).setCell ⟨gb351, 5, none⟩ (.slice none 0 0)).heap[gb331]? = some (.cells #[.slice none 0 0, .slice none 0 0] 31 (0, 0))) := ⟨by refine bkq ?_; refine blk_far ?_ NB331_351.out _; refine bkq ?_; refine blk_far ?_ NB331_351.out _; refine bkq ?_; refine blk_far ?_ NB331_351.out _; refine bkq ?_; refine blk_far ?_ NB331_351.out _; refine bkq ?_; refine blk_far ?_ NB331_351.out _; refine bkq ?_; refine blk_far ?_ NB331_351.out _; refine bkq ?_; exact BK331.out⟩
     have n5_ : Aside0 (((((((w68.setCell ⟨gb351, 0, none⟩ (.string (((⟨#[116]⟩ : ByteArray) ++ (strOfNums y348)) ++ (⟨#[46, 120]⟩ : ByteArray)))).setCell ⟨gb351, 1, none⟩ (.int .i64 (wrap64 (Int.tmod ((rd_T60 l0_1 x7_2).f0) 5)))).setCell ⟨gb351, 2, none⟩ (.int .i64 (wrap64 (Int.tmod ((rd_T60 l0_1 x7_2).f1) 3)))).setCell ⟨gb351, 3, none⟩ (.slice none 0 0)).setCell ⟨gb351, 4, none⟩ (.slice none 0 0)).setCell ⟨gb351, 5, none⟩ (.slice none 0 0)).heap[gb332]? = some (.cells #[.slice Ao39 x333000_1.length co39, u333001] 31 (0, 0))) := ⟨by refine bkq ?_; refine blk_far ?_ NB332_351.out _; refine bkq ?_; refine blk_far ?_ NB332_351.out _; refine bkq ?_; refine blk_far ?_ NB332_351.out _; refine bkq ?_; refine blk_far ?_ NB332_351.out _; refine bkq ?_; refine blk_far ?_ NB332_351.out _; refine bkq ?_; refine blk_far ?_ NB332_351.out _; refine bkq ?_; exact BK332.out⟩
     have n6_ : Aside0 (((((((w68.setCell ⟨gb351, 0, none⟩ (.string (((⟨#[116]⟩ : ByteArray) ++ (strOfNums y348)) ++ (⟨#[46, 120]⟩ : ByteArray)))).setCell ⟨gb351, 1, none⟩ (.int .i64 (wrap64 (Int.tmod ((rd_T60 l0_1 x7_2).f0) 5)))).setCell ⟨gb351, 2, none⟩ (.int .i64 (wrap64 (Int.tmod ((rd_T60 l0_1 x7_2).f1) 3)))).setCell ⟨gb351, 3, none⟩ (.slice none 0 0)).setCell ⟨gb351, 4, none⟩ (.slice none 0 0)).setCell ⟨gb351, 5, none⟩ (.slice none 0 0)).heap[gb347]? = some (.cells #[.int .u8 ((rd_T60 l0_1 x7_2).f0), .int .u8 ((rd_T60 l0_1 x7_2).f1), .int .u8 ((rd_T60 l0_1 x7_2).f2), .int .u8 ((rd_T60 l0_1 x7_2).f3), .int .u8 ((rd_T60 l0_1 x7_2).f4), .int .u8 ((rd_T60 l0_1 x7_2).f5), .int .u8 ((rd_T60 l0_1 x7_2).f6)] 60 (0, 0))) := ⟨by refine bkq ?_; refine blk_far ?_ NB347_351.out _; refine bkq ?_; refine blk_far ?_ NB347_351.out _; refine bkq ?_; refine blk_far ?_ NB347_351.out _; refine bkq ?_; refine blk_far ?_ NB347_351.out _; refine bkq ?_; refine blk_far ?_ NB347_351.out _; refine bkq ?_; refine blk_far ?_ NB347_351.out _; refine bkq ?_; exact BK347.out⟩
     have n7_ : Aside0 (((((((w68.setCell ⟨gb351, 0, none⟩ (.string (((⟨#[116]⟩ : ByteArray) ++ (strOfNums y348)) ++ (⟨#[46, 120]⟩ : ByteArray)))).setCell ⟨gb351, 1, none⟩ (.int .i64 (wrap64 (Int.tmod ((rd_T60 l0_1 x7_2).f0) 5)))).setCell ⟨gb351, 2, none⟩ (.int .i64 (wrap64 (Int.tmod ((rd_T60 l0_1 x7_2).f1) 3)))).setCell ⟨gb351, 3, none⟩ (.slice none 0 0)).setCell ⟨gb351, 4, none⟩ (.slice none 0 0)).setCell ⟨gb351, 5, none⟩ (.slice none 0 0)).heap[gb351]? = some (.cells #[.string (((⟨#[116]⟩ : ByteArray) ++ (strOfNums y348)) ++ (⟨#[46, 120]⟩ : ByteArray)), .int .i64 (wrap64 (Int.tmod ((rd_T60 l0_1 x7_2).f0) 5)), .int .i64 (wrap64 (Int.tmod ((rd_T60 l0_1 x7_2).f1) 3)), .slice none 0 0, .slice none 0 0, .slice none 0 0] 54 (0, 0))) := ⟨by refine bkq ?_; refine blk_put (cs := #[.string (((⟨#[116]⟩ : ByteArray) ++ (strOfNums y348)) ++ (⟨#[46, 120]⟩ : ByteArray)), .int .i64 (wrap64 (Int.tmod ((rd_T60 l0_1 x7_2).f0) 5)), .int .i64 (wrap64 (Int.tmod ((rd_T60 l0_1 x7_2).f1) 3)), .slice none 0 0, .slice none 0 0, .slice none 0 0]) ?_ 5 _ rfl; refine bkq ?_; refine blk_put (cs := #[.string (((⟨#[116]⟩ : ByteArray) ++ (strOfNums y348)) ++ (⟨#[46, 120]⟩ : ByteArray)), .int .i64 (wrap64 (Int.tmod ((rd_T60 l0_1 x7_2).f0) 5)), .int .i64 (wrap64 (Int.tmod ((rd_T60 l0_1 x7_2).f1) 3)), .slice none 0 0, .slice none 0 0, .slice none 0 0]) ?_ 4 _ rfl; refine bkq ?_; refine blk_put (cs := #[.string (((⟨#[116]⟩ : ByteArray) ++ (strOfNums y348)) ++ (⟨#[46, 120]⟩ : ByteArray)), .int .i64 (wrap64 (Int.tmod ((rd_T60 l0_1 x7_2).f0) 5)), .int .i64 (wrap64 (Int.tmod ((rd_T60 l0_1 x7_2).f1) 3)), .slice none 0 0, .slice none 0 0, .slice none 0 0]) ?_ 3 _ rfl; refine bkq ?_; refine blk_put (cs := #[.string (((⟨#[116]⟩ : ByteArray) ++ (strOfNums y348)) ++ (⟨#[46, 120]⟩ : ByteArray)), .int .i64 (wrap64 (Int.tmod ((rd_T60 l0_1 x7_2).f0) 5)), .int .i64 0, .slice none 0 0, .slice none 0 0, .slice none 0 0]) ?_ 2 _ rfl; refine bkq ?_; refine blk_put (cs := #[.string (((⟨#[116]⟩ : ByteArray) ++ (strOfNums y348)) ++ (⟨#[46, 120]⟩ : ByteArray)), .int .i64 0, .int .i64 0, .slice none 0 0, .slice none 0 0, .slice none 0 0]) ?_ 1 _ rfl; refine bkq ?_; refine blk_put (cs := #[.string (⟨#[]⟩ : ByteArray), .int .i64 0, .int .i64 0, .slice none 0 0, .slice none 0 0, .slice none 0 0]) ?_ 0 _ rfl; refine bkq ?_; exact BK351.out⟩
     have n8_ : Aside0 (Below w.heap.size w ((((((w68.setCell ⟨gb351, 0, none⟩ (.string (((⟨#[116]⟩ : ByteArray) ++ (strOfNums y348)) ++ (⟨#[46, 120]⟩ : ByteArray)))).setCell ⟨gb351, 1, none⟩ (.int .i64 (wrap64 (Int.tmod ((rd_T60 l0_1 x7_2).f0) 5)))).setCell ⟨gb351, 2, none⟩ (.int .i64 (wrap64 (Int.tmod ((rd_T60 l0_1 x7_2).f1) 3)))).setCell ⟨gb351, 3, none⟩ (.slice none 0 0)).setCell ⟨gb351, 4, none⟩ (.slice none 0 0)).setCell ⟨gb351, 5, none⟩ (.slice none 0 0))) := ⟨hbq HB.out⟩
     (try clear HO_333000)
     (try clear HO_333001)
     (try clear HO350)
     (try clear BK330)
     (try clear BK331)
     (try clear BK332)
     (try clear BK347)
     (try clear BK351)
     (try clear HB)
     generalize ((((((w68.setCell ⟨gb351, 0, none⟩ (.string (((⟨#[116]⟩ : ByteArray) ++ (strOfNums y348)) ++ (⟨#[46, 120]⟩ : ByteArray)))).setCell ⟨gb351, 1, none⟩ (.int .i64 (wrap64 (Int.tmod ((rd_T60 l0_1 x7_2).f0) 5)))).setCell ⟨gb351, 2, none⟩ (.int .i64 (wrap64 (Int.tmod ((rd_T60 l0_1 x7_2).f1) 3)))).setCell ⟨gb351, 3, none⟩ (.slice none 0 0)).setCell ⟨gb351, 4, none⟩ (.slice none 0 0)).setCell ⟨gb351, 5, none⟩ (.slice none 0 0)) = w74 at n0_ n1_ n2_ n3_ n4_ n5_ n6_ n7_ n8_ ⊢
     have HO_333000 := n0_
     have HO_333001 := n1_
     have HO350 := n2_
     have BK330 := n3_
     have BK331 := n4_
     have BK332 := n5_
     have BK347 := n6_
     have BK351 := n7_
     have HB := n8_
     clear n0_ n1_ n2_ n3_ n4_ n5_ n6_ n7_ n8_
     have n0_ := Aside0.mk (Kd.R_drew HO_333000.out)
     have n1_ := Aside0.mk (Kd.S_drew HO_333001.out)
     have n2_ := Aside0.mk (Kd.R_drew HO350.out)
     have n3_ := Aside0.mk (blk_drew BK330.out)
     have n4_ := Aside0.mk (blk_drew BK331.out)
     have n5_ := Aside0.mk (blk_drew BK332.out)
     have n6_ := Aside0.mk (blk_drew BK347.out)
     have n7_ := Aside0.mk (blk_drew BK351.out)
     have n8_ := Aside0.mk (below_drew1 HB.out)
     clear HO_333000
     clear HO_333001
     clear HO350
     clear BK330
     clear BK331
     clear BK332
     clear BK347
     clear BK351
     clear HB
     have HO_333000 := n0_
     have HO_333001 := n1_
     have HO350 := n2_
     have BK330 := n3_
     have BK331 := n4_
     have BK332 := n5_
     have BK347 := n6_
     have BK351 := n7_
     have HB := n8_
     clear n0_ n1_ n2_ n3_ n4_ n5_ n6_ n7_ n8_
     refine start_ (n := 16) (S := fun w' => w'.cell? ⟨gb351, 0, none⟩ = some (.string (((⟨#[116]⟩ : ByteArray) ++ (strOfNums y348)) ++ (⟨#[46, 120]⟩ : ByteArray))) ∧ w'.cell? ⟨gb351, 1, none⟩ = some (.int .i64 (wrap64 (Int.tmod ((rd_T60 l0_1 x7_2).f0) 5))) ∧ w'.cell? ⟨gb351, 2, none⟩ = some (.int .i64 (wrap64 (Int.tmod ((rd_T60 l0_1 x7_2).f1) 3))) ∧ w'.cell? ⟨gb351, 3, none⟩ = some (.slice none 0 0) ∧ w'.cell? ⟨gb351, 4, none⟩ = some (.slice none 0 0) ∧ w'.cell? ⟨gb351, 5, none⟩ = some (.slice none 0 0) ∧ w'.cell? ⟨gb347, 0, none⟩ = some (.int .u8 ((rd_T60 l0_1 x7_2).f0)) ∧ w'.cell? ⟨gb347, 1, none⟩ = some (.int .u8 ((rd_T60 l0_1 x7_2).f1)) ∧ w'.cell? ⟨gb347, 2, none⟩ = some (.int .u8 ((rd_T60 l0_1 x7_2).f2)) ∧ w'.cell? ⟨gb347, 3, none⟩ = some (.int .u8 ((rd_T60 l0_1 x7_2).f3)) ∧ w'.cell? ⟨gb347, 4, none⟩ = some (.int .u8 ((rd_T60 l0_1 x7_2).f4)) ∧ w'.cell? ⟨gb347, 5, none⟩ = some (.int .u8 ((rd_T60 l0_1 x7_2).f5)) ∧ w'.cell? ⟨gb347, 6, none⟩ = some (.int .u8 ((rd_T60 l0_1 x7_2).f6))) (ds := [15]) (az [0, 16]) (by kernel_rfl) rfl rfl ⟨(blk_cell BK351.out 0).trans rfl, (blk_cell BK351.out 1).trans rfl, (blk_cell BK351.out 2).trans rfl, (blk_cell BK351.out 3).trans rfl, (blk_cell BK351.out 4).trans rfl, (blk_cell BK351.out 5).trans rfl, (blk_cell BK347.out 0).trans rfl, (blk_cell BK347.out 1).trans rfl, (blk_cell BK347.out 2).trans rfl, (blk_cell BK347.out 3).trans rfl, (blk_cell BK347.out 4).trans rfl, (blk_cell BK347.out 5).trans rfl, (blk_cell BK347.out 6).trans rfl⟩ (fun hHeld => ?_); refine with_tabW marblerunref05_Make.tab15 marblerunref05_Make.bits15 (fun HT_ HW_ => ?_)
     generalize w74.drew = w75 at HO_333000 HO_333001 HO350 BK330 BK331 BK332 BK347 BK351 HB hHeld ⊢
     refine pure_ (i := 0) (N := some 79) (v := ?_) (a' := ?_) (az [1, 15]) rfl rfl (any_of HT_.out (by kernel_rfl)) (fun _ _ _ h => h) (Or.inl ⟨by rfl, ?_⟩) ?_ ?_
     rotate_left
     ·intro w'
      go_simp
      with_reducible rfl
     rotate_left
     ·simp only [Act.put, List.setIfInBounds_toArray, List.set_cons_zero, List.set_cons_succ, i64_w, i32_w]
      rfl
     refine pure_ (i := 2) (N := some 81) (v := ?_) (a' := ?_) (az [1, 1, 1, 13]) rfl rfl (any_of HT_.out (by kernel_rfl)) (fun _ _ _ h => h) (Or.inl ⟨by rfl, ?_⟩) ?_ ?_
     rotate_left
     ·intro w'
      go_simp
      with_reducible rfl
     rotate_left
     ·simp only [Act.put, List.setIfInBounds_toArray, List.set_cons_zero, List.set_cons_succ, i64_w, i32_w]
      rfl
     refine pure_ (i := 5) (N := some 84) (v := ?_) (a' := ?_) (az [1, 1, 1, 2, 1, 10]) rfl rfl (any_of HT_.out (by kernel_rfl)) (fun _ _ _ h => h) (Or.inl ⟨by rfl, ?_⟩) ?_ ?_
     rotate_left
     ·intro w'
      go_simp
      with_reducible rfl
     rotate_left
     ·simp only [Act.put, List.setIfInBounds_toArray, List.set_cons_zero, List.set_cons_succ, i64_w, i32_w]
      rfl
     refine pure_ (i := 7) (N := some 86) (v := ?_) (a' := ?_) (az [1, 1, 1, 2, 1, 1, 1, 8]) rfl rfl (any_of HT_.out (by kernel_rfl)) (fun _ _ _ h => h) (Or.inl ⟨by rfl, ?_⟩) ?_ ?_
     rotate_left
     ·intro w'
      go_simp
      with_reducible rfl
     rotate_left
     ·simp only [Act.put, List.setIfInBounds_toArray, List.set_cons_zero, List.set_cons_succ, i64_w, i32_w]
      rfl
     refine take_ (i := 1) (N := some 80) (v := ?_) (a' := ?_) (az [3, 2, 1, 1, 1, 8]) rfl rfl (take_ofW HT_.out HW_.out (by kernel_rfl)) (fun _ _ _ h => h) (Or.inl ⟨by rfl, ?_⟩) hHeld ?_ ?_
     rotate_left
     ·rintro w' ⟨s0, s1, s2, s3, s4, s5, s6, s7, s8, s9, s10, s11, s12⟩
      go_simp
      with_reducible rfl
     rotate_left
     ·simp only [Act.put, List.setIfInBounds_toArray, List.set_cons_zero, List.set_cons_succ, i64_w, i32_w]
      rfl
     refine take_ (i := 3) (N := some 82) (v := ?_) (a' := ?_) (az [4, 1, 1, 1, 1, 8]) rfl rfl (take_ofW HT_.out HW_.out (by kernel_rfl)) (fun _ _ _ h => h) (Or.inl ⟨by rfl, ?_⟩) hHeld ?_ ?_
     rotate_left
     ·rintro w' ⟨s0, s1, s2, s3, s4, s5, s6, s7, s8, s9, s10, s11, s12⟩
      go_simp
      with_reducible rfl
     rotate_left
     ·simp only [Act.put, List.setIfInBounds_toArray, List.set_cons_zero, List.set_cons_succ, i64_w, i32_w]
      rfl
     refine pure_ (i := 4) (N := some 83) (v := ?_) (a' := ?_) (az [6, 1, 1, 8]) rfl rfl (any_of HT_.out (by kernel_rfl)) (fun _ _ _ h => h) (Or.inl ⟨by rfl, ?_⟩) ?_ ?_
     rotate_left
     ·intro w'
      go_simp
      with_reducible rfl
     rotate_left
     ·simp only [Act.put, List.setIfInBounds_toArray, List.set_cons_zero, List.set_cons_succ, i64_w, i32_w]
      rfl
     refine pure_ (i := 6) (N := some 85) (v := ?_) (a' := ?_) (az [8, 8]) rfl rfl (any_of HT_.out (by kernel_rfl)) (fun _ _ _ h => h) (Or.inl ⟨by rfl, ?_⟩) ?_ ?_
     rotate_left
     ·intro w'
      go_simp
      with_reducible rfl
     rotate_left
     ·simp only [Act.put, List.setIfInBounds_toArray, List.set_cons_zero, List.set_cons_succ, i64_w, i32_w]
      rfl
     refine take_ (i := 8) (N := some 87) (v := ?_) (a' := ?_) (az [9, 7]) rfl rfl (take_ofW HT_.out HW_.out (by kernel_rfl)) (fun _ _ _ h => h) (Or.inl ⟨by rfl, ?_⟩) hHeld ?_ ?_
     rotate_left
     ·rintro w' ⟨s0, s1, s2, s3, s4, s5, s6, s7, s8, s9, s10, s11, s12⟩
      go_simp
      with_reducible rfl
     rotate_left
     ·simp only [Act.put, List.setIfInBounds_toArray, List.set_cons_zero, List.set_cons_succ, i64_w, i32_w]
      rfl
     refine pure_ (i := 9) (N := some 88) (v := ?_) (a' := ?_) (az [10, 6]) rfl rfl (any_of HT_.out (by kernel_rfl)) (fun _ _ _ h => h) (Or.inl ⟨by rfl, ?_⟩) ?_ ?_
     rotate_left
     ·intro w'
      go_simp
      with_reducible rfl
     rotate_left
     ·simp only [Act.put, List.setIfInBounds_toArray, List.set_cons_zero, List.set_cons_succ, i64_w, i32_w]
      rfl
     refine pure_ (i := 10) (N := some 89) (v := ?_) (a' := ?_) (az [11, 5]) rfl rfl (any_of HT_.out (by kernel_rfl)) (fun _ _ _ h => h) (Or.inl ⟨by rfl, ?_⟩) ?_ ?_
     rotate_left
     ·intro w'
      go_simp
      with_reducible rfl
     rotate_left
     ·simp only [Act.put, List.setIfInBounds_toArray, List.set_cons_zero, List.set_cons_succ, i64_w, i32_w]
      rfl
     refine pure_ (i := 11) (N := some 90) (v := ?_) (a' := ?_) (az [12, 4]) rfl rfl (any_of HT_.out (by kernel_rfl)) (fun _ _ _ h => h) (Or.inl ⟨by rfl, ?_⟩) ?_ ?_
     rotate_left
     ·intro w'
      go_simp
      with_reducible rfl
     rotate_left
     ·simp only [Act.put, List.setIfInBounds_toArray, List.set_cons_zero, List.set_cons_succ, i64_w, i32_w]
      rfl
     refine pure_ (i := 12) (N := some 91) (v := ?_) (a' := ?_) (az [13, 3]) rfl rfl (any_of HT_.out (by kernel_rfl)) (fun _ _ _ h => h) (Or.inl ⟨by rfl, ?_⟩) ?_ ?_
     rotate_left
     ·intro w'
      go_simp
      with_reducible rfl
     rotate_left
     ·simp only [Act.put, List.setIfInBounds_toArray, List.set_cons_zero, List.set_cons_succ, i64_w, i32_w]
      rfl
     refine one_ (i := 13) (N := some 92) (az [14, 2]) rfl rfl (one_of HT_.out (by kernel_rfl)) (by decide) (fun K hK => ?_)
     refine goes_ Try.func23 (by kernel_rfl) rfl #[.slice none 0 0, .int .i64 (Int.tmod (wrap64 ((rd_T60 l0_1 x7_2).f2)) (x333000_1.length : Int)), .int .i64 (1 + (((Int.tdiv ((rd_T60 l0_1 x7_2).f2) 64) % 256) % 2))] (by rfl) rfl rfl (by (try simp only [List.map_toArray, List.map_cons, List.map_nil]); first | done | rfl | (simp only [List.length_drop, List.length_take]; rfl) | (go_simp; simp only [u8a, u8b, u8b2, u8c, u8d, u8e, and_self])) ?_
     refine (marblerunref05_put.calls kj39 (fun k_ => some k_ = (.slice none 0 0 : Value).ownBlock) (.slice none 0 0) ([] : List (S51)) (Int.tmod (wrap64 ((rd_T60 l0_1 x7_2).f2)) (x333000_1.length : Int)) (1 + (((Int.tdiv ((rd_T60 l0_1 x7_2).f2) 64) % 256) % 2)) t352 w _ ?side1 ?side2 A54.out).mono ?_
     (case side1 => repeat (first | (with_reducible first | exact HB.out | apply below_alloc | apply pw_below_drewN | apply below_drew1 | refine below_set ?_ GE330.out | refine below_set ?_ GE331.out | refine below_set ?_ GE332.out | refine below_set ?_ GE347.out | refine below_set ?_ GE351.out) | exact HB.out))
     (case side2 => exact Kd.R_nil _ _ _ _ _)
     rintro e w76 ⟨v353, rfl, ho0, hb, hkp⟩
     refine ⟨_, rfl, ?_⟩
     have n0_ := Aside0.mk (Kd.R_mono (ok' := fun k_ => True) (Kd.R_keptB (HO_333000.out) hkp (fun k_ hk_ hs_ => (fun e_ => by simp [Value.ownBlock] at e_) hs_)) (fun k_ hk_ => trivial))
     have n1_ := Aside0.mk (Kd.S_mono (ok' := fun k_ => k_ ≠ gb351 ∧ some k_ ≠ (v353 : Value).ownBlock) (Kd.S_keptB (HO_333001.out) hkp (fun k_ hk_ hs_ => (fun e_ => by simp [Value.ownBlock] at e_) hs_)) (fun k_ hk_ => ⟨hk_.1, fun e_ => Or.elim (ho0.1 k_ e_.symm) (fun hs_ => hk_.2.1 hs_) (fun hn_ => Nat.not_le.2 hk_.2.2 hn_)⟩))
     have n2_ := Aside0.mk (blk_kept (bkq BK330.out) hkp (fun hs_ => (fun e_ => by simp [Value.ownBlock] at e_) hs_))
     have n3_ := Aside0.mk (blk_kept (bkq BK331.out) hkp (fun hs_ => (fun e_ => by simp [Value.ownBlock] at e_) hs_))
     have n4_ := Aside0.mk (blk_kept (bkq BK332.out) hkp (fun hs_ => (fun e_ => by simp [Value.ownBlock] at e_) hs_))
     have n5_ := Aside0.mk (blk_kept (bkq BK347.out) hkp (fun hs_ => (fun e_ => by simp [Value.ownBlock] at e_) hs_))
     have n6_ := Aside0.mk (Kd.R_mono (ok' := fun k_ => True) (Kd.R_keptB (HO350.out) hkp (fun k_ hk_ hs_ => (fun e_ => by simp [Value.ownBlock] at e_) hs_)) (fun k_ hk_ => trivial))
     have n7_ := Aside0.mk (blk_kept (bkq BK351.out) hkp (fun hs_ => (fun e_ => by simp [Value.ownBlock] at e_) hs_))
     have n8_ := Aside0.mk (Kd.R_mono (ok' := fun k_ => True) ho0 (fun k_ hk_ => trivial))
     have n9_ := Aside0.mk (hb)
     clear HO_333000
     clear HO_333001
     clear BK330
     clear BK331
     clear BK332
     clear BK347
     clear HO350
     clear BK351
     clear HB
     have HO_333000 := n0_
     have HO_333001 := n1_
     have BK330 := n2_
     have BK331 := n3_
     have BK332 := n4_
     have BK347 := n5_
     have HO350 := n6_
     have BK351 := n7_
     have HO354 := n8_
     have HB := n9_
     clear n0_ n1_ n2_ n3_ n4_ n5_ n6_ n7_ n8_ n9_
     (try clear hb)
     (try clear hkp)
     (try clear ho0)
     obtain ⟨Ao77, co77, eo77⟩ := Kd.R_slice HO354.out
     (first | subst eo77 | (injection eo77 with f1_ f2_ f3_; have f4_ := f1_.symm; have f5_ := f3_.symm; clear f1_ f2_ f3_; subst f4_; subst f5_))
     refine hK.out _ _ ⟨(blk_cell BK351.out 0).trans rfl, (blk_cell BK351.out 1).trans rfl, (blk_cell BK351.out 2).trans rfl, (blk_cell BK351.out 3).trans rfl, (blk_cell BK351.out 4).trans rfl, (blk_cell BK351.out 5).trans rfl, (blk_cell BK347.out 0).trans rfl, (blk_cell BK347.out 1).trans rfl, (blk_cell BK347.out 2).trans rfl, (blk_cell BK347.out 3).trans rfl, (blk_cell BK347.out 4).trans rfl, (blk_cell BK347.out 5).trans rfl, (blk_cell BK347.out 6).trans rfl⟩ (fun hHeld => ?_)
     clear hK K
     refine norm_ (a' := ?_) ?_ ?_
     rotate_left
     ·show Act.put _ (some 92) _ = _
      simp only [Act.put, List.setIfInBounds_toArray, List.set_cons_zero, List.set_cons_succ, i64_w, i32_w]
      rfl
     refine pure_ (i := 14) (N := some 93) (v := ?_) (a' := ?_) (az [15, 1]) rfl rfl (any_of HT_.out (by kernel_rfl)) (fun _ _ _ h => h) (Or.inl ⟨by rfl, ?_⟩) ?_ ?_
     rotate_left
     ·intro w'
      go_simp
      with_reducible rfl
     rotate_left
     ·simp only [Act.put, List.setIfInBounds_toArray, List.set_cons_zero, List.set_cons_succ, i64_w, i32_w]
      rfl
     refine last_ (i := 15) (N := none) (az [16]) rfl rfl (one_of HT_.out (by kernel_rfl)) (by decide) (fun K hK => ?_)
     have hs78 : w76.cell? ⟨gb351, 3, none⟩ = some (.slice none 0 0) := (blk_cell BK351.out 3).trans rfl
     have hfs78 := blk_frozen BK351.out 3
     have hns78_0 := NB330_351.out
     have hns78_1 := NB331_351.out
     have hns78_2 := NB332_351.out
     have hns78_3 := NB347_351.out
     have hms78_0 := NB351_330.out
     have hms78_1 := NB351_331.out
     have hms78_2 := NB351_332.out
     have hms78_3 := NB351_347.out
     refine skip_ (w1 := ?_) (by rfl) rfl ?_ ?_
     rotate_left
     ·go_simp
      rfl
     refine hK.out _ _ ?_
     clear hK K
     refine done_ (done_of HT_.out (by kernel_rfl)) ?_
     have hcz79_0 : w76.cell? ⟨gb347, 0, none⟩ = some (.int .u8 ((rd_T60 l0_1 x7_2).f0)) := (blk_cell BK347.out 0).trans rfl
     have hcz79_1 : w76.cell? ⟨gb347, 1, none⟩ = some (.int .u8 ((rd_T60 l0_1 x7_2).f1)) := (blk_cell BK347.out 1).trans rfl
     have hcz79_2 : w76.cell? ⟨gb347, 2, none⟩ = some (.int .u8 ((rd_T60 l0_1 x7_2).f2)) := (blk_cell BK347.out 2).trans rfl
     have hcz79_3 : w76.cell? ⟨gb347, 3, none⟩ = some (.int .u8 ((rd_T60 l0_1 x7_2).f3)) := (blk_cell BK347.out 3).trans rfl
     have hcz79_4 : w76.cell? ⟨gb347, 4, none⟩ = some (.int .u8 ((rd_T60 l0_1 x7_2).f4)) := (blk_cell BK347.out 4).trans rfl
     have hcz79_5 : w76.cell? ⟨gb347, 5, none⟩ = some (.int .u8 ((rd_T60 l0_1 x7_2).f5)) := (blk_cell BK347.out 5).trans rfl
     have hcz79_6 : w76.cell? ⟨gb347, 6, none⟩ = some (.int .u8 ((rd_T60 l0_1 x7_2).f6)) := (blk_cell BK347.out 6).trans rfl
     have hfz79_0 := blk_frozen BK347.out 0
     have hfz79_1 := blk_frozen BK347.out 1
     have hfz79_2 := blk_frozen BK347.out 2
     have hfz79_3 := blk_frozen BK347.out 3
     have hfz79_4 := blk_frozen BK347.out 4
     have hfz79_5 := blk_frozen BK347.out 5
     have hfz79_6 := blk_frozen BK347.out 6
     go_upto_if 97 with (fail)
     go_cut [] (fun wc => ∃ (kq : Nat) (x352003_54 : List (S51)) (u352003 : Value), Aside0 (marblerunref05_Make.j3 kq (x333000_1.length : Int) x7_2 l0_0 l0_1 x333000_1 x333001_2 ((rd_T60 l0_1 x7_2).f0) ((rd_T60 l0_1 x7_2).f1) ((rd_T60 l0_1 x7_2).f2) ((rd_T60 l0_1 x7_2).f3) ((rd_T60 l0_1 x7_2).f4) ((rd_T60 l0_1 x7_2).f5) ((rd_T60 l0_1 x7_2).f6) (((⟨#[116]⟩ : ByteArray) ++ (strOfNums y348)) ++ (⟨#[46, 120]⟩ : ByteArray)) (wrap64 (Int.tmod ((rd_T60 l0_1 x7_2).f0) 5)) (wrap64 (Int.tmod ((rd_T60 l0_1 x7_2).f1) 3)) x352003_54 = some (r1, r2)) ∧ Aside0 (kq ≤ kj39) ∧ Aside0 (Kd.R k46 46 wc w.heap.size (fun _ => True) (.slice Ao39 x333000_1.length co39) x333000_1) ∧ Aside0 (Kd.S k54 54 wc w.heap.size (fun k_ => some k_ ≠ (u352003 : Value).ownBlock ∧ k_ ≠ gb351) u333001 x333001_2) ∧ Aside0 (Kd.R k51 51 wc w.heap.size (fun _ => True) u352003 x352003_54) ∧ Aside0 (wc.heap[gb330]? = some (.cells #[(.slice A0_0 l0_0.length c0_0), (.slice (some ad346) l0_1.length c0_1)] 25 (0, 0))) ∧ Aside0 (wc.heap[gb331]? = some (.cells #[(.slice none 0 0), (.slice none 0 0)] 31 (0, 0))) ∧ Aside0 (wc.heap[gb332]? = some (.cells #[(.slice Ao39 x333000_1.length co39), u333001] 31 (0, 0))) ∧ Aside0 (wc.heap[gb347]? = some (.cells #[.int .u8 ((rd_T60 l0_1 x7_2).f0), .int .u8 ((rd_T60 l0_1 x7_2).f1), .int .u8 ((rd_T60 l0_1 x7_2).f2), .int .u8 ((rd_T60 l0_1 x7_2).f3), .int .u8 ((rd_T60 l0_1 x7_2).f4), .int .u8 ((rd_T60 l0_1 x7_2).f5), .int .u8 ((rd_T60 l0_1 x7_2).f6)] 60 (0, 0))) ∧ Aside0 (wc.heap[gb351]? = some (.cells #[.string (((⟨#[116]⟩ : ByteArray) ++ (strOfNums y348)) ++ (⟨#[46, 120]⟩ : ByteArray)), .int .i64 (wrap64 (Int.tmod ((rd_T60 l0_1 x7_2).f0) 5)), .int .i64 (wrap64 (Int.tmod ((rd_T60 l0_1 x7_2).f1) 3)), u352003, (.slice none 0 0), (.slice none 0 0)] 54 (0, 0))) ∧ Aside0 (Below w.heap.size w wc))
     case first =>
      have H := HC55.out
      clear HC55
      by_cases c80 : (Int.tmod ((rd_T60 l0_1 x7_2).f3) 3) = 0
      ·rw [if_pos c80] at H
       have c80b0 : ((Int.tmod ((rd_T60 l0_1 x7_2).f3) 3) == 0) = true := beq_iff_eq.mpr c80
       have c80b1 : ((Int.tmod ((rd_T60 l0_1 x7_2).f3) 3) != 0) = false := bne_eq_false_iff_eq.mpr c80
       clear c80
       (first | rw [c80b0] | (simp only [i64_w, i32_w]; rw [c80b0]) | skip)
       replace H := Option.bind_eq_some_iff.mp H
       obtain ⟨t355, A810, H⟩ := H
       replace H : (marblerunref05_Make.j3 kj39 (x333000_1.length : Int) x7_2 l0_0 l0_1 x333000_1 x333001_2 ((rd_T60 l0_1 x7_2).f0) ((rd_T60 l0_1 x7_2).f1) ((rd_T60 l0_1 x7_2).f2) ((rd_T60 l0_1 x7_2).f3) ((rd_T60 l0_1 x7_2).f4) ((rd_T60 l0_1 x7_2).f5) ((rd_T60 l0_1 x7_2).f6) (((⟨#[116]⟩ : ByteArray) ++ (strOfNums y348)) ++ (⟨#[46, 120]⟩ : ByteArray)) (wrap64 (Int.tmod ((rd_T60 l0_1 x7_2).f0) 5)) (wrap64 (Int.tmod ((rd_T60 l0_1 x7_2).f1) 3)) t355) = some (r1, r2) := H
       have A81 := Aside0.mk A810
       clear A810
       have H' := Aside0.mk H
       clear H
       try go_wp2
       have n0_ : Aside0 (Kd.R k46 46 (w76.setCell ⟨gb351, 3, none⟩ (.slice Ao77 t352.length co77)) w.heap.size (fun _ => True) (.slice Ao39 x333000_1.length co39) x333000_1) := ⟨by refine kq_R ?_; exact Kd.R_mono (Kd.R_far (p := ⟨gb351, 3, none⟩) (Kd.R_types HO_333000.out BK351.out (by decide)) (fun _ hk => hk.2) (.slice Ao77 t352.length co77)) (fun _ hk => trivial)⟩
       have n1_ : Aside0 (Kd.S k54 54 (w76.setCell ⟨gb351, 3, none⟩ (.slice Ao77 t352.length co77)) w.heap.size (fun k_ => some k_ ≠ (.slice Ao77 t352.length co77 : Value).ownBlock ∧ k_ ≠ gb351) u333001 x333001_2) := ⟨by refine kq_S ?_; exact Kd.S_mono (Kd.S_far (p := ⟨gb351, 3, none⟩) (Kd.S_mono HO_333001.out (fun k_ hk => (⟨hk, hk.1⟩ : _ ∧ k_ ≠ gb351))) (fun _ hk => hk.2) (.slice Ao77 t352.length co77)) (fun _ hk => ⟨hk.1.2, hk.1.1⟩)⟩
       have n2_ : Aside0 (Kd.R (Kd.int .u8) 5 (w76.setCell ⟨gb351, 3, none⟩ (.slice Ao77 t352.length co77)) w.heap.size (fun _ => True) v349 y348) := ⟨by refine kq_R ?_; exact Kd.R_mono (Kd.R_far (p := ⟨gb351, 3, none⟩) (Kd.R_types HO350.out BK351.out (by decide)) (fun _ hk => hk.2) (.slice Ao77 t352.length co77)) (fun _ hk => trivial)⟩
       have n3_ : Aside0 (Kd.R k51 51 (w76.setCell ⟨gb351, 3, none⟩ (.slice Ao77 t352.length co77)) w.heap.size (fun _ => True) (.slice Ao77 t352.length co77) t352) := ⟨by refine kq_R ?_; exact Kd.R_mono (Kd.R_far (p := ⟨gb351, 3, none⟩) (Kd.R_types HO354.out BK351.out (by decide)) (fun _ hk => hk.2) (.slice Ao77 t352.length co77)) (fun _ hk => trivial)⟩
       have n4_ : Aside0 ((w76.setCell ⟨gb351, 3, none⟩ (.slice Ao77 t352.length co77)).heap[gb330]? = some (.cells #[.slice A0_0 l0_0.length c0_0, .slice (some ad346) l0_1.length c0_1] 25 (0, 0))) := ⟨by refine bkq ?_; refine blk_far ?_ NB330_351.out _; refine bkq ?_; exact BK330.out⟩
       have n5_ : Aside0 ((w76.setCell ⟨gb351, 3, none⟩ (.slice Ao77 t352.length co77)).heap[gb331]? = some (.cells #[.slice none 0 0, .slice none 0 0] 31 (0, 0))) := ⟨by refine bkq ?_; refine blk_far ?_ NB331_351.out _; refine bkq ?_; exact BK331.out⟩
       have n6_ : Aside0 ((w76.setCell ⟨gb351, 3, none⟩ (.slice Ao77 t352.length co77)).heap[gb332]? = some (.cells #[.slice Ao39 x333000_1.length co39, u333001] 31 (0, 0))) := ⟨by refine bkq ?_; refine blk_far ?_ NB332_351.out _; refine bkq ?_; exact BK332.out⟩
       have n7_ : Aside0 ((w76.setCell ⟨gb351, 3, none⟩ (.slice Ao77 t352.length co77)).heap[gb347]? = some (.cells #[.int .u8 ((rd_T60 l0_1 x7_2).f0), .int .u8 ((rd_T60 l0_1 x7_2).f1), .int .u8 ((rd_T60 l0_1 x7_2).f2), .int .u8 ((rd_T60 l0_1 x7_2).f3), .int .u8 ((rd_T60 l0_1 x7_2).f4), .int .u8 ((rd_T60 l0_1 x7_2).f5), .int .u8 ((rd_T60 l0_1 x7_2).f6)] 60 (0, 0))) := ⟨by refine bkq ?_; refine blk_far ?_ NB347_351.out _; refine bkq ?_; exact BK347.out⟩
       have n8_ : Aside0 ((w76.setCell ⟨gb351, 3, none⟩ (.slice Ao77 t352.length co77)).heap[gb351]? = some (.cells #[.string (((⟨#[116]⟩ : ByteArray) ++ (strOfNums y348)) ++ (⟨#[46, 120]⟩ : ByteArray)), .int .i64 (wrap64 (Int.tmod ((rd_T60 l0_1 x7_2).f0) 5)), .int .i64 (wrap64 (Int.tmod ((rd_T60 l0_1 x7_2).f1) 3)), .slice Ao77 t352.length co77, .slice none 0 0, .slice none 0 0] 54 (0, 0))) := ⟨by refine bkq ?_; refine blk_put (cs := #[.string (((⟨#[116]⟩ : ByteArray) ++ (strOfNums y348)) ++ (⟨#[46, 120]⟩ : ByteArray)), .int .i64 (wrap64 (Int.tmod ((rd_T60 l0_1 x7_2).f0) 5)), .int .i64 (wrap64 (Int.tmod ((rd_T60 l0_1 x7_2).f1) 3)), .slice none 0 0, .slice none 0 0, .slice none 0 0]) ?_ 3 _ rfl; refine bkq ?_; exact BK351.out⟩
       have n9_ : Aside0 (Below w.heap.size w (w76.setCell ⟨gb351, 3, none⟩ (.slice Ao77 t352.length co77))) := ⟨hbq HB.out⟩
       (try clear HO_333000)
       (try clear HO_333001)
       (try clear HO350)
       (try clear HO354)
       (try clear BK330)
       (try clear BK331)
       (try clear BK332)
       (try clear BK347)
       (try clear BK351)
       (try clear HB)
       generalize (w76.setCell ⟨gb351, 3, none⟩ (.slice Ao77 t352.length co77)) = w82 at n0_ n1_ n2_ n3_ n4_ n5_ n6_ n7_ n8_ n9_ ⊢
       have HO_333000 := n0_
       have HO_333001 := n1_
       have HO350 := n2_
       have HO354 := n3_
       have BK330 := n4_
       have BK331 := n5_
       have BK332 := n6_
       have BK347 := n7_
       have BK351 := n8_
       have HB := n9_
       clear n0_ n1_ n2_ n3_ n4_ n5_ n6_ n7_ n8_ n9_
       have n0_ := Aside0.mk (Kd.R_drew HO_333000.out)
       have n1_ := Aside0.mk (Kd.S_drew HO_333001.out)
       have n2_ := Aside0.mk (Kd.R_drew HO350.out)
       have n3_ := Aside0.mk (Kd.R_drew HO354.out)
       have n4_ := Aside0.mk (blk_drew BK330.out)
       have n5_ := Aside0.mk (blk_drew BK331.out)
       have n6_ := Aside0.mk (blk_drew BK332.out)
       have n7_ := Aside0.mk (blk_drew BK347.out)
       have n8_ := Aside0.mk (blk_drew BK351.out)
       have n9_ := Aside0.mk (below_drew1 HB.out)
       clear HO_333000
       clear HO_333001
       clear HO350
       clear HO354
       clear BK330
       clear BK331
       clear BK332
       clear BK347
       clear BK351
       clear HB
       have HO_333000 := n0_
       have HO_333001 := n1_
       have HO350 := n2_
       have HO354 := n3_
       have BK330 := n4_
       have BK331 := n5_
       have BK332 := n6_
       have BK347 := n7_
       have BK351 := n8_
       have HB := n9_
       clear n0_ n1_ n2_ n3_ n4_ n5_ n6_ n7_ n8_ n9_
       refine start_ (n := 11) (S := fun w' => w'.cell? ⟨gb351, 0, none⟩ = some (.string (((⟨#[116]⟩ : ByteArray) ++ (strOfNums y348)) ++ (⟨#[46, 120]⟩ : ByteArray))) ∧ w'.cell? ⟨gb351, 1, none⟩ = some (.int .i64 (wrap64 (Int.tmod ((rd_T60 l0_1 x7_2).f0) 5))) ∧ w'.cell? ⟨gb351, 2, none⟩ = some (.int .i64 (wrap64 (Int.tmod ((rd_T60 l0_1 x7_2).f1) 3))) ∧ w'.cell? ⟨gb351, 3, none⟩ = some (.slice Ao77 t352.length co77) ∧ w'.cell? ⟨gb351, 4, none⟩ = some (.slice none 0 0) ∧ w'.cell? ⟨gb351, 5, none⟩ = some (.slice none 0 0) ∧ w'.cell? ⟨gb347, 0, none⟩ = some (.int .u8 ((rd_T60 l0_1 x7_2).f0)) ∧ w'.cell? ⟨gb347, 1, none⟩ = some (.int .u8 ((rd_T60 l0_1 x7_2).f1)) ∧ w'.cell? ⟨gb347, 2, none⟩ = some (.int .u8 ((rd_T60 l0_1 x7_2).f2)) ∧ w'.cell? ⟨gb347, 3, none⟩ = some (.int .u8 ((rd_T60 l0_1 x7_2).f3)) ∧ w'.cell? ⟨gb347, 4, none⟩ = some (.int .u8 ((rd_T60 l0_1 x7_2).f4)) ∧ w'.cell? ⟨gb347, 5, none⟩ = some (.int .u8 ((rd_T60 l0_1 x7_2).f5)) ∧ w'.cell? ⟨gb347, 6, none⟩ = some (.int .u8 ((rd_T60 l0_1 x7_2).f6))) (ds := [10]) (az [0, 11]) (by kernel_rfl) rfl rfl ⟨(blk_cell BK351.out 0).trans rfl, (blk_cell BK351.out 1).trans rfl, (blk_cell BK351.out 2).trans rfl, (blk_cell BK351.out 3).trans rfl, (blk_cell BK351.out 4).trans rfl, (blk_cell BK351.out 5).trans rfl, (blk_cell BK347.out 0).trans rfl, (blk_cell BK347.out 1).trans rfl, (blk_cell BK347.out 2).trans rfl, (blk_cell BK347.out 3).trans rfl, (blk_cell BK347.out 4).trans rfl, (blk_cell BK347.out 5).trans rfl, (blk_cell BK347.out 6).trans rfl⟩ (fun hHeld => ?_); refine with_tabW marblerunref05_Make.tab17 marblerunref05_Make.bits17 (fun HT_ HW_ => ?_)
       generalize w82.drew = w83 at HO_333000 HO_333001 HO350 HO354 BK330 BK331 BK332 BK347 BK351 HB hHeld ⊢
       refine pure_ (i := 0) (N := some 98) (v := ?_) (a' := ?_) (az [1, 10]) rfl rfl (any_of HT_.out (by kernel_rfl)) (fun _ _ _ h => h) (Or.inl ⟨by rfl, ?_⟩) ?_ ?_
       rotate_left
       ·intro w'
        go_simp
        with_reducible rfl
       rotate_left
       ·simp only [Act.put, List.setIfInBounds_toArray, List.set_cons_zero, List.set_cons_succ, i64_w, i32_w]
        rfl
       refine pure_ (i := 2) (N := some 100) (v := ?_) (a' := ?_) (az [1, 1, 1, 8]) rfl rfl (any_of HT_.out (by kernel_rfl)) (fun _ _ _ h => h) (Or.inl ⟨by rfl, ?_⟩) ?_ ?_
       rotate_left
       ·intro w'
        go_simp
        with_reducible rfl
       rotate_left
       ·simp only [Act.put, List.setIfInBounds_toArray, List.set_cons_zero, List.set_cons_succ, i64_w, i32_w]
        rfl
       refine pure_ (i := 6) (N := some 104) (v := ?_) (a' := ?_) (az [1, 1, 1, 3, 1, 4]) rfl rfl (any_of HT_.out (by kernel_rfl)) (fun _ _ _ h => h) (Or.inl ⟨by rfl, ?_⟩) ?_ ?_
       rotate_left
       ·intro w'
        go_simp
        with_reducible rfl
       rotate_left
       ·simp only [Act.put, List.setIfInBounds_toArray, List.set_cons_zero, List.set_cons_succ, i64_w, i32_w]
        rfl
       refine take_ (i := 1) (N := some 99) (v := ?_) (a' := ?_) (az [3, 3, 1, 4]) rfl rfl (take_ofW HT_.out HW_.out (by kernel_rfl)) (fun _ _ _ h => h) (Or.inl ⟨by rfl, ?_⟩) hHeld ?_ ?_
       rotate_left
       ·rintro w' ⟨s0, s1, s2, s3, s4, s5, s6, s7, s8, s9, s10, s11, s12⟩
        go_simp
        with_reducible rfl
       rotate_left
       ·simp only [Act.put, List.setIfInBounds_toArray, List.set_cons_zero, List.set_cons_succ, i64_w, i32_w]
        rfl
       refine take_ (i := 3) (N := some 101) (v := ?_) (a' := ?_) (az [4, 2, 1, 4]) rfl rfl (take_ofW HT_.out HW_.out (by kernel_rfl)) (fun _ _ _ h => h) (Or.inl ⟨by rfl, ?_⟩) hHeld ?_ ?_
       rotate_left
       ·rintro w' ⟨s0, s1, s2, s3, s4, s5, s6, s7, s8, s9, s10, s11, s12⟩
        go_simp
        with_reducible rfl
       rotate_left
       ·simp only [Act.put, List.setIfInBounds_toArray, List.set_cons_zero, List.set_cons_succ, i64_w, i32_w]
        rfl
       refine pure_ (i := 4) (N := some 102) (v := ?_) (a' := ?_) (az [5, 1, 1, 4]) rfl rfl (any_of HT_.out (by kernel_rfl)) (fun _ _ _ h => h) (Or.inl ⟨by rfl, ?_⟩) ?_ ?_
       rotate_left
       ·intro w'
        go_simp
        with_reducible rfl
       rotate_left
       ·simp only [Act.put, List.setIfInBounds_toArray, List.set_cons_zero, List.set_cons_succ, i64_w, i32_w]
        rfl
       refine pure_ (i := 5) (N := some 103) (v := ?_) (a' := ?_) (az [7, 4]) rfl rfl (any_of HT_.out (by kernel_rfl)) (fun _ _ _ h => h) (Or.inl ⟨by rfl, ?_⟩) ?_ ?_
       rotate_left
       ·intro w'
        go_simp
        with_reducible rfl
       rotate_left
       ·simp only [Act.put, List.setIfInBounds_toArray, List.set_cons_zero, List.set_cons_succ, i64_w, i32_w]
        rfl
       refine pure_ (i := 7) (N := some 105) (v := ?_) (a' := ?_) (az [8, 3]) rfl rfl (any_of HT_.out (by kernel_rfl)) (fun _ _ _ h => h) (Or.inl ⟨by rfl, ?_⟩) ?_ ?_
       rotate_left
       ·intro w'
        go_simp
        with_reducible rfl
       rotate_left
       ·simp only [Act.put, List.setIfInBounds_toArray, List.set_cons_zero, List.set_cons_succ, i64_w, i32_w]
        rfl
       refine one_ (i := 8) (N := some 106) (az [9, 2]) rfl rfl (one_of HT_.out (by kernel_rfl)) (by decide) (fun K hK => ?_)
       refine goes_ Try.func23 (by kernel_rfl) rfl #[.slice Ao77 t352.length co77, .int .i64 (((Int.tdiv ((rd_T60 l0_1 x7_2).f3) 3) % 256) % (x333000_1.length : Int)), .int .i64 1] (by rfl) rfl rfl (by (try simp only [List.map_toArray, List.map_cons, List.map_nil]); first | done | rfl | (simp only [List.length_drop, List.length_take]; rfl) | (go_simp; simp only [u8a, u8b, u8b2, u8c, u8d, u8e, and_self])) ?_
       with_reducible refine (marblerunref05_put.calls kj39 (fun k_ => some k_ = (.slice Ao77 t352.length co77 : Value).ownBlock) (.slice Ao77 t352.length co77) t352 (((Int.tdiv ((rd_T60 l0_1 x7_2).f3) 3) % 256) % (x333000_1.length : Int)) 1 t355 w _ ?side1 ?side2 A81.out).mono ?_
       (case side1 => repeat (first | (with_reducible first | exact HB.out | apply below_alloc | apply pw_below_drewN | apply below_drew1 | refine below_set ?_ GE330.out | refine below_set ?_ GE331.out | refine below_set ?_ GE332.out | refine below_set ?_ GE347.out | refine below_set ?_ GE351.out) | exact HB.out))
       (case side2 => exact Kd.R_tight rfl HO354.out)
       rintro e w84 ⟨v356, rfl, ho0, hb, hkp⟩
       refine ⟨_, rfl, ?_⟩
       have n0_ := Aside0.mk (Kd.R_mono (ok' := fun k_ => True) (Kd.R_keptB ((Kd.R_apart' HO_333000.out (Kd.R_typed HO354.out) (by decide))) hkp (fun k_ hk_ hs_ => (hk_.2) hs_)) (fun k_ hk_ => trivial))
       have n1_ := Aside0.mk (Kd.S_mono (ok' := fun k_ => k_ ≠ gb351 ∧ some k_ ≠ (v356 : Value).ownBlock) (Kd.S_keptB (HO_333001.out) hkp (fun k_ hk_ hs_ => (hk_.1) hs_)) (fun k_ hk_ => ⟨hk_.1.2, fun e_ => Or.elim (ho0.1 k_ e_.symm) (fun hs_ => hk_.2.1 hs_) (fun hn_ => Nat.not_le.2 hk_.2.2 hn_)⟩))
       have n2_ := Aside0.mk (blk_kept (bkq BK330.out) hkp (fun hs_ => (fun e_ => (Kd.R_ne HO354.out BK330.out (by decide)) e_) hs_))
       have n3_ := Aside0.mk (blk_kept (bkq BK331.out) hkp (fun hs_ => (fun e_ => (Kd.R_ne HO354.out BK331.out (by decide)) e_) hs_))
       have n4_ := Aside0.mk (blk_kept (bkq BK332.out) hkp (fun hs_ => (fun e_ => (Kd.R_ne HO354.out BK332.out (by decide)) e_) hs_))
       have n5_ := Aside0.mk (blk_kept (bkq BK347.out) hkp (fun hs_ => (fun e_ => (Kd.R_ne HO354.out BK347.out (by decide)) e_) hs_))
       have n6_ := Aside0.mk (Kd.R_mono (ok' := fun k_ => True) (Kd.R_keptB ((Kd.R_apart' HO350.out (Kd.R_typed HO354.out) (by decide))) hkp (fun k_ hk_ hs_ => (hk_.2) hs_)) (fun k_ hk_ => trivial))
       have n7_ := Aside0.mk (blk_kept (bkq BK351.out) hkp (fun hs_ => (fun e_ => (Kd.R_ne HO354.out BK351.out (by decide)) e_) hs_))
       have n8_ := Aside0.mk (Kd.R_mono (ok' := fun k_ => True) ho0 (fun k_ hk_ => trivial))
       have n9_ := Aside0.mk (hb)
       clear HO_333000
       clear HO_333001
       clear BK330
       clear BK331
       clear BK332
       clear BK347
       clear HO350
       clear BK351
       clear HB
       clear HO354
       have HO_333000 := n0_
       have HO_333001 := n1_
       have BK330 := n2_
       have BK331 := n3_
       have BK332 := n4_
       have BK347 := n5_
       have HO350 := n6_
       have BK351 := n7_
       have HO357 := n8_
       have HB := n9_
       clear n0_ n1_ n2_ n3_ n4_ n5_ n6_ n7_ n8_ n9_
       (try clear hb)
       (try clear hkp)
       (try clear ho0)
       obtain ⟨Ao85, co85, eo85⟩ := Kd.R_slice HO357.out
       (first | subst eo85 | (injection eo85 with f1_ f2_ f3_; have f4_ := f1_.symm; have f5_ := f3_.symm; clear f1_ f2_ f3_; subst f4_; subst f5_))
       refine hK.out _ _ ⟨(blk_cell BK351.out 0).trans rfl, (blk_cell BK351.out 1).trans rfl, (blk_cell BK351.out 2).trans rfl, (blk_cell BK351.out 3).trans rfl, (blk_cell BK351.out 4).trans rfl, (blk_cell BK351.out 5).trans rfl, (blk_cell BK347.out 0).trans rfl, (blk_cell BK347.out 1).trans rfl, (blk_cell BK347.out 2).trans rfl, (blk_cell BK347.out 3).trans rfl, (blk_cell BK347.out 4).trans rfl, (blk_cell BK347.out 5).trans rfl, (blk_cell BK347.out 6).trans rfl⟩ (fun hHeld => ?_)
       clear hK K
       refine norm_ (a' := ?_) ?_ ?_
       rotate_left
       ·show Act.put _ (some 106) _ = _
        simp only [Act.put, List.setIfInBounds_toArray, List.set_cons_zero, List.set_cons_succ, i64_w, i32_w]
        rfl
       refine pure_ (i := 9) (N := some 107) (v := ?_) (a' := ?_) (az [10, 1]) rfl rfl (any_of HT_.out (by kernel_rfl)) (fun _ _ _ h => h) (Or.inl ⟨by rfl, ?_⟩) ?_ ?_
       rotate_left
       ·intro w'
        go_simp
        with_reducible rfl
       rotate_left
       ·simp only [Act.put, List.setIfInBounds_toArray, List.set_cons_zero, List.set_cons_succ, i64_w, i32_w]
        rfl
       refine last_ (i := 10) (N := none) (az [11]) rfl rfl (one_of HT_.out (by kernel_rfl)) (by decide) (fun K hK => ?_)
       have hs86 : w84.cell? ⟨gb351, 3, none⟩ = some (.slice Ao77 t352.length co77) := (blk_cell BK351.out 3).trans rfl
       have hfs86 := blk_frozen BK351.out 3
       have hns86_0 := NB330_351.out
       have hns86_1 := NB331_351.out
       have hns86_2 := NB332_351.out
       have hns86_3 := NB347_351.out
       have hms86_0 := NB351_330.out
       have hms86_1 := NB351_331.out
       have hms86_2 := NB351_332.out
       have hms86_3 := NB351_347.out
       refine skip_ (w1 := ?_) (by rfl) rfl ?_ ?_
       rotate_left
       ·go_simp
        rfl
       refine hK.out _ _ ?_
       clear hK K
       refine done_ (done_of HT_.out (by kernel_rfl)) ?_
       try go_wp2
       go_meet
       case rel => exact ⟨_, (t355), (.slice Ao85 t355.length co85), H', ⟨by have := HK1.out; have := HK2.out; have := HJ39.out; first | omega | exact Nat.le_refl _⟩, ⟨by refine kq_R ?_; exact Kd.R_mono (Kd.R_far (p := ⟨gb351, 3, none⟩) (Kd.R_types HO_333000.out BK351.out (by decide)) (fun _ hk => hk.2) (.slice Ao85 t355.length co85)) (fun _ hk => trivial)⟩, ⟨by refine kq_S ?_; exact Kd.S_mono (Kd.S_far (p := ⟨gb351, 3, none⟩) (Kd.S_mono HO_333001.out (fun k_ hk => (⟨hk, hk.1⟩ : _ ∧ k_ ≠ gb351))) (fun _ hk => hk.2) (.slice Ao85 t355.length co85)) (fun _ hk => ⟨hk.1.2, hk.1.1⟩)⟩, ⟨by refine kq_R ?_; exact Kd.R_mono (Kd.R_far (p := ⟨gb351, 3, none⟩) (Kd.R_types HO357.out BK351.out (by decide)) (fun _ hk => hk.2) (.slice Ao85 t355.length co85)) (fun _ hk => trivial)⟩, ⟨by refine bkq ?_; refine blk_far ?_ NB330_351.out _; refine bkq ?_; exact BK330.out⟩, ⟨by refine bkq ?_; refine blk_far ?_ NB331_351.out _; refine bkq ?_; exact BK331.out⟩, ⟨by refine bkq ?_; refine blk_far ?_ NB332_351.out _; refine bkq ?_; exact BK332.out⟩, ⟨by refine bkq ?_; refine blk_far ?_ NB347_351.out _; refine bkq ?_; exact BK347.out⟩, ⟨by refine bkq ?_; refine blk_put (cs := #[.string (((⟨#[116]⟩ : ByteArray) ++ (strOfNums y348)) ++ (⟨#[46, 120]⟩ : ByteArray)), .int .i64 (wrap64 (Int.tmod ((rd_T60 l0_1 x7_2).f0) 5)), .int .i64 (wrap64 (Int.tmod ((rd_T60 l0_1 x7_2).f1) 3)), .slice Ao77 t352.length co77, .slice none 0 0, .slice none 0 0]) ?_ 3 _ rfl; refine bkq ?_; exact BK351.out⟩, ⟨hbq HB.out⟩⟩
      rw [if_neg c80] at H
      have c80b0 : ((Int.tmod ((rd_T60 l0_1 x7_2).f3) 3) == 0) = false := beq_eq_false_iff_ne.mpr c80
      have c80b1 : ((Int.tmod ((rd_T60 l0_1 x7_2).f3) 3) != 0) = true := bne_iff_ne.mpr c80
      (first | rw [c80b0] | (simp only [i64_w, i32_w]; rw [c80b0]) | skip)
      have H' := Aside0.mk H
      clear H
      go_wp2
      go_meet
      case rel => exact ⟨_, (t352), (.slice Ao77 t352.length co77), H', ⟨by have := HK1.out; have := HK2.out; have := HJ39.out; first | omega | exact Nat.le_refl _⟩, ⟨by refine kq_R ?_; exact Kd.R_mono (Kd.R_far (p := ⟨gb351, 3, none⟩) (Kd.R_types HO_333000.out BK351.out (by decide)) (fun _ hk => hk.2) (.slice Ao77 t352.length co77)) (fun _ hk => trivial)⟩, ⟨by refine kq_S ?_; exact Kd.S_mono (Kd.S_far (p := ⟨gb351, 3, none⟩) (Kd.S_mono HO_333001.out (fun k_ hk => (⟨hk, hk.1⟩ : _ ∧ k_ ≠ gb351))) (fun _ hk => hk.2) (.slice Ao77 t352.length co77)) (fun _ hk => ⟨hk.1.2, hk.1.1⟩)⟩, ⟨by refine kq_R ?_; exact Kd.R_mono (Kd.R_far (p := ⟨gb351, 3, none⟩) (Kd.R_types HO354.out BK351.out (by decide)) (fun _ hk => hk.2) (.slice Ao77 t352.length co77)) (fun _ hk => trivial)⟩, ⟨by refine bkq ?_; refine blk_far ?_ NB330_351.out _; refine bkq ?_; exact BK330.out⟩, ⟨by refine bkq ?_; refine blk_far ?_ NB331_351.out _; refine bkq ?_; exact BK331.out⟩, ⟨by refine bkq ?_; refine blk_far ?_ NB332_351.out _; refine bkq ?_; exact BK332.out⟩, ⟨by refine bkq ?_; refine blk_far ?_ NB347_351.out _; refine bkq ?_; exact BK347.out⟩, ⟨by refine bkq ?_; refine blk_put (cs := #[.string (((⟨#[116]⟩ : ByteArray) ++ (strOfNums y348)) ++ (⟨#[46, 120]⟩ : ByteArray)), .int .i64 (wrap64 (Int.tmod ((rd_T60 l0_1 x7_2).f0) 5)), .int .i64 (wrap64 (Int.tmod ((rd_T60 l0_1 x7_2).f1) 3)), .slice none 0 0, .slice none 0 0, .slice none 0 0]) ?_ 3 _ rfl; refine bkq ?_; exact BK351.out⟩, ⟨hbq HB.out⟩⟩
     clear HC55
     try clear c2
     try clear p2
     try clear p3
     try clear q3
     try clear hx3
     try clear c4
     try clear c5
     try clear c6
     try clear p6
     try clear hcv6
     try clear c7
     try clear c8
     try clear c23
     try clear p33
     try clear q33
     try clear hx33
     try clear p34
     try clear q34
     try clear hx34
     try clear c48
     try clear c49
     try clear c49b0
     try clear c50
     try clear c50b0
     try clear c51
     try clear c51b0
     try clear c51b1
     try clear c51b2
     try clear c52
     try clear c52b0
     try clear c52b1
     try clear c52b2
     try clear c53
     try clear c53b0
     try clear c53b1
     try clear c53b2
     try clear c56
     try clear c57
     try clear c60
     try clear c61
     try clear c62
     try clear p64
     try clear hcv66
     try clear c69
     try clear c70
     try clear c71
     try clear c72
     try clear c80
     try clear c80b0
     try clear c80b1
     try clear hcz33_0
     try clear hcz33_1
     try clear hcz36_0
     try clear hcz36_1
     try clear hcz38_0
     try clear hcz38_1
     try clear hcz44_0
     try clear hcz44_1
     try clear hcz47_0
     try clear hcz47_1
     try clear hcz58_0
     try clear hcz58_1
     try clear hcz63_0
     try clear hcz63_1
     try clear hcz63_2
     try clear hcz63_3
     try clear hcz63_4
     try clear hcz63_5
     try clear hcz63_6
     try clear hcz67_0
     try clear hcz67_1
     try clear hcz67_2
     try clear hcz67_3
     try clear hcz67_4
     try clear hcz67_5
     try clear hcz67_6
     try clear hcz73_0
     try clear hcz73_1
     try clear hcz73_2
     try clear hcz73_3
     try clear hcz73_4
     try clear hcz73_5
     try clear hcz79_0
     try clear hcz79_1
     try clear hcz79_2
     try clear hcz79_3
     try clear hcz79_4
     try clear hcz79_5
     try clear hcz79_6
     try clear hfz12_0
     try clear hfz12_1
     try clear hfz14_0
     try clear hfz14_1
     try clear hfz20_0
     try clear hfz20_1
     try clear hfz25_0
     try clear hfz25_1
     try clear hfz27_0
     try clear hfz27_1
     try clear hfz33_0
     try clear hfz33_1
     try clear hfz36_0
     try clear hfz36_1
     try clear hfz38_0
     try clear hfz38_1
     try clear hfz44_0
     try clear hfz44_1
     try clear hfz47_0
     try clear hfz47_1
     try clear hfz58_0
     try clear hfz58_1
     try clear hfz63_0
     try clear hfz63_1
     try clear hfz63_2
     try clear hfz63_3
     try clear hfz63_4
     try clear hfz63_5
     try clear hfz63_6
     try clear hfz67_0
     try clear hfz67_1
     try clear hfz67_2
     try clear hfz67_3
     try clear hfz67_4
     try clear hfz67_5
     try clear hfz67_6
     try clear hfz73_0
     try clear hfz73_1
     try clear hfz73_2
     try clear hfz73_3
     try clear hfz73_4
     try clear hfz73_5
     try clear hfz79_0
     try clear hfz79_1
     try clear hfz79_2
     try clear hfz79_3
     try clear hfz79_4
     try clear hfz79_5
     try clear hfz79_6
     try clear hx333_0
     try clear hx346_0
     try clear hx346_1
     try clear hx346_2
     try clear hx346_3
     try clear hx346_4
     try clear hx346_5
     try clear hx346_6
     try clear p2
     try clear p3
     try clear p33
     try clear p333
     try clear p346
     try clear p6
     try clear q3
     try clear q33
     try clear q333
     try clear q346
     obtain ⟨kq, x352003_54, u352003, HA, HJ54, HO_333000, HO_333001, HO_352003, BK330, BK331, BK332, BK347, BK351, HB⟩ := hcut
     cases kq with
     | zero => exact absurd HA.out (by simp [marblerunref05_Make.j3])
     | succ kj54 =>
      have H := HA.out
      clear HA
      simp only [marblerunref05_Make.j3] at H
      have HC87 := Aside0.mk H
      clear H
      have hnb88 := NB347_330.out
      have hnc88 := NB330_347.out
      have hnb89 := NB347_331.out
      have hnc89 := NB331_347.out
      have hnb90 := NB347_332.out
      have hnc90 := NB332_347.out
      have hnb91 := NB347_351.out
      have hnc91 := NB351_347.out
      have hcz92_0 : wc.cell? ⟨gb347, 0, none⟩ = some (.int .u8 ((rd_T60 l0_1 x7_2).f0)) := (blk_cell BK347.out 0).trans rfl
      have hcz92_1 : wc.cell? ⟨gb347, 1, none⟩ = some (.int .u8 ((rd_T60 l0_1 x7_2).f1)) := (blk_cell BK347.out 1).trans rfl
      have hcz92_2 : wc.cell? ⟨gb347, 2, none⟩ = some (.int .u8 ((rd_T60 l0_1 x7_2).f2)) := (blk_cell BK347.out 2).trans rfl
      have hcz92_3 : wc.cell? ⟨gb347, 3, none⟩ = some (.int .u8 ((rd_T60 l0_1 x7_2).f3)) := (blk_cell BK347.out 3).trans rfl
      have hcz92_4 : wc.cell? ⟨gb347, 4, none⟩ = some (.int .u8 ((rd_T60 l0_1 x7_2).f4)) := (blk_cell BK347.out 4).trans rfl
      have hcz92_5 : wc.cell? ⟨gb347, 5, none⟩ = some (.int .u8 ((rd_T60 l0_1 x7_2).f5)) := (blk_cell BK347.out 5).trans rfl
      have hcz92_6 : wc.cell? ⟨gb347, 6, none⟩ = some (.int .u8 ((rd_T60 l0_1 x7_2).f6)) := (blk_cell BK347.out 6).trans rfl
      have hfz92_0 := blk_frozen BK347.out 0
      have hfz92_1 := blk_frozen BK347.out 1
      have hfz92_2 := blk_frozen BK347.out 2
      have hfz92_3 := blk_frozen BK347.out 3
      have hfz92_4 := blk_frozen BK347.out 4
      have hfz92_5 := blk_frozen BK347.out 5
      have hfz92_6 := blk_frozen BK347.out 6
      go_upto_if 111 with (fail)
      go_cut [] (fun wc => ∃ (kq : Nat) (x352004_86 : List (S51)) (u352004 : Value), Aside0 (marblerunref05_Make.j4 kq (x333000_1.length : Int) x7_2 l0_0 l0_1 x333000_1 x333001_2 ((rd_T60 l0_1 x7_2).f0) ((rd_T60 l0_1 x7_2).f1) ((rd_T60 l0_1 x7_2).f2) ((rd_T60 l0_1 x7_2).f3) ((rd_T60 l0_1 x7_2).f4) ((rd_T60 l0_1 x7_2).f5) ((rd_T60 l0_1 x7_2).f6) (((⟨#[116]⟩ : ByteArray) ++ (strOfNums y348)) ++ (⟨#[46, 120]⟩ : ByteArray)) (wrap64 (Int.tmod ((rd_T60 l0_1 x7_2).f0) 5)) (wrap64 (Int.tmod ((rd_T60 l0_1 x7_2).f1) 3)) x352003_54 x352004_86 = some (r1, r2)) ∧ Aside0 (kq ≤ kj54) ∧ Aside0 (Kd.R k46 46 wc w.heap.size (fun _ => True) (.slice Ao39 x333000_1.length co39) x333000_1) ∧ Aside0 (Kd.S k54 54 wc w.heap.size (fun k_ => some k_ ≠ (u352003 : Value).ownBlock ∧ some k_ ≠ (u352004 : Value).ownBlock ∧ k_ ≠ gb351) u333001 x333001_2) ∧ Aside0 (Kd.R k51 51 wc w.heap.size (fun k_ => some k_ ≠ (u352004 : Value).ownBlock) u352003 x352003_54) ∧ Aside0 (Kd.R k51 51 wc w.heap.size (fun k_ => some k_ ≠ (u352003 : Value).ownBlock) u352004 x352004_86) ∧ Aside0 (wc.heap[gb330]? = some (.cells #[(.slice A0_0 l0_0.length c0_0), (.slice (some ad346) l0_1.length c0_1)] 25 (0, 0))) ∧ Aside0 (wc.heap[gb331]? = some (.cells #[(.slice none 0 0), (.slice none 0 0)] 31 (0, 0))) ∧ Aside0 (wc.heap[gb332]? = some (.cells #[(.slice Ao39 x333000_1.length co39), u333001] 31 (0, 0))) ∧ Aside0 (wc.heap[gb347]? = some (.cells #[.int .u8 ((rd_T60 l0_1 x7_2).f0), .int .u8 ((rd_T60 l0_1 x7_2).f1), .int .u8 ((rd_T60 l0_1 x7_2).f2), .int .u8 ((rd_T60 l0_1 x7_2).f3), .int .u8 ((rd_T60 l0_1 x7_2).f4), .int .u8 ((rd_T60 l0_1 x7_2).f5), .int .u8 ((rd_T60 l0_1 x7_2).f6)] 60 (0, 0))) ∧ Aside0 (wc.heap[gb351]? = some (.cells #[.string (((⟨#[116]⟩ : ByteArray) ++ (strOfNums y348)) ++ (⟨#[46, 120]⟩ : ByteArray)), .int .i64 (wrap64 (Int.tmod ((rd_T60 l0_1 x7_2).f0) 5)), .int .i64 (wrap64 (Int.tmod ((rd_T60 l0_1 x7_2).f1) 3)), u352003, u352004, (.slice none 0 0)] 54 (0, 0))) ∧ Aside0 (Below w.heap.size w wc))
      case first =>
       have H := HC87.out
       clear HC87
       by_cases c93 : (Int.tmod ((rd_T60 l0_1 x7_2).f4) 4) = 0
       ·rw [if_pos c93] at H
        have c93b0 : ((Int.tmod ((rd_T60 l0_1 x7_2).f4) 4) == 0) = true := beq_iff_eq.mpr c93
        have c93b1 : ((Int.tmod ((rd_T60 l0_1 x7_2).f4) 4) != 0) = false := bne_eq_false_iff_eq.mpr c93
        clear c93
        (first | rw [c93b0] | (simp only [i64_w, i32_w]; rw [c93b0]) | skip)
        by_cases c94 : (x333000_1.length : Int) = 0
        case pos => rw [if_pos c94] at H; exact absurd H (by simp)
        rw [if_neg c94] at H
        have c94b0 : ((x333000_1.length : Int) == 0) = false := beq_eq_false_iff_ne.mpr c94
        have c94b1 : ((x333000_1.length : Int) != 0) = true := bne_iff_ne.mpr c94
        have c94b2 : ¬ (x333000_1 = []) := fun h_ => c94 (by rw [h_]; rfl)
        replace H := Option.bind_eq_some_iff.mp H
        obtain ⟨t358, A950, H⟩ := H
        replace H : (marblerunref05_Make.j4 kj54 (x333000_1.length : Int) x7_2 l0_0 l0_1 x333000_1 x333001_2 ((rd_T60 l0_1 x7_2).f0) ((rd_T60 l0_1 x7_2).f1) ((rd_T60 l0_1 x7_2).f2) ((rd_T60 l0_1 x7_2).f3) ((rd_T60 l0_1 x7_2).f4) ((rd_T60 l0_1 x7_2).f5) ((rd_T60 l0_1 x7_2).f6) (((⟨#[116]⟩ : ByteArray) ++ (strOfNums y348)) ++ (⟨#[46, 120]⟩ : ByteArray)) (wrap64 (Int.tmod ((rd_T60 l0_1 x7_2).f0) 5)) (wrap64 (Int.tmod ((rd_T60 l0_1 x7_2).f1) 3)) x352003_54 t358) = some (r1, r2) := H
        have A95 := Aside0.mk A950
        clear A950
        have H' := Aside0.mk H
        clear H
        try go_wp2
        have n0_ := Aside0.mk (Kd.R_drew HO_333000.out)
        have n1_ := Aside0.mk (Kd.S_drew HO_333001.out)
        have n2_ := Aside0.mk (Kd.R_drew HO_352003.out)
        have n3_ := Aside0.mk (blk_drew BK330.out)
        have n4_ := Aside0.mk (blk_drew BK331.out)
        have n5_ := Aside0.mk (blk_drew BK332.out)
        have n6_ := Aside0.mk (blk_drew BK347.out)
        have n7_ := Aside0.mk (blk_drew BK351.out)
        have n8_ := Aside0.mk (below_drew1 HB.out)
        clear HO_333000
        clear HO_333001
        clear HO_352003
        clear BK330
        clear BK331
        clear BK332
        clear BK347
        clear BK351
        clear HB
        have HO_333000 := n0_
        have HO_333001 := n1_
        have HO_352003 := n2_
        have BK330 := n3_
        have BK331 := n4_
        have BK332 := n5_
        have BK347 := n6_
        have BK351 := n7_
        have HB := n8_
        clear n0_ n1_ n2_ n3_ n4_ n5_ n6_ n7_ n8_
        refine start_ (n := 16) (S := fun w' => w'.cell? ⟨gb351, 0, none⟩ = some (.string (((⟨#[116]⟩ : ByteArray) ++ (strOfNums y348)) ++ (⟨#[46, 120]⟩ : ByteArray))) ∧ w'.cell? ⟨gb351, 1, none⟩ = some (.int .i64 (wrap64 (Int.tmod ((rd_T60 l0_1 x7_2).f0) 5))) ∧ w'.cell? ⟨gb351, 2, none⟩ = some (.int .i64 (wrap64 (Int.tmod ((rd_T60 l0_1 x7_2).f1) 3))) ∧ w'.cell? ⟨gb351, 3, none⟩ = some (u352003) ∧ w'.cell? ⟨gb351, 4, none⟩ = some (.slice none 0 0) ∧ w'.cell? ⟨gb351, 5, none⟩ = some (.slice none 0 0) ∧ w'.cell? ⟨gb347, 0, none⟩ = some (.int .u8 ((rd_T60 l0_1 x7_2).f0)) ∧ w'.cell? ⟨gb347, 1, none⟩ = some (.int .u8 ((rd_T60 l0_1 x7_2).f1)) ∧ w'.cell? ⟨gb347, 2, none⟩ = some (.int .u8 ((rd_T60 l0_1 x7_2).f2)) ∧ w'.cell? ⟨gb347, 3, none⟩ = some (.int .u8 ((rd_T60 l0_1 x7_2).f3)) ∧ w'.cell? ⟨gb347, 4, none⟩ = some (.int .u8 ((rd_T60 l0_1 x7_2).f4)) ∧ w'.cell? ⟨gb347, 5, none⟩ = some (.int .u8 ((rd_T60 l0_1 x7_2).f5)) ∧ w'.cell? ⟨gb347, 6, none⟩ = some (.int .u8 ((rd_T60 l0_1 x7_2).f6))) (ds := [15]) (az [0, 16]) (by kernel_rfl) rfl rfl ⟨(blk_cell BK351.out 0).trans rfl, (blk_cell BK351.out 1).trans rfl, (blk_cell BK351.out 2).trans rfl, (blk_cell BK351.out 3).trans rfl, (blk_cell BK351.out 4).trans rfl, (blk_cell BK351.out 5).trans rfl, (blk_cell BK347.out 0).trans rfl, (blk_cell BK347.out 1).trans rfl, (blk_cell BK347.out 2).trans rfl, (blk_cell BK347.out 3).trans rfl, (blk_cell BK347.out 4).trans rfl, (blk_cell BK347.out 5).trans rfl, (blk_cell BK347.out 6).trans rfl⟩ (fun hHeld => ?_); refine with_tabW marblerunref05_Make.tab19 marblerunref05_Make.bits19 (fun HT_ HW_ => ?_)
        generalize wc.drew = w96 at HO_333000 HO_333001 HO_352003 BK330 BK331 BK332 BK347 BK351 HB hHeld ⊢
        refine pure_ (i := 0) (N := some 112) (v := ?_) (a' := ?_) (az [1, 15]) rfl rfl (any_of HT_.out (by kernel_rfl)) (fun _ _ _ h => h) (Or.inl ⟨by rfl, ?_⟩) ?_ ?_
        rotate_left
        ·intro w'
         go_simp
         with_reducible rfl
        rotate_left
        ·simp only [Act.put, List.setIfInBounds_toArray, List.set_cons_zero, List.set_cons_succ, i64_w, i32_w]
         rfl
        refine pure_ (i := 2) (N := some 114) (v := ?_) (a' := ?_) (az [1, 1, 1, 13]) rfl rfl (any_of HT_.out (by kernel_rfl)) (fun _ _ _ h => h) (Or.inl ⟨by rfl, ?_⟩) ?_ ?_
        rotate_left
        ·intro w'
         go_simp
         with_reducible rfl
        rotate_left
        ·simp only [Act.put, List.setIfInBounds_toArray, List.set_cons_zero, List.set_cons_succ, i64_w, i32_w]
         rfl
        refine pure_ (i := 6) (N := some 118) (v := ?_) (a' := ?_) (az [1, 1, 1, 3, 1, 9]) rfl rfl (any_of HT_.out (by kernel_rfl)) (fun _ _ _ h => h) (Or.inl ⟨by rfl, ?_⟩) ?_ ?_
        rotate_left
        ·intro w'
         go_simp
         with_reducible rfl
        rotate_left
        ·simp only [Act.put, List.setIfInBounds_toArray, List.set_cons_zero, List.set_cons_succ, i64_w, i32_w]
         rfl
        refine pure_ (i := 8) (N := some 120) (v := ?_) (a' := ?_) (az [1, 1, 1, 3, 1, 1, 1, 7]) rfl rfl (any_of HT_.out (by kernel_rfl)) (fun _ _ _ h => h) (Or.inl ⟨by rfl, ?_⟩) ?_ ?_
        rotate_left
        ·intro w'
         go_simp
         with_reducible rfl
        rotate_left
        ·simp only [Act.put, List.setIfInBounds_toArray, List.set_cons_zero, List.set_cons_succ, i64_w, i32_w]
         rfl
        refine take_ (i := 1) (N := some 113) (v := ?_) (a' := ?_) (az [3, 3, 1, 1, 1, 7]) rfl rfl (take_ofW HT_.out HW_.out (by kernel_rfl)) (fun _ _ _ h => h) (Or.inl ⟨by rfl, ?_⟩) hHeld ?_ ?_
        rotate_left
        ·rintro w' ⟨s0, s1, s2, s3, s4, s5, s6, s7, s8, s9, s10, s11, s12⟩
         go_simp
         with_reducible rfl
        rotate_left
        ·simp only [Act.put, List.setIfInBounds_toArray, List.set_cons_zero, List.set_cons_succ, i64_w, i32_w]
         rfl
        refine take_ (i := 3) (N := some 115) (v := ?_) (a' := ?_) (az [4, 2, 1, 1, 1, 7]) rfl rfl (take_ofW HT_.out HW_.out (by kernel_rfl)) (fun _ _ _ h => h) (Or.inl ⟨by rfl, ?_⟩) hHeld ?_ ?_
        rotate_left
        ·rintro w' ⟨s0, s1, s2, s3, s4, s5, s6, s7, s8, s9, s10, s11, s12⟩
         go_simp
         with_reducible rfl
        rotate_left
        ·simp only [Act.put, List.setIfInBounds_toArray, List.set_cons_zero, List.set_cons_succ, i64_w, i32_w]
         rfl
        refine pure_ (i := 4) (N := some 116) (v := ?_) (a' := ?_) (az [5, 1, 1, 1, 1, 7]) rfl rfl (any_of HT_.out (by kernel_rfl)) (fun _ _ _ h => h) (Or.inl ⟨by rfl, ?_⟩) ?_ ?_
        rotate_left
        ·intro w'
         go_simp
         with_reducible rfl
        rotate_left
        ·simp only [Act.put, List.setIfInBounds_toArray, List.set_cons_zero, List.set_cons_succ, i64_w, i32_w]
         rfl
        refine pure_ (i := 5) (N := some 117) (v := ?_) (a' := ?_) (az [7, 1, 1, 7]) rfl rfl (any_of HT_.out (by kernel_rfl)) (fun _ _ _ h => h) (Or.inl ⟨by rfl, ?_⟩) ?_ ?_
        rotate_left
        ·intro w'
         go_simp
         with_reducible rfl
        rotate_left
        ·simp only [Act.put, List.setIfInBounds_toArray, List.set_cons_zero, List.set_cons_succ, i64_w, i32_w]
         rfl
        refine pure_ (i := 7) (N := some 119) (v := ?_) (a' := ?_) (az [9, 7]) rfl rfl (any_of HT_.out (by kernel_rfl)) (fun _ _ _ h => h) (Or.inl ⟨by rfl, ?_⟩) ?_ ?_
        rotate_left
        ·intro w'
         go_simp
         with_reducible rfl
        rotate_left
        ·simp only [Act.put, List.setIfInBounds_toArray, List.set_cons_zero, List.set_cons_succ, i64_w, i32_w]
         rfl
        refine take_ (i := 9) (N := some 121) (v := ?_) (a' := ?_) (az [10, 6]) rfl rfl (take_ofW HT_.out HW_.out (by kernel_rfl)) (fun _ _ _ h => h) (Or.inl ⟨by rfl, ?_⟩) hHeld ?_ ?_
        rotate_left
        ·rintro w' ⟨s0, s1, s2, s3, s4, s5, s6, s7, s8, s9, s10, s11, s12⟩
         go_simp
         with_reducible rfl
        rotate_left
        ·simp only [Act.put, List.setIfInBounds_toArray, List.set_cons_zero, List.set_cons_succ, i64_w, i32_w]
         rfl
        refine pure_ (i := 10) (N := some 122) (v := ?_) (a' := ?_) (az [11, 5]) rfl rfl (any_of HT_.out (by kernel_rfl)) (fun _ _ _ h => h) (Or.inl ⟨by rfl, ?_⟩) ?_ ?_
        rotate_left
        ·intro w'
         go_simp
         with_reducible rfl
        rotate_left
        ·simp only [Act.put, List.setIfInBounds_toArray, List.set_cons_zero, List.set_cons_succ, i64_w, i32_w]
         rfl
        refine pure_ (i := 11) (N := some 123) (v := ?_) (a' := ?_) (az [12, 4]) rfl rfl (any_of HT_.out (by kernel_rfl)) (fun _ _ _ h => h) (Or.inl ⟨by rfl, ?_⟩) ?_ ?_
        rotate_left
        ·intro w'
         go_simp
         with_reducible rfl
        rotate_left
        ·simp only [Act.put, List.setIfInBounds_toArray, List.set_cons_zero, List.set_cons_succ, i64_w, i32_w]
         rfl
        refine pure_ (i := 12) (N := some 124) (v := ?_) (a' := ?_) (az [13, 3]) rfl rfl (any_of HT_.out (by kernel_rfl)) (fun _ _ _ h => h) (Or.inl ⟨by rfl, ?_⟩) ?_ ?_
        rotate_left
        ·intro w'
         go_simp
         with_reducible rfl
        rotate_left
        ·simp only [Act.put, List.setIfInBounds_toArray, List.set_cons_zero, List.set_cons_succ, i64_w, i32_w]
         rfl
        refine one_ (i := 13) (N := some 125) (az [14, 2]) rfl rfl (one_of HT_.out (by kernel_rfl)) (by decide) (fun K hK => ?_)
        refine goes_ Try.func23 (by kernel_rfl) rfl #[.slice none 0 0, .int .i64 (((Int.tdiv ((rd_T60 l0_1 x7_2).f4) 4) % 256) % (x333000_1.length : Int)), .int .i64 (1 + ((Int.tdiv ((rd_T60 l0_1 x7_2).f4) 64) % 256))] (by rfl) rfl rfl (by (try simp only [List.map_toArray, List.map_cons, List.map_nil]); first | done | rfl | (simp only [List.length_drop, List.length_take]; rfl) | (go_simp; simp only [u8a, u8b, u8b2, u8c, u8d, u8e, and_self])) ?_
        refine (marblerunref05_put.calls kj54 (fun k_ => some k_ = (.slice none 0 0 : Value).ownBlock) (.slice none 0 0) ([] : List (S51)) (((Int.tdiv ((rd_T60 l0_1 x7_2).f4) 4) % 256) % (x333000_1.length : Int)) (1 + ((Int.tdiv ((rd_T60 l0_1 x7_2).f4) 64) % 256)) t358 w _ ?side1 ?side2 A95.out).mono ?_
        (case side1 => repeat (first | (with_reducible first | exact HB.out | apply below_alloc | apply pw_below_drewN | apply below_drew1 | refine below_set ?_ GE330.out | refine below_set ?_ GE331.out | refine below_set ?_ GE332.out | refine below_set ?_ GE347.out | refine below_set ?_ GE351.out) | exact HB.out))
        (case side2 => exact Kd.R_nil _ _ _ _ _)
        rintro e w97 ⟨v359, rfl, ho0, hb, hkp⟩
        refine ⟨_, rfl, ?_⟩
        have n0_ := Aside0.mk (Kd.R_mono (ok' := fun k_ => True) (Kd.R_keptB (HO_333000.out) hkp (fun k_ hk_ hs_ => (fun e_ => by simp [Value.ownBlock] at e_) hs_)) (fun k_ hk_ => trivial))
        have n1_ := Aside0.mk (Kd.S_mono (ok' := fun k_ => some k_ ≠ (u352003 : Value).ownBlock ∧ k_ ≠ gb351 ∧ some k_ ≠ (v359 : Value).ownBlock) (Kd.S_keptB (HO_333001.out) hkp (fun k_ hk_ hs_ => (fun e_ => by simp [Value.ownBlock] at e_) hs_)) (fun k_ hk_ => ⟨hk_.1.1, hk_.1.2, fun e_ => Or.elim (ho0.1 k_ e_.symm) (fun hs_ => hk_.2.1 hs_) (fun hn_ => Nat.not_le.2 hk_.2.2 hn_)⟩))
        have n2_ := Aside0.mk (Kd.R_mono (ok' := fun k_ => some k_ ≠ (v359 : Value).ownBlock) (Kd.R_keptB (HO_352003.out) hkp (fun k_ hk_ hs_ => (fun e_ => by simp [Value.ownBlock] at e_) hs_)) (fun k_ hk_ => fun e_ => Or.elim (ho0.1 k_ e_.symm) (fun hs_ => hk_.2.1 hs_) (fun hn_ => Nat.not_le.2 hk_.2.2 hn_)))
        have n3_ := Aside0.mk (blk_kept (bkq BK330.out) hkp (fun hs_ => (fun e_ => by simp [Value.ownBlock] at e_) hs_))
        have n4_ := Aside0.mk (blk_kept (bkq BK331.out) hkp (fun hs_ => (fun e_ => by simp [Value.ownBlock] at e_) hs_))
        have n5_ := Aside0.mk (blk_kept (bkq BK332.out) hkp (fun hs_ => (fun e_ => by simp [Value.ownBlock] at e_) hs_))
        have n6_ := Aside0.mk (blk_kept (bkq BK347.out) hkp (fun hs_ => (fun e_ => by simp [Value.ownBlock] at e_) hs_))
        have n7_ := Aside0.mk (blk_kept (bkq BK351.out) hkp (fun hs_ => (fun e_ => by simp [Value.ownBlock] at e_) hs_))
        have n8_ := Aside0.mk (Kd.R_mono (ok' := fun k_ => some k_ ≠ (u352003 : Value).ownBlock) ho0 (fun k_ hk_ => Or.elim hk_ (fun hs_ => absurd hs_ (by simp [Value.ownBlock])) (fun hn_ => (Kd.fresh' (Kd.R_lt (kq_R HO_352003.out)) k_ hn_))))
        have n9_ := Aside0.mk (hb)
        clear HO_333000
        clear HO_333001
        clear HO_352003
        clear BK330
        clear BK331
        clear BK332
        clear BK347
        clear BK351
        clear HB
        have HO_333000 := n0_
        have HO_333001 := n1_
        have HO_352003 := n2_
        have BK330 := n3_
        have BK331 := n4_
        have BK332 := n5_
        have BK347 := n6_
        have BK351 := n7_
        have HO360 := n8_
        have HB := n9_
        clear n0_ n1_ n2_ n3_ n4_ n5_ n6_ n7_ n8_ n9_
        (try clear hb)
        (try clear hkp)
        (try clear ho0)
        obtain ⟨Ao98, co98, eo98⟩ := Kd.R_slice HO360.out
        (first | subst eo98 | (injection eo98 with f1_ f2_ f3_; have f4_ := f1_.symm; have f5_ := f3_.symm; clear f1_ f2_ f3_; subst f4_; subst f5_))
        refine hK.out _ _ ⟨(blk_cell BK351.out 0).trans rfl, (blk_cell BK351.out 1).trans rfl, (blk_cell BK351.out 2).trans rfl, (blk_cell BK351.out 3).trans rfl, (blk_cell BK351.out 4).trans rfl, (blk_cell BK351.out 5).trans rfl, (blk_cell BK347.out 0).trans rfl, (blk_cell BK347.out 1).trans rfl, (blk_cell BK347.out 2).trans rfl, (blk_cell BK347.out 3).trans rfl, (blk_cell BK347.out 4).trans rfl, (blk_cell BK347.out 5).trans rfl, (blk_cell BK347.out 6).trans rfl⟩ (fun hHeld => ?_)
        clear hK K
        refine norm_ (a' := ?_) ?_ ?_
        rotate_left
        ·show Act.put _ (some 125) _ = _
         simp only [Act.put, List.setIfInBounds_toArray, List.set_cons_zero, List.set_cons_succ, i64_w, i32_w]
         rfl
        refine pure_ (i := 14) (N := some 126) (v := ?_) (a' := ?_) (az [15, 1]) rfl rfl (any_of HT_.out (by kernel_rfl)) (fun _ _ _ h => h) (Or.inl ⟨by rfl, ?_⟩) ?_ ?_
        rotate_left
        ·intro w'
         go_simp
         with_reducible rfl
        rotate_left
        ·simp only [Act.put, List.setIfInBounds_toArray, List.set_cons_zero, List.set_cons_succ, i64_w, i32_w]
         rfl
        refine last_ (i := 15) (N := none) (az [16]) rfl rfl (one_of HT_.out (by kernel_rfl)) (by decide) (fun K hK => ?_)
        have hs99 : w97.cell? ⟨gb351, 4, none⟩ = some (.slice none 0 0) := (blk_cell BK351.out 4).trans rfl
        have hfs99 := blk_frozen BK351.out 4
        have hns99_0 := NB330_351.out
        have hns99_1 := NB331_351.out
        have hns99_2 := NB332_351.out
        have hns99_3 := NB347_351.out
        have hms99_0 := NB351_330.out
        have hms99_1 := NB351_331.out
        have hms99_2 := NB351_332.out
        have hms99_3 := NB351_347.out
        refine skip_ (w1 := ?_) (by rfl) rfl ?_ ?_
        rotate_left
        ·go_simp
         rfl
        refine hK.out _ _ ?_
        clear hK K
        refine done_ (done_of HT_.out (by kernel_rfl)) ?_
        try go_wp2
        go_meet
        case rel => exact ⟨_, (t358), (.slice Ao98 t358.length co98), H', ⟨by have := HK1.out; have := HK2.out; have := HJ39.out; have := HJ54.out; first | omega | exact Nat.le_refl _⟩, ⟨by refine kq_R ?_; exact Kd.R_mono (Kd.R_far (p := ⟨gb351, 4, none⟩) (Kd.R_types HO_333000.out BK351.out (by decide)) (fun _ hk => hk.2) (.slice Ao98 t358.length co98)) (fun _ hk => trivial)⟩, ⟨by refine kq_S ?_; exact Kd.S_mono (Kd.S_far (p := ⟨gb351, 4, none⟩) (Kd.S_mono HO_333001.out (fun k_ hk => (⟨hk, hk.2.1⟩ : _ ∧ k_ ≠ gb351))) (fun _ hk => hk.2) (.slice Ao98 t358.length co98)) (fun _ hk => ⟨hk.1.1, ⟨hk.1.2.2, hk.1.2.1⟩⟩)⟩, ⟨by refine kq_R ?_; exact Kd.R_mono (Kd.R_far (p := ⟨gb351, 4, none⟩) (Kd.R_types HO_352003.out BK351.out (by decide)) (fun _ hk => hk.2) (.slice Ao98 t358.length co98)) (fun _ hk => hk.1)⟩, ⟨by refine kq_R ?_; exact Kd.R_mono (Kd.R_far (p := ⟨gb351, 4, none⟩) (Kd.R_types HO360.out BK351.out (by decide)) (fun _ hk => hk.2) (.slice Ao98 t358.length co98)) (fun _ hk => hk.1)⟩, ⟨by refine bkq ?_; refine blk_far ?_ NB330_351.out _; refine bkq ?_; exact BK330.out⟩, ⟨by refine bkq ?_; refine blk_far ?_ NB331_351.out _; refine bkq ?_; exact BK331.out⟩, ⟨by refine bkq ?_; refine blk_far ?_ NB332_351.out _; refine bkq ?_; exact BK332.out⟩, ⟨by refine bkq ?_; refine blk_far ?_ NB347_351.out _; refine bkq ?_; exact BK347.out⟩, ⟨by refine bkq ?_; refine blk_put (cs := #[.string (((⟨#[116]⟩ : ByteArray) ++ (strOfNums y348)) ++ (⟨#[46, 120]⟩ : ByteArray)), .int .i64 (wrap64 (Int.tmod ((rd_T60 l0_1 x7_2).f0) 5)), .int .i64 (wrap64 (Int.tmod ((rd_T60 l0_1 x7_2).f1) 3)), u352003, .slice none 0 0, .slice none 0 0]) ?_ 4 _ rfl; refine bkq ?_; exact BK351.out⟩, ⟨hbq HB.out⟩⟩
       rw [if_neg c93] at H
       have c93b0 : ((Int.tmod ((rd_T60 l0_1 x7_2).f4) 4) == 0) = false := beq_eq_false_iff_ne.mpr c93
       have c93b1 : ((Int.tmod ((rd_T60 l0_1 x7_2).f4) 4) != 0) = true := bne_iff_ne.mpr c93
       (first | rw [c93b0] | (simp only [i64_w, i32_w]; rw [c93b0]) | skip)
       have H' := Aside0.mk H
       clear H
       go_wp2
       go_meet
       case rel => exact ⟨_, (([] : List (S51))), (.slice none 0 0), H', ⟨by have := HK1.out; have := HK2.out; have := HJ39.out; have := HJ54.out; first | omega | exact Nat.le_refl _⟩, ⟨by refine kq_R ?_; exact HO_333000.out⟩, ⟨by refine kq_S ?_; exact Kd.S_mono HO_333001.out (fun _ hk => ⟨hk.1, ⟨(by simp [Value.ownBlock]), hk.2⟩⟩)⟩, ⟨by refine kq_R ?_; exact Kd.R_mono HO_352003.out (fun _ hk => (by simp [Value.ownBlock]))⟩, ⟨by first | exact Kd.R_nil _ _ _ _ _ | exact Kd.N_nil _ _ _ _ _ | exact Kd.V_nil _ _ _ _ _ | exact Kd.Q_nil _ _ _ _ _ | exact Kd.S_nil _ _ _ _ _⟩, ⟨by refine bkq ?_; exact BK330.out⟩, ⟨by refine bkq ?_; exact BK331.out⟩, ⟨by refine bkq ?_; exact BK332.out⟩, ⟨by refine bkq ?_; exact BK347.out⟩, ⟨by refine bkq ?_; exact BK351.out⟩, ⟨hbq HB.out⟩⟩
      clear HC87
      try clear c2
      try clear p2
      try clear p3
      try clear q3
      try clear hx3
      try clear c4
      try clear c5
      try clear c6
      try clear p6
      try clear hcv6
      try clear c7
      try clear c8
      try clear c9
      try clear c23
      try clear p33
      try clear q33
      try clear hx33
      try clear p34
      try clear q34
      try clear hx34
      try clear c48
      try clear c49
      try clear c49b0
      try clear c50
      try clear c50b0
      try clear c51
      try clear c51b0
      try clear c51b1
      try clear c51b2
      try clear c52
      try clear c52b0
      try clear c52b1
      try clear c52b2
      try clear c53
      try clear c53b0
      try clear c53b1
      try clear c53b2
      try clear c56
      try clear c57
      try clear c60
      try clear c61
      try clear c62
      try clear p64
      try clear hcv66
      try clear c69
      try clear c70
      try clear c71
      try clear c72
      try clear c80
      try clear c80b0
      try clear c80b1
      try clear c88
      try clear c89
      try clear c90
      try clear c91
      try clear c93
      try clear c93b0
      try clear c93b1
      try clear c94
      try clear c94b0
      try clear c94b1
      try clear c94b2
      try clear hcz33_0
      try clear hcz33_1
      try clear hcz36_0
      try clear hcz36_1
      try clear hcz38_0
      try clear hcz38_1
      try clear hcz44_0
      try clear hcz44_1
      try clear hcz47_0
      try clear hcz47_1
      try clear hcz58_0
      try clear hcz58_1
      try clear hcz63_0
      try clear hcz63_1
      try clear hcz63_2
      try clear hcz63_3
      try clear hcz63_4
      try clear hcz63_5
      try clear hcz63_6
      try clear hcz67_0
      try clear hcz67_1
      try clear hcz67_2
      try clear hcz67_3
      try clear hcz67_4
      try clear hcz67_5
      try clear hcz67_6
      try clear hcz73_0
      try clear hcz73_1
      try clear hcz73_2
      try clear hcz73_3
      try clear hcz73_4
      try clear hcz73_5
      try clear hcz79_0
      try clear hcz79_1
      try clear hcz79_2
      try clear hcz79_3
      try clear hcz79_4
      try clear hcz79_5
      try clear hcz79_6
      try clear hcz92_0
      try clear hcz92_1
      try clear hcz92_2
      try clear hcz92_3
      try clear hcz92_4
      try clear hcz92_5
      try clear hcz92_6
      try clear hfz12_0
      try clear hfz12_1
      try clear hfz14_0
      try clear hfz14_1
      try clear hfz20_0
      try clear hfz20_1
      try clear hfz25_0
      try clear hfz25_1
      try clear hfz27_0
      try clear hfz27_1
      try clear hfz33_0
      try clear hfz33_1
      try clear hfz36_0
      try clear hfz36_1
      try clear hfz38_0
      try clear hfz38_1
      try clear hfz44_0
      try clear hfz44_1
      try clear hfz47_0
      try clear hfz47_1
      try clear hfz58_0
      try clear hfz58_1
      try clear hfz63_0
      try clear hfz63_1
      try clear hfz63_2
      try clear hfz63_3
      try clear hfz63_4
      try clear hfz63_5
      try clear hfz63_6
      try clear hfz67_0
      try clear hfz67_1
      try clear hfz67_2
      try clear hfz67_3
      try clear hfz67_4
      try clear hfz67_5
      try clear hfz67_6
      try clear hfz73_0
      try clear hfz73_1
      try clear hfz73_2
      try clear hfz73_3
      try clear hfz73_4
      try clear hfz73_5
      try clear hfz79_0
      try clear hfz79_1
      try clear hfz79_2
      try clear hfz79_3
      try clear hfz79_4
      try clear hfz79_5
      try clear hfz79_6
      try clear hfz92_0
      try clear hfz92_1
      try clear hfz92_2
      try clear hfz92_3
      try clear hfz92_4
      try clear hfz92_5
      try clear hfz92_6
      try clear hx333_0
      try clear hx346_0
      try clear hx346_1
      try clear hx346_2
      try clear hx346_3
      try clear hx346_4
      try clear hx346_5
      try clear hx346_6
      try clear p2
      try clear p3
      try clear p33
      try clear p333
      try clear p34
      try clear p346
      try clear p6
      try clear p64
      try clear q3
      try clear q33
      try clear q333
      try clear q34
      try clear q346
      obtain ⟨kq, x352004_86, u352004, HA, HJ86, HO_333000, HO_333001, HO_352003, HO_352004, BK330, BK331, BK332, BK347, BK351, HB⟩ := hcut
      cases kq with
      | zero => exact absurd HA.out (by simp [marblerunref05_Make.j4])
      | succ kj86 =>
       have H := HA.out
       clear HA
       simp only [marblerunref05_Make.j4] at H
       have HC100 := Aside0.mk H
       clear H
       have hnb101 := NB347_330.out
       have hnc101 := NB330_347.out
       have hnb102 := NB347_331.out
       have hnc102 := NB331_347.out
       have hnb103 := NB347_332.out
       have hnc103 := NB332_347.out
       have hnb104 := NB347_351.out
       have hnc104 := NB351_347.out
       have hcz105_0 : wc.cell? ⟨gb347, 0, none⟩ = some (.int .u8 ((rd_T60 l0_1 x7_2).f0)) := (blk_cell BK347.out 0).trans rfl
       have hcz105_1 : wc.cell? ⟨gb347, 1, none⟩ = some (.int .u8 ((rd_T60 l0_1 x7_2).f1)) := (blk_cell BK347.out 1).trans rfl
       have hcz105_2 : wc.cell? ⟨gb347, 2, none⟩ = some (.int .u8 ((rd_T60 l0_1 x7_2).f2)) := (blk_cell BK347.out 2).trans rfl
       have hcz105_3 : wc.cell? ⟨gb347, 3, none⟩ = some (.int .u8 ((rd_T60 l0_1 x7_2).f3)) := (blk_cell BK347.out 3).trans rfl
       have hcz105_4 : wc.cell? ⟨gb347, 4, none⟩ = some (.int .u8 ((rd_T60 l0_1 x7_2).f4)) := (blk_cell BK347.out 4).trans rfl
       have hcz105_5 : wc.cell? ⟨gb347, 5, none⟩ = some (.int .u8 ((rd_T60 l0_1 x7_2).f5)) := (blk_cell BK347.out 5).trans rfl
       have hcz105_6 : wc.cell? ⟨gb347, 6, none⟩ = some (.int .u8 ((rd_T60 l0_1 x7_2).f6)) := (blk_cell BK347.out 6).trans rfl
       have hfz105_0 := blk_frozen BK347.out 0
       have hfz105_1 := blk_frozen BK347.out 1
       have hfz105_2 := blk_frozen BK347.out 2
       have hfz105_3 := blk_frozen BK347.out 3
       have hfz105_4 := blk_frozen BK347.out 4
       have hfz105_5 := blk_frozen BK347.out 5
       have hfz105_6 := blk_frozen BK347.out 6
       go_upto_if 130 with (fail)
       go_cut [] (fun wc => ∃ (kq : Nat) (x352005_99 : List (S51)) (u352005 : Value), Aside0 (marblerunref05_Make.j5 kq (x333000_1.length : Int) x7_2 l0_0 l0_1 x333000_1 x333001_2 ((rd_T60 l0_1 x7_2).f0) ((rd_T60 l0_1 x7_2).f1) ((rd_T60 l0_1 x7_2).f2) ((rd_T60 l0_1 x7_2).f3) ((rd_T60 l0_1 x7_2).f4) ((rd_T60 l0_1 x7_2).f5) ((rd_T60 l0_1 x7_2).f6) (((⟨#[116]⟩ : ByteArray) ++ (strOfNums y348)) ++ (⟨#[46, 120]⟩ : ByteArray)) (wrap64 (Int.tmod ((rd_T60 l0_1 x7_2).f0) 5)) (wrap64 (Int.tmod ((rd_T60 l0_1 x7_2).f1) 3)) x352003_54 x352004_86 x352005_99 = some (r1, r2)) ∧ Aside0 (kq ≤ kj86) ∧ Aside0 (Kd.R k46 46 wc w.heap.size (fun _ => True) (.slice Ao39 x333000_1.length co39) x333000_1) ∧ Aside0 (Kd.S k54 54 wc w.heap.size (fun k_ => some k_ ≠ (u352003 : Value).ownBlock ∧ some k_ ≠ (u352004 : Value).ownBlock ∧ some k_ ≠ (u352005 : Value).ownBlock ∧ k_ ≠ gb351) u333001 x333001_2) ∧ Aside0 (Kd.R k51 51 wc w.heap.size (fun k_ => some k_ ≠ (u352004 : Value).ownBlock ∧ some k_ ≠ (u352005 : Value).ownBlock) u352003 x352003_54) ∧ Aside0 (Kd.R k51 51 wc w.heap.size (fun k_ => some k_ ≠ (u352003 : Value).ownBlock ∧ some k_ ≠ (u352005 : Value).ownBlock) u352004 x352004_86) ∧ Aside0 (Kd.R k51 51 wc w.heap.size (fun k_ => some k_ ≠ (u352003 : Value).ownBlock ∧ some k_ ≠ (u352004 : Value).ownBlock) u352005 x352005_99) ∧ Aside0 (wc.heap[gb330]? = some (.cells #[(.slice A0_0 l0_0.length c0_0), (.slice (some ad346) l0_1.length c0_1)] 25 (0, 0))) ∧ Aside0 (wc.heap[gb331]? = some (.cells #[(.slice none 0 0), (.slice none 0 0)] 31 (0, 0))) ∧ Aside0 (wc.heap[gb332]? = some (.cells #[(.slice Ao39 x333000_1.length co39), u333001] 31 (0, 0))) ∧ Aside0 (wc.heap[gb347]? = some (.cells #[.int .u8 ((rd_T60 l0_1 x7_2).f0), .int .u8 ((rd_T60 l0_1 x7_2).f1), .int .u8 ((rd_T60 l0_1 x7_2).f2), .int .u8 ((rd_T60 l0_1 x7_2).f3), .int .u8 ((rd_T60 l0_1 x7_2).f4), .int .u8 ((rd_T60 l0_1 x7_2).f5), .int .u8 ((rd_T60 l0_1 x7_2).f6)] 60 (0, 0))) ∧ Aside0 (wc.heap[gb351]? = some (.cells #[.string (((⟨#[116]⟩ : ByteArray) ++ (strOfNums y348)) ++ (⟨#[46, 120]⟩ : ByteArray)), .int .i64 (wrap64 (Int.tmod ((rd_T60 l0_1 x7_2).f0) 5)), .int .i64 (wrap64 (Int.tmod ((rd_T60 l0_1 x7_2).f1) 3)), u352003, u352004, u352005] 54 (0, 0))) ∧ Aside0 (Below w.heap.size w wc))
       case first =>
        have H := HC100.out
        clear HC100
        by_cases c106 : (Int.tmod ((rd_T60 l0_1 x7_2).f5) 5) > 0
        ·rw [if_pos c106] at H
         have c106b0 : decide (0 < (Int.tmod ((rd_T60 l0_1 x7_2).f5) 5)) = true := decide_eq_true c106
         clear c106
         (first | rw [c106b0] | (simp only [i64_w, i32_w]; rw [c106b0]) | skip)
         by_cases c107 : (x333000_1.length : Int) = 0
         case pos => rw [if_pos c107] at H; exact absurd H (by simp)
         rw [if_neg c107] at H
         have c107b0 : ((x333000_1.length : Int) == 0) = false := beq_eq_false_iff_ne.mpr c107
         have c107b1 : ((x333000_1.length : Int) != 0) = true := bne_iff_ne.mpr c107
         have c107b2 : ¬ (x333000_1 = []) := fun h_ => c107 (by rw [h_]; rfl)
         replace H := Option.bind_eq_some_iff.mp H
         obtain ⟨t361, A1080, H⟩ := H
         replace H : (marblerunref05_Make.j5 kj86 (x333000_1.length : Int) x7_2 l0_0 l0_1 x333000_1 x333001_2 ((rd_T60 l0_1 x7_2).f0) ((rd_T60 l0_1 x7_2).f1) ((rd_T60 l0_1 x7_2).f2) ((rd_T60 l0_1 x7_2).f3) ((rd_T60 l0_1 x7_2).f4) ((rd_T60 l0_1 x7_2).f5) ((rd_T60 l0_1 x7_2).f6) (((⟨#[116]⟩ : ByteArray) ++ (strOfNums y348)) ++ (⟨#[46, 120]⟩ : ByteArray)) (wrap64 (Int.tmod ((rd_T60 l0_1 x7_2).f0) 5)) (wrap64 (Int.tmod ((rd_T60 l0_1 x7_2).f1) 3)) x352003_54 x352004_86 t361) = some (r1, r2) := H
         have A108 := Aside0.mk A1080
         clear A1080
         have H' := Aside0.mk H
         clear H
         try go_wp2
         have n0_ := Aside0.mk (Kd.R_drew HO_333000.out)
         have n1_ := Aside0.mk (Kd.S_drew HO_333001.out)
         have n2_ := Aside0.mk (Kd.R_drew HO_352003.out)
         have n3_ := Aside0.mk (Kd.R_drew HO_352004.out)
         have n4_ := Aside0.mk (blk_drew BK330.out)
         have n5_ := Aside0.mk (blk_drew BK331.out)
         have n6_ := Aside0.mk (blk_drew BK332.out)
         have n7_ := Aside0.mk (blk_drew BK347.out)
         have n8_ := Aside0.mk (blk_drew BK351.out)
         have n9_ := Aside0.mk (below_drew1 HB.out)
         clear HO_333000
         clear HO_333001
         clear HO_352003
         clear HO_352004
         clear BK330
         clear BK331
         clear BK332
         clear BK347
         clear BK351
         clear HB
         have HO_333000 := n0_
         have HO_333001 := n1_
         have HO_352003 := n2_
         have HO_352004 := n3_
         have BK330 := n4_
         have BK331 := n5_
         have BK332 := n6_
         have BK347 := n7_
         have BK351 := n8_
         have HB := n9_
         clear n0_ n1_ n2_ n3_ n4_ n5_ n6_ n7_ n8_ n9_
         refine start_ (n := 16) (S := fun w' => w'.cell? ⟨gb351, 0, none⟩ = some (.string (((⟨#[116]⟩ : ByteArray) ++ (strOfNums y348)) ++ (⟨#[46, 120]⟩ : ByteArray))) ∧ w'.cell? ⟨gb351, 1, none⟩ = some (.int .i64 (wrap64 (Int.tmod ((rd_T60 l0_1 x7_2).f0) 5))) ∧ w'.cell? ⟨gb351, 2, none⟩ = some (.int .i64 (wrap64 (Int.tmod ((rd_T60 l0_1 x7_2).f1) 3))) ∧ w'.cell? ⟨gb351, 3, none⟩ = some (u352003) ∧ w'.cell? ⟨gb351, 4, none⟩ = some (u352004) ∧ w'.cell? ⟨gb351, 5, none⟩ = some (.slice none 0 0) ∧ w'.cell? ⟨gb347, 0, none⟩ = some (.int .u8 ((rd_T60 l0_1 x7_2).f0)) ∧ w'.cell? ⟨gb347, 1, none⟩ = some (.int .u8 ((rd_T60 l0_1 x7_2).f1)) ∧ w'.cell? ⟨gb347, 2, none⟩ = some (.int .u8 ((rd_T60 l0_1 x7_2).f2)) ∧ w'.cell? ⟨gb347, 3, none⟩ = some (.int .u8 ((rd_T60 l0_1 x7_2).f3)) ∧ w'.cell? ⟨gb347, 4, none⟩ = some (.int .u8 ((rd_T60 l0_1 x7_2).f4)) ∧ w'.cell? ⟨gb347, 5, none⟩ = some (.int .u8 ((rd_T60 l0_1 x7_2).f5)) ∧ w'.cell? ⟨gb347, 6, none⟩ = some (.int .u8 ((rd_T60 l0_1 x7_2).f6))) (ds := [15]) (az [0, 16]) (by kernel_rfl) rfl rfl ⟨(blk_cell BK351.out 0).trans rfl, (blk_cell BK351.out 1).trans rfl, (blk_cell BK351.out 2).trans rfl, (blk_cell BK351.out 3).trans rfl, (blk_cell BK351.out 4).trans rfl, (blk_cell BK351.out 5).trans rfl, (blk_cell BK347.out 0).trans rfl, (blk_cell BK347.out 1).trans rfl, (blk_cell BK347.out 2).trans rfl, (blk_cell BK347.out 3).trans rfl, (blk_cell BK347.out 4).trans rfl, (blk_cell BK347.out 5).trans rfl, (blk_cell BK347.out 6).trans rfl⟩ (fun hHeld => ?_); refine with_tabW marblerunref05_Make.tab21 marblerunref05_Make.bits21 (fun HT_ HW_ => ?_)
         generalize wc.drew = w109 at HO_333000 HO_333001 HO_352003 HO_352004 BK330 BK331 BK332 BK347 BK351 HB hHeld ⊢
         refine pure_ (i := 0) (N := some 131) (v := ?_) (a' := ?_) (az [1, 15]) rfl rfl (any_of HT_.out (by kernel_rfl)) (fun _ _ _ h => h) (Or.inl ⟨by rfl, ?_⟩) ?_ ?_
         rotate_left
         ·intro w'
          go_simp
          with_reducible rfl
         rotate_left
         ·simp only [Act.put, List.setIfInBounds_toArray, List.set_cons_zero, List.set_cons_succ, i64_w, i32_w]
          rfl
         refine pure_ (i := 2) (N := some 133) (v := ?_) (a' := ?_) (az [1, 1, 1, 13]) rfl rfl (any_of HT_.out (by kernel_rfl)) (fun _ _ _ h => h) (Or.inl ⟨by rfl, ?_⟩) ?_ ?_
         rotate_left
         ·intro w'
          go_simp
          with_reducible rfl
         rotate_left
         ·simp only [Act.put, List.setIfInBounds_toArray, List.set_cons_zero, List.set_cons_succ, i64_w, i32_w]
          rfl
         refine pure_ (i := 6) (N := some 137) (v := ?_) (a' := ?_) (az [1, 1, 1, 3, 1, 9]) rfl rfl (any_of HT_.out (by kernel_rfl)) (fun _ _ _ h => h) (Or.inl ⟨by rfl, ?_⟩) ?_ ?_
         rotate_left
         ·intro w'
          go_simp
          with_reducible rfl
         rotate_left
         ·simp only [Act.put, List.setIfInBounds_toArray, List.set_cons_zero, List.set_cons_succ, i64_w, i32_w]
          rfl
         refine pure_ (i := 8) (N := some 139) (v := ?_) (a' := ?_) (az [1, 1, 1, 3, 1, 1, 1, 7]) rfl rfl (any_of HT_.out (by kernel_rfl)) (fun _ _ _ h => h) (Or.inl ⟨by rfl, ?_⟩) ?_ ?_
         rotate_left
         ·intro w'
          go_simp
          with_reducible rfl
         rotate_left
         ·simp only [Act.put, List.setIfInBounds_toArray, List.set_cons_zero, List.set_cons_succ, i64_w, i32_w]
          rfl
         refine take_ (i := 1) (N := some 132) (v := ?_) (a' := ?_) (az [3, 3, 1, 1, 1, 7]) rfl rfl (take_ofW HT_.out HW_.out (by kernel_rfl)) (fun _ _ _ h => h) (Or.inl ⟨by rfl, ?_⟩) hHeld ?_ ?_
         rotate_left
         ·rintro w' ⟨s0, s1, s2, s3, s4, s5, s6, s7, s8, s9, s10, s11, s12⟩
          go_simp
          with_reducible rfl
         rotate_left
         ·simp only [Act.put, List.setIfInBounds_toArray, List.set_cons_zero, List.set_cons_succ, i64_w, i32_w]
          rfl
         refine take_ (i := 3) (N := some 134) (v := ?_) (a' := ?_) (az [4, 2, 1, 1, 1, 7]) rfl rfl (take_ofW HT_.out HW_.out (by kernel_rfl)) (fun _ _ _ h => h) (Or.inl ⟨by rfl, ?_⟩) hHeld ?_ ?_
         rotate_left
         ·rintro w' ⟨s0, s1, s2, s3, s4, s5, s6, s7, s8, s9, s10, s11, s12⟩
          go_simp
          with_reducible rfl
         rotate_left
         ·simp only [Act.put, List.setIfInBounds_toArray, List.set_cons_zero, List.set_cons_succ, i64_w, i32_w]
          rfl
         refine pure_ (i := 4) (N := some 135) (v := ?_) (a' := ?_) (az [5, 1, 1, 1, 1, 7]) rfl rfl (any_of HT_.out (by kernel_rfl)) (fun _ _ _ h => h) (Or.inl ⟨by rfl, ?_⟩) ?_ ?_
         rotate_left
         ·intro w'
          go_simp
          with_reducible rfl
         rotate_left
         ·simp only [Act.put, List.setIfInBounds_toArray, List.set_cons_zero, List.set_cons_succ, i64_w, i32_w]
          rfl
         refine pure_ (i := 5) (N := some 136) (v := ?_) (a' := ?_) (az [7, 1, 1, 7]) rfl rfl (any_of HT_.out (by kernel_rfl)) (fun _ _ _ h => h) (Or.inl ⟨by rfl, ?_⟩) ?_ ?_
         rotate_left
         ·intro w'
          go_simp
          with_reducible rfl
         rotate_left
         ·simp only [Act.put, List.setIfInBounds_toArray, List.set_cons_zero, List.set_cons_succ, i64_w, i32_w]
          rfl
         refine pure_ (i := 7) (N := some 138) (v := ?_) (a' := ?_) (az [9, 7]) rfl rfl (any_of HT_.out (by kernel_rfl)) (fun _ _ _ h => h) (Or.inl ⟨by rfl, ?_⟩) ?_ ?_
         rotate_left
         ·intro w'
          go_simp
          with_reducible rfl
         rotate_left
         ·simp only [Act.put, List.setIfInBounds_toArray, List.set_cons_zero, List.set_cons_succ, i64_w, i32_w]
          rfl
         refine take_ (i := 9) (N := some 140) (v := ?_) (a' := ?_) (az [10, 6]) rfl rfl (take_ofW HT_.out HW_.out (by kernel_rfl)) (fun _ _ _ h => h) (Or.inl ⟨by rfl, ?_⟩) hHeld ?_ ?_
         rotate_left
         ·rintro w' ⟨s0, s1, s2, s3, s4, s5, s6, s7, s8, s9, s10, s11, s12⟩
          go_simp
          with_reducible rfl
         rotate_left
         ·simp only [Act.put, List.setIfInBounds_toArray, List.set_cons_zero, List.set_cons_succ, i64_w, i32_w]
          rfl
         refine pure_ (i := 10) (N := some 141) (v := ?_) (a' := ?_) (az [11, 5]) rfl rfl (any_of HT_.out (by kernel_rfl)) (fun _ _ _ h => h) (Or.inl ⟨by rfl, ?_⟩) ?_ ?_
         rotate_left
         ·intro w'
          go_simp
          with_reducible rfl
         rotate_left
         ·simp only [Act.put, List.setIfInBounds_toArray, List.set_cons_zero, List.set_cons_succ, i64_w, i32_w]
          rfl
         refine pure_ (i := 11) (N := some 142) (v := ?_) (a' := ?_) (az [12, 4]) rfl rfl (any_of HT_.out (by kernel_rfl)) (fun _ _ _ h => h) (Or.inl ⟨by rfl, ?_⟩) ?_ ?_
         rotate_left
         ·intro w'
          go_simp
          with_reducible rfl
         rotate_left
         ·simp only [Act.put, List.setIfInBounds_toArray, List.set_cons_zero, List.set_cons_succ, i64_w, i32_w]
          rfl
         refine pure_ (i := 12) (N := some 143) (v := ?_) (a' := ?_) (az [13, 3]) rfl rfl (any_of HT_.out (by kernel_rfl)) (fun _ _ _ h => h) (Or.inl ⟨by rfl, ?_⟩) ?_ ?_
         rotate_left
         ·intro w'
          go_simp
          with_reducible rfl
         rotate_left
         ·simp only [Act.put, List.setIfInBounds_toArray, List.set_cons_zero, List.set_cons_succ, i64_w, i32_w]
          rfl
         refine one_ (i := 13) (N := some 144) (az [14, 2]) rfl rfl (one_of HT_.out (by kernel_rfl)) (by decide) (fun K hK => ?_)
         refine goes_ Try.func23 (by kernel_rfl) rfl #[.slice none 0 0, .int .i64 (((Int.tdiv ((rd_T60 l0_1 x7_2).f5) 5) % 256) % (x333000_1.length : Int)), .int .i64 (1 + ((Int.tdiv ((rd_T60 l0_1 x7_2).f5) 128) % 256))] (by rfl) rfl rfl (by (try simp only [List.map_toArray, List.map_cons, List.map_nil]); first | done | rfl | (simp only [List.length_drop, List.length_take]; rfl) | (go_simp; simp only [u8a, u8b, u8b2, u8c, u8d, u8e, and_self])) ?_
         refine (marblerunref05_put.calls kj86 (fun k_ => some k_ = (.slice none 0 0 : Value).ownBlock) (.slice none 0 0) ([] : List (S51)) (((Int.tdiv ((rd_T60 l0_1 x7_2).f5) 5) % 256) % (x333000_1.length : Int)) (1 + ((Int.tdiv ((rd_T60 l0_1 x7_2).f5) 128) % 256)) t361 w _ ?side1 ?side2 A108.out).mono ?_
         (case side1 => repeat (first | (with_reducible first | exact HB.out | apply below_alloc | apply pw_below_drewN | apply below_drew1 | refine below_set ?_ GE330.out | refine below_set ?_ GE331.out | refine below_set ?_ GE332.out | refine below_set ?_ GE347.out | refine below_set ?_ GE351.out) | exact HB.out))
         (case side2 => exact Kd.R_nil _ _ _ _ _)
         rintro e w110 ⟨v362, rfl, ho0, hb, hkp⟩
         refine ⟨_, rfl, ?_⟩
         have n0_ := Aside0.mk (Kd.R_mono (ok' := fun k_ => True) (Kd.R_keptB (HO_333000.out) hkp (fun k_ hk_ hs_ => (fun e_ => by simp [Value.ownBlock] at e_) hs_)) (fun k_ hk_ => trivial))
         have n1_ := Aside0.mk (Kd.S_mono (ok' := fun k_ => some k_ ≠ (u352003 : Value).ownBlock ∧ some k_ ≠ (u352004 : Value).ownBlock ∧ k_ ≠ gb351 ∧ some k_ ≠ (v362 : Value).ownBlock) (Kd.S_keptB (HO_333001.out) hkp (fun k_ hk_ hs_ => (fun e_ => by simp [Value.ownBlock] at e_) hs_)) (fun k_ hk_ => ⟨hk_.1.1, hk_.1.2.1, hk_.1.2.2, fun e_ => Or.elim (ho0.1 k_ e_.symm) (fun hs_ => hk_.2.1 hs_) (fun hn_ => Nat.not_le.2 hk_.2.2 hn_)⟩))
         have n2_ := Aside0.mk (Kd.R_mono (ok' := fun k_ => some k_ ≠ (u352004 : Value).ownBlock ∧ some k_ ≠ (v362 : Value).ownBlock) (Kd.R_keptB (HO_352003.out) hkp (fun k_ hk_ hs_ => (fun e_ => by simp [Value.ownBlock] at e_) hs_)) (fun k_ hk_ => ⟨hk_.1, fun e_ => Or.elim (ho0.1 k_ e_.symm) (fun hs_ => hk_.2.1 hs_) (fun hn_ => Nat.not_le.2 hk_.2.2 hn_)⟩))
         have n3_ := Aside0.mk (Kd.R_mono (ok' := fun k_ => some k_ ≠ (u352003 : Value).ownBlock ∧ some k_ ≠ (v362 : Value).ownBlock) (Kd.R_keptB (HO_352004.out) hkp (fun k_ hk_ hs_ => (fun e_ => by simp [Value.ownBlock] at e_) hs_)) (fun k_ hk_ => ⟨hk_.1, fun e_ => Or.elim (ho0.1 k_ e_.symm) (fun hs_ => hk_.2.1 hs_) (fun hn_ => Nat.not_le.2 hk_.2.2 hn_)⟩))
         have n4_ := Aside0.mk (blk_kept (bkq BK330.out) hkp (fun hs_ => (fun e_ => by simp [Value.ownBlock] at e_) hs_))
         have n5_ := Aside0.mk (blk_kept (bkq BK331.out) hkp (fun hs_ => (fun e_ => by simp [Value.ownBlock] at e_) hs_))
         have n6_ := Aside0.mk (blk_kept (bkq BK332.out) hkp (fun hs_ => (fun e_ => by simp [Value.ownBlock] at e_) hs_))
         have n7_ := Aside0.mk (blk_kept (bkq BK347.out) hkp (fun hs_ => (fun e_ => by simp [Value.ownBlock] at e_) hs_))
         have n8_ := Aside0.mk (blk_kept (bkq BK351.out) hkp (fun hs_ => (fun e_ => by simp [Value.ownBlock] at e_) hs_))
         have n9_ := Aside0.mk (Kd.R_mono (ok' := fun k_ => some k_ ≠ (u352003 : Value).ownBlock ∧ some k_ ≠ (u352004 : Value).ownBlock) ho0 (fun k_ hk_ => ⟨Or.elim hk_ (fun hs_ => absurd hs_ (by simp [Value.ownBlock])) (fun hn_ => (Kd.fresh' (Kd.R_lt (kq_R HO_352003.out)) k_ hn_)), Or.elim hk_ (fun hs_ => absurd hs_ (by simp [Value.ownBlock])) (fun hn_ => (Kd.fresh' (Kd.R_lt (kq_R HO_352004.out)) k_ hn_))⟩))
         have n10_ := Aside0.mk (hb)
         clear HO_333000
         clear HO_333001
         clear HO_352003
         clear HO_352004
         clear BK330
         clear BK331
         clear BK332
         clear BK347
         clear BK351
         clear HB
         have HO_333000 := n0_
         have HO_333001 := n1_
         have HO_352003 := n2_
         have HO_352004 := n3_
         have BK330 := n4_
         have BK331 := n5_
         have BK332 := n6_
         have BK347 := n7_
         have BK351 := n8_
         have HO363 := n9_
         have HB := n10_
         clear n0_ n1_ n2_ n3_ n4_ n5_ n6_ n7_ n8_ n9_ n10_
         (try clear hb)
         (try clear hkp)
         (try clear ho0)
         obtain ⟨Ao111, co111, eo111⟩ := Kd.R_slice HO363.out
         (first | subst eo111 | (injection eo111 with f1_ f2_ f3_; have f4_ := f1_.symm; have f5_ := f3_.symm; clear f1_ f2_ f3_; subst f4_; subst f5_))
         refine hK.out _ _ ⟨(blk_cell BK351.out 0).trans rfl, (blk_cell BK351.out 1).trans rfl, (blk_cell BK351.out 2).trans rfl, (blk_cell BK351.out 3).trans rfl, (blk_cell BK351.out 4).trans rfl, (blk_cell BK351.out 5).trans rfl, (blk_cell BK347.out 0).trans rfl, (blk_cell BK347.out 1).trans rfl, (blk_cell BK347.out 2).trans rfl, (blk_cell BK347.out 3).trans rfl, (blk_cell BK347.out 4).trans rfl, (blk_cell BK347.out 5).trans rfl, (blk_cell BK347.out 6).trans rfl⟩ (fun hHeld => ?_)
         clear hK K
         refine norm_ (a' := ?_) ?_ ?_
         rotate_left
         ·show Act.put _ (some 144) _ = _
          simp only [Act.put, List.setIfInBounds_toArray, List.set_cons_zero, List.set_cons_succ, i64_w, i32_w]
          rfl
         refine pure_ (i := 14) (N := some 145) (v := ?_) (a' := ?_) (az [15, 1]) rfl rfl (any_of HT_.out (by kernel_rfl)) (fun _ _ _ h => h) (Or.inl ⟨by rfl, ?_⟩) ?_ ?_
         rotate_left
         ·intro w'
          go_simp
          with_reducible rfl
         rotate_left
         ·simp only [Act.put, List.setIfInBounds_toArray, List.set_cons_zero, List.set_cons_succ, i64_w, i32_w]
          rfl
         refine last_ (i := 15) (N := none) (az [16]) rfl rfl (one_of HT_.out (by kernel_rfl)) (by decide) (fun K hK => ?_)
         have hs112 : w110.cell? ⟨gb351, 5, none⟩ = some (.slice none 0 0) := (blk_cell BK351.out 5).trans rfl
         have hfs112 := blk_frozen BK351.out 5
         have hns112_0 := NB330_351.out
         have hns112_1 := NB331_351.out
         have hns112_2 := NB332_351.out
         have hns112_3 := NB347_351.out
         have hms112_0 := NB351_330.out
         have hms112_1 := NB351_331.out
         have hms112_2 := NB351_332.out
         have hms112_3 := NB351_347.out
         refine skip_ (w1 := ?_) (by rfl) rfl ?_ ?_
         rotate_left
         ·go_simp
          rfl
         refine hK.out _ _ ?_
         clear hK K
         refine done_ (done_of HT_.out (by kernel_rfl)) ?_
         try go_wp2
         go_meet
         case rel => exact ⟨_, (t361), (.slice Ao111 t361.length co111), H', ⟨by have := HK1.out; have := HK2.out; have := HJ39.out; have := HJ54.out; have := HJ86.out; first | omega | exact Nat.le_refl _⟩, ⟨by refine kq_R ?_; exact Kd.R_mono (Kd.R_far (p := ⟨gb351, 5, none⟩) (Kd.R_types HO_333000.out BK351.out (by decide)) (fun _ hk => hk.2) (.slice Ao111 t361.length co111)) (fun _ hk => trivial)⟩, ⟨by refine kq_S ?_; exact Kd.S_mono (Kd.S_far (p := ⟨gb351, 5, none⟩) (Kd.S_mono HO_333001.out (fun k_ hk => (⟨hk, hk.2.2.1⟩ : _ ∧ k_ ≠ gb351))) (fun _ hk => hk.2) (.slice Ao111 t361.length co111)) (fun _ hk => ⟨hk.1.1, ⟨hk.1.2.1, ⟨hk.1.2.2.2, hk.1.2.2.1⟩⟩⟩)⟩, ⟨by refine kq_R ?_; exact Kd.R_mono (Kd.R_far (p := ⟨gb351, 5, none⟩) (Kd.R_types HO_352003.out BK351.out (by decide)) (fun _ hk => hk.2) (.slice Ao111 t361.length co111)) (fun _ hk => ⟨hk.1.1, hk.1.2⟩)⟩, ⟨by refine kq_R ?_; exact Kd.R_mono (Kd.R_far (p := ⟨gb351, 5, none⟩) (Kd.R_types HO_352004.out BK351.out (by decide)) (fun _ hk => hk.2) (.slice Ao111 t361.length co111)) (fun _ hk => ⟨hk.1.1, hk.1.2⟩)⟩, ⟨by refine kq_R ?_; exact Kd.R_mono (Kd.R_far (p := ⟨gb351, 5, none⟩) (Kd.R_types HO363.out BK351.out (by decide)) (fun _ hk => hk.2) (.slice Ao111 t361.length co111)) (fun _ hk => ⟨hk.1.1, hk.1.2⟩)⟩, ⟨by refine bkq ?_; refine blk_far ?_ NB330_351.out _; refine bkq ?_; exact BK330.out⟩, ⟨by refine bkq ?_; refine blk_far ?_ NB331_351.out _; refine bkq ?_; exact BK331.out⟩, ⟨by refine bkq ?_; refine blk_far ?_ NB332_351.out _; refine bkq ?_; exact BK332.out⟩, ⟨by refine bkq ?_; refine blk_far ?_ NB347_351.out _; refine bkq ?_; exact BK347.out⟩, ⟨by refine bkq ?_; refine blk_put (cs := #[.string (((⟨#[116]⟩ : ByteArray) ++ (strOfNums y348)) ++ (⟨#[46, 120]⟩ : ByteArray)), .int .i64 (wrap64 (Int.tmod ((rd_T60 l0_1 x7_2).f0) 5)), .int .i64 (wrap64 (Int.tmod ((rd_T60 l0_1 x7_2).f1) 3)), u352003, u352004, .slice none 0 0]) ?_ 5 _ rfl; refine bkq ?_; exact BK351.out⟩, ⟨hbq HB.out⟩⟩
        rw [if_neg c106] at H
        have c106b0 : decide (0 < (Int.tmod ((rd_T60 l0_1 x7_2).f5) 5)) = false := decide_eq_false c106
        clear c106
        (first | rw [c106b0] | (simp only [i64_w, i32_w]; rw [c106b0]) | skip)
        have H' := Aside0.mk H
        clear H
        go_wp2
        go_meet
        case rel => exact ⟨_, (([] : List (S51))), (.slice none 0 0), H', ⟨by have := HK1.out; have := HK2.out; have := HJ39.out; have := HJ54.out; have := HJ86.out; first | omega | exact Nat.le_refl _⟩, ⟨by refine kq_R ?_; exact HO_333000.out⟩, ⟨by refine kq_S ?_; exact Kd.S_mono HO_333001.out (fun _ hk => ⟨hk.1, ⟨hk.2.1, ⟨(by simp [Value.ownBlock]), hk.2.2⟩⟩⟩)⟩, ⟨by refine kq_R ?_; exact Kd.R_mono HO_352003.out (fun _ hk => ⟨hk, (by simp [Value.ownBlock])⟩)⟩, ⟨by refine kq_R ?_; exact Kd.R_mono HO_352004.out (fun _ hk => ⟨hk, (by simp [Value.ownBlock])⟩)⟩, ⟨by first | exact Kd.R_nil _ _ _ _ _ | exact Kd.N_nil _ _ _ _ _ | exact Kd.V_nil _ _ _ _ _ | exact Kd.Q_nil _ _ _ _ _ | exact Kd.S_nil _ _ _ _ _⟩, ⟨by refine bkq ?_; exact BK330.out⟩, ⟨by refine bkq ?_; exact BK331.out⟩, ⟨by refine bkq ?_; exact BK332.out⟩, ⟨by refine bkq ?_; exact BK347.out⟩, ⟨by refine bkq ?_; exact BK351.out⟩, ⟨hbq HB.out⟩⟩
       clear HC100
       try clear c1
       try clear c2
       try clear p2
       try clear p3
       try clear q3
       try clear hx3
       try clear c4
       try clear c5
       try clear c6
       try clear p6
       try clear hcv6
       try clear c7
       try clear c8
       try clear c9
       try clear c10
       try clear c23
       try clear p33
       try clear q33
       try clear hx33
       try clear p34
       try clear q34
       try clear hx34
       try clear c48
       try clear c49
       try clear c49b0
       try clear c50
       try clear c50b0
       try clear c51
       try clear c51b0
       try clear c51b1
       try clear c51b2
       try clear c52
       try clear c52b0
       try clear c52b1
       try clear c52b2
       try clear c53
       try clear c53b0
       try clear c53b1
       try clear c53b2
       try clear c56
       try clear c57
       try clear c60
       try clear c61
       try clear c62
       try clear p64
       try clear hcv66
       try clear c69
       try clear c70
       try clear c71
       try clear c72
       try clear c80
       try clear c80b0
       try clear c80b1
       try clear c88
       try clear c89
       try clear c90
       try clear c91
       try clear c93
       try clear c93b0
       try clear c93b1
       try clear c94
       try clear c94b0
       try clear c94b1
       try clear c94b2
       try clear c101
       try clear c102
       try clear c103
       try clear c104
       try clear c106
       try clear c106b0
       try clear c107
       try clear c107b0
       try clear c107b1
       try clear c107b2
       try clear hcz105_0
       try clear hcz105_1
       try clear hcz105_2
       try clear hcz105_3
       try clear hcz105_4
       try clear hcz105_5
       try clear hcz105_6
       try clear hcz33_0
       try clear hcz33_1
       try clear hcz36_0
       try clear hcz36_1
       try clear hcz38_0
       try clear hcz38_1
       try clear hcz44_0
       try clear hcz44_1
       try clear hcz47_0
       try clear hcz47_1
       try clear hcz58_0
       try clear hcz58_1
       try clear hcz63_0
       try clear hcz63_1
       try clear hcz63_2
       try clear hcz63_3
       try clear hcz63_4
       try clear hcz63_5
       try clear hcz63_6
       try clear hcz67_0
       try clear hcz67_1
       try clear hcz67_2
       try clear hcz67_3
       try clear hcz67_4
       try clear hcz67_5
       try clear hcz67_6
       try clear hcz73_0
       try clear hcz73_1
       try clear hcz73_2
       try clear hcz73_3
       try clear hcz73_4
       try clear hcz73_5
       try clear hcz79_0
       try clear hcz79_1
       try clear hcz79_2
       try clear hcz79_3
       try clear hcz79_4
       try clear hcz79_5
       try clear hcz79_6
       try clear hcz92_0
       try clear hcz92_1
       try clear hcz92_2
       try clear hcz92_3
       try clear hcz92_4
       try clear hcz92_5
       try clear hcz92_6
       try clear hfz105_0
       try clear hfz105_1
       try clear hfz105_2
       try clear hfz105_3
       try clear hfz105_4
       try clear hfz105_5
       try clear hfz105_6
       try clear hfz12_0
       try clear hfz12_1
       try clear hfz14_0
       try clear hfz14_1
       try clear hfz20_0
       try clear hfz20_1
       try clear hfz25_0
       try clear hfz25_1
       try clear hfz27_0
       try clear hfz27_1
       try clear hfz33_0
       try clear hfz33_1
       try clear hfz36_0
       try clear hfz36_1
       try clear hfz38_0
       try clear hfz38_1
       try clear hfz44_0
       try clear hfz44_1
       try clear hfz47_0
       try clear hfz47_1
       try clear hfz58_0
       try clear hfz58_1
       try clear hfz63_0
       try clear hfz63_1
       try clear hfz63_2
       try clear hfz63_3
       try clear hfz63_4
       try clear hfz63_5
       try clear hfz63_6
       try clear hfz67_0
       try clear hfz67_1
       try clear hfz67_2
       try clear hfz67_3
       try clear hfz67_4
       try clear hfz67_5
       try clear hfz67_6
       try clear hfz73_0
       try clear hfz73_1
       try clear hfz73_2
       try clear hfz73_3
       try clear hfz73_4
       try clear hfz73_5
       try clear hfz79_0
       try clear hfz79_1
       try clear hfz79_2
       try clear hfz79_3
       try clear hfz79_4
       try clear hfz79_5
       try clear hfz79_6
       try clear hfz92_0
       try clear hfz92_1
       try clear hfz92_2
       try clear hfz92_3
       try clear hfz92_4
       try clear hfz92_5
       try clear hfz92_6
       try clear hx333_0
       try clear hx346_0
       try clear hx346_1
       try clear hx346_2
       try clear hx346_3
       try clear hx346_4
       try clear hx346_5
       try clear hx346_6
       try clear p2
       try clear p3
       try clear p33
       try clear p333
       try clear p34
       try clear p346
       try clear p6
       try clear p64
       try clear q3
       try clear q33
       try clear q333
       try clear q34
       try clear q346
       obtain ⟨kq, x352005_99, u352005, HA, HJ99, HO_333000, HO_333001, HO_352003, HO_352004, HO_352005, BK330, BK331, BK332, BK347, BK351, HB⟩ := hcut
       cases kq with
       | zero => exact absurd HA.out (by simp [marblerunref05_Make.j5])
       | succ kj99 =>
        have H := HA.out
        clear HA
        simp only [marblerunref05_Make.j5] at H
        have HC113 := Aside0.mk H
        clear H
        have hnb114 := NB347_330.out
        have hnc114 := NB330_347.out
        have hnb115 := NB347_331.out
        have hnc115 := NB331_347.out
        have hnb116 := NB347_332.out
        have hnc116 := NB332_347.out
        have hnb117 := NB347_351.out
        have hnc117 := NB351_347.out
        have hcz118_0 : wc.cell? ⟨gb347, 0, none⟩ = some (.int .u8 ((rd_T60 l0_1 x7_2).f0)) := (blk_cell BK347.out 0).trans rfl
        have hcz118_1 : wc.cell? ⟨gb347, 1, none⟩ = some (.int .u8 ((rd_T60 l0_1 x7_2).f1)) := (blk_cell BK347.out 1).trans rfl
        have hcz118_2 : wc.cell? ⟨gb347, 2, none⟩ = some (.int .u8 ((rd_T60 l0_1 x7_2).f2)) := (blk_cell BK347.out 2).trans rfl
        have hcz118_3 : wc.cell? ⟨gb347, 3, none⟩ = some (.int .u8 ((rd_T60 l0_1 x7_2).f3)) := (blk_cell BK347.out 3).trans rfl
        have hcz118_4 : wc.cell? ⟨gb347, 4, none⟩ = some (.int .u8 ((rd_T60 l0_1 x7_2).f4)) := (blk_cell BK347.out 4).trans rfl
        have hcz118_5 : wc.cell? ⟨gb347, 5, none⟩ = some (.int .u8 ((rd_T60 l0_1 x7_2).f5)) := (blk_cell BK347.out 5).trans rfl
        have hcz118_6 : wc.cell? ⟨gb347, 6, none⟩ = some (.int .u8 ((rd_T60 l0_1 x7_2).f6)) := (blk_cell BK347.out 6).trans rfl
        have hfz118_0 := blk_frozen BK347.out 0
        have hfz118_1 := blk_frozen BK347.out 1
        have hfz118_2 := blk_frozen BK347.out 2
        have hfz118_3 := blk_frozen BK347.out 3
        have hfz118_4 := blk_frozen BK347.out 4
        have hfz118_5 := blk_frozen BK347.out 5
        have hfz118_6 := blk_frozen BK347.out 6
        go_upto_if 149 with (fail)
        go_cut [] (fun wc => ∃ (kq : Nat) (x352005_112 : List (S51)) (u352005 : Value), Aside0 (marblerunref05_Make.j6 kq (x333000_1.length : Int) x7_2 l0_0 l0_1 x333000_1 x333001_2 ((rd_T60 l0_1 x7_2).f0) ((rd_T60 l0_1 x7_2).f1) ((rd_T60 l0_1 x7_2).f2) ((rd_T60 l0_1 x7_2).f3) ((rd_T60 l0_1 x7_2).f4) ((rd_T60 l0_1 x7_2).f5) ((rd_T60 l0_1 x7_2).f6) (((⟨#[116]⟩ : ByteArray) ++ (strOfNums y348)) ++ (⟨#[46, 120]⟩ : ByteArray)) (wrap64 (Int.tmod ((rd_T60 l0_1 x7_2).f0) 5)) (wrap64 (Int.tmod ((rd_T60 l0_1 x7_2).f1) 3)) x352003_54 x352004_86 x352005_112 = some (r1, r2)) ∧ Aside0 (kq ≤ kj99) ∧ Aside0 (Kd.R k46 46 wc w.heap.size (fun _ => True) (.slice Ao39 x333000_1.length co39) x333000_1) ∧ Aside0 (Kd.S k54 54 wc w.heap.size (fun k_ => some k_ ≠ (u352003 : Value).ownBlock ∧ some k_ ≠ (u352004 : Value).ownBlock ∧ some k_ ≠ (u352005 : Value).ownBlock ∧ k_ ≠ gb351) u333001 x333001_2) ∧ Aside0 (Kd.R k51 51 wc w.heap.size (fun k_ => some k_ ≠ (u352004 : Value).ownBlock ∧ some k_ ≠ (u352005 : Value).ownBlock) u352003 x352003_54) ∧ Aside0 (Kd.R k51 51 wc w.heap.size (fun k_ => some k_ ≠ (u352003 : Value).ownBlock ∧ some k_ ≠ (u352005 : Value).ownBlock) u352004 x352004_86) ∧ Aside0 (Kd.R k51 51 wc w.heap.size (fun k_ => some k_ ≠ (u352003 : Value).ownBlock ∧ some k_ ≠ (u352004 : Value).ownBlock) u352005 x352005_112) ∧ Aside0 (wc.heap[gb330]? = some (.cells #[(.slice A0_0 l0_0.length c0_0), (.slice (some ad346) l0_1.length c0_1)] 25 (0, 0))) ∧ Aside0 (wc.heap[gb331]? = some (.cells #[(.slice none 0 0), (.slice none 0 0)] 31 (0, 0))) ∧ Aside0 (wc.heap[gb332]? = some (.cells #[(.slice Ao39 x333000_1.length co39), u333001] 31 (0, 0))) ∧ Aside0 (wc.heap[gb347]? = some (.cells #[.int .u8 ((rd_T60 l0_1 x7_2).f0), .int .u8 ((rd_T60 l0_1 x7_2).f1), .int .u8 ((rd_T60 l0_1 x7_2).f2), .int .u8 ((rd_T60 l0_1 x7_2).f3), .int .u8 ((rd_T60 l0_1 x7_2).f4), .int .u8 ((rd_T60 l0_1 x7_2).f5), .int .u8 ((rd_T60 l0_1 x7_2).f6)] 60 (0, 0))) ∧ Aside0 (wc.heap[gb351]? = some (.cells #[.string (((⟨#[116]⟩ : ByteArray) ++ (strOfNums y348)) ++ (⟨#[46, 120]⟩ : ByteArray)), .int .i64 (wrap64 (Int.tmod ((rd_T60 l0_1 x7_2).f0) 5)), .int .i64 (wrap64 (Int.tmod ((rd_T60 l0_1 x7_2).f1) 3)), u352003, u352004, u352005] 54 (0, 0))) ∧ Aside0 (Below w.heap.size w wc))
        case first =>
         have H := HC113.out
         clear HC113
         by_cases c119 : (Int.tmod ((rd_T60 l0_1 x7_2).f6) 3) > 0
         ·rw [if_pos c119] at H
          have c119b0 : decide (0 < (Int.tmod ((rd_T60 l0_1 x7_2).f6) 3)) = true := decide_eq_true c119
          clear c119
          (first | rw [c119b0] | (simp only [i64_w, i32_w]; rw [c119b0]) | skip)
          by_cases c120 : (x333000_1.length : Int) = 0
          case pos => rw [if_pos c120] at H; exact absurd H (by simp)
          rw [if_neg c120] at H
          have c120b0 : ((x333000_1.length : Int) == 0) = false := beq_eq_false_iff_ne.mpr c120
          have c120b1 : ((x333000_1.length : Int) != 0) = true := bne_iff_ne.mpr c120
          have c120b2 : ¬ (x333000_1 = []) := fun h_ => c120 (by rw [h_]; rfl)
          replace H := Option.bind_eq_some_iff.mp H
          obtain ⟨t364, A1210, H⟩ := H
          replace H : (marblerunref05_Make.j6 kj99 (x333000_1.length : Int) x7_2 l0_0 l0_1 x333000_1 x333001_2 ((rd_T60 l0_1 x7_2).f0) ((rd_T60 l0_1 x7_2).f1) ((rd_T60 l0_1 x7_2).f2) ((rd_T60 l0_1 x7_2).f3) ((rd_T60 l0_1 x7_2).f4) ((rd_T60 l0_1 x7_2).f5) ((rd_T60 l0_1 x7_2).f6) (((⟨#[116]⟩ : ByteArray) ++ (strOfNums y348)) ++ (⟨#[46, 120]⟩ : ByteArray)) (wrap64 (Int.tmod ((rd_T60 l0_1 x7_2).f0) 5)) (wrap64 (Int.tmod ((rd_T60 l0_1 x7_2).f1) 3)) x352003_54 x352004_86 t364) = some (r1, r2) := H
          have A121 := Aside0.mk A1210
          clear A1210
          have H' := Aside0.mk H
          clear H
          try go_wp2
          have n0_ := Aside0.mk (Kd.R_drew HO_333000.out)
          have n1_ := Aside0.mk (Kd.S_drew HO_333001.out)
          have n2_ := Aside0.mk (Kd.R_drew HO_352003.out)
          have n3_ := Aside0.mk (Kd.R_drew HO_352004.out)
          have n4_ := Aside0.mk (Kd.R_drew HO_352005.out)
          have n5_ := Aside0.mk (blk_drew BK330.out)
          have n6_ := Aside0.mk (blk_drew BK331.out)
          have n7_ := Aside0.mk (blk_drew BK332.out)
          have n8_ := Aside0.mk (blk_drew BK347.out)
          have n9_ := Aside0.mk (blk_drew BK351.out)
          have n10_ := Aside0.mk (below_drew1 HB.out)
          clear HO_333000
          clear HO_333001
          clear HO_352003
          clear HO_352004
          clear HO_352005
          clear BK330
          clear BK331
          clear BK332
          clear BK347
          clear BK351
          clear HB
          have HO_333000 := n0_
          have HO_333001 := n1_
          have HO_352003 := n2_
          have HO_352004 := n3_
          have HO_352005 := n4_
          have BK330 := n5_
          have BK331 := n6_
          have BK332 := n7_
          have BK347 := n8_
          have BK351 := n9_
          have HB := n10_
          clear n0_ n1_ n2_ n3_ n4_ n5_ n6_ n7_ n8_ n9_ n10_
          obtain ⟨Ao123, co123, eo123⟩ := Kd.R_slice HO_352005.out
          (first | subst eo123 | (injection eo123 with f1_ f2_ f3_; have f4_ := f1_.symm; have f5_ := f3_.symm; clear f1_ f2_ f3_; subst f4_; subst f5_))
          refine start_ (n := 11) (S := fun w' => w'.cell? ⟨gb351, 0, none⟩ = some (.string (((⟨#[116]⟩ : ByteArray) ++ (strOfNums y348)) ++ (⟨#[46, 120]⟩ : ByteArray))) ∧ w'.cell? ⟨gb351, 1, none⟩ = some (.int .i64 (wrap64 (Int.tmod ((rd_T60 l0_1 x7_2).f0) 5))) ∧ w'.cell? ⟨gb351, 2, none⟩ = some (.int .i64 (wrap64 (Int.tmod ((rd_T60 l0_1 x7_2).f1) 3))) ∧ w'.cell? ⟨gb351, 3, none⟩ = some (u352003) ∧ w'.cell? ⟨gb351, 4, none⟩ = some (u352004) ∧ w'.cell? ⟨gb351, 5, none⟩ = some (.slice Ao123 x352005_99.length co123) ∧ w'.cell? ⟨gb347, 0, none⟩ = some (.int .u8 ((rd_T60 l0_1 x7_2).f0)) ∧ w'.cell? ⟨gb347, 1, none⟩ = some (.int .u8 ((rd_T60 l0_1 x7_2).f1)) ∧ w'.cell? ⟨gb347, 2, none⟩ = some (.int .u8 ((rd_T60 l0_1 x7_2).f2)) ∧ w'.cell? ⟨gb347, 3, none⟩ = some (.int .u8 ((rd_T60 l0_1 x7_2).f3)) ∧ w'.cell? ⟨gb347, 4, none⟩ = some (.int .u8 ((rd_T60 l0_1 x7_2).f4)) ∧ w'.cell? ⟨gb347, 5, none⟩ = some (.int .u8 ((rd_T60 l0_1 x7_2).f5)) ∧ w'.cell? ⟨gb347, 6, none⟩ = some (.int .u8 ((rd_T60 l0_1 x7_2).f6))) (ds := [10]) (az [0, 11]) (by kernel_rfl) rfl rfl ⟨(blk_cell BK351.out 0).trans rfl, (blk_cell BK351.out 1).trans rfl, (blk_cell BK351.out 2).trans rfl, (blk_cell BK351.out 3).trans rfl, (blk_cell BK351.out 4).trans rfl, (blk_cell BK351.out 5).trans rfl, (blk_cell BK347.out 0).trans rfl, (blk_cell BK347.out 1).trans rfl, (blk_cell BK347.out 2).trans rfl, (blk_cell BK347.out 3).trans rfl, (blk_cell BK347.out 4).trans rfl, (blk_cell BK347.out 5).trans rfl, (blk_cell BK347.out 6).trans rfl⟩ (fun hHeld => ?_); refine with_tabW marblerunref05_Make.tab23 marblerunref05_Make.bits23 (fun HT_ HW_ => ?_)
          generalize wc.drew = w122 at HO_333000 HO_333001 HO_352003 HO_352004 HO_352005 BK330 BK331 BK332 BK347 BK351 HB hHeld ⊢
          refine pure_ (i := 0) (N := some 150) (v := ?_) (a' := ?_) (az [1, 10]) rfl rfl (any_of HT_.out (by kernel_rfl)) (fun _ _ _ h => h) (Or.inl ⟨by rfl, ?_⟩) ?_ ?_
          rotate_left
          ·intro w'
           go_simp
           with_reducible rfl
          rotate_left
          ·simp only [Act.put, List.setIfInBounds_toArray, List.set_cons_zero, List.set_cons_succ, i64_w, i32_w]
           rfl
          refine pure_ (i := 2) (N := some 152) (v := ?_) (a' := ?_) (az [1, 1, 1, 8]) rfl rfl (any_of HT_.out (by kernel_rfl)) (fun _ _ _ h => h) (Or.inl ⟨by rfl, ?_⟩) ?_ ?_
          rotate_left
          ·intro w'
           go_simp
           with_reducible rfl
          rotate_left
          ·simp only [Act.put, List.setIfInBounds_toArray, List.set_cons_zero, List.set_cons_succ, i64_w, i32_w]
           rfl
          refine pure_ (i := 6) (N := some 156) (v := ?_) (a' := ?_) (az [1, 1, 1, 3, 1, 4]) rfl rfl (any_of HT_.out (by kernel_rfl)) (fun _ _ _ h => h) (Or.inl ⟨by rfl, ?_⟩) ?_ ?_
          rotate_left
          ·intro w'
           go_simp
           with_reducible rfl
          rotate_left
          ·simp only [Act.put, List.setIfInBounds_toArray, List.set_cons_zero, List.set_cons_succ, i64_w, i32_w]
           rfl
          refine take_ (i := 1) (N := some 151) (v := ?_) (a' := ?_) (az [3, 3, 1, 4]) rfl rfl (take_ofW HT_.out HW_.out (by kernel_rfl)) (fun _ _ _ h => h) (Or.inl ⟨by rfl, ?_⟩) hHeld ?_ ?_
          rotate_left
          ·rintro w' ⟨s0, s1, s2, s3, s4, s5, s6, s7, s8, s9, s10, s11, s12⟩
           go_simp
           with_reducible rfl
          rotate_left
          ·simp only [Act.put, List.setIfInBounds_toArray, List.set_cons_zero, List.set_cons_succ, i64_w, i32_w]
           rfl
          refine take_ (i := 3) (N := some 153) (v := ?_) (a' := ?_) (az [4, 2, 1, 4]) rfl rfl (take_ofW HT_.out HW_.out (by kernel_rfl)) (fun _ _ _ h => h) (Or.inl ⟨by rfl, ?_⟩) hHeld ?_ ?_
          rotate_left
          ·rintro w' ⟨s0, s1, s2, s3, s4, s5, s6, s7, s8, s9, s10, s11, s12⟩
           go_simp
           with_reducible rfl
          rotate_left
          ·simp only [Act.put, List.setIfInBounds_toArray, List.set_cons_zero, List.set_cons_succ, i64_w, i32_w]
           rfl
          refine pure_ (i := 4) (N := some 154) (v := ?_) (a' := ?_) (az [5, 1, 1, 4]) rfl rfl (any_of HT_.out (by kernel_rfl)) (fun _ _ _ h => h) (Or.inl ⟨by rfl, ?_⟩) ?_ ?_
          rotate_left
          ·intro w'
           go_simp
           with_reducible rfl
          rotate_left
          ·simp only [Act.put, List.setIfInBounds_toArray, List.set_cons_zero, List.set_cons_succ, i64_w, i32_w]
           rfl
          refine pure_ (i := 5) (N := some 155) (v := ?_) (a' := ?_) (az [7, 4]) rfl rfl (any_of HT_.out (by kernel_rfl)) (fun _ _ _ h => h) (Or.inl ⟨by rfl, ?_⟩) ?_ ?_
          rotate_left
          ·intro w'
           go_simp
           with_reducible rfl
          rotate_left
          ·simp only [Act.put, List.setIfInBounds_toArray, List.set_cons_zero, List.set_cons_succ, i64_w, i32_w]
           rfl
          refine pure_ (i := 7) (N := some 157) (v := ?_) (a' := ?_) (az [8, 3]) rfl rfl (any_of HT_.out (by kernel_rfl)) (fun _ _ _ h => h) (Or.inl ⟨by rfl, ?_⟩) ?_ ?_
          rotate_left
          ·intro w'
           go_simp
           with_reducible rfl
          rotate_left
          ·simp only [Act.put, List.setIfInBounds_toArray, List.set_cons_zero, List.set_cons_succ, i64_w, i32_w]
           rfl
          refine one_ (i := 8) (N := some 158) (az [9, 2]) rfl rfl (one_of HT_.out (by kernel_rfl)) (by decide) (fun K hK => ?_)
          refine goes_ Try.func23 (by kernel_rfl) rfl #[.slice Ao123 x352005_99.length co123, .int .i64 (((Int.tdiv ((rd_T60 l0_1 x7_2).f6) 3) % 256) % (x333000_1.length : Int)), .int .i64 1] (by rfl) rfl rfl (by (try simp only [List.map_toArray, List.map_cons, List.map_nil]); first | done | rfl | (simp only [List.length_drop, List.length_take]; rfl) | (go_simp; simp only [u8a, u8b, u8b2, u8c, u8d, u8e, and_self])) ?_
          with_reducible refine (marblerunref05_put.calls kj99 (fun k_ => some k_ = (.slice Ao123 x352005_99.length co123 : Value).ownBlock) (.slice Ao123 x352005_99.length co123) x352005_99 (((Int.tdiv ((rd_T60 l0_1 x7_2).f6) 3) % 256) % (x333000_1.length : Int)) 1 t364 w _ ?side1 ?side2 A121.out).mono ?_
          (case side1 => repeat (first | (with_reducible first | exact HB.out | apply below_alloc | apply pw_below_drewN | apply below_drew1 | refine below_set ?_ GE330.out | refine below_set ?_ GE331.out | refine below_set ?_ GE332.out | refine below_set ?_ GE347.out | refine below_set ?_ GE351.out) | exact HB.out))
          (case side2 => exact Kd.R_tight rfl HO_352005.out)
          rintro e w124 ⟨v365, rfl, ho0, hb, hkp⟩
          refine ⟨_, rfl, ?_⟩
          have n0_ := Aside0.mk (Kd.R_mono (ok' := fun k_ => True) (Kd.R_keptB ((Kd.R_apart' HO_333000.out (Kd.R_typed HO_352005.out) (by decide))) hkp (fun k_ hk_ hs_ => (hk_.2) hs_)) (fun k_ hk_ => trivial))
          have n1_ := Aside0.mk (Kd.S_mono (ok' := fun k_ => some k_ ≠ (u352003 : Value).ownBlock ∧ some k_ ≠ (u352004 : Value).ownBlock ∧ k_ ≠ gb351 ∧ some k_ ≠ (v365 : Value).ownBlock) (Kd.S_keptB (HO_333001.out) hkp (fun k_ hk_ hs_ => (hk_.2.2.1) hs_)) (fun k_ hk_ => ⟨hk_.1.1, hk_.1.2.1, hk_.1.2.2.2, fun e_ => Or.elim (ho0.1 k_ e_.symm) (fun hs_ => hk_.2.1 hs_) (fun hn_ => Nat.not_le.2 hk_.2.2 hn_)⟩))
          have n2_ := Aside0.mk (Kd.R_mono (ok' := fun k_ => some k_ ≠ (u352004 : Value).ownBlock ∧ some k_ ≠ (v365 : Value).ownBlock) (Kd.R_keptB (HO_352003.out) hkp (fun k_ hk_ hs_ => (hk_.2) hs_)) (fun k_ hk_ => ⟨hk_.1.1, fun e_ => Or.elim (ho0.1 k_ e_.symm) (fun hs_ => hk_.2.1 hs_) (fun hn_ => Nat.not_le.2 hk_.2.2 hn_)⟩))
          have n3_ := Aside0.mk (Kd.R_mono (ok' := fun k_ => some k_ ≠ (u352003 : Value).ownBlock ∧ some k_ ≠ (v365 : Value).ownBlock) (Kd.R_keptB (HO_352004.out) hkp (fun k_ hk_ hs_ => (hk_.2) hs_)) (fun k_ hk_ => ⟨hk_.1.1, fun e_ => Or.elim (ho0.1 k_ e_.symm) (fun hs_ => hk_.2.1 hs_) (fun hn_ => Nat.not_le.2 hk_.2.2 hn_)⟩))
          have n4_ := Aside0.mk (blk_kept (bkq BK330.out) hkp (fun hs_ => (fun e_ => (Kd.R_ne HO_352005.out BK330.out (by decide)) e_) hs_))
          have n5_ := Aside0.mk (blk_kept (bkq BK331.out) hkp (fun hs_ => (fun e_ => (Kd.R_ne HO_352005.out BK331.out (by decide)) e_) hs_))
          have n6_ := Aside0.mk (blk_kept (bkq BK332.out) hkp (fun hs_ => (fun e_ => (Kd.R_ne HO_352005.out BK332.out (by decide)) e_) hs_))
          have n7_ := Aside0.mk (blk_kept (bkq BK347.out) hkp (fun hs_ => (fun e_ => (Kd.R_ne HO_352005.out BK347.out (by decide)) e_) hs_))
          have n8_ := Aside0.mk (blk_kept (bkq BK351.out) hkp (fun hs_ => (fun e_ => (Kd.R_ne HO_352005.out BK351.out (by decide)) e_) hs_))
          have n9_ := Aside0.mk (Kd.R_mono (ok' := fun k_ => some k_ ≠ (u352003 : Value).ownBlock ∧ some k_ ≠ (u352004 : Value).ownBlock) ho0 (fun k_ hk_ => ⟨Or.elim hk_ (fun hs_ => fun e_ => (((HO_352003.out).1 k_ e_.symm).2) hs_) (fun hn_ => (Kd.fresh' (Kd.R_lt (kq_R HO_352003.out)) k_ hn_)), Or.elim hk_ (fun hs_ => fun e_ => (((HO_352004.out).1 k_ e_.symm).2) hs_) (fun hn_ => (Kd.fresh' (Kd.R_lt (kq_R HO_352004.out)) k_ hn_))⟩))
          have n10_ := Aside0.mk (hb)
          clear HO_333000
          clear HO_333001
          clear HO_352003
          clear HO_352004
          clear BK330
          clear BK331
          clear BK332
          clear BK347
          clear BK351
          clear HB
          clear HO_352005
          have HO_333000 := n0_
          have HO_333001 := n1_
          have HO_352003 := n2_
          have HO_352004 := n3_
          have BK330 := n4_
          have BK331 := n5_
          have BK332 := n6_
          have BK347 := n7_
          have BK351 := n8_
          have HO366 := n9_
          have HB := n10_
          clear n0_ n1_ n2_ n3_ n4_ n5_ n6_ n7_ n8_ n9_ n10_
          (try clear hb)
          (try clear hkp)
          (try clear ho0)
          obtain ⟨Ao125, co125, eo125⟩ := Kd.R_slice HO366.out
          (first | subst eo125 | (injection eo125 with f1_ f2_ f3_; have f4_ := f1_.symm; have f5_ := f3_.symm; clear f1_ f2_ f3_; subst f4_; subst f5_))
          refine hK.out _ _ ⟨(blk_cell BK351.out 0).trans rfl, (blk_cell BK351.out 1).trans rfl, (blk_cell BK351.out 2).trans rfl, (blk_cell BK351.out 3).trans rfl, (blk_cell BK351.out 4).trans rfl, (blk_cell BK351.out 5).trans rfl, (blk_cell BK347.out 0).trans rfl, (blk_cell BK347.out 1).trans rfl, (blk_cell BK347.out 2).trans rfl, (blk_cell BK347.out 3).trans rfl, (blk_cell BK347.out 4).trans rfl, (blk_cell BK347.out 5).trans rfl, (blk_cell BK347.out 6).trans rfl⟩ (fun hHeld => ?_)
          clear hK K
          refine norm_ (a' := ?_) ?_ ?_
          rotate_left
          ·show Act.put _ (some 158) _ = _
           simp only [Act.put, List.setIfInBounds_toArray, List.set_cons_zero, List.set_cons_succ, i64_w, i32_w]
           rfl
          refine pure_ (i := 9) (N := some 159) (v := ?_) (a' := ?_) (az [10, 1]) rfl rfl (any_of HT_.out (by kernel_rfl)) (fun _ _ _ h => h) (Or.inl ⟨by rfl, ?_⟩) ?_ ?_
          rotate_left
          ·intro w'
           go_simp
           with_reducible rfl
          rotate_left
          ·simp only [Act.put, List.setIfInBounds_toArray, List.set_cons_zero, List.set_cons_succ, i64_w, i32_w]
           rfl
          refine last_ (i := 10) (N := none) (az [11]) rfl rfl (one_of HT_.out (by kernel_rfl)) (by decide) (fun K hK => ?_)
          have hs126 : w124.cell? ⟨gb351, 5, none⟩ = some (.slice Ao123 x352005_99.length co123) := (blk_cell BK351.out 5).trans rfl
          have hfs126 := blk_frozen BK351.out 5
          have hns126_0 := NB330_351.out
          have hns126_1 := NB331_351.out
          have hns126_2 := NB332_351.out
          have hns126_3 := NB347_351.out
          have hms126_0 := NB351_330.out
          have hms126_1 := NB351_331.out
          have hms126_2 := NB351_332.out
          have hms126_3 := NB351_347.out
          refine skip_ (w1 := ?_) (by rfl) rfl ?_ ?_
          rotate_left
          ·go_simp
           rfl
          refine hK.out _ _ ?_
          clear hK K
          refine done_ (done_of HT_.out (by kernel_rfl)) ?_
          try go_wp2
          go_meet
          case rel => exact ⟨_, (t364), (.slice Ao125 t364.length co125), H', ⟨by have := HK1.out; have := HK2.out; have := HJ39.out; have := HJ54.out; have := HJ86.out; have := HJ99.out; first | omega | exact Nat.le_refl _⟩, ⟨by refine kq_R ?_; exact Kd.R_mono (Kd.R_far (p := ⟨gb351, 5, none⟩) (Kd.R_types HO_333000.out BK351.out (by decide)) (fun _ hk => hk.2) (.slice Ao125 t364.length co125)) (fun _ hk => trivial)⟩, ⟨by refine kq_S ?_; exact Kd.S_mono (Kd.S_far (p := ⟨gb351, 5, none⟩) (Kd.S_mono HO_333001.out (fun k_ hk => (⟨hk, hk.2.2.1⟩ : _ ∧ k_ ≠ gb351))) (fun _ hk => hk.2) (.slice Ao125 t364.length co125)) (fun _ hk => ⟨hk.1.1, ⟨hk.1.2.1, ⟨hk.1.2.2.2, hk.1.2.2.1⟩⟩⟩)⟩, ⟨by refine kq_R ?_; exact Kd.R_mono (Kd.R_far (p := ⟨gb351, 5, none⟩) (Kd.R_types HO_352003.out BK351.out (by decide)) (fun _ hk => hk.2) (.slice Ao125 t364.length co125)) (fun _ hk => ⟨hk.1.1, hk.1.2⟩)⟩, ⟨by refine kq_R ?_; exact Kd.R_mono (Kd.R_far (p := ⟨gb351, 5, none⟩) (Kd.R_types HO_352004.out BK351.out (by decide)) (fun _ hk => hk.2) (.slice Ao125 t364.length co125)) (fun _ hk => ⟨hk.1.1, hk.1.2⟩)⟩, ⟨by refine kq_R ?_; exact Kd.R_mono (Kd.R_far (p := ⟨gb351, 5, none⟩) (Kd.R_types HO366.out BK351.out (by decide)) (fun _ hk => hk.2) (.slice Ao125 t364.length co125)) (fun _ hk => ⟨hk.1.1, hk.1.2⟩)⟩, ⟨by refine bkq ?_; refine blk_far ?_ NB330_351.out _; refine bkq ?_; exact BK330.out⟩, ⟨by refine bkq ?_; refine blk_far ?_ NB331_351.out _; refine bkq ?_; exact BK331.out⟩, ⟨by refine bkq ?_; refine blk_far ?_ NB332_351.out _; refine bkq ?_; exact BK332.out⟩, ⟨by refine bkq ?_; refine blk_far ?_ NB347_351.out _; refine bkq ?_; exact BK347.out⟩, ⟨by refine bkq ?_; refine blk_put (cs := #[.string (((⟨#[116]⟩ : ByteArray) ++ (strOfNums y348)) ++ (⟨#[46, 120]⟩ : ByteArray)), .int .i64 (wrap64 (Int.tmod ((rd_T60 l0_1 x7_2).f0) 5)), .int .i64 (wrap64 (Int.tmod ((rd_T60 l0_1 x7_2).f1) 3)), u352003, u352004, .slice Ao123 x352005_99.length co123]) ?_ 5 _ rfl; refine bkq ?_; exact BK351.out⟩, ⟨hbq HB.out⟩⟩
         rw [if_neg c119] at H
         have c119b0 : decide (0 < (Int.tmod ((rd_T60 l0_1 x7_2).f6) 3)) = false := decide_eq_false c119
         clear c119
         (first | rw [c119b0] | (simp only [i64_w, i32_w]; rw [c119b0]) | skip)
         have H' := Aside0.mk H
         clear H
         go_wp2
         go_meet
         case rel => exact ⟨_, (x352005_99), (u352005), H', ⟨by have := HK1.out; have := HK2.out; have := HJ39.out; have := HJ54.out; have := HJ86.out; have := HJ99.out; first | omega | exact Nat.le_refl _⟩, ⟨by refine kq_R ?_; exact HO_333000.out⟩, ⟨by refine kq_S ?_; exact HO_333001.out⟩, ⟨by refine kq_R ?_; exact HO_352003.out⟩, ⟨by refine kq_R ?_; exact HO_352004.out⟩, ⟨by refine kq_R ?_; exact HO_352005.out⟩, ⟨by refine bkq ?_; exact BK330.out⟩, ⟨by refine bkq ?_; exact BK331.out⟩, ⟨by refine bkq ?_; exact BK332.out⟩, ⟨by refine bkq ?_; exact BK347.out⟩, ⟨by refine bkq ?_; exact BK351.out⟩, ⟨hbq HB.out⟩⟩
        clear HC113
        try clear c1
        try clear c2
        try clear p2
        try clear p3
        try clear q3
        try clear hx3
        try clear c4
        try clear c5
        try clear c6
        try clear p6
        try clear hcv6
        try clear c7
        try clear c8
        try clear c9
        try clear c10
        try clear c11
        try clear c12
        try clear c23
        try clear p33
        try clear q33
        try clear hx33
        try clear p34
        try clear q34
        try clear hx34
        try clear c48
        try clear c49
        try clear c49b0
        try clear c50
        try clear c50b0
        try clear c51
        try clear c51b0
        try clear c51b1
        try clear c51b2
        try clear c52
        try clear c52b0
        try clear c52b1
        try clear c52b2
        try clear c53
        try clear c53b0
        try clear c53b1
        try clear c53b2
        try clear c56
        try clear c57
        try clear c60
        try clear c61
        try clear c62
        try clear p64
        try clear hcv66
        try clear c69
        try clear c70
        try clear c71
        try clear c72
        try clear c80
        try clear c80b0
        try clear c80b1
        try clear c88
        try clear c89
        try clear c90
        try clear c91
        try clear c93
        try clear c93b0
        try clear c93b1
        try clear c94
        try clear c94b0
        try clear c94b1
        try clear c94b2
        try clear c101
        try clear c102
        try clear c103
        try clear c104
        try clear c106
        try clear c106b0
        try clear c107
        try clear c107b0
        try clear c107b1
        try clear c107b2
        try clear c114
        try clear c115
        try clear c116
        try clear c117
        try clear c119
        try clear c119b0
        try clear c120
        try clear c120b0
        try clear c120b1
        try clear c120b2
        try clear hcz105_0
        try clear hcz105_1
        try clear hcz105_2
        try clear hcz105_3
        try clear hcz105_4
        try clear hcz105_5
        try clear hcz105_6
        try clear hcz118_0
        try clear hcz118_1
        try clear hcz118_2
        try clear hcz118_3
        try clear hcz118_4
        try clear hcz118_5
        try clear hcz118_6
        try clear hcz33_0
        try clear hcz33_1
        try clear hcz36_0
        try clear hcz36_1
        try clear hcz38_0
        try clear hcz38_1
        try clear hcz44_0
        try clear hcz44_1
        try clear hcz47_0
        try clear hcz47_1
        try clear hcz58_0
        try clear hcz58_1
        try clear hcz63_0
        try clear hcz63_1
        try clear hcz63_2
        try clear hcz63_3
        try clear hcz63_4
        try clear hcz63_5
        try clear hcz63_6
        try clear hcz67_0
        try clear hcz67_1
        try clear hcz67_2
        try clear hcz67_3
        try clear hcz67_4
        try clear hcz67_5
        try clear hcz67_6
        try clear hcz73_0
        try clear hcz73_1
        try clear hcz73_2
        try clear hcz73_3
        try clear hcz73_4
        try clear hcz73_5
        try clear hcz79_0
        try clear hcz79_1
        try clear hcz79_2
        try clear hcz79_3
        try clear hcz79_4
        try clear hcz79_5
        try clear hcz79_6
        try clear hcz92_0
        try clear hcz92_1
        try clear hcz92_2
        try clear hcz92_3
        try clear hcz92_4
        try clear hcz92_5
        try clear hcz92_6
        try clear hfz105_0
        try clear hfz105_1
        try clear hfz105_2
        try clear hfz105_3
        try clear hfz105_4
        try clear hfz105_5
        try clear hfz105_6
        try clear hfz118_0
        try clear hfz118_1
        try clear hfz118_2
        try clear hfz118_3
        try clear hfz118_4
        try clear hfz118_5
        try clear hfz118_6
        try clear hfz12_0
        try clear hfz12_1
        try clear hfz14_0
        try clear hfz14_1
        try clear hfz20_0
        try clear hfz20_1
        try clear hfz25_0
        try clear hfz25_1
        try clear hfz27_0
        try clear hfz27_1
        try clear hfz33_0
        try clear hfz33_1
        try clear hfz36_0
        try clear hfz36_1
        try clear hfz38_0
        try clear hfz38_1
        try clear hfz44_0
        try clear hfz44_1
        try clear hfz47_0
        try clear hfz47_1
        try clear hfz58_0
        try clear hfz58_1
        try clear hfz63_0
        try clear hfz63_1
        try clear hfz63_2
        try clear hfz63_3
        try clear hfz63_4
        try clear hfz63_5
        try clear hfz63_6
        try clear hfz67_0
        try clear hfz67_1
        try clear hfz67_2
        try clear hfz67_3
        try clear hfz67_4
        try clear hfz67_5
        try clear hfz67_6
        try clear hfz73_0
        try clear hfz73_1
        try clear hfz73_2
        try clear hfz73_3
        try clear hfz73_4
        try clear hfz73_5
        try clear hfz79_0
        try clear hfz79_1
        try clear hfz79_2
        try clear hfz79_3
        try clear hfz79_4
        try clear hfz79_5
        try clear hfz79_6
        try clear hfz92_0
        try clear hfz92_1
        try clear hfz92_2
        try clear hfz92_3
        try clear hfz92_4
        try clear hfz92_5
        try clear hfz92_6
        try clear hx333_0
        try clear hx346_0
        try clear hx346_1
        try clear hx346_2
        try clear hx346_3
        try clear hx346_4
        try clear hx346_5
        try clear hx346_6
        try clear p2
        try clear p3
        try clear p33
        try clear p333
        try clear p34
        try clear p346
        try clear p6
        try clear p64
        try clear q3
        try clear q33
        try clear q333
        try clear q34
        try clear q346
        obtain ⟨kq, x352005_112, u352005, HA, HJ112, HO_333000, HO_333001, HO_352003, HO_352004, HO_352005, BK330, BK331, BK332, BK347, BK351, HB⟩ := hcut
        cases kq with
        | zero => exact absurd HA.out (by simp [marblerunref05_Make.j6])
        | succ kj112 =>
         have H := HA.out
         clear HA
         simp only [marblerunref05_Make.j6] at H
         by_cases c127 : (wrap64 (Int.tmod ((rd_T60 l0_1 x7_2).f0) 5)) = 0
         ·rw [if_pos c127] at H
          have c127b0 : ((wrap64 (Int.tmod ((rd_T60 l0_1 x7_2).f0) 5)) == 0) = true := beq_iff_eq.mpr c127
          have c127b1 : ((wrap64 (Int.tmod ((rd_T60 l0_1 x7_2).f0) 5)) != 0) = false := bne_eq_false_iff_eq.mpr c127
          clear c127
          by_cases c128 : ((rd_T60 l0_1 x7_2).f0) < 128
          ·rw [if_pos c128] at H
           have c128b0 : decide (((rd_T60 l0_1 x7_2).f0) < 128) = true := decide_eq_true c128
           clear c128
           by_cases c129 : x333001_2.length < 1353245080339
           case neg => rw [if_neg c129] at H; exact absurd H (by simp)
           rw [if_pos c129] at H
           have LMc129 := Aside0.mk c129
           clear c129
           obtain ⟨y367, hy367⟩ : ∃ y_ : List (S54), y_ = (x333001_2 ++ [(⟨(((⟨#[116]⟩ : ByteArray) ++ (strOfNums y348)) ++ (⟨#[46, 120]⟩ : ByteArray)), 1, (wrap64 (Int.tmod ((rd_T60 l0_1 x7_2).f1) 3)), x352003_54, x352004_86, x352005_112⟩ : S54)]) := ⟨_, rfl⟩
           replace H : (marblerunref05_Make.l1 kj112 (x333000_1.length : Int) (wrap64 (x7_2 + 1)) l0_0 l0_1 x333000_1 y367) = some (r1, r2) := by first | (rw [hy367]; with_reducible exact H) | (have H2_ := (Option.bind_some _ _).symm.trans H; rw [hy367]; with_reducible exact H2_) | (have H2_ := (Option.bind_some _ _).symm.trans H; with_reducible exact H2_) | with_reducible exact H | (rw [hy367]; exact H) | exact H
           have Ny367 := Aside0.mk hy367
           clear hy367
           have H' := Aside0.mk H
           clear H
           have hnb130 := NB351_330.out
           have hnc130 := NB330_351.out
           have hnb131 := NB351_331.out
           have hnc131 := NB331_351.out
           have hnb132 := NB351_332.out
           have hnc132 := NB332_351.out
           have hnb133 := NB351_347.out
           have hnc133 := NB347_351.out
           have hcz134_0 : wc.cell? ⟨gb351, 0, none⟩ = some (.string (((⟨#[116]⟩ : ByteArray) ++ (strOfNums y348)) ++ (⟨#[46, 120]⟩ : ByteArray))) := (blk_cell BK351.out 0).trans rfl
           have hcz134_1 : wc.cell? ⟨gb351, 1, none⟩ = some (.int .i64 (wrap64 (Int.tmod ((rd_T60 l0_1 x7_2).f0) 5))) := (blk_cell BK351.out 1).trans rfl
           have hcz134_2 : wc.cell? ⟨gb351, 2, none⟩ = some (.int .i64 (wrap64 (Int.tmod ((rd_T60 l0_1 x7_2).f1) 3))) := (blk_cell BK351.out 2).trans rfl
           have hcz134_3 : wc.cell? ⟨gb351, 3, none⟩ = some (u352003) := (blk_cell BK351.out 3).trans rfl
           have hcz134_4 : wc.cell? ⟨gb351, 4, none⟩ = some (u352004) := (blk_cell BK351.out 4).trans rfl
           have hcz134_5 : wc.cell? ⟨gb351, 5, none⟩ = some (u352005) := (blk_cell BK351.out 5).trans rfl
           have hfz134_0 := blk_frozen BK351.out 0
           have hfz134_1 := blk_frozen BK351.out 1
           have hfz134_2 := blk_frozen BK351.out 2
           have hfz134_3 := blk_frozen BK351.out 3
           have hfz134_4 := blk_frozen BK351.out 4
           have hfz134_5 := blk_frozen BK351.out 5
           have hnb135 := NB347_330.out
           have hnc135 := NB330_347.out
           have hnb136 := NB347_331.out
           have hnc136 := NB331_347.out
           have hnb137 := NB347_332.out
           have hnc137 := NB332_347.out
           have hcz138_0 : wc.cell? ⟨gb347, 0, none⟩ = some (.int .u8 ((rd_T60 l0_1 x7_2).f0)) := (blk_cell BK347.out 0).trans rfl
           have hcz138_1 : wc.cell? ⟨gb347, 1, none⟩ = some (.int .u8 ((rd_T60 l0_1 x7_2).f1)) := (blk_cell BK347.out 1).trans rfl
           have hcz138_2 : wc.cell? ⟨gb347, 2, none⟩ = some (.int .u8 ((rd_T60 l0_1 x7_2).f2)) := (blk_cell BK347.out 2).trans rfl
           have hcz138_3 : wc.cell? ⟨gb347, 3, none⟩ = some (.int .u8 ((rd_T60 l0_1 x7_2).f3)) := (blk_cell BK347.out 3).trans rfl
           have hcz138_4 : wc.cell? ⟨gb347, 4, none⟩ = some (.int .u8 ((rd_T60 l0_1 x7_2).f4)) := (blk_cell BK347.out 4).trans rfl
           have hcz138_5 : wc.cell? ⟨gb347, 5, none⟩ = some (.int .u8 ((rd_T60 l0_1 x7_2).f5)) := (blk_cell BK347.out 5).trans rfl
           have hcz138_6 : wc.cell? ⟨gb347, 6, none⟩ = some (.int .u8 ((rd_T60 l0_1 x7_2).f6)) := (blk_cell BK347.out 6).trans rfl
           have hfz138_0 := blk_frozen BK347.out 0
           have hfz138_1 := blk_frozen BK347.out 1
           have hfz138_2 := blk_frozen BK347.out 2
           have hfz138_3 := blk_frozen BK347.out 3
           have hfz138_4 := blk_frozen BK347.out 4
           have hfz138_5 := blk_frozen BK347.out 5
           have hfz138_6 := blk_frozen BK347.out 6
           go_wp2_with (first | ((with_reducible refine gate_store (t := 3) (p := 168) rfl ?_); refine store_event (t := 3) (p := 168) (v := ?vo_w139) (w1 := (wc.setCell ⟨gb351, 1, none⟩ (.int .i64 1))) ?hg ?ho ?hn ?hr ?_; (case ho => rfl); (case hg => rfl); (case hn => rfl); (case hr => first | (go_simp; done) | (go_simp; rfl)); intro w139 hw; have n0_ : Aside0 (Kd.R k46 46 w139 w.heap.size (fun _ => True) (.slice Ao39 x333000_1.length co39) x333000_1) := ⟨(by rw [hw]; exact (by refine kq_R ?_; exact Kd.R_mono (Kd.R_far (p := ⟨gb351, 1, none⟩) (Kd.R_types HO_333000.out BK351.out (by decide)) (fun _ hk => hk.2) (.int .i64 1)) (fun _ hk => trivial)))⟩; have n1_ : Aside0 (Kd.S k54 54 w139 w.heap.size (fun k_ => some k_ ≠ (u352003 : Value).ownBlock ∧ some k_ ≠ (u352004 : Value).ownBlock ∧ some k_ ≠ (u352005 : Value).ownBlock ∧ k_ ≠ gb351) u333001 x333001_2) := ⟨(by rw [hw]; exact (by refine kq_S ?_; exact Kd.S_mono (Kd.S_far (p := ⟨gb351, 1, none⟩) (Kd.S_mono HO_333001.out (fun k_ hk => (⟨hk, hk.2.2.2⟩ : _ ∧ k_ ≠ gb351))) (fun _ hk => hk.2) (.int .i64 1)) (fun _ hk => ⟨hk.1.1, ⟨hk.1.2.1, ⟨hk.1.2.2.1, hk.1.2.2.2⟩⟩⟩)))⟩; have n2_ : Aside0 (Kd.R k51 51 w139 w.heap.size (fun k_ => some k_ ≠ (u352004 : Value).ownBlock ∧ some k_ ≠ (u352005 : Value).ownBlock) u352003 x352003_54) := ⟨(by rw [hw]; exact (by refine kq_R ?_; exact Kd.R_mono (Kd.R_far (p := ⟨gb351, 1, none⟩) (Kd.R_types HO_352003.out BK351.out (by decide)) (fun _ hk => hk.2) (.int .i64 1)) (fun _ hk => ⟨hk.1.1, hk.1.2⟩)))⟩; have n3_ : Aside0 (Kd.R k51 51 w139 w.heap.size (fun k_ => some k_ ≠ (u352003 : Value).ownBlock ∧ some k_ ≠ (u352005 : Value).ownBlock) u352004 x352004_86) := ⟨(by rw [hw]; exact (by refine kq_R ?_; exact Kd.R_mono (Kd.R_far (p := ⟨gb351, 1, none⟩) (Kd.R_types HO_352004.out BK351.out (by decide)) (fun _ hk => hk.2) (.int .i64 1)) (fun _ hk => ⟨hk.1.1, hk.1.2⟩)))⟩; have n4_ : Aside0 (Kd.R k51 51 w139 w.heap.size (fun k_ => some k_ ≠ (u352003 : Value).ownBlock ∧ some k_ ≠ (u352004 : Value).ownBlock) u352005 x352005_112) := ⟨(by rw [hw]; exact (by refine kq_R ?_; exact Kd.R_mono (Kd.R_far (p := ⟨gb351, 1, none⟩) (Kd.R_types HO_352005.out BK351.out (by decide)) (fun _ hk => hk.2) (.int .i64 1)) (fun _ hk => ⟨hk.1.1, hk.1.2⟩)))⟩; have n5_ : Aside0 (w139.heap[gb330]? = some (.cells #[.slice A0_0 l0_0.length c0_0, .slice (some ad346) l0_1.length c0_1] 25 (0, 0))) := ⟨(by rw [hw]; exact (by refine bkq ?_; refine blk_far ?_ NB330_351.out _; refine bkq ?_; exact BK330.out))⟩; have n6_ : Aside0 (w139.heap[gb331]? = some (.cells #[.slice none 0 0, .slice none 0 0] 31 (0, 0))) := ⟨(by rw [hw]; exact (by refine bkq ?_; refine blk_far ?_ NB331_351.out _; refine bkq ?_; exact BK331.out))⟩; have n7_ : Aside0 (w139.heap[gb332]? = some (.cells #[.slice Ao39 x333000_1.length co39, u333001] 31 (0, 0))) := ⟨(by rw [hw]; exact (by refine bkq ?_; refine blk_far ?_ NB332_351.out _; refine bkq ?_; exact BK332.out))⟩; have n8_ : Aside0 (w139.heap[gb347]? = some (.cells #[.int .u8 ((rd_T60 l0_1 x7_2).f0), .int .u8 ((rd_T60 l0_1 x7_2).f1), .int .u8 ((rd_T60 l0_1 x7_2).f2), .int .u8 ((rd_T60 l0_1 x7_2).f3), .int .u8 ((rd_T60 l0_1 x7_2).f4), .int .u8 ((rd_T60 l0_1 x7_2).f5), .int .u8 ((rd_T60 l0_1 x7_2).f6)] 60 (0, 0))) := ⟨(by rw [hw]; exact (by refine bkq ?_; refine blk_far ?_ NB347_351.out _; refine bkq ?_; exact BK347.out))⟩; have n9_ : Aside0 (w139.heap[gb351]? = some (.cells #[.string (((⟨#[116]⟩ : ByteArray) ++ (strOfNums y348)) ++ (⟨#[46, 120]⟩ : ByteArray)), .int .i64 1, .int .i64 (wrap64 (Int.tmod ((rd_T60 l0_1 x7_2).f1) 3)), u352003, u352004, u352005] 54 (0, 0))) := ⟨(by rw [hw]; exact (by refine bkq ?_; refine blk_put (cs := #[.string (((⟨#[116]⟩ : ByteArray) ++ (strOfNums y348)) ++ (⟨#[46, 120]⟩ : ByteArray)), .int .i64 (wrap64 (Int.tmod ((rd_T60 l0_1 x7_2).f0) 5)), .int .i64 (wrap64 (Int.tmod ((rd_T60 l0_1 x7_2).f1) 3)), u352003, u352004, u352005]) ?_ 1 _ rfl; refine bkq ?_; exact BK351.out))⟩; have n10_ : Aside0 (Below w.heap.size w w139) := ⟨(by rw [hw]; exact (hbq HB.out))⟩; clear hw; clear HO_333000; clear HO_333001; clear HO_352003; clear HO_352004; clear HO_352005; clear BK330; clear BK331; clear BK332; clear BK347; clear BK351; clear HB; have HO_333000 := n0_; have HO_333001 := n1_; have HO_352003 := n2_; have HO_352004 := n3_; have HO_352005 := n4_; have BK330 := n5_; have BK331 := n6_; have BK332 := n7_; have BK347 := n8_; have BK351 := n9_; have HB := n10_; clear n0_ n1_ n2_ n3_ n4_ n5_ n6_ n7_ n8_ n9_ n10_; have hnb140 := NB332_330.out; have hnc140 := NB330_332.out; have hnb141 := NB332_331.out; have hnc141 := NB331_332.out; have hcz142_0 : w139.cell? ⟨gb332, 0, none⟩ = some (.slice Ao39 x333000_1.length co39) := (blk_cell BK332.out 0).trans rfl; have hcz142_1 : w139.cell? ⟨gb332, 1, none⟩ = some (u333001) := (blk_cell BK332.out 1).trans rfl; have hfz142_0 := blk_frozen BK332.out 0; have hfz142_1 := blk_frozen BK332.out 1; have hcz143_0 : w139.cell? ⟨gb351, 0, none⟩ = some (.string (((⟨#[116]⟩ : ByteArray) ++ (strOfNums y348)) ++ (⟨#[46, 120]⟩ : ByteArray))) := (blk_cell BK351.out 0).trans rfl; have hcz143_1 : w139.cell? ⟨gb351, 1, none⟩ = some (.int .i64 1) := (blk_cell BK351.out 1).trans rfl; have hcz143_2 : w139.cell? ⟨gb351, 2, none⟩ = some (.int .i64 (wrap64 (Int.tmod ((rd_T60 l0_1 x7_2).f1) 3))) := (blk_cell BK351.out 2).trans rfl; have hcz143_3 : w139.cell? ⟨gb351, 3, none⟩ = some (u352003) := (blk_cell BK351.out 3).trans rfl; have hcz143_4 : w139.cell? ⟨gb351, 4, none⟩ = some (u352004) := (blk_cell BK351.out 4).trans rfl; have hcz143_5 : w139.cell? ⟨gb351, 5, none⟩ = some (u352005) := (blk_cell BK351.out 5).trans rfl; have hfz143_0 := blk_frozen BK351.out 0; have hfz143_1 := blk_frozen BK351.out 1; have hfz143_2 := blk_frozen BK351.out 2; have hfz143_3 := blk_frozen BK351.out 3; have hfz143_4 := blk_frozen BK351.out 4; have hfz143_5 := blk_frozen BK351.out 5; obtain ⟨Ao145, co145, eo145⟩ := Kd.R_slice HO_352003.out; subst eo145; obtain ⟨Ao146, co146, eo146⟩ := Kd.R_slice HO_352004.out; subst eo146; obtain ⟨Ao147, co147, eo147⟩ := Kd.R_slice HO_352005.out; subst eo147) | ((with_reducible refine gate_builtin (b := .append) (xs := #[.tmp 170, .tmp 172]) rfl ?_); at_builtin; refine Kd.S_append k54 (w0 := w) w.heap.size rfl (.tmp 170) (.tmp 172) 29 54 (.agg #[(.string ⟨#[]⟩), (.int .i64 0), (.int .i64 0), (.slice none 0 0), (.slice none 0 0), (.slice none 0 0)]) 104 rfl Try.underlying29 info54 rfl (by decide) (by omega) u333001 x333001_2 (⟨(((⟨#[116]⟩ : ByteArray) ++ (strOfNums y348)) ++ (⟨#[46, 120]⟩ : ByteArray)), 1, (wrap64 (Int.tmod ((rd_T60 l0_1 x7_2).f1) 3)), x352003_54, x352004_86, x352005_112⟩ : S54) [.string (((⟨#[116]⟩ : ByteArray) ++ (strOfNums y348)) ++ (⟨#[46, 120]⟩ : ByteArray)), .int .i64 1, .int .i64 (wrap64 (Int.tmod ((rd_T60 l0_1 x7_2).f1) 3)), .slice Ao145 x352003_54.length co145, .slice Ao146 x352004_86.length co146, .slice Ao147 x352005_112.length co147] (fun k_ => k_ ≠ gb351) (fun k_ => some k_ = (.slice Ao145 x352003_54.length co145 : Value).ownBlock ∨ some k_ = (.slice Ao146 x352004_86.length co146 : Value).ownBlock ∨ some k_ = (.slice Ao147 x352005_112.length co147 : Value).ownBlock) rfl rfl ?aP (fun k_ hk_ => hk_.elim (fun h_ => ((Kd.R_mono (ok' := fun k_ => ((fun k_ => k_ ≠ gb351)) k_ ∧ some k_ ≠ (u333001 : Value).ownBlock) (Kd.R_types (Kd.R_apart' (HO_352003.out) (Kd.S_typed HO_333001.out) (by decide)) BK351.out (by decide)) (fun k_ hk => ⟨hk.2, hk.1.2⟩))).1 k_ h_.symm) (fun h_ => h_.elim (fun h_ => ((Kd.R_mono (ok' := fun k_ => ((fun k_ => k_ ≠ gb351)) k_ ∧ some k_ ≠ (u333001 : Value).ownBlock) (Kd.R_types (Kd.R_apart' (HO_352004.out) (Kd.S_typed HO_333001.out) (by decide)) BK351.out (by decide)) (fun k_ hk => ⟨hk.2, hk.1.2⟩))).1 k_ h_.symm) (fun h_ => ((Kd.R_mono (ok' := fun k_ => ((fun k_ => k_ ≠ gb351)) k_ ∧ some k_ ≠ (u333001 : Value).ownBlock) (Kd.R_types (Kd.R_apart' (HO_352005.out) (Kd.S_typed HO_333001.out) (by decide)) BK351.out (by decide)) (fun k_ hk => ⟨hk.2, hk.1.2⟩))).1 k_ h_.symm))) ?aF ?aO ?aB ?aS ?aL ?_; (case aP => exact k54_mkM _ _ _ (⟨(((⟨#[116]⟩ : ByteArray) ++ (strOfNums y348)) ++ (⟨#[46, 120]⟩ : ByteArray)), 1, (wrap64 (Int.tmod ((rd_T60 l0_1 x7_2).f1) 3)), x352003_54, x352004_86, x352005_112⟩ : S54) (Kd.R_mono (Kd.R_tight rfl (Kd.R_mono (ok' := fun k_ => ((fun k_ => k_ ≠ gb351)) k_ ∧ some k_ ≠ (u333001 : Value).ownBlock) (Kd.R_types (Kd.R_apart' (HO_352003.out) (Kd.S_typed HO_333001.out) (by decide)) BK351.out (by decide)) (fun k_ hk => ⟨hk.2, hk.1.2⟩))) (fun _ h_ => Or.inl h_)) (Kd.R_mono (Kd.R_tight rfl (Kd.R_mono (ok' := fun k_ => ((fun k_ => k_ ≠ gb351)) k_ ∧ some k_ ≠ (u333001 : Value).ownBlock) (Kd.R_types (Kd.R_apart' (HO_352004.out) (Kd.S_typed HO_333001.out) (by decide)) BK351.out (by decide)) (fun k_ hk => ⟨hk.2, hk.1.2⟩))) (fun _ h_ => Or.inr (Or.inl h_))) (Kd.R_mono (Kd.R_tight rfl (Kd.R_mono (ok' := fun k_ => ((fun k_ => k_ ≠ gb351)) k_ ∧ some k_ ≠ (u333001 : Value).ownBlock) (Kd.R_types (Kd.R_apart' (HO_352005.out) (Kd.S_typed HO_333001.out) (by decide)) BK351.out (by decide)) (fun k_ hk => ⟨hk.2, hk.1.2⟩))) (fun _ h_ => Or.inr (Or.inr (h_))))); (case aB => exact (hbq HB.out)); (case aF => exact (fun k_ hk => Kd.freshB (g := gb351) (o := .cells #[.string (((⟨#[116]⟩ : ByteArray) ++ (strOfNums y348)) ++ (⟨#[46, 120]⟩ : ByteArray)), .int .i64 1, .int .i64 (wrap64 (Int.tmod ((rd_T60 l0_1 x7_2).f1) 3)), .slice Ao145 x352003_54.length co145, .slice Ao146 x352004_86.length co146, .slice Ao147 x352005_112.length co147] 54 (0, 0)) (bkq BK351.out) k_ hk)); (case aO => exact (by refine kq_S ?_; exact Kd.S_mono HO_333001.out (fun k_ hk => ⟨hk.2.2.2, fun e_ => e_.elim (fun h_ => hk.1 h_) (fun h_ => h_.elim (fun h_ => hk.2.1 h_) (fun h_ => hk.2.2.1 h_))⟩))); (case aS => exact (below_size (hbq HB.out))); (case aL => have := LMc129.out; omega); intro v368 w144 ho hb hg hat; rw [← Ny367.out] at ho; have n0_ := Aside0.mk (Kd.R_over' (kq_R HO_333000.out) (Kd.S_typed (kq_S HO_333001.out)) (by decide) hg); have n1_ := Aside0.mk (blk_grown (g := gb330) (o := .cells #[.slice A0_0 l0_0.length c0_0, .slice (some ad346) l0_1.length c0_1] 25 (0, 0)) (bkq BK330.out) hg (Kd.S_ne HO_333001.out BK330.out (by decide))); have n2_ := Aside0.mk (blk_grown (g := gb331) (o := .cells #[.slice none 0 0, .slice none 0 0] 31 (0, 0)) (bkq BK331.out) hg (Kd.S_ne HO_333001.out BK331.out (by decide))); have n3_ := Aside0.mk (blk_grown (g := gb332) (o := .cells #[.slice Ao39 x333000_1.length co39, u333001] 31 (0, 0)) (bkq BK332.out) hg (Kd.S_ne HO_333001.out BK332.out (by decide))); have n4_ := Aside0.mk (blk_grown (g := gb347) (o := .cells #[.int .u8 ((rd_T60 l0_1 x7_2).f0), .int .u8 ((rd_T60 l0_1 x7_2).f1), .int .u8 ((rd_T60 l0_1 x7_2).f2), .int .u8 ((rd_T60 l0_1 x7_2).f3), .int .u8 ((rd_T60 l0_1 x7_2).f4), .int .u8 ((rd_T60 l0_1 x7_2).f5), .int .u8 ((rd_T60 l0_1 x7_2).f6)] 60 (0, 0)) (bkq BK347.out) hg (Kd.S_ne HO_333001.out BK347.out (by decide))); have n5_ := Aside0.mk (blk_grown (g := gb351) (o := .cells #[.string (((⟨#[116]⟩ : ByteArray) ++ (strOfNums y348)) ++ (⟨#[46, 120]⟩ : ByteArray)), .int .i64 1, .int .i64 (wrap64 (Int.tmod ((rd_T60 l0_1 x7_2).f1) 3)), .slice Ao145 x352003_54.length co145, .slice Ao146 x352004_86.length co146, .slice Ao147 x352005_112.length co147] 54 (0, 0)) (bkq BK351.out) hg (Kd.S_away HO_333001.out (fun _ hk => hk.2.2.2))); have n6_ := Aside0.mk (hb); have n7_ := Aside0.mk (ho); clear HO_333000; clear BK330; clear BK331; clear BK332; clear BK347; clear BK351; clear HB; clear HO_333001; clear HO_352003; clear HO_352004; clear HO_352005; have HO_333000 := n0_; have BK330 := n1_; have BK331 := n2_; have BK332 := n3_; have BK347 := n4_; have BK351 := n5_; have HB := n6_; have HO369 := n7_; clear n0_ n1_ n2_ n3_ n4_ n5_ n6_ n7_; clear ho hb hg hat; obtain ⟨Ao148, co148, eo148⟩ := Kd.S_slice HO369.out; subst eo148; have hcz149_0 : w144.cell? ⟨gb332, 0, none⟩ = some (.slice Ao39 x333000_1.length co39) := (blk_cell BK332.out 0).trans rfl; have hcz149_1 : w144.cell? ⟨gb332, 1, none⟩ = some (u333001) := (blk_cell BK332.out 1).trans rfl; have hfz149_0 := blk_frozen BK332.out 0; have hfz149_1 := blk_frozen BK332.out 1))
           go_roundg kj112
           case measure => have := HK1.out; have := HK2.out; have := HJ39.out; have := HJ54.out; have := HJ86.out; have := HJ99.out; have := HJ112.out; omega
           case rel => exact ⟨(wrap64 (x7_2 + 1)), (y367), (.slice Ao148 y367.length co148), (by first | rfl | (simp; done) | (simp [*]; done)), H', ⟨by have := HK1.out; have := HK2.out; have := HJ39.out; have := HJ54.out; have := HJ86.out; have := HJ99.out; have := HJ112.out; omega⟩, ⟨by refine kq_R ?_; exact Kd.R_mono (Kd.R_far (p := ⟨gb332, 1, none⟩) (Kd.R_types HO_333000.out BK332.out (by decide)) (fun _ hk => hk.2) (.slice Ao148 y367.length co148)) (fun _ hk => trivial)⟩, ⟨by refine kq_S ?_; exact Kd.S_mono (Kd.S_far (p := ⟨gb332, 1, none⟩) (Kd.S_types HO369.out BK332.out (by decide)) (fun _ hk => hk.2) (.slice Ao148 y367.length co148)) (fun _ hk => trivial)⟩, ⟨by refine bkq ?_; refine blk_far ?_ NB330_332.out _; refine bkq ?_; exact BK330.out⟩, ⟨by refine bkq ?_; refine blk_far ?_ NB331_332.out _; refine bkq ?_; exact BK331.out⟩, ⟨by refine bkq ?_; refine blk_put (cs := #[.slice Ao39 x333000_1.length co39, u333001]) ?_ 1 _ rfl; refine bkq ?_; exact BK332.out⟩, ⟨hbq HB.out⟩⟩
          rw [if_neg c128] at H
          have c128b0 : decide (((rd_T60 l0_1 x7_2).f0) < 128) = false := decide_eq_false c128
          clear c128
          by_cases c150 : x333001_2.length < 1353245080339
          case neg => rw [if_neg c150] at H; exact absurd H (by simp)
          rw [if_pos c150] at H
          have LMc150 := Aside0.mk c150
          clear c150
          obtain ⟨y370, hy370⟩ : ∃ y_ : List (S54), y_ = (x333001_2 ++ [(⟨(((⟨#[116]⟩ : ByteArray) ++ (strOfNums y348)) ++ (⟨#[46, 120]⟩ : ByteArray)), (wrap64 (Int.tmod ((rd_T60 l0_1 x7_2).f0) 5)), (wrap64 (Int.tmod ((rd_T60 l0_1 x7_2).f1) 3)), x352003_54, x352004_86, x352005_112⟩ : S54)]) := ⟨_, rfl⟩
          replace H : (marblerunref05_Make.l1 kj112 (x333000_1.length : Int) (wrap64 (x7_2 + 1)) l0_0 l0_1 x333000_1 y370) = some (r1, r2) := by first | (rw [hy370]; with_reducible exact H) | (have H2_ := (Option.bind_some _ _).symm.trans H; rw [hy370]; with_reducible exact H2_) | (have H2_ := (Option.bind_some _ _).symm.trans H; with_reducible exact H2_) | with_reducible exact H | (rw [hy370]; exact H) | exact H
          have Ny370 := Aside0.mk hy370
          clear hy370
          have H' := Aside0.mk H
          clear H
          have hnb151 := NB351_330.out
          have hnc151 := NB330_351.out
          have hnb152 := NB351_331.out
          have hnc152 := NB331_351.out
          have hnb153 := NB351_332.out
          have hnc153 := NB332_351.out
          have hnb154 := NB351_347.out
          have hnc154 := NB347_351.out
          have hcz155_0 : wc.cell? ⟨gb351, 0, none⟩ = some (.string (((⟨#[116]⟩ : ByteArray) ++ (strOfNums y348)) ++ (⟨#[46, 120]⟩ : ByteArray))) := (blk_cell BK351.out 0).trans rfl
          have hcz155_1 : wc.cell? ⟨gb351, 1, none⟩ = some (.int .i64 (wrap64 (Int.tmod ((rd_T60 l0_1 x7_2).f0) 5))) := (blk_cell BK351.out 1).trans rfl
          have hcz155_2 : wc.cell? ⟨gb351, 2, none⟩ = some (.int .i64 (wrap64 (Int.tmod ((rd_T60 l0_1 x7_2).f1) 3))) := (blk_cell BK351.out 2).trans rfl
          have hcz155_3 : wc.cell? ⟨gb351, 3, none⟩ = some (u352003) := (blk_cell BK351.out 3).trans rfl
          have hcz155_4 : wc.cell? ⟨gb351, 4, none⟩ = some (u352004) := (blk_cell BK351.out 4).trans rfl
          have hcz155_5 : wc.cell? ⟨gb351, 5, none⟩ = some (u352005) := (blk_cell BK351.out 5).trans rfl
          have hfz155_0 := blk_frozen BK351.out 0
          have hfz155_1 := blk_frozen BK351.out 1
          have hfz155_2 := blk_frozen BK351.out 2
          have hfz155_3 := blk_frozen BK351.out 3
          have hfz155_4 := blk_frozen BK351.out 4
          have hfz155_5 := blk_frozen BK351.out 5
          have hnb156 := NB347_330.out
          have hnc156 := NB330_347.out
          have hnb157 := NB347_331.out
          have hnc157 := NB331_347.out
          have hnb158 := NB347_332.out
          have hnc158 := NB332_347.out
          have hcz159_0 : wc.cell? ⟨gb347, 0, none⟩ = some (.int .u8 ((rd_T60 l0_1 x7_2).f0)) := (blk_cell BK347.out 0).trans rfl
          have hcz159_1 : wc.cell? ⟨gb347, 1, none⟩ = some (.int .u8 ((rd_T60 l0_1 x7_2).f1)) := (blk_cell BK347.out 1).trans rfl
          have hcz159_2 : wc.cell? ⟨gb347, 2, none⟩ = some (.int .u8 ((rd_T60 l0_1 x7_2).f2)) := (blk_cell BK347.out 2).trans rfl
          have hcz159_3 : wc.cell? ⟨gb347, 3, none⟩ = some (.int .u8 ((rd_T60 l0_1 x7_2).f3)) := (blk_cell BK347.out 3).trans rfl
          have hcz159_4 : wc.cell? ⟨gb347, 4, none⟩ = some (.int .u8 ((rd_T60 l0_1 x7_2).f4)) := (blk_cell BK347.out 4).trans rfl
          have hcz159_5 : wc.cell? ⟨gb347, 5, none⟩ = some (.int .u8 ((rd_T60 l0_1 x7_2).f5)) := (blk_cell BK347.out 5).trans rfl
          have hcz159_6 : wc.cell? ⟨gb347, 6, none⟩ = some (.int .u8 ((rd_T60 l0_1 x7_2).f6)) := (blk_cell BK347.out 6).trans rfl
          have hfz159_0 := blk_frozen BK347.out 0
          have hfz159_1 := blk_frozen BK347.out 1
          have hfz159_2 := blk_frozen BK347.out 2
          have hfz159_3 := blk_frozen BK347.out 3
          have hfz159_4 := blk_frozen BK347.out 4
          have hfz159_5 := blk_frozen BK347.out 5
          have hfz159_6 := blk_frozen BK347.out 6
          have hnb160 := NB332_330.out
          have hnc160 := NB330_332.out
          have hnb161 := NB332_331.out
          have hnc161 := NB331_332.out
          have hcz162_0 : wc.cell? ⟨gb332, 0, none⟩ = some (.slice Ao39 x333000_1.length co39) := (blk_cell BK332.out 0).trans rfl
          have hcz162_1 : wc.cell? ⟨gb332, 1, none⟩ = some (u333001) := (blk_cell BK332.out 1).trans rfl
          have hfz162_0 := blk_frozen BK332.out 0
          have hfz162_1 := blk_frozen BK332.out 1
          obtain ⟨Ao164, co164, eo164⟩ := Kd.R_slice HO_352003.out
          subst eo164
          obtain ⟨Ao165, co165, eo165⟩ := Kd.R_slice HO_352004.out
          subst eo165
          obtain ⟨Ao166, co166, eo166⟩ := Kd.R_slice HO_352005.out
          subst eo166
          go_wp2_with (first | ((with_reducible refine gate_builtin (b := .append) (xs := #[.tmp 170, .tmp 172]) rfl ?_); at_builtin; refine Kd.S_append k54 (w0 := w) w.heap.size rfl (.tmp 170) (.tmp 172) 29 54 (.agg #[(.string ⟨#[]⟩), (.int .i64 0), (.int .i64 0), (.slice none 0 0), (.slice none 0 0), (.slice none 0 0)]) 104 rfl Try.underlying29 info54 rfl (by decide) (by omega) u333001 x333001_2 (⟨(((⟨#[116]⟩ : ByteArray) ++ (strOfNums y348)) ++ (⟨#[46, 120]⟩ : ByteArray)), (wrap64 (Int.tmod ((rd_T60 l0_1 x7_2).f0) 5)), (wrap64 (Int.tmod ((rd_T60 l0_1 x7_2).f1) 3)), x352003_54, x352004_86, x352005_112⟩ : S54) [.string (((⟨#[116]⟩ : ByteArray) ++ (strOfNums y348)) ++ (⟨#[46, 120]⟩ : ByteArray)), .int .i64 (wrap64 (Int.tmod ((rd_T60 l0_1 x7_2).f0) 5)), .int .i64 (wrap64 (Int.tmod ((rd_T60 l0_1 x7_2).f1) 3)), .slice Ao164 x352003_54.length co164, .slice Ao165 x352004_86.length co165, .slice Ao166 x352005_112.length co166] (fun k_ => k_ ≠ gb351) (fun k_ => some k_ = (.slice Ao164 x352003_54.length co164 : Value).ownBlock ∨ some k_ = (.slice Ao165 x352004_86.length co165 : Value).ownBlock ∨ some k_ = (.slice Ao166 x352005_112.length co166 : Value).ownBlock) rfl rfl ?aP (fun k_ hk_ => hk_.elim (fun h_ => ((Kd.R_mono (ok' := fun k_ => ((fun k_ => k_ ≠ gb351)) k_ ∧ some k_ ≠ (u333001 : Value).ownBlock) (Kd.R_types (Kd.R_apart' (HO_352003.out) (Kd.S_typed HO_333001.out) (by decide)) BK351.out (by decide)) (fun k_ hk => ⟨hk.2, hk.1.2⟩))).1 k_ h_.symm) (fun h_ => h_.elim (fun h_ => ((Kd.R_mono (ok' := fun k_ => ((fun k_ => k_ ≠ gb351)) k_ ∧ some k_ ≠ (u333001 : Value).ownBlock) (Kd.R_types (Kd.R_apart' (HO_352004.out) (Kd.S_typed HO_333001.out) (by decide)) BK351.out (by decide)) (fun k_ hk => ⟨hk.2, hk.1.2⟩))).1 k_ h_.symm) (fun h_ => ((Kd.R_mono (ok' := fun k_ => ((fun k_ => k_ ≠ gb351)) k_ ∧ some k_ ≠ (u333001 : Value).ownBlock) (Kd.R_types (Kd.R_apart' (HO_352005.out) (Kd.S_typed HO_333001.out) (by decide)) BK351.out (by decide)) (fun k_ hk => ⟨hk.2, hk.1.2⟩))).1 k_ h_.symm))) ?aF ?aO ?aB ?aS ?aL ?_; (case aP => exact k54_mkM _ _ _ (⟨(((⟨#[116]⟩ : ByteArray) ++ (strOfNums y348)) ++ (⟨#[46, 120]⟩ : ByteArray)), (wrap64 (Int.tmod ((rd_T60 l0_1 x7_2).f0) 5)), (wrap64 (Int.tmod ((rd_T60 l0_1 x7_2).f1) 3)), x352003_54, x352004_86, x352005_112⟩ : S54) (Kd.R_mono (Kd.R_tight rfl (Kd.R_mono (ok' := fun k_ => ((fun k_ => k_ ≠ gb351)) k_ ∧ some k_ ≠ (u333001 : Value).ownBlock) (Kd.R_types (Kd.R_apart' (HO_352003.out) (Kd.S_typed HO_333001.out) (by decide)) BK351.out (by decide)) (fun k_ hk => ⟨hk.2, hk.1.2⟩))) (fun _ h_ => Or.inl h_)) (Kd.R_mono (Kd.R_tight rfl (Kd.R_mono (ok' := fun k_ => ((fun k_ => k_ ≠ gb351)) k_ ∧ some k_ ≠ (u333001 : Value).ownBlock) (Kd.R_types (Kd.R_apart' (HO_352004.out) (Kd.S_typed HO_333001.out) (by decide)) BK351.out (by decide)) (fun k_ hk => ⟨hk.2, hk.1.2⟩))) (fun _ h_ => Or.inr (Or.inl h_))) (Kd.R_mono (Kd.R_tight rfl (Kd.R_mono (ok' := fun k_ => ((fun k_ => k_ ≠ gb351)) k_ ∧ some k_ ≠ (u333001 : Value).ownBlock) (Kd.R_types (Kd.R_apart' (HO_352005.out) (Kd.S_typed HO_333001.out) (by decide)) BK351.out (by decide)) (fun k_ hk => ⟨hk.2, hk.1.2⟩))) (fun _ h_ => Or.inr (Or.inr (h_))))); (case aB => exact (hbq HB.out)); (case aF => exact (fun k_ hk => Kd.freshB (g := gb351) (o := .cells #[.string (((⟨#[116]⟩ : ByteArray) ++ (strOfNums y348)) ++ (⟨#[46, 120]⟩ : ByteArray)), .int .i64 (wrap64 (Int.tmod ((rd_T60 l0_1 x7_2).f0) 5)), .int .i64 (wrap64 (Int.tmod ((rd_T60 l0_1 x7_2).f1) 3)), .slice Ao164 x352003_54.length co164, .slice Ao165 x352004_86.length co165, .slice Ao166 x352005_112.length co166] 54 (0, 0)) (bkq BK351.out) k_ hk)); (case aO => exact (by refine kq_S ?_; exact Kd.S_mono HO_333001.out (fun k_ hk => ⟨hk.2.2.2, fun e_ => e_.elim (fun h_ => hk.1 h_) (fun h_ => h_.elim (fun h_ => hk.2.1 h_) (fun h_ => hk.2.2.1 h_))⟩))); (case aS => exact (below_size (hbq HB.out))); (case aL => have := LMc150.out; omega); intro v371 w163 ho hb hg hat; rw [← Ny370.out] at ho; have n0_ := Aside0.mk (Kd.R_over' (kq_R HO_333000.out) (Kd.S_typed (kq_S HO_333001.out)) (by decide) hg); have n1_ := Aside0.mk (blk_grown (g := gb330) (o := .cells #[.slice A0_0 l0_0.length c0_0, .slice (some ad346) l0_1.length c0_1] 25 (0, 0)) (bkq BK330.out) hg (Kd.S_ne HO_333001.out BK330.out (by decide))); have n2_ := Aside0.mk (blk_grown (g := gb331) (o := .cells #[.slice none 0 0, .slice none 0 0] 31 (0, 0)) (bkq BK331.out) hg (Kd.S_ne HO_333001.out BK331.out (by decide))); have n3_ := Aside0.mk (blk_grown (g := gb332) (o := .cells #[.slice Ao39 x333000_1.length co39, u333001] 31 (0, 0)) (bkq BK332.out) hg (Kd.S_ne HO_333001.out BK332.out (by decide))); have n4_ := Aside0.mk (blk_grown (g := gb347) (o := .cells #[.int .u8 ((rd_T60 l0_1 x7_2).f0), .int .u8 ((rd_T60 l0_1 x7_2).f1), .int .u8 ((rd_T60 l0_1 x7_2).f2), .int .u8 ((rd_T60 l0_1 x7_2).f3), .int .u8 ((rd_T60 l0_1 x7_2).f4), .int .u8 ((rd_T60 l0_1 x7_2).f5), .int .u8 ((rd_T60 l0_1 x7_2).f6)] 60 (0, 0)) (bkq BK347.out) hg (Kd.S_ne HO_333001.out BK347.out (by decide))); have n5_ := Aside0.mk (blk_grown (g := gb351) (o := .cells #[.string (((⟨#[116]⟩ : ByteArray) ++ (strOfNums y348)) ++ (⟨#[46, 120]⟩ : ByteArray)), .int .i64 (wrap64 (Int.tmod ((rd_T60 l0_1 x7_2).f0) 5)), .int .i64 (wrap64 (Int.tmod ((rd_T60 l0_1 x7_2).f1) 3)), .slice Ao164 x352003_54.length co164, .slice Ao165 x352004_86.length co165, .slice Ao166 x352005_112.length co166] 54 (0, 0)) (bkq BK351.out) hg (Kd.S_away HO_333001.out (fun _ hk => hk.2.2.2))); have n6_ := Aside0.mk (hb); have n7_ := Aside0.mk (ho); clear HO_333000; clear BK330; clear BK331; clear BK332; clear BK347; clear BK351; clear HB; clear HO_333001; clear HO_352003; clear HO_352004; clear HO_352005; have HO_333000 := n0_; have BK330 := n1_; have BK331 := n2_; have BK332 := n3_; have BK347 := n4_; have BK351 := n5_; have HB := n6_; have HO372 := n7_; clear n0_ n1_ n2_ n3_ n4_ n5_ n6_ n7_; clear ho hb hg hat; obtain ⟨Ao167, co167, eo167⟩ := Kd.S_slice HO372.out; subst eo167; have hcz168_0 : w163.cell? ⟨gb332, 0, none⟩ = some (.slice Ao39 x333000_1.length co39) := (blk_cell BK332.out 0).trans rfl; have hcz168_1 : w163.cell? ⟨gb332, 1, none⟩ = some (u333001) := (blk_cell BK332.out 1).trans rfl; have hfz168_0 := blk_frozen BK332.out 0; have hfz168_1 := blk_frozen BK332.out 1))
          go_roundg kj112
          case measure => have := HK1.out; have := HK2.out; have := HJ39.out; have := HJ54.out; have := HJ86.out; have := HJ99.out; have := HJ112.out; omega
          case rel => exact ⟨(wrap64 (x7_2 + 1)), (y370), (.slice Ao167 y370.length co167), (by first | rfl | (simp; done) | (simp [*]; done)), H', ⟨by have := HK1.out; have := HK2.out; have := HJ39.out; have := HJ54.out; have := HJ86.out; have := HJ99.out; have := HJ112.out; omega⟩, ⟨by refine kq_R ?_; exact Kd.R_mono (Kd.R_far (p := ⟨gb332, 1, none⟩) (Kd.R_types HO_333000.out BK332.out (by decide)) (fun _ hk => hk.2) (.slice Ao167 y370.length co167)) (fun _ hk => trivial)⟩, ⟨by refine kq_S ?_; exact Kd.S_mono (Kd.S_far (p := ⟨gb332, 1, none⟩) (Kd.S_types HO372.out BK332.out (by decide)) (fun _ hk => hk.2) (.slice Ao167 y370.length co167)) (fun _ hk => trivial)⟩, ⟨by refine bkq ?_; refine blk_far ?_ NB330_332.out _; refine bkq ?_; exact BK330.out⟩, ⟨by refine bkq ?_; refine blk_far ?_ NB331_332.out _; refine bkq ?_; exact BK331.out⟩, ⟨by refine bkq ?_; refine blk_put (cs := #[.slice Ao39 x333000_1.length co39, u333001]) ?_ 1 _ rfl; refine bkq ?_; exact BK332.out⟩, ⟨hbq HB.out⟩⟩
         rw [if_neg c127] at H
         have c127b0 : ((wrap64 (Int.tmod ((rd_T60 l0_1 x7_2).f0) 5)) == 0) = false := beq_eq_false_iff_ne.mpr c127
         have c127b1 : ((wrap64 (Int.tmod ((rd_T60 l0_1 x7_2).f0) 5)) != 0) = true := bne_iff_ne.mpr c127
         by_cases c169 : x333001_2.length < 1353245080339
         case neg => rw [if_neg c169] at H; exact absurd H (by simp)
         rw [if_pos c169] at H
         have LMc169 := Aside0.mk c169
         clear c169
         obtain ⟨y373, hy373⟩ : ∃ y_ : List (S54), y_ = (x333001_2 ++ [(⟨(((⟨#[116]⟩ : ByteArray) ++ (strOfNums y348)) ++ (⟨#[46, 120]⟩ : ByteArray)), (wrap64 (Int.tmod ((rd_T60 l0_1 x7_2).f0) 5)), (wrap64 (Int.tmod ((rd_T60 l0_1 x7_2).f1) 3)), x352003_54, x352004_86, x352005_112⟩ : S54)]) := ⟨_, rfl⟩
         replace H : (marblerunref05_Make.l1 kj112 (x333000_1.length : Int) (wrap64 (x7_2 + 1)) l0_0 l0_1 x333000_1 y373) = some (r1, r2) := by first | (rw [hy373]; with_reducible exact H) | (have H2_ := (Option.bind_some _ _).symm.trans H; rw [hy373]; with_reducible exact H2_) | (have H2_ := (Option.bind_some _ _).symm.trans H; with_reducible exact H2_) | with_reducible exact H | (rw [hy373]; exact H) | exact H
         have Ny373 := Aside0.mk hy373
         clear hy373
         have H' := Aside0.mk H
         clear H
         have hnb170 := NB351_330.out
         have hnc170 := NB330_351.out
         have hnb171 := NB351_331.out
         have hnc171 := NB331_351.out
         have hnb172 := NB351_332.out
         have hnc172 := NB332_351.out
         have hnb173 := NB351_347.out
         have hnc173 := NB347_351.out
         have hcz174_0 : wc.cell? ⟨gb351, 0, none⟩ = some (.string (((⟨#[116]⟩ : ByteArray) ++ (strOfNums y348)) ++ (⟨#[46, 120]⟩ : ByteArray))) := (blk_cell BK351.out 0).trans rfl
         have hcz174_1 : wc.cell? ⟨gb351, 1, none⟩ = some (.int .i64 (wrap64 (Int.tmod ((rd_T60 l0_1 x7_2).f0) 5))) := (blk_cell BK351.out 1).trans rfl
         have hcz174_2 : wc.cell? ⟨gb351, 2, none⟩ = some (.int .i64 (wrap64 (Int.tmod ((rd_T60 l0_1 x7_2).f1) 3))) := (blk_cell BK351.out 2).trans rfl
         have hcz174_3 : wc.cell? ⟨gb351, 3, none⟩ = some (u352003) := (blk_cell BK351.out 3).trans rfl
         have hcz174_4 : wc.cell? ⟨gb351, 4, none⟩ = some (u352004) := (blk_cell BK351.out 4).trans rfl
         have hcz174_5 : wc.cell? ⟨gb351, 5, none⟩ = some (u352005) := (blk_cell BK351.out 5).trans rfl
         have hfz174_0 := blk_frozen BK351.out 0
         have hfz174_1 := blk_frozen BK351.out 1
         have hfz174_2 := blk_frozen BK351.out 2
         have hfz174_3 := blk_frozen BK351.out 3
         have hfz174_4 := blk_frozen BK351.out 4
         have hfz174_5 := blk_frozen BK351.out 5
         have hnb175 := NB332_330.out
         have hnc175 := NB330_332.out
         have hnb176 := NB332_331.out
         have hnc176 := NB331_332.out
         have hnb177 := NB332_347.out
         have hnc177 := NB347_332.out
         have hcz178_0 : wc.cell? ⟨gb332, 0, none⟩ = some (.slice Ao39 x333000_1.length co39) := (blk_cell BK332.out 0).trans rfl
         have hcz178_1 : wc.cell? ⟨gb332, 1, none⟩ = some (u333001) := (blk_cell BK332.out 1).trans rfl
         have hfz178_0 := blk_frozen BK332.out 0
         have hfz178_1 := blk_frozen BK332.out 1
         obtain ⟨Ao180, co180, eo180⟩ := Kd.R_slice HO_352003.out
         subst eo180
         obtain ⟨Ao181, co181, eo181⟩ := Kd.R_slice HO_352004.out
         subst eo181
         obtain ⟨Ao182, co182, eo182⟩ := Kd.R_slice HO_352005.out
         subst eo182
         go_wp2_with (first | ((with_reducible refine gate_builtin (b := .append) (xs := #[.tmp 170, .tmp 172]) rfl ?_); at_builtin; refine Kd.S_append k54 (w0 := w) w.heap.size rfl (.tmp 170) (.tmp 172) 29 54 (.agg #[(.string ⟨#[]⟩), (.int .i64 0), (.int .i64 0), (.slice none 0 0), (.slice none 0 0), (.slice none 0 0)]) 104 rfl Try.underlying29 info54 rfl (by decide) (by omega) u333001 x333001_2 (⟨(((⟨#[116]⟩ : ByteArray) ++ (strOfNums y348)) ++ (⟨#[46, 120]⟩ : ByteArray)), (wrap64 (Int.tmod ((rd_T60 l0_1 x7_2).f0) 5)), (wrap64 (Int.tmod ((rd_T60 l0_1 x7_2).f1) 3)), x352003_54, x352004_86, x352005_112⟩ : S54) [.string (((⟨#[116]⟩ : ByteArray) ++ (strOfNums y348)) ++ (⟨#[46, 120]⟩ : ByteArray)), .int .i64 (wrap64 (Int.tmod ((rd_T60 l0_1 x7_2).f0) 5)), .int .i64 (wrap64 (Int.tmod ((rd_T60 l0_1 x7_2).f1) 3)), .slice Ao180 x352003_54.length co180, .slice Ao181 x352004_86.length co181, .slice Ao182 x352005_112.length co182] (fun k_ => k_ ≠ gb351) (fun k_ => some k_ = (.slice Ao180 x352003_54.length co180 : Value).ownBlock ∨ some k_ = (.slice Ao181 x352004_86.length co181 : Value).ownBlock ∨ some k_ = (.slice Ao182 x352005_112.length co182 : Value).ownBlock) rfl rfl ?aP (fun k_ hk_ => hk_.elim (fun h_ => ((Kd.R_mono (ok' := fun k_ => ((fun k_ => k_ ≠ gb351)) k_ ∧ some k_ ≠ (u333001 : Value).ownBlock) (Kd.R_types (Kd.R_apart' (HO_352003.out) (Kd.S_typed HO_333001.out) (by decide)) BK351.out (by decide)) (fun k_ hk => ⟨hk.2, hk.1.2⟩))).1 k_ h_.symm) (fun h_ => h_.elim (fun h_ => ((Kd.R_mono (ok' := fun k_ => ((fun k_ => k_ ≠ gb351)) k_ ∧ some k_ ≠ (u333001 : Value).ownBlock) (Kd.R_types (Kd.R_apart' (HO_352004.out) (Kd.S_typed HO_333001.out) (by decide)) BK351.out (by decide)) (fun k_ hk => ⟨hk.2, hk.1.2⟩))).1 k_ h_.symm) (fun h_ => ((Kd.R_mono (ok' := fun k_ => ((fun k_ => k_ ≠ gb351)) k_ ∧ some k_ ≠ (u333001 : Value).ownBlock) (Kd.R_types (Kd.R_apart' (HO_352005.out) (Kd.S_typed HO_333001.out) (by decide)) BK351.out (by decide)) (fun k_ hk => ⟨hk.2, hk.1.2⟩))).1 k_ h_.symm))) ?aF ?aO ?aB ?aS ?aL ?_; (case aP => exact k54_mkM _ _ _ (⟨(((⟨#[116]⟩ : ByteArray) ++ (strOfNums y348)) ++ (⟨#[46, 120]⟩ : ByteArray)), (wrap64 (Int.tmod ((rd_T60 l0_1 x7_2).f0) 5)), (wrap64 (Int.tmod ((rd_T60 l0_1 x7_2).f1) 3)), x352003_54, x352004_86, x352005_112⟩ : S54) (Kd.R_mono (Kd.R_tight rfl (Kd.R_mono (ok' := fun k_ => ((fun k_ => k_ ≠ gb351)) k_ ∧ some k_ ≠ (u333001 : Value).ownBlock) (Kd.R_types (Kd.R_apart' (HO_352003.out) (Kd.S_typed HO_333001.out) (by decide)) BK351.out (by decide)) (fun k_ hk => ⟨hk.2, hk.1.2⟩))) (fun _ h_ => Or.inl h_)) (Kd.R_mono (Kd.R_tight rfl (Kd.R_mono (ok' := fun k_ => ((fun k_ => k_ ≠ gb351)) k_ ∧ some k_ ≠ (u333001 : Value).ownBlock) (Kd.R_types (Kd.R_apart' (HO_352004.out) (Kd.S_typed HO_333001.out) (by decide)) BK351.out (by decide)) (fun k_ hk => ⟨hk.2, hk.1.2⟩))) (fun _ h_ => Or.inr (Or.inl h_))) (Kd.R_mono (Kd.R_tight rfl (Kd.R_mono (ok' := fun k_ => ((fun k_ => k_ ≠ gb351)) k_ ∧ some k_ ≠ (u333001 : Value).ownBlock) (Kd.R_types (Kd.R_apart' (HO_352005.out) (Kd.S_typed HO_333001.out) (by decide)) BK351.out (by decide)) (fun k_ hk => ⟨hk.2, hk.1.2⟩))) (fun _ h_ => Or.inr (Or.inr (h_))))); (case aB => exact (hbq HB.out)); (case aF => exact (fun k_ hk => Kd.freshB (g := gb351) (o := .cells #[.string (((⟨#[116]⟩ : ByteArray) ++ (strOfNums y348)) ++ (⟨#[46, 120]⟩ : ByteArray)), .int .i64 (wrap64 (Int.tmod ((rd_T60 l0_1 x7_2).f0) 5)), .int .i64 (wrap64 (Int.tmod ((rd_T60 l0_1 x7_2).f1) 3)), .slice Ao180 x352003_54.length co180, .slice Ao181 x352004_86.length co181, .slice Ao182 x352005_112.length co182] 54 (0, 0)) (bkq BK351.out) k_ hk)); (case aO => exact (by refine kq_S ?_; exact Kd.S_mono HO_333001.out (fun k_ hk => ⟨hk.2.2.2, fun e_ => e_.elim (fun h_ => hk.1 h_) (fun h_ => h_.elim (fun h_ => hk.2.1 h_) (fun h_ => hk.2.2.1 h_))⟩))); (case aS => exact (below_size (hbq HB.out))); (case aL => have := LMc169.out; omega); intro v374 w179 ho hb hg hat; rw [← Ny373.out] at ho; have n0_ := Aside0.mk (Kd.R_over' (kq_R HO_333000.out) (Kd.S_typed (kq_S HO_333001.out)) (by decide) hg); have n1_ := Aside0.mk (blk_grown (g := gb330) (o := .cells #[.slice A0_0 l0_0.length c0_0, .slice (some ad346) l0_1.length c0_1] 25 (0, 0)) (bkq BK330.out) hg (Kd.S_ne HO_333001.out BK330.out (by decide))); have n2_ := Aside0.mk (blk_grown (g := gb331) (o := .cells #[.slice none 0 0, .slice none 0 0] 31 (0, 0)) (bkq BK331.out) hg (Kd.S_ne HO_333001.out BK331.out (by decide))); have n3_ := Aside0.mk (blk_grown (g := gb332) (o := .cells #[.slice Ao39 x333000_1.length co39, u333001] 31 (0, 0)) (bkq BK332.out) hg (Kd.S_ne HO_333001.out BK332.out (by decide))); have n4_ := Aside0.mk (blk_grown (g := gb347) (o := .cells #[.int .u8 ((rd_T60 l0_1 x7_2).f0), .int .u8 ((rd_T60 l0_1 x7_2).f1), .int .u8 ((rd_T60 l0_1 x7_2).f2), .int .u8 ((rd_T60 l0_1 x7_2).f3), .int .u8 ((rd_T60 l0_1 x7_2).f4), .int .u8 ((rd_T60 l0_1 x7_2).f5), .int .u8 ((rd_T60 l0_1 x7_2).f6)] 60 (0, 0)) (bkq BK347.out) hg (Kd.S_ne HO_333001.out BK347.out (by decide))); have n5_ := Aside0.mk (blk_grown (g := gb351) (o := .cells #[.string (((⟨#[116]⟩ : ByteArray) ++ (strOfNums y348)) ++ (⟨#[46, 120]⟩ : ByteArray)), .int .i64 (wrap64 (Int.tmod ((rd_T60 l0_1 x7_2).f0) 5)), .int .i64 (wrap64 (Int.tmod ((rd_T60 l0_1 x7_2).f1) 3)), .slice Ao180 x352003_54.length co180, .slice Ao181 x352004_86.length co181, .slice Ao182 x352005_112.length co182] 54 (0, 0)) (bkq BK351.out) hg (Kd.S_away HO_333001.out (fun _ hk => hk.2.2.2))); have n6_ := Aside0.mk (hb); have n7_ := Aside0.mk (ho); clear HO_333000; clear BK330; clear BK331; clear BK332; clear BK347; clear BK351; clear HB; clear HO_333001; clear HO_352003; clear HO_352004; clear HO_352005; have HO_333000 := n0_; have BK330 := n1_; have BK331 := n2_; have BK332 := n3_; have BK347 := n4_; have BK351 := n5_; have HB := n6_; have HO375 := n7_; clear n0_ n1_ n2_ n3_ n4_ n5_ n6_ n7_; clear ho hb hg hat; obtain ⟨Ao183, co183, eo183⟩ := Kd.S_slice HO375.out; subst eo183; have hcz184_0 : w179.cell? ⟨gb332, 0, none⟩ = some (.slice Ao39 x333000_1.length co39) := (blk_cell BK332.out 0).trans rfl; have hcz184_1 : w179.cell? ⟨gb332, 1, none⟩ = some (u333001) := (blk_cell BK332.out 1).trans rfl; have hfz184_0 := blk_frozen BK332.out 0; have hfz184_1 := blk_frozen BK332.out 1))
         go_roundg kj112
         case measure => have := HK1.out; have := HK2.out; have := HJ39.out; have := HJ54.out; have := HJ86.out; have := HJ99.out; have := HJ112.out; omega
         case rel => exact ⟨(wrap64 (x7_2 + 1)), (y373), (.slice Ao183 y373.length co183), (by first | rfl | (simp; done) | (simp [*]; done)), H', ⟨by have := HK1.out; have := HK2.out; have := HJ39.out; have := HJ54.out; have := HJ86.out; have := HJ99.out; have := HJ112.out; omega⟩, ⟨by refine kq_R ?_; exact Kd.R_mono (Kd.R_far (p := ⟨gb332, 1, none⟩) (Kd.R_types HO_333000.out BK332.out (by decide)) (fun _ hk => hk.2) (.slice Ao183 y373.length co183)) (fun _ hk => trivial)⟩, ⟨by refine kq_S ?_; exact Kd.S_mono (Kd.S_far (p := ⟨gb332, 1, none⟩) (Kd.S_types HO375.out BK332.out (by decide)) (fun _ hk => hk.2) (.slice Ao183 y373.length co183)) (fun _ hk => trivial)⟩, ⟨by refine bkq ?_; refine blk_far ?_ NB330_332.out _; refine bkq ?_; exact BK330.out⟩, ⟨by refine bkq ?_; refine blk_far ?_ NB331_332.out _; refine bkq ?_; exact BK331.out⟩, ⟨by refine bkq ?_; refine blk_put (cs := #[.slice Ao39 x333000_1.length co39, u333001]) ?_ 1 _ rfl; refine bkq ?_; exact BK332.out⟩, ⟨hbq HB.out⟩⟩
    replace c48 := Bool.eq_false_iff.mpr c48
    subst c48
    have H1 : (some (x333000_1, x333001_2)) = some (r1, r2) := by rw [if_neg (show ¬ (false = true) by decide)] at H; exact H
    clear H
    have H := H1
    clear H1
    simp only [Option.some.injEq, Prod.mk.injEq] at H
    obtain ⟨rfl, rfl⟩ := H
    have hnb185 := NB332_330.out
    have hnc185 := NB330_332.out
    have hnb186 := NB332_331.out
    have hnc186 := NB331_332.out
    have hcz187_0 : wc.cell? ⟨gb332, 0, none⟩ = some (.slice Ao39 x333000_1.length co39) := (blk_cell BK332.out 0).trans rfl
    have hcz187_1 : wc.cell? ⟨gb332, 1, none⟩ = some (u333001) := (blk_cell BK332.out 1).trans rfl
    have hfz187_0 := blk_frozen BK332.out 0
    have hfz187_1 := blk_frozen BK332.out 1
    have hnb188 := NB331_330.out
    have hnc188 := NB330_331.out
    have hcz189_0 : wc.cell? ⟨gb331, 0, none⟩ = some (.slice none 0 0) := (blk_cell BK331.out 0).trans rfl
    have hcz189_1 : wc.cell? ⟨gb331, 1, none⟩ = some (.slice none 0 0) := (blk_cell BK331.out 1).trans rfl
    have hfz189_0 := blk_frozen BK331.out 0
    have hfz189_1 := blk_frozen BK331.out 1
    obtain ⟨Ao190, co190, eo190⟩ := Kd.S_slice HO_333001.out
    subst eo190
    go_wp2
    refine bodyPost_ret (results_cell_row rfl _ _ gb331 31 #[.slice Ao39 x333000_1.length co39, .slice Ao190 x333001_2.length co190] (0, 0) _ rfl (by refine bkq ?_; refine blk_put (cs := #[.slice Ao39 x333000_1.length co39, .slice none 0 0]) ?_ 1 _ rfl; refine bkq ?_; refine blk_put (cs := #[.slice none 0 0, .slice none 0 0]) ?_ 0 _ rfl; refine bkq ?_; exact BK331.out) Try.underlying31 rfl (by kernel_rfl)) rfl ?_
    exact ⟨_, _, by first | rfl | (simp [errW_none, errW_some] <;> rfl) | (simp [*, errW_none, errW_some] <;> rfl), by refine kq_R ?_; exact Kd.R_mono (Kd.R_far (p := ⟨gb331, 1, none⟩) (Kd.R_far (p := ⟨gb331, 0, none⟩) (Kd.R_types HO_333000.out BK331.out (by decide)) (fun _ hk => hk.2) (.slice Ao39 x333000_1.length co39)) (fun _ hk => hk.2) (.slice Ao190 x333001_2.length co190)) (fun _ hk => trivial), by refine kq_S ?_; exact Kd.S_mono (Kd.S_far (p := ⟨gb331, 1, none⟩) (Kd.S_far (p := ⟨gb331, 0, none⟩) (Kd.S_types HO_333001.out BK331.out (by decide)) (fun _ hk => hk.2) (.slice Ao39 x333000_1.length co39)) (fun _ hk => hk.2) (.slice Ao190 x333001_2.length co190)) (fun _ hk => trivial), hbq HB.out⟩

end Go.Proofs.Ytifbflpaednfnaa.PBasisMore
