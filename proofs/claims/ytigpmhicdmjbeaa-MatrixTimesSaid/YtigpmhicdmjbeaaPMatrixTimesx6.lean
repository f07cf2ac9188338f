/- What the functions that this law reaches answer, in whatever memory, and the row of the law; no condition. Written by a program of this session (mk.sh). -/
import Derived.Test.YtigpmhicdmjbeaaPMatrixTimesx0
import Derived.Test.YtigpmhicdmjbeaaPMatrixTimesx2
import Derived.Test.YtigpmhicdmjbeaaPMatrixTimesx3
import Derived.Test.YtigpmhicdmjbeaaPMatrixTimesx4
import Derived.Test.YtigpmhicdmjbeaaPMatrixTimesx5
namespace Go.Proofs.Ytigpmhicdmjbeaa.PMatrixTimes
open Go.RowKit Go.Proofs.YtigpmhicdmjbeaaW.PrintWords Go.Proofs.YtigpmhicdmjbeaaW.PrintLast Go.Proofs.YtigpmhicdmjbeaaW.PrintMore
attribute [local go_sem] max2_int min2_int max_two min_two max_three min_three max_four min_four   -- for this text's walks alone
set_option linter.unusedVariables false
set_option linter.unusedSimpArgs false

/-! ### marblerunlaw11_MatrixTimes: function 10 -/
mutual
def marblerunlaw11_MatrixTimes.j0 : Nat → List Int → Int → Int → List Int → Bool → Option (Bool)
  | 0, _, _, _, _, _ => none
  | k + 1, x0, x1, x2, x3, x36 => if x36 = true then ((marblerunlaw11_awake.f k).bind fun t225 => (some t225)) else ((marblerunlaw11_square.f k x0 x1 x2).bind fun t226 => ((matrix_Left.f k x3 t226).bind fun bt229 => ((matrix_Right.f k t226 x3).bind fun bt233 => (marblerunlaw11_MatrixTimes.l0 k x3 t226 bt229.1 bt229.2 bt233.1 bt233.2 (wrap64 (Int.tmod x2 5)) ((x3.length : Int) == (t226.length : Int)) 0))))
def marblerunlaw11_MatrixTimes.j4 : Nat → List Int → List (List Int) → List Int → Bool → List Int → Bool → Int → Bool → Option (Bool)
  | 0, _, _, _, _, _, _, _, _ => none
  | k + 1, x3, x9, x10, x11, x12, x13, x14, x15 => if (x11 != x15) = true then (marblerunlaw11_MatrixTimes.j5 k x3 x9 x12 x13 x14 true) else (if x11 = true then (marblerunlaw11_MatrixTimes.j5 k x3 x9 x12 x13 x14 false) else (marblerunlaw11_MatrixTimes.j5 k x3 x9 x12 x13 x14 ((x10.length : Int) != 0)))
def marblerunlaw11_MatrixTimes.j5 : Nat → List Int → List (List Int) → List Int → Bool → Int → Bool → Option (Bool)
  | 0, _, _, _, _, _, _ => none
  | k + 1, x3, x9, x12, x13, x14, x125 => if x125 = true then (some false) else (marblerunlaw11_MatrixTimes.l2 k x3 x9 x12 x13 x14 true 0)
def marblerunlaw11_MatrixTimes.l2 : Nat → List Int → List (List Int) → List Int → Bool → Int → Bool → Int → Option (Bool)
  | 0, _, _, _, _, _, _, _ => none
  | k + 1, x3, x9, x12, x13, x14, x21, x22 => if x22 < (x9.length : Int) then (if 0 ≤ x22 then ((marblerunref01_Dot.f k (rd_L1 x9 x22) x3).bind fun bt246 => (if bt246.2 = true then (marblerunlaw11_MatrixTimes.j7 k x3 x9 x12 x13 x14 x21 x22 bt246.1 ((x3.length : Int) != x14)) else (marblerunlaw11_MatrixTimes.j7 k x3 x9 x12 x13 x14 x21 x22 bt246.1 true))) else (none)) else (if (x13 == x21) = true then (if x13 = true then (some true) else (some ((x12.length : Int) == 0))) else (some false))
def marblerunlaw11_MatrixTimes.j7 : Nat → List Int → List (List Int) → List Int → Bool → Int → Bool → Int → Int → Bool → Option (Bool)
  | 0, _, _, _, _, _, _, _, _, _ => none
  | k + 1, x3, x9, x12, x13, x14, x21, x22, x23, x148 => if x148 = true then (if (x13 == false) = true then (if x13 = true then (some true) else (some ((x12.length : Int) == 0))) else (some false)) else (if x13 = true then (if (x12.length : Int) = (x9.length : Int) then (if 0 ≤ x22 then (if x22 < (x12.length : Int) then (if (rd x12 x22) = x23 then (marblerunlaw11_MatrixTimes.l2 k x3 x9 x12 x13 x14 x21 (wrap64 (x22 + 1))) else (some false)) else (none)) else (none)) else (some false)) else (marblerunlaw11_MatrixTimes.l2 k x3 x9 x12 x13 x14 x21 (wrap64 (x22 + 1))))
def marblerunlaw11_MatrixTimes.l0 : Nat → List Int → List (List Int) → List Int → Bool → List Int → Bool → Int → Bool → Int → Option (Bool)
  | 0, _, _, _, _, _, _, _, _, _ => none
  | k + 1, x3, x9, x10, x11, x12, x13, x14, x15, x16 => if x15 = true then (if (x9.length : Int) > 0 then (marblerunlaw11_MatrixTimes.j2 k x3 x9 x10 x11 x12 x13 x14 x15 x16 (decide (x16 < x14))) else (marblerunlaw11_MatrixTimes.j2 k x3 x9 x10 x11 x12 x13 x14 x15 x16 false)) else (marblerunlaw11_MatrixTimes.j2 k x3 x9 x10 x11 x12 x13 x14 x15 x16 false)
def marblerunlaw11_MatrixTimes.j2 : Nat → List Int → List (List Int) → List Int → Bool → List Int → Bool → Int → Bool → Int → Bool → Option (Bool)
  | 0, _, _, _, _, _, _, _, _, _, _ => none
  | k + 1, x3, x9, x10, x11, x12, x13, x14, x15, x16, x72 => if x72 = true then (marblerunlaw11_MatrixTimes.l1 k x3 x9 x10 x11 x12 x13 x14 x15 x16 ([] : List Int) 0) else (marblerunlaw11_MatrixTimes.j4 k x3 x9 x10 x11 x12 x13 x14 x15)
def marblerunlaw11_MatrixTimes.l1 : Nat → List Int → List (List Int) → List Int → Bool → List Int → Bool → Int → Bool → Int → List Int → Int → Option (Bool)
  | 0, _, _, _, _, _, _, _, _, _, _, _ => none
  | k + 1, x3, x9, x10, x11, x12, x13, x14, x15, x16, x17, x18 => if x18 < (x9.length : Int) then (if 0 ≤ x18 then (if 0 ≤ x16 then (if x16 < ((rd_L1 x9 x18).length : Int) then (if x17.length < 17592186044416 then (marblerunlaw11_MatrixTimes.l1 k x3 x9 x10 x11 x12 x13 x14 x15 x16 (x17 ++ [rd (rd_L1 x9 x18) x16]) (wrap64 (x18 + 1))) else (none)) else (none)) else (none)) else (none)) else ((marblerunref01_Dot.f k x3 x17).bind fun bt242 => (if bt242.2 = true then (if x11 = true then (if (x10.length : Int) = x14 then (if 0 ≤ x16 then (if x16 < (x10.length : Int) then (if (rd x10 x16) = bt242.1 then (marblerunlaw11_MatrixTimes.l0 k x3 x9 x10 x11 x12 x13 x14 x15 (wrap64 (x16 + 1))) else (some false)) else (none)) else (none)) else (some false)) else (marblerunlaw11_MatrixTimes.l0 k x3 x9 x10 x11 x12 x13 x14 x15 (wrap64 (x16 + 1)))) else (marblerunlaw11_MatrixTimes.j4 k x3 x9 x10 x11 x12 x13 x14 false)))
end
def marblerunlaw11_MatrixTimes.f (k : Nat) (l0 : List Int) (a1 : Int) (a2 : Int) (l3 : List Int) : Option (Bool) := (marblerunlaw11_awake.f k).bind fun t224 => (if t224 = true then (if (l0.length : Int) > 30 then (marblerunlaw11_MatrixTimes.j0 k l0 a1 a2 l3 true) else (marblerunlaw11_MatrixTimes.j0 k l0 a1 a2 l3 (decide ((l3.length : Int) > 8)))) else (marblerunlaw11_MatrixTimes.j0 k l0 a1 a2 l3 true))
theorem marblerunlaw11_MatrixTimes.mono_l : ∀ k, (∀ y0 y1 y2 y3 y4, LeO (marblerunlaw11_MatrixTimes.j0 k y0 y1 y2 y3 y4) (marblerunlaw11_MatrixTimes.j0 (k + 1) y0 y1 y2 y3 y4)) ∧ (∀ y0 y1 y2 y3 y4 y5 y6 y7, LeO (marblerunlaw11_MatrixTimes.j4 k y0 y1 y2 y3 y4 y5 y6 y7) (marblerunlaw11_MatrixTimes.j4 (k + 1) y0 y1 y2 y3 y4 y5 y6 y7)) ∧ (∀ y0 y1 y2 y3 y4 y5, LeO (marblerunlaw11_MatrixTimes.j5 k y0 y1 y2 y3 y4 y5) (marblerunlaw11_MatrixTimes.j5 (k + 1) y0 y1 y2 y3 y4 y5)) ∧ (∀ y0 y1 y2 y3 y4 y5 y6, LeO (marblerunlaw11_MatrixTimes.l2 k y0 y1 y2 y3 y4 y5 y6) (marblerunlaw11_MatrixTimes.l2 (k + 1) y0 y1 y2 y3 y4 y5 y6)) ∧ (∀ y0 y1 y2 y3 y4 y5 y6 y7 y8, LeO (marblerunlaw11_MatrixTimes.j7 k y0 y1 y2 y3 y4 y5 y6 y7 y8) (marblerunlaw11_MatrixTimes.j7 (k + 1) y0 y1 y2 y3 y4 y5 y6 y7 y8)) ∧ (∀ y0 y1 y2 y3 y4 y5 y6 y7 y8, LeO (marblerunlaw11_MatrixTimes.l0 k y0 y1 y2 y3 y4 y5 y6 y7 y8) (marblerunlaw11_MatrixTimes.l0 (k + 1) y0 y1 y2 y3 y4 y5 y6 y7 y8)) ∧ (∀ y0 y1 y2 y3 y4 y5 y6 y7 y8 y9, LeO (marblerunlaw11_MatrixTimes.j2 k y0 y1 y2 y3 y4 y5 y6 y7 y8 y9) (marblerunlaw11_MatrixTimes.j2 (k + 1) y0 y1 y2 y3 y4 y5 y6 y7 y8 y9)) ∧ (∀ y0 y1 y2 y3 y4 y5 y6 y7 y8 y9 y10, LeO (marblerunlaw11_MatrixTimes.l1 k y0 y1 y2 y3 y4 y5 y6 y7 y8 y9 y10) (marblerunlaw11_MatrixTimes.l1 (k + 1) y0 y1 y2 y3 y4 y5 y6 y7 y8 y9 y10))
  | 0 => ⟨fun _ _ _ _ _ r h => by simp [marblerunlaw11_MatrixTimes.j0] at h, fun _ _ _ _ _ _ _ _ r h => by simp [marblerunlaw11_MatrixTimes.j4] at h, fun _ _ _ _ _ _ r h => by simp [marblerunlaw11_MatrixTimes.j5] at h, fun _ _ _ _ _ _ _ r h => by simp [marblerunlaw11_MatrixTimes.l2] at h, fun _ _ _ _ _ _ _ _ _ r h => by simp [marblerunlaw11_MatrixTimes.j7] at h, fun _ _ _ _ _ _ _ _ _ r h => by simp [marblerunlaw11_MatrixTimes.l0] at h, fun _ _ _ _ _ _ _ _ _ _ r h => by simp [marblerunlaw11_MatrixTimes.j2] at h, fun _ _ _ _ _ _ _ _ _ _ _ r h => by simp [marblerunlaw11_MatrixTimes.l1] at h⟩
  | k + 1 => by
    obtain ⟨ih0, ih1, ih2, ih3, ih4, ih5, ih6, ih7⟩ := marblerunlaw11_MatrixTimes.mono_l k
    refine ⟨?_, ?_, ?_, ?_, ?_, ?_, ?_, ?_⟩
    · intro y0 y1 y2 y3 y4
      unfold marblerunlaw11_MatrixTimes.j0
      repeat' first
      | (with_reducible exact ih0 _ _ _ _ _)
      | (with_reducible exact ih1 _ _ _ _ _ _ _ _)
      | (with_reducible exact ih2 _ _ _ _ _ _)
      | (with_reducible exact ih3 _ _ _ _ _ _ _)
      | (with_reducible exact ih4 _ _ _ _ _ _ _ _ _)
      | (with_reducible exact ih5 _ _ _ _ _ _ _ _ _)
      | (with_reducible exact ih6 _ _ _ _ _ _ _ _ _ _)
      | (with_reducible exact ih7 _ _ _ _ _ _ _ _ _ _ _)
      | (with_reducible exact marblerunlaw11_awake.mono _)
      | (with_reducible exact marblerunlaw11_square.mono _ _ _ _)
      | (with_reducible exact marblerunref01_Dot.mono _ _ _)
      | (with_reducible exact matrix_Left.mono _ _ _)
      | (with_reducible exact matrix_Right.mono _ _ _)
      | (with_reducible exact LeO.refl _)
      | (with_reducible exact LeO.none _)
      | (with_reducible refine LeO.ite ?_ ?_)
      | (with_reducible refine LeO.bind ?_ (fun _ => ?_))
      | exact ih0 _ _ _ _ _
      | exact ih1 _ _ _ _ _ _ _ _
      | exact ih2 _ _ _ _ _ _
      | exact ih3 _ _ _ _ _ _ _
      | exact ih4 _ _ _ _ _ _ _ _ _
      | exact ih5 _ _ _ _ _ _ _ _ _
      | exact ih6 _ _ _ _ _ _ _ _ _ _
      | exact ih7 _ _ _ _ _ _ _ _ _ _ _
      | exact marblerunlaw11_awake.mono _
      | exact marblerunlaw11_square.mono _ _ _ _
      | exact marblerunref01_Dot.mono _ _ _
      | exact matrix_Left.mono _ _ _
      | exact matrix_Right.mono _ _ _
      | exact LeO.none _
      | refine LeO.ite ?_ ?_
      | refine LeO.bind ?_ (fun _ => ?_)
    · intro y0 y1 y2 y3 y4 y5 y6 y7
      unfold marblerunlaw11_MatrixTimes.j4
      repeat' first
      | (with_reducible exact ih0 _ _ _ _ _)
      | (with_reducible exact ih1 _ _ _ _ _ _ _ _)
      | (with_reducible exact ih2 _ _ _ _ _ _)
      | (with_reducible exact ih3 _ _ _ _ _ _ _)
      | (with_reducible exact ih4 _ _ _ _ _ _ _ _ _)
      | (with_reducible exact ih5 _ _ _ _ _ _ _ _ _)
      | (with_reducible exact ih6 _ _ _ _ _ _ _ _ _ _)
      | (with_reducible exact ih7 _ _ _ _ _ _ _ _ _ _ _)
      | (with_reducible exact marblerunlaw11_awake.mono _)
      | (with_reducible exact marblerunlaw11_square.mono _ _ _ _)
      | (with_reducible exact marblerunref01_Dot.mono _ _ _)
      | (with_reducible exact matrix_Left.mono _ _ _)
      | (with_reducible exact matrix_Right.mono _ _ _)
      | (with_reducible exact LeO.refl _)
      | (with_reducible exact LeO.none _)
      | (with_reducible refine LeO.ite ?_ ?_)
      | (with_reducible refine LeO.bind ?_ (fun _ => ?_))
      | exact ih0 _ _ _ _ _
      | exact ih1 _ _ _ _ _ _ _ _
      | exact ih2 _ _ _ _ _ _
      | exact ih3 _ _ _ _ _ _ _
      | exact ih4 _ _ _ _ _ _ _ _ _
      | exact ih5 _ _ _ _ _ _ _ _ _
      | exact ih6 _ _ _ _ _ _ _ _ _ _
      | exact ih7 _ _ _ _ _ _ _ _ _ _ _
      | exact marblerunlaw11_awake.mono _
      | exact marblerunlaw11_square.mono _ _ _ _
      | exact marblerunref01_Dot.mono _ _ _
      | exact matrix_Left.mono _ _ _
      | exact matrix_Right.mono _ _ _
      | exact LeO.none _
      | refine LeO.ite ?_ ?_
      | refine LeO.bind ?_ (fun _ => ?_)
    · intro y0 y1 y2 y3 y4 y5
      unfold marblerunlaw11_MatrixTimes.j5
      repeat' first
      | (with_reducible exact ih0 _ _ _ _ _)
      | (with_reducible exact ih1 _ _ _ _ _ _ _ _)
      | (with_reducible exact ih2 _ _ _ _ _ _)
      | (with_reducible exact ih3 _ _ _ _ _ _ _)
      | (with_reducible exact ih4 _ _ _ _ _ _ _ _ _)
      | (with_reducible exact ih5 _ _ _ _ _ _ _ _ _)
      | (with_reducible exact ih6 _ _ _ _ _ _ _ _ _ _)
      | (with_reducible exact ih7 _ _ _ _ _ _ _ _ _ _ _)
      | (with_reducible exact marblerunlaw11_awake.mono _)
      | (with_reducible exact marblerunlaw11_square.mono _ _ _ _)
      | (with_reducible exact marblerunref01_Dot.mono _ _ _)
      | (with_reducible exact matrix_Left.mono _ _ _)
      | (with_reducible exact matrix_Right.mono _ _ _)
      | (with_reducible exact LeO.refl _)
      | (with_reducible exact LeO.none _)
      | (with_reducible refine LeO.ite ?_ ?_)
      | (with_reducible refine LeO.bind ?_ (fun _ => ?_))
      | exact ih0 _ _ _ _ _
      | exact ih1 _ _ _ _ _ _ _ _
      | exact ih2 _ _ _ _ _ _
      | exact ih3 _ _ _ _ _ _ _
      | exact ih4 _ _ _ _ _ _ _ _ _
      | exact ih5 _ _ _ _ _ _ _ _ _
      | exact ih6 _ _ _ _ _ _ _ _ _ _
      | exact ih7 _ _ _ _ _ _ _ _ _ _ _
      | exact marblerunlaw11_awake.mono _
      | exact marblerunlaw11_square.mono _ _ _ _
      | exact marblerunref01_Dot.mono _ _ _
      | exact matrix_Left.mono _ _ _
      | exact matrix_Right.mono _ _ _
      | exact LeO.none _
      | refine LeO.ite ?_ ?_
      | refine LeO.bind ?_ (fun _ => ?_)
    · intro y0 y1 y2 y3 y4 y5 y6
      unfold marblerunlaw11_MatrixTimes.l2
      repeat' first
      | (with_reducible exact ih0 _ _ _ _ _)
      | (with_reducible exact ih1 _ _ _ _ _ _ _ _)
      | (with_reducible exact ih2 _ _ _ _ _ _)
      | (with_reducible exact ih3 _ _ _ _ _ _ _)
      | (with_reducible exact ih4 _ _ _ _ _ _ _ _ _)
      | (with_reducible exact ih5 _ _ _ _ _ _ _ _ _)
      | (with_reducible exact ih6 _ _ _ _ _ _ _ _ _ _)
      | (with_reducible exact ih7 _ _ _ _ _ _ _ _ _ _ _)
      | (with_reducible exact marblerunlaw11_awake.mono _)
      | (with_reducible exact marblerunlaw11_square.mono _ _ _ _)
      | (with_reducible exact marblerunref01_Dot.mono _ _ _)
      | (with_reducible exact matrix_Left.mono _ _ _)
      | (with_reducible exact matrix_Right.mono _ _ _)
      | (with_reducible exact LeO.refl _)
      | (with_reducible exact LeO.none _)
      | (with_reducible refine LeO.ite ?_ ?_)
      | (with_reducible refine LeO.bind ?_ (fun _ => ?_))
      | exact ih0 _ _ _ _ _
      | exact ih1 _ _ _ _ _ _ _ _
      | exact ih2 _ _ _ _ _ _
      | exact ih3 _ _ _ _ _ _ _
      | exact ih4 _ _ _ _ _ _ _ _ _
      | exact ih5 _ _ _ _ _ _ _ _ _
      | exact ih6 _ _ _ _ _ _ _ _ _ _
      | exact ih7 _ _ _ _ _ _ _ _ _ _ _
      | exact marblerunlaw11_awake.mono _
      | exact marblerunlaw11_square.mono _ _ _ _
      | exact marblerunref01_Dot.mono _ _ _
      | exact matrix_Left.mono _ _ _
      | exact matrix_Right.mono _ _ _
      | exact LeO.none _
      | refine LeO.ite ?_ ?_
      | refine LeO.bind ?_ (fun _ => ?_)
    · intro y0 y1 y2 y3 y4 y5 y6 y7 y8
      unfold marblerunlaw11_MatrixTimes.j7
      repeat' first
      | (with_reducible exact ih0 _ _ _ _ _)
      | (with_reducible exact ih1 _ _ _ _ _ _ _ _)
      | (with_reducible exact ih2 _ _ _ _ _ _)
      | (with_reducible exact ih3 _ _ _ _ _ _ _)
      | (with_reducible exact ih4 _ _ _ _ _ _ _ _ _)
      | (with_reducible exact ih5 _ _ _ _ _ _ _ _ _)
      | (with_reducible exact ih6 _ _ _ _ _ _ _ _ _ _)
      | (with_reducible exact ih7 _ _ _ _ _ _ _ _ _ _ _)
      | (with_reducible exact marblerunlaw11_awake.mono _)
      | (with_reducible exact marblerunlaw11_square.mono _ _ _ _)
      | (with_reducible exact marblerunref01_Dot.mono _ _ _)
      | (with_reducible exact matrix_Left.mono _ _ _)
      | (with_reducible exact matrix_Right.mono _ _ _)
      | (with_reducible exact LeO.refl _)
      | (with_reducible exact LeO.none _)
      | (with_reducible refine LeO.ite ?_ ?_)
      | (with_reducible refine LeO.bind ?_ (fun _ => ?_))
      | exact ih0 _ _ _ _ _
      | exact ih1 _ _ _ _ _ _ _ _
      | exact ih2 _ _ _ _ _ _
      | exact ih3 _ _ _ _ _ _ _
      | exact ih4 _ _ _ _ _ _ _ _ _
      | exact ih5 _ _ _ _ _ _ _ _ _
      | exact ih6 _ _ _ _ _ _ _ _ _ _
      | exact ih7 _ _ _ _ _ _ _ _ _ _ _
      | exact marblerunlaw11_awake.mono _
      | exact marblerunlaw11_square.mono _ _ _ _
      | exact marblerunref01_Dot.mono _ _ _
      | exact matrix_Left.mono _ _ _
      | exact matrix_Right.mono _ _ _
      | exact LeO.none _
      | refine LeO.ite ?_ ?_
      | refine LeO.bind ?_ (fun _ => ?_)
    · intro y0 y1 y2 y3 y4 y5 y6 y7 y8
      unfold marblerunlaw11_MatrixTimes.l0
      repeat' first
      | (with_reducible exact ih0 _ _ _ _ _)
      | (with_reducible exact ih1 _ _ _ _ _ _ _ _)
      | (with_reducible exact ih2 _ _ _ _ _ _)
      | (with_reducible exact ih3 _ _ _ _ _ _ _)
      | (with_reducible exact ih4 _ _ _ _ _ _ _ _ _)
      | (with_reducible exact ih5 _ _ _ _ _ _ _ _ _)
      | (with_reducible exact ih6 _ _ _ _ _ _ _ _ _ _)
      | (with_reducible exact ih7 _ _ _ _ _ _ _ _ _ _ _)
      | (with_reducible exact marblerunlaw11_awake.mono _)
      | (with_reducible exact marblerunlaw11_square.mono _ _ _ _)
      | (with_reducible exact marblerunref01_Dot.mono _ _ _)
      | (with_reducible exact matrix_Left.mono _ _ _)
      | (with_reducible exact matrix_Right.mono _ _ _)
      | (with_reducible exact LeO.refl _)
      | (with_reducible exact LeO.none _)
      | (with_reducible refine LeO.ite ?_ ?_)
      | (with_reducible refine LeO.bind ?_ (fun _ => ?_))
      | exact ih0 _ _ _ _ _
      | exact ih1 _ _ _ _ _ _ _ _
      | exact ih2 _ _ _ _ _ _
      | exact ih3 _ _ _ _ _ _ _
      | exact ih4 _ _ _ _ _ _ _ _ _
      | exact ih5 _ _ _ _ _ _ _ _ _
      | exact ih6 _ _ _ _ _ _ _ _ _ _
      | exact ih7 _ _ _ _ _ _ _ _ _ _ _
      | exact marblerunlaw11_awake.mono _
      | exact marblerunlaw11_square.mono _ _ _ _
      | exact marblerunref01_Dot.mono _ _ _
      | exact matrix_Left.mono _ _ _
      | exact matrix_Right.mono _ _ _
      | exact LeO.none _
      | refine LeO.ite ?_ ?_
      | refine LeO.bind ?_ (fun _ => ?_)
    · intro y0 y1 y2 y3 y4 y5 y6 y7 y8 y9
      unfold marblerunlaw11_MatrixTimes.j2
      repeat' first
      | (with_reducible exact ih0 _ _ _ _ _)
      | (with_reducible exact ih1 _ _ _ _ _ _ _ _)
      | (with_reducible exact ih2 _ _ _ _ _ _)
      | (with_reducible exact ih3 _ _ _ _ _ _ _)
      | (with_reducible exact ih4 _ _ _ _ _ _ _ _ _)
      | (with_reducible exact ih5 _ _ _ _ _ _ _ _ _)
      | (with_reducible exact ih6 _ _ _ _ _ _ _ _ _ _)
      | (with_reducible exact ih7 _ _ _ _ _ _ _ _ _ _ _)
      | (with_reducible exact marblerunlaw11_awake.mono _)
      | (with_reducible exact marblerunlaw11_square.mono _ _ _ _)
      | (with_reducible exact marblerunref01_Dot.mono _ _ _)
      | (with_reducible exact matrix_Left.mono _ _ _)
      | (with_reducible exact matrix_Right.mono _ _ _)
      | (with_reducible exact LeO.refl _)
      | (with_reducible exact LeO.none _)
      | (with_reducible refine LeO.ite ?_ ?_)
      | (with_reducible refine LeO.bind ?_ (fun _ => ?_))
      | exact ih0 _ _ _ _ _
      | exact ih1 _ _ _ _ _ _ _ _
      | exact ih2 _ _ _ _ _ _
      | exact ih3 _ _ _ _ _ _ _
      | exact ih4 _ _ _ _ _ _ _ _ _
      | exact ih5 _ _ _ _ _ _ _ _ _
      | exact ih6 _ _ _ _ _ _ _ _ _ _
      | exact ih7 _ _ _ _ _ _ _ _ _ _ _
      | exact marblerunlaw11_awake.mono _
      | exact marblerunlaw11_square.mono _ _ _ _
      | exact marblerunref01_Dot.mono _ _ _
      | exact matrix_Left.mono _ _ _
      | exact matrix_Right.mono _ _ _
      | exact LeO.none _
      | refine LeO.ite ?_ ?_
      | refine LeO.bind ?_ (fun _ => ?_)
    · intro y0 y1 y2 y3 y4 y5 y6 y7 y8 y9 y10
      unfold marblerunlaw11_MatrixTimes.l1
      repeat' first
      | (with_reducible exact ih0 _ _ _ _ _)
      | (with_reducible exact ih1 _ _ _ _ _ _ _ _)
      | (with_reducible exact ih2 _ _ _ _ _ _)
      | (with_reducible exact ih3 _ _ _ _ _ _ _)
      | (with_reducible exact ih4 _ _ _ _ _ _ _ _ _)
      | (with_reducible exact ih5 _ _ _ _ _ _ _ _ _)
      | (with_reducible exact ih6 _ _ _ _ _ _ _ _ _ _)
      | (with_reducible exact ih7 _ _ _ _ _ _ _ _ _ _ _)
      | (with_reducible exact marblerunlaw11_awake.mono _)
      | (with_reducible exact marblerunlaw11_square.mono _ _ _ _)
      | (with_reducible exact marblerunref01_Dot.mono _ _ _)
      | (with_reducible exact matrix_Left.mono _ _ _)
      | (with_reducible exact matrix_Right.mono _ _ _)
      | (with_reducible exact LeO.refl _)
      | (with_reducible exact LeO.none _)
      | (with_reducible refine LeO.ite ?_ ?_)
      | (with_reducible refine LeO.bind ?_ (fun _ => ?_))
      | exact ih0 _ _ _ _ _
      | exact ih1 _ _ _ _ _ _ _ _
      | exact ih2 _ _ _ _ _ _
      | exact ih3 _ _ _ _ _ _ _
      | exact ih4 _ _ _ _ _ _ _ _ _
      | exact ih5 _ _ _ _ _ _ _ _ _
      | exact ih6 _ _ _ _ _ _ _ _ _ _
      | exact ih7 _ _ _ _ _ _ _ _ _ _ _
      | exact marblerunlaw11_awake.mono _
      | exact marblerunlaw11_square.mono _ _ _ _
      | exact marblerunref01_Dot.mono _ _ _
      | exact matrix_Left.mono _ _ _
      | exact matrix_Right.mono _ _ _
      | exact LeO.none _
      | refine LeO.ite ?_ ?_
      | refine LeO.bind ?_ (fun _ => ?_)
theorem marblerunlaw11_MatrixTimes.mono : ∀ a0 a1 a2 a3 k, LeO (marblerunlaw11_MatrixTimes.f k a0 a1 a2 a3) (marblerunlaw11_MatrixTimes.f (k + 1) a0 a1 a2 a3) := by
  intro a0 a1 a2 a3 k
  obtain ⟨ih0, ih1, ih2, ih3, ih4, ih5, ih6, ih7⟩ := marblerunlaw11_MatrixTimes.mono_l k
  unfold marblerunlaw11_MatrixTimes.f
  repeat' first
      | (with_reducible exact ih0 _ _ _ _ _)
      | (with_reducible exact ih1 _ _ _ _ _ _ _ _)
      | (with_reducible exact ih2 _ _ _ _ _ _)
      | (with_reducible exact ih3 _ _ _ _ _ _ _)
      | (with_reducible exact ih4 _ _ _ _ _ _ _ _ _)
      | (with_reducible exact ih5 _ _ _ _ _ _ _ _ _)
      | (with_reducible exact ih6 _ _ _ _ _ _ _ _ _ _)
      | (with_reducible exact ih7 _ _ _ _ _ _ _ _ _ _ _)
      | (with_reducible exact marblerunlaw11_awake.mono _)
      | (with_reducible exact marblerunlaw11_square.mono _ _ _ _)
      | (with_reducible exact marblerunref01_Dot.mono _ _ _)
      | (with_reducible exact matrix_Left.mono _ _ _)
      | (with_reducible exact matrix_Right.mono _ _ _)
      | (with_reducible exact LeO.refl _)
      | (with_reducible exact LeO.none _)
      | (with_reducible refine LeO.ite ?_ ?_)
      | (with_reducible refine LeO.bind ?_ (fun _ => ?_))
      | exact ih0 _ _ _ _ _
      | exact ih1 _ _ _ _ _ _ _ _
      | exact ih2 _ _ _ _ _ _
      | exact ih3 _ _ _ _ _ _ _
      | exact ih4 _ _ _ _ _ _ _ _ _
      | exact ih5 _ _ _ _ _ _ _ _ _
      | exact ih6 _ _ _ _ _ _ _ _ _ _
      | exact ih7 _ _ _ _ _ _ _ _ _ _ _
      | exact marblerunlaw11_awake.mono _
      | exact marblerunlaw11_square.mono _ _ _ _
      | exact marblerunref01_Dot.mono _ _ _
      | exact matrix_Left.mono _ _ _
      | exact matrix_Right.mono _ _ _
      | exact LeO.none _
      | refine LeO.ite ?_ ?_
      | refine LeO.bind ?_ (fun _ => ?_)
set_option maxHeartbeats 8000000 in
set_option maxRecDepth 100000 in
theorem marblerunlaw11_MatrixTimes.calls (k : Nat) (A0 : Option Addr) (c0 : Nat) (l0 : List Int) (a1 : Int) (a2 : Int) (A3 : Option Addr) (c3 : Nat) (l3 : List Int) (r : Bool) (w : World) (hr0 : Kd.C (Kd.int .i64) w A0 l0.length l0) (hc0 : l0.length ≤ c0) (hr3 : Kd.C (Kd.int .i64) w A3 l3.length l3) (hc3 : l3.length ≤ c3) (h : marblerunlaw11_MatrixTimes.f k l0 a1 a2 l3 = some r) :
    Calls Try.prog 10 #[.slice A0 l0.length c0, .int .u8 a1, .int .u8 a2, .slice A3 l3.length c3] w fun e w' => e = .returned (.bool r) ∧ Below w.heap.size w w' := by
  have HR0 := Aside0.mk hr0
  have HC0 := Aside0.mk hc0
  clear hr0 hc0
  have HR3 := Aside0.mk hr3
  have HC3 := Aside0.mk hc3
  clear hr3 hc3
  have HB := Aside0.mk (Below.refl w.heap.size w)
  have H : ((marblerunlaw11_awake.f k).bind fun t224 => (if t224 = true then (if (l0.length : Int) > 30 then (marblerunlaw11_MatrixTimes.j0 k l0 a1 a2 l3 true) else (marblerunlaw11_MatrixTimes.j0 k l0 a1 a2 l3 (decide ((l3.length : Int) > 8)))) else (marblerunlaw11_MatrixTimes.j0 k l0 a1 a2 l3 true))) = some r := h
  clear h
  have HC5 := Aside0.mk H
  clear H
  go_enter Try.func10, Try.ntmps10
  go_upto_region 1 with (fail)
  go_cut [36] (fun v36 wc => ∃ (kq : Nat) (x36_4 : Bool), v36 = .bool x36_4 ∧ Aside0 (marblerunlaw11_MatrixTimes.j0 kq l0 a1 a2 l3 x36_4 = some r) ∧ Aside0 (kq ≤ k) ∧ Aside0 (Below w.heap.size w wc))
  case first =>
    have H := HC5.out
    clear HC5
    replace H := Option.bind_eq_some_iff.mp H
    obtain ⟨t224, A60, H⟩ := H
    replace H : (if t224 = true then (if (l0.length : Int) > 30 then (marblerunlaw11_MatrixTimes.j0 k l0 a1 a2 l3 true) else (marblerunlaw11_MatrixTimes.j0 k l0 a1 a2 l3 (decide ((l3.length : Int) > 8)))) else (marblerunlaw11_MatrixTimes.j0 k l0 a1 a2 l3 true)) = some r := H
    have A6 := Aside0.mk A60
    clear A60
    by_cases c7 : t224 = true
    · subst c7
      have H1 : (if (l0.length : Int) > 30 then (marblerunlaw11_MatrixTimes.j0 k l0 a1 a2 l3 true) else (marblerunlaw11_MatrixTimes.j0 k l0 a1 a2 l3 (decide ((l3.length : Int) > 8)))) = some r := by rw [if_pos rfl] at H; exact H
      clear H
      have H := H1
      clear H1
      by_cases c8 : (l0.length : Int) > 30
      · rw [if_pos c8] at H
        have c8b0 : decide (30 < (l0.length : Int)) = true := decide_eq_true c8
        have c8b1 : decide (30 < l0.length) = true := decide_eq_true (by omega)
        clear c8
        (first | rw [c8b0] | (simp only [i64_w, i32_w]; rw [c8b0]) | skip)
        have H' := Aside0.mk H
        clear H
        go_wp2_with (first | ((with_reducible refine gate_callee (f := 14) rfl ?_); refine goesL_ (some 25) rfl rfl Try.func14 (by kernel_rfl) rfl #[] rfl (by (try simp only [List.map_toArray, List.map_cons, List.map_nil]); first | done | rfl | (simp only [List.length_drop, List.length_take]; rfl)) ?_; (with_reducible refine (marblerunlaw11_awake.calls k  true _ A6.out).mono ?_); rintro e w9 ⟨rfl, hb⟩; refine ⟨_, rfl, ?_⟩; have n0_ := Aside0.mk (below_step (by repeat (first | (with_reducible first | exact HB.out | apply below_alloc | apply pw_below_drewN | apply below_drew1) | exact HB.out)) hb); clear HB; have HB := n0_; clear n0_; (try clear hb); (try clear hb2); (try clear hk); (try clear hi)))
        go_meet
        case rel => exact ⟨_, (true), (by first | rfl | (simp; done) | (simp [*]; done)), H', ⟨by first | omega | exact Nat.le_refl _⟩, ⟨by repeat (first | (with_reducible first | exact HB.out | apply below_alloc | apply pw_below_drewN | apply below_drew1) | exact HB.out)⟩⟩
      · rw [if_neg c8] at H
        have c8b0 : decide (30 < (l0.length : Int)) = false := decide_eq_false c8
        have c8b1 : decide (30 < l0.length) = false := decide_eq_false (by omega)
        clear c8
        (first | rw [c8b0] | (simp only [i64_w, i32_w]; rw [c8b0]) | skip)
        have H' := Aside0.mk H
        clear H
        go_wp2_with (first | ((with_reducible refine gate_callee (f := 14) rfl ?_); refine goesL_ (some 25) rfl rfl Try.func14 (by kernel_rfl) rfl #[] rfl (by (try simp only [List.map_toArray, List.map_cons, List.map_nil]); first | done | rfl | (simp only [List.length_drop, List.length_take]; rfl)) ?_; (with_reducible refine (marblerunlaw11_awake.calls k  true _ A6.out).mono ?_); rintro e w10 ⟨rfl, hb⟩; refine ⟨_, rfl, ?_⟩; have n0_ := Aside0.mk (below_step (by repeat (first | (with_reducible first | exact HB.out | apply below_alloc | apply pw_below_drewN | apply below_drew1) | exact HB.out)) hb); clear HB; have HB := n0_; clear n0_; (try clear hb); (try clear hb2); (try clear hk); (try clear hi)))
        go_meet
        case rel => exact ⟨_, (decide ((l3.length : Int) > 8)), (by first | rfl | (simp; done) | (simp [*]; done)), H', ⟨by first | omega | exact Nat.le_refl _⟩, ⟨by repeat (first | (with_reducible first | exact HB.out | apply below_alloc | apply pw_below_drewN | apply below_drew1) | exact HB.out)⟩⟩
    · replace c7 := Bool.eq_false_iff.mpr c7
      subst c7
      have H1 : (marblerunlaw11_MatrixTimes.j0 k l0 a1 a2 l3 true) = some r := by rw [if_neg (show ¬ (false = true) by decide)] at H; exact H
      clear H
      have H := H1
      clear H1
      have H' := Aside0.mk H
      clear H
      go_wp2_with (first | ((with_reducible refine gate_callee (f := 14) rfl ?_); refine goesL_ (some 25) rfl rfl Try.func14 (by kernel_rfl) rfl #[] rfl (by (try simp only [List.map_toArray, List.map_cons, List.map_nil]); first | done | rfl | (simp only [List.length_drop, List.length_take]; rfl)) ?_; (with_reducible refine (marblerunlaw11_awake.calls k  false _ A6.out).mono ?_); rintro e w11 ⟨rfl, hb⟩; refine ⟨_, rfl, ?_⟩; have n0_ := Aside0.mk (below_step (by repeat (first | (with_reducible first | exact HB.out | apply below_alloc | apply pw_below_drewN | apply below_drew1) | exact HB.out)) hb); clear HB; have HB := n0_; clear n0_; (try clear hb); (try clear hb2); (try clear hk); (try clear hi)))
      go_meet
      case rel => exact ⟨_, (true), (by first | rfl | (simp; done) | (simp [*]; done)), H', ⟨by first | omega | exact Nat.le_refl _⟩, ⟨by repeat (first | (with_reducible first | exact HB.out | apply below_alloc | apply pw_below_drewN | apply below_drew1) | exact HB.out)⟩⟩
  case rest =>
    clear HC5
    try clear c1
    try clear p2
    try clear c3
    try clear c7
    try clear c8
    try clear c8b0
    try clear c8b1
    try clear c10
    obtain ⟨kq, x36_4, rfl, HA, HJ4, HB⟩ := hcut
    cases kq with
    | zero => exact absurd HA.out (by simp [marblerunlaw11_MatrixTimes.j0])
    | succ kj4 =>
      have H := HA.out
      clear HA
      simp only [marblerunlaw11_MatrixTimes.j0] at H
      by_cases c12 : x36_4 = true
      · subst c12
        have H1 : ((marblerunlaw11_awake.f kj4).bind fun t225 => (some t225)) = some r := by rw [if_pos rfl] at H; exact H
        clear H
        have H := H1
        clear H1
        replace H := Option.bind_eq_some_iff.mp H
        obtain ⟨t225, A130, H⟩ := H
        replace H : (some t225) = some r := H
        have A13 := Aside0.mk A130
        clear A130
        obtain rfl := Option.some.inj H
        go_wp2_with (first | ((with_reducible refine gate_callee (f := 14) rfl ?_); refine goesL_ (some 37) rfl rfl Try.func14 (by kernel_rfl) rfl #[] rfl (by (try simp only [List.map_toArray, List.map_cons, List.map_nil]); first | done | rfl | (simp only [List.length_drop, List.length_take]; rfl)) ?_; (with_reducible refine (marblerunlaw11_awake.calls kj4  t225 _ A13.out).mono ?_); rintro e w14 ⟨rfl, hb⟩; refine ⟨_, rfl, ?_⟩; have n0_ := Aside0.mk (below_step (by repeat (first | (with_reducible first | exact HB.out | apply below_alloc | apply pw_below_drewN | apply below_drew1) | exact HB.out)) hb); clear HB; have HB := n0_; clear n0_; (try clear hb); (try clear hb2); (try clear hk); (try clear hi)))
        go_ret
        exact ⟨by first | rfl | (simp [errW_none, errW_some] <;> rfl) | (simp [*, errW_none, errW_some] <;> rfl), by repeat (first | (with_reducible first | exact HB.out | apply below_alloc | apply pw_below_drewN | apply below_drew1) | exact HB.out)⟩
      · replace c12 := Bool.eq_false_iff.mpr c12
        subst c12
        have H1 : ((marblerunlaw11_square.f kj4 l0 a1 a2).bind fun t226 => ((matrix_Left.f kj4 l3 t226).bind fun bt229 => ((matrix_Right.f kj4 t226 l3).bind fun bt233 => (marblerunlaw11_MatrixTimes.l0 kj4 l3 t226 bt229.1 bt229.2 bt233.1 bt233.2 (wrap64 (Int.tmod a2 5)) ((l3.length : Int) == (t226.length : Int)) 0)))) = some r := by rw [if_neg (show ¬ (false = true) by decide)] at H; exact H
        clear H
        have H := H1
        clear H1
        replace H := Option.bind_eq_some_iff.mp H
        obtain ⟨t226, A150, H⟩ := H
        replace H : ((matrix_Left.f kj4 l3 t226).bind fun bt229 => ((matrix_Right.f kj4 t226 l3).bind fun bt233 => (marblerunlaw11_MatrixTimes.l0 kj4 l3 t226 bt229.1 bt229.2 bt233.1 bt233.2 (wrap64 (Int.tmod a2 5)) ((l3.length : Int) == (t226.length : Int)) 0))) = some r := H
        have A15 := Aside0.mk A150
        clear A150
        replace H := Option.bind_eq_some_iff.mp H
        obtain ⟨⟨t229, t230⟩, A160, H⟩ := H
        replace H : ((matrix_Right.f kj4 t226 l3).bind fun bt233 => (marblerunlaw11_MatrixTimes.l0 kj4 l3 t226 t229 t230 bt233.1 bt233.2 (wrap64 (Int.tmod a2 5)) ((l3.length : Int) == (t226.length : Int)) 0)) = some r := H
        have A16 := Aside0.mk A160
        clear A160
        replace H := Option.bind_eq_some_iff.mp H
        obtain ⟨⟨t233, t234⟩, A170, H⟩ := H
        replace H : (marblerunlaw11_MatrixTimes.l0 kj4 l3 t226 t229 t230 t233 t234 (wrap64 (Int.tmod a2 5)) ((l3.length : Int) == (t226.length : Int)) 0) = some r := H
        have A17 := Aside0.mk A170
        clear A170
        have HC18 := Aside0.mk H
        clear H
        go_upto_block 0 with (first | ((with_reducible refine gate_callee (f := 34) rfl ?_); refine goesL_ (some 41) rfl rfl Try.func34 (by kernel_rfl) rfl #[.slice A0 l0.length c0, .int .u8 a1, .int .u8 a2] rfl (by (try simp only [List.map_toArray, List.map_cons, List.map_nil]); first | done | rfl | (simp only [List.length_drop, List.length_take]; rfl)) ?_; (with_reducible refine (marblerunlaw11_square.calls kj4 _ _ l0 a1 a2 t226 _ ?side1 ?side2 A15.out).mono ?_); (case side1 => repeat (first | exact (Kd.C_below HR0.out HB.out) | (with_reducible refine Kd.C_alloc ?_ _) | (with_reducible refine Kd.C_drewN ?_ _) | (with_reducible refine Kd.C_drew ?_))); (case side2 => exact HC0.out); rintro e w19 ⟨v227, rfl, ho0, hb⟩; refine ⟨_, rfl, ?_⟩; have n0_ := Aside0.mk (Kd.S_lower ho0 (below_size (by repeat (first | (with_reducible first | exact HB.out | apply below_alloc | apply pw_below_drewN | apply below_drew1) | exact HB.out)))); have n1_ := Aside0.mk (below_step (by repeat (first | (with_reducible first | exact HB.out | apply below_alloc | apply pw_below_drewN | apply below_drew1) | exact HB.out)) hb); clear HB; have HO228 := n0_; have HB := n1_; clear n0_ n1_; (try clear hb); (try clear hb2); (try clear hk); (try clear hi); (try clear ho0); obtain ⟨Ao20, co20, eo20⟩ := Kd.S_slice HO228.out; subst eo20) | ((with_reducible refine gate_callee (f := 35) rfl ?_); refine goesL_ (some 45) rfl rfl Try.func35 (by kernel_rfl) rfl #[.slice A3 l3.length c3, .slice Ao20 t226.length co20] rfl (by (try simp only [List.map_toArray, List.map_cons, List.map_nil]); first | done | rfl | (simp only [List.length_drop, List.length_take]; rfl)) ?_; (with_reducible refine (matrix_Left.calls kj4 _ _ l3 _ _ t226 t229 t230 _ ?side1 ?side2 ?side3 ?side4 A16.out).mono ?_); (case side1 => repeat (first | exact (Kd.C_below HR3.out HB.out) | (with_reducible refine Kd.C_alloc ?_ _) | (with_reducible refine Kd.C_drewN ?_ _) | (with_reducible refine Kd.C_drew ?_))); (case side2 => exact HC3.out); (case side3 => repeat (first | exact (Kd.S_reads' HO228.out).2.2 | (with_reducible refine Kd.C_alloc ?_ _) | (with_reducible refine Kd.C_drewN ?_ _) | (with_reducible refine Kd.C_drew ?_))); (case side4 => exact (Kd.S_reads' HO228.out).2.1); rintro e w21 ⟨v231, rfl, ho0, hb⟩; refine ⟨_, rfl, ?_⟩; have n0_ := Aside0.mk (Kd.S_elder' (by (with_reducible repeat (first | apply Kd.S_alloc | apply Kd.S_drewN | apply Kd.S_drew)); exact HO228.out) (Kd.R_base ho0) hb); have n1_ := Aside0.mk (Kd.R_lower ho0 (below_size (by repeat (first | (with_reducible first | exact HB.out | apply below_alloc | apply pw_below_drewN | apply below_drew1) | exact HB.out)))); have n2_ := Aside0.mk (below_step (by repeat (first | (with_reducible first | exact HB.out | apply below_alloc | apply pw_below_drewN | apply below_drew1) | exact HB.out)) hb); clear HO228; clear HB; have HO228 := n0_; have HO232 := n1_; have HB := n2_; clear n0_ n1_ n2_; (try clear hb); (try clear hb2); (try clear hk); (try clear hi); (try clear ho0)) | ((with_reducible refine gate_callee (f := 23) rfl ?_); refine goesL_ (some 51) rfl rfl Try.func23 (by kernel_rfl) rfl #[.slice Ao20 t226.length co20, .slice A3 l3.length c3] rfl (by (try simp only [List.map_toArray, List.map_cons, List.map_nil]); first | done | rfl | (simp only [List.length_drop, List.length_take]; rfl)) ?_; (with_reducible refine (matrix_Right.calls kj4 _ _ t226 _ _ l3 t233 t234 _ ?side1 ?side2 ?side3 ?side4 A17.out).mono ?_); (case side1 => repeat (first | exact (Kd.S_reads' HO228.out).2.2 | (with_reducible refine Kd.C_alloc ?_ _) | (with_reducible refine Kd.C_drewN ?_ _) | (with_reducible refine Kd.C_drew ?_))); (case side2 => exact (Kd.S_reads' HO228.out).2.1); (case side3 => repeat (first | exact (Kd.C_below HR3.out HB.out) | (with_reducible refine Kd.C_alloc ?_ _) | (with_reducible refine Kd.C_drewN ?_ _) | (with_reducible refine Kd.C_drew ?_))); (case side4 => exact HC3.out); rintro e w22 ⟨v235, rfl, ho0, hb⟩; refine ⟨_, rfl, ?_⟩; have n0_ := Aside0.mk (Kd.S_elder' (by (with_reducible repeat (first | apply Kd.S_alloc | apply Kd.S_drewN | apply Kd.S_drew)); exact HO228.out) (Kd.R_base ho0) hb); have n1_ := Aside0.mk (Kd.R_elder' (by (with_reducible repeat (first | apply Kd.R_alloc | apply Kd.R_drewN | apply Kd.R_drew)); exact HO232.out) (Kd.R_base ho0) hb); have n2_ := Aside0.mk (Kd.R_lower (Kd.R_new' ho0 (Kd.R_lt (by (with_reducible repeat (first | apply Kd.R_alloc | apply Kd.R_drewN | apply Kd.R_drew)); exact HO232.out))) (below_size (by repeat (first | (with_reducible first | exact HB.out | apply below_alloc | apply pw_below_drewN | apply below_drew1) | exact HB.out)))); have n3_ := Aside0.mk (below_step (by repeat (first | (with_reducible first | exact HB.out | apply below_alloc | apply pw_below_drewN | apply below_drew1) | exact HB.out)) hb); clear HO228; clear HO232; clear HB; have HO228 := n0_; have HO232 := n1_; have HO236 := n2_; have HB := n3_; clear n0_ n1_ n2_ n3_; (try clear hb); (try clear hb2); (try clear hk); (try clear hi); (try clear ho0)))
        (try simp only [Act.put, List.setIfInBounds_toArray, List.set_cons_zero, List.set_cons_succ])
        go_cut [15] (fun v15 wc => ∃ (kq : Nat) (x15_17 : Bool), v15 = .bool x15_17 ∧ Aside0 (marblerunlaw11_MatrixTimes.j4 kq l3 t226 t229 t230 t233 t234 (wrap64 (Int.tmod a2 5)) x15_17 = some r) ∧ Aside0 (kq ≤ kj4) ∧ Aside0 (Kd.S (Kd.slice 3 (Kd.int .i64)) 22 wc w.heap.size (fun k_ => some k_ ≠ (v231 : Value).ownBlock ∧ some k_ ≠ (v235 : Value).ownBlock) (.slice Ao20 t226.length co20) t226) ∧ Aside0 (Kd.R (Kd.int .i64) 3 wc w.heap.size (fun k_ => some k_ ≠ (v235 : Value).ownBlock) v231 t229) ∧ Aside0 (Kd.R (Kd.int .i64) 3 wc w.heap.size (fun k_ => some k_ ≠ (v231 : Value).ownBlock) v235 t233) ∧ Aside0 (Below w.heap.size w wc))
        case first =>
          have H := HC18.out
          clear HC18
          have H' := Aside0.mk H
          clear H
          go_wp2
          go_loopg [15, 16] kj4 (fun kq v15 v16 w' => ∃ (x15_2 : Bool) (x16_2 : Int), v15 = .bool x15_2 ∧ v16 = .int .i64 x16_2 ∧ Aside0 (marblerunlaw11_MatrixTimes.l0 kq l3 t226 t229 t230 t233 t234 (wrap64 (Int.tmod a2 5)) x15_2 x16_2 = some r) ∧ Aside0 (kq ≤ kj4) ∧ Aside0 (Kd.S (Kd.slice 3 (Kd.int .i64)) 22 w' w.heap.size (fun k_ => some k_ ≠ (v231 : Value).ownBlock ∧ some k_ ≠ (v235 : Value).ownBlock) (.slice Ao20 t226.length co20) t226) ∧ Aside0 (Kd.R (Kd.int .i64) 3 w' w.heap.size (fun k_ => some k_ ≠ (v235 : Value).ownBlock) v231 t229) ∧ Aside0 (Kd.R (Kd.int .i64) 3 w' w.heap.size (fun k_ => some k_ ≠ (v231 : Value).ownBlock) v235 t233) ∧ Aside0 (Below w.heap.size w w'))
          case atStart => exact ⟨(((l3.length : Int) == (t226.length : Int))), (0), (by first | rfl | (simp; done) | (simp [*]; done)), (by first | rfl | (simp; done) | (simp [*]; done)), H', ⟨Nat.le_refl _⟩, ⟨by (with_reducible repeat (first | apply Kd.S_alloc | apply Kd.S_drewN | apply Kd.S_drew)); exact Kd.S_mono HO228.out (fun _ hk => ⟨hk.1.2, hk.2⟩)⟩, ⟨by (with_reducible repeat (first | apply Kd.R_alloc | apply Kd.R_drewN | apply Kd.R_drew)); exact Kd.R_mono HO232.out (fun _ hk => by first | exact hk.2 | exact trivial)⟩, ⟨by (with_reducible repeat (first | apply Kd.R_alloc | apply Kd.R_drewN | apply Kd.R_drew)); exact Kd.R_mono HO236.out (fun _ hk => by first | exact hk.2 | exact trivial)⟩, ⟨by repeat (first | (with_reducible first | exact HB.out | apply below_alloc | apply pw_below_drewN | apply below_drew1) | exact HB.out)⟩⟩
          case round =>
            clear H'
            try clear c1
            try clear c2
            try clear p2
            try clear c3
            try clear p6
            try clear c7
            try clear c8
            try clear c8b0
            try clear c8b1
            try clear c10
            try clear c12
            try clear c14
            try clear p2
            obtain ⟨x15_2, x16_2, rfl, rfl, HA, HK2, HO_9, HO_10, HO_12, HB⟩ := hrel
            cases gk with
            | zero => exact absurd HA.out (by simp [marblerunlaw11_MatrixTimes.l0])
            | succ k2 =>
              have H := HA.out
              clear HA
              simp only [marblerunlaw11_MatrixTimes.l0] at H
              have HC23 := Aside0.mk H
              clear H
              go_upto_region 9 with (fail)
              go_cut [72] (fun v72 wc => ∃ (kq : Nat) (x72_22 : Bool), v72 = .bool x72_22 ∧ Aside0 (marblerunlaw11_MatrixTimes.j2 kq l3 t226 t229 t230 t233 t234 (wrap64 (Int.tmod a2 5)) x15_2 x16_2 x72_22 = some r) ∧ Aside0 (kq ≤ k2) ∧ Aside0 (Kd.S (Kd.slice 3 (Kd.int .i64)) 22 wc w.heap.size (fun k_ => some k_ ≠ (v231 : Value).ownBlock ∧ some k_ ≠ (v235 : Value).ownBlock) (.slice Ao20 t226.length co20) t226) ∧ Aside0 (Kd.R (Kd.int .i64) 3 wc w.heap.size (fun k_ => some k_ ≠ (v235 : Value).ownBlock) v231 t229) ∧ Aside0 (Kd.R (Kd.int .i64) 3 wc w.heap.size (fun k_ => some k_ ≠ (v231 : Value).ownBlock) v235 t233) ∧ Aside0 (Below w.heap.size w wc))
              case first =>
                have H := HC23.out
                clear HC23
                by_cases c24 : x15_2 = true
                · subst c24
                  have H1 : (if (t226.length : Int) > 0 then (marblerunlaw11_MatrixTimes.j2 k2 l3 t226 t229 t230 t233 t234 (wrap64 (Int.tmod a2 5)) true x16_2 (decide (x16_2 < (wrap64 (Int.tmod a2 5))))) else (marblerunlaw11_MatrixTimes.j2 k2 l3 t226 t229 t230 t233 t234 (wrap64 (Int.tmod a2 5)) true x16_2 false)) = some r := by rw [if_pos rfl] at H; exact H
                  clear H
                  have H := H1
                  clear H1
                  by_cases c25 : (t226.length : Int) > 0
                  · rw [if_pos c25] at H
                    have c25b0 : decide (0 < (t226.length : Int)) = true := decide_eq_true c25
                    have c25b1 : decide (0 < t226.length) = true := decide_eq_true (by omega)
                    clear c25
                    (first | rw [c25b0] | (simp only [i64_w, i32_w]; rw [c25b0]) | skip)
                    have H' := Aside0.mk H
                    clear H
                    go_wp2
                    go_meet
                    case rel => exact ⟨_, (decide (x16_2 < (wrap64 (Int.tmod a2 5)))), (by first | rfl | (simp; done) | (simp [*]; done)), H', ⟨by have := HJ4.out; have := HK2.out; first | omega | exact Nat.le_refl _⟩, ⟨by (with_reducible repeat (first | apply Kd.S_alloc | apply Kd.S_drewN | apply Kd.S_drew)); exact HO_9.out⟩, ⟨by (with_reducible repeat (first | apply Kd.R_alloc | apply Kd.R_drewN | apply Kd.R_drew)); exact HO_10.out⟩, ⟨by (with_reducible repeat (first | apply Kd.R_alloc | apply Kd.R_drewN | apply Kd.R_drew)); exact HO_12.out⟩, ⟨by repeat (first | (with_reducible first | exact HB.out | apply below_alloc | apply pw_below_drewN | apply below_drew1) | exact HB.out)⟩⟩
                  · rw [if_neg c25] at H
                    have c25b0 : decide (0 < (t226.length : Int)) = false := decide_eq_false c25
                    have c25b1 : decide (0 < t226.length) = false := decide_eq_false (by omega)
                    clear c25
                    (first | rw [c25b0] | (simp only [i64_w, i32_w]; rw [c25b0]) | skip)
                    have H' := Aside0.mk H
                    clear H
                    go_wp2
                    go_meet
                    case rel => exact ⟨_, (false), (by first | rfl | (simp; done) | (simp [*]; done)), H', ⟨by have := HJ4.out; have := HK2.out; first | omega | exact Nat.le_refl _⟩, ⟨by (with_reducible repeat (first | apply Kd.S_alloc | apply Kd.S_drewN | apply Kd.S_drew)); exact HO_9.out⟩, ⟨by (with_reducible repeat (first | apply Kd.R_alloc | apply Kd.R_drewN | apply Kd.R_drew)); exact HO_10.out⟩, ⟨by (with_reducible repeat (first | apply Kd.R_alloc | apply Kd.R_drewN | apply Kd.R_drew)); exact HO_12.out⟩, ⟨by repeat (first | (with_reducible first | exact HB.out | apply below_alloc | apply pw_below_drewN | apply below_drew1) | exact HB.out)⟩⟩
                · replace c24 := Bool.eq_false_iff.mpr c24
                  subst c24
                  have H1 : (marblerunlaw11_MatrixTimes.j2 k2 l3 t226 t229 t230 t233 t234 (wrap64 (Int.tmod a2 5)) false x16_2 false) = some r := by rw [if_neg (show ¬ (false = true) by decide)] at H; exact H
                  clear H
                  have H := H1
                  clear H1
                  have H' := Aside0.mk H
                  clear H
                  go_wp2
                  go_meet
                  case rel => exact ⟨_, (false), (by first | rfl | (simp; done) | (simp [*]; done)), H', ⟨by have := HJ4.out; have := HK2.out; first | omega | exact Nat.le_refl _⟩, ⟨by (with_reducible repeat (first | apply Kd.S_alloc | apply Kd.S_drewN | apply Kd.S_drew)); exact HO_9.out⟩, ⟨by (with_reducible repeat (first | apply Kd.R_alloc | apply Kd.R_drewN | apply Kd.R_drew)); exact HO_10.out⟩, ⟨by (with_reducible repeat (first | apply Kd.R_alloc | apply Kd.R_drewN | apply Kd.R_drew)); exact HO_12.out⟩, ⟨by repeat (first | (with_reducible first | exact HB.out | apply below_alloc | apply pw_below_drewN | apply below_drew1) | exact HB.out)⟩⟩
              case rest =>
                clear HC23
                try clear c1
                try clear c2
                try clear p2
                try clear c3
                try clear p6
                try clear c7
                try clear c8
                try clear c8b0
                try clear c8b1
                try clear c10
                try clear c12
                try clear c14
                try clear c23
                try clear c24
                try clear c25
                try clear c25b0
                try clear c25b1
                try clear p2
                try clear p6
                obtain ⟨kq, x72_22, rfl, HA, HJ22, HO_9, HO_10, HO_12, HB⟩ := hcut
                cases kq with
                | zero => exact absurd HA.out (by simp [marblerunlaw11_MatrixTimes.j2])
                | succ kj22 =>
                  have H := HA.out
                  clear HA
                  simp only [marblerunlaw11_MatrixTimes.j2] at H
                  by_cases c26 : x72_22 = true
                  · subst c26
                    have H1 : (marblerunlaw11_MatrixTimes.l1 kj22 l3 t226 t229 t230 t233 t234 (wrap64 (Int.tmod a2 5)) x15_2 x16_2 ([] : List Int) 0) = some r := by rw [if_pos rfl] at H; exact H
                    clear H
                    have H := H1
                    clear H1
                    have H' := Aside0.mk H
                    clear H
                    go_wp2
                    go_loopg [17, 18] kj22 (fun kq v17 v18 w' => ∃ (x17_4 : List Int) (x18_4 : Int), v18 = .int .i64 x18_4 ∧ Aside0 (marblerunlaw11_MatrixTimes.l1 kq l3 t226 t229 t230 t233 t234 (wrap64 (Int.tmod a2 5)) x15_2 x16_2 x17_4 x18_4 = some r) ∧ Aside0 (kq ≤ kj22) ∧ Aside0 (Kd.S (Kd.slice 3 (Kd.int .i64)) 22 w' w.heap.size (fun k_ => some k_ ≠ (v231 : Value).ownBlock ∧ some k_ ≠ (v235 : Value).ownBlock ∧ some k_ ≠ (v17 : Value).ownBlock) (.slice Ao20 t226.length co20) t226) ∧ Aside0 (Kd.R (Kd.int .i64) 3 w' w.heap.size (fun k_ => some k_ ≠ (v235 : Value).ownBlock ∧ some k_ ≠ (v17 : Value).ownBlock) v231 t229) ∧ Aside0 (Kd.R (Kd.int .i64) 3 w' w.heap.size (fun k_ => some k_ ≠ (v231 : Value).ownBlock ∧ some k_ ≠ (v17 : Value).ownBlock) v235 t233) ∧ Aside0 (Kd.R (Kd.int .i64) 3 w' w.heap.size (fun k_ => some k_ ≠ (v231 : Value).ownBlock ∧ some k_ ≠ (v235 : Value).ownBlock) v17 x17_4) ∧ Aside0 (Below w.heap.size w w'))
                    case atStart => exact ⟨(([] : List Int)), (0), (by first | rfl | (simp; done) | (simp [*]; done)), H', ⟨Nat.le_refl _⟩, ⟨by (with_reducible repeat (first | apply Kd.S_alloc | apply Kd.S_drewN | apply Kd.S_drew)); exact Kd.S_mono HO_9.out (fun _ hk => ⟨hk.1, ⟨hk.2, (by simp [Value.ownBlock])⟩⟩)⟩, ⟨by (with_reducible repeat (first | apply Kd.R_alloc | apply Kd.R_drewN | apply Kd.R_drew)); exact Kd.R_mono HO_10.out (fun _ hk => ⟨hk, (by simp [Value.ownBlock])⟩)⟩, ⟨by (with_reducible repeat (first | apply Kd.R_alloc | apply Kd.R_drewN | apply Kd.R_drew)); exact Kd.R_mono HO_12.out (fun _ hk => ⟨hk, (by simp [Value.ownBlock])⟩)⟩, ⟨by first | exact Kd.R_nil _ _ _ _ _ | exact Kd.N_nil _ _ _ _ _ | exact Kd.V_nil _ _ _ _ _ | exact Kd.Q_nil _ _ _ _ _ | exact Kd.S_nil _ _ _ _ _⟩, ⟨by repeat (first | (with_reducible first | exact HB.out | apply below_alloc | apply pw_below_drewN | apply below_drew1) | exact HB.out)⟩⟩
                    case round =>
                      clear H'
                      try clear c1
                      try clear c2
                      try clear p2
                      try clear c3
                      try clear p6
                      try clear c7
                      try clear c8
                      try clear c8b0
                      try clear c8b1
                      try clear c10
                      try clear c12
                      try clear c14
                      try clear c23
                      try clear c24
                      try clear c25
                      try clear c25b0
                      try clear c25b1
                      try clear c26
                      try clear p2
                      try clear p6
                      obtain ⟨x17_4, x18_4, rfl, HA, HK4, HO_9, HO_10, HO_12, HO_17, HB⟩ := hrel
                      cases gk with
                      | zero => exact absurd HA.out (by simp [marblerunlaw11_MatrixTimes.l1])
                      | succ k4 =>
                        have H := HA.out
                        clear HA
                        simp only [marblerunlaw11_MatrixTimes.l1] at H
                        by_cases c27 : x18_4 < (t226.length : Int)
                        · rw [if_pos c27] at H
                          have c27b0 : decide (x18_4 < (t226.length : Int)) = true := decide_eq_true c27
                          clear c27
                          by_cases c28 : 0 ≤ x18_4
                          · rw [if_pos c28] at H
                            have c28b0 : decide (0 ≤ x18_4) = true := decide_eq_true c28
                            clear c28
                            by_cases c29 : 0 ≤ x16_2
                            · rw [if_pos c29] at H
                              have c29b0 : decide (0 ≤ x16_2) = true := decide_eq_true c29
                              clear c29
                              by_cases c30 : x16_2 < ((rd_L1 t226 x18_4).length : Int)
                              · rw [if_pos c30] at H
                                have c30b0 : decide (x16_2 < ((rd_L1 t226 x18_4).length : Int)) = true := decide_eq_true c30
                                clear c30
                                by_cases c31 : x17_4.length < 17592186044416
                                · rw [if_pos c31] at H
                                  have LMc31 := Aside0.mk c31
                                  clear c31
                                  obtain ⟨y239, hy239⟩ : ∃ y_ : List Int, y_ = (x17_4 ++ [rd (rd_L1 t226 x18_4) x16_2]) := ⟨_, rfl⟩
                                  replace H : (marblerunlaw11_MatrixTimes.l1 k4 l3 t226 t229 t230 t233 t234 (wrap64 (Int.tmod a2 5)) x15_2 x16_2 y239 (wrap64 (x18_4 + 1))) = some r := by first | (rw [hy239]; with_reducible exact H) | (have H2_ := (Option.bind_some _ _).symm.trans H; rw [hy239]; with_reducible exact H2_) | (have H2_ := (Option.bind_some _ _).symm.trans H; with_reducible exact H2_) | with_reducible exact H | (rw [hy239]; exact H) | exact H
                                  have Ny239 := Aside0.mk hy239
                                  clear hy239
                                  have H' := Aside0.mk H
                                  clear H
                                  have p237 : 0 ≤ (x18_4 : Int) := of_decide_eq_true (by first | (with_reducible assumption) | assumption)
                                  have q237 : x18_4 < (t226.length : Int) := of_decide_eq_true (by first | (with_reducible assumption) | assumption)
                                  obtain ⟨ad237, A237_0, c237_0, e237, hx237_0, hl237_0, hi237_0⟩ := at_L1 (Kd.S_reads' HO_9.out).2.2 x18_4 p237 q237
                                  cases e237
                                  obtain ⟨ce237, hce237, hMe237, hcc237⟩ := Kd.S_get HO_9.out [] x18_4 p237 (by first | exact q237 | exact of_decide_eq_true (by first | (with_reducible assumption) | assumption) | (have e_ := (Kd.S_reads' HO_9.out).1; omega))
                                  obtain ⟨ve237_0, rfl, ge237_0⟩ := hMe237
                                  have hv237_0 := hcc237 0 _ rfl
                                  rw [Nat.add_zero, show ((Kd.slice 3 (Kd.int .i64))).sz = 1 from rfl, Nat.mul_one] at hv237_0
                                  replace hv237_0 := Option.some.inj (hv237_0.symm.trans hx237_0)
                                  rw [hv237_0] at ge237_0
                                  have HL237_0 := Aside0.mk (show Kd.R (Kd.int .i64) 3 _ _ _ _ (rd_L1 t226 x18_4) from ge237_0)
                                  clear hv237_0 ge237_0
                                  clear hcc237 hce237
                                  have HR237_0 := Aside0.mk hi237_0
                                  have HC237_0 := Aside0.mk hl237_0
                                  clear hi237_0 hl237_0
                                  replace p237 := eq_true p237
                                  replace q237 := eq_true q237
                                  have p238 : 0 ≤ (x16_2 : Int) := of_decide_eq_true (by first | (with_reducible assumption) | assumption)
                                  have q238 : x16_2 < ((rd_L1 t226 x18_4).length : Int) := of_decide_eq_true (by first | (with_reducible assumption) | assumption)
                                  obtain ⟨ad238, e238, hx238_0⟩ := Kd.at_int (by repeat (first | (with_reducible exact HR237_0.out) | (with_reducible refine Kd.C_alloc ?_ _) | (with_reducible refine Kd.C_drewN ?_ _) | (with_reducible refine Kd.C_drew ?_) | exact HR237_0.out)) x16_2 p238 q238
                                  cases e238
                                  replace p238 := eq_true p238
                                  replace q238 := eq_true q238
                                  go_wp2_with (first | ((with_reducible refine gate_builtin (b := .append) (xs := #[.tmp 81, .tmp 89]) rfl ?_); (try (refine gate_guard (by rfl) ?_; dsimp only)); at_builtin; refine Kd.R_append (Kd.int .i64) (w0 := w) w.heap.size rfl (.tmp 81) (.tmp 89) 22 3 (.int .i64 0) 8 rfl Try.underlying22 info3 rfl (by decide) (by omega) u17 x17_4 (rd (rd_L1 t226 x18_4) x16_2) [.int .i64 (rd (rd_L1 t226 x18_4) x16_2)] (fun k_ => some k_ ≠ (v231 : Value).ownBlock ∧ some k_ ≠ (v235 : Value).ownBlock) (fun _ => False) rfl rfl ?aP (fun _ hk => hk.elim) ?aF ?aO ?aB ?aS ?aL ?_; (case aP => exact rfl); (case aB => exact (by repeat (first | (with_reducible first | exact HB.out | apply below_alloc | apply pw_below_drewN | apply below_drew1) | exact HB.out))); (case aF => exact (fun k_ hk => ⟨Kd.fresh' (Kd.R_lt (by (with_reducible repeat (first | apply Kd.R_alloc | apply Kd.R_drewN | apply Kd.R_drew)); exact HO_10.out)) k_ hk, Kd.fresh' (Kd.R_lt (by (with_reducible repeat (first | apply Kd.R_alloc | apply Kd.R_drewN | apply Kd.R_drew)); exact HO_12.out)) k_ hk⟩)); (case aO => exact (by (with_reducible repeat (first | apply Kd.R_alloc | apply Kd.R_drewN | apply Kd.R_drew)); exact HO_17.out)); (case aS => exact (below_size (by repeat (first | (with_reducible first | exact HB.out | apply below_alloc | apply pw_below_drewN | apply below_drew1) | exact HB.out)))); (case aL => have := LMc31.out; omega); intro v240 w32 ho hb hg hat; rw [← Ny239.out] at ho; have n0_ := Aside0.mk (Kd.S_after (ok := (fun k_ => some k_ ≠ (v231 : Value).ownBlock ∧ some k_ ≠ (v235 : Value).ownBlock)) (by (with_reducible repeat (first | apply Kd.S_alloc | apply Kd.S_drewN | apply Kd.S_drew)); exact Kd.S_mono HO_9.out (fun _ hk => ⟨⟨hk.1, hk.2.1⟩, hk.2.2⟩)) hg hat); have n1_ := Aside0.mk (Kd.R_after (ok := (fun k_ => some k_ ≠ (v235 : Value).ownBlock)) (by (with_reducible repeat (first | apply Kd.R_alloc | apply Kd.R_drewN | apply Kd.R_drew)); exact HO_10.out) hg hat); have n2_ := Aside0.mk (Kd.R_after (ok := (fun k_ => some k_ ≠ (v231 : Value).ownBlock)) (by (with_reducible repeat (first | apply Kd.R_alloc | apply Kd.R_drewN | apply Kd.R_drew)); exact HO_12.out) hg hat); have n3_ := Aside0.mk (Kd.R_after (ok := (fun k_ => some k_ ≠ (.slice (some ad237) t226.length co20 : Value).ownBlock ∧ some k_ ≠ (v231 : Value).ownBlock ∧ some k_ ≠ (v235 : Value).ownBlock)) (by (with_reducible repeat (first | apply Kd.R_alloc | apply Kd.R_drewN | apply Kd.R_drew)); exact Kd.R_mono HL237_0.out (fun _ hk => ⟨⟨hk.2, ⟨hk.1.1, hk.1.2.1⟩⟩, hk.1.2.2⟩)) hg hat); have n4_ := Aside0.mk (hb); have n5_ := Aside0.mk (ho); clear HO_9; clear HO_10; clear HO_12; clear HL237_0; clear HB; clear HO_17; have HO_9 := n0_; have HO_10 := n1_; have HO_12 := n2_; have HL237_0 := n3_; have HB := n4_; have HO241 := n5_; clear n0_ n1_ n2_ n3_ n4_ n5_; clear ho hb hg hat))
                                  go_roundg k4
                                  case measure => have := HJ4.out; have := HK2.out; have := HJ22.out; have := HK4.out; omega
                                  case rel => exact ⟨(y239), (wrap64 (x18_4 + 1)), (by first | rfl | (simp; done) | (simp [*]; done)), H', ⟨by have := HJ4.out; have := HK2.out; have := HJ22.out; have := HK4.out; omega⟩, ⟨by (with_reducible repeat (first | apply Kd.S_alloc | apply Kd.S_drewN | apply Kd.S_drew)); exact Kd.S_mono HO_9.out (fun _ hk => ⟨hk.1.1, ⟨hk.1.2, hk.2⟩⟩)⟩, ⟨by (with_reducible repeat (first | apply Kd.R_alloc | apply Kd.R_drewN | apply Kd.R_drew)); exact HO_10.out⟩, ⟨by (with_reducible repeat (first | apply Kd.R_alloc | apply Kd.R_drewN | apply Kd.R_drew)); exact HO_12.out⟩, ⟨by (with_reducible repeat (first | apply Kd.R_alloc | apply Kd.R_drewN | apply Kd.R_drew)); exact HO241.out⟩, ⟨by repeat (first | (with_reducible first | exact HB.out | apply below_alloc | apply pw_below_drewN | apply below_drew1) | exact HB.out)⟩⟩
                                · rw [if_neg c31] at H
                                  exact absurd H (by simp)
                              · rw [if_neg c30] at H
                                exact absurd H (by simp)
                            · rw [if_neg c29] at H
                              exact absurd H (by simp)
                          · rw [if_neg c28] at H
                            exact absurd H (by simp)
                        · rw [if_neg c27] at H
                          have c27b0 : decide (x18_4 < (t226.length : Int)) = false := decide_eq_false c27
                          clear c27
                          replace H := Option.bind_eq_some_iff.mp H
                          obtain ⟨⟨t242, t243⟩, A330, H⟩ := H
                          replace H : (if t243 = true then (if t230 = true then (if (t229.length : Int) = (wrap64 (Int.tmod a2 5)) then (if 0 ≤ x16_2 then (if x16_2 < (t229.length : Int) then (if (rd t229 x16_2) = t242 then (marblerunlaw11_MatrixTimes.l0 k4 l3 t226 t229 t230 t233 t234 (wrap64 (Int.tmod a2 5)) x15_2 (wrap64 (x16_2 + 1))) else (some false)) else (none)) else (none)) else (some false)) else (marblerunlaw11_MatrixTimes.l0 k4 l3 t226 t229 t230 t233 t234 (wrap64 (Int.tmod a2 5)) x15_2 (wrap64 (x16_2 + 1)))) else (marblerunlaw11_MatrixTimes.j4 k4 l3 t226 t229 t230 t233 t234 (wrap64 (Int.tmod a2 5)) false)) = some r := H
                          have A33 := Aside0.mk A330
                          clear A330
                          by_cases c34 : t243 = true
                          · subst c34
                            have H1 : (if t230 = true then (if (t229.length : Int) = (wrap64 (Int.tmod a2 5)) then (if 0 ≤ x16_2 then (if x16_2 < (t229.length : Int) then (if (rd t229 x16_2) = t242 then (marblerunlaw11_MatrixTimes.l0 k4 l3 t226 t229 t230 t233 t234 (wrap64 (Int.tmod a2 5)) x15_2 (wrap64 (x16_2 + 1))) else (some false)) else (none)) else (none)) else (some false)) else (marblerunlaw11_MatrixTimes.l0 k4 l3 t226 t229 t230 t233 t234 (wrap64 (Int.tmod a2 5)) x15_2 (wrap64 (x16_2 + 1)))) = some r := by rw [if_pos rfl] at H; exact H
                            clear H
                            have H := H1
                            clear H1
                            by_cases c35 : t230 = true
                            · subst c35
                              have H1 : (if (t229.length : Int) = (wrap64 (Int.tmod a2 5)) then (if 0 ≤ x16_2 then (if x16_2 < (t229.length : Int) then (if (rd t229 x16_2) = t242 then (marblerunlaw11_MatrixTimes.l0 k4 l3 t226 t229 true t233 t234 (wrap64 (Int.tmod a2 5)) x15_2 (wrap64 (x16_2 + 1))) else (some false)) else (none)) else (none)) else (some false)) = some r := by rw [if_pos rfl] at H; exact H
                              clear H
                              have H := H1
                              clear H1
                              by_cases c36 : (t229.length : Int) = (wrap64 (Int.tmod a2 5))
                              · rw [if_pos c36] at H
                                have c36b0 : ((t229.length : Int) == (wrap64 (Int.tmod a2 5))) = true := beq_iff_eq.mpr c36
                                have c36b1 : ((t229.length : Int) != (wrap64 (Int.tmod a2 5))) = false := bne_eq_false_iff_eq.mpr c36
                                clear c36
                                by_cases c37 : 0 ≤ x16_2
                                · rw [if_pos c37] at H
                                  have c37b0 : decide (0 ≤ x16_2) = true := decide_eq_true c37
                                  clear c37
                                  by_cases c38 : x16_2 < (t229.length : Int)
                                  · rw [if_pos c38] at H
                                    have c38b0 : decide (x16_2 < (t229.length : Int)) = true := decide_eq_true c38
                                    clear c38
                                    by_cases c39 : (rd t229 x16_2) = t242
                                    · rw [if_pos c39] at H
                                      have c39b0 : ((rd t229 x16_2) == t242) = true := beq_iff_eq.mpr c39
                                      have c39b1 : ((rd t229 x16_2) != t242) = false := bne_eq_false_iff_eq.mpr c39
                                      clear c39
                                      have H' := Aside0.mk H
                                      clear H
                                      obtain ⟨Ao40, co40, eo40⟩ := Kd.R_slice HO_17.out
                                      subst eo40
                                      go_wp2_with (first | ((with_reducible refine gate_callee (f := 33) rfl ?_); refine goesL_ (some 94) rfl rfl Try.func33 (by kernel_rfl) rfl #[.slice A3 l3.length c3, .slice Ao40 x17_4.length co40] rfl (by (try simp only [List.map_toArray, List.map_cons, List.map_nil]); first | done | rfl | (simp only [List.length_drop, List.length_take]; rfl)) ?_; (with_reducible refine (marblerunref01_Dot.calls k4 _ _ l3 _ _ x17_4 t242 true _ ?side1 ?side2 ?side3 ?side4 A33.out).mono ?_); (case side1 => repeat (first | exact (Kd.C_below HR3.out HB.out) | (with_reducible refine Kd.C_alloc ?_ _) | (with_reducible refine Kd.C_drewN ?_ _) | (with_reducible refine Kd.C_drew ?_))); (case side2 => exact HC3.out); (case side3 => repeat (first | exact (Kd.R_reads' HO_17.out).2.2 | (with_reducible refine Kd.C_alloc ?_ _) | (with_reducible refine Kd.C_drewN ?_ _) | (with_reducible refine Kd.C_drew ?_))); (case side4 => exact (Kd.R_reads' HO_17.out).2.1); rintro e w' ⟨rfl, ⟨nd, rfl⟩⟩; refine ⟨_, rfl, ?_⟩; obtain ⟨Ao41, co41, eo41⟩ := Kd.R_slice HO_10.out; subst eo41; have p244 : 0 ≤ (x16_2 : Int) := of_decide_eq_true (by first | (with_reducible assumption) | assumption); have q244 : x16_2 < (t229.length : Int) := of_decide_eq_true (by first | (with_reducible assumption) | assumption); obtain ⟨ad244, e244, hx244_0⟩ := Kd.at_int (Kd.R_reads' HO_10.out).2.2 x16_2 p244 q244; cases e244; replace p244 := eq_true p244; replace q244 := eq_true q244))
                                      go_roundg k4
                                      case measure => have := HJ4.out; have := HK2.out; have := HJ22.out; have := HK4.out; omega
                                      case rel => exact ⟨(x15_2), (wrap64 (x16_2 + 1)), (by first | rfl | (simp; done) | (simp [*]; done)), (by first | rfl | (simp; done) | (simp [*]; done)), H', ⟨by have := HJ4.out; have := HK2.out; have := HJ22.out; have := HK4.out; omega⟩, ⟨by (with_reducible repeat (first | apply Kd.S_alloc | apply Kd.S_drewN | apply Kd.S_drew)); exact Kd.S_mono HO_9.out (fun _ hk => ⟨hk.1, hk.2.1⟩)⟩, ⟨by (with_reducible repeat (first | apply Kd.R_alloc | apply Kd.R_drewN | apply Kd.R_drew)); exact Kd.R_mono HO_10.out (fun _ hk => hk.1)⟩, ⟨by (with_reducible repeat (first | apply Kd.R_alloc | apply Kd.R_drewN | apply Kd.R_drew)); exact Kd.R_mono HO_12.out (fun _ hk => hk.1)⟩, ⟨by repeat (first | (with_reducible first | exact HB.out | apply below_alloc | apply pw_below_drewN | apply below_drew1) | exact HB.out)⟩⟩
                                    · rw [if_neg c39] at H
                                      have c39b0 : ((rd t229 x16_2) == t242) = false := beq_eq_false_iff_ne.mpr c39
                                      have c39b1 : ((rd t229 x16_2) != t242) = true := bne_iff_ne.mpr c39
                                      obtain rfl := Option.some.inj H
                                      obtain ⟨Ao42, co42, eo42⟩ := Kd.R_slice HO_17.out
                                      subst eo42
                                      go_wp2_with (first | ((with_reducible refine gate_callee (f := 33) rfl ?_); refine goesL_ (some 94) rfl rfl Try.func33 (by kernel_rfl) rfl #[.slice A3 l3.length c3, .slice Ao42 x17_4.length co42] rfl (by (try simp only [List.map_toArray, List.map_cons, List.map_nil]); first | done | rfl | (simp only [List.length_drop, List.length_take]; rfl)) ?_; (with_reducible refine (marblerunref01_Dot.calls k4 _ _ l3 _ _ x17_4 t242 true _ ?side1 ?side2 ?side3 ?side4 A33.out).mono ?_); (case side1 => repeat (first | exact (Kd.C_below HR3.out HB.out) | (with_reducible refine Kd.C_alloc ?_ _) | (with_reducible refine Kd.C_drewN ?_ _) | (with_reducible refine Kd.C_drew ?_))); (case side2 => exact HC3.out); (case side3 => repeat (first | exact (Kd.R_reads' HO_17.out).2.2 | (with_reducible refine Kd.C_alloc ?_ _) | (with_reducible refine Kd.C_drewN ?_ _) | (with_reducible refine Kd.C_drew ?_))); (case side4 => exact (Kd.R_reads' HO_17.out).2.1); rintro e w' ⟨rfl, ⟨nd, rfl⟩⟩; refine ⟨_, rfl, ?_⟩; obtain ⟨Ao43, co43, eo43⟩ := Kd.R_slice HO_10.out; subst eo43; have p244 : 0 ≤ (x16_2 : Int) := of_decide_eq_true (by first | (with_reducible assumption) | assumption); have q244 : x16_2 < (t229.length : Int) := of_decide_eq_true (by first | (with_reducible assumption) | assumption); obtain ⟨ad244, e244, hx244_0⟩ := Kd.at_int (Kd.R_reads' HO_10.out).2.2 x16_2 p244 q244; cases e244; replace p244 := eq_true p244; replace q244 := eq_true q244))
                                      go_ret
                                      exact ⟨by first | rfl | (simp [errW_none, errW_some] <;> rfl) | (simp [*, errW_none, errW_some] <;> rfl), by repeat (first | (with_reducible first | exact HB.out | apply below_alloc | apply pw_below_drewN | apply below_drew1) | exact HB.out)⟩
                                  · rw [if_neg c38] at H
                                    exact absurd H (by simp)
                                · rw [if_neg c37] at H
                                  exact absurd H (by simp)
                              · rw [if_neg c36] at H
                                have c36b0 : ((t229.length : Int) == (wrap64 (Int.tmod a2 5))) = false := beq_eq_false_iff_ne.mpr c36
                                have c36b1 : ((t229.length : Int) != (wrap64 (Int.tmod a2 5))) = true := bne_iff_ne.mpr c36
                                obtain rfl := Option.some.inj H
                                obtain ⟨Ao44, co44, eo44⟩ := Kd.R_slice HO_17.out
                                subst eo44
                                go_wp2_with (first | ((with_reducible refine gate_callee (f := 33) rfl ?_); refine goesL_ (some 94) rfl rfl Try.func33 (by kernel_rfl) rfl #[.slice A3 l3.length c3, .slice Ao44 x17_4.length co44] rfl (by (try simp only [List.map_toArray, List.map_cons, List.map_nil]); first | done | rfl | (simp only [List.length_drop, List.length_take]; rfl)) ?_; (with_reducible refine (marblerunref01_Dot.calls k4 _ _ l3 _ _ x17_4 t242 true _ ?side1 ?side2 ?side3 ?side4 A33.out).mono ?_); (case side1 => repeat (first | exact (Kd.C_below HR3.out HB.out) | (with_reducible refine Kd.C_alloc ?_ _) | (with_reducible refine Kd.C_drewN ?_ _) | (with_reducible refine Kd.C_drew ?_))); (case side2 => exact HC3.out); (case side3 => repeat (first | exact (Kd.R_reads' HO_17.out).2.2 | (with_reducible refine Kd.C_alloc ?_ _) | (with_reducible refine Kd.C_drewN ?_ _) | (with_reducible refine Kd.C_drew ?_))); (case side4 => exact (Kd.R_reads' HO_17.out).2.1); rintro e w' ⟨rfl, ⟨nd, rfl⟩⟩; refine ⟨_, rfl, ?_⟩; obtain ⟨Ao45, co45, eo45⟩ := Kd.R_slice HO_10.out; subst eo45))
                                go_ret
                                exact ⟨by first | rfl | (simp [errW_none, errW_some] <;> rfl) | (simp [*, errW_none, errW_some] <;> rfl), by repeat (first | (with_reducible first | exact HB.out | apply below_alloc | apply pw_below_drewN | apply below_drew1) | exact HB.out)⟩
                            · replace c35 := Bool.eq_false_iff.mpr c35
                              subst c35
                              have H1 : (marblerunlaw11_MatrixTimes.l0 k4 l3 t226 t229 false t233 t234 (wrap64 (Int.tmod a2 5)) x15_2 (wrap64 (x16_2 + 1))) = some r := by rw [if_neg (show ¬ (false = true) by decide)] at H; exact H
                              clear H
                              have H := H1
                              clear H1
                              have H' := Aside0.mk H
                              clear H
                              obtain ⟨Ao46, co46, eo46⟩ := Kd.R_slice HO_17.out
                              subst eo46
                              go_wp2_with (first | ((with_reducible refine gate_callee (f := 33) rfl ?_); refine goesL_ (some 94) rfl rfl Try.func33 (by kernel_rfl) rfl #[.slice A3 l3.length c3, .slice Ao46 x17_4.length co46] rfl (by (try simp only [List.map_toArray, List.map_cons, List.map_nil]); first | done | rfl | (simp only [List.length_drop, List.length_take]; rfl)) ?_; (with_reducible refine (marblerunref01_Dot.calls k4 _ _ l3 _ _ x17_4 t242 true _ ?side1 ?side2 ?side3 ?side4 A33.out).mono ?_); (case side1 => repeat (first | exact (Kd.C_below HR3.out HB.out) | (with_reducible refine Kd.C_alloc ?_ _) | (with_reducible refine Kd.C_drewN ?_ _) | (with_reducible refine Kd.C_drew ?_))); (case side2 => exact HC3.out); (case side3 => repeat (first | exact (Kd.R_reads' HO_17.out).2.2 | (with_reducible refine Kd.C_alloc ?_ _) | (with_reducible refine Kd.C_drewN ?_ _) | (with_reducible refine Kd.C_drew ?_))); (case side4 => exact (Kd.R_reads' HO_17.out).2.1); rintro e w' ⟨rfl, ⟨nd, rfl⟩⟩; refine ⟨_, rfl, ?_⟩))
                              go_roundg k4
                              case measure => have := HJ4.out; have := HK2.out; have := HJ22.out; have := HK4.out; omega
                              case rel => exact ⟨(x15_2), (wrap64 (x16_2 + 1)), (by first | rfl | (simp; done) | (simp [*]; done)), (by first | rfl | (simp; done) | (simp [*]; done)), H', ⟨by have := HJ4.out; have := HK2.out; have := HJ22.out; have := HK4.out; omega⟩, ⟨by (with_reducible repeat (first | apply Kd.S_alloc | apply Kd.S_drewN | apply Kd.S_drew)); exact Kd.S_mono HO_9.out (fun _ hk => ⟨hk.1, hk.2.1⟩)⟩, ⟨by (with_reducible repeat (first | apply Kd.R_alloc | apply Kd.R_drewN | apply Kd.R_drew)); exact Kd.R_mono HO_10.out (fun _ hk => hk.1)⟩, ⟨by (with_reducible repeat (first | apply Kd.R_alloc | apply Kd.R_drewN | apply Kd.R_drew)); exact Kd.R_mono HO_12.out (fun _ hk => hk.1)⟩, ⟨by repeat (first | (with_reducible first | exact HB.out | apply below_alloc | apply pw_below_drewN | apply below_drew1) | exact HB.out)⟩⟩
                          · replace c34 := Bool.eq_false_iff.mpr c34
                            subst c34
                            have H1 : (marblerunlaw11_MatrixTimes.j4 k4 l3 t226 t229 t230 t233 t234 (wrap64 (Int.tmod a2 5)) false) = some r := by rw [if_neg (show ¬ (false = true) by decide)] at H; exact H
                            clear H
                            have H := H1
                            clear H1
                            have H' := Aside0.mk H
                            clear H
                            obtain ⟨Ao47, co47, eo47⟩ := Kd.R_slice HO_17.out
                            subst eo47
                            go_wp2_with (first | ((with_reducible refine gate_callee (f := 33) rfl ?_); refine goesL_ (some 94) rfl rfl Try.func33 (by kernel_rfl) rfl #[.slice A3 l3.length c3, .slice Ao47 x17_4.length co47] rfl (by (try simp only [List.map_toArray, List.map_cons, List.map_nil]); first | done | rfl | (simp only [List.length_drop, List.length_take]; rfl)) ?_; (with_reducible refine (marblerunref01_Dot.calls k4 _ _ l3 _ _ x17_4 t242 false _ ?side1 ?side2 ?side3 ?side4 A33.out).mono ?_); (case side1 => repeat (first | exact (Kd.C_below HR3.out HB.out) | (with_reducible refine Kd.C_alloc ?_ _) | (with_reducible refine Kd.C_drewN ?_ _) | (with_reducible refine Kd.C_drew ?_))); (case side2 => exact HC3.out); (case side3 => repeat (first | exact (Kd.R_reads' HO_17.out).2.2 | (with_reducible refine Kd.C_alloc ?_ _) | (with_reducible refine Kd.C_drewN ?_ _) | (with_reducible refine Kd.C_drew ?_))); (case side4 => exact (Kd.R_reads' HO_17.out).2.1); rintro e w' ⟨rfl, ⟨nd, rfl⟩⟩; refine ⟨_, rfl, ?_⟩))
                            go_meet
                            case rel => exact ⟨_, (false), (by first | rfl | (simp; done) | (simp [*]; done)), H', ⟨by have := HJ4.out; have := HK2.out; have := HJ22.out; have := HK4.out; first | omega | exact Nat.le_refl _⟩, ⟨by (with_reducible repeat (first | apply Kd.S_alloc | apply Kd.S_drewN | apply Kd.S_drew)); exact Kd.S_mono HO_9.out (fun _ hk => ⟨hk.1, hk.2.1⟩)⟩, ⟨by (with_reducible repeat (first | apply Kd.R_alloc | apply Kd.R_drewN | apply Kd.R_drew)); exact Kd.R_mono HO_10.out (fun _ hk => hk.1)⟩, ⟨by (with_reducible repeat (first | apply Kd.R_alloc | apply Kd.R_drewN | apply Kd.R_drew)); exact Kd.R_mono HO_12.out (fun _ hk => hk.1)⟩, ⟨by repeat (first | (with_reducible first | exact HB.out | apply below_alloc | apply pw_below_drewN | apply below_drew1) | exact HB.out)⟩⟩
                  · replace c26 := Bool.eq_false_iff.mpr c26
                    subst c26
                    have H1 : (marblerunlaw11_MatrixTimes.j4 kj22 l3 t226 t229 t230 t233 t234 (wrap64 (Int.tmod a2 5)) x15_2) = some r := by rw [if_neg (show ¬ (false = true) by decide)] at H; exact H
                    clear H
                    have H := H1
                    clear H1
                    have H' := Aside0.mk H
                    clear H
                    go_wp2
                    go_meet
                    case rel => exact ⟨_, (x15_2), (by first | rfl | (simp; done) | (simp [*]; done)), H', ⟨by have := HJ4.out; have := HK2.out; have := HJ22.out; first | omega | exact Nat.le_refl _⟩, ⟨by (with_reducible repeat (first | apply Kd.S_alloc | apply Kd.S_drewN | apply Kd.S_drew)); exact HO_9.out⟩, ⟨by (with_reducible repeat (first | apply Kd.R_alloc | apply Kd.R_drewN | apply Kd.R_drew)); exact HO_10.out⟩, ⟨by (with_reducible repeat (first | apply Kd.R_alloc | apply Kd.R_drewN | apply Kd.R_drew)); exact HO_12.out⟩, ⟨by repeat (first | (with_reducible first | exact HB.out | apply below_alloc | apply pw_below_drewN | apply below_drew1) | exact HB.out)⟩⟩
        case rest =>
          clear HC18
          try clear c1
          try clear c2
          try clear p2
          try clear q2
          try clear hx2
          try clear c3
          try clear p6
          try clear c7
          try clear c8
          try clear c8b0
          try clear c8b1
          try clear c10
          try clear c12
          try clear c14
          try clear c23
          try clear p23
          try clear q23
          try clear hx23
          try clear c24
          try clear p24
          try clear q24
          try clear hx24
          try clear c25
          try clear c25b0
          try clear c25b1
          try clear c26
          try clear c27
          try clear c27b0
          try clear c28
          try clear c28b0
          try clear c29
          try clear c29b0
          try clear c30
          try clear c30b0
          try clear c31
          try clear c33
          try clear c34
          try clear c35
          try clear c36
          try clear c36b0
          try clear c36b1
          try clear c37
          try clear c37b0
          try clear c38
          try clear c38b0
          try clear c39
          try clear c39b0
          try clear c39b1
          try clear hx237_0
          try clear hx238_0
          try clear hx244_0
          try clear p2
          try clear p237
          try clear p238
          try clear p244
          try clear p6
          try clear q237
          try clear q238
          try clear q244
          obtain ⟨kq, x15_17, rfl, HA, HJ17, HO_9, HO_10, HO_12, HB⟩ := hcut
          cases kq with
          | zero => exact absurd HA.out (by simp [marblerunlaw11_MatrixTimes.j4])
          | succ kj17 =>
            have H := HA.out
            clear HA
            simp only [marblerunlaw11_MatrixTimes.j4] at H
            have HC48 := Aside0.mk H
            clear H
            go_upto_region 21 with (fail)
            go_cut [125] (fun v125 wc => ∃ (kq : Nat) (x125_47 : Bool), v125 = .bool x125_47 ∧ Aside0 (marblerunlaw11_MatrixTimes.j5 kq l3 t226 t233 t234 (wrap64 (Int.tmod a2 5)) x125_47 = some r) ∧ Aside0 (kq ≤ kj17) ∧ Aside0 (Kd.S (Kd.slice 3 (Kd.int .i64)) 22 wc w.heap.size (fun k_ => some k_ ≠ (v235 : Value).ownBlock) (.slice Ao20 t226.length co20) t226) ∧ Aside0 (Kd.R (Kd.int .i64) 3 wc w.heap.size (fun _ => True) v235 t233) ∧ Aside0 (Below w.heap.size w wc))
            case first =>
              have H := HC48.out
              clear HC48
              by_cases c49 : (t230 != x15_17) = true
              · rw [if_pos c49] at H
                have c49b0 : (t230 != x15_17) = true := c49
                (try (have c49b1 : decide (t230 = x15_17) = false := by simpa using c49))
                (try (have c49b2 : (t230 == x15_17) = false := by simpa using c49))
                (try (have c49b3 : ¬ (t230 = x15_17) := by simpa using c49))
                clear c49
                (first | rw [c49b0] | (simp only [i64_w, i32_w]; rw [c49b0]) | skip)
                have H' := Aside0.mk H
                clear H
                go_wp2
                go_meet
                case rel => exact ⟨_, (true), (by first | rfl | (simp; done) | (simp [*]; done)), H', ⟨by have := HJ4.out; have := HJ17.out; first | omega | exact Nat.le_refl _⟩, ⟨by (with_reducible repeat (first | apply Kd.S_alloc | apply Kd.S_drewN | apply Kd.S_drew)); exact Kd.S_mono HO_9.out (fun _ hk => by first | exact hk.2 | exact trivial)⟩, ⟨by (with_reducible repeat (first | apply Kd.R_alloc | apply Kd.R_drewN | apply Kd.R_drew)); exact Kd.R_mono HO_12.out (fun _ hk => trivial)⟩, ⟨by repeat (first | (with_reducible first | exact HB.out | apply below_alloc | apply pw_below_drewN | apply below_drew1) | exact HB.out)⟩⟩
              · rw [if_neg c49] at H
                have c49b0 : (t230 != x15_17) = false := by simpa using c49
                (try (have c49b1 : decide (t230 = x15_17) = true := by simpa using c49))
                (try (have c49b2 : (t230 == x15_17) = true := by simpa using c49))
                clear c49
                (first | rw [c49b0] | (simp only [i64_w, i32_w]; rw [c49b0]) | skip)
                by_cases c50 : t230 = true
                · subst c50
                  have H1 : (marblerunlaw11_MatrixTimes.j5 kj17 l3 t226 t233 t234 (wrap64 (Int.tmod a2 5)) false) = some r := by rw [if_pos rfl] at H; exact H
                  clear H
                  have H := H1
                  clear H1
                  have H' := Aside0.mk H
                  clear H
                  go_wp2
                  go_meet
                  case rel => exact ⟨_, (false), (by first | rfl | (simp; done) | (simp [*]; done)), H', ⟨by have := HJ4.out; have := HJ17.out; first | omega | exact Nat.le_refl _⟩, ⟨by (with_reducible repeat (first | apply Kd.S_alloc | apply Kd.S_drewN | apply Kd.S_drew)); exact Kd.S_mono HO_9.out (fun _ hk => by first | exact hk.2 | exact trivial)⟩, ⟨by (with_reducible repeat (first | apply Kd.R_alloc | apply Kd.R_drewN | apply Kd.R_drew)); exact Kd.R_mono HO_12.out (fun _ hk => trivial)⟩, ⟨by repeat (first | (with_reducible first | exact HB.out | apply below_alloc | apply pw_below_drewN | apply below_drew1) | exact HB.out)⟩⟩
                · replace c50 := Bool.eq_false_iff.mpr c50
                  subst c50
                  have H1 : (marblerunlaw11_MatrixTimes.j5 kj17 l3 t226 t233 t234 (wrap64 (Int.tmod a2 5)) ((t229.length : Int) != 0)) = some r := by rw [if_neg (show ¬ (false = true) by decide)] at H; exact H
                  clear H
                  have H := H1
                  clear H1
                  have H' := Aside0.mk H
                  clear H
                  obtain ⟨Ao51, co51, eo51⟩ := Kd.R_slice HO_10.out
                  subst eo51
                  go_wp2
                  go_meet
                  case rel => exact ⟨_, (((t229.length : Int) != 0)), (by first | rfl | (simp; done) | (simp [*]; done)), H', ⟨by have := HJ4.out; have := HJ17.out; first | omega | exact Nat.le_refl _⟩, ⟨by (with_reducible repeat (first | apply Kd.S_alloc | apply Kd.S_drewN | apply Kd.S_drew)); exact Kd.S_mono HO_9.out (fun _ hk => by first | exact hk.2 | exact trivial)⟩, ⟨by (with_reducible repeat (first | apply Kd.R_alloc | apply Kd.R_drewN | apply Kd.R_drew)); exact Kd.R_mono HO_12.out (fun _ hk => trivial)⟩, ⟨by repeat (first | (with_reducible first | exact HB.out | apply below_alloc | apply pw_below_drewN | apply below_drew1) | exact HB.out)⟩⟩
            case rest =>
              clear HC48
              try clear c1
              try clear c2
              try clear p2
              try clear q2
              try clear hx2
              try clear c3
              try clear c4
              try clear c5
              try clear p6
              try clear c7
              try clear c8
              try clear c8b0
              try clear c8b1
              try clear c10
              try clear c12
              try clear c14
              try clear c23
              try clear p23
              try clear q23
              try clear hx23
              try clear c24
              try clear p24
              try clear q24
              try clear hx24
              try clear c25
              try clear c25b0
              try clear c25b1
              try clear c26
              try clear c27
              try clear c27b0
              try clear c28
              try clear c28b0
              try clear c29
              try clear c29b0
              try clear c30
              try clear c30b0
              try clear c31
              try clear c33
              try clear c34
              try clear c35
              try clear c36
              try clear c36b0
              try clear c36b1
              try clear c37
              try clear c37b0
              try clear c38
              try clear c38b0
              try clear c39
              try clear c39b0
              try clear c39b1
              try clear c49
              try clear c49b0
              try clear c49b1
              try clear c49b2
              try clear c50
              try clear hx237_0
              try clear hx238_0
              try clear hx244_0
              try clear p2
              try clear p23
              try clear p237
              try clear p238
              try clear p24
              try clear p244
              try clear p6
              try clear q2
              try clear q23
              try clear q237
              try clear q238
              try clear q24
              try clear q244
              obtain ⟨kq, x125_47, rfl, HA, HJ47, HO_9, HO_12, HB⟩ := hcut
              cases kq with
              | zero => exact absurd HA.out (by simp [marblerunlaw11_MatrixTimes.j5])
              | succ kj47 =>
                have H := HA.out
                clear HA
                simp only [marblerunlaw11_MatrixTimes.j5] at H
                by_cases c52 : x125_47 = true
                · subst c52
                  have H1 : (some false) = some r := by rw [if_pos rfl] at H; exact H
                  clear H
                  have H := H1
                  clear H1
                  obtain rfl := Option.some.inj H
                  go_wp2
                  go_ret
                  exact ⟨by first | rfl | (simp [errW_none, errW_some] <;> rfl) | (simp [*, errW_none, errW_some] <;> rfl), by repeat (first | (with_reducible first | exact HB.out | apply below_alloc | apply pw_below_drewN | apply below_drew1) | exact HB.out)⟩
                · replace c52 := Bool.eq_false_iff.mpr c52
                  subst c52
                  have H1 : (marblerunlaw11_MatrixTimes.l2 kj47 l3 t226 t233 t234 (wrap64 (Int.tmod a2 5)) true 0) = some r := by rw [if_neg (show ¬ (false = true) by decide)] at H; exact H
                  clear H
                  have H := H1
                  clear H1
                  have H' := Aside0.mk H
                  clear H
                  go_wp2
                  go_loopg [21, 22] kj47 (fun kq v21 v22 w' => ∃ (x21_4 : Bool) (x22_4 : Int), v21 = .bool x21_4 ∧ v22 = .int .i64 x22_4 ∧ Aside0 (marblerunlaw11_MatrixTimes.l2 kq l3 t226 t233 t234 (wrap64 (Int.tmod a2 5)) x21_4 x22_4 = some r) ∧ Aside0 (kq ≤ kj47) ∧ Aside0 (Kd.S (Kd.slice 3 (Kd.int .i64)) 22 w' w.heap.size (fun k_ => some k_ ≠ (v235 : Value).ownBlock) (.slice Ao20 t226.length co20) t226) ∧ Aside0 (Kd.R (Kd.int .i64) 3 w' w.heap.size (fun _ => True) v235 t233) ∧ Aside0 (Below w.heap.size w w'))
                  case atStart => exact ⟨(true), (0), (by first | rfl | (simp; done) | (simp [*]; done)), (by first | rfl | (simp; done) | (simp [*]; done)), H', ⟨Nat.le_refl _⟩, ⟨by (with_reducible repeat (first | apply Kd.S_alloc | apply Kd.S_drewN | apply Kd.S_drew)); exact HO_9.out⟩, ⟨by (with_reducible repeat (first | apply Kd.R_alloc | apply Kd.R_drewN | apply Kd.R_drew)); exact HO_12.out⟩, ⟨by repeat (first | (with_reducible first | exact HB.out | apply below_alloc | apply pw_below_drewN | apply below_drew1) | exact HB.out)⟩⟩
                  case round =>
                    clear H'
                    try clear c1
                    try clear c2
                    try clear p2
                    try clear q2
                    try clear hx2
                    try clear c3
                    try clear c4
                    try clear c5
                    try clear p6
                    try clear c7
                    try clear c8
                    try clear c8b0
                    try clear c8b1
                    try clear c10
                    try clear c12
                    try clear c14
                    try clear c23
                    try clear p23
                    try clear q23
                    try clear hx23
                    try clear c24
                    try clear p24
                    try clear q24
                    try clear hx24
                    try clear c25
                    try clear c25b0
                    try clear c25b1
                    try clear c26
                    try clear c27
                    try clear c27b0
                    try clear c28
                    try clear c28b0
                    try clear c29
                    try clear c29b0
                    try clear c30
                    try clear c30b0
                    try clear c31
                    try clear c33
                    try clear c34
                    try clear c35
                    try clear c36
                    try clear c36b0
                    try clear c36b1
                    try clear c37
                    try clear c37b0
                    try clear c38
                    try clear c38b0
                    try clear c39
                    try clear c39b0
                    try clear c39b1
                    try clear c49
                    try clear c49b0
                    try clear c49b1
                    try clear c49b2
                    try clear c50
                    try clear c52
                    try clear hx237_0
                    try clear hx238_0
                    try clear hx244_0
                    try clear p2
                    try clear p23
                    try clear p237
                    try clear p238
                    try clear p24
                    try clear p244
                    try clear p6
                    try clear q2
                    try clear q23
                    try clear q237
                    try clear q238
                    try clear q24
                    try clear q244
                    obtain ⟨x21_4, x22_4, rfl, rfl, HA, HK4, HO_9, HO_12, HB⟩ := hrel
                    cases gk with
                    | zero => exact absurd HA.out (by simp [marblerunlaw11_MatrixTimes.l2])
                    | succ k4 =>
                      have H := HA.out
                      clear HA
                      simp only [marblerunlaw11_MatrixTimes.l2] at H
                      by_cases c53 : x22_4 < (t226.length : Int)
                      · rw [if_pos c53] at H
                        have c53b0 : decide (x22_4 < (t226.length : Int)) = true := decide_eq_true c53
                        clear c53
                        by_cases c54 : 0 ≤ x22_4
                        · rw [if_pos c54] at H
                          have c54b0 : decide (0 ≤ x22_4) = true := decide_eq_true c54
                          clear c54
                          replace H := Option.bind_eq_some_iff.mp H
                          obtain ⟨⟨t246, t247⟩, A550, H⟩ := H
                          replace H : (if t247 = true then (marblerunlaw11_MatrixTimes.j7 k4 l3 t226 t233 t234 (wrap64 (Int.tmod a2 5)) x21_4 x22_4 t246 ((l3.length : Int) != (wrap64 (Int.tmod a2 5)))) else (marblerunlaw11_MatrixTimes.j7 k4 l3 t226 t233 t234 (wrap64 (Int.tmod a2 5)) x21_4 x22_4 t246 true)) = some r := H
                          have A55 := Aside0.mk A550
                          clear A550
                          have HC56 := Aside0.mk H
                          clear H
                          have p245 : 0 ≤ (x22_4 : Int) := of_decide_eq_true (by first | (with_reducible assumption) | assumption)
                          have q245 : x22_4 < (t226.length : Int) := of_decide_eq_true (by first | (with_reducible assumption) | assumption)
                          obtain ⟨ad245, A245_0, c245_0, e245, hx245_0, hl245_0, hi245_0⟩ := at_L1 (Kd.S_reads' HO_9.out).2.2 x22_4 p245 q245
                          cases e245
                          obtain ⟨ce245, hce245, hMe245, hcc245⟩ := Kd.S_get HO_9.out [] x22_4 p245 (by first | exact q245 | exact of_decide_eq_true (by first | (with_reducible assumption) | assumption) | (have e_ := (Kd.S_reads' HO_9.out).1; omega))
                          obtain ⟨ve245_0, rfl, ge245_0⟩ := hMe245
                          have hv245_0 := hcc245 0 _ rfl
                          rw [Nat.add_zero, show ((Kd.slice 3 (Kd.int .i64))).sz = 1 from rfl, Nat.mul_one] at hv245_0
                          replace hv245_0 := Option.some.inj (hv245_0.symm.trans hx245_0)
                          rw [hv245_0] at ge245_0
                          have HL245_0 := Aside0.mk (show Kd.R (Kd.int .i64) 3 _ _ _ _ (rd_L1 t226 x22_4) from ge245_0)
                          clear hv245_0 ge245_0
                          clear hcc245 hce245
                          have HR245_0 := Aside0.mk hi245_0
                          have HC245_0 := Aside0.mk hl245_0
                          clear hi245_0 hl245_0
                          replace p245 := eq_true p245
                          replace q245 := eq_true q245
                          go_upto_region 28 with (first | ((with_reducible refine gate_callee (f := 33) rfl ?_); refine goesL_ (some 138) rfl rfl Try.func33 (by kernel_rfl) rfl #[.slice A245_0 (rd_L1 t226 x22_4).length c245_0, .slice A3 l3.length c3] rfl (by (try simp only [List.map_toArray, List.map_cons, List.map_nil]); first | done | rfl | (simp only [List.length_drop, List.length_take]; rfl)) ?_; (with_reducible refine (marblerunref01_Dot.calls k4 _ _ (rd_L1 t226 x22_4) _ _ l3 t246 t247 _ ?side1 ?side2 ?side3 ?side4 A55.out).mono ?_); (case side1 => repeat (first | exact (by repeat (first | (with_reducible exact HR245_0.out) | (with_reducible refine Kd.C_alloc ?_ _) | (with_reducible refine Kd.C_drewN ?_ _) | (with_reducible refine Kd.C_drew ?_) | exact HR245_0.out)) | (with_reducible refine Kd.C_alloc ?_ _) | (with_reducible refine Kd.C_drewN ?_ _) | (with_reducible refine Kd.C_drew ?_))); (case side2 => exact HC245_0.out); (case side3 => repeat (first | exact (Kd.C_below HR3.out HB.out) | (with_reducible refine Kd.C_alloc ?_ _) | (with_reducible refine Kd.C_drewN ?_ _) | (with_reducible refine Kd.C_drew ?_))); (case side4 => exact HC3.out); rintro e w' ⟨rfl, ⟨nd, rfl⟩⟩; refine ⟨_, rfl, ?_⟩))
                          (try simp only [Act.put, List.setIfInBounds_toArray, List.set_cons_zero, List.set_cons_succ])
                          go_cut [148] (fun v148 wc => ∃ (kq : Nat) (x148_55 : Bool), v148 = .bool x148_55 ∧ Aside0 (marblerunlaw11_MatrixTimes.j7 kq l3 t226 t233 t234 (wrap64 (Int.tmod a2 5)) x21_4 x22_4 t246 x148_55 = some r) ∧ Aside0 (kq ≤ k4) ∧ Aside0 (Kd.S (Kd.slice 3 (Kd.int .i64)) 22 wc w.heap.size (fun k_ => some k_ ≠ (v235 : Value).ownBlock) (.slice (some ad245) t226.length co20) t226) ∧ Aside0 (Kd.R (Kd.int .i64) 3 wc w.heap.size (fun _ => True) v235 t233) ∧ Aside0 (Kd.C (Kd.int .i64) wc A245_0 (rd_L1 t226 x22_4).length (rd_L1 t226 x22_4)) ∧ Aside0 (Below w.heap.size w wc))
                          case first =>
                            have H := HC56.out
                            clear HC56
                            by_cases c57 : t247 = true
                            · subst c57
                              have H1 : (marblerunlaw11_MatrixTimes.j7 k4 l3 t226 t233 t234 (wrap64 (Int.tmod a2 5)) x21_4 x22_4 t246 ((l3.length : Int) != (wrap64 (Int.tmod a2 5)))) = some r := by rw [if_pos rfl] at H; exact H
                              clear H
                              have H := H1
                              clear H1
                              have H' := Aside0.mk H
                              clear H
                              go_wp2
                              go_meet
                              case rel => exact ⟨_, (((l3.length : Int) != (wrap64 (Int.tmod a2 5)))), (by first | rfl | (simp; done) | (simp [*]; done)), H', ⟨by have := HJ4.out; have := HJ17.out; have := HJ47.out; have := HK4.out; first | omega | exact Nat.le_refl _⟩, ⟨by (with_reducible repeat (first | apply Kd.S_alloc | apply Kd.S_drewN | apply Kd.S_drew)); exact HO_9.out⟩, ⟨by (with_reducible repeat (first | apply Kd.R_alloc | apply Kd.R_drewN | apply Kd.R_drew)); exact HO_12.out⟩, ⟨by repeat (first | (with_reducible exact HR245_0.out) | (with_reducible refine Kd.C_alloc ?_ _) | (with_reducible refine Kd.C_drewN ?_ _) | (with_reducible refine Kd.C_drew ?_) | exact HR245_0.out)⟩, ⟨by repeat (first | (with_reducible first | exact HB.out | apply below_alloc | apply pw_below_drewN | apply below_drew1) | exact HB.out)⟩⟩
                            · replace c57 := Bool.eq_false_iff.mpr c57
                              subst c57
                              have H1 : (marblerunlaw11_MatrixTimes.j7 k4 l3 t226 t233 t234 (wrap64 (Int.tmod a2 5)) x21_4 x22_4 t246 true) = some r := by rw [if_neg (show ¬ (false = true) by decide)] at H; exact H
                              clear H
                              have H := H1
                              clear H1
                              have H' := Aside0.mk H
                              clear H
                              go_wp2
                              go_meet
                              case rel => exact ⟨_, (true), (by first | rfl | (simp; done) | (simp [*]; done)), H', ⟨by have := HJ4.out; have := HJ17.out; have := HJ47.out; have := HK4.out; first | omega | exact Nat.le_refl _⟩, ⟨by (with_reducible repeat (first | apply Kd.S_alloc | apply Kd.S_drewN | apply Kd.S_drew)); exact HO_9.out⟩, ⟨by (with_reducible repeat (first | apply Kd.R_alloc | apply Kd.R_drewN | apply Kd.R_drew)); exact HO_12.out⟩, ⟨by repeat (first | (with_reducible exact HR245_0.out) | (with_reducible refine Kd.C_alloc ?_ _) | (with_reducible refine Kd.C_drewN ?_ _) | (with_reducible refine Kd.C_drew ?_) | exact HR245_0.out)⟩, ⟨by repeat (first | (with_reducible first | exact HB.out | apply below_alloc | apply pw_below_drewN | apply below_drew1) | exact HB.out)⟩⟩
                          case rest =>
                            clear HC56
                            try clear c1
                            try clear c2
                            try clear p2
                            try clear q2
                            try clear hx2
                            try clear c3
                            try clear c4
                            try clear c5
                            try clear p6
                            try clear c7
                            try clear c8
                            try clear c8b0
                            try clear c8b1
                            try clear c10
                            try clear c12
                            try clear c14
                            try clear c23
                            try clear p23
                            try clear q23
                            try clear hx23
                            try clear c24
                            try clear p24
                            try clear q24
                            try clear hx24
                            try clear c25
                            try clear c25b0
                            try clear c25b1
                            try clear c26
                            try clear c27
                            try clear c27b0
                            try clear c28
                            try clear c28b0
                            try clear c29
                            try clear c29b0
                            try clear c30
                            try clear c30b0
                            try clear c31
                            try clear c33
                            try clear c34
                            try clear c35
                            try clear c36
                            try clear c36b0
                            try clear c36b1
                            try clear c37
                            try clear c37b0
                            try clear c38
                            try clear c38b0
                            try clear c39
                            try clear c39b0
                            try clear c39b1
                            try clear c49
                            try clear c49b0
                            try clear c49b1
                            try clear c49b2
                            try clear c50
                            try clear c52
                            try clear c53
                            try clear c53b0
                            try clear c54
                            try clear c54b0
                            try clear c57
                            try clear hx237_0
                            try clear hx238_0
                            try clear hx244_0
                            try clear hx245_0
                            try clear p2
                            try clear p23
                            try clear p237
                            try clear p238
                            try clear p24
                            try clear p244
                            try clear p245
                            try clear p6
                            try clear q2
                            try clear q23
                            try clear q237
                            try clear q238
                            try clear q24
                            try clear q244
                            try clear q245
                            obtain ⟨kq, x148_55, rfl, HA, HJ55, HO_9, HO_12, HR245_0, HB⟩ := hcut
                            cases kq with
                            | zero => exact absurd HA.out (by simp [marblerunlaw11_MatrixTimes.j7])
                            | succ kj55 =>
                              have H := HA.out
                              clear HA
                              simp only [marblerunlaw11_MatrixTimes.j7] at H
                              by_cases c58 : x148_55 = true
                              · subst c58
                                have H1 : (if (t234 == false) = true then (if t234 = true then (some true) else (some ((t233.length : Int) == 0))) else (some false)) = some r := by rw [if_pos rfl] at H; exact H
                                clear H
                                have H := H1
                                clear H1
                                by_cases c59 : (t234 == false) = true
                                · rw [if_pos c59] at H
                                  have c59b0 : (t234 == false) = true := c59
                                  (try (have c59b1 : decide (t234 = false) = true := by simpa using c59))
                                  (try (have c59b2 : (t234 == false) = true := by simpa using c59))
                                  clear c59
                                  by_cases c60 : t234 = true
                                  · subst c60
                                    have H1 : (some true) = some r := by rw [if_pos rfl] at H; exact H
                                    clear H
                                    have H := H1
                                    clear H1
                                    obtain rfl := Option.some.inj H
                                    go_wp2
                                    go_ret
                                    exact ⟨by first | rfl | (simp [errW_none, errW_some] <;> rfl) | (simp [*, errW_none, errW_some] <;> rfl), by repeat (first | (with_reducible first | exact HB.out | apply below_alloc | apply pw_below_drewN | apply below_drew1) | exact HB.out)⟩
                                  · replace c60 := Bool.eq_false_iff.mpr c60
                                    subst c60
                                    have H1 : (some ((t233.length : Int) == 0)) = some r := by rw [if_neg (show ¬ (false = true) by decide)] at H; exact H
                                    clear H
                                    have H := H1
                                    clear H1
                                    obtain rfl := Option.some.inj H
                                    obtain ⟨Ao61, co61, eo61⟩ := Kd.R_slice HO_12.out
                                    subst eo61
                                    go_wp2
                                    go_ret
                                    exact ⟨by first | rfl | (simp [errW_none, errW_some] <;> rfl) | (simp [*, errW_none, errW_some] <;> rfl), by repeat (first | (with_reducible first | exact HB.out | apply below_alloc | apply pw_below_drewN | apply below_drew1) | exact HB.out)⟩
                                · rw [if_neg c59] at H
                                  have c59b0 : (t234 == false) = false := by simpa using c59
                                  (try (have c59b1 : decide (t234 = false) = false := by simpa using c59))
                                  (try (have c59b2 : (t234 == false) = false := by simpa using c59))
                                  (try (have c59b3 : ¬ (t234 = false) := by simpa using c59))
                                  clear c59
                                  obtain rfl := Option.some.inj H
                                  go_wp2
                                  go_ret
                                  exact ⟨by first | rfl | (simp [errW_none, errW_some] <;> rfl) | (simp [*, errW_none, errW_some] <;> rfl), by repeat (first | (with_reducible first | exact HB.out | apply below_alloc | apply pw_below_drewN | apply below_drew1) | exact HB.out)⟩
                              · replace c58 := Bool.eq_false_iff.mpr c58
                                subst c58
                                have H1 : (if t234 = true then (if (t233.length : Int) = (t226.length : Int) then (if 0 ≤ x22_4 then (if x22_4 < (t233.length : Int) then (if (rd t233 x22_4) = t246 then (marblerunlaw11_MatrixTimes.l2 kj55 l3 t226 t233 t234 (wrap64 (Int.tmod a2 5)) x21_4 (wrap64 (x22_4 + 1))) else (some false)) else (none)) else (none)) else (some false)) else (marblerunlaw11_MatrixTimes.l2 kj55 l3 t226 t233 t234 (wrap64 (Int.tmod a2 5)) x21_4 (wrap64 (x22_4 + 1)))) = some r := by rw [if_neg (show ¬ (false = true) by decide)] at H; exact H
                                clear H
                                have H := H1
                                clear H1
                                by_cases c62 : t234 = true
                                · subst c62
                                  have H1 : (if (t233.length : Int) = (t226.length : Int) then (if 0 ≤ x22_4 then (if x22_4 < (t233.length : Int) then (if (rd t233 x22_4) = t246 then (marblerunlaw11_MatrixTimes.l2 kj55 l3 t226 t233 true (wrap64 (Int.tmod a2 5)) x21_4 (wrap64 (x22_4 + 1))) else (some false)) else (none)) else (none)) else (some false)) = some r := by rw [if_pos rfl] at H; exact H
                                  clear H
                                  have H := H1
                                  clear H1
                                  by_cases c63 : (t233.length : Int) = (t226.length : Int)
                                  · rw [if_pos c63] at H
                                    have c63b0 : ((t233.length : Int) == (t226.length : Int)) = true := beq_iff_eq.mpr c63
                                    have c63b1 : ((t233.length : Int) != (t226.length : Int)) = false := bne_eq_false_iff_eq.mpr c63
                                    have c63b2 : (t233.length == t226.length) = true := by first | simpa using c63 | (simp at c63 ⊢; omega)
                                    clear c63
                                    by_cases c64 : 0 ≤ x22_4
                                    · rw [if_pos c64] at H
                                      have c64b0 : decide (0 ≤ x22_4) = true := decide_eq_true c64
                                      clear c64
                                      by_cases c65 : x22_4 < (t233.length : Int)
                                      · rw [if_pos c65] at H
                                        have c65b0 : decide (x22_4 < (t233.length : Int)) = true := decide_eq_true c65
                                        clear c65
                                        by_cases c66 : (rd t233 x22_4) = t246
                                        · rw [if_pos c66] at H
                                          have c66b0 : ((rd t233 x22_4) == t246) = true := beq_iff_eq.mpr c66
                                          have c66b1 : ((rd t233 x22_4) != t246) = false := bne_eq_false_iff_eq.mpr c66
                                          clear c66
                                          have H' := Aside0.mk H
                                          clear H
                                          obtain ⟨Ao67, co67, eo67⟩ := Kd.R_slice HO_12.out
                                          subst eo67
                                          have p248 : 0 ≤ (x22_4 : Int) := of_decide_eq_true (by first | (with_reducible assumption) | assumption)
                                          have q248 : x22_4 < (t233.length : Int) := of_decide_eq_true (by first | (with_reducible assumption) | assumption)
                                          obtain ⟨ad248, e248, hx248_0⟩ := Kd.at_int (Kd.R_reads' HO_12.out).2.2 x22_4 p248 q248
                                          cases e248
                                          replace p248 := eq_true p248
                                          replace q248 := eq_true q248
                                          go_wp2
                                          go_roundg kj55
                                          case measure => have := HJ4.out; have := HJ17.out; have := HJ47.out; have := HK4.out; have := HJ55.out; omega
                                          case rel => exact ⟨(x21_4), (wrap64 (x22_4 + 1)), (by first | rfl | (simp; done) | (simp [*]; done)), (by first | rfl | (simp; done) | (simp [*]; done)), H', ⟨by have := HJ4.out; have := HJ17.out; have := HJ47.out; have := HK4.out; have := HJ55.out; omega⟩, ⟨by (with_reducible repeat (first | apply Kd.S_alloc | apply Kd.S_drewN | apply Kd.S_drew)); exact HO_9.out⟩, ⟨by (with_reducible repeat (first | apply Kd.R_alloc | apply Kd.R_drewN | apply Kd.R_drew)); exact HO_12.out⟩, ⟨by repeat (first | (with_reducible first | exact HB.out | apply below_alloc | apply pw_below_drewN | apply below_drew1) | exact HB.out)⟩⟩
                                        · rw [if_neg c66] at H
                                          have c66b0 : ((rd t233 x22_4) == t246) = false := beq_eq_false_iff_ne.mpr c66
                                          have c66b1 : ((rd t233 x22_4) != t246) = true := bne_iff_ne.mpr c66
                                          obtain rfl := Option.some.inj H
                                          obtain ⟨Ao68, co68, eo68⟩ := Kd.R_slice HO_12.out
                                          subst eo68
                                          have p248 : 0 ≤ (x22_4 : Int) := of_decide_eq_true (by first | (with_reducible assumption) | assumption)
                                          have q248 : x22_4 < (t233.length : Int) := of_decide_eq_true (by first | (with_reducible assumption) | assumption)
                                          obtain ⟨ad248, e248, hx248_0⟩ := Kd.at_int (Kd.R_reads' HO_12.out).2.2 x22_4 p248 q248
                                          cases e248
                                          replace p248 := eq_true p248
                                          replace q248 := eq_true q248
                                          go_wp2
                                          go_ret
                                          exact ⟨by first | rfl | (simp [errW_none, errW_some] <;> rfl) | (simp [*, errW_none, errW_some] <;> rfl), by repeat (first | (with_reducible first | exact HB.out | apply below_alloc | apply pw_below_drewN | apply below_drew1) | exact HB.out)⟩
                                      · rw [if_neg c65] at H
                                        exact absurd H (by simp)
                                    · rw [if_neg c64] at H
                                      exact absurd H (by simp)
                                  · rw [if_neg c63] at H
                                    have c63b0 : ((t233.length : Int) == (t226.length : Int)) = false := beq_eq_false_iff_ne.mpr c63
                                    have c63b1 : ((t233.length : Int) != (t226.length : Int)) = true := bne_iff_ne.mpr c63
                                    have c63b2 : (t233.length == t226.length) = false := by first | simpa using c63 | (simp at c63 ⊢; omega)
                                    obtain rfl := Option.some.inj H
                                    obtain ⟨Ao69, co69, eo69⟩ := Kd.R_slice HO_12.out
                                    subst eo69
                                    go_wp2
                                    go_ret
                                    exact ⟨by first | rfl | (simp [errW_none, errW_some] <;> rfl) | (simp [*, errW_none, errW_some] <;> rfl), by repeat (first | (with_reducible first | exact HB.out | apply below_alloc | apply pw_below_drewN | apply below_drew1) | exact HB.out)⟩
                                · replace c62 := Bool.eq_false_iff.mpr c62
                                  subst c62
                                  have H1 : (marblerunlaw11_MatrixTimes.l2 kj55 l3 t226 t233 false (wrap64 (Int.tmod a2 5)) x21_4 (wrap64 (x22_4 + 1))) = some r := by rw [if_neg (show ¬ (false = true) by decide)] at H; exact H
                                  clear H
                                  have H := H1
                                  clear H1
                                  have H' := Aside0.mk H
                                  clear H
                                  go_wp2
                                  go_roundg kj55
                                  case measure => have := HJ4.out; have := HJ17.out; have := HJ47.out; have := HK4.out; have := HJ55.out; omega
                                  case rel => exact ⟨(x21_4), (wrap64 (x22_4 + 1)), (by first | rfl | (simp; done) | (simp [*]; done)), (by first | rfl | (simp; done) | (simp [*]; done)), H', ⟨by have := HJ4.out; have := HJ17.out; have := HJ47.out; have := HK4.out; have := HJ55.out; omega⟩, ⟨by (with_reducible repeat (first | apply Kd.S_alloc | apply Kd.S_drewN | apply Kd.S_drew)); exact HO_9.out⟩, ⟨by (with_reducible repeat (first | apply Kd.R_alloc | apply Kd.R_drewN | apply Kd.R_drew)); exact HO_12.out⟩, ⟨by repeat (first | (with_reducible first | exact HB.out | apply below_alloc | apply pw_below_drewN | apply below_drew1) | exact HB.out)⟩⟩
                        · rw [if_neg c54] at H
                          exact absurd H (by simp)
                      · rw [if_neg c53] at H
                        have c53b0 : decide (x22_4 < (t226.length : Int)) = false := decide_eq_false c53
                        clear c53
                        by_cases c70 : (t234 == x21_4) = true
                        · rw [if_pos c70] at H
                          have c70b0 : (t234 == x21_4) = true := c70
                          (try (have c70b1 : decide (t234 = x21_4) = true := by simpa using c70))
                          (try (have c70b2 : (t234 == x21_4) = true := by simpa using c70))
                          clear c70
                          by_cases c71 : t234 = true
                          · subst c71
                            have H1 : (some true) = some r := by rw [if_pos rfl] at H; exact H
                            clear H
                            have H := H1
                            clear H1
                            obtain rfl := Option.some.inj H
                            go_wp2
                            go_ret
                            exact ⟨by first | rfl | (simp [errW_none, errW_some] <;> rfl) | (simp [*, errW_none, errW_some] <;> rfl), by repeat (first | (with_reducible first | exact HB.out | apply below_alloc | apply pw_below_drewN | apply below_drew1) | exact HB.out)⟩
                          · replace c71 := Bool.eq_false_iff.mpr c71
                            subst c71
                            have H1 : (some ((t233.length : Int) == 0)) = some r := by rw [if_neg (show ¬ (false = true) by decide)] at H; exact H
                            clear H
                            have H := H1
                            clear H1
                            obtain rfl := Option.some.inj H
                            obtain ⟨Ao72, co72, eo72⟩ := Kd.R_slice HO_12.out
                            subst eo72
                            go_wp2
                            go_ret
                            exact ⟨by first | rfl | (simp [errW_none, errW_some] <;> rfl) | (simp [*, errW_none, errW_some] <;> rfl), by repeat (first | (with_reducible first | exact HB.out | apply below_alloc | apply pw_below_drewN | apply below_drew1) | exact HB.out)⟩
                        · rw [if_neg c70] at H
                          have c70b0 : (t234 == x21_4) = false := by simpa using c70
                          (try (have c70b1 : decide (t234 = x21_4) = false := by simpa using c70))
                          (try (have c70b2 : (t234 == x21_4) = false := by simpa using c70))
                          (try (have c70b3 : ¬ (t234 = x21_4) := by simpa using c70))
                          clear c70
                          obtain rfl := Option.some.inj H
                          go_wp2
                          go_ret
                          exact ⟨by first | rfl | (simp [errW_none, errW_some] <;> rfl) | (simp [*, errW_none, errW_some] <;> rfl), by repeat (first | (with_reducible first | exact HB.out | apply below_alloc | apply pw_below_drewN | apply below_drew1) | exact HB.out)⟩

/-- THE ONE PURE STATEMENT of marblerunlaw11_MatrixTimes: yours. -/
def marblerunlaw11_MatrixTimes.Pure : Prop := ∀ (l0 : List Int) (a1 : Int) (a2 : Int) (l3 : List Int), l0.length ≤ maxLen → l0.length * 8 ≤ 140737488351232 → (∀ x ∈ l0, (Lit.int .i64 x).wf = true) → (Lit.int .u8 a1).wf = true → (Lit.int .u8 a2).wf = true → l3.length ≤ maxLen → l3.length * 8 ≤ 140737488351232 → (∀ x ∈ l3, (Lit.int .i64 x).wf = true) → ∃ k, marblerunlaw11_MatrixTimes.f k l0 a1 a2 l3 = some true
theorem marblerunlaw11_MatrixTimes.walk (P : marblerunlaw11_MatrixTimes.Pure) (a0 : Option Addr) (len0 cap0 : Nat) (z0 : List Int) (a1 : Int) (a2 : Int) (a3 : Option Addr) (len3 cap3 : Nat) (z3 : List Int) (w : World) (w0 : (a0 = none ∧ len0 = 0 ∧ cap0 = 0 ∧ z0 = []) ∨ ∃ x, a0 = some x ∧ len0 ≤ cap0 ∧ cap0 ≤ maxLen ∧ z0.length = cap0 ∧ (∀ i, i < z0.length → w.cell? (x.add i) = some (.int .i64 (z0.getD i 0))) ∧ ∀ n ∈ z0, (Lit.int .i64 n).wf = true) (y0 : len0 * 8 ≤ 140737488351232) (w1 : (Lit.int .u8 a1).wf = true) (w2 : (Lit.int .u8 a2).wf = true) (w3 : (a3 = none ∧ len3 = 0 ∧ cap3 = 0 ∧ z3 = []) ∨ ∃ x, a3 = some x ∧ len3 ≤ cap3 ∧ cap3 ≤ maxLen ∧ z3.length = cap3 ∧ (∀ i, i < z3.length → w.cell? (x.add i) = some (.int .i64 (z3.getD i 0))) ∧ ∀ n ∈ z3, (Lit.int .i64 n).wf = true) (y3 : len3 * 8 ≤ 140737488351232) :
    Calls Try.prog 10 #[.slice a0 len0 cap0, .int .u8 a1, .int .u8 a2, .slice a3 len3 cap3] w fun e w' => e = .returned (.bool true) ∧ Below w.heap.size w w' := by
  obtain ⟨l0, rfl, hr0, hm0, hw0, hc0⟩ := ReadsInt.ofRowC w0
  obtain ⟨l3, rfl, hr3, hm3, hw3, hc3⟩ := ReadsInt.ofRowC w3
  obtain ⟨k, h⟩ := P l0 a1 a2 l3 hm0 y0 hw0 w1 w2 hm3 y3 hw3
  refine (marblerunlaw11_MatrixTimes.calls k _ _ l0 a1 a2 _ _ l3 true w (Kd.C_of_reads (d := (0 : Int)) (h1 := fun _ => rfl) hr0) hc0 (Kd.C_of_reads (d := (0 : Int)) (h1 := fun _ => rfl) hr3) hc3 h).mono ?_
  rintro e w' ⟨rfl, hd⟩
  exact ⟨rfl, hd⟩

end Go.Proofs.Ytigpmhicdmjbeaa.PMatrixTimes
