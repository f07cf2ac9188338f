/- What the functions that this law reaches answer, in whatever memory, and the row of the law; no condition. Written by a program of this session (mk.sh). -/
import Derived.Test.YtifbflpaednfnaaPBasisRawx0
namespace Go.Proofs.Ytifbflpaednfnaa.PBasisRaw
open Go.RowKit Go.Proofs.YtifbflpaednfnaaW.PrintWords Go.Proofs.YtifbflpaednfnaaW.PrintLast Go.Proofs.YtifbflpaednfnaaW.PrintMore
attribute [local go_sem] max2_int min2_int max_two min_two max_three min_three max_four min_four   -- for this text's walks alone
set_option linter.unusedVariables false
set_option linter.unusedSimpArgs false

/-! ### slices_Clone_int_int: function 25 -/
def slices_Clone_int_int.f (l0 : List Int) : Option (List Int) := if l0.length < 17592186044416 then some l0 else none
theorem slices_Clone_int_int.calls (A0 : Option Addr) (c0 : Nat) (l0 : List Int) (r : List Int) (w : World) (hr0 : Kd.C (Kd.int .i64) w A0 l0.length l0) (hc0 : l0.length ≤ c0) (h : slices_Clone_int_int.f l0 = some r) :
 Calls Try.prog 25 #[.slice A0 l0.length c0] w fun e w' => ∃ v0_ : Value, e = .returned v0_ ∧ Kd.R (Kd.int .i64) 3 w' w.heap.size (fun _ => True) v0_ r ∧ Below w.heap.size w w' := by
 have HL : Aside0 (l0.length < 17592186044416) := by
  unfold slices_Clone_int_int.f at h
  split at h
  ·exact ⟨by assumption⟩
  ·simp at h
 have hr : l0 = r := by
  unfold slices_Clone_int_int.f at h
  split at h
  ·exact Option.some.inj h
  ·simp at h
 subst hr; clear h; have HR0 := Aside0.mk hr0; clear hr0; cases A0 with
 | none =>
  have hl : l0 = [] := by
   rcases l0 with _ | ⟨x, t⟩
   ·rfl
   ·obtain ⟨ad, h, _⟩ := HR0.out.2.2 (by simp); simp at h
  subst hl; have hEq : ∀ W, Sem.run Try.prog (binOp .eql 37 (.slice none 0 c0) (.slice none 0 0)) W = .ok (.bool true) W := fun _ => rfl
  go_enter Try.func25, Try.ntmps25; go_wp2; go_ret; exact ⟨_, rfl, Kd.R_nil _ _ _ _ _, Below.refl _ _⟩
 | some ad =>
  obtain ⟨y9, hy9⟩ : ∃ y_ : List Int, y_ = ([] ++ l0) := ⟨_, rfl⟩; have Ny9 := Aside0.mk hy9; clear hy9; have hEq : ∀ W, Sem.run Try.prog (binOp .eql 37 (.slice (some ad) l0.length c0) (.slice none 0 0)) W = .ok (.bool false) W := fun _ => rfl
  go_enter Try.func25, Try.ntmps25; go_wp2_with (first | ((with_reducible refine gate_dst (N := 5) rfl ?_); refine Kd.R_lit (Kd.int .i64) _ 3 ?hg (N := 5) ?hd (xs := ([] : List Int)) (inner := []) (ok := fun _ => True) (okp := fun _ => True) ?hr ?hp (fun _ hk => hk) trivial (Below.refl _ _) (Nat.le_refl _) (by simp) ?_; (case hd => rfl); (case hg => rfl); (case hr => first | (go_simp; done) | (go_simp; rfl)); (case hp => exact Reps.none _ _); intro v1 w1 ho1 hb1 hg_ hnew_; clear hg_ hnew_; have HO1 := Aside0.mk (Kd.R_lower ho1 (Nat.le_refl _)); have HB := Aside0.mk hb1; clear ho1 hb1) | ((with_reducible refine gate_builtin (b := .append) (xs := #[.tmp 5, .tmp 6]) rfl ?_); at_builtin; refine Kd.R_append_rows (Kd.int .i64) (w0 := w) w.heap.size rfl (.tmp 5) (.tmp 6) 37 3 (.int .i64 0) 8 rfl Try.underlying37 info3 rfl (by decide) (by omega) v1 [] l0 _ _ _ (fun _ => True) (fun _ => False) rfl rfl ?aO ?aR (fun _ _ h => h) (fun _ h => h.elim) ?aF ?aB ?aS ?aL ?_; (case aR => exact Kd.C_below HR0.out HB.out); (case aB => exact HB.out); (case aF => exact (fun _ _ => trivial)); (case aO => exact HO1.out); (case aS => exact HB.out.size); (case aL => have := HL.out; simp; omega); intro v2 w2 ho2 hb2 hg2 hat2; rw [← Ny9.out] at ho2; have HO2 := Aside0.mk ho2; have HB2 := Aside0.mk hb2; clear ho2 hb2 hg2 hat2)); go_ret; exact ⟨_, rfl, by have h := HO2.out; rw [Ny9.out, List.nil_append] at h; exact h, HB2.out⟩

/-! ### basis_width: function 26 -/
def basis_width.f (l0 : List (List Int)) : Option (Int) := if (l0.length : Int) = 0 then (some 0) else (if 0 < (l0.length : Int) then (some ((rd_L1 l0 0).length : Int)) else (none))
set_option maxHeartbeats 8000000 in
set_option maxRecDepth 100000 in
theorem basis_width.calls (A0 : Option Addr) (c0 : Nat) (l0 : List (List Int)) (r : Int) (w : World) (hr0 : Kd.C (Kd.slice 3 (Kd.int .i64)) w A0 l0.length l0) (hc0 : l0.length ≤ c0) (h : basis_width.f l0 = some r) :
 Calls Try.prog 26 #[.slice A0 l0.length c0] w fun e w' => e = .returned (.int .i64 r) ∧ Drawn0 w w' := by
 have HR0 := Aside0.mk hr0; have HC0 := Aside0.mk hc0; clear hr0 hc0; have H : (if (l0.length : Int) = 0 then (some 0) else (if 0 < (l0.length : Int) then (some ((rd_L1 l0 0).length : Int)) else (none))) = some r := h; clear h
 by_cases c2 : (l0.length : Int) = 0
 ·rw [if_pos c2] at H; have c2b0 : ((l0.length : Int) == 0) = true := beq_iff_eq.mpr c2; have c2b1 : ((l0.length : Int) != 0) = false := bne_eq_false_iff_eq.mpr c2; clear c2; obtain rfl := Option.some.inj H; go_enter Try.func26, Try.ntmps26; go_wp2; go_ret; exact ⟨by first | rfl | (simp; done) | (simp [*]; done), by repeat (first | exact Drawn0.refl _ | apply Drawn0.step)⟩
 rw [if_neg c2] at H; have c2b0 : ((l0.length : Int) == 0) = false := beq_eq_false_iff_ne.mpr c2; have c2b1 : ((l0.length : Int) != 0) = true := bne_iff_ne.mpr c2; have c2b2 : ¬ (l0 = []) := fun h_ => c2 (by rw [h_]; rfl)
 by_cases c3 : 0 < (l0.length : Int)
 case neg => rw [if_neg c3] at H; exact absurd H (by simp)
 rw [if_pos c3] at H; have c3b0 : decide (0 < (l0.length : Int)) = true := decide_eq_true c3; have c3b1 : decide (0 < l0.length) = true := decide_eq_true (by omega); clear c3; obtain rfl := Option.some.inj H; have p101 : 0 ≤ (0 : Int) := (by omega); have q101 : 0 < (l0.length : Int) := oa; obtain ⟨ad101, A101_0, c101_0, e101, hx101_0, hl101_0, hi101_0⟩ := at_L1 HR0.out 0 p101 q101; cases e101; have qi101 : (0 < l0.length) = True := eq_true (by omega); (try rw [show ((0 : Int)).toNat = 0 from rfl] at hx101_0); (try rw [Addr.add_zero'] at hx101_0); have HR101_0 := Aside0.mk hi101_0; have HC101_0 := Aside0.mk hl101_0; clear hi101_0 hl101_0; replace p101 := eq_true p101; replace q101 := eq_true q101; go_enter Try.func26, Try.ntmps26; go_wp2; go_ret; exact ⟨by first | rfl | (simp; done) | (simp [*]; done), by repeat (first | exact Drawn0.refl _ | apply Drawn0.step)⟩

/-! ### whole_size: function 43 -/
def whole_size.f (a0 : Int) : Option (Int) := if a0 < 0 then (some (IntKind.u64.wrap (-(IntKind.u64.wrap (a0))))) else (some (IntKind.u64.wrap (a0)))
set_option maxHeartbeats 8000000 in
set_option maxRecDepth 100000 in
theorem whole_size.calls (a0 : Int) (r : Int) (w : World) (h : whole_size.f a0 = some r) :
 Calls Try.prog 43 #[.int .i64 a0] w fun e w' => e = .returned (.int .u64 r) ∧ Drawn0 w w' := by
 have H : (if a0 < 0 then (some (IntKind.u64.wrap (-(IntKind.u64.wrap (a0))))) else (some (IntKind.u64.wrap (a0)))) = some r := h; clear h
 by_cases c2 : a0 < 0
 ·rw [if_pos c2] at H; have c2b0 : decide (a0 < 0) = true := decide_eq_true c2; clear c2; obtain rfl := Option.some.inj H; go_enter Try.func43, Try.ntmps43; go_wp2; go_ret; exact ⟨by first | rfl | (simp; done) | (simp [*]; done), by repeat (first | exact Drawn0.refl _ | apply Drawn0.step)⟩
 rw [if_neg c2] at H; have c2b0 : decide (a0 < 0) = false := decide_eq_false c2; clear c2; obtain rfl := Option.some.inj H; go_enter Try.func43, Try.ntmps43; go_wp2; go_ret; exact ⟨by first | rfl | (simp; done) | (simp [*]; done), by repeat (first | exact Drawn0.refl _ | apply Drawn0.step)⟩

/-! ### whole_Gcd: function 38 -/
def whole_Gcd.l0 : Nat → Int → Int → Option (Int)
 | 0, _, _ => none
 | k + 1, x5, x6 => if x6 > 0 then (if x6 = 0 then (none) else (whole_Gcd.l0 k x6 (Int.tmod x5 x6))) else (some (wrap64 (x5)))
def whole_Gcd.f (k : Nat) (a0 : Int) (a1 : Int) : Option (Int) := (whole_size.f a0).bind fun t102 => ((whole_size.f a1).bind fun t103 => (whole_Gcd.l0 k t102 t103))
theorem whole_Gcd.mono_l : ∀ k, (∀ y0 y1, LeO (whole_Gcd.l0 k y0 y1) (whole_Gcd.l0 (k + 1) y0 y1))
 | 0 => fun _ _ r h => by simp [whole_Gcd.l0] at h
 | k + 1 => by
  have ih0 := whole_Gcd.mono_l k
  ·intro y0 y1
   unfold whole_Gcd.l0
   repeat' first
   | (with_reducible exact ih0 _ _)
   | (with_reducible exact LeO.refl _)
   | (with_reducible exact LeO.none _)
   | (with_reducible refine LeO.ite ?_ ?_)
   | (with_reducible refine LeO.bind ?_ (fun _ => ?_))
   | exact ih0 _ _
   | exact LeO.none _
   | refine LeO.ite ?_ ?_
   | refine LeO.bind ?_ (fun _ => ?_)
theorem whole_Gcd.mono : ∀ a0 a1 k, LeO (whole_Gcd.f k a0 a1) (whole_Gcd.f (k + 1) a0 a1) := by
 intro a0 a1 k
 have ih0 := whole_Gcd.mono_l k
 unfold whole_Gcd.f
 repeat' first
  | (with_reducible exact ih0 _ _)
  | (with_reducible exact LeO.refl _)
  | (with_reducible exact LeO.none _)
  | (with_reducible refine LeO.ite ?_ ?_)
  | (with_reducible refine LeO.bind ?_ (fun _ => ?_))
  | exact ih0 _ _
  | exact LeO.none _
  | refine LeO.ite ?_ ?_
  | refine LeO.bind ?_ (fun _ => ?_)
set_option maxHeartbeats 8000000 in
set_option maxRecDepth 100000 in
theorem whole_Gcd.calls (k : Nat) (a0 : Int) (a1 : Int) (r : Int) (w : World) (h : whole_Gcd.f k a0 a1 = some r) :
 Calls Try.prog 38 #[.int .i64 a0, .int .i64 a1] w fun e w' => e = .returned (.int .i64 r) ∧ Drawn0 w w' := by
 have H : ((whole_size.f a0).bind fun t102 => ((whole_size.f a1).bind fun t103 => (whole_Gcd.l0 k t102 t103))) = some r := h; clear h; replace H := Option.bind_eq_some_iff.mp H; obtain ⟨t102, A30, H⟩ := H; replace H : ((whole_size.f a1).bind fun t103 => (whole_Gcd.l0 k t102 t103)) = some r := H; have A3 := Aside0.mk A30; clear A30; replace H := Option.bind_eq_some_iff.mp H; obtain ⟨t103, A40, H⟩ := H; replace H : (whole_Gcd.l0 k t102 t103) = some r := H; have A4 := Aside0.mk A40; clear A40; have H' := Aside0.mk H; clear H; go_enter Try.func38, Try.ntmps38
 iterate 3 ((try go_quiet (first | (go_at_call 43; (with_reducible refine (whole_size.calls a0 t102 _ A3.out).mono ?_); rintro e w' ⟨rfl, ⟨nd, rfl⟩⟩; (try first | exact ⟨rfl, _, World.drewN_drewN _ _ _⟩ | exact ⟨rfl, _, Eq.trans (World.drewN_drewN _ _ _) (congrArg (World.drewN _) (Nat.add_assoc _ _ _))⟩)) | (go_at_call 43; (with_reducible refine (whole_size.calls a1 t103 _ A4.out).mono ?_); rintro e w' ⟨rfl, ⟨nd, rfl⟩⟩; (try first | exact ⟨rfl, _, World.drewN_drewN _ _ _⟩ | exact ⟨rfl, _, Eq.trans (World.drewN_drewN _ _ _) (congrArg (World.drewN _) (Nat.add_assoc _ _ _))⟩)))); go_wp2_with (first | (go_at_call 43; (with_reducible refine (whole_size.calls a0 t102 _ A3.out).mono ?_); rintro e w' ⟨rfl, ⟨nd, rfl⟩⟩; (try first | exact ⟨rfl, _, World.drewN_drewN _ _ _⟩ | exact ⟨rfl, _, Eq.trans (World.drewN_drewN _ _ _) (congrArg (World.drewN _) (Nat.add_assoc _ _ _))⟩)) | (go_at_call 43; (with_reducible refine (whole_size.calls a1 t103 _ A4.out).mono ?_); rintro e w' ⟨rfl, ⟨nd, rfl⟩⟩; (try first | exact ⟨rfl, _, World.drewN_drewN _ _ _⟩ | exact ⟨rfl, _, Eq.trans (World.drewN_drewN _ _ _) (congrArg (World.drewN _) (Nat.add_assoc _ _ _))⟩))))
 go_loopg [5, 6] k (fun kq v5 v6 w' => ∃ (x5_1 : Int) (x6_1 : Int), v5 = .int .u64 x5_1 ∧ v6 = .int .u64 x6_1 ∧ Aside0 (whole_Gcd.l0 kq x5_1 x6_1 = some r) ∧ Aside0 (kq ≤ k) ∧ Drawn0 w w')
 case atStart => exact ⟨(t102), (t103), (by first | rfl | (simp; done) | (simp [*]; done)), (by first | rfl | (simp; done) | (simp [*]; done)), H', ⟨Nat.le_refl _⟩, by repeat (first | exact Drawn0.refl _ | apply Drawn0.step)⟩
 clear H'; (try clear p2); (try clear c3); obtain ⟨x5_1, x6_1, rfl, rfl, HA, HK1, ⟨m1, rfl⟩⟩ := hrel; cases gk with
 | zero => exact absurd HA.out (by simp [whole_Gcd.l0])
 | succ k1 =>
  have H := HA.out; clear HA; simp only [whole_Gcd.l0] at H
  by_cases c5 : x6_1 > 0
  ·rw [if_pos c5] at H; have c5b0 : decide (0 < x6_1) = true := decide_eq_true c5; clear c5
   by_cases c6 : x6_1 = 0
   case pos => rw [if_pos c6] at H; exact absurd H (by simp)
   rw [if_neg c6] at H; have c6b0 : (x6_1 == 0) = false := beq_eq_false_iff_ne.mpr c6; have c6b1 : (x6_1 != 0) = true := bne_iff_ne.mpr c6; have H' := Aside0.mk H; clear H; go_wp2
   repeat (go_quiet (fail); try go_wp2)
   go_roundg k1
   case measure => have := HK1.out; omega
   case rel => exact ⟨(x6_1), (Int.tmod x5_1 x6_1), (by first | rfl | (simp; done) | (simp [*]; done)), (by first | rfl | (simp; done) | (simp [*]; done)), H', ⟨by have := HK1.out; omega⟩, by repeat (first | exact Drawn0.refl _ | apply Drawn0.step)⟩
  rw [if_neg c5] at H; have c5b0 : decide (0 < x6_1) = false := decide_eq_false c5; clear c5; obtain rfl := Option.some.inj H; go_wp2
  repeat (go_quiet (fail); try go_wp2)
  go_ret; exact ⟨by first | rfl | (simp; done) | (simp [*]; done), by repeat (first | exact Drawn0.refl _ | apply Drawn0.step)⟩

/-! ### basis_abs: function 39 -/
def basis_abs.f (a0 : Int) : Option (Int) := some (mx a0 (wrap64 (-a0)))
set_option maxHeartbeats 8000000 in
set_option maxRecDepth 100000 in
theorem basis_abs.calls (a0 : Int) (r : Int) (w : World) (h : basis_abs.f a0 = some r) :
 Calls Try.prog 39 #[.int .i64 a0] w fun e w' => e = .returned (.int .i64 r) ∧ Below w.heap.size w w' := by
 have HB := Aside0.mk (Below.refl w.heap.size w); have H : (some (mx a0 (wrap64 (-a0)))) = some r := h; clear h; obtain ⟨ji2, hji2⟩ : ∃ j_ : Int, (mx a0 (wrap64 (-a0))) = j_ := ⟨_, rfl⟩; replace H : (some ji2) = some r := by first | (rw [hji2] at H; exact H) | (simp only [hji2] at H ⊢; exact H)
 have hji2_ : (if a0 < (wrap64 (-a0)) then (wrap64 (-a0)) else a0) = ji2 := hji2; obtain rfl := Option.some.inj H; go_enter Try.func39, Try.ntmps39; go_wp2; go_ret; exact ⟨by first | rfl | (simp [errW_none, errW_some] <;> rfl) | (simp only [← hji2]; first | rfl | (simp [errW_none, errW_some] <;> rfl)) | (simp [*, errW_none, errW_some] <;> rfl), hbq HB.out⟩

/-! ### bits_Mul64: function 47 -/
def bits_Mul64.f (a0 : Int) (a1 : Int) : Option (Int × Int) := some (IntKind.u64.wrap ((IntKind.u64.wrap ((IntKind.u64.wrap ((a0 / 4294967296) * (a1 / 4294967296))) + ((IntKind.u64.wrap ((IntKind.u64.wrap ((a0 / 4294967296) * (Go.bits .and .u64 a1 4294967295))) + ((IntKind.u64.wrap ((Go.bits .and .u64 a0 4294967295) * (Go.bits .and .u64 a1 4294967295))) / 4294967296))) / 4294967296))) + ((IntKind.u64.wrap ((Go.bits .and .u64 (IntKind.u64.wrap ((IntKind.u64.wrap ((a0 / 4294967296) * (Go.bits .and .u64 a1 4294967295))) + ((IntKind.u64.wrap ((Go.bits .and .u64 a0 4294967295) * (Go.bits .and .u64 a1 4294967295))) / 4294967296))) 4294967295) + (IntKind.u64.wrap ((Go.bits .and .u64 a0 4294967295) * (a1 / 4294967296))))) / 4294967296)), IntKind.u64.wrap (a0 * a1))
set_option maxHeartbeats 8000000 in
set_option maxRecDepth 100000 in
theorem bits_Mul64.calls (a0 : Int) (a1 : Int) (r1 : Int) (r2 : Int) (w : World) (h : bits_Mul64.f a0 a1 = some (r1, r2)) :
 Calls Try.prog 47 #[.int .u64 a0, .int .u64 a1] w fun e w' => e = .returned (.tuple #[.int .u64 r1, .int .u64 r2]) ∧ Drawn0 w w' := by
 have H : (some (IntKind.u64.wrap ((IntKind.u64.wrap ((IntKind.u64.wrap ((a0 / 4294967296) * (a1 / 4294967296))) + ((IntKind.u64.wrap ((IntKind.u64.wrap ((a0 / 4294967296) * (Go.bits .and .u64 a1 4294967295))) + ((IntKind.u64.wrap ((Go.bits .and .u64 a0 4294967295) * (Go.bits .and .u64 a1 4294967295))) / 4294967296))) / 4294967296))) + ((IntKind.u64.wrap ((Go.bits .and .u64 (IntKind.u64.wrap ((IntKind.u64.wrap ((a0 / 4294967296) * (Go.bits .and .u64 a1 4294967295))) + ((IntKind.u64.wrap ((Go.bits .and .u64 a0 4294967295) * (Go.bits .and .u64 a1 4294967295))) / 4294967296))) 4294967295) + (IntKind.u64.wrap ((Go.bits .and .u64 a0 4294967295) * (a1 / 4294967296))))) / 4294967296)), IntKind.u64.wrap (a0 * a1))) = some (r1, r2) := h; clear h; simp only [Option.some.injEq, Prod.mk.injEq] at H; obtain ⟨rfl, rfl⟩ := H; go_enter Try.func47, Try.ntmps47; go_wp2; go_ret2; exact ⟨by first | rfl | (simp; done) | (simp [*]; done), by repeat (first | exact Drawn0.refl _ | apply Drawn0.step)⟩

/-! ### whole_Mul: function 45 -/
mutual
def whole_Mul.j0 : Nat → Int → Int → Bool → Option (Int × Bool)
 | 0, _, _, _ => none
 | k + 1, x6, x7, x8 => if x6 > 0 then (whole_Mul.j1 k x7 x8 true) else (if x7 > 9223372036854775808 then (whole_Mul.j1 k x7 x8 true) else (if x7 = 9223372036854775808 then (whole_Mul.j1 k x7 x8 (!x8)) else (whole_Mul.j1 k x7 x8 false)))
def whole_Mul.j1 : Nat → Int → Bool → Bool → Option (Int × Bool)
 | 0, _, _, _ => none
 | k + 1, x7, x8, x30 => if x30 = true then (some (0, false)) else (if x8 = true then (some (wrap64 (IntKind.u64.wrap (-x7)), true)) else (some (wrap64 (x7), true)))
end
def whole_Mul.f (k : Nat) (a0 : Int) (a1 : Int) : Option (Int × Bool) := (whole_size.f a0).bind fun t104 => ((whole_size.f a1).bind fun t105 => ((bits_Mul64.f t104 t105).bind fun bt106 => (if ((decide (a0 < 0)) != (decide (a1 < 0))) = true then (if a0 = 0 then (whole_Mul.j0 k bt106.1 bt106.2 false) else (whole_Mul.j0 k bt106.1 bt106.2 (a1 != 0))) else (whole_Mul.j0 k bt106.1 bt106.2 false))))
theorem whole_Mul.mono_l : ∀ k, (∀ y0 y1 y2, LeO (whole_Mul.j0 k y0 y1 y2) (whole_Mul.j0 (k + 1) y0 y1 y2)) ∧ (∀ y0 y1 y2, LeO (whole_Mul.j1 k y0 y1 y2) (whole_Mul.j1 (k + 1) y0 y1 y2))
 | 0 => ⟨fun _ _ _ r h => by simp [whole_Mul.j0] at h, fun _ _ _ r h => by simp [whole_Mul.j1] at h⟩
 | k + 1 => by
  obtain ⟨ih0, ih1⟩ := whole_Mul.mono_l k
  refine ⟨?_, ?_⟩
  all_goals
   intros
   first
   | unfold whole_Mul.j0
   | unfold whole_Mul.j1
   repeat' first
   | (with_reducible exact ih0 _ _ _)
   | (with_reducible exact ih1 _ _ _)
   | (with_reducible exact LeO.refl _)
   | (with_reducible exact LeO.none _)
   | (with_reducible refine LeO.ite ?_ ?_)
   | (with_reducible refine LeO.bind ?_ (fun _ => ?_))
   | exact ih0 _ _ _
   | exact ih1 _ _ _
   | exact LeO.none _
   | refine LeO.ite ?_ ?_
   | refine LeO.bind ?_ (fun _ => ?_)
theorem whole_Mul.mono : ∀ a0 a1 k, LeO (whole_Mul.f k a0 a1) (whole_Mul.f (k + 1) a0 a1) := by
 intro a0 a1 k
 obtain ⟨ih0, ih1⟩ := whole_Mul.mono_l k
 unfold whole_Mul.f
 repeat' first
  | (with_reducible exact ih0 _ _ _)
  | (with_reducible exact ih1 _ _ _)
  | (with_reducible exact LeO.refl _)
  | (with_reducible exact LeO.none _)
  | (with_reducible refine LeO.ite ?_ ?_)
  | (with_reducible refine LeO.bind ?_ (fun _ => ?_))
  | exact ih0 _ _ _
  | exact ih1 _ _ _
  | exact LeO.none _
  | refine LeO.ite ?_ ?_
  | refine LeO.bind ?_ (fun _ => ?_)
set_option maxHeartbeats 8000000 in
set_option maxRecDepth 100000 in
theorem whole_Mul.calls (k : Nat) (a0 : Int) (a1 : Int) (r1 : Int) (r2 : Bool) (w : World) (h : whole_Mul.f k a0 a1 = some (r1, r2)) :
 Calls Try.prog 45 #[.int .i64 a0, .int .i64 a1] w fun e w' => e = .returned (.tuple #[.int .i64 r1, .bool r2]) ∧ Drawn0 w w' := by
 have H : ((whole_size.f a0).bind fun t104 => ((whole_size.f a1).bind fun t105 => ((bits_Mul64.f t104 t105).bind fun bt106 => (if ((decide (a0 < 0)) != (decide (a1 < 0))) = true then (if a0 = 0 then (whole_Mul.j0 k bt106.1 bt106.2 false) else (whole_Mul.j0 k bt106.1 bt106.2 (a1 != 0))) else (whole_Mul.j0 k bt106.1 bt106.2 false))))) = some (r1, r2) := h; clear h; replace H := Option.bind_eq_some_iff.mp H; obtain ⟨t104, A30, H⟩ := H; replace H : ((whole_size.f a1).bind fun t105 => ((bits_Mul64.f t104 t105).bind fun bt106 => (if ((decide (a0 < 0)) != (decide (a1 < 0))) = true then (if a0 = 0 then (whole_Mul.j0 k bt106.1 bt106.2 false) else (whole_Mul.j0 k bt106.1 bt106.2 (a1 != 0))) else (whole_Mul.j0 k bt106.1 bt106.2 false)))) = some (r1, r2) := H; have A3 := Aside0.mk A30; clear A30; replace H := Option.bind_eq_some_iff.mp H; obtain ⟨t105, A40, H⟩ := H; replace H : ((bits_Mul64.f t104 t105).bind fun bt106 => (if ((decide (a0 < 0)) != (decide (a1 < 0))) = true then (if a0 = 0 then (whole_Mul.j0 k bt106.1 bt106.2 false) else (whole_Mul.j0 k bt106.1 bt106.2 (a1 != 0))) else (whole_Mul.j0 k bt106.1 bt106.2 false))) = some (r1, r2) := H; have A4 := Aside0.mk A40; clear A40; replace H := Option.bind_eq_some_iff.mp H; obtain ⟨⟨t106, t107⟩, A50, H⟩ := H; replace H : (if ((decide (a0 < 0)) != (decide (a1 < 0))) = true then (if a0 = 0 then (whole_Mul.j0 k t106 t107 false) else (whole_Mul.j0 k t106 t107 (a1 != 0))) else (whole_Mul.j0 k t106 t107 false)) = some (r1, r2) := H; have A5 := Aside0.mk A50; clear A50; have HC6 := Aside0.mk H; clear H; go_enter Try.func45, Try.ntmps45; go_upto_region 2 with (first | ((with_reducible refine gate_callee (f := 43) rfl ?_); refine goesL_ (some 11) rfl rfl Try.func43 (by kernel_rfl) rfl #[.int .i64 a0] rfl (by (try simp only [List.map_toArray, List.map_cons, List.map_nil]); first | done | rfl | (simp only [List.length_drop, List.length_take]; rfl)) ?_; (with_reducible refine (whole_size.calls a0 t104 _ A3.out).mono ?_); rintro e w' ⟨rfl, ⟨nd, rfl⟩⟩; refine ⟨_, rfl, ?_⟩) | ((with_reducible refine gate_callee (f := 43) rfl ?_); refine goesL_ (some 13) rfl rfl Try.func43 (by kernel_rfl) rfl #[.int .i64 a1] rfl (by (try simp only [List.map_toArray, List.map_cons, List.map_nil]); first | done | rfl | (simp only [List.length_drop, List.length_take]; rfl)) ?_; (with_reducible refine (whole_size.calls a1 t105 _ A4.out).mono ?_); rintro e w' ⟨rfl, ⟨nd, rfl⟩⟩; refine ⟨_, rfl, ?_⟩) | ((with_reducible refine gate_callee (f := 47) rfl ?_); refine goesL_ (some 14) rfl rfl Try.func47 (by kernel_rfl) rfl #[.int .u64 t104, .int .u64 t105] rfl (by (try simp only [List.map_toArray, List.map_cons, List.map_nil]); first | done | rfl | (simp only [List.length_drop, List.length_take]; rfl)) ?_; (with_reducible refine (bits_Mul64.calls t104 t105 t106 t107 _ A5.out).mono ?_); rintro e w' ⟨rfl, ⟨nd, rfl⟩⟩; refine ⟨_, rfl, ?_⟩)); (try simp only [Act.put, List.setIfInBounds_toArray, List.set_cons_zero, List.set_cons_succ]); go_cut [8] (fun v8 wc => ∃ (kq : Nat) (x8_5 : Bool), v8 = .bool x8_5 ∧ Aside0 (whole_Mul.j0 kq t106 t107 x8_5 = some (r1, r2)) ∧ Aside0 (kq ≤ k) ∧ Drawn0 w wc)
 case first =>
  have H := HC6.out; clear HC6
  by_cases c7 : ((decide (a0 < 0)) != (decide (a1 < 0))) = true
  ·rw [if_pos c7] at H; have c7b0 : ((decide (a0 < 0)) != (decide (a1 < 0))) = true := c7; (try (have c7b1 : decide ((decide (a0 < 0)) = (decide (a1 < 0))) = false := by simpa using c7)); (try (have c7b2 : ((decide (a0 < 0)) == (decide (a1 < 0))) = false := by simpa using c7)); (try (have c7b3 : ¬ ((decide (a0 < 0)) = (decide (a1 < 0))) := by simpa using c7)); clear c7; (first | rw [c7b0] | (simp only [i64_w, i32_w]; rw [c7b0]) | skip)
   by_cases c8 : a0 = 0
   ·rw [if_pos c8] at H; have c8b0 : (a0 == 0) = true := beq_iff_eq.mpr c8; have c8b1 : (a0 != 0) = false := bne_eq_false_iff_eq.mpr c8; clear c8; have H' := Aside0.mk H; clear H; go_wp2; go_meet
    case rel => exact ⟨_, (false), (by first | rfl | (simp; done) | (simp [*]; done)), H', ⟨by first | omega | exact Nat.le_refl _⟩, by repeat (first | exact Drawn0.refl _ | apply Drawn0.step)⟩
   rw [if_neg c8] at H; have c8b0 : (a0 == 0) = false := beq_eq_false_iff_ne.mpr c8; have c8b1 : (a0 != 0) = true := bne_iff_ne.mpr c8; have H' := Aside0.mk H; clear H; go_wp2; go_meet
   case rel => exact ⟨_, ((a1 != 0)), (by first | rfl | (simp; done) | (simp [*]; done)), H', ⟨by first | omega | exact Nat.le_refl _⟩, by repeat (first | exact Drawn0.refl _ | apply Drawn0.step)⟩
  rw [if_neg c7] at H; have c7b0 : ((decide (a0 < 0)) != (decide (a1 < 0))) = false := by simpa using c7
  (try (have c7b1 : decide ((decide (a0 < 0)) = (decide (a1 < 0))) = true := by simpa using c7)); (try (have c7b2 : ((decide (a0 < 0)) == (decide (a1 < 0))) = true := by simpa using c7)); clear c7; (first | rw [c7b0] | (simp only [i64_w, i32_w]; rw [c7b0]) | skip); have H' := Aside0.mk H; clear H; go_wp2; go_meet
  case rel => exact ⟨_, (false), (by first | rfl | (simp; done) | (simp [*]; done)), H', ⟨by first | omega | exact Nat.le_refl _⟩, by repeat (first | exact Drawn0.refl _ | apply Drawn0.step)⟩
 clear HC6; (try clear p2); (try clear c4); (try clear c7); (try clear c7b0); (try clear c7b1); (try clear c7b2); (try clear c8); (try clear c8b0); (try clear c8b1); obtain ⟨kq, x8_5, rfl, HA, HJ5, ⟨mc5, rfl⟩⟩ := hcut; cases kq with
 | zero => exact absurd HA.out (by simp [whole_Mul.j0])
 | succ kj5 =>
  have H := HA.out; clear HA; simp only [whole_Mul.j0] at H; have HC9 := Aside0.mk H; clear H; go_upto_region 3 with (fail); go_cut [30] (fun v30 wc => ∃ (kq : Nat) (x30_8 : Bool), v30 = .bool x30_8 ∧ Aside0 (whole_Mul.j1 kq t107 x8_5 x30_8 = some (r1, r2)) ∧ Aside0 (kq ≤ kj5) ∧ Drawn0 w wc)
  case first =>
   have H := HC9.out; clear HC9
   by_cases c10 : t106 > 0
   ·rw [if_pos c10] at H; have c10b0 : decide (0 < t106) = true := decide_eq_true c10; clear c10; (first | rw [c10b0] | (simp only [i64_w, i32_w]; rw [c10b0]) | skip); have H' := Aside0.mk H; clear H; go_wp2; go_meet
    case rel => exact ⟨_, (true), (by first | rfl | (simp; done) | (simp [*]; done)), H', ⟨by have := HJ5.out; first | omega | exact Nat.le_refl _⟩, by repeat (first | exact Drawn0.refl _ | apply Drawn0.step)⟩
   rw [if_neg c10] at H; have c10b0 : decide (0 < t106) = false := decide_eq_false c10; clear c10; (first | rw [c10b0] | (simp only [i64_w, i32_w]; rw [c10b0]) | skip)
   by_cases c11 : t107 > 9223372036854775808
   ·rw [if_pos c11] at H; have c11b0 : decide (9223372036854775808 < t107) = true := decide_eq_true c11; clear c11; have H' := Aside0.mk H; clear H; go_wp2; go_meet
    case rel => exact ⟨_, (true), (by first | rfl | (simp; done) | (simp [*]; done)), H', ⟨by have := HJ5.out; first | omega | exact Nat.le_refl _⟩, by repeat (first | exact Drawn0.refl _ | apply Drawn0.step)⟩
   rw [if_neg c11] at H; have c11b0 : decide (9223372036854775808 < t107) = false := decide_eq_false c11; clear c11
   by_cases c12 : t107 = 9223372036854775808
   ·rw [if_pos c12] at H; have c12b0 : (t107 == 9223372036854775808) = true := beq_iff_eq.mpr c12; have c12b1 : (t107 != 9223372036854775808) = false := bne_eq_false_iff_eq.mpr c12; clear c12; have H' := Aside0.mk H; clear H; go_wp2; go_meet
    case rel => exact ⟨_, (!x8_5), (by first | rfl | (simp; done) | (simp [*]; done)), H', ⟨by have := HJ5.out; first | omega | exact Nat.le_refl _⟩, by repeat (first | exact Drawn0.refl _ | apply Drawn0.step)⟩
   rw [if_neg c12] at H; have c12b0 : (t107 == 9223372036854775808) = false := beq_eq_false_iff_ne.mpr c12; have c12b1 : (t107 != 9223372036854775808) = true := bne_iff_ne.mpr c12; have H' := Aside0.mk H; clear H; go_wp2; go_meet
   case rel => exact ⟨_, (false), (by first | rfl | (simp; done) | (simp [*]; done)), H', ⟨by have := HJ5.out; first | omega | exact Nat.le_refl _⟩, by repeat (first | exact Drawn0.refl _ | apply Drawn0.step)⟩
  clear HC9; (try clear c1); (try clear p2); (try clear c4); (try clear c5); (try clear c7); (try clear c7b0); (try clear c7b1); (try clear c7b2); (try clear c8); (try clear c8b0); (try clear c8b1); (try clear c10); (try clear c10b0); (try clear c11); (try clear c11b0); (try clear c12); (try clear c12b0); (try clear c12b1); (try clear p2); obtain ⟨kq, x30_8, rfl, HA, HJ8, ⟨mc8, rfl⟩⟩ := hcut; cases kq with
  | zero => exact absurd HA.out (by simp [whole_Mul.j1])
  | succ kj8 =>
   have H := HA.out; clear HA; simp only [whole_Mul.j1] at H
   by_cases c13 : x30_8 = true
   ·subst c13; have H1 : (some (0, false)) = some (r1, r2) := by rw [if_pos rfl] at H; exact H
    clear H; have H := H1; clear H1; simp only [Option.some.injEq, Prod.mk.injEq] at H; obtain ⟨rfl, rfl⟩ := H; go_wp2; go_ret2; exact ⟨by first | rfl | (simp; done) | (simp [*]; done), by repeat (first | exact Drawn0.refl _ | apply Drawn0.step)⟩
   replace c13 := Bool.eq_false_iff.mpr c13; subst c13; have H1 : (if x8_5 = true then (some (wrap64 (IntKind.u64.wrap (-t107)), true)) else (some (wrap64 (t107), true))) = some (r1, r2) := by rw [if_neg (show ¬ (false = true) by decide)] at H; exact H
   clear H; have H := H1; clear H1
   by_cases c14 : x8_5 = true
   ·subst c14; have H1 : (some (wrap64 (IntKind.u64.wrap (-t107)), true)) = some (r1, r2) := by rw [if_pos rfl] at H; exact H
    clear H; have H := H1; clear H1; simp only [Option.some.injEq, Prod.mk.injEq] at H; obtain ⟨rfl, rfl⟩ := H; go_wp2; go_ret2; exact ⟨by first | rfl | (simp; done) | (simp [*]; done), by repeat (first | exact Drawn0.refl _ | apply Drawn0.step)⟩
   replace c14 := Bool.eq_false_iff.mpr c14; subst c14; have H1 : (some (wrap64 (t107), true)) = some (r1, r2) := by rw [if_neg (show ¬ (false = true) by decide)] at H; exact H
   clear H; have H := H1; clear H1; simp only [Option.some.injEq, Prod.mk.injEq] at H; obtain ⟨rfl, rfl⟩ := H; go_wp2; go_ret2; exact ⟨by first | rfl | (simp; done) | (simp [*]; done), by repeat (first | exact Drawn0.refl _ | apply Drawn0.step)⟩

/-! ### whole_Add: function 46 -/
def whole_Add.f (a0 : Int) (a1 : Int) : Option (Int × Bool) := if ((decide (a0 < 0)) == (decide (a1 < 0))) = true then (if ((decide ((wrap64 (a0 + a1)) < 0)) != (decide (a0 < 0))) = true then (some (0, false)) else (some (wrap64 (a0 + a1), true))) else (some (wrap64 (a0 + a1), true))
set_option maxHeartbeats 8000000 in
set_option maxRecDepth 100000 in
theorem whole_Add.calls (a0 : Int) (a1 : Int) (r1 : Int) (r2 : Bool) (w : World) (h : whole_Add.f a0 a1 = some (r1, r2)) :
 Calls Try.prog 46 #[.int .i64 a0, .int .i64 a1] w fun e w' => e = .returned (.tuple #[.int .i64 r1, .bool r2]) ∧ Drawn0 w w' := by
 have H : (if ((decide (a0 < 0)) == (decide (a1 < 0))) = true then (if ((decide ((wrap64 (a0 + a1)) < 0)) != (decide (a0 < 0))) = true then (some (0, false)) else (some (wrap64 (a0 + a1), true))) else (some (wrap64 (a0 + a1), true))) = some (r1, r2) := h; clear h
 by_cases c3 : ((decide (a0 < 0)) == (decide (a1 < 0))) = true
 ·rw [if_pos c3] at H; have c3b0 : ((decide (a0 < 0)) == (decide (a1 < 0))) = true := c3; (try (have c3b1 : decide ((decide (a0 < 0)) = (decide (a1 < 0))) = true := by simpa using c3)); (try (have c3b2 : ((decide (a0 < 0)) == (decide (a1 < 0))) = true := by simpa using c3)); clear c3
  by_cases c4 : ((decide ((wrap64 (a0 + a1)) < 0)) != (decide (a0 < 0))) = true
  ·rw [if_pos c4] at H; have c4b0 : ((decide ((wrap64 (a0 + a1)) < 0)) != (decide (a0 < 0))) = true := c4; (try (have c4b1 : decide ((decide ((wrap64 (a0 + a1)) < 0)) = (decide (a0 < 0))) = false := by simpa using c4)); (try (have c4b2 : ((decide ((wrap64 (a0 + a1)) < 0)) == (decide (a0 < 0))) = false := by simpa using c4)); (try (have c4b3 : ¬ ((decide ((wrap64 (a0 + a1)) < 0)) = (decide (a0 < 0))) := by simpa using c4)); clear c4; simp only [Option.some.injEq, Prod.mk.injEq] at H; obtain ⟨rfl, rfl⟩ := H; go_enter Try.func46, Try.ntmps46; go_wp2; go_ret2; exact ⟨by first | rfl | (simp; done) | (simp [*]; done), by repeat (first | exact Drawn0.refl _ | apply Drawn0.step)⟩
  rw [if_neg c4] at H; have c4b0 : ((decide ((wrap64 (a0 + a1)) < 0)) != (decide (a0 < 0))) = false := by simpa using c4
  (try (have c4b1 : decide ((decide ((wrap64 (a0 + a1)) < 0)) = (decide (a0 < 0))) = true := by simpa using c4)); (try (have c4b2 : ((decide ((wrap64 (a0 + a1)) < 0)) == (decide (a0 < 0))) = true := by simpa using c4)); clear c4; simp only [Option.some.injEq, Prod.mk.injEq] at H; obtain ⟨rfl, rfl⟩ := H; go_enter Try.func46, Try.ntmps46; go_wp2; go_ret2; exact ⟨by first | rfl | (simp; done) | (simp [*]; done), by repeat (first | exact Drawn0.refl _ | apply Drawn0.step)⟩
 rw [if_neg c3] at H; have c3b0 : ((decide (a0 < 0)) == (decide (a1 < 0))) = false := by simpa using c3
 (try (have c3b1 : decide ((decide (a0 < 0)) = (decide (a1 < 0))) = false := by simpa using c3)); (try (have c3b2 : ((decide (a0 < 0)) == (decide (a1 < 0))) = false := by simpa using c3)); (try (have c3b3 : ¬ ((decide (a0 < 0)) = (decide (a1 < 0))) := by simpa using c3)); clear c3; simp only [Option.some.injEq, Prod.mk.injEq] at H; obtain ⟨rfl, rfl⟩ := H; go_enter Try.func46, Try.ntmps46; go_wp2; go_ret2; exact ⟨by first | rfl | (simp; done) | (simp [*]; done), by repeat (first | exact Drawn0.refl _ | apply Drawn0.step)⟩

/-! ### whole_Dot: function 44 -/
def whole_Dot.l0 : Nat → List Int → List Int → Int → Int → Int → Option (Int × Bool)
 | 0, _, _, _, _, _ => none
 | k + 1, x0, x1, x6, x16, x17 => if x17 < x16 then (if 0 ≤ x17 then (if x17 < (x0.length : Int) then (if x17 < (x1.length : Int) then ((whole_Mul.f k (rd x0 x17) (rd x1 x17)).bind fun bt110 => ((whole_Add.f x6 bt110.1).bind fun bt112 => (if bt110.2 = true then (if bt112.2 = true then (whole_Dot.l0 k x0 x1 bt112.1 x16 (wrap64 (x17 + 1))) else (some (0, false))) else (some (0, false))))) else (none)) else (none)) else (none)) else (some (x6, true))
def whole_Dot.f (k : Nat) (l0 : List Int) (l1 : List Int) : Option (Int × Bool) := whole_Dot.l0 k l0 l1 0 (mn (l0.length : Int) (l1.length : Int)) 0
theorem whole_Dot.mono_l : ∀ k, (∀ y0 y1 y2 y3 y4, LeO (whole_Dot.l0 k y0 y1 y2 y3 y4) (whole_Dot.l0 (k + 1) y0 y1 y2 y3 y4))
 | 0 => fun _ _ _ _ _ r h => by simp [whole_Dot.l0] at h
 | k + 1 => by
  have ih0 := whole_Dot.mono_l k
  ·intro y0 y1 y2 y3 y4
   unfold whole_Dot.l0
   repeat' first
   | (with_reducible exact ih0 _ _ _ _ _)
   | (with_reducible exact whole_Mul.mono _ _ _)
   | (with_reducible exact LeO.refl _)
   | (with_reducible exact LeO.none _)
   | (with_reducible refine LeO.ite ?_ ?_)
   | (with_reducible refine LeO.bind ?_ (fun _ => ?_))
   | exact ih0 _ _ _ _ _
   | exact whole_Mul.mono _ _ _
   | exact LeO.none _
   | refine LeO.ite ?_ ?_
   | refine LeO.bind ?_ (fun _ => ?_)
theorem whole_Dot.mono : ∀ a0 a1 k, LeO (whole_Dot.f k a0 a1) (whole_Dot.f (k + 1) a0 a1) := by
 intro a0 a1 k
 have ih0 := whole_Dot.mono_l k
 unfold whole_Dot.f
 repeat' first
  | (with_reducible exact ih0 _ _ _ _ _)
  | (with_reducible exact whole_Mul.mono _ _ _)
  | (with_reducible exact LeO.refl _)
  | (with_reducible exact LeO.none _)
  | (with_reducible refine LeO.ite ?_ ?_)
  | (with_reducible refine LeO.bind ?_ (fun _ => ?_))
  | exact ih0 _ _ _ _ _
  | exact whole_Mul.mono _ _ _
  | exact LeO.none _
  | refine LeO.ite ?_ ?_
  | refine LeO.bind ?_ (fun _ => ?_)
set_option maxHeartbeats 8000000 in
set_option maxRecDepth 100000 in
theorem whole_Dot.calls (k : Nat) (A0 : Option Addr) (c0 : Nat) (l0 : List Int) (A1 : Option Addr) (c1 : Nat) (l1 : List Int) (r1 : Int) (r2 : Bool) (w : World) (hr0 : Kd.C (Kd.int .i64) w A0 l0.length l0) (hc0 : l0.length ≤ c0) (hr1 : Kd.C (Kd.int .i64) w A1 l1.length l1) (hc1 : l1.length ≤ c1) (h : whole_Dot.f k l0 l1 = some (r1, r2)) :
 Calls Try.prog 44 #[.slice A0 l0.length c0, .slice A1 l1.length c1] w fun e w' => e = .returned (.tuple #[.int .i64 r1, .bool r2]) ∧ Below w.heap.size w w' := by
 have HR0 := Aside0.mk hr0; have HC0 := Aside0.mk hc0; clear hr0 hc0; have HR1 := Aside0.mk hr1; have HC1 := Aside0.mk hc1; clear hr1 hc1; have HB := Aside0.mk (Below.refl w.heap.size w); have H : (whole_Dot.l0 k l0 l1 0 (mn (l0.length : Int) (l1.length : Int)) 0) = some (r1, r2) := h; clear h; obtain ⟨ji3, hji3⟩ : ∃ j_ : Int, (mn (l0.length : Int) (l1.length : Int)) = j_ := ⟨_, rfl⟩; replace H : (whole_Dot.l0 k l0 l1 0 ji3 0) = some (r1, r2) := by first | (rw [hji3] at H; exact H) | (simp only [hji3] at H ⊢; exact H)
 (try (have hji3l : 0 ≤ ji3 := by (rw [← hji3]; unfold mn; (repeat' split) <;> omega))); (try (have hji3m : 0 ≤ ji3 := by omega)); have hji3_ : (if (l1.length : Int) < (l0.length : Int) then (l1.length : Int) else (l0.length : Int)) = ji3 := hji3; have hji3n : (if l1.length < l0.length then (l1.length : Int) else (l0.length : Int)) = ji3 := by simpa only [Int.ofNat_lt] using hji3_
 have H' := Aside0.mk H; clear H; go_enter Try.func44, Try.ntmps44; go_wp2
 repeat (go_quiet (fail); try go_wp2)
 go_loopg [6, 17] k (fun kq v6 v17 w' => ∃ (x6_1 : Int) (x17_1 : Int), v6 = .int .i64 x6_1 ∧ v17 = .int .i64 x17_1 ∧ Aside0 (whole_Dot.l0 kq l0 l1 x6_1 ji3 x17_1 = some (r1, r2)) ∧ Aside0 (kq ≤ k) ∧ Aside0 (Below w.heap.size w w'))
 case atStart => exact ⟨(0), (0), (by first | rfl | (simp; done) | (simp [*]; done)), (by first | rfl | (simp; done) | (simp [*]; done)), H', ⟨Nat.le_refl _⟩, ⟨hbq HB.out⟩⟩
 clear H'; (try clear c1); (try clear p2); obtain ⟨x6_1, x17_1, rfl, rfl, HA, HK1, HB⟩ := hrel; cases gk with
 | zero => exact absurd HA.out (by simp [whole_Dot.l0])
 | succ k1 =>
  have H := HA.out; clear HA; simp only [whole_Dot.l0] at H
  by_cases c4 : x17_1 < ji3
  ·rw [if_pos c4] at H; have c4b0 : decide (x17_1 < ji3) = true := decide_eq_true c4; clear c4
   by_cases c5 : 0 ≤ x17_1
   case neg => rw [if_neg c5] at H; exact absurd H (by simp)
   rw [if_pos c5] at H; have c5b0 : decide (0 ≤ x17_1) = true := decide_eq_true c5; clear c5
   by_cases c6 : x17_1 < (l0.length : Int)
   case neg => rw [if_neg c6] at H; exact absurd H (by simp)
   rw [if_pos c6] at H; have c6b0 : decide (x17_1 < (l0.length : Int)) = true := decide_eq_true c6; clear c6
   by_cases c7 : x17_1 < (l1.length : Int)
   case neg => rw [if_neg c7] at H; exact absurd H (by simp)
   rw [if_pos c7] at H; have c7b0 : decide (x17_1 < (l1.length : Int)) = true := decide_eq_true c7; clear c7; replace H := Option.bind_eq_some_iff.mp H; obtain ⟨⟨t110, t111⟩, A80, H⟩ := H; replace H : ((whole_Add.f x6_1 t110).bind fun bt112 => (if t111 = true then (if bt112.2 = true then (whole_Dot.l0 k1 l0 l1 bt112.1 ji3 (wrap64 (x17_1 + 1))) else (some (0, false))) else (some (0, false)))) = some (r1, r2) := H; have A8 := Aside0.mk A80; clear A80; replace H := Option.bind_eq_some_iff.mp H; obtain ⟨⟨t112, t113⟩, A90, H⟩ := H; replace H : (if t111 = true then (if t113 = true then (whole_Dot.l0 k1 l0 l1 t112 ji3 (wrap64 (x17_1 + 1))) else (some (0, false))) else (some (0, false))) = some (r1, r2) := H; have A9 := Aside0.mk A90; clear A90
   by_cases c10 : t111 = true
   ·subst c10; have H1 : (if t113 = true then (whole_Dot.l0 k1 l0 l1 t112 ji3 (wrap64 (x17_1 + 1))) else (some (0, false))) = some (r1, r2) := by rw [if_pos rfl] at H; exact H
    clear H; have H := H1; clear H1
    by_cases c11 : t113 = true
    ·subst c11; have H1 : (whole_Dot.l0 k1 l0 l1 t112 ji3 (wrap64 (x17_1 + 1))) = some (r1, r2) := by rw [if_pos rfl] at H; exact H
     clear H; have H := H1; clear H1; have H' := Aside0.mk H; clear H; have p108 : 0 ≤ (x17_1 : Int) := oa; have q108 : x17_1 < (l0.length : Int) := oa; obtain ⟨ad108, e108, hx108_0⟩ := Kd.at_int HR0.out x17_1 p108 q108; cases e108; replace hx108_0 := (HB.out.cell (World.block_lt_of_cell? w _ hx108_0)).trans hx108_0; replace p108 := eq_true p108; replace q108 := eq_true q108; have p109 : 0 ≤ (x17_1 : Int) := oa; have q109 : x17_1 < (l1.length : Int) := oa; obtain ⟨ad109, e109, hx109_0⟩ := Kd.at_int HR1.out x17_1 p109 q109; cases e109; replace hx109_0 := (HB.out.cell (World.block_lt_of_cell? w _ hx109_0)).trans hx109_0; replace p109 := eq_true p109; replace q109 := eq_true q109
     iterate 3 ((try go_quiet (first | (go_at_call 45; (with_reducible refine (whole_Mul.calls k1 (rd l0 x17_1) (rd l1 x17_1) t110 true _ A8.out).mono ?_); rintro e w' ⟨rfl, ⟨nd, rfl⟩⟩; (try first | exact ⟨rfl, _, World.drewN_drewN _ _ _⟩ | exact ⟨rfl, _, Eq.trans (World.drewN_drewN _ _ _) (congrArg (World.drewN _) (Nat.add_assoc _ _ _))⟩)) | (go_at_call 46; (with_reducible refine (whole_Add.calls x6_1 t110 t112 true _ A9.out).mono ?_); rintro e w' ⟨rfl, ⟨nd, rfl⟩⟩; (try first | exact ⟨rfl, _, World.drewN_drewN _ _ _⟩ | exact ⟨rfl, _, Eq.trans (World.drewN_drewN _ _ _) (congrArg (World.drewN _) (Nat.add_assoc _ _ _))⟩)))); go_wp2_with (first | (go_at_call 45; (with_reducible refine (whole_Mul.calls k1 (rd l0 x17_1) (rd l1 x17_1) t110 true _ A8.out).mono ?_); rintro e w' ⟨rfl, ⟨nd, rfl⟩⟩; (try first | exact ⟨rfl, _, World.drewN_drewN _ _ _⟩ | exact ⟨rfl, _, Eq.trans (World.drewN_drewN _ _ _) (congrArg (World.drewN _) (Nat.add_assoc _ _ _))⟩)) | (go_at_call 46; (with_reducible refine (whole_Add.calls x6_1 t110 t112 true _ A9.out).mono ?_); rintro e w' ⟨rfl, ⟨nd, rfl⟩⟩; (try first | exact ⟨rfl, _, World.drewN_drewN _ _ _⟩ | exact ⟨rfl, _, Eq.trans (World.drewN_drewN _ _ _) (congrArg (World.drewN _) (Nat.add_assoc _ _ _))⟩))))
     go_roundg k1
     case measure => have := HK1.out; omega
     case rel => exact ⟨(t112), (wrap64 (x17_1 + 1)), (by first | rfl | (simp; done) | (simp [*]; done)), (by first | rfl | (simp; done) | (simp [*]; done)), H', ⟨by have := HK1.out; omega⟩, ⟨hbq HB.out⟩⟩
    replace c11 := Bool.eq_false_iff.mpr c11; subst c11; have H1 : (some (0, false)) = some (r1, r2) := by rw [if_neg (show ¬ (false = true) by decide)] at H; exact H
    clear H; have H := H1; clear H1; simp only [Option.some.injEq, Prod.mk.injEq] at H; obtain ⟨rfl, rfl⟩ := H; have p108 : 0 ≤ (x17_1 : Int) := oa; have q108 : x17_1 < (l0.length : Int) := oa; obtain ⟨ad108, e108, hx108_0⟩ := Kd.at_int HR0.out x17_1 p108 q108; cases e108; replace hx108_0 := (HB.out.cell (World.block_lt_of_cell? w _ hx108_0)).trans hx108_0; replace p108 := eq_true p108; replace q108 := eq_true q108; have p109 : 0 ≤ (x17_1 : Int) := oa; have q109 : x17_1 < (l1.length : Int) := oa; obtain ⟨ad109, e109, hx109_0⟩ := Kd.at_int HR1.out x17_1 p109 q109; cases e109; replace hx109_0 := (HB.out.cell (World.block_lt_of_cell? w _ hx109_0)).trans hx109_0; replace p109 := eq_true p109; replace q109 := eq_true q109
    iterate 3 ((try go_quiet (first | (go_at_call 45; (with_reducible refine (whole_Mul.calls k1 (rd l0 x17_1) (rd l1 x17_1) t110 true _ A8.out).mono ?_); rintro e w' ⟨rfl, ⟨nd, rfl⟩⟩; (try first | exact ⟨rfl, _, World.drewN_drewN _ _ _⟩ | exact ⟨rfl, _, Eq.trans (World.drewN_drewN _ _ _) (congrArg (World.drewN _) (Nat.add_assoc _ _ _))⟩)) | (go_at_call 46; (with_reducible refine (whole_Add.calls x6_1 t110 t112 false _ A9.out).mono ?_); rintro e w' ⟨rfl, ⟨nd, rfl⟩⟩; (try first | exact ⟨rfl, _, World.drewN_drewN _ _ _⟩ | exact ⟨rfl, _, Eq.trans (World.drewN_drewN _ _ _) (congrArg (World.drewN _) (Nat.add_assoc _ _ _))⟩)))); go_wp2_with (first | (go_at_call 45; (with_reducible refine (whole_Mul.calls k1 (rd l0 x17_1) (rd l1 x17_1) t110 true _ A8.out).mono ?_); rintro e w' ⟨rfl, ⟨nd, rfl⟩⟩; (try first | exact ⟨rfl, _, World.drewN_drewN _ _ _⟩ | exact ⟨rfl, _, Eq.trans (World.drewN_drewN _ _ _) (congrArg (World.drewN _) (Nat.add_assoc _ _ _))⟩)) | (go_at_call 46; (with_reducible refine (whole_Add.calls x6_1 t110 t112 false _ A9.out).mono ?_); rintro e w' ⟨rfl, ⟨nd, rfl⟩⟩; (try first | exact ⟨rfl, _, World.drewN_drewN _ _ _⟩ | exact ⟨rfl, _, Eq.trans (World.drewN_drewN _ _ _) (congrArg (World.drewN _) (Nat.add_assoc _ _ _))⟩))))
    go_ret2; exact ⟨by first | rfl | (simp [errW_none, errW_some] <;> rfl) | (simp only [← hji3]; first | rfl | (simp [errW_none, errW_some] <;> rfl)) | (simp [*, errW_none, errW_some] <;> rfl), hbq HB.out⟩
   replace c10 := Bool.eq_false_iff.mpr c10; subst c10; have H1 : (some (0, false)) = some (r1, r2) := by rw [if_neg (show ¬ (false = true) by decide)] at H; exact H
   clear H; have H := H1; clear H1; simp only [Option.some.injEq, Prod.mk.injEq] at H; obtain ⟨rfl, rfl⟩ := H; have p108 : 0 ≤ (x17_1 : Int) := oa; have q108 : x17_1 < (l0.length : Int) := oa; obtain ⟨ad108, e108, hx108_0⟩ := Kd.at_int HR0.out x17_1 p108 q108; cases e108; replace hx108_0 := (HB.out.cell (World.block_lt_of_cell? w _ hx108_0)).trans hx108_0; replace p108 := eq_true p108; replace q108 := eq_true q108; have p109 : 0 ≤ (x17_1 : Int) := oa; have q109 : x17_1 < (l1.length : Int) := oa; obtain ⟨ad109, e109, hx109_0⟩ := Kd.at_int HR1.out x17_1 p109 q109; cases e109; replace hx109_0 := (HB.out.cell (World.block_lt_of_cell? w _ hx109_0)).trans hx109_0; replace p109 := eq_true p109; replace q109 := eq_true q109
   iterate 3 ((try go_quiet (first | (go_at_call 45; (with_reducible refine (whole_Mul.calls k1 (rd l0 x17_1) (rd l1 x17_1) t110 false _ A8.out).mono ?_); rintro e w' ⟨rfl, ⟨nd, rfl⟩⟩; (try first | exact ⟨rfl, _, World.drewN_drewN _ _ _⟩ | exact ⟨rfl, _, Eq.trans (World.drewN_drewN _ _ _) (congrArg (World.drewN _) (Nat.add_assoc _ _ _))⟩)) | (go_at_call 46; (with_reducible refine (whole_Add.calls x6_1 t110 t112 t113 _ A9.out).mono ?_); rintro e w' ⟨rfl, ⟨nd, rfl⟩⟩; (try first | exact ⟨rfl, _, World.drewN_drewN _ _ _⟩ | exact ⟨rfl, _, Eq.trans (World.drewN_drewN _ _ _) (congrArg (World.drewN _) (Nat.add_assoc _ _ _))⟩)))); go_wp2_with (first | (go_at_call 45; (with_reducible refine (whole_Mul.calls k1 (rd l0 x17_1) (rd l1 x17_1) t110 false _ A8.out).mono ?_); rintro e w' ⟨rfl, ⟨nd, rfl⟩⟩; (try first | exact ⟨rfl, _, World.drewN_drewN _ _ _⟩ | exact ⟨rfl, _, Eq.trans (World.drewN_drewN _ _ _) (congrArg (World.drewN _) (Nat.add_assoc _ _ _))⟩)) | (go_at_call 46; (with_reducible refine (whole_Add.calls x6_1 t110 t112 t113 _ A9.out).mono ?_); rintro e w' ⟨rfl, ⟨nd, rfl⟩⟩; (try first | exact ⟨rfl, _, World.drewN_drewN _ _ _⟩ | exact ⟨rfl, _, Eq.trans (World.drewN_drewN _ _ _) (congrArg (World.drewN _) (Nat.add_assoc _ _ _))⟩))))
   go_ret2; exact ⟨by first | rfl | (simp [errW_none, errW_some] <;> rfl) | (simp only [← hji3]; first | rfl | (simp [errW_none, errW_some] <;> rfl)) | (simp [*, errW_none, errW_some] <;> rfl), hbq HB.out⟩
  rw [if_neg c4] at H; have c4b0 : decide (x17_1 < ji3) = false := decide_eq_false c4; clear c4; simp only [Option.some.injEq, Prod.mk.injEq] at H; obtain ⟨rfl, rfl⟩ := H; go_wp2
  repeat (go_quiet (fail); try go_wp2)
  go_ret2; exact ⟨by first | rfl | (simp [errW_none, errW_some] <;> rfl) | (simp only [← hji3]; first | rfl | (simp [errW_none, errW_some] <;> rfl)) | (simp [*, errW_none, errW_some] <;> rfl), hbq HB.out⟩

end Go.Proofs.Ytifbflpaednfnaa.PBasisRaw
