/- What the functions that this law reaches answer, in whatever memory, and the row of the law; no condition. Written by a program of this session (mk.sh). -/
import Derived.Test.YtifbflpaednfnaaPBasisNetsx0
namespace Go.Proofs.Ytifbflpaednfnaa.PBasisNets
open Go.RowKit Go.Proofs.YtifbflpaednfnaaW.PrintWords Go.Proofs.YtifbflpaednfnaaW.PrintLast Go.Proofs.YtifbflpaednfnaaW.PrintMore
attribute [local go_sem] max2_int min2_int max_two min_two   -- for this text's walks alone
set_option linter.unusedVariables false
set_option linter.unusedSimpArgs false

/-! ### slices_Clone_int_int: function 25 -/
def slices_Clone_int_int.f (a : List Int) : Option (List Int) := if a.length < 17592186044416 then some a else none
theorem slices_Clone_int_int.calls (A0 : Option Addr) (c0 : Nat) (l0 : List Int) (r : List Int) (w : World) (hr0 : Kd.C (Kd.int .i64) w A0 l0.length l0) (hc0 : l0.length ≤ c0) (h : slices_Clone_int_int.f l0 = some r) :
 Calls Try.prog 25 #[.slice A0 l0.length c0] w fun e w' => ∃ v0_ : Value, e = .returned v0_ ∧ Kd.R (Kd.int .i64) 3 w' w.heap.size (fun _ => True) v0_ r ∧ Below w.heap.size w w' := by
 have HL : Aside0 (l0.length < 17592186044416) := by
  unfold slices_Clone_int_int.f at h
  split at h
  ·exact ⟨by assumption⟩
  ·simp at h
 have hr : l0 = r := by
  unfold slices_Clone_int_int.f at h
  split at h
  ·exact Option.some.inj h
  ·simp at h
 subst hr; clear h; have a2 := sk hr0; clear hr0; cases A0 with
 | none =>
  have hl : l0 = [] := by
   rcases l0 with _ | ⟨x, t⟩
   ·rfl
   ·obtain ⟨ad, h, _⟩ := a2.out.2.2 (by simp); simp at h
  subst hl; have hEq : ∀ W, Sem.run Try.prog (binOp .eql 37 (.slice none 0 c0) (.slice none 0 0)) W = .ok (.bool true) W := fun _ => rfl
  go_enter Try.func25, Try.ntmps25; go_wp2; go_ret; exact ⟨_, rfl, Kd.R_nil _ _ _ _ _, Below.refl _ _⟩
 | some ad =>
  obtain ⟨y9, a3⟩ : ∃ y_ : List Int, y_ = ([] ++ l0) := ⟨_, rfl⟩; have a4 := sk a3; clear a3; have hEq : ∀ W, Sem.run Try.prog (binOp .eql 37 (.slice (some ad) l0.length c0) (.slice none 0 0)) W = .ok (.bool false) W := fun _ => rfl
  go_enter Try.func25, Try.ntmps25; go_wp2_with (first | ((with_reducible refine gate_dst (N := 5) rfl ?_); refine Kd.R_lit (Kd.int .i64) _ 3 ?hg (N := 5) ?hd (xs := ([] : List Int)) (inner := []) (ok := fun _ => True) (okp := fun _ => True) ?hr ?hp (fun _ hk => hk) trivial (Below.refl _ _) (Nat.le_refl _) (by simp) ?_; (case hd => rfl); (case hg => rfl); (case hr => first | (go_simp; done) | (go_simp; rfl)); (case hp => exact Reps.none _ _); intro v1 w1 a5 a6 hg_ hnew_; clear hg_ hnew_; have a8 := sk (Kd.R_lower a5 (Nat.le_refl _)); have HB := sk a6; clear a5 a6) | ((with_reducible refine gate_builtin (b := .append) (xs := #[.tmp 5, .tmp 6]) rfl ?_); at_builtin; refine Kd.R_append_rows (Kd.int .i64) (w0 := w) w.heap.size rfl (.tmp 5) (.tmp 6) 37 3 (.int .i64 0) 8 rfl Try.underlying37 info3 rfl (by decide) (by omega) v1 [] l0 _ _ _ (fun _ => True) (fun _ => False) rfl rfl ?aO ?aR (fun _ _ h => h) (fun _ h => h.elim) ?aF ?aB ?aS ?aL ?_; (case aR => exact Kd.C_below a2.out HB.out); (case aB => exact HB.out); (case aF => exact (fun _ _ => trivial)); (case aO => exact a8.out); (case aS => exact HB.out.size); (case aL => have := HL.out; simp; omega); intro v2 w2 a0 a7 a9 a1; rw [← a4.out] at a0; have b0 := sk a0; have b1 := sk a7; clear a0 a7 a9 a1)); go_ret; exact ⟨_, rfl, by have h := b0.out; rw [a4.out, List.nil_append] at h; exact h, b1.out⟩

/-! ### basis_width: function 26 -/
def basis_width.f (a : List (List Int)) : Option (Int) := if (a.length : Int) = 0 then (some 0) else (if 0 < (a.length : Int) then (some ((rd_L1 a 0).length : Int)) else (none))
set_option maxHeartbeats 8000000 in
set_option maxRecDepth 100000 in
theorem basis_width.calls (A0 : Option Addr) (c0 : Nat) (l0 : List (List Int)) (r : Int) (w : World) (hr0 : Kd.C (Kd.slice 3 (Kd.int .i64)) w A0 l0.length l0) (hc0 : l0.length ≤ c0) (h : basis_width.f l0 = some r) :
 Calls Try.prog 26 #[.slice A0 l0.length c0] w fun e w' => e = .returned (.int .i64 r) ∧ Drawn0 w w' := by
 have b4 := sk hr0; have b8 := sk hc0; clear hr0 hc0; have H : (if (l0.length : Int) = 0 then (some 0) else (if 0 < (l0.length : Int) then (some ((rd_L1 l0 0).length : Int)) else (none))) = some r := h; clear h
 by_cases c2 : (l0.length : Int) = 0
 ·rw [if_pos c2] at H; have a7 := beq_iff_eq.mpr c2; have a8 := bne_eq_false_iff_eq.mpr c2; clear c2; obtain rfl := Option.some.inj H; go_enter Try.func26, Try.ntmps26; go_wp2; go_ret; exact f0
 rw [if_neg c2] at H; have a7 := beq_eq_false_iff_ne.mpr c2; have a8 := bne_iff_ne.mpr c2; have b5 : ¬ (l0 = []) := fun h_ => c2 (by rw [h_]; rfl)
 by_cases c3 : 0 < (l0.length : Int)
 case neg => rw [if_neg c3] at H; exact nn H
 rw [if_pos c3] at H; have b6 := decide_eq_true c3; have b7 : decide (0 < l0.length) = true := decide_eq_true (by omega); clear c3; obtain rfl := Option.some.inj H; have a3 : 0 ≤ (0 : Int) := (by omega); have a4 : 0 < (l0.length : Int) := oa; obtain ⟨b2, a9, b0, b1, a0, a1, a2⟩ := at_L1 b4.out 0 a3 a4; cases b1; have b3 : (0 < l0.length) = True := eq_true (by omega); (try rw [show ((0 : Int)).toNat = 0 from rfl] at a0); (try rw [Addr.add_zero'] at a0); have a5 := sk a2; have a6 := sk a1; clear a2 a1; replace a3 := eq_true a3; replace a4 := eq_true a4; go_enter Try.func26, Try.ntmps26; go_wp2; go_ret; exact f0

/-! ### whole_size: function 43 -/
def whole_size.f (a : Int) : Option (Int) := if a < 0 then (some (IntKind.u64.wrap (-(IntKind.u64.wrap (a))))) else (some (IntKind.u64.wrap (a)))
set_option maxHeartbeats 8000000 in
set_option maxRecDepth 100000 in
theorem whole_size.calls (a0 : Int) (r : Int) (w : World) (h : whole_size.f a0 = some r) :
 Calls Try.prog 43 #[.int .i64 a0] w fun e w' => e = .returned (.int .u64 r) ∧ Drawn0 w w' := by
 have H : (if a0 < 0 then (some (IntKind.u64.wrap (-(IntKind.u64.wrap (a0))))) else (some (IntKind.u64.wrap (a0)))) = some r := h; clear h
 by_cases c2 : a0 < 0
 ·rw [if_pos c2] at H; have a1 := decide_eq_true c2; clear c2; obtain rfl := Option.some.inj H; go_enter Try.func43, Try.ntmps43; go_wp2; go_ret; exact f0
 rw [if_neg c2] at H; have a1 := decide_eq_false c2; clear c2; obtain rfl := Option.some.inj H; go_enter Try.func43, Try.ntmps43; go_wp2; go_ret; exact f0

/-! ### whole_Gcd: function 38 -/
def whole_Gcd.l0 : Nat → Int → Int → Option (Int)
 | 0, _, _ => none
 | k + 1, b, a => if a > 0 then (if a = 0 then (none) else (whole_Gcd.l0 k a (Int.tmod b a))) else (some (wrap64 (b)))
def whole_Gcd.f (k : Nat) (c : Int) (d : Int) : Option (Int) := (whole_size.f c).bind fun a => ((whole_size.f d).bind fun b => (whole_Gcd.l0 k a b))
theorem whole_Gcd.mono_l : ∀ k, (∀ y0 y1, LeO (whole_Gcd.l0 k y0 y1) (whole_Gcd.l0 (k + 1) y0 y1))
 | 0 => fun _ _ r h => by simp [whole_Gcd.l0] at h
 | k + 1 => by
   have ih0 := whole_Gcd.mono_l k
   intros; unfold whole_Gcd.l0; repeat' with_reducible first | apply ih0 | apply LeO.refl | apply LeO.none | refine LeO.ite ?_ ?_ | refine LeO.bind ?_ fun _ => ?_
theorem whole_Gcd.mono : ∀ a0 a1 k, LeO (whole_Gcd.f k a0 a1) (whole_Gcd.f (k + 1) a0 a1) := by
 intro a0 a1 k
 have ih0 := whole_Gcd.mono_l k
 unfold whole_Gcd.f
 repeat' with_reducible first | apply ih0 | apply LeO.refl | apply LeO.none | refine LeO.ite ?_ ?_ | refine LeO.bind ?_ fun _ => ?_
set_option maxHeartbeats 8000000 in
set_option maxRecDepth 100000 in
theorem whole_Gcd.calls (k : Nat) (a0 : Int) (a1 : Int) (r : Int) (w : World) (h : whole_Gcd.f k a0 a1 = some r) :
 Calls Try.prog 38 #[.int .i64 a0, .int .i64 a1] w fun e w' => e = .returned (.int .i64 r) ∧ Drawn0 w w' := by
 have H : ((whole_size.f a0).bind fun a4 => ((whole_size.f a1).bind fun a3 => (whole_Gcd.l0 k a4 a3))) = some r := h; clear h; obtain ⟨a4, A3, H⟩ := bi H; replace H : ((whole_size.f a1).bind fun a3 => (whole_Gcd.l0 k a4 a3)) = some r := H; obtain ⟨a3, A4, H⟩ := bi H; replace H : (whole_Gcd.l0 k a4 a3) = some r := H; have H' := sk H; clear H; go_enter Try.func38, Try.ntmps38
 iterate 3 ((try go_quiet (first | (go_at_call 43; (with_reducible refine (whole_size.calls a0 a4 _ A3.out).mono ?_); rintro e w' ⟨rfl, ⟨nd, rfl⟩⟩; (try exact dr2)) | (go_at_call 43; (with_reducible refine (whole_size.calls a1 a3 _ A4.out).mono ?_); rintro e w' ⟨rfl, ⟨nd, rfl⟩⟩; (try exact dr2)))); go_wp2_with (first | (go_at_call 43; (with_reducible refine (whole_size.calls a0 a4 _ A3.out).mono ?_); rintro e w' ⟨rfl, ⟨nd, rfl⟩⟩; (try exact dr2)) | (go_at_call 43; (with_reducible refine (whole_size.calls a1 a3 _ A4.out).mono ?_); rintro e w' ⟨rfl, ⟨nd, rfl⟩⟩; (try exact dr2))))
 go_loopg [5, 6] k (fun kq v5 v6 w' => ∃ (a5 : Int) (a2 : Int), v5 = .int .u64 a5 ∧ v6 = .int .u64 a2 ∧ Aside0 (whole_Gcd.l0 kq a5 a2 = some r) ∧ Aside0 (kq ≤ k) ∧ Drawn0 w w')
 case atStart => exact ⟨(a4), (a3), (by first | rfl | (simp; done) | (simp [*]; done)), (by first | rfl | (simp; done) | (simp [*]; done)), H', ⟨Nat.le_refl _⟩, by repeat (first | exact Drawn0.refl _ | apply Drawn0.step)⟩
 clear H'; obtain ⟨a5, a2, rfl, rfl, HA, a7, ⟨m1, rfl⟩⟩ := hrel; cases gk with
 | zero => exact absurd HA.out (by simp [whole_Gcd.l0])
 | succ k1 =>
  have H := HA.out; clear HA; simp only [whole_Gcd.l0] at H
  by_cases c5 : a2 > 0
  ·rw [if_pos c5] at H; have a6 : decide (0 < a2) = true := decide_eq_true c5; clear c5
   by_cases c6 : a2 = 0
   case pos => rw [if_pos c6] at H; exact nn H
   rw [if_neg c6] at H; have a8 := beq_eq_false_iff_ne.mpr c6; have a9 := bne_iff_ne.mpr c6; have H' := sk H; clear H; go_wp2
   repeat (go_quiet (fail); try go_wp2)
   go_roundg k1
   case measure => have := a7.out; omega
   case rel => exact ⟨(a2), (Int.tmod a5 a2), (by first | rfl | (simp; done) | (simp [*]; done)), (by first | rfl | (simp; done) | (simp [*]; done)), H', ⟨by have := a7.out; omega⟩, by repeat (first | exact Drawn0.refl _ | apply Drawn0.step)⟩
  rw [if_neg c5] at H; have a6 : decide (0 < a2) = false := decide_eq_false c5; clear c5; obtain rfl := Option.some.inj H; go_wp2
  repeat (go_quiet (fail); try go_wp2)
  go_ret; exact f0

/-! ### basis_abs: function 39 -/
def basis_abs.f (a : Int) : Option (Int) := some (mx a (wrap64 (-a)))
set_option maxHeartbeats 8000000 in
set_option maxRecDepth 100000 in
theorem basis_abs.calls (a0 : Int) (r : Int) (w : World) (h : basis_abs.f a0 = some r) :
 Calls Try.prog 39 #[.int .i64 a0] w fun e w' => e = .returned (.int .i64 r) ∧ Below w.heap.size w w' := by
 have HB := sk (Below.refl w.heap.size w); have H : (some (mx a0 (wrap64 (-a0)))) = some r := h; clear h; obtain ⟨a2, a1⟩ : ∃ j_ : Int, (mx a0 (wrap64 (-a0))) = j_ := ⟨_, rfl⟩; replace H : (some a2) = some r := by first | (rw [a1] at H; exact H) | (simp only [a1] at H ⊢; exact H)
 have a3 : (if a0 < (wrap64 (-a0)) then (wrap64 (-a0)) else a0) = a2 := a1; obtain rfl := Option.some.inj H; go_enter Try.func39, Try.ntmps39; go_wp2; go_ret; exact ⟨by first | rfl | (simp [errW_none, errW_some] <;> rfl) | (simp only [← a1]; first | rfl | (simp [errW_none, errW_some] <;> rfl)) | (simp [*, errW_none, errW_some] <;> rfl), hbq HB.out⟩

/-! ### bits_Mul64: function 47 -/
def bits_Mul64.f (a : Int) (b : Int) : Option (Int × Int) := some (IntKind.u64.wrap ((IntKind.u64.wrap ((IntKind.u64.wrap ((a / 4294967296) * (b / 4294967296))) + ((IntKind.u64.wrap ((IntKind.u64.wrap ((a / 4294967296) * (Go.bits .and .u64 b 4294967295))) + ((IntKind.u64.wrap ((Go.bits .and .u64 a 4294967295) * (Go.bits .and .u64 b 4294967295))) / 4294967296))) / 4294967296))) + ((IntKind.u64.wrap ((Go.bits .and .u64 (IntKind.u64.wrap ((IntKind.u64.wrap ((a / 4294967296) * (Go.bits .and .u64 b 4294967295))) + ((IntKind.u64.wrap ((Go.bits .and .u64 a 4294967295) * (Go.bits .and .u64 b 4294967295))) / 4294967296))) 4294967295) + (IntKind.u64.wrap ((Go.bits .and .u64 a 4294967295) * (b / 4294967296))))) / 4294967296)), IntKind.u64.wrap (a * b))
set_option maxHeartbeats 8000000 in
set_option maxRecDepth 100000 in
theorem bits_Mul64.calls (a0 : Int) (a1 : Int) (r1 : Int) (r2 : Int) (w : World) (h : bits_Mul64.f a0 a1 = some (r1, r2)) :
 Calls Try.prog 47 #[.int .u64 a0, .int .u64 a1] w fun e w' => e = .returned (.tuple #[.int .u64 r1, .int .u64 r2]) ∧ Drawn0 w w' := by
 have H : (some (IntKind.u64.wrap ((IntKind.u64.wrap ((IntKind.u64.wrap ((a0 / 4294967296) * (a1 / 4294967296))) + ((IntKind.u64.wrap ((IntKind.u64.wrap ((a0 / 4294967296) * (Go.bits .and .u64 a1 4294967295))) + ((IntKind.u64.wrap ((Go.bits .and .u64 a0 4294967295) * (Go.bits .and .u64 a1 4294967295))) / 4294967296))) / 4294967296))) + ((IntKind.u64.wrap ((Go.bits .and .u64 (IntKind.u64.wrap ((IntKind.u64.wrap ((a0 / 4294967296) * (Go.bits .and .u64 a1 4294967295))) + ((IntKind.u64.wrap ((Go.bits .and .u64 a0 4294967295) * (Go.bits .and .u64 a1 4294967295))) / 4294967296))) 4294967295) + (IntKind.u64.wrap ((Go.bits .and .u64 a0 4294967295) * (a1 / 4294967296))))) / 4294967296)), IntKind.u64.wrap (a0 * a1))) = some (r1, r2) := h; clear h; obtain ⟨rfl, rfl⟩ := jj2 H; go_enter Try.func47, Try.ntmps47; go_wp2; go_ret2; exact f0

/-! ### whole_Mul: function 45 -/
mutual
def whole_Mul.j0 : Nat → Int → Int → Bool → Option (Int × Bool)
 | 0, _, _, _ => none
 | k + 1, d, a, b => if d > 0 then (whole_Mul.j1 k a b true) else (if a > 9223372036854775808 then (whole_Mul.j1 k a b true) else (if a = 9223372036854775808 then (whole_Mul.j1 k a b (!b)) else (whole_Mul.j1 k a b false)))
def whole_Mul.j1 : Nat → Int → Bool → Bool → Option (Int × Bool)
 | 0, _, _, _ => none
 | k + 1, a, b, c => if c = true then (some (0, false)) else (if b = true then (some (wrap64 (IntKind.u64.wrap (-a)), true)) else (some (wrap64 (a), true)))
end
def whole_Mul.f (k : Nat) (b : Int) (c : Int) : Option (Int × Bool) := (whole_size.f b).bind fun d => ((whole_size.f c).bind fun e => ((bits_Mul64.f d e).bind fun a => (if ((decide (b < 0)) != (decide (c < 0))) = true then (if b = 0 then (whole_Mul.j0 k a.1 a.2 false) else (whole_Mul.j0 k a.1 a.2 (c != 0))) else (whole_Mul.j0 k a.1 a.2 false))))
theorem whole_Mul.mono_l : ∀ k, (∀ y0 y1 y2, LeO (whole_Mul.j0 k y0 y1 y2) (whole_Mul.j0 (k + 1) y0 y1 y2)) ∧ (∀ y0 y1 y2, LeO (whole_Mul.j1 k y0 y1 y2) (whole_Mul.j1 (k + 1) y0 y1 y2))
 | 0 => ⟨fun _ _ _ r h => by simp [whole_Mul.j0] at h, fun _ _ _ r h => by simp [whole_Mul.j1] at h⟩
 | k + 1 => by
   obtain ⟨ih0, ih1⟩ := whole_Mul.mono_l k
   refine ⟨?_, ?_⟩ <;> intros
   unfold whole_Mul.j0; rotate_left
   unfold whole_Mul.j1; rotate_left
   all_goals (repeat' with_reducible first | apply ih0 | apply ih1 | apply LeO.refl | apply LeO.none | refine LeO.ite ?_ ?_ | refine LeO.bind ?_ fun _ => ?_)
theorem whole_Mul.mono : ∀ a0 a1 k, LeO (whole_Mul.f k a0 a1) (whole_Mul.f (k + 1) a0 a1) := by
 intro a0 a1 k
 obtain ⟨ih0, ih1⟩ := whole_Mul.mono_l k
 unfold whole_Mul.f
 repeat' with_reducible first | apply ih0 | apply ih1 | apply LeO.refl | apply LeO.none | refine LeO.ite ?_ ?_ | refine LeO.bind ?_ fun _ => ?_
set_option maxHeartbeats 8000000 in
set_option maxRecDepth 100000 in
theorem whole_Mul.calls (k : Nat) (a0 : Int) (a1 : Int) (r1 : Int) (r2 : Bool) (w : World) (h : whole_Mul.f k a0 a1 = some (r1, r2)) :
 Calls Try.prog 45 #[.int .i64 a0, .int .i64 a1] w fun e w' => e = .returned (.tuple #[.int .i64 r1, .bool r2]) ∧ Drawn0 w w' := by
 have H : ((whole_size.f a0).bind fun a7 => ((whole_size.f a1).bind fun a4 => ((bits_Mul64.f a7 a4).bind fun a2 => (if ((decide (a0 < 0)) != (decide (a1 < 0))) = true then (if a0 = 0 then (whole_Mul.j0 k a2.1 a2.2 false) else (whole_Mul.j0 k a2.1 a2.2 (a1 != 0))) else (whole_Mul.j0 k a2.1 a2.2 false))))) = some (r1, r2) := h; clear h; obtain ⟨a7, A3, H⟩ := bi H; replace H : ((whole_size.f a1).bind fun a4 => ((bits_Mul64.f a7 a4).bind fun a2 => (if ((decide (a0 < 0)) != (decide (a1 < 0))) = true then (if a0 = 0 then (whole_Mul.j0 k a2.1 a2.2 false) else (whole_Mul.j0 k a2.1 a2.2 (a1 != 0))) else (whole_Mul.j0 k a2.1 a2.2 false)))) = some (r1, r2) := H; obtain ⟨a4, A4, H⟩ := bi H; replace H : ((bits_Mul64.f a7 a4).bind fun a2 => (if ((decide (a0 < 0)) != (decide (a1 < 0))) = true then (if a0 = 0 then (whole_Mul.j0 k a2.1 a2.2 false) else (whole_Mul.j0 k a2.1 a2.2 (a1 != 0))) else (whole_Mul.j0 k a2.1 a2.2 false))) = some (r1, r2) := H; obtain ⟨⟨a5, a3⟩, A5, H⟩ := bi H; replace H : (if ((decide (a0 < 0)) != (decide (a1 < 0))) = true then (if a0 = 0 then (whole_Mul.j0 k a5 a3 false) else (whole_Mul.j0 k a5 a3 (a1 != 0))) else (whole_Mul.j0 k a5 a3 false)) = some (r1, r2) := H; have c0 := sk H; clear H; go_enter Try.func45, Try.ntmps45; go_upto_region 2 with (first | ((with_reducible refine gate_callee (f := 43) rfl ?_); refine goesD (some 11) rfl rfl Try.func43 rfl #[.int .i64 a0] rfl ?_; (with_reducible refine (whole_size.calls a0 a7 _ A3.out).mono ?_); rintro e w' ⟨rfl, ⟨nd, rfl⟩⟩; refine ⟨_, rfl, ?_⟩) | ((with_reducible refine gate_callee (f := 43) rfl ?_); refine goesD (some 13) rfl rfl Try.func43 rfl #[.int .i64 a1] rfl ?_; (with_reducible refine (whole_size.calls a1 a4 _ A4.out).mono ?_); rintro e w' ⟨rfl, ⟨nd, rfl⟩⟩; refine ⟨_, rfl, ?_⟩) | ((with_reducible refine gate_callee (f := 47) rfl ?_); refine goesD (some 14) rfl rfl Try.func47 rfl #[.int .u64 a7, .int .u64 a4] rfl ?_; (with_reducible refine (bits_Mul64.calls a7 a4 a5 a3 _ A5.out).mono ?_); rintro e w' ⟨rfl, ⟨nd, rfl⟩⟩; refine ⟨_, rfl, ?_⟩)); (try simp only [Act.put, List.setIfInBounds_toArray, List.set_cons_zero, List.set_cons_succ]); go_cut [8] (fun v8 wc => ∃ (kq : Nat) (a8 : Bool), v8 = .bool a8 ∧ Aside0 (whole_Mul.j0 kq a5 a3 a8 = some (r1, r2)) ∧ Aside0 (kq ≤ k) ∧ Drawn0 w wc)
 case first =>
  have H := c0.out; clear c0
  by_cases c7 : ((decide (a0 < 0)) != (decide (a1 < 0))) = true
  ·rw [if_pos c7] at H; have b0 : ((decide (a0 < 0)) != (decide (a1 < 0))) = true := c7; (try (have c1 : decide ((decide (a0 < 0)) = (decide (a1 < 0))) = false := by simpa using c7)); (try (have c2 : ((decide (a0 < 0)) == (decide (a1 < 0))) = false := by simpa using c7)); (try (have c6 : ¬ ((decide (a0 < 0)) = (decide (a1 < 0))) := by simpa using c7)); clear c7; (first | rw [b0] | (simp only [i64_w, i32_w]; rw [b0]) | skip)
   by_cases c8 : a0 = 0
   ·rw [if_pos c8] at H; have c3 := beq_iff_eq.mpr c8; have c4 := bne_eq_false_iff_eq.mpr c8; clear c8; have H' := sk H; clear H; go_wp2; go_meet
    case rel => exact ⟨_, (false), (by first | rfl | (simp; done) | (simp [*]; done)), H', ⟨by first | omega | exact Nat.le_refl _⟩, by repeat (first | exact Drawn0.refl _ | apply Drawn0.step)⟩
   rw [if_neg c8] at H; have c3 := beq_eq_false_iff_ne.mpr c8; have c4 := bne_iff_ne.mpr c8; have H' := sk H; clear H; go_wp2; go_meet
   case rel => exact ⟨_, ((a1 != 0)), (by first | rfl | (simp; done) | (simp [*]; done)), H', ⟨by first | omega | exact Nat.le_refl _⟩, by repeat (first | exact Drawn0.refl _ | apply Drawn0.step)⟩
  rw [if_neg c7] at H; have b0 : ((decide (a0 < 0)) != (decide (a1 < 0))) = false := by simpa using c7
  (try (have c1 : decide ((decide (a0 < 0)) = (decide (a1 < 0))) = true := by simpa using c7)); (try (have c2 : ((decide (a0 < 0)) == (decide (a1 < 0))) = true := by simpa using c7)); clear c7; (first | rw [b0] | (simp only [i64_w, i32_w]; rw [b0]) | skip); have H' := sk H; clear H; go_wp2; go_meet
  case rel => exact ⟨_, (false), (by first | rfl | (simp; done) | (simp [*]; done)), H', ⟨by first | omega | exact Nat.le_refl _⟩, by repeat (first | exact Drawn0.refl _ | apply Drawn0.step)⟩
 clear c0; obtain ⟨kq, a8, rfl, HA, b7, ⟨d1, rfl⟩⟩ := hcut; cases kq with
 | zero => exact absurd HA.out (by simp [whole_Mul.j0])
 | succ c9 =>
  have H := HA.out; clear HA; simp only [whole_Mul.j0] at H; have c5 := sk H; clear H; go_upto_region 3 with (fail); go_cut [30] (fun d0 wc => ∃ (kq : Nat) (a9 : Bool), d0 = .bool a9 ∧ Aside0 (whole_Mul.j1 kq a3 a8 a9 = some (r1, r2)) ∧ Aside0 (kq ≤ c9) ∧ Drawn0 w wc)
  case first =>
   have H := c5.out; clear c5
   by_cases b2 : a5 > 0
   ·rw [if_pos b2] at H; have a6 : decide (0 < a5) = true := decide_eq_true b2; clear b2; (first | rw [a6] | (simp only [i64_w, i32_w]; rw [a6]) | skip); have H' := sk H; clear H; go_wp2; go_meet
    case rel => exact ⟨_, (true), (by first | rfl | (simp; done) | (simp [*]; done)), H', ⟨by have := b7.out; first | omega | exact Nat.le_refl _⟩, by repeat (first | exact Drawn0.refl _ | apply Drawn0.step)⟩
   rw [if_neg b2] at H; have a6 : decide (0 < a5) = false := decide_eq_false b2; clear b2; (first | rw [a6] | (simp only [i64_w, i32_w]; rw [a6]) | skip)
   by_cases b3 : a3 > 9223372036854775808
   ·rw [if_pos b3] at H; have b4 : decide (9223372036854775808 < a3) = true := decide_eq_true b3; clear b3; have H' := sk H; clear H; go_wp2; go_meet
    case rel => exact ⟨_, (true), (by first | rfl | (simp; done) | (simp [*]; done)), H', ⟨by have := b7.out; first | omega | exact Nat.le_refl _⟩, by repeat (first | exact Drawn0.refl _ | apply Drawn0.step)⟩
   rw [if_neg b3] at H; have b4 : decide (9223372036854775808 < a3) = false := decide_eq_false b3; clear b3
   by_cases b1 : a3 = 9223372036854775808
   ·rw [if_pos b1] at H; have b5 := beq_iff_eq.mpr b1; have b6 := bne_eq_false_iff_eq.mpr b1; clear b1; have H' := sk H; clear H; go_wp2; go_meet
    case rel => exact ⟨_, (!a8), (by first | rfl | (simp; done) | (simp [*]; done)), H', ⟨by have := b7.out; first | omega | exact Nat.le_refl _⟩, by repeat (first | exact Drawn0.refl _ | apply Drawn0.step)⟩
   rw [if_neg b1] at H; have b5 := beq_eq_false_iff_ne.mpr b1; have b6 := bne_iff_ne.mpr b1; have H' := sk H; clear H; go_wp2; go_meet
   case rel => exact ⟨_, (false), (by first | rfl | (simp; done) | (simp [*]; done)), H', ⟨by have := b7.out; first | omega | exact Nat.le_refl _⟩, by repeat (first | exact Drawn0.refl _ | apply Drawn0.step)⟩
  clear c5; obtain ⟨kq, a9, rfl, HA, d2, ⟨d3, rfl⟩⟩ := hcut; cases kq with
  | zero => exact absurd HA.out (by simp [whole_Mul.j1])
  | succ d4 =>
   have H := HA.out; clear HA; simp only [whole_Mul.j1] at H
   by_cases b8 : a9 = true
   ·subst b8; have H1 : (some (0, false)) = some (r1, r2) := by rw [if_pos rfl] at H; exact H
    clear H; have H := H1; clear H1; obtain ⟨rfl, rfl⟩ := jj2 H; go_wp2; go_ret2; exact f0
   replace b8 := Bool.eq_false_iff.mpr b8; subst b8; have H1 : (if a8 = true then (some (wrap64 (IntKind.u64.wrap (-a3)), true)) else (some (wrap64 (a3), true))) = some (r1, r2) := by rw [if_neg (show ¬ (false = true) by decide)] at H; exact H
   clear H; have H := H1; clear H1
   by_cases b9 : a8 = true
   ·subst b9; have H1 : (some (wrap64 (IntKind.u64.wrap (-a3)), true)) = some (r1, r2) := by rw [if_pos rfl] at H; exact H
    clear H; have H := H1; clear H1; obtain ⟨rfl, rfl⟩ := jj2 H; go_wp2; go_ret2; exact f0
   replace b9 := Bool.eq_false_iff.mpr b9; subst b9; have H1 : (some (wrap64 (a3), true)) = some (r1, r2) := by rw [if_neg (show ¬ (false = true) by decide)] at H; exact H
   clear H; have H := H1; clear H1; obtain ⟨rfl, rfl⟩ := jj2 H; go_wp2; go_ret2; exact f0

/-! ### whole_Add: function 46 -/
def whole_Add.f (a : Int) (b : Int) : Option (Int × Bool) := if ((decide (a < 0)) == (decide (b < 0))) = true then (if ((decide ((wrap64 (a + b)) < 0)) != (decide (a < 0))) = true then (some (0, false)) else (some (wrap64 (a + b), true))) else (some (wrap64 (a + b), true))
set_option maxHeartbeats 8000000 in
set_option maxRecDepth 100000 in
theorem whole_Add.calls (a0 : Int) (a1 : Int) (r1 : Int) (r2 : Bool) (w : World) (h : whole_Add.f a0 a1 = some (r1, r2)) :
 Calls Try.prog 46 #[.int .i64 a0, .int .i64 a1] w fun e w' => e = .returned (.tuple #[.int .i64 r1, .bool r2]) ∧ Drawn0 w w' := by
 have H : (if ((decide (a0 < 0)) == (decide (a1 < 0))) = true then (if ((decide ((wrap64 (a0 + a1)) < 0)) != (decide (a0 < 0))) = true then (some (0, false)) else (some (wrap64 (a0 + a1), true))) else (some (wrap64 (a0 + a1), true))) = some (r1, r2) := h; clear h
 by_cases c3 : ((decide (a0 < 0)) == (decide (a1 < 0))) = true
 ·rw [if_pos c3] at H; have a2 : ((decide (a0 < 0)) == (decide (a1 < 0))) = true := c3; (try (have a3 : decide ((decide (a0 < 0)) = (decide (a1 < 0))) = true := by simpa using c3)); (try (have a4 : ((decide (a0 < 0)) == (decide (a1 < 0))) = true := by simpa using c3)); clear c3
  by_cases c4 : ((decide ((wrap64 (a0 + a1)) < 0)) != (decide (a0 < 0))) = true
  ·rw [if_pos c4] at H; have a5 : ((decide ((wrap64 (a0 + a1)) < 0)) != (decide (a0 < 0))) = true := c4; (try (have a6 : decide ((decide ((wrap64 (a0 + a1)) < 0)) = (decide (a0 < 0))) = false := by simpa using c4)); (try (have a7 : ((decide ((wrap64 (a0 + a1)) < 0)) == (decide (a0 < 0))) = false := by simpa using c4)); (try (have a8 : ¬ ((decide ((wrap64 (a0 + a1)) < 0)) = (decide (a0 < 0))) := by simpa using c4)); clear c4; obtain ⟨rfl, rfl⟩ := jj2 H; go_enter Try.func46, Try.ntmps46; go_wp2; go_ret2; exact f0
  rw [if_neg c4] at H; have a5 : ((decide ((wrap64 (a0 + a1)) < 0)) != (decide (a0 < 0))) = false := by simpa using c4
  (try (have a6 : decide ((decide ((wrap64 (a0 + a1)) < 0)) = (decide (a0 < 0))) = true := by simpa using c4)); (try (have a7 : ((decide ((wrap64 (a0 + a1)) < 0)) == (decide (a0 < 0))) = true := by simpa using c4)); clear c4; obtain ⟨rfl, rfl⟩ := jj2 H; go_enter Try.func46, Try.ntmps46; go_wp2; go_ret2; exact f0
 rw [if_neg c3] at H; have a2 : ((decide (a0 < 0)) == (decide (a1 < 0))) = false := by simpa using c3
 (try (have a3 : decide ((decide (a0 < 0)) = (decide (a1 < 0))) = false := by simpa using c3)); (try (have a4 : ((decide (a0 < 0)) == (decide (a1 < 0))) = false := by simpa using c3)); (try (have a9 : ¬ ((decide (a0 < 0)) = (decide (a1 < 0))) := by simpa using c3)); clear c3; obtain ⟨rfl, rfl⟩ := jj2 H; go_enter Try.func46, Try.ntmps46; go_wp2; go_ret2; exact f0

/-! ### whole_Dot: function 44 -/
def whole_Dot.l0 : Nat → List Int → List Int → Int → Int → Int → Option (Int × Bool)
 | 0, _, _, _, _, _ => none
 | k + 1, e, f, g, d, a => if a < d then (if 0 ≤ a then (if a < (e.length : Int) then (if a < (f.length : Int) then ((whole_Mul.f k (rd e a) (rd f a)).bind fun b => ((whole_Add.f g b.1).bind fun c => (if b.2 = true then (if c.2 = true then (whole_Dot.l0 k e f c.1 d (wrap64 (a + 1))) else (some (0, false))) else (some (0, false))))) else (none)) else (none)) else (none)) else (some (g, true))
def whole_Dot.f (k : Nat) (a : List Int) (b : List Int) : Option (Int × Bool) := whole_Dot.l0 k a b 0 (mn (a.length : Int) (b.length : Int)) 0
theorem whole_Dot.mono_l : ∀ k, (∀ y0 y1 y2 y3 y4, LeO (whole_Dot.l0 k y0 y1 y2 y3 y4) (whole_Dot.l0 (k + 1) y0 y1 y2 y3 y4))
 | 0 => fun _ _ _ _ _ r h => by simp [whole_Dot.l0] at h
 | k + 1 => by
   have ih0 := whole_Dot.mono_l k
   intros; unfold whole_Dot.l0; repeat' with_reducible first | apply ih0 | apply whole_Mul.mono | apply LeO.refl | apply LeO.none | refine LeO.ite ?_ ?_ | refine LeO.bind ?_ fun _ => ?_
theorem whole_Dot.mono : ∀ a0 a1 k, LeO (whole_Dot.f k a0 a1) (whole_Dot.f (k + 1) a0 a1) := by
 intro a0 a1 k
 have ih0 := whole_Dot.mono_l k
 unfold whole_Dot.f
 repeat' with_reducible first | apply ih0 | apply whole_Mul.mono | apply LeO.refl | apply LeO.none | refine LeO.ite ?_ ?_ | refine LeO.bind ?_ fun _ => ?_
set_option maxHeartbeats 8000000 in
set_option maxRecDepth 100000 in
theorem whole_Dot.calls (k : Nat) (A0 : Option Addr) (c0 : Nat) (l0 : List Int) (A1 : Option Addr) (c1 : Nat) (l1 : List Int) (r1 : Int) (r2 : Bool) (w : World) (hr0 : Kd.C (Kd.int .i64) w A0 l0.length l0) (hc0 : l0.length ≤ c0) (hr1 : Kd.C (Kd.int .i64) w A1 l1.length l1) (hc1 : l1.length ≤ c1) (h : whole_Dot.f k l0 l1 = some (r1, r2)) :
 Calls Try.prog 44 #[.slice A0 l0.length c0, .slice A1 l1.length c1] w fun e w' => e = .returned (.tuple #[.int .i64 r1, .bool r2]) ∧ Below w.heap.size w w' := by
 have c8 := sk hr0; have d9 := sk hc0; clear hr0 hc0; have c9 := sk hr1; have e0 := sk hc1; clear hr1 hc1; have HB := sk (Below.refl w.heap.size w); have H : (whole_Dot.l0 k l0 l1 0 (mn (l0.length : Int) (l1.length : Int)) 0) = some (r1, r2) := h; clear h; obtain ⟨b1, b0⟩ : ∃ j_ : Int, (mn (l0.length : Int) (l1.length : Int)) = j_ := ⟨_, rfl⟩; replace H : (whole_Dot.l0 k l0 l1 0 b1 0) = some (r1, r2) := by first | (rw [b0] at H; exact H) | (simp only [b0] at H ⊢; exact H)
 (try (have d1 : 0 ≤ b1 := by (rw [← b0]; unfold mn; (repeat' split) <;> omega))); (try (have d2 : 0 ≤ b1 := by omega)); have b9 : (if (l1.length : Int) < (l0.length : Int) then (l1.length : Int) else (l0.length : Int)) = b1 := b0; have d3 : (if l1.length < l0.length then (l1.length : Int) else (l0.length : Int)) = b1 := by simpa only [Int.ofNat_lt] using b9
 have H' := sk H; clear H; go_enter Try.func44, Try.ntmps44; go_wp2
 repeat (go_quiet (fail); try go_wp2)
 go_loopg [6, 17] k (fun kq v6 d5 w' => ∃ (a8 : Int) (a0 : Int), v6 = .int .i64 a8 ∧ d5 = .int .i64 a0 ∧ Aside0 (whole_Dot.l0 kq l0 l1 a8 b1 a0 = some (r1, r2)) ∧ Aside0 (kq ≤ k) ∧ Aside0 (Below w.heap.size w w'))
 case atStart => exact ⟨(0), (0), (by first | rfl | (simp; done) | (simp [*]; done)), (by first | rfl | (simp; done) | (simp [*]; done)), H', ⟨Nat.le_refl _⟩, ⟨hbq HB.out⟩⟩
 clear H'; obtain ⟨a8, a0, rfl, rfl, HA, d4, HB⟩ := hrel; cases gk with
 | zero => exact absurd HA.out (by simp [whole_Dot.l0])
 | succ k1 =>
  have H := HA.out; clear HA; simp only [whole_Dot.l0] at H
  by_cases c4 : a0 < b1
  ·rw [if_pos c4] at H; have d0 := decide_eq_true c4; clear c4
   by_cases c5 : 0 ≤ a0
   case neg => rw [if_neg c5] at H; exact nn H
   rw [if_pos c5] at H; have d6 := decide_eq_true c5; clear c5
   by_cases c6 : a0 < (l0.length : Int)
   case neg => rw [if_neg c6] at H; exact nn H
   rw [if_pos c6] at H; have d7 := decide_eq_true c6; clear c6
   by_cases c7 : a0 < (l1.length : Int)
   case neg => rw [if_neg c7] at H; exact nn H
   rw [if_pos c7] at H; have d8 := decide_eq_true c7; clear c7; obtain ⟨⟨a3, b8⟩, A8, H⟩ := bi H; replace H : ((whole_Add.f a8 a3).bind fun b5 => (if b8 = true then (if b5.2 = true then (whole_Dot.l0 k1 l0 l1 b5.1 b1 (wrap64 (a0 + 1))) else (some (0, false))) else (some (0, false)))) = some (r1, r2) := H; obtain ⟨⟨a9, b2⟩, A9, H⟩ := bi H; replace H : (if b8 = true then (if b2 = true then (whole_Dot.l0 k1 l0 l1 a9 b1 (wrap64 (a0 + 1))) else (some (0, false))) else (some (0, false))) = some (r1, r2) := H
   by_cases c2 : b8 = true
   ·subst c2; have H1 : (if b2 = true then (whole_Dot.l0 k1 l0 l1 a9 b1 (wrap64 (a0 + 1))) else (some (0, false))) = some (r1, r2) := by rw [if_pos rfl] at H; exact H
    clear H; have H := H1; clear H1
    by_cases c3 : b2 = true
    ·subst c3; have H1 : (whole_Dot.l0 k1 l0 l1 a9 b1 (wrap64 (a0 + 1))) = some (r1, r2) := by rw [if_pos rfl] at H; exact H
     clear H; have H := H1; clear H1; have H' := sk H; clear H; have a4 : 0 ≤ (a0 : Int) := oa; have a5 : a0 < (l0.length : Int) := oa; obtain ⟨b6, b3, a1⟩ := Kd.at_int c8.out a0 a4 a5; cases b3; replace a1 := hbc HB.out a1; replace a4 := eq_true a4; replace a5 := eq_true a5; have a6 : 0 ≤ (a0 : Int) := oa; have a7 : a0 < (l1.length : Int) := oa; obtain ⟨b7, b4, a2⟩ := Kd.at_int c9.out a0 a6 a7; cases b4; replace a2 := hbc HB.out a2; replace a6 := eq_true a6; replace a7 := eq_true a7
     iterate 3 ((try go_quiet (first | (go_at_call 45; (with_reducible refine (whole_Mul.calls k1 (rd l0 a0) (rd l1 a0) a3 true _ A8.out).mono ?_); rintro e w' ⟨rfl, ⟨nd, rfl⟩⟩; (try exact dr2)) | (go_at_call 46; (with_reducible refine (whole_Add.calls a8 a3 a9 true _ A9.out).mono ?_); rintro e w' ⟨rfl, ⟨nd, rfl⟩⟩; (try exact dr2)))); go_wp2_with (first | (go_at_call 45; (with_reducible refine (whole_Mul.calls k1 (rd l0 a0) (rd l1 a0) a3 true _ A8.out).mono ?_); rintro e w' ⟨rfl, ⟨nd, rfl⟩⟩; (try exact dr2)) | (go_at_call 46; (with_reducible refine (whole_Add.calls a8 a3 a9 true _ A9.out).mono ?_); rintro e w' ⟨rfl, ⟨nd, rfl⟩⟩; (try exact dr2))))
     go_roundg k1
     case measure => have := d4.out; omega
     case rel => exact ⟨(a9), (wrap64 (a0 + 1)), (by first | rfl | (simp; done) | (simp [*]; done)), (by first | rfl | (simp; done) | (simp [*]; done)), H', ⟨by have := d4.out; omega⟩, ⟨hbq HB.out⟩⟩
    replace c3 := Bool.eq_false_iff.mpr c3; subst c3; have H1 : (some (0, false)) = some (r1, r2) := by rw [if_neg (show ¬ (false = true) by decide)] at H; exact H
    clear H; have H := H1; clear H1; obtain ⟨rfl, rfl⟩ := jj2 H; have a4 : 0 ≤ (a0 : Int) := oa; have a5 : a0 < (l0.length : Int) := oa; obtain ⟨b6, b3, a1⟩ := Kd.at_int c8.out a0 a4 a5; cases b3; replace a1 := hbc HB.out a1; replace a4 := eq_true a4; replace a5 := eq_true a5; have a6 : 0 ≤ (a0 : Int) := oa; have a7 : a0 < (l1.length : Int) := oa; obtain ⟨b7, b4, a2⟩ := Kd.at_int c9.out a0 a6 a7; cases b4; replace a2 := hbc HB.out a2; replace a6 := eq_true a6; replace a7 := eq_true a7
    iterate 3 ((try go_quiet (first | (go_at_call 45; (with_reducible refine (whole_Mul.calls k1 (rd l0 a0) (rd l1 a0) a3 true _ A8.out).mono ?_); rintro e w' ⟨rfl, ⟨nd, rfl⟩⟩; (try exact dr2)) | (go_at_call 46; (with_reducible refine (whole_Add.calls a8 a3 a9 false _ A9.out).mono ?_); rintro e w' ⟨rfl, ⟨nd, rfl⟩⟩; (try exact dr2)))); go_wp2_with (first | (go_at_call 45; (with_reducible refine (whole_Mul.calls k1 (rd l0 a0) (rd l1 a0) a3 true _ A8.out).mono ?_); rintro e w' ⟨rfl, ⟨nd, rfl⟩⟩; (try exact dr2)) | (go_at_call 46; (with_reducible refine (whole_Add.calls a8 a3 a9 false _ A9.out).mono ?_); rintro e w' ⟨rfl, ⟨nd, rfl⟩⟩; (try exact dr2))))
    go_ret2; exact ⟨by first | rfl | (simp [errW_none, errW_some] <;> rfl) | (simp only [← b0]; first | rfl | (simp [errW_none, errW_some] <;> rfl)) | (simp [*, errW_none, errW_some] <;> rfl), hbq HB.out⟩
   replace c2 := Bool.eq_false_iff.mpr c2; subst c2; have H1 : (some (0, false)) = some (r1, r2) := by rw [if_neg (show ¬ (false = true) by decide)] at H; exact H
   clear H; have H := H1; clear H1; obtain ⟨rfl, rfl⟩ := jj2 H; have a4 : 0 ≤ (a0 : Int) := oa; have a5 : a0 < (l0.length : Int) := oa; obtain ⟨b6, b3, a1⟩ := Kd.at_int c8.out a0 a4 a5; cases b3; replace a1 := hbc HB.out a1; replace a4 := eq_true a4; replace a5 := eq_true a5; have a6 : 0 ≤ (a0 : Int) := oa; have a7 : a0 < (l1.length : Int) := oa; obtain ⟨b7, b4, a2⟩ := Kd.at_int c9.out a0 a6 a7; cases b4; replace a2 := hbc HB.out a2; replace a6 := eq_true a6; replace a7 := eq_true a7
   iterate 3 ((try go_quiet (first | (go_at_call 45; (with_reducible refine (whole_Mul.calls k1 (rd l0 a0) (rd l1 a0) a3 false _ A8.out).mono ?_); rintro e w' ⟨rfl, ⟨nd, rfl⟩⟩; (try exact dr2)) | (go_at_call 46; (with_reducible refine (whole_Add.calls a8 a3 a9 b2 _ A9.out).mono ?_); rintro e w' ⟨rfl, ⟨nd, rfl⟩⟩; (try exact dr2)))); go_wp2_with (first | (go_at_call 45; (with_reducible refine (whole_Mul.calls k1 (rd l0 a0) (rd l1 a0) a3 false _ A8.out).mono ?_); rintro e w' ⟨rfl, ⟨nd, rfl⟩⟩; (try exact dr2)) | (go_at_call 46; (with_reducible refine (whole_Add.calls a8 a3 a9 b2 _ A9.out).mono ?_); rintro e w' ⟨rfl, ⟨nd, rfl⟩⟩; (try exact dr2))))
   go_ret2; exact ⟨by first | rfl | (simp [errW_none, errW_some] <;> rfl) | (simp only [← b0]; first | rfl | (simp [errW_none, errW_some] <;> rfl)) | (simp [*, errW_none, errW_some] <;> rfl), hbq HB.out⟩
  rw [if_neg c4] at H; have d0 := decide_eq_false c4; clear c4; obtain ⟨rfl, rfl⟩ := jj2 H; go_wp2
  repeat (go_quiet (fail); try go_wp2)
  go_ret2; exact ⟨by first | rfl | (simp [errW_none, errW_some] <;> rfl) | (simp only [← b0]; first | rfl | (simp [errW_none, errW_some] <;> rfl)) | (simp [*, errW_none, errW_some] <;> rfl), hbq HB.out⟩

end Go.Proofs.Ytifbflpaednfnaa.PBasisNets
