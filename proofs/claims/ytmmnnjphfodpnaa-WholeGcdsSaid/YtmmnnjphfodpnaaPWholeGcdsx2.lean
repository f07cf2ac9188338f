/- What the functions that this law reaches answer, in whatever memory, and the row of the law; no condition. Written by a program of this session (mk.sh). -/
import Derived.Test.YtmmnnjphfodpnaaPWholeGcdsx0
import Derived.Test.YtmmnnjphfodpnaaPWholeGcdsx1
namespace Go.Proofs.Ytmmnnjphfodpnaa.PWholeGcds
open Go.RowKit Go.Proofs.YtmmnnjphfodpnaaW.PrintWords Go.Proofs.YtmmnnjphfodpnaaW.PrintLast Go.Proofs.YtmmnnjphfodpnaaW.PrintMore
attribute [local go_sem] max2_int min2_int max_two min_two max_three min_three max_four min_four   -- for this text's walks alone
set_option linter.unusedVariables false
set_option linter.unusedSimpArgs false

/-! ### marblerunlaw01_WholeGcds: function 3 -/
def marblerunlaw01_WholeGcds.j0 : Nat → Int → Int → Int → Int → Bool → Option (Bool)
  | 0, _, _, _, _, _ => none
  | k + 1, x0, x1, x2, x7, x27 => if x27 = true then (some false) else (if x7 = 0 then ((marblerunlaw01_awake.f k).bind fun t124 => (if t124 = true then (if x0 = 0 then (some (x1 == 0)) else (some false)) else (some false))) else ((marblerunlaw01_awake.f k).bind fun t125 => (if t125 = true then (if x7 > 0 then (if (Int.tmod x0 x7) = 0 then (if (Int.tmod x1 x7) = 0 then (if (wrap64 (2 + (wrap64 (Int.tmod (IntKind.u64.wrap (x2)) 1000)))) = 0 then (none) else (if (Int.tmod (wrap64 (Int.tdiv x0 x7)) (wrap64 (2 + (wrap64 (Int.tmod (IntKind.u64.wrap (x2)) 1000))))) = 0 then (some ((Int.tmod (wrap64 (Int.tdiv x1 x7)) (wrap64 (2 + (wrap64 (Int.tmod (IntKind.u64.wrap (x2)) 1000))))) != 0)) else (some true))) else (some false)) else (some false)) else (some false)) else (some false))))
def marblerunlaw01_WholeGcds.f (k : Nat) (a0 : Int) (a1 : Int) (a2 : Int) : Option (Bool) := (marblerunlaw01_above.f a0).bind fun t119 => ((marblerunlaw01_above.f a1).bind fun t120 => ((whole_Gcd.f k t119 t120).bind fun t121 => ((marblerunref01_Gcd.f k t119 t120).bind fun t122 => (if t121 = t122 then ((whole_Gcd.f k t120 t119).bind fun t123 => (marblerunlaw01_WholeGcds.j0 k t119 t120 a2 t121 (t121 != t123))) else (marblerunlaw01_WholeGcds.j0 k t119 t120 a2 t121 true)))))
theorem marblerunlaw01_WholeGcds.mono_l : ∀ k, (∀ y0 y1 y2 y3 y4, LeO (marblerunlaw01_WholeGcds.j0 k y0 y1 y2 y3 y4) (marblerunlaw01_WholeGcds.j0 (k + 1) y0 y1 y2 y3 y4))
  | 0 => fun _ _ _ _ _ r h => by simp [marblerunlaw01_WholeGcds.j0] at h
  | k + 1 => by
    have ih0 := marblerunlaw01_WholeGcds.mono_l k
    · intro y0 y1 y2 y3 y4
      unfold marblerunlaw01_WholeGcds.j0
      repeat' first
      | (with_reducible exact ih0 _ _ _ _ _)
      | (with_reducible exact marblerunlaw01_awake.mono _)
      | (with_reducible exact marblerunref01_Gcd.mono _ _ _)
      | (with_reducible exact whole_Gcd.mono _ _ _)
      | (with_reducible exact LeO.refl _)
      | (with_reducible exact LeO.none _)
      | (with_reducible refine LeO.ite ?_ ?_)
      | (with_reducible refine LeO.bind ?_ (fun _ => ?_))
      | exact ih0 _ _ _ _ _
      | exact marblerunlaw01_awake.mono _
      | exact marblerunref01_Gcd.mono _ _ _
      | exact whole_Gcd.mono _ _ _
      | exact LeO.none _
      | refine LeO.ite ?_ ?_
      | refine LeO.bind ?_ (fun _ => ?_)
theorem marblerunlaw01_WholeGcds.mono : ∀ a0 a1 a2 k, LeO (marblerunlaw01_WholeGcds.f k a0 a1 a2) (marblerunlaw01_WholeGcds.f (k + 1) a0 a1 a2) := by
  intro a0 a1 a2 k
  have ih0 := marblerunlaw01_WholeGcds.mono_l k
  unfold marblerunlaw01_WholeGcds.f
  repeat' first
      | (with_reducible exact ih0 _ _ _ _ _)
      | (with_reducible exact marblerunlaw01_awake.mono _)
      | (with_reducible exact marblerunref01_Gcd.mono _ _ _)
      | (with_reducible exact whole_Gcd.mono _ _ _)
      | (with_reducible exact LeO.refl _)
      | (with_reducible exact LeO.none _)
      | (with_reducible refine LeO.ite ?_ ?_)
      | (with_reducible refine LeO.bind ?_ (fun _ => ?_))
      | exact ih0 _ _ _ _ _
      | exact marblerunlaw01_awake.mono _
      | exact marblerunref01_Gcd.mono _ _ _
      | exact whole_Gcd.mono _ _ _
      | exact LeO.none _
      | refine LeO.ite ?_ ?_
      | refine LeO.bind ?_ (fun _ => ?_)
set_option maxHeartbeats 8000000 in
set_option maxRecDepth 100000 in
theorem marblerunlaw01_WholeGcds.calls (k : Nat) (a0 : Int) (a1 : Int) (a2 : Int) (r : Bool) (w : World) (h : marblerunlaw01_WholeGcds.f k a0 a1 a2 = some r) :
    Calls Try.prog 3 #[.int .i64 a0, .int .i64 a1, .int .i64 a2] w fun e w' => e = .returned (.bool r) ∧ Below w.heap.size w w' := by
  have HB := Aside0.mk (Below.refl w.heap.size w)
  have H : ((marblerunlaw01_above.f a0).bind fun t119 => ((marblerunlaw01_above.f a1).bind fun t120 => ((whole_Gcd.f k t119 t120).bind fun t121 => ((marblerunref01_Gcd.f k t119 t120).bind fun t122 => (if t121 = t122 then ((whole_Gcd.f k t120 t119).bind fun t123 => (marblerunlaw01_WholeGcds.j0 k t119 t120 a2 t121 (t121 != t123))) else (marblerunlaw01_WholeGcds.j0 k t119 t120 a2 t121 true)))))) = some r := h
  clear h
  replace H := Option.bind_eq_some_iff.mp H
  obtain ⟨t119, A40, H⟩ := H
  replace H : ((marblerunlaw01_above.f a1).bind fun t120 => ((whole_Gcd.f k t119 t120).bind fun t121 => ((marblerunref01_Gcd.f k t119 t120).bind fun t122 => (if t121 = t122 then ((whole_Gcd.f k t120 t119).bind fun t123 => (marblerunlaw01_WholeGcds.j0 k t119 t120 a2 t121 (t121 != t123))) else (marblerunlaw01_WholeGcds.j0 k t119 t120 a2 t121 true))))) = some r := H
  have A4 := Aside0.mk A40
  clear A40
  replace H := Option.bind_eq_some_iff.mp H
  obtain ⟨t120, A50, H⟩ := H
  replace H : ((whole_Gcd.f k t119 t120).bind fun t121 => ((marblerunref01_Gcd.f k t119 t120).bind fun t122 => (if t121 = t122 then ((whole_Gcd.f k t120 t119).bind fun t123 => (marblerunlaw01_WholeGcds.j0 k t119 t120 a2 t121 (t121 != t123))) else (marblerunlaw01_WholeGcds.j0 k t119 t120 a2 t121 true)))) = some r := H
  have A5 := Aside0.mk A50
  clear A50
  replace H := Option.bind_eq_some_iff.mp H
  obtain ⟨t121, A60, H⟩ := H
  replace H : ((marblerunref01_Gcd.f k t119 t120).bind fun t122 => (if t121 = t122 then ((whole_Gcd.f k t120 t119).bind fun t123 => (marblerunlaw01_WholeGcds.j0 k t119 t120 a2 t121 (t121 != t123))) else (marblerunlaw01_WholeGcds.j0 k t119 t120 a2 t121 true))) = some r := H
  have A6 := Aside0.mk A60
  clear A60
  have HC7 := Aside0.mk H
  clear H
  go_enter Try.func3, Try.ntmps3
  go_upto_region 4 with (first | ((with_reducible refine gate_callee (f := 12) rfl ?_); refine goesL_ (some 10) rfl rfl Try.func12 (by kernel_rfl) rfl #[.int .i64 a0] rfl (by (try simp only [List.map_toArray, List.map_cons, List.map_nil]); first | done | rfl | (simp only [List.length_drop, List.length_take]; rfl)) ?_; (with_reducible refine (marblerunlaw01_above.calls a0 t119 _ A4.out).mono ?_); rintro e w' ⟨rfl, ⟨nd, rfl⟩⟩; refine ⟨_, rfl, ?_⟩) | ((with_reducible refine gate_callee (f := 12) rfl ?_); refine goesL_ (some 12) rfl rfl Try.func12 (by kernel_rfl) rfl #[.int .i64 a1] rfl (by (try simp only [List.map_toArray, List.map_cons, List.map_nil]); first | done | rfl | (simp only [List.length_drop, List.length_take]; rfl)) ?_; (with_reducible refine (marblerunlaw01_above.calls a1 t120 _ A5.out).mono ?_); rintro e w' ⟨rfl, ⟨nd, rfl⟩⟩; refine ⟨_, rfl, ?_⟩) | ((with_reducible refine gate_callee (f := 13) rfl ?_); refine goesL_ (some 15) rfl rfl Try.func13 (by kernel_rfl) rfl #[.int .i64 t119, .int .i64 t120] rfl (by (try simp only [List.map_toArray, List.map_cons, List.map_nil]); first | done | rfl | (simp only [List.length_drop, List.length_take]; rfl)) ?_; (with_reducible refine (whole_Gcd.calls k t119 t120 t121 _ A6.out).mono ?_); rintro e w' ⟨rfl, ⟨nd, rfl⟩⟩; refine ⟨_, rfl, ?_⟩))
  (try simp only [Act.put, List.setIfInBounds_toArray, List.set_cons_zero, List.set_cons_succ])
  go_cut [27] (fun v27 wc => ∃ (kq : Nat) (x27_6 : Bool), v27 = .bool x27_6 ∧ Aside0 (marblerunlaw01_WholeGcds.j0 kq t119 t120 a2 t121 x27_6 = some r) ∧ Aside0 (kq ≤ k) ∧ Aside0 (Below w.heap.size w wc))
  case first =>
    have H := HC7.out
    clear HC7
    replace H := Option.bind_eq_some_iff.mp H
    obtain ⟨t122, A80, H⟩ := H
    replace H : (if t121 = t122 then ((whole_Gcd.f k t120 t119).bind fun t123 => (marblerunlaw01_WholeGcds.j0 k t119 t120 a2 t121 (t121 != t123))) else (marblerunlaw01_WholeGcds.j0 k t119 t120 a2 t121 true)) = some r := H
    have A8 := Aside0.mk A80
    clear A80
    by_cases c9 : t121 = t122
    · rw [if_pos c9] at H
      have c9b0 : (t121 == t122) = true := beq_iff_eq.mpr c9
      have c9b1 : (t121 != t122) = false := bne_eq_false_iff_eq.mpr c9
      clear c9
      (first | rw [c9b0] | (simp only [i64_w, i32_w]; rw [c9b0]) | skip)
      replace H := Option.bind_eq_some_iff.mp H
      obtain ⟨t123, A100, H⟩ := H
      replace H : (marblerunlaw01_WholeGcds.j0 k t119 t120 a2 t121 (t121 != t123)) = some r := H
      have A10 := Aside0.mk A100
      clear A100
      have H' := Aside0.mk H
      clear H
      go_wp2_with (first | ((with_reducible refine gate_callee (f := 14) rfl ?_); refine goesL_ (some 19) rfl rfl Try.func14 (by kernel_rfl) rfl #[.int .i64 t119, .int .i64 t120] rfl (by (try simp only [List.map_toArray, List.map_cons, List.map_nil]); first | done | rfl | (simp only [List.length_drop, List.length_take]; rfl)) ?_; (with_reducible refine (marblerunref01_Gcd.calls k t119 t120 t122 _ A8.out).mono ?_); rintro e w' ⟨rfl, ⟨nd, rfl⟩⟩; refine ⟨_, rfl, ?_⟩) | (go_at_call 13; (with_reducible refine (whole_Gcd.calls k t120 t119 t123 _ A10.out).mono ?_); rintro e w' ⟨rfl, ⟨nd, rfl⟩⟩))
      go_meet
      case rel => exact ⟨_, ((t121 != t123)), (by first | rfl | (simp; done) | (simp [*]; done)), H', ⟨by first | omega | exact Nat.le_refl _⟩, ⟨by repeat (first | (with_reducible first | exact HB.out | apply below_alloc | apply pw_below_drewN | apply below_drew1) | exact HB.out)⟩⟩
    · rw [if_neg c9] at H
      have c9b0 : (t121 == t122) = false := beq_eq_false_iff_ne.mpr c9
      have c9b1 : (t121 != t122) = true := bne_iff_ne.mpr c9
      (first | rw [c9b0] | (simp only [i64_w, i32_w]; rw [c9b0]) | skip)
      have H' := Aside0.mk H
      clear H
      go_wp2_with (first | ((with_reducible refine gate_callee (f := 14) rfl ?_); refine goesL_ (some 19) rfl rfl Try.func14 (by kernel_rfl) rfl #[.int .i64 t119, .int .i64 t120] rfl (by (try simp only [List.map_toArray, List.map_cons, List.map_nil]); first | done | rfl | (simp only [List.length_drop, List.length_take]; rfl)) ?_; (with_reducible refine (marblerunref01_Gcd.calls k t119 t120 t122 _ A8.out).mono ?_); rintro e w' ⟨rfl, ⟨nd, rfl⟩⟩; refine ⟨_, rfl, ?_⟩))
      go_meet
      case rel => exact ⟨_, (true), (by first | rfl | (simp; done) | (simp [*]; done)), H', ⟨by first | omega | exact Nat.le_refl _⟩, ⟨by repeat (first | (with_reducible first | exact HB.out | apply below_alloc | apply pw_below_drewN | apply below_drew1) | exact HB.out)⟩⟩
  case rest =>
    clear HC7
    try clear c1
    try clear p2
    try clear c3
    try clear c9
    try clear c9b0
    try clear c9b1
    obtain ⟨kq, x27_6, rfl, HA, HJ6, HB⟩ := hcut
    cases kq with
    | zero => exact absurd HA.out (by simp [marblerunlaw01_WholeGcds.j0])
    | succ kj6 =>
      have H := HA.out
      clear HA
      simp only [marblerunlaw01_WholeGcds.j0] at H
      by_cases c11 : x27_6 = true
      · subst c11
        have H1 : (some false) = some r := by rw [if_pos rfl] at H; exact H
        clear H
        have H := H1
        clear H1
        obtain rfl := Option.some.inj H
        go_wp2
        go_ret
        exact ⟨by first | rfl | (simp [errW_none, errW_some] <;> rfl) | (simp [*, errW_none, errW_some] <;> rfl), by repeat (first | (with_reducible first | exact HB.out | apply below_alloc | apply pw_below_drewN | apply below_drew1) | exact HB.out)⟩
      · replace c11 := Bool.eq_false_iff.mpr c11
        subst c11
        have H1 : (if t121 = 0 then ((marblerunlaw01_awake.f kj6).bind fun t124 => (if t124 = true then (if t119 = 0 then (some (t120 == 0)) else (some false)) else (some false))) else ((marblerunlaw01_awake.f kj6).bind fun t125 => (if t125 = true then (if t121 > 0 then (if (Int.tmod t119 t121) = 0 then (if (Int.tmod t120 t121) = 0 then (if (wrap64 (2 + (wrap64 (Int.tmod (IntKind.u64.wrap (a2)) 1000)))) = 0 then (none) else (if (Int.tmod (wrap64 (Int.tdiv t119 t121)) (wrap64 (2 + (wrap64 (Int.tmod (IntKind.u64.wrap (a2)) 1000))))) = 0 then (some ((Int.tmod (wrap64 (Int.tdiv t120 t121)) (wrap64 (2 + (wrap64 (Int.tmod (IntKind.u64.wrap (a2)) 1000))))) != 0)) else (some true))) else (some false)) else (some false)) else (some false)) else (some false)))) = some r := by rw [if_neg (show ¬ (false = true) by decide)] at H; exact H
        clear H
        have H := H1
        clear H1
        by_cases c12 : t121 = 0
        · rw [if_pos c12] at H
          have c12b0 : (t121 == 0) = true := beq_iff_eq.mpr c12
          have c12b1 : (t121 != 0) = false := bne_eq_false_iff_eq.mpr c12
          clear c12
          replace H := Option.bind_eq_some_iff.mp H
          obtain ⟨t124, A130, H⟩ := H
          replace H : (if t124 = true then (if t119 = 0 then (some (t120 == 0)) else (some false)) else (some false)) = some r := H
          have A13 := Aside0.mk A130
          clear A130
          by_cases c14 : t124 = true
          · subst c14
            have H1 : (if t119 = 0 then (some (t120 == 0)) else (some false)) = some r := by rw [if_pos rfl] at H; exact H
            clear H
            have H := H1
            clear H1
            by_cases c15 : t119 = 0
            · rw [if_pos c15] at H
              have c15b0 : (t119 == 0) = true := beq_iff_eq.mpr c15
              have c15b1 : (t119 != 0) = false := bne_eq_false_iff_eq.mpr c15
              clear c15
              obtain rfl := Option.some.inj H
              go_wp2_with (first | ((with_reducible refine gate_callee (f := 15) rfl ?_); refine goesL_ (some 30) rfl rfl Try.func15 (by kernel_rfl) rfl #[] rfl (by (try simp only [List.map_toArray, List.map_cons, List.map_nil]); first | done | rfl | (simp only [List.length_drop, List.length_take]; rfl)) ?_; (with_reducible refine (marblerunlaw01_awake.calls kj6  true _ A13.out).mono ?_); rintro e w16 ⟨rfl, hb⟩; refine ⟨_, rfl, ?_⟩; have n0_ := Aside0.mk (below_step (by repeat (first | (with_reducible first | exact HB.out | apply below_alloc | apply pw_below_drewN | apply below_drew1) | exact HB.out)) hb); clear HB; have HB := n0_; clear n0_; (try clear hb); (try clear hb2); (try clear hk); (try clear hi)))
              go_ret
              exact ⟨by first | rfl | (simp [errW_none, errW_some] <;> rfl) | (simp [*, errW_none, errW_some] <;> rfl), by repeat (first | (with_reducible first | exact HB.out | apply below_alloc | apply pw_below_drewN | apply below_drew1) | exact HB.out)⟩
            · rw [if_neg c15] at H
              have c15b0 : (t119 == 0) = false := beq_eq_false_iff_ne.mpr c15
              have c15b1 : (t119 != 0) = true := bne_iff_ne.mpr c15
              obtain rfl := Option.some.inj H
              go_wp2_with (first | ((with_reducible refine gate_callee (f := 15) rfl ?_); refine goesL_ (some 30) rfl rfl Try.func15 (by kernel_rfl) rfl #[] rfl (by (try simp only [List.map_toArray, List.map_cons, List.map_nil]); first | done | rfl | (simp only [List.length_drop, List.length_take]; rfl)) ?_; (with_reducible refine (marblerunlaw01_awake.calls kj6  true _ A13.out).mono ?_); rintro e w17 ⟨rfl, hb⟩; refine ⟨_, rfl, ?_⟩; have n0_ := Aside0.mk (below_step (by repeat (first | (with_reducible first | exact HB.out | apply below_alloc | apply pw_below_drewN | apply below_drew1) | exact HB.out)) hb); clear HB; have HB := n0_; clear n0_; (try clear hb); (try clear hb2); (try clear hk); (try clear hi)))
              go_ret
              exact ⟨by first | rfl | (simp [errW_none, errW_some] <;> rfl) | (simp [*, errW_none, errW_some] <;> rfl), by repeat (first | (with_reducible first | exact HB.out | apply below_alloc | apply pw_below_drewN | apply below_drew1) | exact HB.out)⟩
          · replace c14 := Bool.eq_false_iff.mpr c14
            subst c14
            have H1 : (some false) = some r := by rw [if_neg (show ¬ (false = true) by decide)] at H; exact H
            clear H
            have H := H1
            clear H1
            obtain rfl := Option.some.inj H
            go_wp2_with (first | ((with_reducible refine gate_callee (f := 15) rfl ?_); refine goesL_ (some 30) rfl rfl Try.func15 (by kernel_rfl) rfl #[] rfl (by (try simp only [List.map_toArray, List.map_cons, List.map_nil]); first | done | rfl | (simp only [List.length_drop, List.length_take]; rfl)) ?_; (with_reducible refine (marblerunlaw01_awake.calls kj6  false _ A13.out).mono ?_); rintro e w18 ⟨rfl, hb⟩; refine ⟨_, rfl, ?_⟩; have n0_ := Aside0.mk (below_step (by repeat (first | (with_reducible first | exact HB.out | apply below_alloc | apply pw_below_drewN | apply below_drew1) | exact HB.out)) hb); clear HB; have HB := n0_; clear n0_; (try clear hb); (try clear hb2); (try clear hk); (try clear hi)))
            go_ret
            exact ⟨by first | rfl | (simp [errW_none, errW_some] <;> rfl) | (simp [*, errW_none, errW_some] <;> rfl), by repeat (first | (with_reducible first | exact HB.out | apply below_alloc | apply pw_below_drewN | apply below_drew1) | exact HB.out)⟩
        · rw [if_neg c12] at H
          have c12b0 : (t121 == 0) = false := beq_eq_false_iff_ne.mpr c12
          have c12b1 : (t121 != 0) = true := bne_iff_ne.mpr c12
          replace H := Option.bind_eq_some_iff.mp H
          obtain ⟨t125, A190, H⟩ := H
          replace H : (if t125 = true then (if t121 > 0 then (if (Int.tmod t119 t121) = 0 then (if (Int.tmod t120 t121) = 0 then (if (wrap64 (2 + (wrap64 (Int.tmod (IntKind.u64.wrap (a2)) 1000)))) = 0 then (none) else (if (Int.tmod (wrap64 (Int.tdiv t119 t121)) (wrap64 (2 + (wrap64 (Int.tmod (IntKind.u64.wrap (a2)) 1000))))) = 0 then (some ((Int.tmod (wrap64 (Int.tdiv t120 t121)) (wrap64 (2 + (wrap64 (Int.tmod (IntKind.u64.wrap (a2)) 1000))))) != 0)) else (some true))) else (some false)) else (some false)) else (some false)) else (some false)) = some r := H
          have A19 := Aside0.mk A190
          clear A190
          by_cases c20 : t125 = true
          · subst c20
            have H1 : (if t121 > 0 then (if (Int.tmod t119 t121) = 0 then (if (Int.tmod t120 t121) = 0 then (if (wrap64 (2 + (wrap64 (Int.tmod (IntKind.u64.wrap (a2)) 1000)))) = 0 then (none) else (if (Int.tmod (wrap64 (Int.tdiv t119 t121)) (wrap64 (2 + (wrap64 (Int.tmod (IntKind.u64.wrap (a2)) 1000))))) = 0 then (some ((Int.tmod (wrap64 (Int.tdiv t120 t121)) (wrap64 (2 + (wrap64 (Int.tmod (IntKind.u64.wrap (a2)) 1000))))) != 0)) else (some true))) else (some false)) else (some false)) else (some false)) = some r := by rw [if_pos rfl] at H; exact H
            clear H
            have H := H1
            clear H1
            by_cases c21 : t121 > 0
            · rw [if_pos c21] at H
              have c21b0 : decide (0 < t121) = true := decide_eq_true c21
              clear c21
              by_cases c22 : (Int.tmod t119 t121) = 0
              · rw [if_pos c22] at H
                have c22b0 : ((Int.tmod t119 t121) == 0) = true := beq_iff_eq.mpr c22
                have c22b1 : ((Int.tmod t119 t121) != 0) = false := bne_eq_false_iff_eq.mpr c22
                clear c22
                by_cases c23 : (Int.tmod t120 t121) = 0
                · rw [if_pos c23] at H
                  have c23b0 : ((Int.tmod t120 t121) == 0) = true := beq_iff_eq.mpr c23
                  have c23b1 : ((Int.tmod t120 t121) != 0) = false := bne_eq_false_iff_eq.mpr c23
                  clear c23
                  by_cases c24 : (wrap64 (2 + (wrap64 (Int.tmod (IntKind.u64.wrap (a2)) 1000)))) = 0
                  · rw [if_pos c24] at H
                    exact absurd H (by simp)
                  · rw [if_neg c24] at H
                    have c24b0 : ((wrap64 (2 + (wrap64 (Int.tmod (IntKind.u64.wrap (a2)) 1000)))) == 0) = false := beq_eq_false_iff_ne.mpr c24
                    have c24b1 : ((wrap64 (2 + (wrap64 (Int.tmod (IntKind.u64.wrap (a2)) 1000)))) != 0) = true := bne_iff_ne.mpr c24
                    by_cases c25 : (Int.tmod (wrap64 (Int.tdiv t119 t121)) (wrap64 (2 + (wrap64 (Int.tmod (IntKind.u64.wrap (a2)) 1000))))) = 0
                    · rw [if_pos c25] at H
                      have c25b0 : ((Int.tmod (wrap64 (Int.tdiv t119 t121)) (wrap64 (2 + (wrap64 (Int.tmod (IntKind.u64.wrap (a2)) 1000))))) == 0) = true := beq_iff_eq.mpr c25
                      have c25b1 : ((Int.tmod (wrap64 (Int.tdiv t119 t121)) (wrap64 (2 + (wrap64 (Int.tmod (IntKind.u64.wrap (a2)) 1000))))) != 0) = false := bne_eq_false_iff_eq.mpr c25
                      clear c25
                      obtain rfl := Option.some.inj H
                      go_wp2_with (first | ((with_reducible refine gate_callee (f := 15) rfl ?_); refine goesL_ (some 44) rfl rfl Try.func15 (by kernel_rfl) rfl #[] rfl (by (try simp only [List.map_toArray, List.map_cons, List.map_nil]); first | done | rfl | (simp only [List.length_drop, List.length_take]; rfl)) ?_; (with_reducible refine (marblerunlaw01_awake.calls kj6  true _ A19.out).mono ?_); rintro e w26 ⟨rfl, hb⟩; refine ⟨_, rfl, ?_⟩; have n0_ := Aside0.mk (below_step (by repeat (first | (with_reducible first | exact HB.out | apply below_alloc | apply pw_below_drewN | apply below_drew1) | exact HB.out)) hb); clear HB; have HB := n0_; clear n0_; (try clear hb); (try clear hb2); (try clear hk); (try clear hi)))
                      go_ret
                      exact ⟨by first | rfl | (simp [errW_none, errW_some] <;> rfl) | (simp [*, errW_none, errW_some] <;> rfl), by repeat (first | (with_reducible first | exact HB.out | apply below_alloc | apply pw_below_drewN | apply below_drew1) | exact HB.out)⟩
                    · rw [if_neg c25] at H
                      have c25b0 : ((Int.tmod (wrap64 (Int.tdiv t119 t121)) (wrap64 (2 + (wrap64 (Int.tmod (IntKind.u64.wrap (a2)) 1000))))) == 0) = false := beq_eq_false_iff_ne.mpr c25
                      have c25b1 : ((Int.tmod (wrap64 (Int.tdiv t119 t121)) (wrap64 (2 + (wrap64 (Int.tmod (IntKind.u64.wrap (a2)) 1000))))) != 0) = true := bne_iff_ne.mpr c25
                      obtain rfl := Option.some.inj H
                      go_wp2_with (first | ((with_reducible refine gate_callee (f := 15) rfl ?_); refine goesL_ (some 44) rfl rfl Try.func15 (by kernel_rfl) rfl #[] rfl (by (try simp only [List.map_toArray, List.map_cons, List.map_nil]); first | done | rfl | (simp only [List.length_drop, List.length_take]; rfl)) ?_; (with_reducible refine (marblerunlaw01_awake.calls kj6  true _ A19.out).mono ?_); rintro e w27 ⟨rfl, hb⟩; refine ⟨_, rfl, ?_⟩; have n0_ := Aside0.mk (below_step (by repeat (first | (with_reducible first | exact HB.out | apply below_alloc | apply pw_below_drewN | apply below_drew1) | exact HB.out)) hb); clear HB; have HB := n0_; clear n0_; (try clear hb); (try clear hb2); (try clear hk); (try clear hi)))
                      go_ret
                      exact ⟨by first | rfl | (simp [errW_none, errW_some] <;> rfl) | (simp [*, errW_none, errW_some] <;> rfl), by repeat (first | (with_reducible first | exact HB.out | apply below_alloc | apply pw_below_drewN | apply below_drew1) | exact HB.out)⟩
                · rw [if_neg c23] at H
                  have c23b0 : ((Int.tmod t120 t121) == 0) = false := beq_eq_false_iff_ne.mpr c23
                  have c23b1 : ((Int.tmod t120 t121) != 0) = true := bne_iff_ne.mpr c23
                  obtain rfl := Option.some.inj H
                  go_wp2_with (first | ((with_reducible refine gate_callee (f := 15) rfl ?_); refine goesL_ (some 44) rfl rfl Try.func15 (by kernel_rfl) rfl #[] rfl (by (try simp only [List.map_toArray, List.map_cons, List.map_nil]); first | done | rfl | (simp only [List.length_drop, List.length_take]; rfl)) ?_; (with_reducible refine (marblerunlaw01_awake.calls kj6  true _ A19.out).mono ?_); rintro e w28 ⟨rfl, hb⟩; refine ⟨_, rfl, ?_⟩; have n0_ := Aside0.mk (below_step (by repeat (first | (with_reducible first | exact HB.out | apply below_alloc | apply pw_below_drewN | apply below_drew1) | exact HB.out)) hb); clear HB; have HB := n0_; clear n0_; (try clear hb); (try clear hb2); (try clear hk); (try clear hi)))
                  go_ret
                  exact ⟨by first | rfl | (simp [errW_none, errW_some] <;> rfl) | (simp [*, errW_none, errW_some] <;> rfl), by repeat (first | (with_reducible first | exact HB.out | apply below_alloc | apply pw_below_drewN | apply below_drew1) | exact HB.out)⟩
              · rw [if_neg c22] at H
                have c22b0 : ((Int.tmod t119 t121) == 0) = false := beq_eq_false_iff_ne.mpr c22
                have c22b1 : ((Int.tmod t119 t121) != 0) = true := bne_iff_ne.mpr c22
                obtain rfl := Option.some.inj H
                go_wp2_with (first | ((with_reducible refine gate_callee (f := 15) rfl ?_); refine goesL_ (some 44) rfl rfl Try.func15 (by kernel_rfl) rfl #[] rfl (by (try simp only [List.map_toArray, List.map_cons, List.map_nil]); first | done | rfl | (simp only [List.length_drop, List.length_take]; rfl)) ?_; (with_reducible refine (marblerunlaw01_awake.calls kj6  true _ A19.out).mono ?_); rintro e w29 ⟨rfl, hb⟩; refine ⟨_, rfl, ?_⟩; have n0_ := Aside0.mk (below_step (by repeat (first | (with_reducible first | exact HB.out | apply below_alloc | apply pw_below_drewN | apply below_drew1) | exact HB.out)) hb); clear HB; have HB := n0_; clear n0_; (try clear hb); (try clear hb2); (try clear hk); (try clear hi)))
                go_ret
                exact ⟨by first | rfl | (simp [errW_none, errW_some] <;> rfl) | (simp [*, errW_none, errW_some] <;> rfl), by repeat (first | (with_reducible first | exact HB.out | apply below_alloc | apply pw_below_drewN | apply below_drew1) | exact HB.out)⟩
            · rw [if_neg c21] at H
              have c21b0 : decide (0 < t121) = false := decide_eq_false c21
              clear c21
              obtain rfl := Option.some.inj H
              go_wp2_with (first | ((with_reducible refine gate_callee (f := 15) rfl ?_); refine goesL_ (some 44) rfl rfl Try.func15 (by kernel_rfl) rfl #[] rfl (by (try simp only [List.map_toArray, List.map_cons, List.map_nil]); first | done | rfl | (simp only [List.length_drop, List.length_take]; rfl)) ?_; (with_reducible refine (marblerunlaw01_awake.calls kj6  true _ A19.out).mono ?_); rintro e w30 ⟨rfl, hb⟩; refine ⟨_, rfl, ?_⟩; have n0_ := Aside0.mk (below_step (by repeat (first | (with_reducible first | exact HB.out | apply below_alloc | apply pw_below_drewN | apply below_drew1) | exact HB.out)) hb); clear HB; have HB := n0_; clear n0_; (try clear hb); (try clear hb2); (try clear hk); (try clear hi)))
              go_ret
              exact ⟨by first | rfl | (simp [errW_none, errW_some] <;> rfl) | (simp [*, errW_none, errW_some] <;> rfl), by repeat (first | (with_reducible first | exact HB.out | apply below_alloc | apply pw_below_drewN | apply below_drew1) | exact HB.out)⟩
          · replace c20 := Bool.eq_false_iff.mpr c20
            subst c20
            have H1 : (some false) = some r := by rw [if_neg (show ¬ (false = true) by decide)] at H; exact H
            clear H
            have H := H1
            clear H1
            obtain rfl := Option.some.inj H
            go_wp2_with (first | ((with_reducible refine gate_callee (f := 15) rfl ?_); refine goesL_ (some 44) rfl rfl Try.func15 (by kernel_rfl) rfl #[] rfl (by (try simp only [List.map_toArray, List.map_cons, List.map_nil]); first | done | rfl | (simp only [List.length_drop, List.length_take]; rfl)) ?_; (with_reducible refine (marblerunlaw01_awake.calls kj6  false _ A19.out).mono ?_); rintro e w31 ⟨rfl, hb⟩; refine ⟨_, rfl, ?_⟩; have n0_ := Aside0.mk (below_step (by repeat (first | (with_reducible first | exact HB.out | apply below_alloc | apply pw_below_drewN | apply below_drew1) | exact HB.out)) hb); clear HB; have HB := n0_; clear n0_; (try clear hb); (try clear hb2); (try clear hk); (try clear hi)))
            go_ret
            exact ⟨by first | rfl | (simp [errW_none, errW_some] <;> rfl) | (simp [*, errW_none, errW_some] <;> rfl), by repeat (first | (with_reducible first | exact HB.out | apply below_alloc | apply pw_below_drewN | apply below_drew1) | exact HB.out)⟩

/-- THE ONE PURE STATEMENT of marblerunlaw01_WholeGcds: yours. -/
def marblerunlaw01_WholeGcds.Pure : Prop := ∀ (a0 : Int) (a1 : Int) (a2 : Int), (Lit.int .i64 a0).wf = true → (Lit.int .i64 a1).wf = true → (Lit.int .i64 a2).wf = true → ∃ k, marblerunlaw01_WholeGcds.f k a0 a1 a2 = some true
theorem marblerunlaw01_WholeGcds.walk (P : marblerunlaw01_WholeGcds.Pure) (a0 : Int) (a1 : Int) (a2 : Int) (w : World) (w0 : (Lit.int .i64 a0).wf = true) (w1 : (Lit.int .i64 a1).wf = true) (w2 : (Lit.int .i64 a2).wf = true) :
    Calls Try.prog 3 #[.int .i64 a0, .int .i64 a1, .int .i64 a2] w fun e w' => e = .returned (.bool true) ∧ Below w.heap.size w w' := by
  obtain ⟨k, h⟩ := P a0 a1 a2 w0 w1 w2
  refine (marblerunlaw01_WholeGcds.calls k a0 a1 a2 true w h).mono ?_
  rintro e w' ⟨rfl, hd⟩
  exact ⟨rfl, hd⟩

end Go.Proofs.Ytmmnnjphfodpnaa.PWholeGcds
