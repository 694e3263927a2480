/- Functions that the laws reach, as plain Lean functions, each with a proof that the call does what its function says; no condition. -/
import Derived.Test.YtkcnpnkcahgniaaQ0
import Derived.Test.YtkcnpnkcahgniaaQ1
import Derived.Test.YtkcnpnkcahgniaaQ4
import Derived.Test.YtkcnpnkcahgniaaQ5
namespace Go.Proofs.Ytkcnpnkcahgniaa.Q
open Go.RowKit Go.Proofs.YtkcnpnkcahgniaaW.PrintWords Go.Proofs.YtkcnpnkcahgniaaW.PrintLast Go.Proofs.YtkcnpnkcahgniaaW.PrintMore
attribute [local go_sem] max2_int min2_int max_two min_two max_three min_three max_four min_four   -- for this text's walks alone
set_option linter.unusedVariables false
set_option linter.unusedSimpArgs false

/-! ### chrysalislaw08_LexKeys: function 7 -/
def chrysalislaw08_LexKeys.j0 : Nat → ByteArray → List (S29) → Bool → Option (Bool)
  | 0, _, _, _ => none
  | k + 1, x0, x3, x6 => (lex_Key.f k x0).bind fun t352 => (if t352 = true then ((lex_Name.f k x0).bind fun t353 => (if t353 = true then (some false) else (if x6 = true then (if 0 < (x3.length : Int) then (if ((rd_T29 x3 0).f0) = 5 then ((chrysalislaw08_known.f k).bind fun t355 => (some t355)) else (some false)) else (none)) else (some false)))) else ((lex_Name.f k x0).bind fun t356 => (if t356 = true then (if x6 = true then (if 0 < (x3.length : Int) then (if ((rd_T29 x3 0).f0) = 1 then (if (x0.size : Int) ≤ 16 then ((chrysalislaw08_known.f k).bind fun t358 => (some t358)) else (some false)) else (some false)) else (none)) else (some false)) else (if x6 = true then (if 0 < (x3.length : Int) then (if ((rd_T29 x3 0).f0) = 1 then (some false) else (if ((rd_T29 x3 0).f0) = 5 then (some false) else ((chrysalislaw08_known.f k).bind fun t361 => (some t361)))) else (none)) else ((chrysalislaw08_known.f k).bind fun t362 => (some t362))))))
def chrysalislaw08_LexKeys.f (k : Nat) (a0 : ByteArray) : Option (Bool) := if (a0.size : Int) > 100 then ((chrysalislaw08_known.f k).bind fun t345 => (some t345)) else ((lex_Scan.f k a0).bind fun bt346 => (if bt346.2.1 = 0 then (if (bt346.1.length : Int) = 1 then (if 0 < (bt346.1.length : Int) then (chrysalislaw08_LexKeys.j0 k a0 bt346.1 (((rd_T29 bt346.1 0).f1).toList == a0.toList)) else (none)) else (chrysalislaw08_LexKeys.j0 k a0 bt346.1 false)) else (chrysalislaw08_LexKeys.j0 k a0 bt346.1 false)))
theorem chrysalislaw08_LexKeys.mono_l : ∀ k, (∀ y0 y1 y2, LeO (chrysalislaw08_LexKeys.j0 k y0 y1 y2) (chrysalislaw08_LexKeys.j0 (k + 1) y0 y1 y2))
  | 0 => fun _ _ _ r h => by simp [chrysalislaw08_LexKeys.j0] at h
  | k + 1 => by
    have ih0 := chrysalislaw08_LexKeys.mono_l k
    · intro y0 y1 y2
      unfold chrysalislaw08_LexKeys.j0
      repeat' first
      | (with_reducible exact ih0 _ _ _)
      | (with_reducible exact chrysalislaw08_known.mono _)
      | (with_reducible exact lex_Key.mono _ _)
      | (with_reducible exact lex_Name.mono _ _)
      | (with_reducible exact lex_Scan.mono _ _)
      | (with_reducible exact LeO.refl _)
      | (with_reducible exact LeO.none _)
      | (with_reducible refine LeO.ite ?_ ?_)
      | (with_reducible refine LeO.bind ?_ (fun _ => ?_))
      | exact ih0 _ _ _
      | exact chrysalislaw08_known.mono _
      | exact lex_Key.mono _ _
      | exact lex_Name.mono _ _
      | exact lex_Scan.mono _ _
      | exact LeO.none _
      | refine LeO.ite ?_ ?_
      | refine LeO.bind ?_ (fun _ => ?_)
theorem chrysalislaw08_LexKeys.mono : ∀ a0 k, LeO (chrysalislaw08_LexKeys.f k a0) (chrysalislaw08_LexKeys.f (k + 1) a0) := by
  intro a0 k
  have ih0 := chrysalislaw08_LexKeys.mono_l k
  unfold chrysalislaw08_LexKeys.f
  repeat' first
      | (with_reducible exact ih0 _ _ _)
      | (with_reducible exact chrysalislaw08_known.mono _)
      | (with_reducible exact lex_Key.mono _ _)
      | (with_reducible exact lex_Name.mono _ _)
      | (with_reducible exact lex_Scan.mono _ _)
      | (with_reducible exact LeO.refl _)
      | (with_reducible exact LeO.none _)
      | (with_reducible refine LeO.ite ?_ ?_)
      | (with_reducible refine LeO.bind ?_ (fun _ => ?_))
      | exact ih0 _ _ _
      | exact chrysalislaw08_known.mono _
      | exact lex_Key.mono _ _
      | exact lex_Name.mono _ _
      | exact lex_Scan.mono _ _
      | exact LeO.none _
      | refine LeO.ite ?_ ?_
      | refine LeO.bind ?_ (fun _ => ?_)
set_option maxHeartbeats 8000000 in
set_option maxRecDepth 100000 in
theorem chrysalislaw08_LexKeys.calls (k : Nat) (a0 : ByteArray) (r : Bool) (w : World) (h : chrysalislaw08_LexKeys.f k a0 = some r) :
    Calls Try.prog 7 #[.string a0] w fun e w' => e = .returned (.bool r) ∧ Below w.heap.size w w' := by
  have HB := Aside0.mk (Below.refl w.heap.size w)
  have H : (if (a0.size : Int) > 100 then ((chrysalislaw08_known.f k).bind fun t345 => (some t345)) else ((lex_Scan.f k a0).bind fun bt346 => (if bt346.2.1 = 0 then (if (bt346.1.length : Int) = 1 then (if 0 < (bt346.1.length : Int) then (chrysalislaw08_LexKeys.j0 k a0 bt346.1 (((rd_T29 bt346.1 0).f1).toList == a0.toList)) else (none)) else (chrysalislaw08_LexKeys.j0 k a0 bt346.1 false)) else (chrysalislaw08_LexKeys.j0 k a0 bt346.1 false)))) = some r := h
  clear h
  by_cases c2 : (a0.size : Int) > 100
  · rw [if_pos c2] at H
    have c2b0 : decide (100 < (a0.size : Int)) = true := decide_eq_true c2
    have c2b1 : decide (100 < a0.size) = true := decide_eq_true (by omega)
    clear c2
    replace H := Option.bind_eq_some_iff.mp H
    obtain ⟨t345, A30, H⟩ := H
    replace H : (some t345) = some r := H
    have A3 := Aside0.mk A30
    clear A30
    obtain rfl := Option.some.inj H
    go_enter Try.func7, Try.ntmps7
    go_wp2_with (first | ((with_reducible refine gate_callee (f := 10) rfl ?_); refine goesL_ (some 10) rfl rfl Try.func10 (by kernel_rfl) rfl #[] rfl (by (try simp only [List.map_toArray, List.map_cons, List.map_nil]); first | done | rfl | (simp only [List.length_drop, List.length_take]; rfl)) ?_; (with_reducible refine (chrysalislaw08_known.calls k  t345 _ A3.out).mono ?_); rintro e w4 ⟨rfl, hb⟩; refine ⟨_, rfl, ?_⟩; have n0_ := Aside0.mk (below_step (by repeat (first | (with_reducible first | exact HB.out | apply below_alloc | apply pw_below_drewN | apply below_drew1) | exact HB.out)) hb); clear HB; have HB := n0_; clear n0_; (try clear hb); (try clear hb2); (try clear hk); (try clear hi)))
    go_ret
    exact ⟨by first | rfl | (simp [errW_none, errW_some] <;> rfl) | (simp [*, errW_none, errW_some] <;> rfl), by repeat (first | (with_reducible first | exact HB.out | apply below_alloc | apply pw_below_drewN | apply below_drew1) | exact HB.out)⟩
  · rw [if_neg c2] at H
    have c2b0 : decide (100 < (a0.size : Int)) = false := decide_eq_false c2
    have c2b1 : decide (100 < a0.size) = false := decide_eq_false (by omega)
    clear c2
    replace H := Option.bind_eq_some_iff.mp H
    obtain ⟨⟨t346, t347, t348⟩, A50, H⟩ := H
    replace H : (if t347 = 0 then (if (t346.length : Int) = 1 then (if 0 < (t346.length : Int) then (chrysalislaw08_LexKeys.j0 k a0 t346 (((rd_T29 t346 0).f1).toList == a0.toList)) else (none)) else (chrysalislaw08_LexKeys.j0 k a0 t346 false)) else (chrysalislaw08_LexKeys.j0 k a0 t346 false)) = some r := H
    have A5 := Aside0.mk A50
    clear A50
    have HC6 := Aside0.mk H
    clear H
    go_enter Try.func7, Try.ntmps7
    go_upto_region 4 with (first | ((with_reducible refine gate_callee (f := 11) rfl ?_); refine goesL_ (some 13) rfl rfl Try.func11 (by kernel_rfl) rfl #[.string a0] rfl (by (try simp only [List.map_toArray, List.map_cons, List.map_nil]); first | done | rfl | (simp only [List.length_drop, List.length_take]; rfl)) ?_; (with_reducible refine (lex_Scan.calls k a0 t346 t347 t348 _ A5.out).mono ?_); rintro e w7 ⟨v349, rfl, ho0, hb⟩; refine ⟨_, rfl, ?_⟩; have n0_ := Aside0.mk (Kd.R_lower ho0 (below_size (by repeat (first | (with_reducible first | exact HB.out | apply below_alloc | apply pw_below_drewN | apply below_drew1) | exact HB.out)))); have n1_ := Aside0.mk (below_step (by repeat (first | (with_reducible first | exact HB.out | apply below_alloc | apply pw_below_drewN | apply below_drew1) | exact HB.out)) hb); clear HB; have HO350 := n0_; have HB := n1_; clear n0_ n1_; (try clear hb); (try clear hb2); (try clear hk); (try clear hi); (try clear ho0)))
    (try simp only [Act.put, List.setIfInBounds_toArray, List.set_cons_zero, List.set_cons_succ])
    go_cut [6] (fun v6 wc => ∃ (kq : Nat) (x6_5 : Bool), v6 = .bool x6_5 ∧ Aside0 (chrysalislaw08_LexKeys.j0 kq a0 t346 x6_5 = some r) ∧ Aside0 (kq ≤ k) ∧ Aside0 (Kd.R k29 29 wc w.heap.size (fun _ => True) v349 t346) ∧ Aside0 (Below w.heap.size w wc))
    case first =>
      have H := HC6.out
      clear HC6
      by_cases c8 : t347 = 0
      · rw [if_pos c8] at H
        have c8b0 : (t347 == 0) = true := beq_iff_eq.mpr c8
        have c8b1 : (t347 != 0) = false := bne_eq_false_iff_eq.mpr c8
        clear c8
        (first | rw [c8b0] | (simp only [i64_w, i32_w]; rw [c8b0]) | skip)
        by_cases c9 : (t346.length : Int) = 1
        · rw [if_pos c9] at H
          have c9b0 : ((t346.length : Int) == 1) = true := beq_iff_eq.mpr c9
          have c9b1 : ((t346.length : Int) != 1) = false := bne_eq_false_iff_eq.mpr c9
          clear c9
          by_cases c10 : 0 < (t346.length : Int)
          · rw [if_pos c10] at H
            have c10b0 : decide (0 < (t346.length : Int)) = true := decide_eq_true c10
            have c10b1 : decide (0 < t346.length) = true := decide_eq_true (by omega)
            clear c10
            have H' := Aside0.mk H
            clear H
            obtain ⟨Ao11, co11, eo11⟩ := Kd.R_slice HO350.out
            subst eo11
            have p351 : 0 ≤ (0 : Int) := (by omega)
            have q351 : 0 < (t346.length : Int) := of_decide_eq_true (by first | (with_reducible assumption) | assumption)
            obtain ⟨ad351, e351, hx351_0, hx351_1, hx351_2, hx351_3⟩ := at_T29 (Kd.R_reads' HO350.out).2.2 0 p351 q351
            cases e351
            have qi351 : (0 < t346.length) = True := eq_true (by omega)
            (try rw [show ((0 : Int)).toNat = 0 from rfl] at hx351_0)
            (try rw [show 0 * 4 = 0 from rfl] at hx351_0)
            (try rw [Addr.add_zero'] at hx351_0)
            (try rw [show ((0 : Int)).toNat = 0 from rfl] at hx351_1)
            (try rw [show 0 * 4 = 0 from rfl] at hx351_1)
            (try rw [Addr.add_zero'] at hx351_1)
            (try rw [show ((0 : Int)).toNat = 0 from rfl] at hx351_2)
            (try rw [show 0 * 4 = 0 from rfl] at hx351_2)
            (try rw [Addr.add_zero'] at hx351_2)
            (try rw [show ((0 : Int)).toNat = 0 from rfl] at hx351_3)
            (try rw [show 0 * 4 = 0 from rfl] at hx351_3)
            (try rw [Addr.add_zero'] at hx351_3)
            replace p351 := eq_true p351
            replace q351 := eq_true q351
            go_wp2
            go_meet
            case rel => exact ⟨_, ((((rd_T29 t346 0).f1).toList == a0.toList)), (by first | rfl | (simp; done) | (simp [*]; done)), H', ⟨by first | omega | exact Nat.le_refl _⟩, ⟨by (with_reducible repeat (first | apply Kd.R_alloc | apply Kd.R_drewN | apply Kd.R_drew)); exact HO350.out⟩, ⟨by repeat (first | (with_reducible first | exact HB.out | apply below_alloc | apply pw_below_drewN | apply below_drew1) | exact HB.out)⟩⟩
          · rw [if_neg c10] at H
            exact absurd H (by simp)
        · rw [if_neg c9] at H
          have c9b0 : ((t346.length : Int) == 1) = false := beq_eq_false_iff_ne.mpr c9
          have c9b1 : ((t346.length : Int) != 1) = true := bne_iff_ne.mpr c9
          have H' := Aside0.mk H
          clear H
          obtain ⟨Ao12, co12, eo12⟩ := Kd.R_slice HO350.out
          subst eo12
          go_wp2
          go_meet
          case rel => exact ⟨_, (false), (by first | rfl | (simp; done) | (simp [*]; done)), H', ⟨by first | omega | exact Nat.le_refl _⟩, ⟨by (with_reducible repeat (first | apply Kd.R_alloc | apply Kd.R_drewN | apply Kd.R_drew)); exact HO350.out⟩, ⟨by repeat (first | (with_reducible first | exact HB.out | apply below_alloc | apply pw_below_drewN | apply below_drew1) | exact HB.out)⟩⟩
      · rw [if_neg c8] at H
        have c8b0 : (t347 == 0) = false := beq_eq_false_iff_ne.mpr c8
        have c8b1 : (t347 != 0) = true := bne_iff_ne.mpr c8
        (first | rw [c8b0] | (simp only [i64_w, i32_w]; rw [c8b0]) | skip)
        have H' := Aside0.mk H
        clear H
        go_wp2
        go_meet
        case rel => exact ⟨_, (false), (by first | rfl | (simp; done) | (simp [*]; done)), H', ⟨by first | omega | exact Nat.le_refl _⟩, ⟨by (with_reducible repeat (first | apply Kd.R_alloc | apply Kd.R_drewN | apply Kd.R_drew)); exact HO350.out⟩, ⟨by repeat (first | (with_reducible first | exact HB.out | apply below_alloc | apply pw_below_drewN | apply below_drew1) | exact HB.out)⟩⟩
    case rest =>
      clear HC6
      try clear c1
      try clear c2
      try clear c2b0
      try clear c2b1
      try clear p2
      try clear p3
      try clear q3
      try clear hx3
      try clear qi3
      try clear c7
      try clear c8
      try clear c8b0
      try clear c8b1
      try clear c9
      try clear c9b0
      try clear c9b1
      try clear c10
      try clear c10b0
      try clear c10b1
      try clear c11
      try clear hx351_0
      try clear hx351_1
      try clear hx351_2
      try clear hx351_3
      try clear p351
      try clear q351
      obtain ⟨kq, x6_5, rfl, HA, HJ5, HO_3, HB⟩ := hcut
      cases kq with
      | zero => exact absurd HA.out (by simp [chrysalislaw08_LexKeys.j0])
      | succ kj5 =>
        have H := HA.out
        clear HA
        simp only [chrysalislaw08_LexKeys.j0] at H
        replace H := Option.bind_eq_some_iff.mp H
        obtain ⟨t352, A130, H⟩ := H
        replace H : (if t352 = true then ((lex_Name.f kj5 a0).bind fun t353 => (if t353 = true then (some false) else (if x6_5 = true then (if 0 < (t346.length : Int) then (if ((rd_T29 t346 0).f0) = 5 then ((chrysalislaw08_known.f kj5).bind fun t355 => (some t355)) else (some false)) else (none)) else (some false)))) else ((lex_Name.f kj5 a0).bind fun t356 => (if t356 = true then (if x6_5 = true then (if 0 < (t346.length : Int) then (if ((rd_T29 t346 0).f0) = 1 then (if (a0.size : Int) ≤ 16 then ((chrysalislaw08_known.f kj5).bind fun t358 => (some t358)) else (some false)) else (some false)) else (none)) else (some false)) else (if x6_5 = true then (if 0 < (t346.length : Int) then (if ((rd_T29 t346 0).f0) = 1 then (some false) else (if ((rd_T29 t346 0).f0) = 5 then (some false) else ((chrysalislaw08_known.f kj5).bind fun t361 => (some t361)))) else (none)) else ((chrysalislaw08_known.f kj5).bind fun t362 => (some t362)))))) = some r := H
        have A13 := Aside0.mk A130
        clear A130
        by_cases c14 : t352 = true
        · subst c14
          have H1 : ((lex_Name.f kj5 a0).bind fun t353 => (if t353 = true then (some false) else (if x6_5 = true then (if 0 < (t346.length : Int) then (if ((rd_T29 t346 0).f0) = 5 then ((chrysalislaw08_known.f kj5).bind fun t355 => (some t355)) else (some false)) else (none)) else (some false)))) = some r := by rw [if_pos rfl] at H; exact H
          clear H
          have H := H1
          clear H1
          replace H := Option.bind_eq_some_iff.mp H
          obtain ⟨t353, A150, H⟩ := H
          replace H : (if t353 = true then (some false) else (if x6_5 = true then (if 0 < (t346.length : Int) then (if ((rd_T29 t346 0).f0) = 5 then ((chrysalislaw08_known.f kj5).bind fun t355 => (some t355)) else (some false)) else (none)) else (some false))) = some r := H
          have A15 := Aside0.mk A150
          clear A150
          by_cases c16 : t353 = true
          · subst c16
            have H1 : (some false) = some r := by rw [if_pos rfl] at H; exact H
            clear H
            have H := H1
            clear H1
            obtain rfl := Option.some.inj H
            go_wp2_with (first | ((with_reducible refine gate_callee (f := 15) rfl ?_); refine goesL_ (some 33) rfl rfl Try.func15 (by kernel_rfl) rfl #[.string a0] rfl (by (try simp only [List.map_toArray, List.map_cons, List.map_nil]); first | done | rfl | (simp only [List.length_drop, List.length_take]; rfl)) ?_; (with_reducible refine (lex_Key.calls kj5 a0 true _ A13.out).mono ?_); rintro e w17 ⟨rfl, hb⟩; refine ⟨_, rfl, ?_⟩; have n0_ := Aside0.mk (Kd.R_below (by (with_reducible repeat (first | apply Kd.R_alloc | apply Kd.R_drewN | apply Kd.R_drew)); exact HO_3.out) hb); have n1_ := Aside0.mk (below_step (by repeat (first | (with_reducible first | exact HB.out | apply below_alloc | apply pw_below_drewN | apply below_drew1) | exact HB.out)) hb); clear HO_3; clear HB; have HO_3 := n0_; have HB := n1_; clear n0_ n1_; (try clear hb); (try clear hb2); (try clear hk); (try clear hi)) | ((with_reducible refine gate_callee (f := 16) rfl ?_); refine goesL_ (some 35) rfl rfl Try.func16 (by kernel_rfl) rfl #[.string a0] rfl (by (try simp only [List.map_toArray, List.map_cons, List.map_nil]); first | done | rfl | (simp only [List.length_drop, List.length_take]; rfl)) ?_; (with_reducible refine (lex_Name.calls kj5 a0 true _ A15.out).mono ?_); rintro e w18 ⟨rfl, hb⟩; refine ⟨_, rfl, ?_⟩; have n0_ := Aside0.mk (Kd.R_below (by (with_reducible repeat (first | apply Kd.R_alloc | apply Kd.R_drewN | apply Kd.R_drew)); exact HO_3.out) hb); have n1_ := Aside0.mk (below_step (by repeat (first | (with_reducible first | exact HB.out | apply below_alloc | apply pw_below_drewN | apply below_drew1) | exact HB.out)) hb); clear HO_3; clear HB; have HO_3 := n0_; have HB := n1_; clear n0_ n1_; (try clear hb); (try clear hb2); (try clear hk); (try clear hi)))
            go_ret
            exact ⟨by first | rfl | (simp [errW_none, errW_some] <;> rfl) | (simp [*, errW_none, errW_some] <;> rfl), by repeat (first | (with_reducible first | exact HB.out | apply below_alloc | apply pw_below_drewN | apply below_drew1) | exact HB.out)⟩
          · replace c16 := Bool.eq_false_iff.mpr c16
            subst c16
            have H1 : (if x6_5 = true then (if 0 < (t346.length : Int) then (if ((rd_T29 t346 0).f0) = 5 then ((chrysalislaw08_known.f kj5).bind fun t355 => (some t355)) else (some false)) else (none)) else (some false)) = some r := by rw [if_neg (show ¬ (false = true) by decide)] at H; exact H
            clear H
            have H := H1
            clear H1
            by_cases c19 : x6_5 = true
            · subst c19
              have H1 : (if 0 < (t346.length : Int) then (if ((rd_T29 t346 0).f0) = 5 then ((chrysalislaw08_known.f kj5).bind fun t355 => (some t355)) else (some false)) else (none)) = some r := by rw [if_pos rfl] at H; exact H
              clear H
              have H := H1
              clear H1
              by_cases c20 : 0 < (t346.length : Int)
              · rw [if_pos c20] at H
                have c20b0 : decide (0 < (t346.length : Int)) = true := decide_eq_true c20
                have c20b1 : decide (0 < t346.length) = true := decide_eq_true (by omega)
                clear c20
                by_cases c21 : ((rd_T29 t346 0).f0) = 5
                · rw [if_pos c21] at H
                  have c21b0 : (((rd_T29 t346 0).f0) == 5) = true := beq_iff_eq.mpr c21
                  have c21b1 : (((rd_T29 t346 0).f0) != 5) = false := bne_eq_false_iff_eq.mpr c21
                  clear c21
                  replace H := Option.bind_eq_some_iff.mp H
                  obtain ⟨t355, A220, H⟩ := H
                  replace H : (some t355) = some r := H
                  have A22 := Aside0.mk A220
                  clear A220
                  obtain rfl := Option.some.inj H
                  go_wp2_with (first | ((with_reducible refine gate_callee (f := 15) rfl ?_); refine goesL_ (some 33) rfl rfl Try.func15 (by kernel_rfl) rfl #[.string a0] rfl (by (try simp only [List.map_toArray, List.map_cons, List.map_nil]); first | done | rfl | (simp only [List.length_drop, List.length_take]; rfl)) ?_; (with_reducible refine (lex_Key.calls kj5 a0 true _ A13.out).mono ?_); rintro e w23 ⟨rfl, hb⟩; refine ⟨_, rfl, ?_⟩; have n0_ := Aside0.mk (Kd.R_below (by (with_reducible repeat (first | apply Kd.R_alloc | apply Kd.R_drewN | apply Kd.R_drew)); exact HO_3.out) hb); have n1_ := Aside0.mk (below_step (by repeat (first | (with_reducible first | exact HB.out | apply below_alloc | apply pw_below_drewN | apply below_drew1) | exact HB.out)) hb); clear HO_3; clear HB; have HO_3 := n0_; have HB := n1_; clear n0_ n1_; (try clear hb); (try clear hb2); (try clear hk); (try clear hi)) | ((with_reducible refine gate_callee (f := 16) rfl ?_); refine goesL_ (some 35) rfl rfl Try.func16 (by kernel_rfl) rfl #[.string a0] rfl (by (try simp only [List.map_toArray, List.map_cons, List.map_nil]); first | done | rfl | (simp only [List.length_drop, List.length_take]; rfl)) ?_; (with_reducible refine (lex_Name.calls kj5 a0 false _ A15.out).mono ?_); rintro e w24 ⟨rfl, hb⟩; refine ⟨_, rfl, ?_⟩; have n0_ := Aside0.mk (Kd.R_below (by (with_reducible repeat (first | apply Kd.R_alloc | apply Kd.R_drewN | apply Kd.R_drew)); exact HO_3.out) hb); have n1_ := Aside0.mk (below_step (by repeat (first | (with_reducible first | exact HB.out | apply below_alloc | apply pw_below_drewN | apply below_drew1) | exact HB.out)) hb); clear HO_3; clear HB; have HO_3 := n0_; have HB := n1_; clear n0_ n1_; (try clear hb); (try clear hb2); (try clear hk); (try clear hi); obtain ⟨Ao25, co25, eo25⟩ := Kd.R_slice HO_3.out; subst eo25; have p354 : 0 ≤ (0 : Int) := (by omega); have q354 : 0 < (t346.length : Int) := of_decide_eq_true (by first | (with_reducible assumption) | assumption); obtain ⟨ad354, e354, hx354_0, hx354_1, hx354_2, hx354_3⟩ := at_T29 (Kd.R_reads' HO_3.out).2.2 0 p354 q354; cases e354; have qi354 : (0 < t346.length) = True := eq_true (by omega); (try rw [show ((0 : Int)).toNat = 0 from rfl] at hx354_0); (try rw [show 0 * 4 = 0 from rfl] at hx354_0); (try rw [Addr.add_zero'] at hx354_0); (try rw [show ((0 : Int)).toNat = 0 from rfl] at hx354_1); (try rw [show 0 * 4 = 0 from rfl] at hx354_1); (try rw [Addr.add_zero'] at hx354_1); (try rw [show ((0 : Int)).toNat = 0 from rfl] at hx354_2); (try rw [show 0 * 4 = 0 from rfl] at hx354_2); (try rw [Addr.add_zero'] at hx354_2); (try rw [show ((0 : Int)).toNat = 0 from rfl] at hx354_3); (try rw [show 0 * 4 = 0 from rfl] at hx354_3); (try rw [Addr.add_zero'] at hx354_3); replace p354 := eq_true p354; replace q354 := eq_true q354) | (go_at_call 10; (with_reducible refine (chrysalislaw08_known.calls kj5  t355 _ A22.out).mono ?_); rintro e w26 ⟨rfl, hb⟩; have n0_ := Aside0.mk (Kd.R_below (by (with_reducible repeat (first | apply Kd.R_alloc | apply Kd.R_drewN | apply Kd.R_drew)); exact HO_3.out) hb); have n1_ := Aside0.mk (below_step (by repeat (first | (with_reducible first | exact HB.out | apply below_alloc | apply pw_below_drewN | apply below_drew1) | exact HB.out)) hb); clear HO_3; clear HB; have HO_3 := n0_; have HB := n1_; clear n0_ n1_; (try clear hb); (try clear hb2); (try clear hk); (try clear hi)))
                  go_ret
                  exact ⟨by first | rfl | (simp [errW_none, errW_some] <;> rfl) | (simp [*, errW_none, errW_some] <;> rfl), by repeat (first | (with_reducible first | exact HB.out | apply below_alloc | apply pw_below_drewN | apply below_drew1) | exact HB.out)⟩
                · rw [if_neg c21] at H
                  have c21b0 : (((rd_T29 t346 0).f0) == 5) = false := beq_eq_false_iff_ne.mpr c21
                  have c21b1 : (((rd_T29 t346 0).f0) != 5) = true := bne_iff_ne.mpr c21
                  obtain rfl := Option.some.inj H
                  go_wp2_with (first | ((with_reducible refine gate_callee (f := 15) rfl ?_); refine goesL_ (some 33) rfl rfl Try.func15 (by kernel_rfl) rfl #[.string a0] rfl (by (try simp only [List.map_toArray, List.map_cons, List.map_nil]); first | done | rfl | (simp only [List.length_drop, List.length_take]; rfl)) ?_; (with_reducible refine (lex_Key.calls kj5 a0 true _ A13.out).mono ?_); rintro e w27 ⟨rfl, hb⟩; refine ⟨_, rfl, ?_⟩; have n0_ := Aside0.mk (Kd.R_below (by (with_reducible repeat (first | apply Kd.R_alloc | apply Kd.R_drewN | apply Kd.R_drew)); exact HO_3.out) hb); have n1_ := Aside0.mk (below_step (by repeat (first | (with_reducible first | exact HB.out | apply below_alloc | apply pw_below_drewN | apply below_drew1) | exact HB.out)) hb); clear HO_3; clear HB; have HO_3 := n0_; have HB := n1_; clear n0_ n1_; (try clear hb); (try clear hb2); (try clear hk); (try clear hi)) | ((with_reducible refine gate_callee (f := 16) rfl ?_); refine goesL_ (some 35) rfl rfl Try.func16 (by kernel_rfl) rfl #[.string a0] rfl (by (try simp only [List.map_toArray, List.map_cons, List.map_nil]); first | done | rfl | (simp only [List.length_drop, List.length_take]; rfl)) ?_; (with_reducible refine (lex_Name.calls kj5 a0 false _ A15.out).mono ?_); rintro e w28 ⟨rfl, hb⟩; refine ⟨_, rfl, ?_⟩; have n0_ := Aside0.mk (Kd.R_below (by (with_reducible repeat (first | apply Kd.R_alloc | apply Kd.R_drewN | apply Kd.R_drew)); exact HO_3.out) hb); have n1_ := Aside0.mk (below_step (by repeat (first | (with_reducible first | exact HB.out | apply below_alloc | apply pw_below_drewN | apply below_drew1) | exact HB.out)) hb); clear HO_3; clear HB; have HO_3 := n0_; have HB := n1_; clear n0_ n1_; (try clear hb); (try clear hb2); (try clear hk); (try clear hi); obtain ⟨Ao29, co29, eo29⟩ := Kd.R_slice HO_3.out; subst eo29; have p354 : 0 ≤ (0 : Int) := (by omega); have q354 : 0 < (t346.length : Int) := of_decide_eq_true (by first | (with_reducible assumption) | assumption); obtain ⟨ad354, e354, hx354_0, hx354_1, hx354_2, hx354_3⟩ := at_T29 (Kd.R_reads' HO_3.out).2.2 0 p354 q354; cases e354; have qi354 : (0 < t346.length) = True := eq_true (by omega); (try rw [show ((0 : Int)).toNat = 0 from rfl] at hx354_0); (try rw [show 0 * 4 = 0 from rfl] at hx354_0); (try rw [Addr.add_zero'] at hx354_0); (try rw [show ((0 : Int)).toNat = 0 from rfl] at hx354_1); (try rw [show 0 * 4 = 0 from rfl] at hx354_1); (try rw [Addr.add_zero'] at hx354_1); (try rw [show ((0 : Int)).toNat = 0 from rfl] at hx354_2); (try rw [show 0 * 4 = 0 from rfl] at hx354_2); (try rw [Addr.add_zero'] at hx354_2); (try rw [show ((0 : Int)).toNat = 0 from rfl] at hx354_3); (try rw [show 0 * 4 = 0 from rfl] at hx354_3); (try rw [Addr.add_zero'] at hx354_3); replace p354 := eq_true p354; replace q354 := eq_true q354))
                  go_ret
                  exact ⟨by first | rfl | (simp [errW_none, errW_some] <;> rfl) | (simp [*, errW_none, errW_some] <;> rfl), by repeat (first | (with_reducible first | exact HB.out | apply below_alloc | apply pw_below_drewN | apply below_drew1) | exact HB.out)⟩
              · rw [if_neg c20] at H
                exact absurd H (by simp)
            · replace c19 := Bool.eq_false_iff.mpr c19
              subst c19
              have H1 : (some false) = some r := by rw [if_neg (show ¬ (false = true) by decide)] at H; exact H
              clear H
              have H := H1
              clear H1
              obtain rfl := Option.some.inj H
              go_wp2_with (first | ((with_reducible refine gate_callee (f := 15) rfl ?_); refine goesL_ (some 33) rfl rfl Try.func15 (by kernel_rfl) rfl #[.string a0] rfl (by (try simp only [List.map_toArray, List.map_cons, List.map_nil]); first | done | rfl | (simp only [List.length_drop, List.length_take]; rfl)) ?_; (with_reducible refine (lex_Key.calls kj5 a0 true _ A13.out).mono ?_); rintro e w30 ⟨rfl, hb⟩; refine ⟨_, rfl, ?_⟩; have n0_ := Aside0.mk (Kd.R_below (by (with_reducible repeat (first | apply Kd.R_alloc | apply Kd.R_drewN | apply Kd.R_drew)); exact HO_3.out) hb); have n1_ := Aside0.mk (below_step (by repeat (first | (with_reducible first | exact HB.out | apply below_alloc | apply pw_below_drewN | apply below_drew1) | exact HB.out)) hb); clear HO_3; clear HB; have HO_3 := n0_; have HB := n1_; clear n0_ n1_; (try clear hb); (try clear hb2); (try clear hk); (try clear hi)) | ((with_reducible refine gate_callee (f := 16) rfl ?_); refine goesL_ (some 35) rfl rfl Try.func16 (by kernel_rfl) rfl #[.string a0] rfl (by (try simp only [List.map_toArray, List.map_cons, List.map_nil]); first | done | rfl | (simp only [List.length_drop, List.length_take]; rfl)) ?_; (with_reducible refine (lex_Name.calls kj5 a0 false _ A15.out).mono ?_); rintro e w31 ⟨rfl, hb⟩; refine ⟨_, rfl, ?_⟩; have n0_ := Aside0.mk (Kd.R_below (by (with_reducible repeat (first | apply Kd.R_alloc | apply Kd.R_drewN | apply Kd.R_drew)); exact HO_3.out) hb); have n1_ := Aside0.mk (below_step (by repeat (first | (with_reducible first | exact HB.out | apply below_alloc | apply pw_below_drewN | apply below_drew1) | exact HB.out)) hb); clear HO_3; clear HB; have HO_3 := n0_; have HB := n1_; clear n0_ n1_; (try clear hb); (try clear hb2); (try clear hk); (try clear hi)))
              go_ret
              exact ⟨by first | rfl | (simp [errW_none, errW_some] <;> rfl) | (simp [*, errW_none, errW_some] <;> rfl), by repeat (first | (with_reducible first | exact HB.out | apply below_alloc | apply pw_below_drewN | apply below_drew1) | exact HB.out)⟩
        · replace c14 := Bool.eq_false_iff.mpr c14
          subst c14
          have H1 : ((lex_Name.f kj5 a0).bind fun t356 => (if t356 = true then (if x6_5 = true then (if 0 < (t346.length : Int) then (if ((rd_T29 t346 0).f0) = 1 then (if (a0.size : Int) ≤ 16 then ((chrysalislaw08_known.f kj5).bind fun t358 => (some t358)) else (some false)) else (some false)) else (none)) else (some false)) else (if x6_5 = true then (if 0 < (t346.length : Int) then (if ((rd_T29 t346 0).f0) = 1 then (some false) else (if ((rd_T29 t346 0).f0) = 5 then (some false) else ((chrysalislaw08_known.f kj5).bind fun t361 => (some t361)))) else (none)) else ((chrysalislaw08_known.f kj5).bind fun t362 => (some t362))))) = some r := by rw [if_neg (show ¬ (false = true) by decide)] at H; exact H
          clear H
          have H := H1
          clear H1
          replace H := Option.bind_eq_some_iff.mp H
          obtain ⟨t356, A320, H⟩ := H
          replace H : (if t356 = true then (if x6_5 = true then (if 0 < (t346.length : Int) then (if ((rd_T29 t346 0).f0) = 1 then (if (a0.size : Int) ≤ 16 then ((chrysalislaw08_known.f kj5).bind fun t358 => (some t358)) else (some false)) else (some false)) else (none)) else (some false)) else (if x6_5 = true then (if 0 < (t346.length : Int) then (if ((rd_T29 t346 0).f0) = 1 then (some false) else (if ((rd_T29 t346 0).f0) = 5 then (some false) else ((chrysalislaw08_known.f kj5).bind fun t361 => (some t361)))) else (none)) else ((chrysalislaw08_known.f kj5).bind fun t362 => (some t362)))) = some r := H
          have A32 := Aside0.mk A320
          clear A320
          by_cases c33 : t356 = true
          · subst c33
            have H1 : (if x6_5 = true then (if 0 < (t346.length : Int) then (if ((rd_T29 t346 0).f0) = 1 then (if (a0.size : Int) ≤ 16 then ((chrysalislaw08_known.f kj5).bind fun t358 => (some t358)) else (some false)) else (some false)) else (none)) else (some false)) = some r := by rw [if_pos rfl] at H; exact H
            clear H
            have H := H1
            clear H1
            by_cases c34 : x6_5 = true
            · subst c34
              have H1 : (if 0 < (t346.length : Int) then (if ((rd_T29 t346 0).f0) = 1 then (if (a0.size : Int) ≤ 16 then ((chrysalislaw08_known.f kj5).bind fun t358 => (some t358)) else (some false)) else (some false)) else (none)) = some r := by rw [if_pos rfl] at H; exact H
              clear H
              have H := H1
              clear H1
              by_cases c35 : 0 < (t346.length : Int)
              · rw [if_pos c35] at H
                have c35b0 : decide (0 < (t346.length : Int)) = true := decide_eq_true c35
                have c35b1 : decide (0 < t346.length) = true := decide_eq_true (by omega)
                clear c35
                by_cases c36 : ((rd_T29 t346 0).f0) = 1
                · rw [if_pos c36] at H
                  have c36b0 : (((rd_T29 t346 0).f0) == 1) = true := beq_iff_eq.mpr c36
                  have c36b1 : (((rd_T29 t346 0).f0) != 1) = false := bne_eq_false_iff_eq.mpr c36
                  clear c36
                  by_cases c37 : (a0.size : Int) ≤ 16
                  · rw [if_pos c37] at H
                    have c37b0 : decide ((a0.size : Int) ≤ 16) = true := decide_eq_true c37
                    have c37b1 : decide (a0.size ≤ 16) = true := decide_eq_true (by omega)
                    clear c37
                    replace H := Option.bind_eq_some_iff.mp H
                    obtain ⟨t358, A380, H⟩ := H
                    replace H : (some t358) = some r := H
                    have A38 := Aside0.mk A380
                    clear A380
                    obtain rfl := Option.some.inj H
                    go_wp2_with (first | ((with_reducible refine gate_callee (f := 15) rfl ?_); refine goesL_ (some 33) rfl rfl Try.func15 (by kernel_rfl) rfl #[.string a0] rfl (by (try simp only [List.map_toArray, List.map_cons, List.map_nil]); first | done | rfl | (simp only [List.length_drop, List.length_take]; rfl)) ?_; (with_reducible refine (lex_Key.calls kj5 a0 false _ A13.out).mono ?_); rintro e w39 ⟨rfl, hb⟩; refine ⟨_, rfl, ?_⟩; have n0_ := Aside0.mk (Kd.R_below (by (with_reducible repeat (first | apply Kd.R_alloc | apply Kd.R_drewN | apply Kd.R_drew)); exact HO_3.out) hb); have n1_ := Aside0.mk (below_step (by repeat (first | (with_reducible first | exact HB.out | apply below_alloc | apply pw_below_drewN | apply below_drew1) | exact HB.out)) hb); clear HO_3; clear HB; have HO_3 := n0_; have HB := n1_; clear n0_ n1_; (try clear hb); (try clear hb2); (try clear hk); (try clear hi)) | ((with_reducible refine gate_callee (f := 16) rfl ?_); refine goesL_ (some 51) rfl rfl Try.func16 (by kernel_rfl) rfl #[.string a0] rfl (by (try simp only [List.map_toArray, List.map_cons, List.map_nil]); first | done | rfl | (simp only [List.length_drop, List.length_take]; rfl)) ?_; (with_reducible refine (lex_Name.calls kj5 a0 true _ A32.out).mono ?_); rintro e w40 ⟨rfl, hb⟩; refine ⟨_, rfl, ?_⟩; have n0_ := Aside0.mk (Kd.R_below (by (with_reducible repeat (first | apply Kd.R_alloc | apply Kd.R_drewN | apply Kd.R_drew)); exact HO_3.out) hb); have n1_ := Aside0.mk (below_step (by repeat (first | (with_reducible first | exact HB.out | apply below_alloc | apply pw_below_drewN | apply below_drew1) | exact HB.out)) hb); clear HO_3; clear HB; have HO_3 := n0_; have HB := n1_; clear n0_ n1_; (try clear hb); (try clear hb2); (try clear hk); (try clear hi); obtain ⟨Ao41, co41, eo41⟩ := Kd.R_slice HO_3.out; subst eo41; have p357 : 0 ≤ (0 : Int) := (by omega); have q357 : 0 < (t346.length : Int) := of_decide_eq_true (by first | (with_reducible assumption) | assumption); obtain ⟨ad357, e357, hx357_0, hx357_1, hx357_2, hx357_3⟩ := at_T29 (Kd.R_reads' HO_3.out).2.2 0 p357 q357; cases e357; have qi357 : (0 < t346.length) = True := eq_true (by omega); (try rw [show ((0 : Int)).toNat = 0 from rfl] at hx357_0); (try rw [show 0 * 4 = 0 from rfl] at hx357_0); (try rw [Addr.add_zero'] at hx357_0); (try rw [show ((0 : Int)).toNat = 0 from rfl] at hx357_1); (try rw [show 0 * 4 = 0 from rfl] at hx357_1); (try rw [Addr.add_zero'] at hx357_1); (try rw [show ((0 : Int)).toNat = 0 from rfl] at hx357_2); (try rw [show 0 * 4 = 0 from rfl] at hx357_2); (try rw [Addr.add_zero'] at hx357_2); (try rw [show ((0 : Int)).toNat = 0 from rfl] at hx357_3); (try rw [show 0 * 4 = 0 from rfl] at hx357_3); (try rw [Addr.add_zero'] at hx357_3); replace p357 := eq_true p357; replace q357 := eq_true q357) | (go_at_call 10; (with_reducible refine (chrysalislaw08_known.calls kj5  t358 _ A38.out).mono ?_); rintro e w42 ⟨rfl, hb⟩; have n0_ := Aside0.mk (Kd.R_below (by (with_reducible repeat (first | apply Kd.R_alloc | apply Kd.R_drewN | apply Kd.R_drew)); exact HO_3.out) hb); have n1_ := Aside0.mk (below_step (by repeat (first | (with_reducible first | exact HB.out | apply below_alloc | apply pw_below_drewN | apply below_drew1) | exact HB.out)) hb); clear HO_3; clear HB; have HO_3 := n0_; have HB := n1_; clear n0_ n1_; (try clear hb); (try clear hb2); (try clear hk); (try clear hi)))
                    go_ret
                    exact ⟨by first | rfl | (simp [errW_none, errW_some] <;> rfl) | (simp [*, errW_none, errW_some] <;> rfl), by repeat (first | (with_reducible first | exact HB.out | apply below_alloc | apply pw_below_drewN | apply below_drew1) | exact HB.out)⟩
                  · rw [if_neg c37] at H
                    have c37b0 : decide ((a0.size : Int) ≤ 16) = false := decide_eq_false c37
                    have c37b1 : decide (a0.size ≤ 16) = false := decide_eq_false (by omega)
                    clear c37
                    obtain rfl := Option.some.inj H
                    go_wp2_with (first | ((with_reducible refine gate_callee (f := 15) rfl ?_); refine goesL_ (some 33) rfl rfl Try.func15 (by kernel_rfl) rfl #[.string a0] rfl (by (try simp only [List.map_toArray, List.map_cons, List.map_nil]); first | done | rfl | (simp only [List.length_drop, List.length_take]; rfl)) ?_; (with_reducible refine (lex_Key.calls kj5 a0 false _ A13.out).mono ?_); rintro e w43 ⟨rfl, hb⟩; refine ⟨_, rfl, ?_⟩; have n0_ := Aside0.mk (Kd.R_below (by (with_reducible repeat (first | apply Kd.R_alloc | apply Kd.R_drewN | apply Kd.R_drew)); exact HO_3.out) hb); have n1_ := Aside0.mk (below_step (by repeat (first | (with_reducible first | exact HB.out | apply below_alloc | apply pw_below_drewN | apply below_drew1) | exact HB.out)) hb); clear HO_3; clear HB; have HO_3 := n0_; have HB := n1_; clear n0_ n1_; (try clear hb); (try clear hb2); (try clear hk); (try clear hi)) | ((with_reducible refine gate_callee (f := 16) rfl ?_); refine goesL_ (some 51) rfl rfl Try.func16 (by kernel_rfl) rfl #[.string a0] rfl (by (try simp only [List.map_toArray, List.map_cons, List.map_nil]); first | done | rfl | (simp only [List.length_drop, List.length_take]; rfl)) ?_; (with_reducible refine (lex_Name.calls kj5 a0 true _ A32.out).mono ?_); rintro e w44 ⟨rfl, hb⟩; refine ⟨_, rfl, ?_⟩; have n0_ := Aside0.mk (Kd.R_below (by (with_reducible repeat (first | apply Kd.R_alloc | apply Kd.R_drewN | apply Kd.R_drew)); exact HO_3.out) hb); have n1_ := Aside0.mk (below_step (by repeat (first | (with_reducible first | exact HB.out | apply below_alloc | apply pw_below_drewN | apply below_drew1) | exact HB.out)) hb); clear HO_3; clear HB; have HO_3 := n0_; have HB := n1_; clear n0_ n1_; (try clear hb); (try clear hb2); (try clear hk); (try clear hi); obtain ⟨Ao45, co45, eo45⟩ := Kd.R_slice HO_3.out; subst eo45; have p357 : 0 ≤ (0 : Int) := (by omega); have q357 : 0 < (t346.length : Int) := of_decide_eq_true (by first | (with_reducible assumption) | assumption); obtain ⟨ad357, e357, hx357_0, hx357_1, hx357_2, hx357_3⟩ := at_T29 (Kd.R_reads' HO_3.out).2.2 0 p357 q357; cases e357; have qi357 : (0 < t346.length) = True := eq_true (by omega); (try rw [show ((0 : Int)).toNat = 0 from rfl] at hx357_0); (try rw [show 0 * 4 = 0 from rfl] at hx357_0); (try rw [Addr.add_zero'] at hx357_0); (try rw [show ((0 : Int)).toNat = 0 from rfl] at hx357_1); (try rw [show 0 * 4 = 0 from rfl] at hx357_1); (try rw [Addr.add_zero'] at hx357_1); (try rw [show ((0 : Int)).toNat = 0 from rfl] at hx357_2); (try rw [show 0 * 4 = 0 from rfl] at hx357_2); (try rw [Addr.add_zero'] at hx357_2); (try rw [show ((0 : Int)).toNat = 0 from rfl] at hx357_3); (try rw [show 0 * 4 = 0 from rfl] at hx357_3); (try rw [Addr.add_zero'] at hx357_3); replace p357 := eq_true p357; replace q357 := eq_true q357))
                    go_ret
                    exact ⟨by first | rfl | (simp [errW_none, errW_some] <;> rfl) | (simp [*, errW_none, errW_some] <;> rfl), by repeat (first | (with_reducible first | exact HB.out | apply below_alloc | apply pw_below_drewN | apply below_drew1) | exact HB.out)⟩
                · rw [if_neg c36] at H
                  have c36b0 : (((rd_T29 t346 0).f0) == 1) = false := beq_eq_false_iff_ne.mpr c36
                  have c36b1 : (((rd_T29 t346 0).f0) != 1) = true := bne_iff_ne.mpr c36
                  obtain rfl := Option.some.inj H
                  go_wp2_with (first | ((with_reducible refine gate_callee (f := 15) rfl ?_); refine goesL_ (some 33) rfl rfl Try.func15 (by kernel_rfl) rfl #[.string a0] rfl (by (try simp only [List.map_toArray, List.map_cons, List.map_nil]); first | done | rfl | (simp only [List.length_drop, List.length_take]; rfl)) ?_; (with_reducible refine (lex_Key.calls kj5 a0 false _ A13.out).mono ?_); rintro e w46 ⟨rfl, hb⟩; refine ⟨_, rfl, ?_⟩; have n0_ := Aside0.mk (Kd.R_below (by (with_reducible repeat (first | apply Kd.R_alloc | apply Kd.R_drewN | apply Kd.R_drew)); exact HO_3.out) hb); have n1_ := Aside0.mk (below_step (by repeat (first | (with_reducible first | exact HB.out | apply below_alloc | apply pw_below_drewN | apply below_drew1) | exact HB.out)) hb); clear HO_3; clear HB; have HO_3 := n0_; have HB := n1_; clear n0_ n1_; (try clear hb); (try clear hb2); (try clear hk); (try clear hi)) | ((with_reducible refine gate_callee (f := 16) rfl ?_); refine goesL_ (some 51) rfl rfl Try.func16 (by kernel_rfl) rfl #[.string a0] rfl (by (try simp only [List.map_toArray, List.map_cons, List.map_nil]); first | done | rfl | (simp only [List.length_drop, List.length_take]; rfl)) ?_; (with_reducible refine (lex_Name.calls kj5 a0 true _ A32.out).mono ?_); rintro e w47 ⟨rfl, hb⟩; refine ⟨_, rfl, ?_⟩; have n0_ := Aside0.mk (Kd.R_below (by (with_reducible repeat (first | apply Kd.R_alloc | apply Kd.R_drewN | apply Kd.R_drew)); exact HO_3.out) hb); have n1_ := Aside0.mk (below_step (by repeat (first | (with_reducible first | exact HB.out | apply below_alloc | apply pw_below_drewN | apply below_drew1) | exact HB.out)) hb); clear HO_3; clear HB; have HO_3 := n0_; have HB := n1_; clear n0_ n1_; (try clear hb); (try clear hb2); (try clear hk); (try clear hi); obtain ⟨Ao48, co48, eo48⟩ := Kd.R_slice HO_3.out; subst eo48; have p357 : 0 ≤ (0 : Int) := (by omega); have q357 : 0 < (t346.length : Int) := of_decide_eq_true (by first | (with_reducible assumption) | assumption); obtain ⟨ad357, e357, hx357_0, hx357_1, hx357_2, hx357_3⟩ := at_T29 (Kd.R_reads' HO_3.out).2.2 0 p357 q357; cases e357; have qi357 : (0 < t346.length) = True := eq_true (by omega); (try rw [show ((0 : Int)).toNat = 0 from rfl] at hx357_0); (try rw [show 0 * 4 = 0 from rfl] at hx357_0); (try rw [Addr.add_zero'] at hx357_0); (try rw [show ((0 : Int)).toNat = 0 from rfl] at hx357_1); (try rw [show 0 * 4 = 0 from rfl] at hx357_1); (try rw [Addr.add_zero'] at hx357_1); (try rw [show ((0 : Int)).toNat = 0 from rfl] at hx357_2); (try rw [show 0 * 4 = 0 from rfl] at hx357_2); (try rw [Addr.add_zero'] at hx357_2); (try rw [show ((0 : Int)).toNat = 0 from rfl] at hx357_3); (try rw [show 0 * 4 = 0 from rfl] at hx357_3); (try rw [Addr.add_zero'] at hx357_3); replace p357 := eq_true p357; replace q357 := eq_true q357))
                  go_ret
                  exact ⟨by first | rfl | (simp [errW_none, errW_some] <;> rfl) | (simp [*, errW_none, errW_some] <;> rfl), by repeat (first | (with_reducible first | exact HB.out | apply below_alloc | apply pw_below_drewN | apply below_drew1) | exact HB.out)⟩
              · rw [if_neg c35] at H
                exact absurd H (by simp)
            · replace c34 := Bool.eq_false_iff.mpr c34
              subst c34
              have H1 : (some false) = some r := by rw [if_neg (show ¬ (false = true) by decide)] at H; exact H
              clear H
              have H := H1
              clear H1
              obtain rfl := Option.some.inj H
              go_wp2_with (first | ((with_reducible refine gate_callee (f := 15) rfl ?_); refine goesL_ (some 33) rfl rfl Try.func15 (by kernel_rfl) rfl #[.string a0] rfl (by (try simp only [List.map_toArray, List.map_cons, List.map_nil]); first | done | rfl | (simp only [List.length_drop, List.length_take]; rfl)) ?_; (with_reducible refine (lex_Key.calls kj5 a0 false _ A13.out).mono ?_); rintro e w49 ⟨rfl, hb⟩; refine ⟨_, rfl, ?_⟩; have n0_ := Aside0.mk (Kd.R_below (by (with_reducible repeat (first | apply Kd.R_alloc | apply Kd.R_drewN | apply Kd.R_drew)); exact HO_3.out) hb); have n1_ := Aside0.mk (below_step (by repeat (first | (with_reducible first | exact HB.out | apply below_alloc | apply pw_below_drewN | apply below_drew1) | exact HB.out)) hb); clear HO_3; clear HB; have HO_3 := n0_; have HB := n1_; clear n0_ n1_; (try clear hb); (try clear hb2); (try clear hk); (try clear hi)) | ((with_reducible refine gate_callee (f := 16) rfl ?_); refine goesL_ (some 51) rfl rfl Try.func16 (by kernel_rfl) rfl #[.string a0] rfl (by (try simp only [List.map_toArray, List.map_cons, List.map_nil]); first | done | rfl | (simp only [List.length_drop, List.length_take]; rfl)) ?_; (with_reducible refine (lex_Name.calls kj5 a0 true _ A32.out).mono ?_); rintro e w50 ⟨rfl, hb⟩; refine ⟨_, rfl, ?_⟩; have n0_ := Aside0.mk (Kd.R_below (by (with_reducible repeat (first | apply Kd.R_alloc | apply Kd.R_drewN | apply Kd.R_drew)); exact HO_3.out) hb); have n1_ := Aside0.mk (below_step (by repeat (first | (with_reducible first | exact HB.out | apply below_alloc | apply pw_below_drewN | apply below_drew1) | exact HB.out)) hb); clear HO_3; clear HB; have HO_3 := n0_; have HB := n1_; clear n0_ n1_; (try clear hb); (try clear hb2); (try clear hk); (try clear hi)))
              go_ret
              exact ⟨by first | rfl | (simp [errW_none, errW_some] <;> rfl) | (simp [*, errW_none, errW_some] <;> rfl), by repeat (first | (with_reducible first | exact HB.out | apply below_alloc | apply pw_below_drewN | apply below_drew1) | exact HB.out)⟩
          · replace c33 := Bool.eq_false_iff.mpr c33
            subst c33
            have H1 : (if x6_5 = true then (if 0 < (t346.length : Int) then (if ((rd_T29 t346 0).f0) = 1 then (some false) else (if ((rd_T29 t346 0).f0) = 5 then (some false) else ((chrysalislaw08_known.f kj5).bind fun t361 => (some t361)))) else (none)) else ((chrysalislaw08_known.f kj5).bind fun t362 => (some t362))) = some r := by rw [if_neg (show ¬ (false = true) by decide)] at H; exact H
            clear H
            have H := H1
            clear H1
            by_cases c51 : x6_5 = true
            · subst c51
              have H1 : (if 0 < (t346.length : Int) then (if ((rd_T29 t346 0).f0) = 1 then (some false) else (if ((rd_T29 t346 0).f0) = 5 then (some false) else ((chrysalislaw08_known.f kj5).bind fun t361 => (some t361)))) else (none)) = some r := by rw [if_pos rfl] at H; exact H
              clear H
              have H := H1
              clear H1
              by_cases c52 : 0 < (t346.length : Int)
              · rw [if_pos c52] at H
                have c52b0 : decide (0 < (t346.length : Int)) = true := decide_eq_true c52
                have c52b1 : decide (0 < t346.length) = true := decide_eq_true (by omega)
                clear c52
                by_cases c53 : ((rd_T29 t346 0).f0) = 1
                · rw [if_pos c53] at H
                  have c53b0 : (((rd_T29 t346 0).f0) == 1) = true := beq_iff_eq.mpr c53
                  have c53b1 : (((rd_T29 t346 0).f0) != 1) = false := bne_eq_false_iff_eq.mpr c53
                  clear c53
                  obtain rfl := Option.some.inj H
                  go_wp2_with (first | ((with_reducible refine gate_callee (f := 15) rfl ?_); refine goesL_ (some 33) rfl rfl Try.func15 (by kernel_rfl) rfl #[.string a0] rfl (by (try simp only [List.map_toArray, List.map_cons, List.map_nil]); first | done | rfl | (simp only [List.length_drop, List.length_take]; rfl)) ?_; (with_reducible refine (lex_Key.calls kj5 a0 false _ A13.out).mono ?_); rintro e w54 ⟨rfl, hb⟩; refine ⟨_, rfl, ?_⟩; have n0_ := Aside0.mk (Kd.R_below (by (with_reducible repeat (first | apply Kd.R_alloc | apply Kd.R_drewN | apply Kd.R_drew)); exact HO_3.out) hb); have n1_ := Aside0.mk (below_step (by repeat (first | (with_reducible first | exact HB.out | apply below_alloc | apply pw_below_drewN | apply below_drew1) | exact HB.out)) hb); clear HO_3; clear HB; have HO_3 := n0_; have HB := n1_; clear n0_ n1_; (try clear hb); (try clear hb2); (try clear hk); (try clear hi)) | ((with_reducible refine gate_callee (f := 16) rfl ?_); refine goesL_ (some 51) rfl rfl Try.func16 (by kernel_rfl) rfl #[.string a0] rfl (by (try simp only [List.map_toArray, List.map_cons, List.map_nil]); first | done | rfl | (simp only [List.length_drop, List.length_take]; rfl)) ?_; (with_reducible refine (lex_Name.calls kj5 a0 false _ A32.out).mono ?_); rintro e w55 ⟨rfl, hb⟩; refine ⟨_, rfl, ?_⟩; have n0_ := Aside0.mk (Kd.R_below (by (with_reducible repeat (first | apply Kd.R_alloc | apply Kd.R_drewN | apply Kd.R_drew)); exact HO_3.out) hb); have n1_ := Aside0.mk (below_step (by repeat (first | (with_reducible first | exact HB.out | apply below_alloc | apply pw_below_drewN | apply below_drew1) | exact HB.out)) hb); clear HO_3; clear HB; have HO_3 := n0_; have HB := n1_; clear n0_ n1_; (try clear hb); (try clear hb2); (try clear hk); (try clear hi); obtain ⟨Ao56, co56, eo56⟩ := Kd.R_slice HO_3.out; subst eo56; have p359 : 0 ≤ (0 : Int) := (by omega); have q359 : 0 < (t346.length : Int) := of_decide_eq_true (by first | (with_reducible assumption) | assumption); obtain ⟨ad359, e359, hx359_0, hx359_1, hx359_2, hx359_3⟩ := at_T29 (Kd.R_reads' HO_3.out).2.2 0 p359 q359; cases e359; have qi359 : (0 < t346.length) = True := eq_true (by omega); (try rw [show ((0 : Int)).toNat = 0 from rfl] at hx359_0); (try rw [show 0 * 4 = 0 from rfl] at hx359_0); (try rw [Addr.add_zero'] at hx359_0); (try rw [show ((0 : Int)).toNat = 0 from rfl] at hx359_1); (try rw [show 0 * 4 = 0 from rfl] at hx359_1); (try rw [Addr.add_zero'] at hx359_1); (try rw [show ((0 : Int)).toNat = 0 from rfl] at hx359_2); (try rw [show 0 * 4 = 0 from rfl] at hx359_2); (try rw [Addr.add_zero'] at hx359_2); (try rw [show ((0 : Int)).toNat = 0 from rfl] at hx359_3); (try rw [show 0 * 4 = 0 from rfl] at hx359_3); (try rw [Addr.add_zero'] at hx359_3); replace p359 := eq_true p359; replace q359 := eq_true q359))
                  go_ret
                  exact ⟨by first | rfl | (simp [errW_none, errW_some] <;> rfl) | (simp [*, errW_none, errW_some] <;> rfl), by repeat (first | (with_reducible first | exact HB.out | apply below_alloc | apply pw_below_drewN | apply below_drew1) | exact HB.out)⟩
                · rw [if_neg c53] at H
                  have c53b0 : (((rd_T29 t346 0).f0) == 1) = false := beq_eq_false_iff_ne.mpr c53
                  have c53b1 : (((rd_T29 t346 0).f0) != 1) = true := bne_iff_ne.mpr c53
                  by_cases c57 : ((rd_T29 t346 0).f0) = 5
                  · rw [if_pos c57] at H
                    have c57b0 : (((rd_T29 t346 0).f0) == 5) = true := beq_iff_eq.mpr c57
                    have c57b1 : (((rd_T29 t346 0).f0) != 5) = false := bne_eq_false_iff_eq.mpr c57
                    clear c57
                    obtain rfl := Option.some.inj H
                    go_wp2_with (first | ((with_reducible refine gate_callee (f := 15) rfl ?_); refine goesL_ (some 33) rfl rfl Try.func15 (by kernel_rfl) rfl #[.string a0] rfl (by (try simp only [List.map_toArray, List.map_cons, List.map_nil]); first | done | rfl | (simp only [List.length_drop, List.length_take]; rfl)) ?_; (with_reducible refine (lex_Key.calls kj5 a0 false _ A13.out).mono ?_); rintro e w58 ⟨rfl, hb⟩; refine ⟨_, rfl, ?_⟩; have n0_ := Aside0.mk (Kd.R_below (by (with_reducible repeat (first | apply Kd.R_alloc | apply Kd.R_drewN | apply Kd.R_drew)); exact HO_3.out) hb); have n1_ := Aside0.mk (below_step (by repeat (first | (with_reducible first | exact HB.out | apply below_alloc | apply pw_below_drewN | apply below_drew1) | exact HB.out)) hb); clear HO_3; clear HB; have HO_3 := n0_; have HB := n1_; clear n0_ n1_; (try clear hb); (try clear hb2); (try clear hk); (try clear hi)) | ((with_reducible refine gate_callee (f := 16) rfl ?_); refine goesL_ (some 51) rfl rfl Try.func16 (by kernel_rfl) rfl #[.string a0] rfl (by (try simp only [List.map_toArray, List.map_cons, List.map_nil]); first | done | rfl | (simp only [List.length_drop, List.length_take]; rfl)) ?_; (with_reducible refine (lex_Name.calls kj5 a0 false _ A32.out).mono ?_); rintro e w59 ⟨rfl, hb⟩; refine ⟨_, rfl, ?_⟩; have n0_ := Aside0.mk (Kd.R_below (by (with_reducible repeat (first | apply Kd.R_alloc | apply Kd.R_drewN | apply Kd.R_drew)); exact HO_3.out) hb); have n1_ := Aside0.mk (below_step (by repeat (first | (with_reducible first | exact HB.out | apply below_alloc | apply pw_below_drewN | apply below_drew1) | exact HB.out)) hb); clear HO_3; clear HB; have HO_3 := n0_; have HB := n1_; clear n0_ n1_; (try clear hb); (try clear hb2); (try clear hk); (try clear hi); obtain ⟨Ao60, co60, eo60⟩ := Kd.R_slice HO_3.out; subst eo60; have p359 : 0 ≤ (0 : Int) := (by omega); have q359 : 0 < (t346.length : Int) := of_decide_eq_true (by first | (with_reducible assumption) | assumption); obtain ⟨ad359, e359, hx359_0, hx359_1, hx359_2, hx359_3⟩ := at_T29 (Kd.R_reads' HO_3.out).2.2 0 p359 q359; cases e359; have qi359 : (0 < t346.length) = True := eq_true (by omega); (try rw [show ((0 : Int)).toNat = 0 from rfl] at hx359_0); (try rw [show 0 * 4 = 0 from rfl] at hx359_0); (try rw [Addr.add_zero'] at hx359_0); (try rw [show ((0 : Int)).toNat = 0 from rfl] at hx359_1); (try rw [show 0 * 4 = 0 from rfl] at hx359_1); (try rw [Addr.add_zero'] at hx359_1); (try rw [show ((0 : Int)).toNat = 0 from rfl] at hx359_2); (try rw [show 0 * 4 = 0 from rfl] at hx359_2); (try rw [Addr.add_zero'] at hx359_2); (try rw [show ((0 : Int)).toNat = 0 from rfl] at hx359_3); (try rw [show 0 * 4 = 0 from rfl] at hx359_3); (try rw [Addr.add_zero'] at hx359_3); replace p359 := eq_true p359; replace q359 := eq_true q359; have p360 : 0 ≤ (0 : Int) := (by omega); have q360 : 0 < (t346.length : Int) := of_decide_eq_true (by first | (with_reducible assumption) | assumption); obtain ⟨ad360, e360, hx360_0, hx360_1, hx360_2, hx360_3⟩ := at_T29 (Kd.R_reads' HO_3.out).2.2 0 p360 q360; obtain rfl : ad359 = ad360 := (by injection e360); have qi360 : (0 < t346.length) = True := eq_true (by omega); (try rw [show ((0 : Int)).toNat = 0 from rfl] at hx360_0); (try rw [show 0 * 4 = 0 from rfl] at hx360_0); (try rw [Addr.add_zero'] at hx360_0); (try rw [show ((0 : Int)).toNat = 0 from rfl] at hx360_1); (try rw [show 0 * 4 = 0 from rfl] at hx360_1); (try rw [Addr.add_zero'] at hx360_1); (try rw [show ((0 : Int)).toNat = 0 from rfl] at hx360_2); (try rw [show 0 * 4 = 0 from rfl] at hx360_2); (try rw [Addr.add_zero'] at hx360_2); (try rw [show ((0 : Int)).toNat = 0 from rfl] at hx360_3); (try rw [show 0 * 4 = 0 from rfl] at hx360_3); (try rw [Addr.add_zero'] at hx360_3); replace p360 := eq_true p360; replace q360 := eq_true q360))
                    go_ret
                    exact ⟨by first | rfl | (simp [errW_none, errW_some] <;> rfl) | (simp [*, errW_none, errW_some] <;> rfl), by repeat (first | (with_reducible first | exact HB.out | apply below_alloc | apply pw_below_drewN | apply below_drew1) | exact HB.out)⟩
                  · rw [if_neg c57] at H
                    have c57b0 : (((rd_T29 t346 0).f0) == 5) = false := beq_eq_false_iff_ne.mpr c57
                    have c57b1 : (((rd_T29 t346 0).f0) != 5) = true := bne_iff_ne.mpr c57
                    replace H := Option.bind_eq_some_iff.mp H
                    obtain ⟨t361, A610, H⟩ := H
                    replace H : (some t361) = some r := H
                    have A61 := Aside0.mk A610
                    clear A610
                    obtain rfl := Option.some.inj H
                    go_wp2_with (first | ((with_reducible refine gate_callee (f := 15) rfl ?_); refine goesL_ (some 33) rfl rfl Try.func15 (by kernel_rfl) rfl #[.string a0] rfl (by (try simp only [List.map_toArray, List.map_cons, List.map_nil]); first | done | rfl | (simp only [List.length_drop, List.length_take]; rfl)) ?_; (with_reducible refine (lex_Key.calls kj5 a0 false _ A13.out).mono ?_); rintro e w62 ⟨rfl, hb⟩; refine ⟨_, rfl, ?_⟩; have n0_ := Aside0.mk (Kd.R_below (by (with_reducible repeat (first | apply Kd.R_alloc | apply Kd.R_drewN | apply Kd.R_drew)); exact HO_3.out) hb); have n1_ := Aside0.mk (below_step (by repeat (first | (with_reducible first | exact HB.out | apply below_alloc | apply pw_below_drewN | apply below_drew1) | exact HB.out)) hb); clear HO_3; clear HB; have HO_3 := n0_; have HB := n1_; clear n0_ n1_; (try clear hb); (try clear hb2); (try clear hk); (try clear hi)) | ((with_reducible refine gate_callee (f := 16) rfl ?_); refine goesL_ (some 51) rfl rfl Try.func16 (by kernel_rfl) rfl #[.string a0] rfl (by (try simp only [List.map_toArray, List.map_cons, List.map_nil]); first | done | rfl | (simp only [List.length_drop, List.length_take]; rfl)) ?_; (with_reducible refine (lex_Name.calls kj5 a0 false _ A32.out).mono ?_); rintro e w63 ⟨rfl, hb⟩; refine ⟨_, rfl, ?_⟩; have n0_ := Aside0.mk (Kd.R_below (by (with_reducible repeat (first | apply Kd.R_alloc | apply Kd.R_drewN | apply Kd.R_drew)); exact HO_3.out) hb); have n1_ := Aside0.mk (below_step (by repeat (first | (with_reducible first | exact HB.out | apply below_alloc | apply pw_below_drewN | apply below_drew1) | exact HB.out)) hb); clear HO_3; clear HB; have HO_3 := n0_; have HB := n1_; clear n0_ n1_; (try clear hb); (try clear hb2); (try clear hk); (try clear hi); obtain ⟨Ao64, co64, eo64⟩ := Kd.R_slice HO_3.out; subst eo64; have p359 : 0 ≤ (0 : Int) := (by omega); have q359 : 0 < (t346.length : Int) := of_decide_eq_true (by first | (with_reducible assumption) | assumption); obtain ⟨ad359, e359, hx359_0, hx359_1, hx359_2, hx359_3⟩ := at_T29 (Kd.R_reads' HO_3.out).2.2 0 p359 q359; cases e359; have qi359 : (0 < t346.length) = True := eq_true (by omega); (try rw [show ((0 : Int)).toNat = 0 from rfl] at hx359_0); (try rw [show 0 * 4 = 0 from rfl] at hx359_0); (try rw [Addr.add_zero'] at hx359_0); (try rw [show ((0 : Int)).toNat = 0 from rfl] at hx359_1); (try rw [show 0 * 4 = 0 from rfl] at hx359_1); (try rw [Addr.add_zero'] at hx359_1); (try rw [show ((0 : Int)).toNat = 0 from rfl] at hx359_2); (try rw [show 0 * 4 = 0 from rfl] at hx359_2); (try rw [Addr.add_zero'] at hx359_2); (try rw [show ((0 : Int)).toNat = 0 from rfl] at hx359_3); (try rw [show 0 * 4 = 0 from rfl] at hx359_3); (try rw [Addr.add_zero'] at hx359_3); replace p359 := eq_true p359; replace q359 := eq_true q359; have p360 : 0 ≤ (0 : Int) := (by omega); have q360 : 0 < (t346.length : Int) := of_decide_eq_true (by first | (with_reducible assumption) | assumption); obtain ⟨ad360, e360, hx360_0, hx360_1, hx360_2, hx360_3⟩ := at_T29 (Kd.R_reads' HO_3.out).2.2 0 p360 q360; obtain rfl : ad359 = ad360 := (by injection e360); have qi360 : (0 < t346.length) = True := eq_true (by omega); (try rw [show ((0 : Int)).toNat = 0 from rfl] at hx360_0); (try rw [show 0 * 4 = 0 from rfl] at hx360_0); (try rw [Addr.add_zero'] at hx360_0); (try rw [show ((0 : Int)).toNat = 0 from rfl] at hx360_1); (try rw [show 0 * 4 = 0 from rfl] at hx360_1); (try rw [Addr.add_zero'] at hx360_1); (try rw [show ((0 : Int)).toNat = 0 from rfl] at hx360_2); (try rw [show 0 * 4 = 0 from rfl] at hx360_2); (try rw [Addr.add_zero'] at hx360_2); (try rw [show ((0 : Int)).toNat = 0 from rfl] at hx360_3); (try rw [show 0 * 4 = 0 from rfl] at hx360_3); (try rw [Addr.add_zero'] at hx360_3); replace p360 := eq_true p360; replace q360 := eq_true q360) | (go_at_call 10; (with_reducible refine (chrysalislaw08_known.calls kj5  t361 _ A61.out).mono ?_); rintro e w65 ⟨rfl, hb⟩; have n0_ := Aside0.mk (Kd.R_below (by (with_reducible repeat (first | apply Kd.R_alloc | apply Kd.R_drewN | apply Kd.R_drew)); exact HO_3.out) hb); have n1_ := Aside0.mk (below_step (by repeat (first | (with_reducible first | exact HB.out | apply below_alloc | apply pw_below_drewN | apply below_drew1) | exact HB.out)) hb); clear HO_3; clear HB; have HO_3 := n0_; have HB := n1_; clear n0_ n1_; (try clear hb); (try clear hb2); (try clear hk); (try clear hi)))
                    go_ret
                    exact ⟨by first | rfl | (simp [errW_none, errW_some] <;> rfl) | (simp [*, errW_none, errW_some] <;> rfl), by repeat (first | (with_reducible first | exact HB.out | apply below_alloc | apply pw_below_drewN | apply below_drew1) | exact HB.out)⟩
              · rw [if_neg c52] at H
                exact absurd H (by simp)
            · replace c51 := Bool.eq_false_iff.mpr c51
              subst c51
              have H1 : ((chrysalislaw08_known.f kj5).bind fun t362 => (some t362)) = some r := by rw [if_neg (show ¬ (false = true) by decide)] at H; exact H
              clear H
              have H := H1
              clear H1
              replace H := Option.bind_eq_some_iff.mp H
              obtain ⟨t362, A660, H⟩ := H
              replace H : (some t362) = some r := H
              have A66 := Aside0.mk A660
              clear A660
              obtain rfl := Option.some.inj H
              go_wp2_with (first | ((with_reducible refine gate_callee (f := 15) rfl ?_); refine goesL_ (some 33) rfl rfl Try.func15 (by kernel_rfl) rfl #[.string a0] rfl (by (try simp only [List.map_toArray, List.map_cons, List.map_nil]); first | done | rfl | (simp only [List.length_drop, List.length_take]; rfl)) ?_; (with_reducible refine (lex_Key.calls kj5 a0 false _ A13.out).mono ?_); rintro e w67 ⟨rfl, hb⟩; refine ⟨_, rfl, ?_⟩; have n0_ := Aside0.mk (Kd.R_below (by (with_reducible repeat (first | apply Kd.R_alloc | apply Kd.R_drewN | apply Kd.R_drew)); exact HO_3.out) hb); have n1_ := Aside0.mk (below_step (by repeat (first | (with_reducible first | exact HB.out | apply below_alloc | apply pw_below_drewN | apply below_drew1) | exact HB.out)) hb); clear HO_3; clear HB; have HO_3 := n0_; have HB := n1_; clear n0_ n1_; (try clear hb); (try clear hb2); (try clear hk); (try clear hi)) | ((with_reducible refine gate_callee (f := 16) rfl ?_); refine goesL_ (some 51) rfl rfl Try.func16 (by kernel_rfl) rfl #[.string a0] rfl (by (try simp only [List.map_toArray, List.map_cons, List.map_nil]); first | done | rfl | (simp only [List.length_drop, List.length_take]; rfl)) ?_; (with_reducible refine (lex_Name.calls kj5 a0 false _ A32.out).mono ?_); rintro e w68 ⟨rfl, hb⟩; refine ⟨_, rfl, ?_⟩; have n0_ := Aside0.mk (Kd.R_below (by (with_reducible repeat (first | apply Kd.R_alloc | apply Kd.R_drewN | apply Kd.R_drew)); exact HO_3.out) hb); have n1_ := Aside0.mk (below_step (by repeat (first | (with_reducible first | exact HB.out | apply below_alloc | apply pw_below_drewN | apply below_drew1) | exact HB.out)) hb); clear HO_3; clear HB; have HO_3 := n0_; have HB := n1_; clear n0_ n1_; (try clear hb); (try clear hb2); (try clear hk); (try clear hi)) | (go_at_call 10; (with_reducible refine (chrysalislaw08_known.calls kj5  t362 _ A66.out).mono ?_); rintro e w69 ⟨rfl, hb⟩; have n0_ := Aside0.mk (Kd.R_below (by (with_reducible repeat (first | apply Kd.R_alloc | apply Kd.R_drewN | apply Kd.R_drew)); exact HO_3.out) hb); have n1_ := Aside0.mk (below_step (by repeat (first | (with_reducible first | exact HB.out | apply below_alloc | apply pw_below_drewN | apply below_drew1) | exact HB.out)) hb); clear HO_3; clear HB; have HO_3 := n0_; have HB := n1_; clear n0_ n1_; (try clear hb); (try clear hb2); (try clear hk); (try clear hi)))
              go_ret
              exact ⟨by first | rfl | (simp [errW_none, errW_some] <;> rfl) | (simp [*, errW_none, errW_some] <;> rfl), by repeat (first | (with_reducible first | exact HB.out | apply below_alloc | apply pw_below_drewN | apply below_drew1) | exact HB.out)⟩

/-- THE ONE PURE STATEMENT of chrysalislaw08_LexKeys: yours. -/
def chrysalislaw08_LexKeys.Pure : Prop := ∀ (a0 : ByteArray), a0.size ≤ 140737488351232 → ∃ k, chrysalislaw08_LexKeys.f k a0 = some true
theorem chrysalislaw08_LexKeys.walk (P : chrysalislaw08_LexKeys.Pure) (a0 : ByteArray) (w : World) (w0 : a0.size ≤ 140737488351232) :
    Calls Try.prog 7 #[.string a0] w fun e w' => e = .returned (.bool true) ∧ Below w.heap.size w w' := by
  obtain ⟨k, h⟩ := P a0 w0
  refine (chrysalislaw08_LexKeys.calls k a0 true w h).mono ?_
  rintro e w' ⟨rfl, hd⟩
  exact ⟨rfl, hd⟩

end Go.Proofs.Ytkcnpnkcahgniaa.Q
