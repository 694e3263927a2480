/- Functions that the laws reach, as plain Lean functions, each with a proof that the call does what its function says; no condition. -/
import Derived.Test.YtclhaajlgmiilaaQ0
import Derived.Test.YtclhaajlgmiilaaQ2
import Derived.Test.YtclhaajlgmiilaaQ3
import Derived.Test.YtclhaajlgmiilaaQ4
import Derived.Test.YtclhaajlgmiilaaQ5
import Derived.Test.YtclhaajlgmiilaaQ18
import Derived.Test.YtclhaajlgmiilaaQ19
namespace Go.Proofs.Ytclhaajlgmiilaa.Q
open Go.RowKit Go.Proofs.YtclhaajlgmiilaaW.PrintWords Go.Proofs.YtclhaajlgmiilaaW.PrintLast Go.Proofs.YtclhaajlgmiilaaW.PrintMore
attribute [local go_sem] max2_int min2_int max_two min_two max_three min_three max_four min_four   -- for this text's walks alone
set_option linter.unusedVariables false
set_option linter.unusedSimpArgs false

/-! ### chrysalislaw09_TreeSubs: function 8 -/
def chrysalislaw09_TreeSubs.j0 : Nat → List (S36) → Int → List (S36) → Bool → Option (Bool)
  | 0, _, _, _, _ => none
  | k + 1, x0, x1, x5, x62 => if x62 = true then (some false) else ((tree_Kids.f k x5 0).bind fun t430 => ((tree_Kids.f k x0 x1).bind fun t433 => (if (t430.length : Int) = (t433.length : Int) then ((tree_Depth.f k x5).bind fun t436 => (if t436 ≥ 1 then ((chrysalislaw09_known.f k).bind fun t437 => (some t437)) else (some false))) else (some false))))
def chrysalislaw09_TreeSubs.f (k : Nat) (l0 : List (S36)) (a1 : Int) : Option (Bool) := (chrysalisref09_Light.f k l0).bind fun t416 => (if t416 = true then ((tree_Sub.f k l0 a1).bind fun t418 => (if (t418.length : Int) = 0 then ((tree_End.f k l0 a1).bind fun t421 => (if t421 = (-1) then ((chrysalislaw09_known.f k).bind fun t422 => (some t422)) else (some false))) else (if a1 < 0 then (chrysalislaw09_TreeSubs.j0 k l0 a1 t418 true) else (if (wrap64 (a1 + (t418.length : Int))) > (l0.length : Int) then (chrysalislaw09_TreeSubs.j0 k l0 a1 t418 true) else ((tree_End.f k t418 0).bind fun t423 => (if t423 = (t418.length : Int) then ((tree_End.f k l0 a1).bind fun t424 => (if t424 = (wrap64 (a1 + (t418.length : Int))) then (if 0 ≤ a1 then (if a1 ≤ (wrap64 (a1 + (t418.length : Int))) then (if (wrap64 (a1 + (t418.length : Int))) ≤ (l0.length : Int) then ((tree_Same.f k t418 ((l0.take ((wrap64 (a1 + (t418.length : Int))) : Int).toNat).drop (a1 : Int).toNat)).bind fun t429 => (chrysalislaw09_TreeSubs.j0 k l0 a1 t418 (!t429))) else (none)) else (none)) else (none)) else (chrysalislaw09_TreeSubs.j0 k l0 a1 t418 true))) else (chrysalislaw09_TreeSubs.j0 k l0 a1 t418 true))))))) else ((chrysalislaw09_known.f k).bind fun t417 => (some t417)))
theorem chrysalislaw09_TreeSubs.mono_l : ∀ k, (∀ y0 y1 y2 y3, LeO (chrysalislaw09_TreeSubs.j0 k y0 y1 y2 y3) (chrysalislaw09_TreeSubs.j0 (k + 1) y0 y1 y2 y3))
  | 0 => fun _ _ _ _ r h => by simp [chrysalislaw09_TreeSubs.j0] at h
  | k + 1 => by
    have ih0 := chrysalislaw09_TreeSubs.mono_l k
    · intro y0 y1 y2 y3
      unfold chrysalislaw09_TreeSubs.j0
      repeat' first
      | (with_reducible exact ih0 _ _ _ _)
      | (with_reducible exact chrysalislaw09_known.mono _)
      | (with_reducible exact chrysalisref09_Light.mono _ _)
      | (with_reducible exact tree_Depth.mono _ _)
      | (with_reducible exact tree_End.mono _ _ _)
      | (with_reducible exact tree_Kids.mono _ _ _)
      | (with_reducible exact tree_Same.mono _ _ _)
      | (with_reducible exact tree_Sub.mono _ _ _)
      | (with_reducible exact LeO.refl _)
      | (with_reducible exact LeO.none _)
      | (with_reducible refine LeO.ite ?_ ?_)
      | (with_reducible refine LeO.bind ?_ (fun _ => ?_))
      | exact ih0 _ _ _ _
      | exact chrysalislaw09_known.mono _
      | exact chrysalisref09_Light.mono _ _
      | exact tree_Depth.mono _ _
      | exact tree_End.mono _ _ _
      | exact tree_Kids.mono _ _ _
      | exact tree_Same.mono _ _ _
      | exact tree_Sub.mono _ _ _
      | exact LeO.none _
      | refine LeO.ite ?_ ?_
      | refine LeO.bind ?_ (fun _ => ?_)
theorem chrysalislaw09_TreeSubs.mono : ∀ a0 a1 k, LeO (chrysalislaw09_TreeSubs.f k a0 a1) (chrysalislaw09_TreeSubs.f (k + 1) a0 a1) := by
  intro a0 a1 k
  have ih0 := chrysalislaw09_TreeSubs.mono_l k
  unfold chrysalislaw09_TreeSubs.f
  repeat' first
      | (with_reducible exact ih0 _ _ _ _)
      | (with_reducible exact chrysalislaw09_known.mono _)
      | (with_reducible exact chrysalisref09_Light.mono _ _)
      | (with_reducible exact tree_Depth.mono _ _)
      | (with_reducible exact tree_End.mono _ _ _)
      | (with_reducible exact tree_Kids.mono _ _ _)
      | (with_reducible exact tree_Same.mono _ _ _)
      | (with_reducible exact tree_Sub.mono _ _ _)
      | (with_reducible exact LeO.refl _)
      | (with_reducible exact LeO.none _)
      | (with_reducible refine LeO.ite ?_ ?_)
      | (with_reducible refine LeO.bind ?_ (fun _ => ?_))
      | exact ih0 _ _ _ _
      | exact chrysalislaw09_known.mono _
      | exact chrysalisref09_Light.mono _ _
      | exact tree_Depth.mono _ _
      | exact tree_End.mono _ _ _
      | exact tree_Kids.mono _ _ _
      | exact tree_Same.mono _ _ _
      | exact tree_Sub.mono _ _ _
      | exact LeO.none _
      | refine LeO.ite ?_ ?_
      | refine LeO.bind ?_ (fun _ => ?_)
set_option maxHeartbeats 8000000 in
set_option maxRecDepth 100000 in
theorem chrysalislaw09_TreeSubs.calls (k : Nat) (A0 : Option Addr) (c0 : Nat) (l0 : List (S36)) (a1 : Int) (r : Bool) (w : World) (hr0 : Kd.C k36 w A0 l0.length l0) (hc0 : l0.length ≤ c0) (h : chrysalislaw09_TreeSubs.f k l0 a1 = some r) (hr : r = true) :
    Calls Try.prog 8 #[.slice A0 l0.length c0, .int .i64 a1] w fun e w' => e = .returned (.bool r) ∧ Below w.heap.size w w' := by
  have HR0 := Aside0.mk hr0
  have HC0 := Aside0.mk hc0
  clear hr0 hc0
  have HB := Aside0.mk (Below.refl w.heap.size w)
  have HR := Aside0.mk hr
  clear hr
  have H : ((chrysalisref09_Light.f k l0).bind fun t416 => (if t416 = true then ((tree_Sub.f k l0 a1).bind fun t418 => (if (t418.length : Int) = 0 then ((tree_End.f k l0 a1).bind fun t421 => (if t421 = (-1) then ((chrysalislaw09_known.f k).bind fun t422 => (some t422)) else (some false))) else (if a1 < 0 then (chrysalislaw09_TreeSubs.j0 k l0 a1 t418 true) else (if (wrap64 (a1 + (t418.length : Int))) > (l0.length : Int) then (chrysalislaw09_TreeSubs.j0 k l0 a1 t418 true) else ((tree_End.f k t418 0).bind fun t423 => (if t423 = (t418.length : Int) then ((tree_End.f k l0 a1).bind fun t424 => (if t424 = (wrap64 (a1 + (t418.length : Int))) then (if 0 ≤ a1 then (if a1 ≤ (wrap64 (a1 + (t418.length : Int))) then (if (wrap64 (a1 + (t418.length : Int))) ≤ (l0.length : Int) then ((tree_Same.f k t418 ((l0.take ((wrap64 (a1 + (t418.length : Int))) : Int).toNat).drop (a1 : Int).toNat)).bind fun t429 => (chrysalislaw09_TreeSubs.j0 k l0 a1 t418 (!t429))) else (none)) else (none)) else (none)) else (chrysalislaw09_TreeSubs.j0 k l0 a1 t418 true))) else (chrysalislaw09_TreeSubs.j0 k l0 a1 t418 true))))))) else ((chrysalislaw09_known.f k).bind fun t417 => (some t417)))) = some r := h
  clear h
  replace H := Option.bind_eq_some_iff.mp H
  obtain ⟨t416, A30, H⟩ := H
  try dsimp only at H
  have A3 := Aside0.mk A30
  clear A30
  by_cases c4 : t416 = true
  · subst c4
    rw [if_pos rfl] at H
    have H1 := H
    clear H
    have H := H1
    clear H1
    replace H := Option.bind_eq_some_iff.mp H
    obtain ⟨t418, A50, H⟩ := H
    try dsimp only at H
    have A5 := Aside0.mk A50
    clear A50
    by_cases c6 : (t418.length : Int) = 0
    · rw [if_pos c6] at H
      have c6b0 : ((t418.length : Int) == 0) = true := beq_iff_eq.mpr c6
      have c6b1 : ((t418.length : Int) != 0) = false := bne_eq_false_iff_eq.mpr c6
      clear c6
      replace H := Option.bind_eq_some_iff.mp H
      obtain ⟨t421, A70, H⟩ := H
      replace H : (if t421 = (-1) then ((chrysalislaw09_known.f k).bind fun t422 => (some t422)) else (some false)) = some r := H
      have A7 := Aside0.mk A70
      clear A70
      by_cases c8 : t421 = (-1)
      · rw [if_pos c8] at H
        have c8b0 : (t421 == (-1)) = true := beq_iff_eq.mpr c8
        have c8b1 : (t421 != (-1)) = false := bne_eq_false_iff_eq.mpr c8
        clear c8
        replace H := Option.bind_eq_some_iff.mp H
        obtain ⟨t422, A90, H⟩ := H
        replace H : (some t422) = some r := H
        have A9 := Aside0.mk A90
        clear A90
        obtain rfl := Option.some.inj H
        go_enter Try.func8, Try.ntmps8
        go_wp2_with (first | ((with_reducible refine gate_callee (f := 9) rfl ?_); refine goesL_ (some 7) rfl rfl Try.func9 (by kernel_rfl) rfl #[.slice A0 l0.length c0] rfl (by (try simp only [List.map_toArray, List.map_cons, List.map_nil]); first | done | rfl | (simp only [List.length_drop, List.length_take]; rfl)) ?_; (with_reducible refine (chrysalisref09_Light.calls k _ _ l0 true _ ?side1 ?side2 A3.out).mono ?_); (case side1 => repeat (first | exact HR0.out | (with_reducible refine Kd.C_alloc ?_ _) | (with_reducible refine Kd.C_drewN ?_ _) | (with_reducible refine Kd.C_drew ?_))); (case side2 => exact HC0.out); rintro e w' ⟨rfl, ⟨nd, rfl⟩⟩; refine ⟨_, rfl, ?_⟩) | ((with_reducible refine gate_callee (f := 13) rfl ?_); refine goesL_ (some 12) rfl rfl Try.func13 (by kernel_rfl) rfl #[.slice A0 l0.length c0, .int .i64 a1] rfl (by (try simp only [List.map_toArray, List.map_cons, List.map_nil]); first | done | rfl | (simp only [List.length_drop, List.length_take]; rfl)) ?_; (with_reducible refine (tree_Sub.calls k _ _ l0 a1 t418 _ ?side1 ?side2 A5.out).mono ?_); (case side1 => repeat (first | exact HR0.out | (with_reducible refine Kd.C_alloc ?_ _) | (with_reducible refine Kd.C_drewN ?_ _) | (with_reducible refine Kd.C_drew ?_))); (case side2 => exact HC0.out); rintro e w10 ⟨v419, rfl, ho0, hb⟩; refine ⟨_, rfl, ?_⟩; have n0_ := Aside0.mk (Kd.R_lower ho0 (below_size (by repeat (first | (with_reducible first | exact HB.out | apply below_alloc | apply pw_below_drewN | apply below_drew1) | exact HB.out)))); have n1_ := Aside0.mk (below_step (by repeat (first | (with_reducible first | exact HB.out | apply below_alloc | apply pw_below_drewN | apply below_drew1) | exact HB.out)) hb); clear HB; have HO420 := n0_; have HB := n1_; clear n0_ n1_; (try clear hb); (try clear ho0); obtain ⟨Ao11, co11, eo11⟩ := Kd.R_slice HO420.out; subst eo11) | ((with_reducible refine gate_callee (f := 14) rfl ?_); refine goesL_ (some 18) rfl rfl Try.func14 (by kernel_rfl) rfl #[.slice A0 l0.length c0, .int .i64 a1] rfl (by (try simp only [List.map_toArray, List.map_cons, List.map_nil]); first | done | rfl | (simp only [List.length_drop, List.length_take]; rfl)) ?_; (with_reducible refine (tree_End.calls k _ _ l0 a1 t421 _ ?side1 ?side2 A7.out).mono ?_); (case side1 => repeat (first | exact (Kd.C_below HR0.out HB.out) | (with_reducible refine Kd.C_alloc ?_ _) | (with_reducible refine Kd.C_drewN ?_ _) | (with_reducible refine Kd.C_drew ?_))); (case side2 => exact HC0.out); rintro e w' ⟨rfl, ⟨nd, rfl⟩⟩; refine ⟨_, rfl, ?_⟩) | (go_at_call 10; (with_reducible refine (chrysalislaw09_known.calls k  t422 _ A9.out).mono ?_); rintro e w12 ⟨rfl, hb⟩; have n0_ := Aside0.mk (Kd.R_below (by (with_reducible repeat (first | apply Kd.R_alloc | apply Kd.R_drewN | apply Kd.R_drew)); exact HO420.out) hb); have n1_ := Aside0.mk (below_step (by repeat (first | (with_reducible first | exact HB.out | apply below_alloc | apply pw_below_drewN | apply below_drew1) | exact HB.out)) hb); clear HO420; clear HB; have HO420 := n0_; have HB := n1_; clear n0_ n1_; (try clear hb)))
        go_ret
        exact ⟨by first | rfl | (simp [errW_none, errW_some] <;> rfl) | (simp [*, errW_none, errW_some] <;> rfl), by repeat (first | (with_reducible first | exact HB.out | apply below_alloc | apply pw_below_drewN | apply below_drew1) | exact HB.out)⟩
      · rw [if_neg c8] at H
        have c8b0 : (t421 == (-1)) = false := beq_eq_false_iff_ne.mpr c8
        have c8b1 : (t421 != (-1)) = true := bne_iff_ne.mpr c8
        exact absurd ((Option.some.inj H).trans HR.out) (by decide)
    · rw [if_neg c6] at H
      have c6b0 : ((t418.length : Int) == 0) = false := beq_eq_false_iff_ne.mpr c6
      have c6b1 : ((t418.length : Int) != 0) = true := bne_iff_ne.mpr c6
      have c6b2 : ¬ (t418 = []) := fun h_ => c6 (by rw [h_]; rfl)
      have HC15 := Aside0.mk H
      clear H
      go_enter Try.func8, Try.ntmps8
      go_upto_region 6 with (first | ((with_reducible refine gate_callee (f := 9) rfl ?_); refine goesL_ (some 7) rfl rfl Try.func9 (by kernel_rfl) rfl #[.slice A0 l0.length c0] rfl (by (try simp only [List.map_toArray, List.map_cons, List.map_nil]); first | done | rfl | (simp only [List.length_drop, List.length_take]; rfl)) ?_; (with_reducible refine (chrysalisref09_Light.calls k _ _ l0 true _ ?side1 ?side2 A3.out).mono ?_); (case side1 => repeat (first | exact HR0.out | (with_reducible refine Kd.C_alloc ?_ _) | (with_reducible refine Kd.C_drewN ?_ _) | (with_reducible refine Kd.C_drew ?_))); (case side2 => exact HC0.out); rintro e w' ⟨rfl, ⟨nd, rfl⟩⟩; refine ⟨_, rfl, ?_⟩) | ((with_reducible refine gate_callee (f := 13) rfl ?_); refine goesL_ (some 12) rfl rfl Try.func13 (by kernel_rfl) rfl #[.slice A0 l0.length c0, .int .i64 a1] rfl (by (try simp only [List.map_toArray, List.map_cons, List.map_nil]); first | done | rfl | (simp only [List.length_drop, List.length_take]; rfl)) ?_; (with_reducible refine (tree_Sub.calls k _ _ l0 a1 t418 _ ?side1 ?side2 A5.out).mono ?_); (case side1 => repeat (first | exact HR0.out | (with_reducible refine Kd.C_alloc ?_ _) | (with_reducible refine Kd.C_drewN ?_ _) | (with_reducible refine Kd.C_drew ?_))); (case side2 => exact HC0.out); rintro e w16 ⟨v419, rfl, ho0, hb⟩; refine ⟨_, rfl, ?_⟩; have n0_ := Aside0.mk (Kd.R_lower ho0 (below_size (by repeat (first | (with_reducible first | exact HB.out | apply below_alloc | apply pw_below_drewN | apply below_drew1) | exact HB.out)))); have n1_ := Aside0.mk (below_step (by repeat (first | (with_reducible first | exact HB.out | apply below_alloc | apply pw_below_drewN | apply below_drew1) | exact HB.out)) hb); clear HB; have HO420 := n0_; have HB := n1_; clear n0_ n1_; (try clear hb); (try clear ho0); obtain ⟨Ao17, co17, eo17⟩ := Kd.R_slice HO420.out; subst eo17))
      (try simp only [Act.put, List.setIfInBounds_toArray, List.set_cons_zero, List.set_cons_succ])
      go_cut [62] (fun v62 wc => ∃ (kq : Nat) (x62_14 : Bool), v62 = .bool x62_14 ∧ Aside0 (chrysalislaw09_TreeSubs.j0 kq l0 a1 t418 x62_14 = some r) ∧ Aside0 (kq ≤ k) ∧ Aside0 (Kd.R k36 36 wc w.heap.size (fun _ => True) (.slice Ao17 t418.length co17) t418) ∧ Aside0 (Below w.heap.size w wc))
      case first =>
        have H := HC15.out
        clear HC15
        by_cases c18 : a1 < 0
        · rw [if_pos c18] at H
          have c18b0 : decide (a1 < 0) = true := decide_eq_true c18
          clear c18
          (first | rw [c18b0] | (simp only [i64_w, i32_w]; rw [c18b0]) | skip)
          have H' := Aside0.mk H
          clear H
          go_wp2
          go_meet
          case rel => exact ⟨_, (true), (by first | rfl | (simp; done) | (simp [*]; done)), H', ⟨by first | omega | exact Nat.le_refl _⟩, ⟨by (with_reducible repeat (first | apply Kd.R_alloc | apply Kd.R_drewN | apply Kd.R_drew)); exact HO420.out⟩, ⟨by repeat (first | (with_reducible first | exact HB.out | apply below_alloc | apply pw_below_drewN | apply below_drew1) | exact HB.out)⟩⟩
        · rw [if_neg c18] at H
          have c18b0 : decide (a1 < 0) = false := decide_eq_false c18
          clear c18
          (first | rw [c18b0] | (simp only [i64_w, i32_w]; rw [c18b0]) | skip)
          by_cases c19 : (wrap64 (a1 + (t418.length : Int))) > (l0.length : Int)
          · rw [if_pos c19] at H
            have c19b0 : decide ((l0.length : Int) < (wrap64 (a1 + (t418.length : Int)))) = true := decide_eq_true c19
            clear c19
            have H' := Aside0.mk H
            clear H
            go_wp2
            go_meet
            case rel => exact ⟨_, (true), (by first | rfl | (simp; done) | (simp [*]; done)), H', ⟨by first | omega | exact Nat.le_refl _⟩, ⟨by (with_reducible repeat (first | apply Kd.R_alloc | apply Kd.R_drewN | apply Kd.R_drew)); exact HO420.out⟩, ⟨by repeat (first | (with_reducible first | exact HB.out | apply below_alloc | apply pw_below_drewN | apply below_drew1) | exact HB.out)⟩⟩
          · rw [if_neg c19] at H
            have c19b0 : decide ((l0.length : Int) < (wrap64 (a1 + (t418.length : Int)))) = false := decide_eq_false c19
            clear c19
            replace H := Option.bind_eq_some_iff.mp H
            obtain ⟨t423, A200, H⟩ := H
            try dsimp only at H
            have A20 := Aside0.mk A200
            clear A200
            by_cases c21 : t423 = (t418.length : Int)
            · rw [if_pos c21] at H
              have c21b0 : (t423 == (t418.length : Int)) = true := beq_iff_eq.mpr c21
              have c21b1 : (t423 != (t418.length : Int)) = false := bne_eq_false_iff_eq.mpr c21
              clear c21
              replace H := Option.bind_eq_some_iff.mp H
              obtain ⟨t424, A220, H⟩ := H
              try dsimp only at H
              have A22 := Aside0.mk A220
              clear A220
              by_cases c23 : t424 = (wrap64 (a1 + (t418.length : Int)))
              · rw [if_pos c23] at H
                have c23b0 : (t424 == (wrap64 (a1 + (t418.length : Int)))) = true := beq_iff_eq.mpr c23
                have c23b1 : (t424 != (wrap64 (a1 + (t418.length : Int)))) = false := bne_eq_false_iff_eq.mpr c23
                clear c23
                by_cases c24 : 0 ≤ a1
                · rw [if_pos c24] at H
                  have c24b0 := eq_true c24
                  have c24b1 : decide (0 ≤ a1) = true := decide_eq_true c24
                  clear c24
                  by_cases c25 : a1 ≤ (wrap64 (a1 + (t418.length : Int)))
                  · rw [if_pos c25] at H
                    have c25b0 := eq_true c25
                    have c25b1 : decide (a1 ≤ (wrap64 (a1 + (t418.length : Int)))) = true := decide_eq_true c25
                    by_cases c26 : (wrap64 (a1 + (t418.length : Int))) ≤ (l0.length : Int)
                    · rw [if_pos c26] at H
                      have c26b0 := eq_true c26
                      have c26b1 : decide ((wrap64 (a1 + (t418.length : Int))) ≤ (l0.length : Int)) = true := decide_eq_true c26
                      obtain ⟨y425, hy425⟩ : ∃ y_ : List (S36), y_ = ((l0.take ((wrap64 (a1 + (t418.length : Int))) : Int).toNat).drop (a1 : Int).toNat) := ⟨_, rfl⟩
                      replace H : ((tree_Same.f k t418 y425).bind fun t429 => (chrysalislaw09_TreeSubs.j0 k l0 a1 t418 (!t429))) = some r := by first | (rw [hy425]; with_reducible exact H) | (have H2_ := (Option.bind_some _ _).symm.trans H; rw [hy425]; with_reducible exact H2_) | (have H2_ := (Option.bind_some _ _).symm.trans H; with_reducible exact H2_) | with_reducible exact H | (rw [hy425]; exact H) | exact H
                      have Ny425 := Aside0.mk hy425
                      clear hy425
                      replace H := Option.bind_eq_some_iff.mp H
                      obtain ⟨t429, A270, H⟩ := H
                      replace H : (chrysalislaw09_TreeSubs.j0 k l0 a1 t418 (!t429)) = some r := H
                      have A27 := Aside0.mk A270
                      clear A270
                      have H' := Aside0.mk H
                      clear H
                      go_wp2_with (first | (go_at_call 14; (with_reducible refine (tree_End.calls k _ _ t418 0 t423 _ ?side1 ?side2 A20.out).mono ?_); (case side1 => repeat (first | exact (Kd.R_reads' HO420.out).2.2 | (with_reducible refine Kd.C_alloc ?_ _) | (with_reducible refine Kd.C_drewN ?_ _) | (with_reducible refine Kd.C_drew ?_))); (case side2 => exact (Kd.R_reads' HO420.out).2.1); rintro e w' ⟨rfl, ⟨nd, rfl⟩⟩) | (go_at_call 14; (with_reducible refine (tree_End.calls k _ _ l0 a1 t424 _ ?side1 ?side2 A22.out).mono ?_); (case side1 => repeat (first | exact (Kd.C_below HR0.out (by repeat (first | (with_reducible first | exact HB.out | apply below_alloc | apply pw_below_drewN | apply below_drew1) | exact HB.out))) | (with_reducible refine Kd.C_alloc ?_ _) | (with_reducible refine Kd.C_drewN ?_ _) | (with_reducible refine Kd.C_drew ?_))); (case side2 => exact HC0.out); rintro e w' ⟨rfl, ⟨nd, rfl⟩⟩; have q28 : ((wrap64 (a1 + (t418.length : Int))) : Int) ≤ ((l0.length : Int) : Int) := of_decide_eq_true (by first | (with_reducible assumption) | assumption); obtain ⟨i028, hi028, _, hsz28, _⟩ := info_parts info36; have hroom28 : l0.length ≤ c0 := HC0.out; have hC28 : Kd.C k36 _ A0 l0.length l0 := HR0.out; have ql28 : (a1 : Int) ≤ ((wrap64 (a1 + (t418.length : Int))) : Int) := of_decide_eq_true (by first | (with_reducible assumption) | assumption); have q028 : (0 : Int) ≤ (a1 : Int) := of_decide_eq_true (by first | (with_reducible assumption) | assumption); have hcut28 := cut_mid (P := Try.prog) 22 36 .i64 .i64 Try.underlying22 hi028 5 hsz28 A0 l0.length c0 a1 (wrap64 (a1 + (t418.length : Int))) q028 ql28 q28 hroom28; have hr28 := Kd.C_mid (lo := (a1 : Int).toNat) (hi := ((wrap64 (a1 + (t418.length : Int))) : Int).toNat) (c := c0) hC28 (by omega) (by omega) hroom28; obtain ⟨A28, hA28⟩ : ∃ A1, A1 = (if c0 = (a1 : Int).toNat then A0 else (A0 : Option Addr).map (·.add ((a1 : Int).toNat * 5))) := ⟨_, rfl⟩; obtain ⟨c28, hc28⟩ : ∃ c1, c1 = c0 - (a1 : Int).toNat := ⟨_, rfl⟩; have hy28 : y425.length = ((wrap64 (a1 + (t418.length : Int))) : Int).toNat - (a1 : Int).toNat := (by rw [Ny425.out, List.length_drop, List.length_take] <;> omega); rw [show ((l0).take ((wrap64 (a1 + (t418.length : Int))) : Int).toNat).drop (a1 : Int).toNat = y425 from Ny425.out.symm] at hr28; replace hr28 : Kd.C k36 _ A28 y425.length y425 := (by rw [hA28]; exact hr28); rw [← hy28, ← hA28, ← hc28] at hcut28; have HR428 := Aside0.mk hr28; have HC428 := Aside0.mk (show y425.length ≤ c28 from by rw [hy28, hc28]; exact Nat.sub_le_sub_right (Nat.le_trans (by omega) hroom28) _); clear hr28 hC28 hroom28 hi028 hsz28 hc28; have KY28 := Aside0.mk hy28; have KA28 := Aside0.mk hA28; clear hy28 hA28; replace q28 := eq_true q28) | (go_at_call 27; (with_reducible refine (tree_Same.calls k _ _ t418 _ _ y425 t429 _ ?side1 ?side2 ?side3 ?side4 A27.out).mono ?_); (case side1 => repeat (first | exact (Kd.R_reads' HO420.out).2.2 | (with_reducible refine Kd.C_alloc ?_ _) | (with_reducible refine Kd.C_drewN ?_ _) | (with_reducible refine Kd.C_drew ?_))); (case side2 => exact (Kd.R_reads' HO420.out).2.1); (case side3 => repeat (first | exact (Kd.C_below HR428.out (by repeat (first | (with_reducible first | exact HB.out | apply below_alloc | apply pw_below_drewN | apply below_drew1) | exact HB.out))) | (with_reducible refine Kd.C_alloc ?_ _) | (with_reducible refine Kd.C_drewN ?_ _) | (with_reducible refine Kd.C_drew ?_))); (case side4 => exact HC428.out); rintro e w29 ⟨rfl, hb⟩; have n0_ := Aside0.mk (Kd.R_below (by (with_reducible repeat (first | apply Kd.R_alloc | apply Kd.R_drewN | apply Kd.R_drew)); exact HO420.out) hb); have n1_ := Aside0.mk (below_step (by repeat (first | (with_reducible first | exact HB.out | apply below_alloc | apply pw_below_drewN | apply below_drew1) | exact HB.out)) hb); clear HO420; clear HB; have HO420 := n0_; have HB := n1_; clear n0_ n1_; (try clear hb)))
                      go_meet
                      case rel => exact ⟨_, (!t429), (by first | rfl | (simp; done) | (simp [*]; done)), H', ⟨by first | omega | exact Nat.le_refl _⟩, ⟨by (with_reducible repeat (first | apply Kd.R_alloc | apply Kd.R_drewN | apply Kd.R_drew)); exact HO420.out⟩, ⟨by repeat (first | (with_reducible first | exact HB.out | apply below_alloc | apply pw_below_drewN | apply below_drew1) | exact HB.out)⟩⟩
                    · rw [if_neg c26] at H
                      exact absurd H (by simp)
                  · rw [if_neg c25] at H
                    exact absurd H (by simp)
                · rw [if_neg c24] at H
                  exact absurd H (by simp)
              · rw [if_neg c23] at H
                have c23b0 : (t424 == (wrap64 (a1 + (t418.length : Int)))) = false := beq_eq_false_iff_ne.mpr c23
                have c23b1 : (t424 != (wrap64 (a1 + (t418.length : Int)))) = true := bne_iff_ne.mpr c23
                have H' := Aside0.mk H
                clear H
                go_wp2_with (first | (go_at_call 14; (with_reducible refine (tree_End.calls k _ _ t418 0 t423 _ ?side1 ?side2 A20.out).mono ?_); (case side1 => repeat (first | exact (Kd.R_reads' HO420.out).2.2 | (with_reducible refine Kd.C_alloc ?_ _) | (with_reducible refine Kd.C_drewN ?_ _) | (with_reducible refine Kd.C_drew ?_))); (case side2 => exact (Kd.R_reads' HO420.out).2.1); rintro e w' ⟨rfl, ⟨nd, rfl⟩⟩) | (go_at_call 14; (with_reducible refine (tree_End.calls k _ _ l0 a1 t424 _ ?side1 ?side2 A22.out).mono ?_); (case side1 => repeat (first | exact (Kd.C_below HR0.out (by repeat (first | (with_reducible first | exact HB.out | apply below_alloc | apply pw_below_drewN | apply below_drew1) | exact HB.out))) | (with_reducible refine Kd.C_alloc ?_ _) | (with_reducible refine Kd.C_drewN ?_ _) | (with_reducible refine Kd.C_drew ?_))); (case side2 => exact HC0.out); rintro e w' ⟨rfl, ⟨nd, rfl⟩⟩))
                go_meet
                case rel => exact ⟨_, (true), (by first | rfl | (simp; done) | (simp [*]; done)), H', ⟨by first | omega | exact Nat.le_refl _⟩, ⟨by (with_reducible repeat (first | apply Kd.R_alloc | apply Kd.R_drewN | apply Kd.R_drew)); exact HO420.out⟩, ⟨by repeat (first | (with_reducible first | exact HB.out | apply below_alloc | apply pw_below_drewN | apply below_drew1) | exact HB.out)⟩⟩
            · rw [if_neg c21] at H
              have c21b0 : (t423 == (t418.length : Int)) = false := beq_eq_false_iff_ne.mpr c21
              have c21b1 : (t423 != (t418.length : Int)) = true := bne_iff_ne.mpr c21
              have H' := Aside0.mk H
              clear H
              go_wp2_with (first | (go_at_call 14; (with_reducible refine (tree_End.calls k _ _ t418 0 t423 _ ?side1 ?side2 A20.out).mono ?_); (case side1 => repeat (first | exact (Kd.R_reads' HO420.out).2.2 | (with_reducible refine Kd.C_alloc ?_ _) | (with_reducible refine Kd.C_drewN ?_ _) | (with_reducible refine Kd.C_drew ?_))); (case side2 => exact (Kd.R_reads' HO420.out).2.1); rintro e w' ⟨rfl, ⟨nd, rfl⟩⟩))
              go_meet
              case rel => exact ⟨_, (true), (by first | rfl | (simp; done) | (simp [*]; done)), H', ⟨by first | omega | exact Nat.le_refl _⟩, ⟨by (with_reducible repeat (first | apply Kd.R_alloc | apply Kd.R_drewN | apply Kd.R_drew)); exact HO420.out⟩, ⟨by repeat (first | (with_reducible first | exact HB.out | apply below_alloc | apply pw_below_drewN | apply below_drew1) | exact HB.out)⟩⟩
      case rest =>
        clear HC15
        try clear c1
        try clear c2
        try clear p2
        try clear q2
        try clear c4
        try clear c6
        try clear c6b0
        try clear c6b1
        try clear c6b2
        try clear p6
        try clear c8
        try clear c8b0
        try clear c8b1
        try clear c9
        try clear c13
        try clear c14
        try clear c18
        try clear c18b0
        try clear c19
        try clear c19b0
        try clear c21
        try clear c21b0
        try clear c21b1
        try clear c23
        try clear c23b0
        try clear c23b1
        try clear c24
        try clear c24b0
        try clear c24b1
        try clear c25
        try clear c25b0
        try clear c25b1
        try clear c26
        try clear c26b0
        try clear c26b1
        try clear c28
        try clear q28
        try clear q028
        try clear q28
        obtain ⟨kq, x62_14, rfl, HA, HJ14, HO_5, HB⟩ := hcut
        cases kq with
        | zero => exact absurd HA.out (by simp [chrysalislaw09_TreeSubs.j0])
        | succ kj14 =>
          have H := HA.out
          clear HA
          simp only [chrysalislaw09_TreeSubs.j0] at H
          by_cases c30 : x62_14 = true
          · subst c30
            have H1 : (some false) = some r := by rw [if_pos rfl] at H; exact H
            clear H
            have H := H1
            clear H1
            exact absurd ((Option.some.inj H).trans HR.out) (by decide)
          · replace c30 := Bool.eq_false_iff.mpr c30
            subst c30
            rw [if_neg (show ¬ (false = true) by decide)] at H
            have H1 := H
            clear H
            have H := H1
            clear H1
            replace H := Option.bind_eq_some_iff.mp H
            obtain ⟨t430, A310, H⟩ := H
            try dsimp only at H
            have A31 := Aside0.mk A310
            clear A310
            replace H := Option.bind_eq_some_iff.mp H
            obtain ⟨t433, A320, H⟩ := H
            try dsimp only at H
            have A32 := Aside0.mk A320
            clear A320
            by_cases c33 : (t430.length : Int) = (t433.length : Int)
            · rw [if_pos c33] at H
              have c33b0 : ((t430.length : Int) == (t433.length : Int)) = true := beq_iff_eq.mpr c33
              have c33b1 : ((t430.length : Int) != (t433.length : Int)) = false := bne_eq_false_iff_eq.mpr c33
              have c33b2 : (t430.length == t433.length) = true := by first | simpa using c33 | (simp at c33 ⊢; omega)
              clear c33
              replace H := Option.bind_eq_some_iff.mp H
              obtain ⟨t436, A340, H⟩ := H
              replace H : (if t436 ≥ 1 then ((chrysalislaw09_known.f kj14).bind fun t437 => (some t437)) else (some false)) = some r := H
              have A34 := Aside0.mk A340
              clear A340
              by_cases c35 : t436 ≥ 1
              · rw [if_pos c35] at H
                have c35b0 : decide (1 ≤ t436) = true := decide_eq_true c35
                clear c35
                replace H := Option.bind_eq_some_iff.mp H
                obtain ⟨t437, A360, H⟩ := H
                replace H : (some t437) = some r := H
                have A36 := Aside0.mk A360
                clear A360
                obtain rfl := Option.some.inj H
                go_wp2_with (first | ((with_reducible refine gate_callee (f := 17) rfl ?_); refine goesL_ (some 64) rfl rfl Try.func17 (by kernel_rfl) rfl #[.slice Ao17 t418.length co17, .int .i64 0] rfl (by (try simp only [List.map_toArray, List.map_cons, List.map_nil]); first | done | rfl | (simp only [List.length_drop, List.length_take]; rfl)) ?_; (with_reducible refine (tree_Kids.calls kj14 _ _ t418 0 t430 _ ?side1 ?side2 A31.out).mono ?_); (case side1 => repeat (first | exact (Kd.R_reads' HO_5.out).2.2 | (with_reducible refine Kd.C_alloc ?_ _) | (with_reducible refine Kd.C_drewN ?_ _) | (with_reducible refine Kd.C_drew ?_))); (case side2 => exact (Kd.R_reads' HO_5.out).2.1); rintro e w37 ⟨v431, rfl, ho0, hb⟩; refine ⟨_, rfl, ?_⟩; have n0_ := Aside0.mk (Kd.R_below (by (with_reducible repeat (first | apply Kd.R_alloc | apply Kd.R_drewN | apply Kd.R_drew)); exact HO_5.out) hb); have n1_ := Aside0.mk (Kd.R_lower ho0 (below_size (by repeat (first | (with_reducible first | exact HB.out | apply below_alloc | apply pw_below_drewN | apply below_drew1) | exact HB.out)))); have n2_ := Aside0.mk (below_step (by repeat (first | (with_reducible first | exact HB.out | apply below_alloc | apply pw_below_drewN | apply below_drew1) | exact HB.out)) hb); clear HO_5; clear HB; have HO_5 := n0_; have HO432 := n1_; have HB := n2_; clear n0_ n1_ n2_; (try clear hb); (try clear ho0); obtain ⟨Ao38, co38, eo38⟩ := Kd.R_slice HO432.out; subst eo38) | ((with_reducible refine gate_callee (f := 17) rfl ?_); refine goesL_ (some 68) rfl rfl Try.func17 (by kernel_rfl) rfl #[.slice A0 l0.length c0, .int .i64 a1] rfl (by (try simp only [List.map_toArray, List.map_cons, List.map_nil]); first | done | rfl | (simp only [List.length_drop, List.length_take]; rfl)) ?_; (with_reducible refine (tree_Kids.calls kj14 _ _ l0 a1 t433 _ ?side1 ?side2 A32.out).mono ?_); (case side1 => repeat (first | exact (Kd.C_below HR0.out HB.out) | (with_reducible refine Kd.C_alloc ?_ _) | (with_reducible refine Kd.C_drewN ?_ _) | (with_reducible refine Kd.C_drew ?_))); (case side2 => exact HC0.out); rintro e w39 ⟨v434, rfl, ho0, hb⟩; refine ⟨_, rfl, ?_⟩; have n0_ := Aside0.mk (Kd.R_below (by (with_reducible repeat (first | apply Kd.R_alloc | apply Kd.R_drewN | apply Kd.R_drew)); exact HO_5.out) hb); have n1_ := Aside0.mk (Kd.R_elder' (by (with_reducible repeat (first | apply Kd.R_alloc | apply Kd.R_drewN | apply Kd.R_drew)); exact HO432.out) (Kd.R_base ho0) hb); have n2_ := Aside0.mk (Kd.R_lower (Kd.R_new' ho0 (Kd.R_lt (by (with_reducible repeat (first | apply Kd.R_alloc | apply Kd.R_drewN | apply Kd.R_drew)); exact HO432.out))) (below_size (by repeat (first | (with_reducible first | exact HB.out | apply below_alloc | apply pw_below_drewN | apply below_drew1) | exact HB.out)))); have n3_ := Aside0.mk (below_step (by repeat (first | (with_reducible first | exact HB.out | apply below_alloc | apply pw_below_drewN | apply below_drew1) | exact HB.out)) hb); clear HO_5; clear HO432; clear HB; have HO_5 := n0_; have HO432 := n1_; have HO435 := n2_; have HB := n3_; clear n0_ n1_ n2_ n3_; (try clear hb); (try clear ho0); obtain ⟨Ao40, co40, eo40⟩ := Kd.R_slice HO435.out; subst eo40) | (go_at_call 21; (with_reducible refine (tree_Depth.calls kj14 _ _ t418 t436 _ ?side1 ?side2 A34.out).mono ?_); (case side1 => repeat (first | exact (Kd.R_reads' HO_5.out).2.2 | (with_reducible refine Kd.C_alloc ?_ _) | (with_reducible refine Kd.C_drewN ?_ _) | (with_reducible refine Kd.C_drew ?_))); (case side2 => exact (Kd.R_reads' HO_5.out).2.1); rintro e w41 ⟨rfl, hb⟩; have n0_ := Aside0.mk (Kd.R_below (by (with_reducible repeat (first | apply Kd.R_alloc | apply Kd.R_drewN | apply Kd.R_drew)); exact HO_5.out) hb); have n1_ := Aside0.mk (Kd.R_below (by (with_reducible repeat (first | apply Kd.R_alloc | apply Kd.R_drewN | apply Kd.R_drew)); exact HO432.out) hb); have n2_ := Aside0.mk (Kd.R_below (by (with_reducible repeat (first | apply Kd.R_alloc | apply Kd.R_drewN | apply Kd.R_drew)); exact HO435.out) hb); have n3_ := Aside0.mk (below_step (by repeat (first | (with_reducible first | exact HB.out | apply below_alloc | apply pw_below_drewN | apply below_drew1) | exact HB.out)) hb); clear HO_5; clear HO432; clear HO435; clear HB; have HO_5 := n0_; have HO432 := n1_; have HO435 := n2_; have HB := n3_; clear n0_ n1_ n2_ n3_; (try clear hb)) | (go_at_call 10; (with_reducible refine (chrysalislaw09_known.calls kj14  t437 _ A36.out).mono ?_); rintro e w42 ⟨rfl, hb⟩; have n0_ := Aside0.mk (Kd.R_below (by (with_reducible repeat (first | apply Kd.R_alloc | apply Kd.R_drewN | apply Kd.R_drew)); exact HO_5.out) hb); have n1_ := Aside0.mk (Kd.R_below (by (with_reducible repeat (first | apply Kd.R_alloc | apply Kd.R_drewN | apply Kd.R_drew)); exact HO432.out) hb); have n2_ := Aside0.mk (Kd.R_below (by (with_reducible repeat (first | apply Kd.R_alloc | apply Kd.R_drewN | apply Kd.R_drew)); exact HO435.out) hb); have n3_ := Aside0.mk (below_step (by repeat (first | (with_reducible first | exact HB.out | apply below_alloc | apply pw_below_drewN | apply below_drew1) | exact HB.out)) hb); clear HO_5; clear HO432; clear HO435; clear HB; have HO_5 := n0_; have HO432 := n1_; have HO435 := n2_; have HB := n3_; clear n0_ n1_ n2_ n3_; (try clear hb)))
                go_ret
                exact ⟨by first | rfl | (simp [errW_none, errW_some] <;> rfl) | (simp [*, errW_none, errW_some] <;> rfl), by repeat (first | (with_reducible first | exact HB.out | apply below_alloc | apply pw_below_drewN | apply below_drew1) | exact HB.out)⟩
              · rw [if_neg c35] at H
                have c35b0 : decide (1 ≤ t436) = false := decide_eq_false c35
                clear c35
                exact absurd ((Option.some.inj H).trans HR.out) (by decide)
            · rw [if_neg c33] at H
              have c33b0 : ((t430.length : Int) == (t433.length : Int)) = false := beq_eq_false_iff_ne.mpr c33
              have c33b1 : ((t430.length : Int) != (t433.length : Int)) = true := bne_iff_ne.mpr c33
              have c33b2 : (t430.length == t433.length) = false := by first | simpa using c33 | (simp at c33 ⊢; omega)
              exact absurd ((Option.some.inj H).trans HR.out) (by decide)
  · replace c4 := Bool.eq_false_iff.mpr c4
    subst c4
    have H1 : ((chrysalislaw09_known.f k).bind fun t417 => (some t417)) = some r := by rw [if_neg (show ¬ (false = true) by decide)] at H; exact H
    clear H
    have H := H1
    clear H1
    replace H := Option.bind_eq_some_iff.mp H
    obtain ⟨t417, A520, H⟩ := H
    replace H : (some t417) = some r := H
    have A52 := Aside0.mk A520
    clear A520
    obtain rfl := Option.some.inj H
    go_enter Try.func8, Try.ntmps8
    go_wp2_with (first | ((with_reducible refine gate_callee (f := 9) rfl ?_); refine goesL_ (some 7) rfl rfl Try.func9 (by kernel_rfl) rfl #[.slice A0 l0.length c0] rfl (by (try simp only [List.map_toArray, List.map_cons, List.map_nil]); first | done | rfl | (simp only [List.length_drop, List.length_take]; rfl)) ?_; (with_reducible refine (chrysalisref09_Light.calls k _ _ l0 false _ ?side1 ?side2 A3.out).mono ?_); (case side1 => repeat (first | exact HR0.out | (with_reducible refine Kd.C_alloc ?_ _) | (with_reducible refine Kd.C_drewN ?_ _) | (with_reducible refine Kd.C_drew ?_))); (case side2 => exact HC0.out); rintro e w' ⟨rfl, ⟨nd, rfl⟩⟩; refine ⟨_, rfl, ?_⟩) | ((with_reducible refine gate_callee (f := 10) rfl ?_); refine goesL_ (some 9) rfl rfl Try.func10 (by kernel_rfl) rfl #[] rfl (by (try simp only [List.map_toArray, List.map_cons, List.map_nil]); first | done | rfl | (simp only [List.length_drop, List.length_take]; rfl)) ?_; (with_reducible refine (chrysalislaw09_known.calls k  t417 _ A52.out).mono ?_); rintro e w53 ⟨rfl, hb⟩; refine ⟨_, rfl, ?_⟩; have n0_ := Aside0.mk (below_step (by repeat (first | (with_reducible first | exact HB.out | apply below_alloc | apply pw_below_drewN | apply below_drew1) | exact HB.out)) hb); clear HB; have HB := n0_; clear n0_; (try clear hb)))
    go_ret
    exact ⟨by first | rfl | (simp [errW_none, errW_some] <;> rfl) | (simp [*, errW_none, errW_some] <;> rfl), by repeat (first | (with_reducible first | exact HB.out | apply below_alloc | apply pw_below_drewN | apply below_drew1) | exact HB.out)⟩

end Go.Proofs.Ytclhaajlgmiilaa.Q
