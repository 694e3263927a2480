/- Functions that the laws reach, as plain Lean functions, each with a proof that the call does what its function says; no condition. -/
import Derived.Test.YtclhaajlgmiilaaQ0
import Derived.Test.YtclhaajlgmiilaaQ2
import Derived.Test.YtclhaajlgmiilaaQ3
import Derived.Test.YtclhaajlgmiilaaQ4
import Derived.Test.YtclhaajlgmiilaaQ5
import Derived.Test.YtclhaajlgmiilaaQ18
import Derived.Test.YtclhaajlgmiilaaQ19
namespace Go.Proofs.Ytclhaajlgmiilaa.Q
open Go.RowKit Go.Proofs.YtclhaajlgmiilaaW.PrintWords Go.Proofs.YtclhaajlgmiilaaW.PrintLast Go.Proofs.YtclhaajlgmiilaaW.PrintMore
attribute [local go_sem] max2_int min2_int max_two min_two max_three min_three max_four min_four   -- for this text's walks alone
set_option linter.unusedVariables false
set_option linter.unusedSimpArgs false

/-! ### chrysalislaw09_TreeKids: function 6 -/
mutual
def chrysalislaw09_TreeKids.j0 : Nat → List (S36) → Int → Int → List Int → Bool → Option (Bool)
  | 0, _, _, _, _, _ => none
  | k + 1, x0, x1, x5, x6, x59 => if x59 = true then (some false) else ((tree_Sub.f k x0 x1).bind fun t379 => ((tree_Depth.f k t379).bind fun t382 => (chrysalislaw09_TreeKids.l0 k x0 x5 x6 (wrap64 (x1 + 1)) t382 0 0)))
def chrysalislaw09_TreeKids.l0 : Nat → List (S36) → Int → List Int → Int → Int → Int → Int → Option (Bool)
  | 0, _, _, _, _, _, _, _ => none
  | k + 1, x0, x5, x6, x7, x8, x9, x10 => if x10 < (x6.length : Int) then (if 0 ≤ x10 then (if (rd x6 x10) = x7 then ((tree_Sub.f k x0 x7).bind fun t385 => (if (t385.length : Int) = 0 then (some false) else ((tree_Depth.f k t385).bind fun t388 => (chrysalislaw09_TreeKids.l0 k x0 x5 x6 (wrap64 (x7 + (t385.length : Int))) x8 (mx x9 t388) (wrap64 (x10 + 1)))))) else (some false)) else (none)) else (if x7 = x5 then (if x8 = (wrap64 (x9 + 1)) then ((chrysalislaw09_known.f k).bind fun t383 => (some t383)) else (some false)) else (some false))
end
def chrysalislaw09_TreeKids.f (k : Nat) (l0 : List (S36)) (a1 : Int) : Option (Bool) := (chrysalisref09_Light.f k l0).bind fun t368 => (if t368 = true then ((tree_End.f k l0 a1).bind fun t370 => ((tree_Kids.f k l0 a1).bind fun t371 => (if t370 < 0 then (if (t371.length : Int) = 0 then ((tree_Sub.f k l0 a1).bind fun t374 => (if (t374.length : Int) = 0 then ((chrysalislaw09_known.f k).bind fun t377 => (some t377)) else (some false))) else (some false)) else (if a1 < 0 then (chrysalislaw09_TreeKids.j0 k l0 a1 t370 t371 true) else (if t370 ≤ a1 then (chrysalislaw09_TreeKids.j0 k l0 a1 t370 t371 true) else (if t370 > (l0.length : Int) then (chrysalislaw09_TreeKids.j0 k l0 a1 t370 t371 true) else (if 0 ≤ a1 then (if a1 < (l0.length : Int) then (chrysalislaw09_TreeKids.j0 k l0 a1 t370 t371 ((t371.length : Int) != ((rd_T36 l0 a1).f1))) else (none)) else (none)))))))) else ((chrysalislaw09_known.f k).bind fun t369 => (some t369)))
theorem chrysalislaw09_TreeKids.mono_l : ∀ k, (∀ y0 y1 y2 y3 y4, LeO (chrysalislaw09_TreeKids.j0 k y0 y1 y2 y3 y4) (chrysalislaw09_TreeKids.j0 (k + 1) y0 y1 y2 y3 y4)) ∧ (∀ y0 y1 y2 y3 y4 y5 y6, LeO (chrysalislaw09_TreeKids.l0 k y0 y1 y2 y3 y4 y5 y6) (chrysalislaw09_TreeKids.l0 (k + 1) y0 y1 y2 y3 y4 y5 y6))
  | 0 => ⟨fun _ _ _ _ _ r h => by simp [chrysalislaw09_TreeKids.j0] at h, fun _ _ _ _ _ _ _ r h => by simp [chrysalislaw09_TreeKids.l0] at h⟩
  | k + 1 => by
    obtain ⟨ih0, ih1⟩ := chrysalislaw09_TreeKids.mono_l k
    refine ⟨?_, ?_⟩
    · intro y0 y1 y2 y3 y4
      unfold chrysalislaw09_TreeKids.j0
      repeat' first
      | (with_reducible exact ih0 _ _ _ _ _)
      | (with_reducible exact ih1 _ _ _ _ _ _ _)
      | (with_reducible exact chrysalislaw09_known.mono _)
      | (with_reducible exact chrysalisref09_Light.mono _ _)
      | (with_reducible exact tree_Depth.mono _ _)
      | (with_reducible exact tree_End.mono _ _ _)
      | (with_reducible exact tree_Kids.mono _ _ _)
      | (with_reducible exact tree_Sub.mono _ _ _)
      | (with_reducible exact LeO.refl _)
      | (with_reducible exact LeO.none _)
      | (with_reducible refine LeO.ite ?_ ?_)
      | (with_reducible refine LeO.bind ?_ (fun _ => ?_))
      | exact ih0 _ _ _ _ _
      | exact ih1 _ _ _ _ _ _ _
      | exact chrysalislaw09_known.mono _
      | exact chrysalisref09_Light.mono _ _
      | exact tree_Depth.mono _ _
      | exact tree_End.mono _ _ _
      | exact tree_Kids.mono _ _ _
      | exact tree_Sub.mono _ _ _
      | exact LeO.none _
      | refine LeO.ite ?_ ?_
      | refine LeO.bind ?_ (fun _ => ?_)
    · intro y0 y1 y2 y3 y4 y5 y6
      unfold chrysalislaw09_TreeKids.l0
      repeat' first
      | (with_reducible exact ih0 _ _ _ _ _)
      | (with_reducible exact ih1 _ _ _ _ _ _ _)
      | (with_reducible exact chrysalislaw09_known.mono _)
      | (with_reducible exact chrysalisref09_Light.mono _ _)
      | (with_reducible exact tree_Depth.mono _ _)
      | (with_reducible exact tree_End.mono _ _ _)
      | (with_reducible exact tree_Kids.mono _ _ _)
      | (with_reducible exact tree_Sub.mono _ _ _)
      | (with_reducible exact LeO.refl _)
      | (with_reducible exact LeO.none _)
      | (with_reducible refine LeO.ite ?_ ?_)
      | (with_reducible refine LeO.bind ?_ (fun _ => ?_))
      | exact ih0 _ _ _ _ _
      | exact ih1 _ _ _ _ _ _ _
      | exact chrysalislaw09_known.mono _
      | exact chrysalisref09_Light.mono _ _
      | exact tree_Depth.mono _ _
      | exact tree_End.mono _ _ _
      | exact tree_Kids.mono _ _ _
      | exact tree_Sub.mono _ _ _
      | exact LeO.none _
      | refine LeO.ite ?_ ?_
      | refine LeO.bind ?_ (fun _ => ?_)
theorem chrysalislaw09_TreeKids.mono : ∀ a0 a1 k, LeO (chrysalislaw09_TreeKids.f k a0 a1) (chrysalislaw09_TreeKids.f (k + 1) a0 a1) := by
  intro a0 a1 k
  obtain ⟨ih0, ih1⟩ := chrysalislaw09_TreeKids.mono_l k
  unfold chrysalislaw09_TreeKids.f
  repeat' first
      | (with_reducible exact ih0 _ _ _ _ _)
      | (with_reducible exact ih1 _ _ _ _ _ _ _)
      | (with_reducible exact chrysalislaw09_known.mono _)
      | (with_reducible exact chrysalisref09_Light.mono _ _)
      | (with_reducible exact tree_Depth.mono _ _)
      | (with_reducible exact tree_End.mono _ _ _)
      | (with_reducible exact tree_Kids.mono _ _ _)
      | (with_reducible exact tree_Sub.mono _ _ _)
      | (with_reducible exact LeO.refl _)
      | (with_reducible exact LeO.none _)
      | (with_reducible refine LeO.ite ?_ ?_)
      | (with_reducible refine LeO.bind ?_ (fun _ => ?_))
      | exact ih0 _ _ _ _ _
      | exact ih1 _ _ _ _ _ _ _
      | exact chrysalislaw09_known.mono _
      | exact chrysalisref09_Light.mono _ _
      | exact tree_Depth.mono _ _
      | exact tree_End.mono _ _ _
      | exact tree_Kids.mono _ _ _
      | exact tree_Sub.mono _ _ _
      | exact LeO.none _
      | refine LeO.ite ?_ ?_
      | refine LeO.bind ?_ (fun _ => ?_)
set_option maxHeartbeats 8000000 in
set_option maxRecDepth 100000 in
theorem chrysalislaw09_TreeKids.calls (k : Nat) (A0 : Option Addr) (c0 : Nat) (l0 : List (S36)) (a1 : Int) (r : Bool) (w : World) (hr0 : Kd.C k36 w A0 l0.length l0) (hc0 : l0.length ≤ c0) (h : chrysalislaw09_TreeKids.f k l0 a1 = some r) (hr : r = true) :
    Calls Try.prog 6 #[.slice A0 l0.length c0, .int .i64 a1] w fun e w' => e = .returned (.bool r) ∧ Below w.heap.size w w' := by
  have HR0 := Aside0.mk hr0
  have HC0 := Aside0.mk hc0
  clear hr0 hc0
  have HB := Aside0.mk (Below.refl w.heap.size w)
  have HR := Aside0.mk hr
  clear hr
  have H : ((chrysalisref09_Light.f k l0).bind fun t368 => (if t368 = true then ((tree_End.f k l0 a1).bind fun t370 => ((tree_Kids.f k l0 a1).bind fun t371 => (if t370 < 0 then (if (t371.length : Int) = 0 then ((tree_Sub.f k l0 a1).bind fun t374 => (if (t374.length : Int) = 0 then ((chrysalislaw09_known.f k).bind fun t377 => (some t377)) else (some false))) else (some false)) else (if a1 < 0 then (chrysalislaw09_TreeKids.j0 k l0 a1 t370 t371 true) else (if t370 ≤ a1 then (chrysalislaw09_TreeKids.j0 k l0 a1 t370 t371 true) else (if t370 > (l0.length : Int) then (chrysalislaw09_TreeKids.j0 k l0 a1 t370 t371 true) else (if 0 ≤ a1 then (if a1 < (l0.length : Int) then (chrysalislaw09_TreeKids.j0 k l0 a1 t370 t371 ((t371.length : Int) != ((rd_T36 l0 a1).f1))) else (none)) else (none)))))))) else ((chrysalislaw09_known.f k).bind fun t369 => (some t369)))) = some r := h
  clear h
  replace H := Option.bind_eq_some_iff.mp H
  obtain ⟨t368, A30, H⟩ := H
  try dsimp only at H
  have A3 := Aside0.mk A30
  clear A30
  by_cases c4 : t368 = true
  · subst c4
    rw [if_pos rfl] at H
    have H1 := H
    clear H
    have H := H1
    clear H1
    replace H := Option.bind_eq_some_iff.mp H
    obtain ⟨t370, A50, H⟩ := H
    try dsimp only at H
    have A5 := Aside0.mk A50
    clear A50
    replace H := Option.bind_eq_some_iff.mp H
    obtain ⟨t371, A60, H⟩ := H
    try dsimp only at H
    have A6 := Aside0.mk A60
    clear A60
    by_cases c7 : t370 < 0
    · rw [if_pos c7] at H
      have c7b0 : decide (t370 < 0) = true := decide_eq_true c7
      clear c7
      by_cases c8 : (t371.length : Int) = 0
      · rw [if_pos c8] at H
        have c8b0 : ((t371.length : Int) == 0) = true := beq_iff_eq.mpr c8
        have c8b1 : ((t371.length : Int) != 0) = false := bne_eq_false_iff_eq.mpr c8
        clear c8
        replace H := Option.bind_eq_some_iff.mp H
        obtain ⟨t374, A90, H⟩ := H
        replace H : (if (t374.length : Int) = 0 then ((chrysalislaw09_known.f k).bind fun t377 => (some t377)) else (some false)) = some r := H
        have A9 := Aside0.mk A90
        clear A90
        by_cases c10 : (t374.length : Int) = 0
        · rw [if_pos c10] at H
          have c10b0 : ((t374.length : Int) == 0) = true := beq_iff_eq.mpr c10
          have c10b1 : ((t374.length : Int) != 0) = false := bne_eq_false_iff_eq.mpr c10
          clear c10
          replace H := Option.bind_eq_some_iff.mp H
          obtain ⟨t377, A110, H⟩ := H
          replace H : (some t377) = some r := H
          have A11 := Aside0.mk A110
          clear A110
          obtain rfl := Option.some.inj H
          go_enter Try.func6, Try.ntmps6
          go_wp2_with (first | ((with_reducible refine gate_callee (f := 9) rfl ?_); refine goesL_ (some 13) rfl rfl Try.func9 (by kernel_rfl) rfl #[.slice A0 l0.length c0] rfl (by (try simp only [List.map_toArray, List.map_cons, List.map_nil]); first | done | rfl | (simp only [List.length_drop, List.length_take]; rfl)) ?_; (with_reducible refine (chrysalisref09_Light.calls k _ _ l0 true _ ?side1 ?side2 A3.out).mono ?_); (case side1 => repeat (first | exact HR0.out | (with_reducible refine Kd.C_alloc ?_ _) | (with_reducible refine Kd.C_drewN ?_ _) | (with_reducible refine Kd.C_drew ?_))); (case side2 => exact HC0.out); rintro e w' ⟨rfl, ⟨nd, rfl⟩⟩; refine ⟨_, rfl, ?_⟩) | ((with_reducible refine gate_callee (f := 14) rfl ?_); refine goesL_ (some 18) rfl rfl Try.func14 (by kernel_rfl) rfl #[.slice A0 l0.length c0, .int .i64 a1] rfl (by (try simp only [List.map_toArray, List.map_cons, List.map_nil]); first | done | rfl | (simp only [List.length_drop, List.length_take]; rfl)) ?_; (with_reducible refine (tree_End.calls k _ _ l0 a1 t370 _ ?side1 ?side2 A5.out).mono ?_); (case side1 => repeat (first | exact HR0.out | (with_reducible refine Kd.C_alloc ?_ _) | (with_reducible refine Kd.C_drewN ?_ _) | (with_reducible refine Kd.C_drew ?_))); (case side2 => exact HC0.out); rintro e w' ⟨rfl, ⟨nd, rfl⟩⟩; refine ⟨_, rfl, ?_⟩) | ((with_reducible refine gate_callee (f := 17) rfl ?_); refine goesL_ (some 21) rfl rfl Try.func17 (by kernel_rfl) rfl #[.slice A0 l0.length c0, .int .i64 a1] rfl (by (try simp only [List.map_toArray, List.map_cons, List.map_nil]); first | done | rfl | (simp only [List.length_drop, List.length_take]; rfl)) ?_; (with_reducible refine (tree_Kids.calls k _ _ l0 a1 t371 _ ?side1 ?side2 A6.out).mono ?_); (case side1 => repeat (first | exact HR0.out | (with_reducible refine Kd.C_alloc ?_ _) | (with_reducible refine Kd.C_drewN ?_ _) | (with_reducible refine Kd.C_drew ?_))); (case side2 => exact HC0.out); rintro e w12 ⟨v372, rfl, ho0, hb⟩; refine ⟨_, rfl, ?_⟩; have n0_ := Aside0.mk (Kd.R_lower ho0 (below_size (by repeat (first | (with_reducible first | exact HB.out | apply below_alloc | apply pw_below_drewN | apply below_drew1) | exact HB.out)))); have n1_ := Aside0.mk (below_step (by repeat (first | (with_reducible first | exact HB.out | apply below_alloc | apply pw_below_drewN | apply below_drew1) | exact HB.out)) hb); clear HB; have HO373 := n0_; have HB := n1_; clear n0_ n1_; (try clear hb); (try clear ho0); obtain ⟨Ao13, co13, eo13⟩ := Kd.R_slice HO373.out; subst eo13) | (go_at_call 13; (with_reducible refine (tree_Sub.calls k _ _ l0 a1 t374 _ ?side1 ?side2 A9.out).mono ?_); (case side1 => repeat (first | exact (Kd.C_below HR0.out HB.out) | (with_reducible refine Kd.C_alloc ?_ _) | (with_reducible refine Kd.C_drewN ?_ _) | (with_reducible refine Kd.C_drew ?_))); (case side2 => exact HC0.out); rintro e w14 ⟨v375, rfl, ho0, hb⟩; have n0_ := Aside0.mk (Kd.R_below (by (with_reducible repeat (first | apply Kd.R_alloc | apply Kd.R_drewN | apply Kd.R_drew)); exact HO373.out) hb); have n1_ := Aside0.mk (Kd.R_lower ho0 (below_size (by repeat (first | (with_reducible first | exact HB.out | apply below_alloc | apply pw_below_drewN | apply below_drew1) | exact HB.out)))); have n2_ := Aside0.mk (below_step (by repeat (first | (with_reducible first | exact HB.out | apply below_alloc | apply pw_below_drewN | apply below_drew1) | exact HB.out)) hb); clear HO373; clear HB; have HO373 := n0_; have HO376 := n1_; have HB := n2_; clear n0_ n1_ n2_; (try clear hb); (try clear ho0); obtain ⟨Ao15, co15, eo15⟩ := Kd.R_slice HO376.out; subst eo15) | (go_at_call 10; (with_reducible refine (chrysalislaw09_known.calls k  t377 _ A11.out).mono ?_); rintro e w16 ⟨rfl, hb⟩; have n0_ := Aside0.mk (Kd.R_below (by (with_reducible repeat (first | apply Kd.R_alloc | apply Kd.R_drewN | apply Kd.R_drew)); exact HO373.out) hb); have n1_ := Aside0.mk (Kd.R_below (by (with_reducible repeat (first | apply Kd.R_alloc | apply Kd.R_drewN | apply Kd.R_drew)); exact HO376.out) hb); have n2_ := Aside0.mk (below_step (by repeat (first | (with_reducible first | exact HB.out | apply below_alloc | apply pw_below_drewN | apply below_drew1) | exact HB.out)) hb); clear HO373; clear HO376; clear HB; have HO373 := n0_; have HO376 := n1_; have HB := n2_; clear n0_ n1_ n2_; (try clear hb)))
          go_ret
          exact ⟨by first | rfl | (simp [errW_none, errW_some] <;> rfl) | (simp [*, errW_none, errW_some] <;> rfl), by repeat (first | (with_reducible first | exact HB.out | apply below_alloc | apply pw_below_drewN | apply below_drew1) | exact HB.out)⟩
        · rw [if_neg c10] at H
          have c10b0 : ((t374.length : Int) == 0) = false := beq_eq_false_iff_ne.mpr c10
          have c10b1 : ((t374.length : Int) != 0) = true := bne_iff_ne.mpr c10
          have c10b2 : ¬ (t374 = []) := fun h_ => c10 (by rw [h_]; rfl)
          exact absurd ((Option.some.inj H).trans HR.out) (by decide)
      · rw [if_neg c8] at H
        have c8b0 : ((t371.length : Int) == 0) = false := beq_eq_false_iff_ne.mpr c8
        have c8b1 : ((t371.length : Int) != 0) = true := bne_iff_ne.mpr c8
        have c8b2 : ¬ (t371 = []) := fun h_ => c8 (by rw [h_]; rfl)
        exact absurd ((Option.some.inj H).trans HR.out) (by decide)
    · rw [if_neg c7] at H
      have c7b0 : decide (t370 < 0) = false := decide_eq_false c7
      clear c7
      have HC23 := Aside0.mk H
      clear H
      go_enter Try.func6, Try.ntmps6
      go_upto_region 7 with (first | ((with_reducible refine gate_callee (f := 9) rfl ?_); refine goesL_ (some 13) rfl rfl Try.func9 (by kernel_rfl) rfl #[.slice A0 l0.length c0] rfl (by (try simp only [List.map_toArray, List.map_cons, List.map_nil]); first | done | rfl | (simp only [List.length_drop, List.length_take]; rfl)) ?_; (with_reducible refine (chrysalisref09_Light.calls k _ _ l0 true _ ?side1 ?side2 A3.out).mono ?_); (case side1 => repeat (first | exact HR0.out | (with_reducible refine Kd.C_alloc ?_ _) | (with_reducible refine Kd.C_drewN ?_ _) | (with_reducible refine Kd.C_drew ?_))); (case side2 => exact HC0.out); rintro e w' ⟨rfl, ⟨nd, rfl⟩⟩; refine ⟨_, rfl, ?_⟩) | ((with_reducible refine gate_callee (f := 14) rfl ?_); refine goesL_ (some 18) rfl rfl Try.func14 (by kernel_rfl) rfl #[.slice A0 l0.length c0, .int .i64 a1] rfl (by (try simp only [List.map_toArray, List.map_cons, List.map_nil]); first | done | rfl | (simp only [List.length_drop, List.length_take]; rfl)) ?_; (with_reducible refine (tree_End.calls k _ _ l0 a1 t370 _ ?side1 ?side2 A5.out).mono ?_); (case side1 => repeat (first | exact HR0.out | (with_reducible refine Kd.C_alloc ?_ _) | (with_reducible refine Kd.C_drewN ?_ _) | (with_reducible refine Kd.C_drew ?_))); (case side2 => exact HC0.out); rintro e w' ⟨rfl, ⟨nd, rfl⟩⟩; refine ⟨_, rfl, ?_⟩) | ((with_reducible refine gate_callee (f := 17) rfl ?_); refine goesL_ (some 21) rfl rfl Try.func17 (by kernel_rfl) rfl #[.slice A0 l0.length c0, .int .i64 a1] rfl (by (try simp only [List.map_toArray, List.map_cons, List.map_nil]); first | done | rfl | (simp only [List.length_drop, List.length_take]; rfl)) ?_; (with_reducible refine (tree_Kids.calls k _ _ l0 a1 t371 _ ?side1 ?side2 A6.out).mono ?_); (case side1 => repeat (first | exact HR0.out | (with_reducible refine Kd.C_alloc ?_ _) | (with_reducible refine Kd.C_drewN ?_ _) | (with_reducible refine Kd.C_drew ?_))); (case side2 => exact HC0.out); rintro e w24 ⟨v372, rfl, ho0, hb⟩; refine ⟨_, rfl, ?_⟩; have n0_ := Aside0.mk (Kd.R_lower ho0 (below_size (by repeat (first | (with_reducible first | exact HB.out | apply below_alloc | apply pw_below_drewN | apply below_drew1) | exact HB.out)))); have n1_ := Aside0.mk (below_step (by repeat (first | (with_reducible first | exact HB.out | apply below_alloc | apply pw_below_drewN | apply below_drew1) | exact HB.out)) hb); clear HB; have HO373 := n0_; have HB := n1_; clear n0_ n1_; (try clear hb); (try clear ho0)))
      (try simp only [Act.put, List.setIfInBounds_toArray, List.set_cons_zero, List.set_cons_succ])
      go_cut [59] (fun v59 wc => ∃ (kq : Nat) (x59_22 : Bool), v59 = .bool x59_22 ∧ Aside0 (chrysalislaw09_TreeKids.j0 kq l0 a1 t370 t371 x59_22 = some r) ∧ Aside0 (kq ≤ k) ∧ Aside0 (Kd.R (Kd.int .i64) 3 wc w.heap.size (fun _ => True) v372 t371) ∧ Aside0 (Below w.heap.size w wc))
      case first =>
        have H := HC23.out
        clear HC23
        by_cases c25 : a1 < 0
        · rw [if_pos c25] at H
          have c25b0 : decide (a1 < 0) = true := decide_eq_true c25
          clear c25
          (first | rw [c25b0] | (simp only [i64_w, i32_w]; rw [c25b0]) | skip)
          have H' := Aside0.mk H
          clear H
          go_wp2
          go_meet
          case rel => exact ⟨_, (true), (by first | rfl | (simp; done) | (simp [*]; done)), H', ⟨by first | omega | exact Nat.le_refl _⟩, ⟨by (with_reducible repeat (first | apply Kd.R_alloc | apply Kd.R_drewN | apply Kd.R_drew)); exact HO373.out⟩, ⟨by repeat (first | (with_reducible first | exact HB.out | apply below_alloc | apply pw_below_drewN | apply below_drew1) | exact HB.out)⟩⟩
        · rw [if_neg c25] at H
          have c25b0 : decide (a1 < 0) = false := decide_eq_false c25
          clear c25
          (first | rw [c25b0] | (simp only [i64_w, i32_w]; rw [c25b0]) | skip)
          by_cases c26 : t370 ≤ a1
          · rw [if_pos c26] at H
            have c26b0 : decide (t370 ≤ a1) = true := decide_eq_true c26
            clear c26
            have H' := Aside0.mk H
            clear H
            go_wp2
            go_meet
            case rel => exact ⟨_, (true), (by first | rfl | (simp; done) | (simp [*]; done)), H', ⟨by first | omega | exact Nat.le_refl _⟩, ⟨by (with_reducible repeat (first | apply Kd.R_alloc | apply Kd.R_drewN | apply Kd.R_drew)); exact HO373.out⟩, ⟨by repeat (first | (with_reducible first | exact HB.out | apply below_alloc | apply pw_below_drewN | apply below_drew1) | exact HB.out)⟩⟩
          · rw [if_neg c26] at H
            have c26b0 : decide (t370 ≤ a1) = false := decide_eq_false c26
            clear c26
            by_cases c27 : t370 > (l0.length : Int)
            · rw [if_pos c27] at H
              have c27b0 : decide ((l0.length : Int) < t370) = true := decide_eq_true c27
              clear c27
              have H' := Aside0.mk H
              clear H
              go_wp2
              go_meet
              case rel => exact ⟨_, (true), (by first | rfl | (simp; done) | (simp [*]; done)), H', ⟨by first | omega | exact Nat.le_refl _⟩, ⟨by (with_reducible repeat (first | apply Kd.R_alloc | apply Kd.R_drewN | apply Kd.R_drew)); exact HO373.out⟩, ⟨by repeat (first | (with_reducible first | exact HB.out | apply below_alloc | apply pw_below_drewN | apply below_drew1) | exact HB.out)⟩⟩
            · rw [if_neg c27] at H
              have c27b0 : decide ((l0.length : Int) < t370) = false := decide_eq_false c27
              clear c27
              by_cases c28 : 0 ≤ a1
              · rw [if_pos c28] at H
                have c28b0 : decide (0 ≤ a1) = true := decide_eq_true c28
                clear c28
                by_cases c29 : a1 < (l0.length : Int)
                · rw [if_pos c29] at H
                  have c29b0 : decide (a1 < (l0.length : Int)) = true := decide_eq_true c29
                  clear c29
                  have H' := Aside0.mk H
                  clear H
                  obtain ⟨Ao30, co30, eo30⟩ := Kd.R_slice HO373.out
                  subst eo30
                  have p378 : 0 ≤ (a1 : Int) := of_decide_eq_true (by first | (with_reducible assumption) | assumption)
                  have q378 : a1 < (l0.length : Int) := of_decide_eq_true (by first | (with_reducible assumption) | assumption)
                  obtain ⟨ad378, e378, hx378_0, hx378_1, hx378_2, hx378_3, hx378_4⟩ := at_T36 HR0.out a1 p378 q378
                  cases e378
                  replace hx378_0 := (HB.out.cell (World.block_lt_of_cell? w _ hx378_0)).trans hx378_0
                  replace hx378_1 := (HB.out.cell (World.block_lt_of_cell? w _ hx378_1)).trans hx378_1
                  replace hx378_2 := (HB.out.cell (World.block_lt_of_cell? w _ hx378_2)).trans hx378_2
                  replace hx378_3 := (HB.out.cell (World.block_lt_of_cell? w _ hx378_3)).trans hx378_3
                  replace hx378_4 := (HB.out.cell (World.block_lt_of_cell? w _ hx378_4)).trans hx378_4
                  replace p378 := eq_true p378
                  replace q378 := eq_true q378
                  go_wp2
                  go_meet
                  case rel => exact ⟨_, (((t371.length : Int) != ((rd_T36 l0 a1).f1))), (by first | rfl | (simp; done) | (simp [*]; done)), H', ⟨by first | omega | exact Nat.le_refl _⟩, ⟨by (with_reducible repeat (first | apply Kd.R_alloc | apply Kd.R_drewN | apply Kd.R_drew)); exact HO373.out⟩, ⟨by repeat (first | (with_reducible first | exact HB.out | apply below_alloc | apply pw_below_drewN | apply below_drew1) | exact HB.out)⟩⟩
                · rw [if_neg c29] at H
                  exact absurd H (by simp)
              · rw [if_neg c28] at H
                exact absurd H (by simp)
      case rest =>
        clear HC23
        try clear c1
        try clear c2
        try clear p2
        try clear p3
        try clear q3
        try clear hx3
        try clear c4
        try clear c6
        try clear c7
        try clear c7b0
        try clear c8
        try clear c8b0
        try clear c8b1
        try clear c8b2
        try clear c9
        try clear c10
        try clear c10b0
        try clear c10b1
        try clear c10b2
        try clear c14
        try clear c17
        try clear c25
        try clear c25b0
        try clear c26
        try clear c26b0
        try clear c27
        try clear c27b0
        try clear c28
        try clear c28b0
        try clear c29
        try clear c29b0
        try clear hx378_0
        try clear hx378_1
        try clear hx378_2
        try clear hx378_3
        try clear hx378_4
        try clear p378
        try clear q378
        obtain ⟨kq, x59_22, rfl, HA, HJ22, HO_6, HB⟩ := hcut
        cases kq with
        | zero => exact absurd HA.out (by simp [chrysalislaw09_TreeKids.j0])
        | succ kj22 =>
          have H := HA.out
          clear HA
          simp only [chrysalislaw09_TreeKids.j0] at H
          by_cases c31 : x59_22 = true
          · subst c31
            have H1 : (some false) = some r := by rw [if_pos rfl] at H; exact H
            clear H
            have H := H1
            clear H1
            exact absurd ((Option.some.inj H).trans HR.out) (by decide)
          · replace c31 := Bool.eq_false_iff.mpr c31
            subst c31
            rw [if_neg (show ¬ (false = true) by decide)] at H
            have H1 := H
            clear H
            have H := H1
            clear H1
            replace H := Option.bind_eq_some_iff.mp H
            obtain ⟨t379, A320, H⟩ := H
            replace H : ((tree_Depth.f kj22 t379).bind fun t382 => (chrysalislaw09_TreeKids.l0 kj22 l0 t370 t371 (wrap64 (a1 + 1)) t382 0 0)) = some r := H
            have A32 := Aside0.mk A320
            clear A320
            replace H := Option.bind_eq_some_iff.mp H
            obtain ⟨t382, A330, H⟩ := H
            replace H : (chrysalislaw09_TreeKids.l0 kj22 l0 t370 t371 (wrap64 (a1 + 1)) t382 0 0) = some r := H
            have A33 := Aside0.mk A330
            clear A330
            have H' := Aside0.mk H
            clear H
            go_wp2_with (first | ((with_reducible refine gate_callee (f := 13) rfl ?_); refine goesL_ (some 64) rfl rfl Try.func13 (by kernel_rfl) rfl #[.slice A0 l0.length c0, .int .i64 a1] rfl (by (try simp only [List.map_toArray, List.map_cons, List.map_nil]); first | done | rfl | (simp only [List.length_drop, List.length_take]; rfl)) ?_; (with_reducible refine (tree_Sub.calls kj22 _ _ l0 a1 t379 _ ?side1 ?side2 A32.out).mono ?_); (case side1 => repeat (first | exact (Kd.C_below HR0.out HB.out) | (with_reducible refine Kd.C_alloc ?_ _) | (with_reducible refine Kd.C_drewN ?_ _) | (with_reducible refine Kd.C_drew ?_))); (case side2 => exact HC0.out); rintro e w34 ⟨v380, rfl, ho0, hb⟩; refine ⟨_, rfl, ?_⟩; have n0_ := Aside0.mk (Kd.R_below (by (with_reducible repeat (first | apply Kd.R_alloc | apply Kd.R_drewN | apply Kd.R_drew)); exact HO_6.out) hb); have n1_ := Aside0.mk (Kd.R_lower ho0 (below_size (by repeat (first | (with_reducible first | exact HB.out | apply below_alloc | apply pw_below_drewN | apply below_drew1) | exact HB.out)))); have n2_ := Aside0.mk (below_step (by repeat (first | (with_reducible first | exact HB.out | apply below_alloc | apply pw_below_drewN | apply below_drew1) | exact HB.out)) hb); clear HO_6; clear HB; have HO_6 := n0_; have HO381 := n1_; have HB := n2_; clear n0_ n1_ n2_; (try clear hb); (try clear ho0); obtain ⟨Ao35, co35, eo35⟩ := Kd.R_slice HO381.out; subst eo35) | ((with_reducible refine gate_callee (f := 21) rfl ?_); refine goesL_ (some 65) rfl rfl Try.func21 (by kernel_rfl) rfl #[.slice Ao35 t379.length co35] rfl (by (try simp only [List.map_toArray, List.map_cons, List.map_nil]); first | done | rfl | (simp only [List.length_drop, List.length_take]; rfl)) ?_; (with_reducible refine (tree_Depth.calls kj22 _ _ t379 t382 _ ?side1 ?side2 A33.out).mono ?_); (case side1 => repeat (first | exact (Kd.R_reads' HO381.out).2.2 | (with_reducible refine Kd.C_alloc ?_ _) | (with_reducible refine Kd.C_drewN ?_ _) | (with_reducible refine Kd.C_drew ?_))); (case side2 => exact (Kd.R_reads' HO381.out).2.1); rintro e w36 ⟨rfl, hb⟩; refine ⟨_, rfl, ?_⟩; have n0_ := Aside0.mk (Kd.R_below (by (with_reducible repeat (first | apply Kd.R_alloc | apply Kd.R_drewN | apply Kd.R_drew)); exact HO_6.out) hb); have n1_ := Aside0.mk (Kd.R_below (by (with_reducible repeat (first | apply Kd.R_alloc | apply Kd.R_drewN | apply Kd.R_drew)); exact HO381.out) hb); have n2_ := Aside0.mk (below_step (by repeat (first | (with_reducible first | exact HB.out | apply below_alloc | apply pw_below_drewN | apply below_drew1) | exact HB.out)) hb); clear HO_6; clear HO381; clear HB; have HO_6 := n0_; have HO381 := n1_; have HB := n2_; clear n0_ n1_ n2_; (try clear hb)))
            go_loopg [7, 9, 10] kj22 (fun kq v7 v9 v10 w' => ∃ (x7_2 : Int) (x9_2 : Int) (x10_2 : Int), v7 = .int .i64 x7_2 ∧ v9 = .int .i64 x9_2 ∧ v10 = .int .i64 x10_2 ∧ Aside0 (chrysalislaw09_TreeKids.l0 kq l0 t370 t371 x7_2 t382 x9_2 x10_2 = some r) ∧ Aside0 (kq ≤ kj22) ∧ Aside0 (Kd.R (Kd.int .i64) 3 w' w.heap.size (fun _ => True) v372 t371) ∧ Aside0 (Below w.heap.size w w'))
            case atStart => exact ⟨(wrap64 (a1 + 1)), (0), (0), (by first | rfl | (simp; done) | (simp [*]; done)), (by first | rfl | (simp; done) | (simp [*]; done)), (by first | rfl | (simp; done) | (simp [*]; done)), H', ⟨Nat.le_refl _⟩, ⟨by (with_reducible repeat (first | apply Kd.R_alloc | apply Kd.R_drewN | apply Kd.R_drew)); exact HO_6.out⟩, ⟨by repeat (first | (with_reducible first | exact HB.out | apply below_alloc | apply pw_below_drewN | apply below_drew1) | exact HB.out)⟩⟩
            case round =>
              clear H'
              try clear c1
              try clear c2
              try clear p2
              try clear c3
              try clear p3
              try clear q3
              try clear hx3
              try clear c4
              try clear c6
              try clear p6
              try clear c7
              try clear c7b0
              try clear c8
              try clear c8b0
              try clear c8b1
              try clear c8b2
              try clear c9
              try clear c10
              try clear c10b0
              try clear c10b1
              try clear c10b2
              try clear c13
              try clear c14
              try clear c17
              try clear c21
              try clear c25
              try clear c25b0
              try clear c26
              try clear c26b0
              try clear c27
              try clear c27b0
              try clear c28
              try clear c28b0
              try clear c29
              try clear c29b0
              try clear c31
              try clear hx378_0
              try clear hx378_1
              try clear hx378_2
              try clear hx378_3
              try clear hx378_4
              try clear p2
              try clear p3
              try clear p378
              try clear q3
              try clear q378
              obtain ⟨x7_2, x9_2, x10_2, rfl, rfl, rfl, HA, HK2, HO_6, HB⟩ := hrel
              cases gk with
              | zero => exact absurd HA.out (by simp [chrysalislaw09_TreeKids.l0])
              | succ k2 =>
                have H := HA.out
                clear HA
                simp only [chrysalislaw09_TreeKids.l0] at H
                by_cases c37 : x10_2 < (t371.length : Int)
                · rw [if_pos c37] at H
                  have c37b0 : decide (x10_2 < (t371.length : Int)) = true := decide_eq_true c37
                  clear c37
                  by_cases c38 : 0 ≤ x10_2
                  · rw [if_pos c38] at H
                    have c38b0 : decide (0 ≤ x10_2) = true := decide_eq_true c38
                    clear c38
                    by_cases c39 : (rd t371 x10_2) = x7_2
                    · rw [if_pos c39] at H
                      have c39b0 : ((rd t371 x10_2) == x7_2) = true := beq_iff_eq.mpr c39
                      have c39b1 : ((rd t371 x10_2) != x7_2) = false := bne_eq_false_iff_eq.mpr c39
                      clear c39
                      replace H := Option.bind_eq_some_iff.mp H
                      obtain ⟨t385, A400, H⟩ := H
                      try dsimp only at H
                      have A40 := Aside0.mk A400
                      clear A400
                      by_cases c41 : (t385.length : Int) = 0
                      · rw [if_pos c41] at H
                        have c41b0 : ((t385.length : Int) == 0) = true := beq_iff_eq.mpr c41
                        have c41b1 : ((t385.length : Int) != 0) = false := bne_eq_false_iff_eq.mpr c41
                        clear c41
                        exact absurd ((Option.some.inj H).trans HR.out) (by decide)
                      · rw [if_neg c41] at H
                        have c41b0 : ((t385.length : Int) == 0) = false := beq_eq_false_iff_ne.mpr c41
                        have c41b1 : ((t385.length : Int) != 0) = true := bne_iff_ne.mpr c41
                        have c41b2 : ¬ (t385 = []) := fun h_ => c41 (by rw [h_]; rfl)
                        replace H := Option.bind_eq_some_iff.mp H
                        obtain ⟨t388, A450, H⟩ := H
                        replace H : (chrysalislaw09_TreeKids.l0 k2 l0 t370 t371 (wrap64 (x7_2 + (t385.length : Int))) t382 (mx x9_2 t388) (wrap64 (x10_2 + 1))) = some r := H
                        have A45 := Aside0.mk A450
                        clear A450
                        obtain ⟨ji46, hji46⟩ : ∃ j_ : Int, (mx x9_2 t388) = j_ := ⟨_, rfl⟩
                        replace H : (chrysalislaw09_TreeKids.l0 k2 l0 t370 t371 (wrap64 (x7_2 + (t385.length : Int))) t382 ji46 (wrap64 (x10_2 + 1))) = some r := by first | (rw [hji46] at H; exact H) | (simp only [hji46] at H ⊢; exact H)
                        (try rw [hji46] at A40)
                        (try rw [hji46] at A45)
                        have hji46_ : (if x9_2 < t388 then t388 else x9_2) = ji46 := hji46
                        have H' := Aside0.mk H
                        clear H
                        obtain ⟨Ao47, co47, eo47⟩ := Kd.R_slice HO_6.out
                        subst eo47
                        have p384 : 0 ≤ (x10_2 : Int) := of_decide_eq_true (by first | (with_reducible assumption) | assumption)
                        have q384 : x10_2 < (t371.length : Int) := of_decide_eq_true (by first | (with_reducible assumption) | assumption)
                        obtain ⟨ad384, e384, hx384_0⟩ := Kd.at_int (Kd.R_reads' HO_6.out).2.2 x10_2 p384 q384
                        cases e384
                        replace p384 := eq_true p384
                        replace q384 := eq_true q384
                        go_wp2_with (first | ((with_reducible refine gate_callee (f := 13) rfl ?_); refine goesL_ (some 80) rfl rfl Try.func13 (by kernel_rfl) rfl #[.slice A0 l0.length c0, .int .i64 x7_2] rfl (by (try simp only [List.map_toArray, List.map_cons, List.map_nil]); first | done | rfl | (simp only [List.length_drop, List.length_take]; rfl)) ?_; (with_reducible refine (tree_Sub.calls k2 _ _ l0 x7_2 t385 _ ?side1 ?side2 A40.out).mono ?_); (case side1 => repeat (first | exact (Kd.C_below HR0.out HB.out) | (with_reducible refine Kd.C_alloc ?_ _) | (with_reducible refine Kd.C_drewN ?_ _) | (with_reducible refine Kd.C_drew ?_))); (case side2 => exact HC0.out); rintro e w48 ⟨v386, rfl, ho0, hb⟩; refine ⟨_, rfl, ?_⟩; have n0_ := Aside0.mk (Kd.R_below (by (with_reducible repeat (first | apply Kd.R_alloc | apply Kd.R_drewN | apply Kd.R_drew)); exact HO_6.out) hb); have n1_ := Aside0.mk (Kd.R_lower ho0 (below_size (by repeat (first | (with_reducible first | exact HB.out | apply below_alloc | apply pw_below_drewN | apply below_drew1) | exact HB.out)))); have n2_ := Aside0.mk (below_step (by repeat (first | (with_reducible first | exact HB.out | apply below_alloc | apply pw_below_drewN | apply below_drew1) | exact HB.out)) hb); clear HO_6; clear HB; have HO_6 := n0_; have HO387 := n1_; have HB := n2_; clear n0_ n1_ n2_; (try clear hb); (try clear ho0); obtain ⟨Ao49, co49, eo49⟩ := Kd.R_slice HO387.out; subst eo49) | ((with_reducible refine gate_callee (f := 21) rfl ?_); refine goesL_ (some 86) rfl rfl Try.func21 (by kernel_rfl) rfl #[.slice Ao49 t385.length co49] rfl (by (try simp only [List.map_toArray, List.map_cons, List.map_nil]); first | done | rfl | (simp only [List.length_drop, List.length_take]; rfl)) ?_; (with_reducible refine (tree_Depth.calls k2 _ _ t385 t388 _ ?side1 ?side2 A45.out).mono ?_); (case side1 => repeat (first | exact (Kd.R_reads' HO387.out).2.2 | (with_reducible refine Kd.C_alloc ?_ _) | (with_reducible refine Kd.C_drewN ?_ _) | (with_reducible refine Kd.C_drew ?_))); (case side2 => exact (Kd.R_reads' HO387.out).2.1); rintro e w50 ⟨rfl, hb⟩; refine ⟨_, rfl, ?_⟩; have n0_ := Aside0.mk (Kd.R_below (by (with_reducible repeat (first | apply Kd.R_alloc | apply Kd.R_drewN | apply Kd.R_drew)); exact HO_6.out) hb); have n1_ := Aside0.mk (Kd.R_below (by (with_reducible repeat (first | apply Kd.R_alloc | apply Kd.R_drewN | apply Kd.R_drew)); exact HO387.out) hb); have n2_ := Aside0.mk (below_step (by repeat (first | (with_reducible first | exact HB.out | apply below_alloc | apply pw_below_drewN | apply below_drew1) | exact HB.out)) hb); clear HO_6; clear HO387; clear HB; have HO_6 := n0_; have HO387 := n1_; have HB := n2_; clear n0_ n1_ n2_; (try clear hb)))
                        go_roundg k2
                        case measure => have := HJ22.out; have := HK2.out; omega
                        case rel => exact ⟨(wrap64 (x7_2 + (t385.length : Int))), (ji46), (wrap64 (x10_2 + 1)), (by first | rfl | (simp; done) | (simp [*]; done)), (by first | rfl | (simp; done) | (simp only [← hji46] <;> (first | rfl | simp)) | (simp [*]; done)), (by first | rfl | (simp; done) | (simp [*]; done)), H', ⟨by have := HJ22.out; have := HK2.out; omega⟩, ⟨by (with_reducible repeat (first | apply Kd.R_alloc | apply Kd.R_drewN | apply Kd.R_drew)); exact HO_6.out⟩, ⟨by repeat (first | (with_reducible first | exact HB.out | apply below_alloc | apply pw_below_drewN | apply below_drew1) | exact HB.out)⟩⟩
                    · rw [if_neg c39] at H
                      have c39b0 : ((rd t371 x10_2) == x7_2) = false := beq_eq_false_iff_ne.mpr c39
                      have c39b1 : ((rd t371 x10_2) != x7_2) = true := bne_iff_ne.mpr c39
                      exact absurd ((Option.some.inj H).trans HR.out) (by decide)
                  · rw [if_neg c38] at H
                    exact absurd H (by simp)
                · rw [if_neg c37] at H
                  have c37b0 : decide (x10_2 < (t371.length : Int)) = false := decide_eq_false c37
                  clear c37
                  by_cases c52 : x7_2 = t370
                  · rw [if_pos c52] at H
                    have c52b0 : (x7_2 == t370) = true := beq_iff_eq.mpr c52
                    have c52b1 : (x7_2 != t370) = false := bne_eq_false_iff_eq.mpr c52
                    clear c52
                    by_cases c53 : t382 = (wrap64 (x9_2 + 1))
                    · rw [if_pos c53] at H
                      have c53b0 : (t382 == (wrap64 (x9_2 + 1))) = true := beq_iff_eq.mpr c53
                      have c53b1 : (t382 != (wrap64 (x9_2 + 1))) = false := bne_eq_false_iff_eq.mpr c53
                      clear c53
                      replace H := Option.bind_eq_some_iff.mp H
                      obtain ⟨t383, A540, H⟩ := H
                      replace H : (some t383) = some r := H
                      have A54 := Aside0.mk A540
                      clear A540
                      obtain rfl := Option.some.inj H
                      obtain ⟨Ao55, co55, eo55⟩ := Kd.R_slice HO_6.out
                      subst eo55
                      go_wp2_with (first | (go_at_call 10; (with_reducible refine (chrysalislaw09_known.calls k2  t383 _ A54.out).mono ?_); rintro e w56 ⟨rfl, hb⟩; have n0_ := Aside0.mk (Kd.R_below (by (with_reducible repeat (first | apply Kd.R_alloc | apply Kd.R_drewN | apply Kd.R_drew)); exact HO_6.out) hb); have n1_ := Aside0.mk (below_step (by repeat (first | (with_reducible first | exact HB.out | apply below_alloc | apply pw_below_drewN | apply below_drew1) | exact HB.out)) hb); clear HO_6; clear HB; have HO_6 := n0_; have HB := n1_; clear n0_ n1_; (try clear hb)))
                      go_ret
                      exact ⟨by first | rfl | (simp [errW_none, errW_some] <;> rfl) | (simp [*, errW_none, errW_some] <;> rfl), by repeat (first | (with_reducible first | exact HB.out | apply below_alloc | apply pw_below_drewN | apply below_drew1) | exact HB.out)⟩
                    · rw [if_neg c53] at H
                      have c53b0 : (t382 == (wrap64 (x9_2 + 1))) = false := beq_eq_false_iff_ne.mpr c53
                      have c53b1 : (t382 != (wrap64 (x9_2 + 1))) = true := bne_iff_ne.mpr c53
                      exact absurd ((Option.some.inj H).trans HR.out) (by decide)
                  · rw [if_neg c52] at H
                    have c52b0 : (x7_2 == t370) = false := beq_eq_false_iff_ne.mpr c52
                    have c52b1 : (x7_2 != t370) = true := bne_iff_ne.mpr c52
                    exact absurd ((Option.some.inj H).trans HR.out) (by decide)
  · replace c4 := Bool.eq_false_iff.mpr c4
    subst c4
    have H1 : ((chrysalislaw09_known.f k).bind fun t369 => (some t369)) = some r := by rw [if_neg (show ¬ (false = true) by decide)] at H; exact H
    clear H
    have H := H1
    clear H1
    replace H := Option.bind_eq_some_iff.mp H
    obtain ⟨t369, A590, H⟩ := H
    replace H : (some t369) = some r := H
    have A59 := Aside0.mk A590
    clear A590
    obtain rfl := Option.some.inj H
    go_enter Try.func6, Try.ntmps6
    go_wp2_with (first | ((with_reducible refine gate_callee (f := 9) rfl ?_); refine goesL_ (some 13) rfl rfl Try.func9 (by kernel_rfl) rfl #[.slice A0 l0.length c0] rfl (by (try simp only [List.map_toArray, List.map_cons, List.map_nil]); first | done | rfl | (simp only [List.length_drop, List.length_take]; rfl)) ?_; (with_reducible refine (chrysalisref09_Light.calls k _ _ l0 false _ ?side1 ?side2 A3.out).mono ?_); (case side1 => repeat (first | exact HR0.out | (with_reducible refine Kd.C_alloc ?_ _) | (with_reducible refine Kd.C_drewN ?_ _) | (with_reducible refine Kd.C_drew ?_))); (case side2 => exact HC0.out); rintro e w' ⟨rfl, ⟨nd, rfl⟩⟩; refine ⟨_, rfl, ?_⟩) | ((with_reducible refine gate_callee (f := 10) rfl ?_); refine goesL_ (some 15) rfl rfl Try.func10 (by kernel_rfl) rfl #[] rfl (by (try simp only [List.map_toArray, List.map_cons, List.map_nil]); first | done | rfl | (simp only [List.length_drop, List.length_take]; rfl)) ?_; (with_reducible refine (chrysalislaw09_known.calls k  t369 _ A59.out).mono ?_); rintro e w60 ⟨rfl, hb⟩; refine ⟨_, rfl, ?_⟩; have n0_ := Aside0.mk (below_step (by repeat (first | (with_reducible first | exact HB.out | apply below_alloc | apply pw_below_drewN | apply below_drew1) | exact HB.out)) hb); clear HB; have HB := n0_; clear n0_; (try clear hb)))
    go_ret
    exact ⟨by first | rfl | (simp [errW_none, errW_some] <;> rfl) | (simp [*, errW_none, errW_some] <;> rfl), by repeat (first | (with_reducible first | exact HB.out | apply below_alloc | apply pw_below_drewN | apply below_drew1) | exact HB.out)⟩

end Go.Proofs.Ytclhaajlgmiilaa.Q
