/- Walks over functions of the program, words for them, and what the functions come to; of each text only what this claim uses; no condition. -/
import Derived.Test.YtclhaajlgmiilaaZP3
import Derived.Test.YtclhaajlgmiilaaZP8
import Derived.Test.YtclhaajlgmiilaaZP9
import Derived.Test.YtclhaajlgmiilaaZP10

namespace Go.Proofs.Ytclhaajlgmiilaa.Q
open Go.RowKit Go.Proofs.YtclhaajlgmiilaaW.PrintWords Go.Proofs.YtclhaajlgmiilaaW.PrintLast Go.Proofs.YtclhaajlgmiilaaW.PrintMore
attribute [local go_sem] max2_int min2_int max_two min_two max_three min_three max_four min_four
set_option linter.unusedVariables false
set_option linter.unusedSimpArgs false

/-! ### chrysalislaw09_TreePlaces: function 4 -/
mutual
def chrysalislaw09_TreePlaces.j0 : Nat → List (S36) → Int → List (S36) → Bool → Option (Bool)
  | 0, _, _, _, _ => none
  | k + 1, x0, x1, x5, x6 => chrysalislaw09_TreePlaces.l0 k x0 x1 x5 x6 0
def chrysalislaw09_TreePlaces.l0 : Nat → List (S36) → Int → List (S36) → Bool → Int → Option (Bool)
  | 0, _, _, _, _, _ => none
  | k + 1, x0, x1, x5, x6, x7 => if x7 < (x5.length : Int) then (if 0 ≤ x7 then (chrysalislaw09_TreePlaces.l0 k x0 x1 (x5.set (x7 : Int).toNat (⟨99, (rd_T36 x5 x7).f1, (rd_T36 x5 x7).f2, (rd_T36 x5 x7).f3, (rd_T36 x5 x7).f4⟩ : S36)) x6 (wrap64 (x7 + 1))) else (none)) else (if x6 = true then ((tree_Sub.f k x0 x1).bind fun t349 => ((chrysalisref09_Sub.f k x0 x1).bind fun t352 => ((chrysalisref09_Same.f k t349 t352).bind fun t355 => (if t355 = true then ((chrysalislaw09_known.f k).bind fun t356 => (some t356)) else (some false))))) else (some false))
end
def chrysalislaw09_TreePlaces.f (k : Nat) (l0 : List (S36)) (a1 : Int) : Option (Bool) := (chrysalisref09_Light.f k l0).bind fun t328 => (if t328 = true then ((tree_Sub.f k l0 a1).bind fun t330 => ((tree_End.f k l0 a1).bind fun t333 => ((chrysalisref09_End.f k l0 a1).bind fun t334 => (if t333 = t334 then ((tree_Kids.f k l0 a1).bind fun t335 => ((chrysalisref09_Kids.f k l0 a1).bind fun t338 => ((chrysalislaw09_ints.f k t335 t338).bind fun t341 => (if t341 = true then ((chrysalisref09_Sub.f k l0 a1).bind fun t342 => ((chrysalisref09_Same.f k t330 t342).bind fun t345 => (if t345 = true then ((tree_Depth.f k l0).bind fun t346 => ((chrysalisref09_Depth.f k l0).bind fun t347 => (chrysalislaw09_TreePlaces.j0 k l0 a1 t330 (t346 == t347)))) else (chrysalislaw09_TreePlaces.j0 k l0 a1 t330 false)))) else (chrysalislaw09_TreePlaces.j0 k l0 a1 t330 false))))) else (chrysalislaw09_TreePlaces.j0 k l0 a1 t330 false))))) else ((chrysalislaw09_known.f k).bind fun t329 => (some t329)))
theorem chrysalislaw09_TreePlaces.mono_l : ∀ k, (∀ y0 y1 y2 y3, LeO (chrysalislaw09_TreePlaces.j0 k y0 y1 y2 y3) (chrysalislaw09_TreePlaces.j0 (k + 1) y0 y1 y2 y3)) ∧ (∀ y0 y1 y2 y3 y4, LeO (chrysalislaw09_TreePlaces.l0 k y0 y1 y2 y3 y4) (chrysalislaw09_TreePlaces.l0 (k + 1) y0 y1 y2 y3 y4))
  | 0 => ⟨fun _ _ _ _ r h => by simp [chrysalislaw09_TreePlaces.j0] at h, fun _ _ _ _ _ r h => by simp [chrysalislaw09_TreePlaces.l0] at h⟩
  | k + 1 => by
    obtain ⟨ih0, ih1⟩ := chrysalislaw09_TreePlaces.mono_l k
    refine ⟨?_, ?_⟩
    · intro y0 y1 y2 y3
      unfold chrysalislaw09_TreePlaces.j0
      repeat' first
      | (with_reducible exact ih0 _ _ _ _)
      | (with_reducible exact ih1 _ _ _ _ _)
      | (with_reducible exact chrysalislaw09_ints.mono _ _ _)
      | (with_reducible exact chrysalislaw09_known.mono _)
      | (with_reducible exact chrysalisref09_Depth.mono _ _)
      | (with_reducible exact chrysalisref09_End.mono _ _ _)
      | (with_reducible exact chrysalisref09_Kids.mono _ _ _)
      | (with_reducible exact chrysalisref09_Light.mono _ _)
      | (with_reducible exact chrysalisref09_Same.mono _ _ _)
      | (with_reducible exact chrysalisref09_Sub.mono _ _ _)
      | (with_reducible exact tree_Depth.mono _ _)
      | (with_reducible exact tree_End.mono _ _ _)
      | (with_reducible exact tree_Kids.mono _ _ _)
      | (with_reducible exact tree_Sub.mono _ _ _)
      | (with_reducible exact LeO.refl _)
      | (with_reducible exact LeO.none _)
      | (with_reducible refine LeO.ite ?_ ?_)
      | (with_reducible refine LeO.bind ?_ (fun _ => ?_))
      | exact ih0 _ _ _ _
      | exact ih1 _ _ _ _ _
      | exact chrysalislaw09_ints.mono _ _ _
      | exact chrysalislaw09_known.mono _
      | exact chrysalisref09_Depth.mono _ _
      | exact chrysalisref09_End.mono _ _ _
      | exact chrysalisref09_Kids.mono _ _ _
      | exact chrysalisref09_Light.mono _ _
      | exact chrysalisref09_Same.mono _ _ _
      | exact chrysalisref09_Sub.mono _ _ _
      | exact tree_Depth.mono _ _
      | exact tree_End.mono _ _ _
      | exact tree_Kids.mono _ _ _
      | exact tree_Sub.mono _ _ _
      | exact LeO.none _
      | refine LeO.ite ?_ ?_
      | refine LeO.bind ?_ (fun _ => ?_)
    · intro y0 y1 y2 y3 y4
      unfold chrysalislaw09_TreePlaces.l0
      repeat' first
      | (with_reducible exact ih0 _ _ _ _)
      | (with_reducible exact ih1 _ _ _ _ _)
      | (with_reducible exact chrysalislaw09_ints.mono _ _ _)
      | (with_reducible exact chrysalislaw09_known.mono _)
      | (with_reducible exact chrysalisref09_Depth.mono _ _)
      | (with_reducible exact chrysalisref09_End.mono _ _ _)
      | (with_reducible exact chrysalisref09_Kids.mono _ _ _)
      | (with_reducible exact chrysalisref09_Light.mono _ _)
      | (with_reducible exact chrysalisref09_Same.mono _ _ _)
      | (with_reducible exact chrysalisref09_Sub.mono _ _ _)
      | (with_reducible exact tree_Depth.mono _ _)
      | (with_reducible exact tree_End.mono _ _ _)
      | (with_reducible exact tree_Kids.mono _ _ _)
      | (with_reducible exact tree_Sub.mono _ _ _)
      | (with_reducible exact LeO.refl _)
      | (with_reducible exact LeO.none _)
      | (with_reducible refine LeO.ite ?_ ?_)
      | (with_reducible refine LeO.bind ?_ (fun _ => ?_))
      | exact ih0 _ _ _ _
      | exact ih1 _ _ _ _ _
      | exact chrysalislaw09_ints.mono _ _ _
      | exact chrysalislaw09_known.mono _
      | exact chrysalisref09_Depth.mono _ _
      | exact chrysalisref09_End.mono _ _ _
      | exact chrysalisref09_Kids.mono _ _ _
      | exact chrysalisref09_Light.mono _ _
      | exact chrysalisref09_Same.mono _ _ _
      | exact chrysalisref09_Sub.mono _ _ _
      | exact tree_Depth.mono _ _
      | exact tree_End.mono _ _ _
      | exact tree_Kids.mono _ _ _
      | exact tree_Sub.mono _ _ _
      | exact LeO.none _
      | refine LeO.ite ?_ ?_
      | refine LeO.bind ?_ (fun _ => ?_)
theorem chrysalislaw09_TreePlaces.mono : ∀ a0 a1 k, LeO (chrysalislaw09_TreePlaces.f k a0 a1) (chrysalislaw09_TreePlaces.f (k + 1) a0 a1) := by
  intro a0 a1 k
  obtain ⟨ih0, ih1⟩ := chrysalislaw09_TreePlaces.mono_l k
  unfold chrysalislaw09_TreePlaces.f
  repeat' first
      | (with_reducible exact ih0 _ _ _ _)
      | (with_reducible exact ih1 _ _ _ _ _)
      | (with_reducible exact chrysalislaw09_ints.mono _ _ _)
      | (with_reducible exact chrysalislaw09_known.mono _)
      | (with_reducible exact chrysalisref09_Depth.mono _ _)
      | (with_reducible exact chrysalisref09_End.mono _ _ _)
      | (with_reducible exact chrysalisref09_Kids.mono _ _ _)
      | (with_reducible exact chrysalisref09_Light.mono _ _)
      | (with_reducible exact chrysalisref09_Same.mono _ _ _)
      | (with_reducible exact chrysalisref09_Sub.mono _ _ _)
      | (with_reducible exact tree_Depth.mono _ _)
      | (with_reducible exact tree_End.mono _ _ _)
      | (with_reducible exact tree_Kids.mono _ _ _)
      | (with_reducible exact tree_Sub.mono _ _ _)
      | (with_reducible exact LeO.refl _)
      | (with_reducible exact LeO.none _)
      | (with_reducible refine LeO.ite ?_ ?_)
      | (with_reducible refine LeO.bind ?_ (fun _ => ?_))
      | exact ih0 _ _ _ _
      | exact ih1 _ _ _ _ _
      | exact chrysalislaw09_ints.mono _ _ _
      | exact chrysalislaw09_known.mono _
      | exact chrysalisref09_Depth.mono _ _
      | exact chrysalisref09_End.mono _ _ _
      | exact chrysalisref09_Kids.mono _ _ _
      | exact chrysalisref09_Light.mono _ _
      | exact chrysalisref09_Same.mono _ _ _
      | exact chrysalisref09_Sub.mono _ _ _
      | exact tree_Depth.mono _ _
      | exact tree_End.mono _ _ _
      | exact tree_Kids.mono _ _ _
      | exact tree_Sub.mono _ _ _
      | exact LeO.none _
      | refine LeO.ite ?_ ?_
      | refine LeO.bind ?_ (fun _ => ?_)
set_option maxHeartbeats 8000000 in
set_option maxRecDepth 100000 in
theorem chrysalislaw09_TreePlaces.calls (k : Nat) (A0 : Option Addr) (c0 : Nat) (l0 : List (S36)) (a1 : Int) (r : Bool) (w : World) (hr0 : Kd.C k36 w A0 l0.length l0) (hc0 : l0.length ≤ c0) (h : chrysalislaw09_TreePlaces.f k l0 a1 = some r) (hr : r = true) :
    Calls Try.prog 4 #[.slice A0 l0.length c0, .int .i64 a1] w fun e w' => e = .returned (.bool r) ∧ Below w.heap.size w w' := by
  have HR0 := Aside0.mk hr0
  have HC0 := Aside0.mk hc0
  clear hr0 hc0
  have HB := Aside0.mk (Below.refl w.heap.size w)
  have HR := Aside0.mk hr
  clear hr
  have H : ((chrysalisref09_Light.f k l0).bind fun t328 => (if t328 = true then ((tree_Sub.f k l0 a1).bind fun t330 => ((tree_End.f k l0 a1).bind fun t333 => ((chrysalisref09_End.f k l0 a1).bind fun t334 => (if t333 = t334 then ((tree_Kids.f k l0 a1).bind fun t335 => ((chrysalisref09_Kids.f k l0 a1).bind fun t338 => ((chrysalislaw09_ints.f k t335 t338).bind fun t341 => (if t341 = true then ((chrysalisref09_Sub.f k l0 a1).bind fun t342 => ((chrysalisref09_Same.f k t330 t342).bind fun t345 => (if t345 = true then ((tree_Depth.f k l0).bind fun t346 => ((chrysalisref09_Depth.f k l0).bind fun t347 => (chrysalislaw09_TreePlaces.j0 k l0 a1 t330 (t346 == t347)))) else (chrysalislaw09_TreePlaces.j0 k l0 a1 t330 false)))) else (chrysalislaw09_TreePlaces.j0 k l0 a1 t330 false))))) else (chrysalislaw09_TreePlaces.j0 k l0 a1 t330 false))))) else ((chrysalislaw09_known.f k).bind fun t329 => (some t329)))) = some r := h
  clear h
  replace H := Option.bind_eq_some_iff.mp H
  obtain ⟨t328, A30, H⟩ := H
  try dsimp only at H
  have A3 := Aside0.mk A30
  clear A30
  by_cases c4 : t328 = true
  · subst c4
    rw [if_pos rfl] at H
    have H1 := H
    clear H
    have H := H1
    clear H1
    replace H := Option.bind_eq_some_iff.mp H
    obtain ⟨t330, A50, H⟩ := H
    try dsimp only at H
    have A5 := Aside0.mk A50
    clear A50
    have HC6 := Aside0.mk H
    clear H
    go_enter Try.func4, Try.ntmps4
    go_upto_region 4 with (first | ((with_reducible refine gate_callee (f := 9) rfl ?_); refine goesL_ (some 9) rfl rfl Try.func9 (by kernel_rfl) rfl #[.slice A0 l0.length c0] rfl (by (try simp only [List.map_toArray, List.map_cons, List.map_nil]); first | done | rfl | (simp only [List.length_drop, List.length_take]; rfl)) ?_; (with_reducible refine (chrysalisref09_Light.calls k _ _ l0 true _ ?side1 ?side2 A3.out).mono ?_); (case side1 => repeat (first | exact HR0.out | (with_reducible refine Kd.C_alloc ?_ _) | (with_reducible refine Kd.C_drewN ?_ _) | (with_reducible refine Kd.C_drew ?_))); (case side2 => exact HC0.out); rintro e w' ⟨rfl, ⟨nd, rfl⟩⟩; refine ⟨_, rfl, ?_⟩) | ((with_reducible refine gate_callee (f := 13) rfl ?_); refine goesL_ (some 14) rfl rfl Try.func13 (by kernel_rfl) rfl #[.slice A0 l0.length c0, .int .i64 a1] rfl (by (try simp only [List.map_toArray, List.map_cons, List.map_nil]); first | done | rfl | (simp only [List.length_drop, List.length_take]; rfl)) ?_; (with_reducible refine (tree_Sub.calls k _ _ l0 a1 t330 _ ?side1 ?side2 A5.out).mono ?_); (case side1 => repeat (first | exact HR0.out | (with_reducible refine Kd.C_alloc ?_ _) | (with_reducible refine Kd.C_drewN ?_ _) | (with_reducible refine Kd.C_drew ?_))); (case side2 => exact HC0.out); rintro e w7 ⟨v331, rfl, ho0, hb⟩; refine ⟨_, rfl, ?_⟩; have n0_ := Aside0.mk (Kd.R_lower ho0 (below_size (by repeat (first | (with_reducible first | exact HB.out | apply below_alloc | apply pw_below_drewN | apply below_drew1) | exact HB.out)))); have n1_ := Aside0.mk (below_step (by repeat (first | (with_reducible first | exact HB.out | apply below_alloc | apply pw_below_drewN | apply below_drew1) | exact HB.out)) hb); clear HB; have HO332 := n0_; have HB := n1_; clear n0_ n1_; (try clear hb); (try clear ho0)))
    (try simp only [Act.put, List.setIfInBounds_toArray, List.set_cons_zero, List.set_cons_succ])
    go_cut [6] (fun v6 wc => ∃ (kq : Nat) (x6_5 : Bool), v6 = .bool x6_5 ∧ Aside0 (chrysalislaw09_TreePlaces.j0 kq l0 a1 t330 x6_5 = some r) ∧ Aside0 (kq ≤ k) ∧ Aside0 (Kd.R k36 36 wc w.heap.size (fun _ => True) v331 t330) ∧ Aside0 (Below w.heap.size w wc))
    case first =>
      have H := HC6.out
      clear HC6
      replace H := Option.bind_eq_some_iff.mp H
      obtain ⟨t333, A80, H⟩ := H
      try dsimp only at H
      have A8 := Aside0.mk A80
      clear A80
      replace H := Option.bind_eq_some_iff.mp H
      obtain ⟨t334, A90, H⟩ := H
      try dsimp only at H
      have A9 := Aside0.mk A90
      clear A90
      by_cases c10 : t333 = t334
      · rw [if_pos c10] at H
        have c10b0 : (t333 == t334) = true := beq_iff_eq.mpr c10
        have c10b1 : (t333 != t334) = false := bne_eq_false_iff_eq.mpr c10
        clear c10
        (first | rw [c10b0] | (simp only [i64_w, i32_w]; rw [c10b0]) | skip)
        replace H := Option.bind_eq_some_iff.mp H
        obtain ⟨t335, A110, H⟩ := H
        try dsimp only at H
        have A11 := Aside0.mk A110
        clear A110
        replace H := Option.bind_eq_some_iff.mp H
        obtain ⟨t338, A120, H⟩ := H
        try dsimp only at H
        have A12 := Aside0.mk A120
        clear A120
        replace H := Option.bind_eq_some_iff.mp H
        obtain ⟨t341, A130, H⟩ := H
        try dsimp only at H
        have A13 := Aside0.mk A130
        clear A130
        by_cases c14 : t341 = true
        · subst c14
          rw [if_pos rfl] at H
          have H1 := H
          clear H
          have H := H1
          clear H1
          replace H := Option.bind_eq_some_iff.mp H
          obtain ⟨t342, A150, H⟩ := H
          try dsimp only at H
          have A15 := Aside0.mk A150
          clear A150
          replace H := Option.bind_eq_some_iff.mp H
          obtain ⟨t345, A160, H⟩ := H
          try dsimp only at H
          have A16 := Aside0.mk A160
          clear A160
          by_cases c17 : t345 = true
          · subst c17
            have H1 : ((tree_Depth.f k l0).bind fun t346 => ((chrysalisref09_Depth.f k l0).bind fun t347 => (chrysalislaw09_TreePlaces.j0 k l0 a1 t330 (t346 == t347)))) = some r := by rw [if_pos rfl] at H; exact H
            clear H
            have H := H1
            clear H1
            replace H := Option.bind_eq_some_iff.mp H
            obtain ⟨t346, A180, H⟩ := H
            replace H : ((chrysalisref09_Depth.f k l0).bind fun t347 => (chrysalislaw09_TreePlaces.j0 k l0 a1 t330 (t346 == t347))) = some r := H
            have A18 := Aside0.mk A180
            clear A180
            replace H := Option.bind_eq_some_iff.mp H
            obtain ⟨t347, A190, H⟩ := H
            replace H : (chrysalislaw09_TreePlaces.j0 k l0 a1 t330 (t346 == t347)) = some r := H
            have A19 := Aside0.mk A190
            clear A190
            have H' := Aside0.mk H
            clear H
            go_wp2_with (first | ((with_reducible refine gate_callee (f := 14) rfl ?_); refine goesL_ (some 17) rfl rfl Try.func14 (by kernel_rfl) rfl #[.slice A0 l0.length c0, .int .i64 a1] rfl (by (try simp only [List.map_toArray, List.map_cons, List.map_nil]); first | done | rfl | (simp only [List.length_drop, List.length_take]; rfl)) ?_; (with_reducible refine (tree_End.calls k _ _ l0 a1 t333 _ ?side1 ?side2 A8.out).mono ?_); (case side1 => repeat (first | exact (Kd.C_below HR0.out HB.out) | (with_reducible refine Kd.C_alloc ?_ _) | (with_reducible refine Kd.C_drewN ?_ _) | (with_reducible refine Kd.C_drew ?_))); (case side2 => exact HC0.out); rintro e w' ⟨rfl, ⟨nd, rfl⟩⟩; refine ⟨_, rfl, ?_⟩) | ((with_reducible refine gate_callee (f := 15) rfl ?_); refine goesL_ (some 20) rfl rfl Try.func15 (by kernel_rfl) rfl #[.slice A0 l0.length c0, .int .i64 a1] rfl (by (try simp only [List.map_toArray, List.map_cons, List.map_nil]); first | done | rfl | (simp only [List.length_drop, List.length_take]; rfl)) ?_; (with_reducible refine (chrysalisref09_End.calls k _ _ l0 a1 t334 _ ?side1 ?side2 A9.out).mono ?_); (case side1 => repeat (first | exact (Kd.C_below HR0.out (by repeat (first | (with_reducible first | exact HB.out | apply below_alloc | apply pw_below_drewN | apply below_drew1) | exact HB.out))) | (with_reducible refine Kd.C_alloc ?_ _) | (with_reducible refine Kd.C_drewN ?_ _) | (with_reducible refine Kd.C_drew ?_))); (case side2 => exact HC0.out); rintro e w' ⟨rfl, ⟨nd, rfl⟩⟩; refine ⟨_, rfl, ?_⟩) | (go_at_call 17; (with_reducible refine (tree_Kids.calls k _ _ l0 a1 t335 _ ?side1 ?side2 A11.out).mono ?_); (case side1 => repeat (first | exact (Kd.C_below HR0.out (by repeat (first | (with_reducible first | exact HB.out | apply below_alloc | apply pw_below_drewN | apply below_drew1) | exact HB.out))) | (with_reducible refine Kd.C_alloc ?_ _) | (with_reducible refine Kd.C_drewN ?_ _) | (with_reducible refine Kd.C_drew ?_))); (case side2 => exact HC0.out); rintro e w20 ⟨v336, rfl, ho0, hb⟩; have n0_ := Aside0.mk (Kd.R_below (by (with_reducible repeat (first | apply Kd.R_alloc | apply Kd.R_drewN | apply Kd.R_drew)); exact HO332.out) hb); have n1_ := Aside0.mk (Kd.R_lower ho0 (below_size (by repeat (first | (with_reducible first | exact HB.out | apply below_alloc | apply pw_below_drewN | apply below_drew1) | exact HB.out)))); have n2_ := Aside0.mk (below_step (by repeat (first | (with_reducible first | exact HB.out | apply below_alloc | apply pw_below_drewN | apply below_drew1) | exact HB.out)) hb); clear HO332; clear HB; have HO332 := n0_; have HO337 := n1_; have HB := n2_; clear n0_ n1_ n2_; (try clear hb); (try clear ho0)) | (go_at_call 18; (with_reducible refine (chrysalisref09_Kids.calls k _ _ l0 a1 t338 _ ?side1 ?side2 A12.out).mono ?_); (case side1 => repeat (first | exact (Kd.C_below HR0.out HB.out) | (with_reducible refine Kd.C_alloc ?_ _) | (with_reducible refine Kd.C_drewN ?_ _) | (with_reducible refine Kd.C_drew ?_))); (case side2 => exact HC0.out); rintro e w21 ⟨v339, rfl, ho0, hb⟩; have n0_ := Aside0.mk (Kd.R_below (by (with_reducible repeat (first | apply Kd.R_alloc | apply Kd.R_drewN | apply Kd.R_drew)); exact HO332.out) hb); have n1_ := Aside0.mk (Kd.R_elder' (by (with_reducible repeat (first | apply Kd.R_alloc | apply Kd.R_drewN | apply Kd.R_drew)); exact HO337.out) (Kd.R_base ho0) hb); have n2_ := Aside0.mk (Kd.R_lower (Kd.R_new' ho0 (Kd.R_lt (by (with_reducible repeat (first | apply Kd.R_alloc | apply Kd.R_drewN | apply Kd.R_drew)); exact HO337.out))) (below_size (by repeat (first | (with_reducible first | exact HB.out | apply below_alloc | apply pw_below_drewN | apply below_drew1) | exact HB.out)))); have n3_ := Aside0.mk (below_step (by repeat (first | (with_reducible first | exact HB.out | apply below_alloc | apply pw_below_drewN | apply below_drew1) | exact HB.out)) hb); clear HO332; clear HO337; clear HB; have HO332 := n0_; have HO337 := n1_; have HO340 := n2_; have HB := n3_; clear n0_ n1_ n2_ n3_; (try clear hb); (try clear ho0); obtain ⟨Ao22, co22, eo22⟩ := Kd.R_slice HO337.out; subst eo22; obtain ⟨Ao23, co23, eo23⟩ := Kd.R_slice HO340.out; subst eo23) | (go_at_call 16; (with_reducible refine (chrysalislaw09_ints.calls k _ _ t335 _ _ t338 true _ ?side1 ?side2 ?side3 ?side4 A13.out).mono ?_); (case side1 => repeat (first | exact (Kd.R_reads' HO337.out).2.2 | (with_reducible refine Kd.C_alloc ?_ _) | (with_reducible refine Kd.C_drewN ?_ _) | (with_reducible refine Kd.C_drew ?_))); (case side2 => exact (Kd.R_reads' HO337.out).2.1); (case side3 => repeat (first | exact (Kd.R_reads' HO340.out).2.2 | (with_reducible refine Kd.C_alloc ?_ _) | (with_reducible refine Kd.C_drewN ?_ _) | (with_reducible refine Kd.C_drew ?_))); (case side4 => exact (Kd.R_reads' HO340.out).2.1); rintro e w' ⟨rfl, ⟨nd, rfl⟩⟩) | (go_at_call 20; (with_reducible refine (chrysalisref09_Sub.calls k _ _ l0 a1 t342 _ ?side1 ?side2 A15.out).mono ?_); (case side1 => repeat (first | exact (Kd.C_below HR0.out (by repeat (first | (with_reducible first | exact HB.out | apply below_alloc | apply pw_below_drewN | apply below_drew1) | exact HB.out))) | (with_reducible refine Kd.C_alloc ?_ _) | (with_reducible refine Kd.C_drewN ?_ _) | (with_reducible refine Kd.C_drew ?_))); (case side2 => exact HC0.out); rintro e w24 ⟨v343, rfl, ho0, hb⟩; have n0_ := Aside0.mk (Kd.R_elder' (by (with_reducible repeat (first | apply Kd.R_alloc | apply Kd.R_drewN | apply Kd.R_drew)); exact HO332.out) (Kd.R_base ho0) hb); have n1_ := Aside0.mk (Kd.R_below (by (with_reducible repeat (first | apply Kd.R_alloc | apply Kd.R_drewN | apply Kd.R_drew)); exact HO337.out) hb); have n2_ := Aside0.mk (Kd.R_below (by (with_reducible repeat (first | apply Kd.R_alloc | apply Kd.R_drewN | apply Kd.R_drew)); exact HO340.out) hb); have n3_ := Aside0.mk (Kd.R_lower (Kd.R_new' ho0 (Kd.R_lt (by (with_reducible repeat (first | apply Kd.R_alloc | apply Kd.R_drewN | apply Kd.R_drew)); exact HO332.out))) (below_size (by repeat (first | (with_reducible first | exact HB.out | apply below_alloc | apply pw_below_drewN | apply below_drew1) | exact HB.out)))); have n4_ := Aside0.mk (below_step (by repeat (first | (with_reducible first | exact HB.out | apply below_alloc | apply pw_below_drewN | apply below_drew1) | exact HB.out)) hb); clear HO332; clear HO337; clear HO340; clear HB; have HO332 := n0_; have HO337 := n1_; have HO340 := n2_; have HO344 := n3_; have HB := n4_; clear n0_ n1_ n2_ n3_ n4_; (try clear hb); (try clear ho0); obtain ⟨Ao25, co25, eo25⟩ := Kd.R_slice HO332.out; subst eo25; obtain ⟨Ao26, co26, eo26⟩ := Kd.R_slice HO344.out; subst eo26) | (go_at_call 19; (with_reducible refine (chrysalisref09_Same.calls k _ _ t330 _ _ t342 true _ ?side1 ?side2 ?side3 ?side4 A16.out).mono ?_); (case side1 => repeat (first | exact (Kd.R_reads' HO332.out).2.2 | (with_reducible refine Kd.C_alloc ?_ _) | (with_reducible refine Kd.C_drewN ?_ _) | (with_reducible refine Kd.C_drew ?_))); (case side2 => exact (Kd.R_reads' HO332.out).2.1); (case side3 => repeat (first | exact (Kd.R_reads' HO344.out).2.2 | (with_reducible refine Kd.C_alloc ?_ _) | (with_reducible refine Kd.C_drewN ?_ _) | (with_reducible refine Kd.C_drew ?_))); (case side4 => exact (Kd.R_reads' HO344.out).2.1); rintro e w' ⟨rfl, ⟨nd, rfl⟩⟩) | (go_at_call 21; (with_reducible refine (tree_Depth.calls k _ _ l0 t346 _ ?side1 ?side2 A18.out).mono ?_); (case side1 => repeat (first | exact (Kd.C_below HR0.out (by repeat (first | (with_reducible first | exact HB.out | apply below_alloc | apply pw_below_drewN | apply below_drew1) | exact HB.out))) | (with_reducible refine Kd.C_alloc ?_ _) | (with_reducible refine Kd.C_drewN ?_ _) | (with_reducible refine Kd.C_drew ?_))); (case side2 => exact HC0.out); rintro e w27 ⟨rfl, hb⟩; have n0_ := Aside0.mk (Kd.R_below (by (with_reducible repeat (first | apply Kd.R_alloc | apply Kd.R_drewN | apply Kd.R_drew)); exact HO332.out) hb); have n1_ := Aside0.mk (Kd.R_below (by (with_reducible repeat (first | apply Kd.R_alloc | apply Kd.R_drewN | apply Kd.R_drew)); exact HO337.out) hb); have n2_ := Aside0.mk (Kd.R_below (by (with_reducible repeat (first | apply Kd.R_alloc | apply Kd.R_drewN | apply Kd.R_drew)); exact HO340.out) hb); have n3_ := Aside0.mk (Kd.R_below (by (with_reducible repeat (first | apply Kd.R_alloc | apply Kd.R_drewN | apply Kd.R_drew)); exact HO344.out) hb); have n4_ := Aside0.mk (below_step (by repeat (first | (with_reducible first | exact HB.out | apply below_alloc | apply pw_below_drewN | apply below_drew1) | exact HB.out)) hb); clear HO332; clear HO337; clear HO340; clear HO344; clear HB; have HO332 := n0_; have HO337 := n1_; have HO340 := n2_; have HO344 := n3_; have HB := n4_; clear n0_ n1_ n2_ n3_ n4_; (try clear hb)) | (go_at_call 22; (with_reducible refine (chrysalisref09_Depth.calls k _ _ l0 t347 _ ?side1 ?side2 A19.out).mono ?_); (case side1 => repeat (first | exact (Kd.C_below HR0.out HB.out) | (with_reducible refine Kd.C_alloc ?_ _) | (with_reducible refine Kd.C_drewN ?_ _) | (with_reducible refine Kd.C_drew ?_))); (case side2 => exact HC0.out); rintro e w28 ⟨rfl, hb⟩; have n0_ := Aside0.mk (Kd.R_below (by (with_reducible repeat (first | apply Kd.R_alloc | apply Kd.R_drewN | apply Kd.R_drew)); exact HO332.out) hb); have n1_ := Aside0.mk (Kd.R_below (by (with_reducible repeat (first | apply Kd.R_alloc | apply Kd.R_drewN | apply Kd.R_drew)); exact HO337.out) hb); have n2_ := Aside0.mk (Kd.R_below (by (with_reducible repeat (first | apply Kd.R_alloc | apply Kd.R_drewN | apply Kd.R_drew)); exact HO340.out) hb); have n3_ := Aside0.mk (Kd.R_below (by (with_reducible repeat (first | apply Kd.R_alloc | apply Kd.R_drewN | apply Kd.R_drew)); exact HO344.out) hb); have n4_ := Aside0.mk (below_step (by repeat (first | (with_reducible first | exact HB.out | apply below_alloc | apply pw_below_drewN | apply below_drew1) | exact HB.out)) hb); clear HO332; clear HO337; clear HO340; clear HO344; clear HB; have HO332 := n0_; have HO337 := n1_; have HO340 := n2_; have HO344 := n3_; have HB := n4_; clear n0_ n1_ n2_ n3_ n4_; (try clear hb)))
            go_meet
            case rel => exact ⟨_, ((t346 == t347)), (by first | rfl | (simp; done) | (simp [*]; done)), H', ⟨by first | omega | exact Nat.le_refl _⟩, ⟨by (with_reducible repeat (first | apply Kd.R_alloc | apply Kd.R_drewN | apply Kd.R_drew)); exact Kd.R_mono HO332.out (fun _ hk => trivial)⟩, ⟨by repeat (first | (with_reducible first | exact HB.out | apply below_alloc | apply pw_below_drewN | apply below_drew1) | exact HB.out)⟩⟩
          · replace c17 := Bool.eq_false_iff.mpr c17
            subst c17
            have H1 : (chrysalislaw09_TreePlaces.j0 k l0 a1 t330 false) = some r := by rw [if_neg (show ¬ (false = true) by decide)] at H; exact H
            clear H
            have H := H1
            clear H1
            have H' := Aside0.mk H
            clear H
            go_wp2_with (first | ((with_reducible refine gate_callee (f := 14) rfl ?_); refine goesL_ (some 17) rfl rfl Try.func14 (by kernel_rfl) rfl #[.slice A0 l0.length c0, .int .i64 a1] rfl (by (try simp only [List.map_toArray, List.map_cons, List.map_nil]); first | done | rfl | (simp only [List.length_drop, List.length_take]; rfl)) ?_; (with_reducible refine (tree_End.calls k _ _ l0 a1 t333 _ ?side1 ?side2 A8.out).mono ?_); (case side1 => repeat (first | exact (Kd.C_below HR0.out HB.out) | (with_reducible refine Kd.C_alloc ?_ _) | (with_reducible refine Kd.C_drewN ?_ _) | (with_reducible refine Kd.C_drew ?_))); (case side2 => exact HC0.out); rintro e w' ⟨rfl, ⟨nd, rfl⟩⟩; refine ⟨_, rfl, ?_⟩) | ((with_reducible refine gate_callee (f := 15) rfl ?_); refine goesL_ (some 20) rfl rfl Try.func15 (by kernel_rfl) rfl #[.slice A0 l0.length c0, .int .i64 a1] rfl (by (try simp only [List.map_toArray, List.map_cons, List.map_nil]); first | done | rfl | (simp only [List.length_drop, List.length_take]; rfl)) ?_; (with_reducible refine (chrysalisref09_End.calls k _ _ l0 a1 t334 _ ?side1 ?side2 A9.out).mono ?_); (case side1 => repeat (first | exact (Kd.C_below HR0.out (by repeat (first | (with_reducible first | exact HB.out | apply below_alloc | apply pw_below_drewN | apply below_drew1) | exact HB.out))) | (with_reducible refine Kd.C_alloc ?_ _) | (with_reducible refine Kd.C_drewN ?_ _) | (with_reducible refine Kd.C_drew ?_))); (case side2 => exact HC0.out); rintro e w' ⟨rfl, ⟨nd, rfl⟩⟩; refine ⟨_, rfl, ?_⟩) | (go_at_call 17; (with_reducible refine (tree_Kids.calls k _ _ l0 a1 t335 _ ?side1 ?side2 A11.out).mono ?_); (case side1 => repeat (first | exact (Kd.C_below HR0.out (by repeat (first | (with_reducible first | exact HB.out | apply below_alloc | apply pw_below_drewN | apply below_drew1) | exact HB.out))) | (with_reducible refine Kd.C_alloc ?_ _) | (with_reducible refine Kd.C_drewN ?_ _) | (with_reducible refine Kd.C_drew ?_))); (case side2 => exact HC0.out); rintro e w29 ⟨v336, rfl, ho0, hb⟩; have n0_ := Aside0.mk (Kd.R_below (by (with_reducible repeat (first | apply Kd.R_alloc | apply Kd.R_drewN | apply Kd.R_drew)); exact HO332.out) hb); have n1_ := Aside0.mk (Kd.R_lower ho0 (below_size (by repeat (first | (with_reducible first | exact HB.out | apply below_alloc | apply pw_below_drewN | apply below_drew1) | exact HB.out)))); have n2_ := Aside0.mk (below_step (by repeat (first | (with_reducible first | exact HB.out | apply below_alloc | apply pw_below_drewN | apply below_drew1) | exact HB.out)) hb); clear HO332; clear HB; have HO332 := n0_; have HO337 := n1_; have HB := n2_; clear n0_ n1_ n2_; (try clear hb); (try clear ho0)) | (go_at_call 18; (with_reducible refine (chrysalisref09_Kids.calls k _ _ l0 a1 t338 _ ?side1 ?side2 A12.out).mono ?_); (case side1 => repeat (first | exact (Kd.C_below HR0.out HB.out) | (with_reducible refine Kd.C_alloc ?_ _) | (with_reducible refine Kd.C_drewN ?_ _) | (with_reducible refine Kd.C_drew ?_))); (case side2 => exact HC0.out); rintro e w30 ⟨v339, rfl, ho0, hb⟩; have n0_ := Aside0.mk (Kd.R_below (by (with_reducible repeat (first | apply Kd.R_alloc | apply Kd.R_drewN | apply Kd.R_drew)); exact HO332.out) hb); have n1_ := Aside0.mk (Kd.R_elder' (by (with_reducible repeat (first | apply Kd.R_alloc | apply Kd.R_drewN | apply Kd.R_drew)); exact HO337.out) (Kd.R_base ho0) hb); have n2_ := Aside0.mk (Kd.R_lower (Kd.R_new' ho0 (Kd.R_lt (by (with_reducible repeat (first | apply Kd.R_alloc | apply Kd.R_drewN | apply Kd.R_drew)); exact HO337.out))) (below_size (by repeat (first | (with_reducible first | exact HB.out | apply below_alloc | apply pw_below_drewN | apply below_drew1) | exact HB.out)))); have n3_ := Aside0.mk (below_step (by repeat (first | (with_reducible first | exact HB.out | apply below_alloc | apply pw_below_drewN | apply below_drew1) | exact HB.out)) hb); clear HO332; clear HO337; clear HB; have HO332 := n0_; have HO337 := n1_; have HO340 := n2_; have HB := n3_; clear n0_ n1_ n2_ n3_; (try clear hb); (try clear ho0); obtain ⟨Ao31, co31, eo31⟩ := Kd.R_slice HO337.out; subst eo31; obtain ⟨Ao32, co32, eo32⟩ := Kd.R_slice HO340.out; subst eo32) | (go_at_call 16; (with_reducible refine (chrysalislaw09_ints.calls k _ _ t335 _ _ t338 true _ ?side1 ?side2 ?side3 ?side4 A13.out).mono ?_); (case side1 => repeat (first | exact (Kd.R_reads' HO337.out).2.2 | (with_reducible refine Kd.C_alloc ?_ _) | (with_reducible refine Kd.C_drewN ?_ _) | (with_reducible refine Kd.C_drew ?_))); (case side2 => exact (Kd.R_reads' HO337.out).2.1); (case side3 => repeat (first | exact (Kd.R_reads' HO340.out).2.2 | (with_reducible refine Kd.C_alloc ?_ _) | (with_reducible refine Kd.C_drewN ?_ _) | (with_reducible refine Kd.C_drew ?_))); (case side4 => exact (Kd.R_reads' HO340.out).2.1); rintro e w' ⟨rfl, ⟨nd, rfl⟩⟩) | (go_at_call 20; (with_reducible refine (chrysalisref09_Sub.calls k _ _ l0 a1 t342 _ ?side1 ?side2 A15.out).mono ?_); (case side1 => repeat (first | exact (Kd.C_below HR0.out (by repeat (first | (with_reducible first | exact HB.out | apply below_alloc | apply pw_below_drewN | apply below_drew1) | exact HB.out))) | (with_reducible refine Kd.C_alloc ?_ _) | (with_reducible refine Kd.C_drewN ?_ _) | (with_reducible refine Kd.C_drew ?_))); (case side2 => exact HC0.out); rintro e w33 ⟨v343, rfl, ho0, hb⟩; have n0_ := Aside0.mk (Kd.R_elder' (by (with_reducible repeat (first | apply Kd.R_alloc | apply Kd.R_drewN | apply Kd.R_drew)); exact HO332.out) (Kd.R_base ho0) hb); have n1_ := Aside0.mk (Kd.R_below (by (with_reducible repeat (first | apply Kd.R_alloc | apply Kd.R_drewN | apply Kd.R_drew)); exact HO337.out) hb); have n2_ := Aside0.mk (Kd.R_below (by (with_reducible repeat (first | apply Kd.R_alloc | apply Kd.R_drewN | apply Kd.R_drew)); exact HO340.out) hb); have n3_ := Aside0.mk (Kd.R_lower (Kd.R_new' ho0 (Kd.R_lt (by (with_reducible repeat (first | apply Kd.R_alloc | apply Kd.R_drewN | apply Kd.R_drew)); exact HO332.out))) (below_size (by repeat (first | (with_reducible first | exact HB.out | apply below_alloc | apply pw_below_drewN | apply below_drew1) | exact HB.out)))); have n4_ := Aside0.mk (below_step (by repeat (first | (with_reducible first | exact HB.out | apply below_alloc | apply pw_below_drewN | apply below_drew1) | exact HB.out)) hb); clear HO332; clear HO337; clear HO340; clear HB; have HO332 := n0_; have HO337 := n1_; have HO340 := n2_; have HO344 := n3_; have HB := n4_; clear n0_ n1_ n2_ n3_ n4_; (try clear hb); (try clear ho0); obtain ⟨Ao34, co34, eo34⟩ := Kd.R_slice HO332.out; subst eo34; obtain ⟨Ao35, co35, eo35⟩ := Kd.R_slice HO344.out; subst eo35) | (go_at_call 19; (with_reducible refine (chrysalisref09_Same.calls k _ _ t330 _ _ t342 false _ ?side1 ?side2 ?side3 ?side4 A16.out).mono ?_); (case side1 => repeat (first | exact (Kd.R_reads' HO332.out).2.2 | (with_reducible refine Kd.C_alloc ?_ _) | (with_reducible refine Kd.C_drewN ?_ _) | (with_reducible refine Kd.C_drew ?_))); (case side2 => exact (Kd.R_reads' HO332.out).2.1); (case side3 => repeat (first | exact (Kd.R_reads' HO344.out).2.2 | (with_reducible refine Kd.C_alloc ?_ _) | (with_reducible refine Kd.C_drewN ?_ _) | (with_reducible refine Kd.C_drew ?_))); (case side4 => exact (Kd.R_reads' HO344.out).2.1); rintro e w' ⟨rfl, ⟨nd, rfl⟩⟩))
            go_meet
            case rel => exact ⟨_, (false), (by first | rfl | (simp; done) | (simp [*]; done)), H', ⟨by first | omega | exact Nat.le_refl _⟩, ⟨by (with_reducible repeat (first | apply Kd.R_alloc | apply Kd.R_drewN | apply Kd.R_drew)); exact Kd.R_mono HO332.out (fun _ hk => trivial)⟩, ⟨by repeat (first | (with_reducible first | exact HB.out | apply below_alloc | apply pw_below_drewN | apply below_drew1) | exact HB.out)⟩⟩
        · replace c14 := Bool.eq_false_iff.mpr c14
          subst c14
          have H1 : (chrysalislaw09_TreePlaces.j0 k l0 a1 t330 false) = some r := by rw [if_neg (show ¬ (false = true) by decide)] at H; exact H
          clear H
          have H := H1
          clear H1
          have H' := Aside0.mk H
          clear H
          go_wp2_with (first | ((with_reducible refine gate_callee (f := 14) rfl ?_); refine goesL_ (some 17) rfl rfl Try.func14 (by kernel_rfl) rfl #[.slice A0 l0.length c0, .int .i64 a1] rfl (by (try simp only [List.map_toArray, List.map_cons, List.map_nil]); first | done | rfl | (simp only [List.length_drop, List.length_take]; rfl)) ?_; (with_reducible refine (tree_End.calls k _ _ l0 a1 t333 _ ?side1 ?side2 A8.out).mono ?_); (case side1 => repeat (first | exact (Kd.C_below HR0.out HB.out) | (with_reducible refine Kd.C_alloc ?_ _) | (with_reducible refine Kd.C_drewN ?_ _) | (with_reducible refine Kd.C_drew ?_))); (case side2 => exact HC0.out); rintro e w' ⟨rfl, ⟨nd, rfl⟩⟩; refine ⟨_, rfl, ?_⟩) | ((with_reducible refine gate_callee (f := 15) rfl ?_); refine goesL_ (some 20) rfl rfl Try.func15 (by kernel_rfl) rfl #[.slice A0 l0.length c0, .int .i64 a1] rfl (by (try simp only [List.map_toArray, List.map_cons, List.map_nil]); first | done | rfl | (simp only [List.length_drop, List.length_take]; rfl)) ?_; (with_reducible refine (chrysalisref09_End.calls k _ _ l0 a1 t334 _ ?side1 ?side2 A9.out).mono ?_); (case side1 => repeat (first | exact (Kd.C_below HR0.out (by repeat (first | (with_reducible first | exact HB.out | apply below_alloc | apply pw_below_drewN | apply below_drew1) | exact HB.out))) | (with_reducible refine Kd.C_alloc ?_ _) | (with_reducible refine Kd.C_drewN ?_ _) | (with_reducible refine Kd.C_drew ?_))); (case side2 => exact HC0.out); rintro e w' ⟨rfl, ⟨nd, rfl⟩⟩; refine ⟨_, rfl, ?_⟩) | (go_at_call 17; (with_reducible refine (tree_Kids.calls k _ _ l0 a1 t335 _ ?side1 ?side2 A11.out).mono ?_); (case side1 => repeat (first | exact (Kd.C_below HR0.out (by repeat (first | (with_reducible first | exact HB.out | apply below_alloc | apply pw_below_drewN | apply below_drew1) | exact HB.out))) | (with_reducible refine Kd.C_alloc ?_ _) | (with_reducible refine Kd.C_drewN ?_ _) | (with_reducible refine Kd.C_drew ?_))); (case side2 => exact HC0.out); rintro e w36 ⟨v336, rfl, ho0, hb⟩; have n0_ := Aside0.mk (Kd.R_below (by (with_reducible repeat (first | apply Kd.R_alloc | apply Kd.R_drewN | apply Kd.R_drew)); exact HO332.out) hb); have n1_ := Aside0.mk (Kd.R_lower ho0 (below_size (by repeat (first | (with_reducible first | exact HB.out | apply below_alloc | apply pw_below_drewN | apply below_drew1) | exact HB.out)))); have n2_ := Aside0.mk (below_step (by repeat (first | (with_reducible first | exact HB.out | apply below_alloc | apply pw_below_drewN | apply below_drew1) | exact HB.out)) hb); clear HO332; clear HB; have HO332 := n0_; have HO337 := n1_; have HB := n2_; clear n0_ n1_ n2_; (try clear hb); (try clear ho0)) | (go_at_call 18; (with_reducible refine (chrysalisref09_Kids.calls k _ _ l0 a1 t338 _ ?side1 ?side2 A12.out).mono ?_); (case side1 => repeat (first | exact (Kd.C_below HR0.out HB.out) | (with_reducible refine Kd.C_alloc ?_ _) | (with_reducible refine Kd.C_drewN ?_ _) | (with_reducible refine Kd.C_drew ?_))); (case side2 => exact HC0.out); rintro e w37 ⟨v339, rfl, ho0, hb⟩; have n0_ := Aside0.mk (Kd.R_below (by (with_reducible repeat (first | apply Kd.R_alloc | apply Kd.R_drewN | apply Kd.R_drew)); exact HO332.out) hb); have n1_ := Aside0.mk (Kd.R_elder' (by (with_reducible repeat (first | apply Kd.R_alloc | apply Kd.R_drewN | apply Kd.R_drew)); exact HO337.out) (Kd.R_base ho0) hb); have n2_ := Aside0.mk (Kd.R_lower (Kd.R_new' ho0 (Kd.R_lt (by (with_reducible repeat (first | apply Kd.R_alloc | apply Kd.R_drewN | apply Kd.R_drew)); exact HO337.out))) (below_size (by repeat (first | (with_reducible first | exact HB.out | apply below_alloc | apply pw_below_drewN | apply below_drew1) | exact HB.out)))); have n3_ := Aside0.mk (below_step (by repeat (first | (with_reducible first | exact HB.out | apply below_alloc | apply pw_below_drewN | apply below_drew1) | exact HB.out)) hb); clear HO332; clear HO337; clear HB; have HO332 := n0_; have HO337 := n1_; have HO340 := n2_; have HB := n3_; clear n0_ n1_ n2_ n3_; (try clear hb); (try clear ho0); obtain ⟨Ao38, co38, eo38⟩ := Kd.R_slice HO337.out; subst eo38; obtain ⟨Ao39, co39, eo39⟩ := Kd.R_slice HO340.out; subst eo39) | (go_at_call 16; (with_reducible refine (chrysalislaw09_ints.calls k _ _ t335 _ _ t338 false _ ?side1 ?side2 ?side3 ?side4 A13.out).mono ?_); (case side1 => repeat (first | exact (Kd.R_reads' HO337.out).2.2 | (with_reducible refine Kd.C_alloc ?_ _) | (with_reducible refine Kd.C_drewN ?_ _) | (with_reducible refine Kd.C_drew ?_))); (case side2 => exact (Kd.R_reads' HO337.out).2.1); (case side3 => repeat (first | exact (Kd.R_reads' HO340.out).2.2 | (with_reducible refine Kd.C_alloc ?_ _) | (with_reducible refine Kd.C_drewN ?_ _) | (with_reducible refine Kd.C_drew ?_))); (case side4 => exact (Kd.R_reads' HO340.out).2.1); rintro e w' ⟨rfl, ⟨nd, rfl⟩⟩))
          go_meet
          case rel => exact ⟨_, (false), (by first | rfl | (simp; done) | (simp [*]; done)), H', ⟨by first | omega | exact Nat.le_refl _⟩, ⟨by (with_reducible repeat (first | apply Kd.R_alloc | apply Kd.R_drewN | apply Kd.R_drew)); exact HO332.out⟩, ⟨by repeat (first | (with_reducible first | exact HB.out | apply below_alloc | apply pw_below_drewN | apply below_drew1) | exact HB.out)⟩⟩
      · rw [if_neg c10] at H
        have c10b0 : (t333 == t334) = false := beq_eq_false_iff_ne.mpr c10
        have c10b1 : (t333 != t334) = true := bne_iff_ne.mpr c10
        (first | rw [c10b0] | (simp only [i64_w, i32_w]; rw [c10b0]) | skip)
        have H' := Aside0.mk H
        clear H
        go_wp2_with (first | ((with_reducible refine gate_callee (f := 14) rfl ?_); refine goesL_ (some 17) rfl rfl Try.func14 (by kernel_rfl) rfl #[.slice A0 l0.length c0, .int .i64 a1] rfl (by (try simp only [List.map_toArray, List.map_cons, List.map_nil]); first | done | rfl | (simp only [List.length_drop, List.length_take]; rfl)) ?_; (with_reducible refine (tree_End.calls k _ _ l0 a1 t333 _ ?side1 ?side2 A8.out).mono ?_); (case side1 => repeat (first | exact (Kd.C_below HR0.out HB.out) | (with_reducible refine Kd.C_alloc ?_ _) | (with_reducible refine Kd.C_drewN ?_ _) | (with_reducible refine Kd.C_drew ?_))); (case side2 => exact HC0.out); rintro e w' ⟨rfl, ⟨nd, rfl⟩⟩; refine ⟨_, rfl, ?_⟩) | ((with_reducible refine gate_callee (f := 15) rfl ?_); refine goesL_ (some 20) rfl rfl Try.func15 (by kernel_rfl) rfl #[.slice A0 l0.length c0, .int .i64 a1] rfl (by (try simp only [List.map_toArray, List.map_cons, List.map_nil]); first | done | rfl | (simp only [List.length_drop, List.length_take]; rfl)) ?_; (with_reducible refine (chrysalisref09_End.calls k _ _ l0 a1 t334 _ ?side1 ?side2 A9.out).mono ?_); (case side1 => repeat (first | exact (Kd.C_below HR0.out (by repeat (first | (with_reducible first | exact HB.out | apply below_alloc | apply pw_below_drewN | apply below_drew1) | exact HB.out))) | (with_reducible refine Kd.C_alloc ?_ _) | (with_reducible refine Kd.C_drewN ?_ _) | (with_reducible refine Kd.C_drew ?_))); (case side2 => exact HC0.out); rintro e w' ⟨rfl, ⟨nd, rfl⟩⟩; refine ⟨_, rfl, ?_⟩))
        go_meet
        case rel => exact ⟨_, (false), (by first | rfl | (simp; done) | (simp [*]; done)), H', ⟨by first | omega | exact Nat.le_refl _⟩, ⟨by (with_reducible repeat (first | apply Kd.R_alloc | apply Kd.R_drewN | apply Kd.R_drew)); exact HO332.out⟩, ⟨by repeat (first | (with_reducible first | exact HB.out | apply below_alloc | apply pw_below_drewN | apply below_drew1) | exact HB.out)⟩⟩
    case rest =>
      clear HC6
      try clear c1
      try clear p2
      try clear c4
      try clear c9
      try clear c10
      try clear c10b0
      try clear c10b1
      try clear c13
      try clear c14
      try clear c15
      try clear c17
      obtain ⟨kq, x6_5, rfl, HA, HJ5, HO_5, HB⟩ := hcut
      cases kq with
      | zero => exact absurd HA.out (by simp [chrysalislaw09_TreePlaces.j0])
      | succ kj5 =>
        have H := HA.out
        clear HA
        simp only [chrysalislaw09_TreePlaces.j0] at H
        have H' := Aside0.mk H
        clear H
        go_wp2
        go_loopg [7] kj5 (fun kq v7 w' => ∃ (x5_2 : List (S36)) (x7_2 : Int), v7 = .int .i64 x7_2 ∧ Aside0 (chrysalislaw09_TreePlaces.l0 kq l0 a1 x5_2 x6_5 x7_2 = some r) ∧ Aside0 (kq ≤ kj5) ∧ Aside0 (Kd.R k36 36 w' w.heap.size (fun _ => True) v331 x5_2) ∧ Aside0 (Below w.heap.size w w'))
        case atStart => exact ⟨(t330), (0), (by first | rfl | (simp; done) | (simp [*]; done)), H', ⟨Nat.le_refl _⟩, ⟨by (with_reducible repeat (first | apply Kd.R_alloc | apply Kd.R_drewN | apply Kd.R_drew)); exact HO_5.out⟩, ⟨by repeat (first | (with_reducible first | exact HB.out | apply below_alloc | apply pw_below_drewN | apply below_drew1) | exact HB.out)⟩⟩
        case round =>
          clear H'
          try clear c1
          try clear p2
          try clear c4
          try clear c9
          try clear c10
          try clear c10b0
          try clear c10b1
          try clear c13
          try clear c14
          try clear c15
          try clear c17
          try clear p2
          obtain ⟨x5_2, x7_2, rfl, HA, HK2, HO_5, HB⟩ := hrel
          cases gk with
          | zero => exact absurd HA.out (by simp [chrysalislaw09_TreePlaces.l0])
          | succ k2 =>
            have H := HA.out
            clear HA
            simp only [chrysalislaw09_TreePlaces.l0] at H
            by_cases c40 : x7_2 < (x5_2.length : Int)
            · rw [if_pos c40] at H
              have c40b0 : decide (x7_2 < (x5_2.length : Int)) = true := decide_eq_true c40
              clear c40
              by_cases c41 : 0 ≤ x7_2
              · rw [if_pos c41] at H
                have c41b0 : decide (0 ≤ x7_2) = true := decide_eq_true c41
                clear c41
                obtain ⟨y348, hy348⟩ : ∃ y_ : List (S36), y_ = (x5_2.set (x7_2 : Int).toNat (⟨99, (rd_T36 x5_2 x7_2).f1, (rd_T36 x5_2 x7_2).f2, (rd_T36 x5_2 x7_2).f3, (rd_T36 x5_2 x7_2).f4⟩ : S36)) := ⟨_, rfl⟩
                replace H : (chrysalislaw09_TreePlaces.l0 k2 l0 a1 y348 x6_5 (wrap64 (x7_2 + 1))) = some r := by first | (rw [hy348]; with_reducible exact H) | (have H2_ := (Option.bind_some _ _).symm.trans H; rw [hy348]; with_reducible exact H2_) | (have H2_ := (Option.bind_some _ _).symm.trans H; with_reducible exact H2_) | with_reducible exact H | (rw [hy348]; exact H) | exact H
                have Ny348 := Aside0.mk hy348
                clear hy348
                have H' := Aside0.mk H
                clear H
                obtain ⟨Ao43, co43, eo43⟩ := Kd.R_slice HO_5.out
                subst eo43
                have p42 : 0 ≤ (x7_2 : Int) := of_decide_eq_true (by first | (with_reducible assumption) | assumption)
                have q42 : (x7_2 : Int) < ((x5_2.length : Int) : Int) := of_decide_eq_true (by first | (with_reducible assumption) | assumption)
                obtain ⟨go42, co42, eo42, gb42, gl42, cl42, HG42⟩ := Kd.R_form HO_5.out (by omega)
                (first | cases eo42 | (injection eo42 with ea_ en_ ec_; (first | subst ea_ | (injection ea_ with ea_; subst ea_)); subst ec_; clear en_))
                have GB42 := Aside0.mk gb42
                have GG42 := Aside0.mk HG42
                clear gb42 gl42 HG42
                obtain ⟨ce42, hcl42, hM42, hcc42, hfr42⟩ := Kd.R_elem HO_5.out z36 (x7_2 : Int) p42 q42
                obtain rfl := k36_openM hM42
                have hx42_0 : wr.cell? ⟨go42, (x7_2 : Int).toNat * 5, none⟩ = some (.int .i64 ((rd_T36 x5_2 x7_2).f0)) := hcc42 0 _ rfl
                have hx42_1 : wr.cell? ⟨go42, (x7_2 : Int).toNat * 5 + 1, none⟩ = some (.int .i64 ((rd_T36 x5_2 x7_2).f1)) := hcc42 1 _ rfl
                have hx42_2 : wr.cell? ⟨go42, (x7_2 : Int).toNat * 5 + 2, none⟩ = some (.string ((rd_T36 x5_2 x7_2).f2)) := hcc42 2 _ rfl
                have hx42_3 : wr.cell? ⟨go42, (x7_2 : Int).toNat * 5 + 3, none⟩ = some (.int .i64 ((rd_T36 x5_2 x7_2).f3)) := hcc42 3 _ rfl
                have hx42_4 : wr.cell? ⟨go42, (x7_2 : Int).toNat * 5 + 4, none⟩ = some (.string ((rd_T36 x5_2 x7_2).f4)) := hcc42 4 _ rfl
                have hf42_0 : wr.frozen? ⟨go42, (x7_2 : Int).toNat * 5, none⟩ = false := hfr42 0
                have hf42_1 : wr.frozen? ⟨go42, (x7_2 : Int).toNat * 5 + 1, none⟩ = false := hfr42 1
                have hf42_2 : wr.frozen? ⟨go42, (x7_2 : Int).toNat * 5 + 2, none⟩ = false := hfr42 2
                have hf42_3 : wr.frozen? ⟨go42, (x7_2 : Int).toNat * 5 + 3, none⟩ = false := hfr42 3
                have hf42_4 : wr.frozen? ⟨go42, (x7_2 : Int).toNat * 5 + 4, none⟩ = false := hfr42 4
                clear hcl42 hcc42 hfr42 hM42
                replace p42 := eq_true p42
                replace q42 := eq_true q42
                have HX44 := Aside0.mk (show Kd.R k36 36 wr w.heap.size (fun _ => True) (.slice (some ⟨go42, 0, none⟩) x5_2.length co43) x5_2 from (by (with_reducible repeat (first | apply Kd.R_alloc | apply Kd.R_drewN | apply Kd.R_drew)); exact HO_5.out))
                obtain ⟨ce44, hcl44, hM44, hcc44, hfr44⟩ := Kd.R_elem HX44.out z36 (x7_2 : Int) (of_decide_eq_true (by first | (with_reducible assumption) | assumption)) (by have h_ : (x7_2 : Int) < ((x5_2.length : Int) : Int) := of_decide_eq_true (by first | (with_reducible assumption) | assumption); first | exact h_ | (have e_ := (Kd.R_reads' HO_5.out).1; omega) | simpa using h_)
                obtain rfl := k36_openM hM44
                have HP44 := Kd.R_seg HX44.out (x7_2 : Int) (of_decide_eq_true (by first | (with_reducible assumption) | assumption)) (by have h_ : (x7_2 : Int) < ((x5_2.length : Int) : Int) := of_decide_eq_true (by first | (with_reducible assumption) | assumption); first | exact h_ | (have e_ := (Kd.R_reads' HO_5.out).1; omega) | simpa using h_) (seg := [.int .i64 99]) (j := 0) hcl44 hcc44 (show 1 ≤ 5 from by decide) (x' := (⟨99, (rd_T36 x5_2 x7_2).f1, (rd_T36 x5_2 x7_2).f2, (rd_T36 x5_2 x7_2).f3, (rd_T36 x5_2 x7_2).f4⟩ : S36)) (k36_mkM _ _ _ (⟨99, (rd_T36 x5_2 x7_2).f1, (rd_T36 x5_2 x7_2).f2, (rd_T36 x5_2 x7_2).f3, (rd_T36 x5_2 x7_2).f4⟩ : S36) ) (fun _ hk => hk)
                have hx44_0 := hcc44 0 _ rfl
                (try simp only [show (k36).sz = 5 from rfl, Nat.mul_one, Nat.add_zero] at hx44_0)
                have hf44_0 := hfr44 0
                (try simp only [show (k36).sz = 5 from rfl, Nat.mul_one, Nat.add_zero] at hf44_0)
                clear hcl44 hcc44 hfr44 hM44
                go_wp2_with (first | ((with_reducible refine gate_store (t := 3) (p := 54) rfl ?_); refine store_event (t := 3) (p := 54) (v := ?vo_w45) (w1 := (wr.setCell ⟨go42, (x7_2 : Int).toNat * 5, none⟩ (.int .i64 99))) ?hg ?ho ?hn ?hr ?_; (case ho => rfl); (case hg => rfl); (case hn => rfl); (case hr => first | (go_simp; done) | (go_simp; rfl)); intro w45 hw; have hg : wr.grownBy w45 (some go42) := (by rw [hw]; exact HP44.2); have hp_ : Kd.R k36 36 w45 w.heap.size (fun _ => True) (.slice (some ⟨go42, 0, none⟩) x5_2.length co43) y348 := (by rw [hw, Ny348.out]; exact HP44.1); clear HP44; have n0_ := Aside0.mk (hp_); have n1_ := Aside0.mk ((by rw [hw]; exact below_set (HB.out) GB42.out : Below w.heap.size w w45)); clear HO_5; clear HB; have HO_5 := n0_; have HB := n1_; clear n0_ n1_; clear hg hw hp_))
                go_roundg k2
                case measure => have := HJ5.out; have := HK2.out; omega
                case rel => exact ⟨(y348), (wrap64 (x7_2 + 1)), (by first | rfl | (simp; done) | (simp [*]; done)), H', ⟨by have := HJ5.out; have := HK2.out; omega⟩, ⟨by (with_reducible repeat (first | apply Kd.R_alloc | apply Kd.R_drewN | apply Kd.R_drew)); exact HO_5.out⟩, ⟨by repeat (first | (with_reducible first | exact HB.out | apply below_alloc | apply pw_below_drewN | apply below_drew1) | exact HB.out)⟩⟩
              · rw [if_neg c41] at H
                exact absurd H (by simp)
            · rw [if_neg c40] at H
              have c40b0 : decide (x7_2 < (x5_2.length : Int)) = false := decide_eq_false c40
              clear c40
              by_cases c46 : x6_5 = true
              · subst c46
                rw [if_pos rfl] at H
                have H1 := H
                clear H
                have H := H1
                clear H1
                replace H := Option.bind_eq_some_iff.mp H
                obtain ⟨t349, A470, H⟩ := H
                try dsimp only at H
                have A47 := Aside0.mk A470
                clear A470
                replace H := Option.bind_eq_some_iff.mp H
                obtain ⟨t352, A480, H⟩ := H
                try dsimp only at H
                have A48 := Aside0.mk A480
                clear A480
                replace H := Option.bind_eq_some_iff.mp H
                obtain ⟨t355, A490, H⟩ := H
                replace H : (if t355 = true then ((chrysalislaw09_known.f k2).bind fun t356 => (some t356)) else (some false)) = some r := H
                have A49 := Aside0.mk A490
                clear A490
                by_cases c50 : t355 = true
                · subst c50
                  have H1 : ((chrysalislaw09_known.f k2).bind fun t356 => (some t356)) = some r := by rw [if_pos rfl] at H; exact H
                  clear H
                  have H := H1
                  clear H1
                  replace H := Option.bind_eq_some_iff.mp H
                  obtain ⟨t356, A510, H⟩ := H
                  replace H : (some t356) = some r := H
                  have A51 := Aside0.mk A510
                  clear A510
                  obtain rfl := Option.some.inj H
                  obtain ⟨Ao52, co52, eo52⟩ := Kd.R_slice HO_5.out
                  subst eo52
                  go_wp2_with (first | (go_at_call 13; (with_reducible refine (tree_Sub.calls k2 _ _ l0 a1 t349 _ ?side1 ?side2 A47.out).mono ?_); (case side1 => repeat (first | exact (Kd.C_below HR0.out HB.out) | (with_reducible refine Kd.C_alloc ?_ _) | (with_reducible refine Kd.C_drewN ?_ _) | (with_reducible refine Kd.C_drew ?_))); (case side2 => exact HC0.out); rintro e w53 ⟨v350, rfl, ho0, hb⟩; have n0_ := Aside0.mk (Kd.R_elder' (by (with_reducible repeat (first | apply Kd.R_alloc | apply Kd.R_drewN | apply Kd.R_drew)); exact HO_5.out) (Kd.R_base ho0) hb); have n1_ := Aside0.mk (Kd.R_lower (Kd.R_new' ho0 (Kd.R_lt (by (with_reducible repeat (first | apply Kd.R_alloc | apply Kd.R_drewN | apply Kd.R_drew)); exact HO_5.out))) (below_size (by repeat (first | (with_reducible first | exact HB.out | apply below_alloc | apply pw_below_drewN | apply below_drew1) | exact HB.out)))); have n2_ := Aside0.mk (below_step (by repeat (first | (with_reducible first | exact HB.out | apply below_alloc | apply pw_below_drewN | apply below_drew1) | exact HB.out)) hb); clear HO_5; clear HB; have HO_5 := n0_; have HO351 := n1_; have HB := n2_; clear n0_ n1_ n2_; (try clear hb); (try clear ho0)) | (go_at_call 20; (with_reducible refine (chrysalisref09_Sub.calls k2 _ _ l0 a1 t352 _ ?side1 ?side2 A48.out).mono ?_); (case side1 => repeat (first | exact (Kd.C_below HR0.out HB.out) | (with_reducible refine Kd.C_alloc ?_ _) | (with_reducible refine Kd.C_drewN ?_ _) | (with_reducible refine Kd.C_drew ?_))); (case side2 => exact HC0.out); rintro e w54 ⟨v353, rfl, ho0, hb⟩; have n0_ := Aside0.mk (Kd.R_elder' (by (with_reducible repeat (first | apply Kd.R_alloc | apply Kd.R_drewN | apply Kd.R_drew)); exact HO_5.out) (Kd.R_base ho0) hb); have n1_ := Aside0.mk (Kd.R_elder' (by (with_reducible repeat (first | apply Kd.R_alloc | apply Kd.R_drewN | apply Kd.R_drew)); exact HO351.out) (Kd.R_base ho0) hb); have n2_ := Aside0.mk (Kd.R_lower (Kd.R_new' (Kd.R_new' ho0 (Kd.R_lt (by (with_reducible repeat (first | apply Kd.R_alloc | apply Kd.R_drewN | apply Kd.R_drew)); exact HO_5.out))) (Kd.R_lt (by (with_reducible repeat (first | apply Kd.R_alloc | apply Kd.R_drewN | apply Kd.R_drew)); exact HO351.out))) (below_size (by repeat (first | (with_reducible first | exact HB.out | apply below_alloc | apply pw_below_drewN | apply below_drew1) | exact HB.out)))); have n3_ := Aside0.mk (below_step (by repeat (first | (with_reducible first | exact HB.out | apply below_alloc | apply pw_below_drewN | apply below_drew1) | exact HB.out)) hb); clear HO_5; clear HO351; clear HB; have HO_5 := n0_; have HO351 := n1_; have HO354 := n2_; have HB := n3_; clear n0_ n1_ n2_ n3_; (try clear hb); (try clear ho0); obtain ⟨Ao55, co55, eo55⟩ := Kd.R_slice HO351.out; subst eo55; obtain ⟨Ao56, co56, eo56⟩ := Kd.R_slice HO354.out; subst eo56) | (go_at_call 19; (with_reducible refine (chrysalisref09_Same.calls k2 _ _ t349 _ _ t352 true _ ?side1 ?side2 ?side3 ?side4 A49.out).mono ?_); (case side1 => repeat (first | exact (Kd.R_reads' HO351.out).2.2 | (with_reducible refine Kd.C_alloc ?_ _) | (with_reducible refine Kd.C_drewN ?_ _) | (with_reducible refine Kd.C_drew ?_))); (case side2 => exact (Kd.R_reads' HO351.out).2.1); (case side3 => repeat (first | exact (Kd.R_reads' HO354.out).2.2 | (with_reducible refine Kd.C_alloc ?_ _) | (with_reducible refine Kd.C_drewN ?_ _) | (with_reducible refine Kd.C_drew ?_))); (case side4 => exact (Kd.R_reads' HO354.out).2.1); rintro e w' ⟨rfl, ⟨nd, rfl⟩⟩) | (go_at_call 10; (with_reducible refine (chrysalislaw09_known.calls k2  t356 _ A51.out).mono ?_); rintro e w57 ⟨rfl, hb⟩; have n0_ := Aside0.mk (Kd.R_below (by (with_reducible repeat (first | apply Kd.R_alloc | apply Kd.R_drewN | apply Kd.R_drew)); exact HO_5.out) hb); have n1_ := Aside0.mk (Kd.R_below (by (with_reducible repeat (first | apply Kd.R_alloc | apply Kd.R_drewN | apply Kd.R_drew)); exact HO351.out) hb); have n2_ := Aside0.mk (Kd.R_below (by (with_reducible repeat (first | apply Kd.R_alloc | apply Kd.R_drewN | apply Kd.R_drew)); exact HO354.out) hb); have n3_ := Aside0.mk (below_step (by repeat (first | (with_reducible first | exact HB.out | apply below_alloc | apply pw_below_drewN | apply below_drew1) | exact HB.out)) hb); clear HO_5; clear HO351; clear HO354; clear HB; have HO_5 := n0_; have HO351 := n1_; have HO354 := n2_; have HB := n3_; clear n0_ n1_ n2_ n3_; (try clear hb)))
                  go_ret
                  exact ⟨by first | rfl | (simp [errW_none, errW_some] <;> rfl) | (simp [*, errW_none, errW_some] <;> rfl), by repeat (first | (with_reducible first | exact HB.out | apply below_alloc | apply pw_below_drewN | apply below_drew1) | exact HB.out)⟩
                · replace c50 := Bool.eq_false_iff.mpr c50
                  subst c50
                  have H1 : (some false) = some r := by rw [if_neg (show ¬ (false = true) by decide)] at H; exact H
                  clear H
                  have H := H1
                  clear H1
                  exact absurd ((Option.some.inj H).trans HR.out) (by decide)
              · replace c46 := Bool.eq_false_iff.mpr c46
                subst c46
                have H1 : (some false) = some r := by rw [if_neg (show ¬ (false = true) by decide)] at H; exact H
                clear H
                have H := H1
                clear H1
                exact absurd ((Option.some.inj H).trans HR.out) (by decide)
  · replace c4 := Bool.eq_false_iff.mpr c4
    subst c4
    have H1 : ((chrysalislaw09_known.f k).bind fun t329 => (some t329)) = some r := by rw [if_neg (show ¬ (false = true) by decide)] at H; exact H
    clear H
    have H := H1
    clear H1
    replace H := Option.bind_eq_some_iff.mp H
    obtain ⟨t329, A640, H⟩ := H
    replace H : (some t329) = some r := H
    have A64 := Aside0.mk A640
    clear A640
    obtain rfl := Option.some.inj H
    go_enter Try.func4, Try.ntmps4
    go_wp2_with (first | ((with_reducible refine gate_callee (f := 9) rfl ?_); refine goesL_ (some 9) rfl rfl Try.func9 (by kernel_rfl) rfl #[.slice A0 l0.length c0] rfl (by (try simp only [List.map_toArray, List.map_cons, List.map_nil]); first | done | rfl | (simp only [List.length_drop, List.length_take]; rfl)) ?_; (with_reducible refine (chrysalisref09_Light.calls k _ _ l0 false _ ?side1 ?side2 A3.out).mono ?_); (case side1 => repeat (first | exact HR0.out | (with_reducible refine Kd.C_alloc ?_ _) | (with_reducible refine Kd.C_drewN ?_ _) | (with_reducible refine Kd.C_drew ?_))); (case side2 => exact HC0.out); rintro e w' ⟨rfl, ⟨nd, rfl⟩⟩; refine ⟨_, rfl, ?_⟩) | ((with_reducible refine gate_callee (f := 10) rfl ?_); refine goesL_ (some 11) rfl rfl Try.func10 (by kernel_rfl) rfl #[] rfl (by (try simp only [List.map_toArray, List.map_cons, List.map_nil]); first | done | rfl | (simp only [List.length_drop, List.length_take]; rfl)) ?_; (with_reducible refine (chrysalislaw09_known.calls k  t329 _ A64.out).mono ?_); rintro e w65 ⟨rfl, hb⟩; refine ⟨_, rfl, ?_⟩; have n0_ := Aside0.mk (below_step (by repeat (first | (with_reducible first | exact HB.out | apply below_alloc | apply pw_below_drewN | apply below_drew1) | exact HB.out)) hb); clear HB; have HB := n0_; clear n0_; (try clear hb)))
    go_ret
    exact ⟨by first | rfl | (simp [errW_none, errW_some] <;> rfl) | (simp [*, errW_none, errW_some] <;> rfl), by repeat (first | (with_reducible first | exact HB.out | apply below_alloc | apply pw_below_drewN | apply below_drew1) | exact HB.out)⟩

end Go.Proofs.Ytclhaajlgmiilaa.Q
