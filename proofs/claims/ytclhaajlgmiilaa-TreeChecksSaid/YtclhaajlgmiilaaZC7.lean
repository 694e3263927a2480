/- Walks over functions of the program, words for them, and what the functions come to; of each text only what this claim uses; no condition. -/
import Derived.Test.YtclhaajlgmiilaaZC3
import Derived.Test.YtclhaajlgmiilaaZC4
import Derived.Test.YtclhaajlgmiilaaZC6

section
namespace Go.Proofs.Ytclhaajlgmiilaa.Q
open Go.RowKit Go.Proofs.YtclhaajlgmiilaaW.PrintWords Go.Proofs.YtclhaajlgmiilaaW.PrintLast Go.Proofs.YtclhaajlgmiilaaW.PrintMore
attribute [local go_sem] max2_int min2_int max_two min_two max_three min_three max_four min_four
set_option linter.unusedVariables false
set_option linter.unusedSimpArgs false

/-! ### tree_Check: function 11 -/
mutual
def tree_Check.j0 : Nat → List (S36) → Bool → Option (Int × Int)
  | 0, _, _ => none
  | k + 1, x0, x13 => if x13 = true then (some (2, 0)) else ((tree_Depth.f k x0).bind fun t167 => (if t167 > 60 then (some (3, 0)) else (if 0 < (x0.length : Int) then (if ((rd_T36 x0 0).f0) = 1 then (tree_Check.l0 k x0 x0 (x0.length : Int) 0) else (some (4, 0))) else (none))))
def tree_Check.l0 : Nat → List (S36) → List (S36) → Int → Int → Option (Int × Int)
  | 0, _, _, _, _ => none
  | k + 1, x0, x34, x35, x36 => if x36 < x35 then (if 0 ≤ x36 then (if x36 < (x34.length : Int) then ((tree_Kids.f k x0 x36).bind fun t171 => (tree_Check.l1 k x0 x36 ([] : List Int) x34 x35 x36 t171 (t171.length : Int) 0 ((rd_T36 x34 x36).f0) ((rd_T36 x34 x36).f1) ((rd_T36 x34 x36).f2) ((rd_T36 x34 x36).f3) ((rd_T36 x34 x36).f4))) else (none)) else (none)) else (some (0, 0))
def tree_Check.l1 : Nat → List (S36) → Int → List Int → List (S36) → Int → Int → List Int → Int → Int → Int → Int → ByteArray → Int → ByteArray → Option (Int × Int)
  | 0, _, _, _, _, _, _, _, _, _, _, _, _, _, _ => none
  | k + 1, x0, x4, x6, x34, x35, x36, x43, x44, x45, x171000, x171001, x171002, x171003, x171004 => if x45 < x44 then (if 0 ≤ x45 then (if x45 < (x43.length : Int) then (if 0 ≤ (rd x43 x45) then (if (rd x43 x45) < (x0.length : Int) then (if x6.length < 17592186044416 then (tree_Check.l1 k x0 x4 (x6 ++ [(rd_T36 x0 (rd x43 x45)).f0]) x34 x35 x36 x43 x44 (wrap64 (x45 + 1)) x171000 x171001 x171002 x171003 x171004) else (none)) else (none)) else (none)) else (none)) else (none)) else ((tree_fields.f k x171000 x171001 x171002 x171003 x171004).bind fun t179 => (if t179 = true then ((tree_kids.f k x171000 x6).bind fun t180 => (if t180 = true then (tree_Check.l0 k x0 x34 x35 (wrap64 (x36 + 1))) else (some (4, x4)))) else (some (4, x4))))
end
def tree_Check.f (k : Nat) (l0 : List (S36)) : Option (Int × Int) := if (l0.length : Int) > 2000 then (some (3, 0)) else (if (l0.length : Int) = 0 then (tree_Check.j0 k l0 true) else ((tree_End.f k l0 0).bind fun t166 => (tree_Check.j0 k l0 (t166 != (l0.length : Int)))))
theorem tree_Check.mono_l : ∀ k, (∀ y0 y1, LeO (tree_Check.j0 k y0 y1) (tree_Check.j0 (k + 1) y0 y1)) ∧ (∀ y0 y1 y2 y3, LeO (tree_Check.l0 k y0 y1 y2 y3) (tree_Check.l0 (k + 1) y0 y1 y2 y3)) ∧ (∀ y0 y1 y2 y3 y4 y5 y6 y7 y8 y9 y10 y11 y12 y13, LeO (tree_Check.l1 k y0 y1 y2 y3 y4 y5 y6 y7 y8 y9 y10 y11 y12 y13) (tree_Check.l1 (k + 1) y0 y1 y2 y3 y4 y5 y6 y7 y8 y9 y10 y11 y12 y13))
  | 0 => ⟨fun _ _ r h => by simp [tree_Check.j0] at h, fun _ _ _ _ r h => by simp [tree_Check.l0] at h, fun _ _ _ _ _ _ _ _ _ _ _ _ _ _ r h => by simp [tree_Check.l1] at h⟩
  | k + 1 => by
    obtain ⟨ih0, ih1, ih2⟩ := tree_Check.mono_l k
    refine ⟨?_, ?_, ?_⟩
    · intro y0 y1
      unfold tree_Check.j0
      repeat' first
      | (with_reducible exact ih0 _ _)
      | (with_reducible exact ih1 _ _ _ _)
      | (with_reducible exact ih2 _ _ _ _ _ _ _ _ _ _ _ _ _ _)
      | (with_reducible exact tree_Depth.mono _ _)
      | (with_reducible exact tree_End.mono _ _ _)
      | (with_reducible exact tree_Kids.mono _ _ _)
      | (with_reducible exact tree_fields.mono _ _ _ _ _ _)
      | (with_reducible exact tree_kids.mono _ _ _)
      | (with_reducible exact LeO.refl _)
      | (with_reducible exact LeO.none _)
      | (with_reducible refine LeO.ite ?_ ?_)
      | (with_reducible refine LeO.bind ?_ (fun _ => ?_))
      | exact ih0 _ _
      | exact ih1 _ _ _ _
      | exact ih2 _ _ _ _ _ _ _ _ _ _ _ _ _ _
      | exact tree_Depth.mono _ _
      | exact tree_End.mono _ _ _
      | exact tree_Kids.mono _ _ _
      | exact tree_fields.mono _ _ _ _ _ _
      | exact tree_kids.mono _ _ _
      | exact LeO.none _
      | refine LeO.ite ?_ ?_
      | refine LeO.bind ?_ (fun _ => ?_)
    · intro y0 y1 y2 y3
      unfold tree_Check.l0
      repeat' first
      | (with_reducible exact ih0 _ _)
      | (with_reducible exact ih1 _ _ _ _)
      | (with_reducible exact ih2 _ _ _ _ _ _ _ _ _ _ _ _ _ _)
      | (with_reducible exact tree_Depth.mono _ _)
      | (with_reducible exact tree_End.mono _ _ _)
      | (with_reducible exact tree_Kids.mono _ _ _)
      | (with_reducible exact tree_fields.mono _ _ _ _ _ _)
      | (with_reducible exact tree_kids.mono _ _ _)
      | (with_reducible exact LeO.refl _)
      | (with_reducible exact LeO.none _)
      | (with_reducible refine LeO.ite ?_ ?_)
      | (with_reducible refine LeO.bind ?_ (fun _ => ?_))
      | exact ih0 _ _
      | exact ih1 _ _ _ _
      | exact ih2 _ _ _ _ _ _ _ _ _ _ _ _ _ _
      | exact tree_Depth.mono _ _
      | exact tree_End.mono _ _ _
      | exact tree_Kids.mono _ _ _
      | exact tree_fields.mono _ _ _ _ _ _
      | exact tree_kids.mono _ _ _
      | exact LeO.none _
      | refine LeO.ite ?_ ?_
      | refine LeO.bind ?_ (fun _ => ?_)
    · intro y0 y1 y2 y3 y4 y5 y6 y7 y8 y9 y10 y11 y12 y13
      unfold tree_Check.l1
      repeat' first
      | (with_reducible exact ih0 _ _)
      | (with_reducible exact ih1 _ _ _ _)
      | (with_reducible exact ih2 _ _ _ _ _ _ _ _ _ _ _ _ _ _)
      | (with_reducible exact tree_Depth.mono _ _)
      | (with_reducible exact tree_End.mono _ _ _)
      | (with_reducible exact tree_Kids.mono _ _ _)
      | (with_reducible exact tree_fields.mono _ _ _ _ _ _)
      | (with_reducible exact tree_kids.mono _ _ _)
      | (with_reducible exact LeO.refl _)
      | (with_reducible exact LeO.none _)
      | (with_reducible refine LeO.ite ?_ ?_)
      | (with_reducible refine LeO.bind ?_ (fun _ => ?_))
      | exact ih0 _ _
      | exact ih1 _ _ _ _
      | exact ih2 _ _ _ _ _ _ _ _ _ _ _ _ _ _
      | exact tree_Depth.mono _ _
      | exact tree_End.mono _ _ _
      | exact tree_Kids.mono _ _ _
      | exact tree_fields.mono _ _ _ _ _ _
      | exact tree_kids.mono _ _ _
      | exact LeO.none _
      | refine LeO.ite ?_ ?_
      | refine LeO.bind ?_ (fun _ => ?_)
theorem tree_Check.mono : ∀ a0 k, LeO (tree_Check.f k a0) (tree_Check.f (k + 1) a0) := by
  intro a0 k
  obtain ⟨ih0, ih1, ih2⟩ := tree_Check.mono_l k
  unfold tree_Check.f
  repeat' first
      | (with_reducible exact ih0 _ _)
      | (with_reducible exact ih1 _ _ _ _)
      | (with_reducible exact ih2 _ _ _ _ _ _ _ _ _ _ _ _ _ _)
      | (with_reducible exact tree_Depth.mono _ _)
      | (with_reducible exact tree_End.mono _ _ _)
      | (with_reducible exact tree_Kids.mono _ _ _)
      | (with_reducible exact tree_fields.mono _ _ _ _ _ _)
      | (with_reducible exact tree_kids.mono _ _ _)
      | (with_reducible exact LeO.refl _)
      | (with_reducible exact LeO.none _)
      | (with_reducible refine LeO.ite ?_ ?_)
      | (with_reducible refine LeO.bind ?_ (fun _ => ?_))
      | exact ih0 _ _
      | exact ih1 _ _ _ _
      | exact ih2 _ _ _ _ _ _ _ _ _ _ _ _ _ _
      | exact tree_Depth.mono _ _
      | exact tree_End.mono _ _ _
      | exact tree_Kids.mono _ _ _
      | exact tree_fields.mono _ _ _ _ _ _
      | exact tree_kids.mono _ _ _
      | exact LeO.none _
      | refine LeO.ite ?_ ?_
      | refine LeO.bind ?_ (fun _ => ?_)
set_option maxHeartbeats 8000000 in
set_option maxRecDepth 100000 in
theorem tree_Check.calls (k : Nat) (A0 : Option Addr) (c0 : Nat) (l0 : List (S36)) (r1 : Int) (r2 : Int) (w : World) (hr0 : Kd.C k36 w A0 l0.length l0) (hc0 : l0.length ≤ c0) (h : tree_Check.f k l0 = some (r1, r2)) :
    Calls Try.prog 11 #[.slice A0 l0.length c0] w fun e w' => e = .returned (.tuple #[.int .i64 r1, .int .i64 r2]) ∧ Below w.heap.size w w' := by
  have hu36 := Try.underlying36
  have HR0 := Aside0.mk hr0
  have HC0 := Aside0.mk hc0
  clear hr0 hc0
  have HB := Aside0.mk (Below.refl w.heap.size w)
  have H : (if (l0.length : Int) > 2000 then (some (3, 0)) else (if (l0.length : Int) = 0 then (tree_Check.j0 k l0 true) else ((tree_End.f k l0 0).bind fun t166 => (tree_Check.j0 k l0 (t166 != (l0.length : Int)))))) = some (r1, r2) := h
  clear h
  by_cases c2 : (l0.length : Int) > 2000
  · rw [if_pos c2] at H
    have c2b0 : decide (2000 < (l0.length : Int)) = true := decide_eq_true c2
    have c2b1 : decide (2000 < l0.length) = true := decide_eq_true (by omega)
    clear c2
    simp only [Option.some.injEq, Prod.mk.injEq] at H
    obtain ⟨rfl, rfl⟩ := H
    go_enter Try.func11, Try.ntmps11
    go_wp2
    go_ret2
    exact ⟨by first | rfl | (simp [errW_none, errW_some] <;> rfl) | (simp [*, errW_none, errW_some] <;> rfl), by repeat (first | (with_reducible first | exact HB.out | apply below_alloc | apply pw_below_drewN | apply below_drew1) | exact HB.out)⟩
  · rw [if_neg c2] at H
    have c2b0 : decide (2000 < (l0.length : Int)) = false := decide_eq_false c2
    have c2b1 : decide (2000 < l0.length) = false := decide_eq_false (by omega)
    clear c2
    have HC3 := Aside0.mk H
    clear H
    go_enter Try.func11, Try.ntmps11
    go_upto_region 3 with (fail)
    go_cut [13] (fun v13 wc => ∃ (kq : Nat) (x13_2 : Bool), v13 = .bool x13_2 ∧ Aside0 (tree_Check.j0 kq l0 x13_2 = some (r1, r2)) ∧ Aside0 (kq ≤ k) ∧ Aside0 (Below w.heap.size w wc))
    case first =>
      have H := HC3.out
      clear HC3
      by_cases c4 : (l0.length : Int) = 0
      · rw [if_pos c4] at H
        have c4b0 : ((l0.length : Int) == 0) = true := beq_iff_eq.mpr c4
        have c4b1 : ((l0.length : Int) != 0) = false := bne_eq_false_iff_eq.mpr c4
        clear c4
        (first | rw [c4b0] | (simp only [i64_w, i32_w]; rw [c4b0]) | skip)
        have H' := Aside0.mk H
        clear H
        go_wp2
        go_meet
        case rel => exact ⟨_, (true), (by first | rfl | (simp; done) | (simp [*]; done)), H', ⟨by first | omega | exact Nat.le_refl _⟩, ⟨by repeat (first | (with_reducible first | exact HB.out | apply below_alloc | apply pw_below_drewN | apply below_drew1) | exact HB.out)⟩⟩
      · rw [if_neg c4] at H
        have c4b0 : ((l0.length : Int) == 0) = false := beq_eq_false_iff_ne.mpr c4
        have c4b1 : ((l0.length : Int) != 0) = true := bne_iff_ne.mpr c4
        have c4b2 : ¬ (l0 = []) := fun h_ => c4 (by rw [h_]; rfl)
        (first | rw [c4b0] | (simp only [i64_w, i32_w]; rw [c4b0]) | skip)
        replace H := Option.bind_eq_some_iff.mp H
        obtain ⟨t166, A50, H⟩ := H
        replace H : (tree_Check.j0 k l0 (t166 != (l0.length : Int))) = some (r1, r2) := H
        have A5 := Aside0.mk A50
        clear A50
        have H' := Aside0.mk H
        clear H
        go_wp2_with (first | (go_at_call 14; (with_reducible refine (tree_End.calls k _ _ l0 0 t166 _ ?side1 ?side2 A5.out).mono ?_); (case side1 => repeat (first | exact (Kd.C_below HR0.out HB.out) | (with_reducible refine Kd.C_alloc ?_ _) | (with_reducible refine Kd.C_drewN ?_ _) | (with_reducible refine Kd.C_drew ?_))); (case side2 => exact HC0.out); rintro e w' ⟨rfl, ⟨nd, rfl⟩⟩))
        go_meet
        case rel => exact ⟨_, ((t166 != (l0.length : Int))), (by first | rfl | (simp; done) | (simp [*]; done)), H', ⟨by first | omega | exact Nat.le_refl _⟩, ⟨by repeat (first | (with_reducible first | exact HB.out | apply below_alloc | apply pw_below_drewN | apply below_drew1) | exact HB.out)⟩⟩
    case rest =>
      clear HC3
      try clear c1
      try clear c2
      try clear c2b0
      try clear c2b1
      try clear p2
      try clear c4
      try clear c4b0
      try clear c4b1
      try clear c4b2
      obtain ⟨kq, x13_2, rfl, HA, HJ2, HB⟩ := hcut
      cases kq with
      | zero => exact absurd HA.out (by simp [tree_Check.j0])
      | succ kj2 =>
        have H := HA.out
        clear HA
        simp only [tree_Check.j0] at H
        by_cases c6 : x13_2 = true
        · subst c6
          have H1 : (some (2, 0)) = some (r1, r2) := by rw [if_pos rfl] at H; exact H
          clear H
          have H := H1
          clear H1
          simp only [Option.some.injEq, Prod.mk.injEq] at H
          obtain ⟨rfl, rfl⟩ := H
          go_wp2
          go_ret2
          exact ⟨by first | rfl | (simp [errW_none, errW_some] <;> rfl) | (simp [*, errW_none, errW_some] <;> rfl), by repeat (first | (with_reducible first | exact HB.out | apply below_alloc | apply pw_below_drewN | apply below_drew1) | exact HB.out)⟩
        · replace c6 := Bool.eq_false_iff.mpr c6
          subst c6
          rw [if_neg (show ¬ (false = true) by decide)] at H
          have H1 := H
          clear H
          have H := H1
          clear H1
          replace H := Option.bind_eq_some_iff.mp H
          obtain ⟨t167, A70, H⟩ := H
          try dsimp only at H
          have A7 := Aside0.mk A70
          clear A70
          by_cases c8 : t167 > 60
          · rw [if_pos c8] at H
            have c8b0 : decide (60 < t167) = true := decide_eq_true c8
            clear c8
            simp only [Option.some.injEq, Prod.mk.injEq] at H
            obtain ⟨rfl, rfl⟩ := H
            go_wp2_with (first | ((with_reducible refine gate_callee (f := 21) rfl ?_); refine goesL_ (some 26) rfl rfl Try.func21 (by kernel_rfl) rfl #[.slice A0 l0.length c0] rfl (by (try simp only [List.map_toArray, List.map_cons, List.map_nil]); first | done | rfl | (simp only [List.length_drop, List.length_take]; rfl)) ?_; (with_reducible refine (tree_Depth.calls kj2 _ _ l0 t167 _ ?side1 ?side2 A7.out).mono ?_); (case side1 => repeat (first | exact (Kd.C_below HR0.out HB.out) | (with_reducible refine Kd.C_alloc ?_ _) | (with_reducible refine Kd.C_drewN ?_ _) | (with_reducible refine Kd.C_drew ?_))); (case side2 => exact HC0.out); rintro e w9 ⟨rfl, hb⟩; refine ⟨_, rfl, ?_⟩; have n0_ := Aside0.mk (below_step (by repeat (first | (with_reducible first | exact HB.out | apply below_alloc | apply pw_below_drewN | apply below_drew1) | exact HB.out)) hb); clear HB; have HB := n0_; clear n0_; (try clear hb)))
            go_ret2
            exact ⟨by first | rfl | (simp [errW_none, errW_some] <;> rfl) | (simp [*, errW_none, errW_some] <;> rfl), by repeat (first | (with_reducible first | exact HB.out | apply below_alloc | apply pw_below_drewN | apply below_drew1) | exact HB.out)⟩
          · rw [if_neg c8] at H
            have c8b0 : decide (60 < t167) = false := decide_eq_false c8
            clear c8
            by_cases c10 : 0 < (l0.length : Int)
            · rw [if_pos c10] at H
              have c10b0 : decide (0 < (l0.length : Int)) = true := decide_eq_true c10
              have c10b1 : decide (0 < l0.length) = true := decide_eq_true (by omega)
              clear c10
              by_cases c11 : ((rd_T36 l0 0).f0) = 1
              · rw [if_pos c11] at H
                have c11b0 : (((rd_T36 l0 0).f0) == 1) = true := beq_iff_eq.mpr c11
                have c11b1 : (((rd_T36 l0 0).f0) != 1) = false := bne_eq_false_iff_eq.mpr c11
                clear c11
                have H' := Aside0.mk H
                clear H
                go_wp2_with (first | ((with_reducible refine gate_callee (f := 21) rfl ?_); refine goesL_ (some 26) rfl rfl Try.func21 (by kernel_rfl) rfl #[.slice A0 l0.length c0] rfl (by (try simp only [List.map_toArray, List.map_cons, List.map_nil]); first | done | rfl | (simp only [List.length_drop, List.length_take]; rfl)) ?_; (with_reducible refine (tree_Depth.calls kj2 _ _ l0 t167 _ ?side1 ?side2 A7.out).mono ?_); (case side1 => repeat (first | exact (Kd.C_below HR0.out HB.out) | (with_reducible refine Kd.C_alloc ?_ _) | (with_reducible refine Kd.C_drewN ?_ _) | (with_reducible refine Kd.C_drew ?_))); (case side2 => exact HC0.out); rintro e w12 ⟨rfl, hb⟩; refine ⟨_, rfl, ?_⟩; have n0_ := Aside0.mk (below_step (by repeat (first | (with_reducible first | exact HB.out | apply below_alloc | apply pw_below_drewN | apply below_drew1) | exact HB.out)) hb); clear HB; have HB := n0_; clear n0_; (try clear hb); have p168 : 0 ≤ (0 : Int) := (by omega); have q168 : 0 < (l0.length : Int) := of_decide_eq_true (by first | (with_reducible assumption) | assumption); obtain ⟨ad168, e168, hx168_0, hx168_1, hx168_2, hx168_3, hx168_4⟩ := at_T36 HR0.out 0 p168 q168; cases e168; have qi168 : (0 < l0.length) = True := eq_true (by omega); (try rw [show ((0 : Int)).toNat = 0 from rfl] at hx168_0); (try rw [show 0 * 5 = 0 from rfl] at hx168_0); (try rw [Addr.add_zero'] at hx168_0); (try rw [show ((0 : Int)).toNat = 0 from rfl] at hx168_1); (try rw [show 0 * 5 = 0 from rfl] at hx168_1); (try rw [Addr.add_zero'] at hx168_1); (try rw [show ((0 : Int)).toNat = 0 from rfl] at hx168_2); (try rw [show 0 * 5 = 0 from rfl] at hx168_2); (try rw [Addr.add_zero'] at hx168_2); (try rw [show ((0 : Int)).toNat = 0 from rfl] at hx168_3); (try rw [show 0 * 5 = 0 from rfl] at hx168_3); (try rw [Addr.add_zero'] at hx168_3); (try rw [show ((0 : Int)).toNat = 0 from rfl] at hx168_4); (try rw [show 0 * 5 = 0 from rfl] at hx168_4); (try rw [Addr.add_zero'] at hx168_4); replace hx168_0 := (HB.out.cell (World.block_lt_of_cell? w _ hx168_0)).trans hx168_0; replace hx168_1 := (HB.out.cell (World.block_lt_of_cell? w _ hx168_1)).trans hx168_1; replace hx168_2 := (HB.out.cell (World.block_lt_of_cell? w _ hx168_2)).trans hx168_2; replace hx168_3 := (HB.out.cell (World.block_lt_of_cell? w _ hx168_3)).trans hx168_3; replace hx168_4 := (HB.out.cell (World.block_lt_of_cell? w _ hx168_4)).trans hx168_4; replace p168 := eq_true p168; replace q168 := eq_true q168))
                go_loopg [36] kj2 (fun kq v36 w' => ∃ (x36_2 : Int), v36 = .int .i64 x36_2 ∧ Aside0 (tree_Check.l0 kq l0 l0 (l0.length : Int) x36_2 = some (r1, r2)) ∧ Aside0 (kq ≤ kj2) ∧ Aside0 (Below w.heap.size w w'))
                case atStart => exact ⟨(0), (by first | rfl | (simp; done) | (simp [*]; done)), H', ⟨Nat.le_refl _⟩, ⟨by repeat (first | (with_reducible first | exact HB.out | apply below_alloc | apply pw_below_drewN | apply below_drew1) | exact HB.out)⟩⟩
                case round =>
                  clear H'
                  try clear c1
                  try clear p1
                  try clear q1
                  try clear hx1
                  try clear qi1
                  try clear c2
                  try clear c2b0
                  try clear c2b1
                  try clear p2
                  try clear c4
                  try clear c4b0
                  try clear c4b1
                  try clear c4b2
                  try clear c6
                  try clear c8
                  try clear c8b0
                  try clear c10
                  try clear c10b0
                  try clear c10b1
                  try clear c11
                  try clear c11b0
                  try clear c11b1
                  try clear hx168_0
                  try clear hx168_1
                  try clear hx168_2
                  try clear hx168_3
                  try clear hx168_4
                  try clear p168
                  try clear p2
                  try clear q168
                  obtain ⟨x36_2, rfl, HA, HK2, HB⟩ := hrel
                  cases gk with
                  | zero => exact absurd HA.out (by simp [tree_Check.l0])
                  | succ k2 =>
                    have H := HA.out
                    clear HA
                    simp only [tree_Check.l0] at H
                    by_cases c13 : x36_2 < (l0.length : Int)
                    · rw [if_pos c13] at H
                      have c13b0 : decide (x36_2 < (l0.length : Int)) = true := decide_eq_true c13
                      clear c13
                      by_cases c14 : 0 ≤ x36_2
                      · rw [if_pos c14] at H
                        have c14b0 : decide (0 ≤ x36_2) = true := decide_eq_true c14
                        clear c14
                        by_cases c15 : x36_2 < (l0.length : Int)
                        · rw [if_pos c15] at H
                          have c15b0 : decide (x36_2 < (l0.length : Int)) = true := decide_eq_true c15
                          clear c15
                          replace H := Option.bind_eq_some_iff.mp H
                          obtain ⟨t171, A160, H⟩ := H
                          try dsimp only at H
                          have A16 := Aside0.mk A160
                          clear A160
                          have H' := Aside0.mk H
                          clear H
                          have p169 : 0 ≤ (x36_2 : Int) := of_decide_eq_true (by first | (with_reducible assumption) | assumption)
                          have q169 : x36_2 < (l0.length : Int) := of_decide_eq_true (by first | (with_reducible assumption) | assumption)
                          obtain ⟨ad169, e169, hx169_0, hx169_1, hx169_2, hx169_3, hx169_4⟩ := at_T36 HR0.out x36_2 p169 q169
                          obtain rfl : ad168 = ad169 := (by injection e169)
                          replace hx169_0 := (HB.out.cell (World.block_lt_of_cell? w _ hx169_0)).trans hx169_0
                          replace hx169_1 := (HB.out.cell (World.block_lt_of_cell? w _ hx169_1)).trans hx169_1
                          replace hx169_2 := (HB.out.cell (World.block_lt_of_cell? w _ hx169_2)).trans hx169_2
                          replace hx169_3 := (HB.out.cell (World.block_lt_of_cell? w _ hx169_3)).trans hx169_3
                          replace hx169_4 := (HB.out.cell (World.block_lt_of_cell? w _ hx169_4)).trans hx169_4
                          replace p169 := eq_true p169
                          replace q169 := eq_true q169
                          go_wp2_with (first | ((with_reducible refine gate_dst (N := 5) rfl ?_); (try (refine gate_guard (by rfl) ?_; dsimp only)); refine box_event ?hg (N := 5) ?hd (cs := #[.int .i64 0, .int .i64 0, .string (⟨#[]⟩ : ByteArray), .int .i64 0, .string (⟨#[]⟩ : ByteArray)]) (t := 36) ?hr ?_; (case hd => rfl); (case hg => rfl); (case hr => first | (go_simp; done) | (go_simp; rfl)); intro gb170 hg w17 hbox hb; have n0_ := Aside0.mk (below_step (by repeat (first | (with_reducible first | exact HB.out | apply below_alloc | apply pw_below_drewN | apply below_drew1) | exact HB.out)) hb); have n1_ := Aside0.mk (hbox); have n2_ := Aside0.mk ((by rw [hg]; exact (below_size (by repeat (first | (with_reducible first | exact HB.out | apply below_alloc | apply pw_below_drewN | apply below_drew1) | exact HB.out))) : w.heap.size ≤ gb170)); have n3_ := Aside0.mk ((by rw [hg]; exact (below_size (by repeat (first | (with_reducible first | exact HB.out | apply below_alloc | apply pw_below_drewN | apply below_drew1) | exact HB.out))) : w.heap.size ≤ gb170)); clear HB; have HB := n0_; have BK170 := n1_; have GW170 := n2_; have GE170 := n3_; clear n0_ n1_ n2_ n3_; clear hb hbox hg; have hcz18_0 : w17.cell? ⟨gb170, 0, none⟩ = some (.int .i64 0) := (blk_cell BK170.out 0).trans rfl; have hcz18_1 : w17.cell? ⟨gb170, 1, none⟩ = some (.int .i64 0) := (blk_cell BK170.out 1).trans rfl; have hcz18_2 : w17.cell? ⟨gb170, 2, none⟩ = some (.string (⟨#[]⟩ : ByteArray)) := (blk_cell BK170.out 2).trans rfl; have hcz18_3 : w17.cell? ⟨gb170, 3, none⟩ = some (.int .i64 0) := (blk_cell BK170.out 3).trans rfl; have hcz18_4 : w17.cell? ⟨gb170, 4, none⟩ = some (.string (⟨#[]⟩ : ByteArray)) := (blk_cell BK170.out 4).trans rfl; have hfz18_0 := blk_frozen BK170.out 0; have hfz18_1 := blk_frozen BK170.out 1; have hfz18_2 := blk_frozen BK170.out 2; have hfz18_3 := blk_frozen BK170.out 3; have hfz18_4 := blk_frozen BK170.out 4) | ((with_reducible refine gate_callee (f := 17) rfl ?_); refine goesL_ (some 43) rfl rfl Try.func17 (by kernel_rfl) rfl #[.slice (some ad168) l0.length c0, .int .i64 x36_2] rfl (by (try simp only [List.map_toArray, List.map_cons, List.map_nil]); first | done | rfl | (simp only [List.length_drop, List.length_take]; rfl)) ?_; (with_reducible refine (tree_Kids.calls k2 _ _ l0 x36_2 t171 _ ?side1 ?side2 A16.out).mono ?_); (case side1 => exact Kd.C_below HR0.out (by repeat (first | (with_reducible first | exact HB.out | apply below_alloc | apply pw_below_drewN | apply below_drew1 | refine below_set ?_ GE170.out) | exact HB.out))); (case side2 => exact HC0.out); rintro e w19 ⟨v172, rfl, ho0, hb⟩; refine ⟨_, rfl, ?_⟩; have n0_ := Aside0.mk (Kd.R_lower ho0 (below_size (by repeat (first | (with_reducible first | exact HB.out | apply below_alloc | apply pw_below_drewN | apply below_drew1 | refine below_set ?_ GE170.out) | exact HB.out)))); have n1_ := Aside0.mk (blk_below (g := gb170) (o := .cells #[.int .i64 ((rd_T36 l0 x36_2).f0), .int .i64 ((rd_T36 l0 x36_2).f1), .string ((rd_T36 l0 x36_2).f2), .int .i64 ((rd_T36 l0 x36_2).f3), .string ((rd_T36 l0 x36_2).f4)] 36 (0, 0)) (by refine blk_put (cs := #[.int .i64 ((rd_T36 l0 x36_2).f0), .int .i64 ((rd_T36 l0 x36_2).f1), .string ((rd_T36 l0 x36_2).f2), .int .i64 ((rd_T36 l0 x36_2).f3), .string (⟨#[]⟩ : ByteArray)]) ?_ 4 _ rfl; refine blk_put (cs := #[.int .i64 ((rd_T36 l0 x36_2).f0), .int .i64 ((rd_T36 l0 x36_2).f1), .string ((rd_T36 l0 x36_2).f2), .int .i64 0, .string (⟨#[]⟩ : ByteArray)]) ?_ 3 _ rfl; refine blk_put (cs := #[.int .i64 ((rd_T36 l0 x36_2).f0), .int .i64 ((rd_T36 l0 x36_2).f1), .string (⟨#[]⟩ : ByteArray), .int .i64 0, .string (⟨#[]⟩ : ByteArray)]) ?_ 2 _ rfl; refine blk_put (cs := #[.int .i64 ((rd_T36 l0 x36_2).f0), .int .i64 0, .string (⟨#[]⟩ : ByteArray), .int .i64 0, .string (⟨#[]⟩ : ByteArray)]) ?_ 1 _ rfl; refine blk_put (cs := #[.int .i64 0, .int .i64 0, .string (⟨#[]⟩ : ByteArray), .int .i64 0, .string (⟨#[]⟩ : ByteArray)]) ?_ 0 _ rfl; exact BK170.out) hb); have n2_ := Aside0.mk (below_step (by repeat (first | (with_reducible first | exact HB.out | apply below_alloc | apply pw_below_drewN | apply below_drew1 | refine below_set ?_ GE170.out) | exact HB.out)) hb); clear BK170; clear HB; have HO173 := n0_; have BK170 := n1_; have HB := n2_; clear n0_ n1_ n2_; (try clear hb); (try clear ho0); obtain ⟨Ao20, co20, eo20⟩ := Kd.R_slice HO173.out; subst eo20))
                          go_loopg [6, 45] k2 (fun kq v6 v45 w' => ∃ (x6_3 : List Int) (x45_3 : Int), v45 = .int .i64 x45_3 ∧ Aside0 (tree_Check.l1 kq l0 x36_2 x6_3 l0 (l0.length : Int) x36_2 t171 (t171.length : Int) x45_3 ((rd_T36 l0 x36_2).f0) ((rd_T36 l0 x36_2).f1) ((rd_T36 l0 x36_2).f2) ((rd_T36 l0 x36_2).f3) ((rd_T36 l0 x36_2).f4) = some (r1, r2)) ∧ Aside0 (kq ≤ k2) ∧ Aside0 (Kd.R (Kd.int .i64) 3 w' w.heap.size (fun k_ => some k_ ≠ ((.slice Ao20 t171.length co20) : Value).ownBlock) v6 x6_3) ∧ Aside0 (Kd.R (Kd.int .i64) 3 w' w.heap.size (fun k_ => some k_ ≠ (v6 : Value).ownBlock) (.slice Ao20 t171.length co20) t171) ∧ Aside0 (w'.heap[gb170]? = some (.cells #[.int .i64 ((rd_T36 l0 x36_2).f0), .int .i64 ((rd_T36 l0 x36_2).f1), .string ((rd_T36 l0 x36_2).f2), .int .i64 ((rd_T36 l0 x36_2).f3), .string ((rd_T36 l0 x36_2).f4)] 36 (0, 0))) ∧ Aside0 (Below w.heap.size w w'))
                          case atStart => exact ⟨(([] : List Int)), (0), (by first | rfl | (simp; done) | (simp [*]; done)), H', ⟨Nat.le_refl _⟩, ⟨by first | exact Kd.R_nil _ _ _ _ _ | exact Kd.N_nil _ _ _ _ _ | exact Kd.V_nil _ _ _ _ _ | exact Kd.Q_nil _ _ _ _ _ | exact Kd.S_nil _ _ _ _ _⟩, ⟨by (with_reducible repeat (first | apply Kd.R_alloc | apply Kd.R_drewN | apply Kd.R_drew)); exact Kd.R_mono HO173.out (fun _ hk => (by simp [Value.ownBlock]))⟩, ⟨by exact BK170.out⟩, ⟨by repeat (first | (with_reducible first | exact HB.out | apply below_alloc | apply pw_below_drewN | apply below_drew1 | refine below_set ?_ GE170.out) | exact HB.out)⟩⟩
                          case round =>
                            clear H'
                            try clear c1
                            try clear p1
                            try clear q1
                            try clear hx1
                            try clear qi1
                            try clear c2
                            try clear c2b0
                            try clear c2b1
                            try clear p2
                            try clear c4
                            try clear c4b0
                            try clear c4b1
                            try clear c4b2
                            try clear c6
                            try clear c8
                            try clear c8b0
                            try clear c10
                            try clear c10b0
                            try clear c10b1
                            try clear c11
                            try clear c11b0
                            try clear c11b1
                            try clear c13
                            try clear c13b0
                            try clear c14
                            try clear c14b0
                            try clear c15
                            try clear c15b0
                            try clear p16
                            try clear q16
                            try clear hx16
                            try clear qi16
                            try clear c17
                            try clear hcz18_0
                            try clear hcz18_1
                            try clear hcz18_2
                            try clear hcz18_3
                            try clear hcz18_4
                            try clear hfz18_0
                            try clear hfz18_1
                            try clear hfz18_2
                            try clear hfz18_3
                            try clear hfz18_4
                            try clear hx168_0
                            try clear hx168_1
                            try clear hx168_2
                            try clear hx168_3
                            try clear hx168_4
                            try clear hx169_0
                            try clear hx169_1
                            try clear hx169_2
                            try clear hx169_3
                            try clear hx169_4
                            try clear p1
                            try clear p168
                            try clear p169
                            try clear p2
                            try clear q1
                            try clear q168
                            try clear q169
                            obtain ⟨x6_3, x45_3, rfl, HA, HK3, HO_6, HO_43, BK170, HB⟩ := hrel
                            cases gk with
                            | zero => exact absurd HA.out (by simp [tree_Check.l1])
                            | succ k3 =>
                              have H := HA.out
                              clear HA
                              simp only [tree_Check.l1] at H
                              by_cases c21 : x45_3 < (t171.length : Int)
                              · rw [if_pos c21] at H
                                have c21b0 : decide (x45_3 < (t171.length : Int)) = true := decide_eq_true c21
                                clear c21
                                by_cases c22 : 0 ≤ x45_3
                                · rw [if_pos c22] at H
                                  have c22b0 : decide (0 ≤ x45_3) = true := decide_eq_true c22
                                  clear c22
                                  by_cases c23 : x45_3 < (t171.length : Int)
                                  · rw [if_pos c23] at H
                                    have c23b0 : decide (x45_3 < (t171.length : Int)) = true := decide_eq_true c23
                                    clear c23
                                    by_cases c24 : 0 ≤ (rd t171 x45_3)
                                    · rw [if_pos c24] at H
                                      have c24b0 : decide (0 ≤ (rd t171 x45_3)) = true := decide_eq_true c24
                                      clear c24
                                      by_cases c25 : (rd t171 x45_3) < (l0.length : Int)
                                      · rw [if_pos c25] at H
                                        have c25b0 : decide ((rd t171 x45_3) < (l0.length : Int)) = true := decide_eq_true c25
                                        clear c25
                                        by_cases c26 : x6_3.length < 17592186044416
                                        · rw [if_pos c26] at H
                                          have LMc26 := Aside0.mk c26
                                          clear c26
                                          obtain ⟨y176, hy176⟩ : ∃ y_ : List Int, y_ = (x6_3 ++ [(rd_T36 l0 (rd t171 x45_3)).f0]) := ⟨_, rfl⟩
                                          replace H : (tree_Check.l1 k3 l0 x36_2 y176 l0 (l0.length : Int) x36_2 t171 (t171.length : Int) (wrap64 (x45_3 + 1)) ((rd_T36 l0 x36_2).f0) ((rd_T36 l0 x36_2).f1) ((rd_T36 l0 x36_2).f2) ((rd_T36 l0 x36_2).f3) ((rd_T36 l0 x36_2).f4)) = some (r1, r2) := by first | (rw [hy176]; with_reducible exact H) | (have H2_ := (Option.bind_some _ _).symm.trans H; rw [hy176]; with_reducible exact H2_) | (have H2_ := (Option.bind_some _ _).symm.trans H; with_reducible exact H2_) | with_reducible exact H | (rw [hy176]; exact H) | exact H
                                          have Ny176 := Aside0.mk hy176
                                          clear hy176
                                          have H' := Aside0.mk H
                                          clear H
                                          have p174 : 0 ≤ (x45_3 : Int) := of_decide_eq_true (by first | (with_reducible assumption) | assumption)
                                          have q174 : x45_3 < (t171.length : Int) := of_decide_eq_true (by first | (with_reducible assumption) | assumption)
                                          obtain ⟨ad174, e174, hx174_0⟩ := Kd.at_int (Kd.R_reads' HO_43.out).2.2 x45_3 p174 q174
                                          cases e174
                                          replace p174 := eq_true p174
                                          replace q174 := eq_true q174
                                          have p175 : 0 ≤ ((rd t171 x45_3) : Int) := of_decide_eq_true (by first | (with_reducible assumption) | assumption)
                                          have q175 : (rd t171 x45_3) < (l0.length : Int) := of_decide_eq_true (by first | (with_reducible assumption) | assumption)
                                          obtain ⟨ad175, e175, hx175_0, hx175_1, hx175_2, hx175_3, hx175_4⟩ := at_T36 HR0.out (rd t171 x45_3) p175 q175
                                          obtain rfl : ad168 = ad175 := (by injection e175)
                                          replace hx175_0 := (HB.out.cell (World.block_lt_of_cell? w _ hx175_0)).trans hx175_0
                                          replace hx175_1 := (HB.out.cell (World.block_lt_of_cell? w _ hx175_1)).trans hx175_1
                                          replace hx175_2 := (HB.out.cell (World.block_lt_of_cell? w _ hx175_2)).trans hx175_2
                                          replace hx175_3 := (HB.out.cell (World.block_lt_of_cell? w _ hx175_3)).trans hx175_3
                                          replace hx175_4 := (HB.out.cell (World.block_lt_of_cell? w _ hx175_4)).trans hx175_4
                                          replace p175 := eq_true p175
                                          replace q175 := eq_true q175
                                          go_wp2_with (first | ((with_reducible refine gate_builtin (b := .append) (xs := #[.tmp 49, .tmp 55]) rfl ?_); (try (refine gate_guard (by rfl) ?_; dsimp only)); at_builtin; refine Kd.R_append (Kd.int .i64) (w0 := w) w.heap.size rfl (.tmp 49) (.tmp 55) 31 3 (.int .i64 0) 8 rfl Try.underlying31 info3 rfl (by decide) (by omega) u6 x6_3 ((rd_T36 l0 (rd t171 x45_3)).f0) [.int .i64 ((rd_T36 l0 (rd t171 x45_3)).f0)] (fun k_ => some k_ ≠ (.slice (some ad174) t171.length co20 : Value).ownBlock) (fun _ => False) rfl rfl ?aP (fun _ hk => hk.elim) ?aF ?aO ?aB ?aS ?aL ?_; (case aP => exact rfl); (case aB => exact (by repeat (first | (with_reducible first | exact HB.out | apply below_alloc | apply pw_below_drewN | apply below_drew1 | refine below_set ?_ GE170.out) | exact HB.out))); (case aF => exact (fun k_ hk => Kd.fresh' (Kd.R_lt (by (with_reducible repeat (first | apply Kd.R_alloc | apply Kd.R_drewN | apply Kd.R_drew)); exact HO_43.out)) k_ hk)); (case aO => exact (by (with_reducible repeat (first | apply Kd.R_alloc | apply Kd.R_drewN | apply Kd.R_drew)); exact HO_6.out)); (case aS => exact (below_size (by repeat (first | (with_reducible first | exact HB.out | apply below_alloc | apply pw_below_drewN | apply below_drew1 | refine below_set ?_ GE170.out) | exact HB.out)))); (case aL => have := LMc26.out; omega); intro v177 w27 ho hb hg hat; rw [← Ny176.out] at ho; have n0_ := Aside0.mk (Kd.R_after (ok := (fun _ => True)) (by (with_reducible repeat (first | apply Kd.R_alloc | apply Kd.R_drewN | apply Kd.R_drew)); exact Kd.R_mono HO_43.out (fun _ hk => ⟨trivial, hk⟩)) hg hat); have n1_ := Aside0.mk (blk_grown (g := gb170) (o := .cells #[.int .i64 ((rd_T36 l0 x36_2).f0), .int .i64 ((rd_T36 l0 x36_2).f1), .string ((rd_T36 l0 x36_2).f2), .int .i64 ((rd_T36 l0 x36_2).f3), .string ((rd_T36 l0 x36_2).f4)] 36 (0, 0)) (by exact BK170.out) hg (Kd.R_ne HO_6.out BK170.out (by decide))); have n2_ := Aside0.mk (hb); have n3_ := Aside0.mk (ho); clear HO_43; clear BK170; clear HB; clear HO_6; have HO_43 := n0_; have BK170 := n1_; have HB := n2_; have HO178 := n3_; clear n0_ n1_ n2_ n3_; clear ho hb hg hat))
                                          go_roundg k3
                                          case measure => have := HJ2.out; have := HK2.out; have := HK3.out; omega
                                          case rel => exact ⟨(y176), (wrap64 (x45_3 + 1)), (by first | rfl | (simp; done) | (simp [*]; done)), H', ⟨by have := HJ2.out; have := HK2.out; have := HK3.out; omega⟩, ⟨by (with_reducible repeat (first | apply Kd.R_alloc | apply Kd.R_drewN | apply Kd.R_drew)); exact HO178.out⟩, ⟨by (with_reducible repeat (first | apply Kd.R_alloc | apply Kd.R_drewN | apply Kd.R_drew)); exact Kd.R_mono HO_43.out (fun _ hk => hk.2)⟩, ⟨by exact BK170.out⟩, ⟨by repeat (first | (with_reducible first | exact HB.out | apply below_alloc | apply pw_below_drewN | apply below_drew1 | refine below_set ?_ GE170.out) | exact HB.out)⟩⟩
                                        · rw [if_neg c26] at H
                                          exact absurd H (by simp)
                                      · rw [if_neg c25] at H
                                        exact absurd H (by simp)
                                    · rw [if_neg c24] at H
                                      exact absurd H (by simp)
                                  · rw [if_neg c23] at H
                                    exact absurd H (by simp)
                                · rw [if_neg c22] at H
                                  exact absurd H (by simp)
                              · rw [if_neg c21] at H
                                have c21b0 : decide (x45_3 < (t171.length : Int)) = false := decide_eq_false c21
                                clear c21
                                replace H := Option.bind_eq_some_iff.mp H
                                obtain ⟨t179, A280, H⟩ := H
                                try dsimp only at H
                                have A28 := Aside0.mk A280
                                clear A280
                                by_cases c29 : t179 = true
                                · subst c29
                                  rw [if_pos rfl] at H
                                  have H1 := H
                                  clear H
                                  have H := H1
                                  clear H1
                                  replace H := Option.bind_eq_some_iff.mp H
                                  obtain ⟨t180, A300, H⟩ := H
                                  replace H : (if t180 = true then (tree_Check.l0 k3 l0 l0 (l0.length : Int) (wrap64 (x36_2 + 1))) else (some (4, x36_2))) = some (r1, r2) := H
                                  have A30 := Aside0.mk A300
                                  clear A300
                                  by_cases c31 : t180 = true
                                  · subst c31
                                    have H1 : (tree_Check.l0 k3 l0 l0 (l0.length : Int) (wrap64 (x36_2 + 1))) = some (r1, r2) := by rw [if_pos rfl] at H; exact H
                                    clear H
                                    have H := H1
                                    clear H1
                                    have H' := Aside0.mk H
                                    clear H
                                    have hcz32_0 : wr.cell? ⟨gb170, 0, none⟩ = some (.int .i64 ((rd_T36 l0 x36_2).f0)) := (blk_cell BK170.out 0).trans rfl
                                    have hcz32_1 : wr.cell? ⟨gb170, 1, none⟩ = some (.int .i64 ((rd_T36 l0 x36_2).f1)) := (blk_cell BK170.out 1).trans rfl
                                    have hcz32_2 : wr.cell? ⟨gb170, 2, none⟩ = some (.string ((rd_T36 l0 x36_2).f2)) := (blk_cell BK170.out 2).trans rfl
                                    have hcz32_3 : wr.cell? ⟨gb170, 3, none⟩ = some (.int .i64 ((rd_T36 l0 x36_2).f3)) := (blk_cell BK170.out 3).trans rfl
                                    have hcz32_4 : wr.cell? ⟨gb170, 4, none⟩ = some (.string ((rd_T36 l0 x36_2).f4)) := (blk_cell BK170.out 4).trans rfl
                                    have hfz32_0 := blk_frozen BK170.out 0
                                    have hfz32_1 := blk_frozen BK170.out 1
                                    have hfz32_2 := blk_frozen BK170.out 2
                                    have hfz32_3 := blk_frozen BK170.out 3
                                    have hfz32_4 := blk_frozen BK170.out 4
                                    go_wp2_with (first | ((with_reducible refine gate_callee (f := 28) rfl ?_); refine goesL_ (some 59) rfl rfl Try.func28 (by kernel_rfl) rfl #[.agg #[.int .i64 ((rd_T36 l0 x36_2).f0), .int .i64 ((rd_T36 l0 x36_2).f1), .string ((rd_T36 l0 x36_2).f2), .int .i64 ((rd_T36 l0 x36_2).f3), .string ((rd_T36 l0 x36_2).f4)]] rfl (by (try simp only [List.map_toArray, List.map_cons, List.map_nil]); first | done | rfl | (simp only [List.length_drop, List.length_take]; rfl)) ?_; (with_reducible refine (tree_fields.calls k3 ((rd_T36 l0 x36_2).f0) ((rd_T36 l0 x36_2).f1) ((rd_T36 l0 x36_2).f2) ((rd_T36 l0 x36_2).f3) ((rd_T36 l0 x36_2).f4) true _ A28.out).mono ?_); rintro e w33 ⟨rfl, hb⟩; refine ⟨_, rfl, ?_⟩; have n0_ := Aside0.mk (Kd.R_below (by (with_reducible repeat (first | apply Kd.R_alloc | apply Kd.R_drewN | apply Kd.R_drew)); exact HO_6.out) hb); have n1_ := Aside0.mk (Kd.R_below (by (with_reducible repeat (first | apply Kd.R_alloc | apply Kd.R_drewN | apply Kd.R_drew)); exact HO_43.out) hb); have n2_ := Aside0.mk (blk_below (g := gb170) (o := .cells #[.int .i64 ((rd_T36 l0 x36_2).f0), .int .i64 ((rd_T36 l0 x36_2).f1), .string ((rd_T36 l0 x36_2).f2), .int .i64 ((rd_T36 l0 x36_2).f3), .string ((rd_T36 l0 x36_2).f4)] 36 (0, 0)) (by exact BK170.out) hb); have n3_ := Aside0.mk (below_step (by repeat (first | (with_reducible first | exact HB.out | apply below_alloc | apply pw_below_drewN | apply below_drew1 | refine below_set ?_ GE170.out) | exact HB.out)) hb); clear HO_6; clear HO_43; clear BK170; clear HB; have HO_6 := n0_; have HO_43 := n1_; have BK170 := n2_; have HB := n3_; clear n0_ n1_ n2_ n3_; (try clear hb); have hcz34_0 : w33.cell? ⟨gb170, 0, none⟩ = some (.int .i64 ((rd_T36 l0 x36_2).f0)) := (blk_cell BK170.out 0).trans rfl; have hcz34_1 : w33.cell? ⟨gb170, 1, none⟩ = some (.int .i64 ((rd_T36 l0 x36_2).f1)) := (blk_cell BK170.out 1).trans rfl; have hcz34_2 : w33.cell? ⟨gb170, 2, none⟩ = some (.string ((rd_T36 l0 x36_2).f2)) := (blk_cell BK170.out 2).trans rfl; have hcz34_3 : w33.cell? ⟨gb170, 3, none⟩ = some (.int .i64 ((rd_T36 l0 x36_2).f3)) := (blk_cell BK170.out 3).trans rfl; have hcz34_4 : w33.cell? ⟨gb170, 4, none⟩ = some (.string ((rd_T36 l0 x36_2).f4)) := (blk_cell BK170.out 4).trans rfl; have hfz34_0 := blk_frozen BK170.out 0; have hfz34_1 := blk_frozen BK170.out 1; have hfz34_2 := blk_frozen BK170.out 2; have hfz34_3 := blk_frozen BK170.out 3; have hfz34_4 := blk_frozen BK170.out 4; obtain ⟨Ao35, co35, eo35⟩ := Kd.R_slice HO_6.out; subst eo35) | (go_at_call 29; (with_reducible refine (tree_kids.calls k3 ((rd_T36 l0 x36_2).f0) _ _ x6_3 true _ ?side1 ?side2 A30.out).mono ?_); (case side1 => repeat (first | exact (Kd.R_reads' HO_6.out).2.2 | (with_reducible refine Kd.C_alloc ?_ _) | (with_reducible refine Kd.C_drewN ?_ _) | (with_reducible refine Kd.C_drew ?_))); (case side2 => exact (Kd.R_reads' HO_6.out).2.1); rintro e w36 ⟨rfl, hb⟩; have n0_ := Aside0.mk (Kd.R_below (by (with_reducible repeat (first | apply Kd.R_alloc | apply Kd.R_drewN | apply Kd.R_drew)); exact HO_6.out) hb); have n1_ := Aside0.mk (Kd.R_below (by (with_reducible repeat (first | apply Kd.R_alloc | apply Kd.R_drewN | apply Kd.R_drew)); exact HO_43.out) hb); have n2_ := Aside0.mk (blk_below (g := gb170) (o := .cells #[.int .i64 ((rd_T36 l0 x36_2).f0), .int .i64 ((rd_T36 l0 x36_2).f1), .string ((rd_T36 l0 x36_2).f2), .int .i64 ((rd_T36 l0 x36_2).f3), .string ((rd_T36 l0 x36_2).f4)] 36 (0, 0)) (by exact BK170.out) hb); have n3_ := Aside0.mk (below_step (by repeat (first | (with_reducible first | exact HB.out | apply below_alloc | apply pw_below_drewN | apply below_drew1 | refine below_set ?_ GE170.out) | exact HB.out)) hb); clear HO_6; clear HO_43; clear BK170; clear HB; have HO_6 := n0_; have HO_43 := n1_; have BK170 := n2_; have HB := n3_; clear n0_ n1_ n2_ n3_; (try clear hb)))
                                    go_roundg k3
                                    case measure => have := HJ2.out; have := HK2.out; have := HK3.out; omega
                                    case rel => exact ⟨(wrap64 (x36_2 + 1)), (by first | rfl | (simp; done) | (simp [*]; done)), H', ⟨by have := HJ2.out; have := HK2.out; have := HK3.out; omega⟩, ⟨by repeat (first | (with_reducible first | exact HB.out | apply below_alloc | apply pw_below_drewN | apply below_drew1 | refine below_set ?_ GE170.out) | exact HB.out)⟩⟩
                                  · replace c31 := Bool.eq_false_iff.mpr c31
                                    subst c31
                                    have H1 : (some (4, x36_2)) = some (r1, r2) := by rw [if_neg (show ¬ (false = true) by decide)] at H; exact H
                                    clear H
                                    have H := H1
                                    clear H1
                                    simp only [Option.some.injEq, Prod.mk.injEq] at H
                                    obtain ⟨rfl, rfl⟩ := H
                                    have hcz37_0 : wr.cell? ⟨gb170, 0, none⟩ = some (.int .i64 ((rd_T36 l0 x36_2).f0)) := (blk_cell BK170.out 0).trans rfl
                                    have hcz37_1 : wr.cell? ⟨gb170, 1, none⟩ = some (.int .i64 ((rd_T36 l0 x36_2).f1)) := (blk_cell BK170.out 1).trans rfl
                                    have hcz37_2 : wr.cell? ⟨gb170, 2, none⟩ = some (.string ((rd_T36 l0 x36_2).f2)) := (blk_cell BK170.out 2).trans rfl
                                    have hcz37_3 : wr.cell? ⟨gb170, 3, none⟩ = some (.int .i64 ((rd_T36 l0 x36_2).f3)) := (blk_cell BK170.out 3).trans rfl
                                    have hcz37_4 : wr.cell? ⟨gb170, 4, none⟩ = some (.string ((rd_T36 l0 x36_2).f4)) := (blk_cell BK170.out 4).trans rfl
                                    have hfz37_0 := blk_frozen BK170.out 0
                                    have hfz37_1 := blk_frozen BK170.out 1
                                    have hfz37_2 := blk_frozen BK170.out 2
                                    have hfz37_3 := blk_frozen BK170.out 3
                                    have hfz37_4 := blk_frozen BK170.out 4
                                    go_wp2_with (first | ((with_reducible refine gate_callee (f := 28) rfl ?_); refine goesL_ (some 59) rfl rfl Try.func28 (by kernel_rfl) rfl #[.agg #[.int .i64 ((rd_T36 l0 x36_2).f0), .int .i64 ((rd_T36 l0 x36_2).f1), .string ((rd_T36 l0 x36_2).f2), .int .i64 ((rd_T36 l0 x36_2).f3), .string ((rd_T36 l0 x36_2).f4)]] rfl (by (try simp only [List.map_toArray, List.map_cons, List.map_nil]); first | done | rfl | (simp only [List.length_drop, List.length_take]; rfl)) ?_; (with_reducible refine (tree_fields.calls k3 ((rd_T36 l0 x36_2).f0) ((rd_T36 l0 x36_2).f1) ((rd_T36 l0 x36_2).f2) ((rd_T36 l0 x36_2).f3) ((rd_T36 l0 x36_2).f4) true _ A28.out).mono ?_); rintro e w38 ⟨rfl, hb⟩; refine ⟨_, rfl, ?_⟩; have n0_ := Aside0.mk (Kd.R_below (by (with_reducible repeat (first | apply Kd.R_alloc | apply Kd.R_drewN | apply Kd.R_drew)); exact HO_6.out) hb); have n1_ := Aside0.mk (Kd.R_below (by (with_reducible repeat (first | apply Kd.R_alloc | apply Kd.R_drewN | apply Kd.R_drew)); exact HO_43.out) hb); have n2_ := Aside0.mk (blk_below (g := gb170) (o := .cells #[.int .i64 ((rd_T36 l0 x36_2).f0), .int .i64 ((rd_T36 l0 x36_2).f1), .string ((rd_T36 l0 x36_2).f2), .int .i64 ((rd_T36 l0 x36_2).f3), .string ((rd_T36 l0 x36_2).f4)] 36 (0, 0)) (by exact BK170.out) hb); have n3_ := Aside0.mk (below_step (by repeat (first | (with_reducible first | exact HB.out | apply below_alloc | apply pw_below_drewN | apply below_drew1 | refine below_set ?_ GE170.out) | exact HB.out)) hb); clear HO_6; clear HO_43; clear BK170; clear HB; have HO_6 := n0_; have HO_43 := n1_; have BK170 := n2_; have HB := n3_; clear n0_ n1_ n2_ n3_; (try clear hb); have hcz39_0 : w38.cell? ⟨gb170, 0, none⟩ = some (.int .i64 ((rd_T36 l0 x36_2).f0)) := (blk_cell BK170.out 0).trans rfl; have hcz39_1 : w38.cell? ⟨gb170, 1, none⟩ = some (.int .i64 ((rd_T36 l0 x36_2).f1)) := (blk_cell BK170.out 1).trans rfl; have hcz39_2 : w38.cell? ⟨gb170, 2, none⟩ = some (.string ((rd_T36 l0 x36_2).f2)) := (blk_cell BK170.out 2).trans rfl; have hcz39_3 : w38.cell? ⟨gb170, 3, none⟩ = some (.int .i64 ((rd_T36 l0 x36_2).f3)) := (blk_cell BK170.out 3).trans rfl; have hcz39_4 : w38.cell? ⟨gb170, 4, none⟩ = some (.string ((rd_T36 l0 x36_2).f4)) := (blk_cell BK170.out 4).trans rfl; have hfz39_0 := blk_frozen BK170.out 0; have hfz39_1 := blk_frozen BK170.out 1; have hfz39_2 := blk_frozen BK170.out 2; have hfz39_3 := blk_frozen BK170.out 3; have hfz39_4 := blk_frozen BK170.out 4; obtain ⟨Ao40, co40, eo40⟩ := Kd.R_slice HO_6.out; subst eo40) | (go_at_call 29; (with_reducible refine (tree_kids.calls k3 ((rd_T36 l0 x36_2).f0) _ _ x6_3 false _ ?side1 ?side2 A30.out).mono ?_); (case side1 => repeat (first | exact (Kd.R_reads' HO_6.out).2.2 | (with_reducible refine Kd.C_alloc ?_ _) | (with_reducible refine Kd.C_drewN ?_ _) | (with_reducible refine Kd.C_drew ?_))); (case side2 => exact (Kd.R_reads' HO_6.out).2.1); rintro e w41 ⟨rfl, hb⟩; have n0_ := Aside0.mk (Kd.R_below (by (with_reducible repeat (first | apply Kd.R_alloc | apply Kd.R_drewN | apply Kd.R_drew)); exact HO_6.out) hb); have n1_ := Aside0.mk (Kd.R_below (by (with_reducible repeat (first | apply Kd.R_alloc | apply Kd.R_drewN | apply Kd.R_drew)); exact HO_43.out) hb); have n2_ := Aside0.mk (blk_below (g := gb170) (o := .cells #[.int .i64 ((rd_T36 l0 x36_2).f0), .int .i64 ((rd_T36 l0 x36_2).f1), .string ((rd_T36 l0 x36_2).f2), .int .i64 ((rd_T36 l0 x36_2).f3), .string ((rd_T36 l0 x36_2).f4)] 36 (0, 0)) (by exact BK170.out) hb); have n3_ := Aside0.mk (below_step (by repeat (first | (with_reducible first | exact HB.out | apply below_alloc | apply pw_below_drewN | apply below_drew1 | refine below_set ?_ GE170.out) | exact HB.out)) hb); clear HO_6; clear HO_43; clear BK170; clear HB; have HO_6 := n0_; have HO_43 := n1_; have BK170 := n2_; have HB := n3_; clear n0_ n1_ n2_ n3_; (try clear hb)))
                                    go_ret2
                                    exact ⟨by first | rfl | (simp [errW_none, errW_some] <;> rfl) | (simp [*, errW_none, errW_some] <;> rfl), by repeat (first | (with_reducible first | exact HB.out | apply below_alloc | apply pw_below_drewN | apply below_drew1 | refine below_set ?_ GE170.out) | exact HB.out)⟩
                                · replace c29 := Bool.eq_false_iff.mpr c29
                                  subst c29
                                  have H1 : (some (4, x36_2)) = some (r1, r2) := by rw [if_neg (show ¬ (false = true) by decide)] at H; exact H
                                  clear H
                                  have H := H1
                                  clear H1
                                  simp only [Option.some.injEq, Prod.mk.injEq] at H
                                  obtain ⟨rfl, rfl⟩ := H
                                  have hcz42_0 : wr.cell? ⟨gb170, 0, none⟩ = some (.int .i64 ((rd_T36 l0 x36_2).f0)) := (blk_cell BK170.out 0).trans rfl
                                  have hcz42_1 : wr.cell? ⟨gb170, 1, none⟩ = some (.int .i64 ((rd_T36 l0 x36_2).f1)) := (blk_cell BK170.out 1).trans rfl
                                  have hcz42_2 : wr.cell? ⟨gb170, 2, none⟩ = some (.string ((rd_T36 l0 x36_2).f2)) := (blk_cell BK170.out 2).trans rfl
                                  have hcz42_3 : wr.cell? ⟨gb170, 3, none⟩ = some (.int .i64 ((rd_T36 l0 x36_2).f3)) := (blk_cell BK170.out 3).trans rfl
                                  have hcz42_4 : wr.cell? ⟨gb170, 4, none⟩ = some (.string ((rd_T36 l0 x36_2).f4)) := (blk_cell BK170.out 4).trans rfl
                                  have hfz42_0 := blk_frozen BK170.out 0
                                  have hfz42_1 := blk_frozen BK170.out 1
                                  have hfz42_2 := blk_frozen BK170.out 2
                                  have hfz42_3 := blk_frozen BK170.out 3
                                  have hfz42_4 := blk_frozen BK170.out 4
                                  go_wp2_with (first | ((with_reducible refine gate_callee (f := 28) rfl ?_); refine goesL_ (some 59) rfl rfl Try.func28 (by kernel_rfl) rfl #[.agg #[.int .i64 ((rd_T36 l0 x36_2).f0), .int .i64 ((rd_T36 l0 x36_2).f1), .string ((rd_T36 l0 x36_2).f2), .int .i64 ((rd_T36 l0 x36_2).f3), .string ((rd_T36 l0 x36_2).f4)]] rfl (by (try simp only [List.map_toArray, List.map_cons, List.map_nil]); first | done | rfl | (simp only [List.length_drop, List.length_take]; rfl)) ?_; (with_reducible refine (tree_fields.calls k3 ((rd_T36 l0 x36_2).f0) ((rd_T36 l0 x36_2).f1) ((rd_T36 l0 x36_2).f2) ((rd_T36 l0 x36_2).f3) ((rd_T36 l0 x36_2).f4) false _ A28.out).mono ?_); rintro e w43 ⟨rfl, hb⟩; refine ⟨_, rfl, ?_⟩; have n0_ := Aside0.mk (Kd.R_below (by (with_reducible repeat (first | apply Kd.R_alloc | apply Kd.R_drewN | apply Kd.R_drew)); exact HO_6.out) hb); have n1_ := Aside0.mk (Kd.R_below (by (with_reducible repeat (first | apply Kd.R_alloc | apply Kd.R_drewN | apply Kd.R_drew)); exact HO_43.out) hb); have n2_ := Aside0.mk (blk_below (g := gb170) (o := .cells #[.int .i64 ((rd_T36 l0 x36_2).f0), .int .i64 ((rd_T36 l0 x36_2).f1), .string ((rd_T36 l0 x36_2).f2), .int .i64 ((rd_T36 l0 x36_2).f3), .string ((rd_T36 l0 x36_2).f4)] 36 (0, 0)) (by exact BK170.out) hb); have n3_ := Aside0.mk (below_step (by repeat (first | (with_reducible first | exact HB.out | apply below_alloc | apply pw_below_drewN | apply below_drew1 | refine below_set ?_ GE170.out) | exact HB.out)) hb); clear HO_6; clear HO_43; clear BK170; clear HB; have HO_6 := n0_; have HO_43 := n1_; have BK170 := n2_; have HB := n3_; clear n0_ n1_ n2_ n3_; (try clear hb)))
                                  go_ret2
                                  exact ⟨by first | rfl | (simp [errW_none, errW_some] <;> rfl) | (simp [*, errW_none, errW_some] <;> rfl), by repeat (first | (with_reducible first | exact HB.out | apply below_alloc | apply pw_below_drewN | apply below_drew1 | refine below_set ?_ GE170.out) | exact HB.out)⟩
                        · rw [if_neg c15] at H
                          exact absurd H (by simp)
                      · rw [if_neg c14] at H
                        exact absurd H (by simp)
                    · rw [if_neg c13] at H
                      have c13b0 : decide (x36_2 < (l0.length : Int)) = false := decide_eq_false c13
                      clear c13
                      simp only [Option.some.injEq, Prod.mk.injEq] at H
                      obtain ⟨rfl, rfl⟩ := H
                      go_wp2
                      go_ret2
                      exact ⟨by first | rfl | (simp [errW_none, errW_some] <;> rfl) | (simp [*, errW_none, errW_some] <;> rfl), by repeat (first | (with_reducible first | exact HB.out | apply below_alloc | apply pw_below_drewN | apply below_drew1) | exact HB.out)⟩
              · rw [if_neg c11] at H
                have c11b0 : (((rd_T36 l0 0).f0) == 1) = false := beq_eq_false_iff_ne.mpr c11
                have c11b1 : (((rd_T36 l0 0).f0) != 1) = true := bne_iff_ne.mpr c11
                simp only [Option.some.injEq, Prod.mk.injEq] at H
                obtain ⟨rfl, rfl⟩ := H
                go_wp2_with (first | ((with_reducible refine gate_callee (f := 21) rfl ?_); refine goesL_ (some 26) rfl rfl Try.func21 (by kernel_rfl) rfl #[.slice A0 l0.length c0] rfl (by (try simp only [List.map_toArray, List.map_cons, List.map_nil]); first | done | rfl | (simp only [List.length_drop, List.length_take]; rfl)) ?_; (with_reducible refine (tree_Depth.calls kj2 _ _ l0 t167 _ ?side1 ?side2 A7.out).mono ?_); (case side1 => repeat (first | exact (Kd.C_below HR0.out HB.out) | (with_reducible refine Kd.C_alloc ?_ _) | (with_reducible refine Kd.C_drewN ?_ _) | (with_reducible refine Kd.C_drew ?_))); (case side2 => exact HC0.out); rintro e w44 ⟨rfl, hb⟩; refine ⟨_, rfl, ?_⟩; have n0_ := Aside0.mk (below_step (by repeat (first | (with_reducible first | exact HB.out | apply below_alloc | apply pw_below_drewN | apply below_drew1) | exact HB.out)) hb); clear HB; have HB := n0_; clear n0_; (try clear hb); have p168 : 0 ≤ (0 : Int) := (by omega); have q168 : 0 < (l0.length : Int) := of_decide_eq_true (by first | (with_reducible assumption) | assumption); obtain ⟨ad168, e168, hx168_0, hx168_1, hx168_2, hx168_3, hx168_4⟩ := at_T36 HR0.out 0 p168 q168; cases e168; have qi168 : (0 < l0.length) = True := eq_true (by omega); (try rw [show ((0 : Int)).toNat = 0 from rfl] at hx168_0); (try rw [show 0 * 5 = 0 from rfl] at hx168_0); (try rw [Addr.add_zero'] at hx168_0); (try rw [show ((0 : Int)).toNat = 0 from rfl] at hx168_1); (try rw [show 0 * 5 = 0 from rfl] at hx168_1); (try rw [Addr.add_zero'] at hx168_1); (try rw [show ((0 : Int)).toNat = 0 from rfl] at hx168_2); (try rw [show 0 * 5 = 0 from rfl] at hx168_2); (try rw [Addr.add_zero'] at hx168_2); (try rw [show ((0 : Int)).toNat = 0 from rfl] at hx168_3); (try rw [show 0 * 5 = 0 from rfl] at hx168_3); (try rw [Addr.add_zero'] at hx168_3); (try rw [show ((0 : Int)).toNat = 0 from rfl] at hx168_4); (try rw [show 0 * 5 = 0 from rfl] at hx168_4); (try rw [Addr.add_zero'] at hx168_4); replace hx168_0 := (HB.out.cell (World.block_lt_of_cell? w _ hx168_0)).trans hx168_0; replace hx168_1 := (HB.out.cell (World.block_lt_of_cell? w _ hx168_1)).trans hx168_1; replace hx168_2 := (HB.out.cell (World.block_lt_of_cell? w _ hx168_2)).trans hx168_2; replace hx168_3 := (HB.out.cell (World.block_lt_of_cell? w _ hx168_3)).trans hx168_3; replace hx168_4 := (HB.out.cell (World.block_lt_of_cell? w _ hx168_4)).trans hx168_4; replace p168 := eq_true p168; replace q168 := eq_true q168))
                go_ret2
                exact ⟨by first | rfl | (simp [errW_none, errW_some] <;> rfl) | (simp [*, errW_none, errW_some] <;> rfl), by repeat (first | (with_reducible first | exact HB.out | apply below_alloc | apply pw_below_drewN | apply below_drew1) | exact HB.out)⟩
            · rw [if_neg c10] at H
              exact absurd H (by simp)

end Go.Proofs.Ytclhaajlgmiilaa.Q
end
section
namespace Go.Proofs.Ytclhaajlgmiilaa.Q
open Go.RowKit Go.Proofs.YtclhaajlgmiilaaW.PrintWords Go.Proofs.YtclhaajlgmiilaaW.PrintLast Go.Proofs.YtclhaajlgmiilaaW.PrintMore
attribute [local go_sem] max2_int min2_int max_two min_two max_three min_three max_four min_four
set_option linter.unusedVariables false
set_option linter.unusedSimpArgs false

theorem eqA36 (d : Nat) (w : World) (x0 y0 : Int) (x1 y1 : Int) (x2 y2 : ByteArray) (x3 y3 : Int) (x4 y4 : ByteArray) :
    (Op.equalIn (d + 2) 36 (.agg #[.int .i64 x0, .int .i64 x1, .string x2, .int .i64 x3, .string x4]) (.agg #[.int .i64 y0, .int .i64 y1, .string y2, .int .i64 y3, .string y4])).run Try.prog w = .ok (x0 == y0 && (x1 == y1 && (x2.toList == y2.toList && (x3 == y3 && (x4.toList == y4.toList))))) w := by
  refine eqA_of Try.underlying36 (by kernel_rfl) ?_
  refine eqf_cons (by rfl) (by go_simp; rfl) (by go_simp; rfl) (by go_simp) ?_
  refine eqf_cons (by rfl) (by go_simp; rfl) (by go_simp; rfl) (by go_simp) ?_
  refine eqf_cons (by rfl) (by go_simp; rfl) (by go_simp; rfl) (by go_simp) ?_
  refine eqf_cons (by rfl) (by go_simp; rfl) (by go_simp; rfl) (by go_simp) ?_
  exact eqf_last (by rfl) (by go_simp; rfl) (by go_simp; rfl) (by go_simp)
end Go.Proofs.Ytclhaajlgmiilaa.Q
end
