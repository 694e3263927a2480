/- Functions that the laws reach, as plain Lean functions, each with a proof that the call does what its function says; no condition. -/
import Derived.Test.YtkcnpnkcahgniaaQ0
import Derived.Test.YtkcnpnkcahgniaaQ4
import Derived.Test.YtkcnpnkcahgniaaQ5
import Derived.Test.YtkcnpnkcahgniaaQ12
namespace Go.Proofs.Ytkcnpnkcahgniaa.Q
open Go.RowKit Go.Proofs.YtkcnpnkcahgniaaW.PrintWords Go.Proofs.YtkcnpnkcahgniaaW.PrintLast Go.Proofs.YtkcnpnkcahgniaaW.PrintMore
attribute [local go_sem] max2_int min2_int max_two min_two max_three min_three max_four min_four   -- for this text's walks alone
set_option linter.unusedVariables false
set_option linter.unusedSimpArgs false

/-! ### chrysalislaw08_LexPlaces: function 5 -/
mutual
def chrysalislaw08_LexPlaces.l0 : Nat → ByteArray → List (S29) → Int → Int → Option (Bool)
  | 0, _, _, _, _ => none
  | k + 1, x0, x3, x6, x7 => if x7 < (x3.length : Int) then (if 0 ≤ x7 then (if ((rd_T29 x3 x7).f3) ≤ x6 then (chrysalislaw08_LexPlaces.j1 k x0 x3 x7 ((rd_T29 x3 x7).f3) true) else (chrysalislaw08_LexPlaces.j1 k x0 x3 x7 ((rd_T29 x3 x7).f3) (decide (((rd_T29 x3 x7).f3) ≥ (x0.size : Int))))) else (none)) else ((chrysalislaw08_known.f k).bind fun t297 => (some t297))
def chrysalislaw08_LexPlaces.j1 : Nat → ByteArray → List (S29) → Int → Int → Bool → Option (Bool)
  | 0, _, _, _, _, _ => none
  | k + 1, x0, x3, x7, x8, x54 => if x54 = true then (some false) else (if 0 ≤ x7 then (if x7 < (x3.length : Int) then (if ((rd_T29 x3 x7).f0) = 3 then (if 0 ≤ x8 then (if x8 < (x0.size : Int) then (chrysalislaw08_LexPlaces.j2 k x0 x3 x7 x8 ((bt x0 x8) != 34)) else (none)) else (none)) else (if (wrap64 ((x0.size : Int) - x8)) < (((rd_T29 x3 x7).f1).size : Int) then (chrysalislaw08_LexPlaces.j2 k x0 x3 x7 x8 true) else (if 0 ≤ x8 then (if x8 ≤ (wrap64 (x8 + (((rd_T29 x3 x7).f1).size : Int))) then (if (wrap64 (x8 + (((rd_T29 x3 x7).f1).size : Int))) ≤ (x0.size : Int) then (if (x0.extract (x8 : Int).toNat ((wrap64 (x8 + (((rd_T29 x3 x7).f1).size : Int))) : Int).toNat).toList = ((rd_T29 x3 x7).f1).toList then (if (((rd_T29 x3 x7).f1).size : Int) = 0 then (chrysalislaw08_LexPlaces.j2 k x0 x3 x7 x8 true) else (chrysalislaw08_LexPlaces.j2 k x0 x3 x7 x8 false)) else (chrysalislaw08_LexPlaces.j2 k x0 x3 x7 x8 true)) else (none)) else (none)) else (none)))) else (none)) else (none))
def chrysalislaw08_LexPlaces.j2 : Nat → ByteArray → List (S29) → Int → Int → Bool → Option (Bool)
  | 0, _, _, _, _, _ => none
  | k + 1, x0, x3, x7, x8, x115 => if x115 = true then (some false) else (if 0 ≤ x8 then (if x8 ≤ (x0.size : Int) then ((lex_Scan.f k (x0.extract (x8 : Int).toNat x0.size)).bind fun bt306 => (if bt306.2.1 = 0 then (if (bt306.1.length : Int) = (wrap64 ((x3.length : Int) - x7)) then (if 0 ≤ x7 then (if x7 ≤ (x3.length : Int) then ((chrysalisref08_Same.f k bt306.1 (x3.drop (x7 : Int).toNat) false).bind fun t315 => (chrysalislaw08_LexPlaces.j3 k x0 x3 x7 x8 (!t315))) else (none)) else (none)) else (chrysalislaw08_LexPlaces.j3 k x0 x3 x7 x8 true)) else (chrysalislaw08_LexPlaces.j3 k x0 x3 x7 x8 true))) else (none)) else (none))
def chrysalislaw08_LexPlaces.j3 : Nat → ByteArray → List (S29) → Int → Int → Bool → Option (Bool)
  | 0, _, _, _, _, _ => none
  | k + 1, x0, x3, x7, x8, x142 => if x142 = true then (some false) else (if x7 > 20 then ((chrysalislaw08_known.f k).bind fun t316 => (some t316)) else (chrysalislaw08_LexPlaces.l0 k x0 x3 x8 (wrap64 (x7 + 1))))
end
def chrysalislaw08_LexPlaces.f (k : Nat) (a0 : ByteArray) : Option (Bool) := if (a0.size : Int) > 4000 then ((chrysalislaw08_known.f k).bind fun t290 => (some t290)) else ((lex_Scan.f k a0).bind fun bt291 => (if bt291.2.1 = 0 then (chrysalislaw08_LexPlaces.l0 k a0 bt291.1 (-1) 0) else (if bt291.2.2 ≥ 0 then (if bt291.2.2 < (a0.size : Int) then ((chrysalislaw08_known.f k).bind fun t296 => (some t296)) else (some false)) else (some false))))
theorem chrysalislaw08_LexPlaces.mono_l : ∀ k, (∀ y0 y1 y2 y3, LeO (chrysalislaw08_LexPlaces.l0 k y0 y1 y2 y3) (chrysalislaw08_LexPlaces.l0 (k + 1) y0 y1 y2 y3)) ∧ (∀ y0 y1 y2 y3 y4, LeO (chrysalislaw08_LexPlaces.j1 k y0 y1 y2 y3 y4) (chrysalislaw08_LexPlaces.j1 (k + 1) y0 y1 y2 y3 y4)) ∧ (∀ y0 y1 y2 y3 y4, LeO (chrysalislaw08_LexPlaces.j2 k y0 y1 y2 y3 y4) (chrysalislaw08_LexPlaces.j2 (k + 1) y0 y1 y2 y3 y4)) ∧ (∀ y0 y1 y2 y3 y4, LeO (chrysalislaw08_LexPlaces.j3 k y0 y1 y2 y3 y4) (chrysalislaw08_LexPlaces.j3 (k + 1) y0 y1 y2 y3 y4))
  | 0 => ⟨fun _ _ _ _ r h => by simp [chrysalislaw08_LexPlaces.l0] at h, fun _ _ _ _ _ r h => by simp [chrysalislaw08_LexPlaces.j1] at h, fun _ _ _ _ _ r h => by simp [chrysalislaw08_LexPlaces.j2] at h, fun _ _ _ _ _ r h => by simp [chrysalislaw08_LexPlaces.j3] at h⟩
  | k + 1 => by
    obtain ⟨ih0, ih1, ih2, ih3⟩ := chrysalislaw08_LexPlaces.mono_l k
    refine ⟨?_, ?_, ?_, ?_⟩
    · intro y0 y1 y2 y3
      unfold chrysalislaw08_LexPlaces.l0
      repeat' first
      | (with_reducible exact ih0 _ _ _ _)
      | (with_reducible exact ih1 _ _ _ _ _)
      | (with_reducible exact ih2 _ _ _ _ _)
      | (with_reducible exact ih3 _ _ _ _ _)
      | (with_reducible exact chrysalislaw08_known.mono _)
      | (with_reducible exact chrysalisref08_Same.mono _ _ _ _)
      | (with_reducible exact lex_Scan.mono _ _)
      | (with_reducible exact LeO.refl _)
      | (with_reducible exact LeO.none _)
      | (with_reducible refine LeO.ite ?_ ?_)
      | (with_reducible refine LeO.bind ?_ (fun _ => ?_))
      | exact ih0 _ _ _ _
      | exact ih1 _ _ _ _ _
      | exact ih2 _ _ _ _ _
      | exact ih3 _ _ _ _ _
      | exact chrysalislaw08_known.mono _
      | exact chrysalisref08_Same.mono _ _ _ _
      | exact lex_Scan.mono _ _
      | exact LeO.none _
      | refine LeO.ite ?_ ?_
      | refine LeO.bind ?_ (fun _ => ?_)
    · intro y0 y1 y2 y3 y4
      unfold chrysalislaw08_LexPlaces.j1
      repeat' first
      | (with_reducible exact ih0 _ _ _ _)
      | (with_reducible exact ih1 _ _ _ _ _)
      | (with_reducible exact ih2 _ _ _ _ _)
      | (with_reducible exact ih3 _ _ _ _ _)
      | (with_reducible exact chrysalislaw08_known.mono _)
      | (with_reducible exact chrysalisref08_Same.mono _ _ _ _)
      | (with_reducible exact lex_Scan.mono _ _)
      | (with_reducible exact LeO.refl _)
      | (with_reducible exact LeO.none _)
      | (with_reducible refine LeO.ite ?_ ?_)
      | (with_reducible refine LeO.bind ?_ (fun _ => ?_))
      | exact ih0 _ _ _ _
      | exact ih1 _ _ _ _ _
      | exact ih2 _ _ _ _ _
      | exact ih3 _ _ _ _ _
      | exact chrysalislaw08_known.mono _
      | exact chrysalisref08_Same.mono _ _ _ _
      | exact lex_Scan.mono _ _
      | exact LeO.none _
      | refine LeO.ite ?_ ?_
      | refine LeO.bind ?_ (fun _ => ?_)
    · intro y0 y1 y2 y3 y4
      unfold chrysalislaw08_LexPlaces.j2
      repeat' first
      | (with_reducible exact ih0 _ _ _ _)
      | (with_reducible exact ih1 _ _ _ _ _)
      | (with_reducible exact ih2 _ _ _ _ _)
      | (with_reducible exact ih3 _ _ _ _ _)
      | (with_reducible exact chrysalislaw08_known.mono _)
      | (with_reducible exact chrysalisref08_Same.mono _ _ _ _)
      | (with_reducible exact lex_Scan.mono _ _)
      | (with_reducible exact LeO.refl _)
      | (with_reducible exact LeO.none _)
      | (with_reducible refine LeO.ite ?_ ?_)
      | (with_reducible refine LeO.bind ?_ (fun _ => ?_))
      | exact ih0 _ _ _ _
      | exact ih1 _ _ _ _ _
      | exact ih2 _ _ _ _ _
      | exact ih3 _ _ _ _ _
      | exact chrysalislaw08_known.mono _
      | exact chrysalisref08_Same.mono _ _ _ _
      | exact lex_Scan.mono _ _
      | exact LeO.none _
      | refine LeO.ite ?_ ?_
      | refine LeO.bind ?_ (fun _ => ?_)
    · intro y0 y1 y2 y3 y4
      unfold chrysalislaw08_LexPlaces.j3
      repeat' first
      | (with_reducible exact ih0 _ _ _ _)
      | (with_reducible exact ih1 _ _ _ _ _)
      | (with_reducible exact ih2 _ _ _ _ _)
      | (with_reducible exact ih3 _ _ _ _ _)
      | (with_reducible exact chrysalislaw08_known.mono _)
      | (with_reducible exact chrysalisref08_Same.mono _ _ _ _)
      | (with_reducible exact lex_Scan.mono _ _)
      | (with_reducible exact LeO.refl _)
      | (with_reducible exact LeO.none _)
      | (with_reducible refine LeO.ite ?_ ?_)
      | (with_reducible refine LeO.bind ?_ (fun _ => ?_))
      | exact ih0 _ _ _ _
      | exact ih1 _ _ _ _ _
      | exact ih2 _ _ _ _ _
      | exact ih3 _ _ _ _ _
      | exact chrysalislaw08_known.mono _
      | exact chrysalisref08_Same.mono _ _ _ _
      | exact lex_Scan.mono _ _
      | exact LeO.none _
      | refine LeO.ite ?_ ?_
      | refine LeO.bind ?_ (fun _ => ?_)
theorem chrysalislaw08_LexPlaces.mono : ∀ a0 k, LeO (chrysalislaw08_LexPlaces.f k a0) (chrysalislaw08_LexPlaces.f (k + 1) a0) := by
  intro a0 k
  obtain ⟨ih0, ih1, ih2, ih3⟩ := chrysalislaw08_LexPlaces.mono_l k
  unfold chrysalislaw08_LexPlaces.f
  repeat' first
      | (with_reducible exact ih0 _ _ _ _)
      | (with_reducible exact ih1 _ _ _ _ _)
      | (with_reducible exact ih2 _ _ _ _ _)
      | (with_reducible exact ih3 _ _ _ _ _)
      | (with_reducible exact chrysalislaw08_known.mono _)
      | (with_reducible exact chrysalisref08_Same.mono _ _ _ _)
      | (with_reducible exact lex_Scan.mono _ _)
      | (with_reducible exact LeO.refl _)
      | (with_reducible exact LeO.none _)
      | (with_reducible refine LeO.ite ?_ ?_)
      | (with_reducible refine LeO.bind ?_ (fun _ => ?_))
      | exact ih0 _ _ _ _
      | exact ih1 _ _ _ _ _
      | exact ih2 _ _ _ _ _
      | exact ih3 _ _ _ _ _
      | exact chrysalislaw08_known.mono _
      | exact chrysalisref08_Same.mono _ _ _ _
      | exact lex_Scan.mono _ _
      | exact LeO.none _
      | refine LeO.ite ?_ ?_
      | refine LeO.bind ?_ (fun _ => ?_)
set_option maxHeartbeats 8000000 in
set_option maxRecDepth 100000 in
theorem chrysalislaw08_LexPlaces.calls (k : Nat) (a0 : ByteArray) (r : Bool) (w : World) (h : chrysalislaw08_LexPlaces.f k a0 = some r) :
    Calls Try.prog 5 #[.string a0] w fun e w' => e = .returned (.bool r) ∧ Below w.heap.size w w' := by
  have HB := Aside0.mk (Below.refl w.heap.size w)
  have H : (if (a0.size : Int) > 4000 then ((chrysalislaw08_known.f k).bind fun t290 => (some t290)) else ((lex_Scan.f k a0).bind fun bt291 => (if bt291.2.1 = 0 then (chrysalislaw08_LexPlaces.l0 k a0 bt291.1 (-1) 0) else (if bt291.2.2 ≥ 0 then (if bt291.2.2 < (a0.size : Int) then ((chrysalislaw08_known.f k).bind fun t296 => (some t296)) else (some false)) else (some false))))) = some r := h
  clear h
  by_cases c2 : (a0.size : Int) > 4000
  · rw [if_pos c2] at H
    have c2b0 : decide (4000 < (a0.size : Int)) = true := decide_eq_true c2
    have c2b1 : decide (4000 < a0.size) = true := decide_eq_true (by omega)
    clear c2
    replace H := Option.bind_eq_some_iff.mp H
    obtain ⟨t290, A30, H⟩ := H
    replace H : (some t290) = some r := H
    have A3 := Aside0.mk A30
    clear A30
    obtain rfl := Option.some.inj H
    go_enter Try.func5, Try.ntmps5
    go_wp2_with (first | (go_at_call 10; (with_reducible refine (chrysalislaw08_known.calls k  t290 _ A3.out).mono ?_); rintro e w4 ⟨rfl, hb⟩; have n0_ := Aside0.mk (below_step (by repeat (first | (with_reducible first | exact HB.out | apply below_alloc | apply pw_below_drewN | apply below_drew1) | exact HB.out)) hb); clear HB; have HB := n0_; clear n0_; (try clear hb); (try clear hb2); (try clear hk); (try clear hi)))
    repeat (go_quiet (first | (go_at_call 10; (with_reducible refine (chrysalislaw08_known.calls k  t290 _ A3.out).mono ?_); rintro e w4 ⟨rfl, hb⟩; have n0_ := Aside0.mk (below_step (by repeat (first | (with_reducible first | exact HB.out | apply below_alloc | apply pw_below_drewN | apply below_drew1) | exact HB.out)) hb); clear HB; have HB := n0_; clear n0_; (try clear hb); (try clear hb2); (try clear hk); (try clear hi))); try go_wp2_with (first | (go_at_call 10; (with_reducible refine (chrysalislaw08_known.calls k  t290 _ A3.out).mono ?_); rintro e w4 ⟨rfl, hb⟩; have n0_ := Aside0.mk (below_step (by repeat (first | (with_reducible first | exact HB.out | apply below_alloc | apply pw_below_drewN | apply below_drew1) | exact HB.out)) hb); clear HB; have HB := n0_; clear n0_; (try clear hb); (try clear hb2); (try clear hk); (try clear hi))))
    go_ret
    exact ⟨by first | rfl | (simp [errW_none, errW_some] <;> rfl) | (simp [*, errW_none, errW_some] <;> rfl), by repeat (first | (with_reducible first | exact HB.out | apply below_alloc | apply pw_below_drewN | apply below_drew1) | exact HB.out)⟩
  · rw [if_neg c2] at H
    have c2b0 : decide (4000 < (a0.size : Int)) = false := decide_eq_false c2
    have c2b1 : decide (4000 < a0.size) = false := decide_eq_false (by omega)
    clear c2
    replace H := Option.bind_eq_some_iff.mp H
    obtain ⟨⟨t291, t292, t293⟩, A50, H⟩ := H
    replace H : (if t292 = 0 then (chrysalislaw08_LexPlaces.l0 k a0 t291 (-1) 0) else (if t293 ≥ 0 then (if t293 < (a0.size : Int) then ((chrysalislaw08_known.f k).bind fun t296 => (some t296)) else (some false)) else (some false))) = some r := H
    have A5 := Aside0.mk A50
    clear A50
    by_cases c6 : t292 = 0
    · rw [if_pos c6] at H
      have c6b0 : (t292 == 0) = true := beq_iff_eq.mpr c6
      have c6b1 : (t292 != 0) = false := bne_eq_false_iff_eq.mpr c6
      clear c6
      have H' := Aside0.mk H
      clear H
      go_enter Try.func5, Try.ntmps5
      go_wp2_with (first | (go_at_call 11; (with_reducible refine (lex_Scan.calls k a0 t291 t292 t293 _ A5.out).mono ?_); rintro e w7 ⟨v294, rfl, ho0, hb⟩; have n0_ := Aside0.mk (Kd.R_lower ho0 (below_size (by repeat (first | (with_reducible first | exact HB.out | apply below_alloc | apply pw_below_drewN | apply below_drew1) | exact HB.out)))); have n1_ := Aside0.mk (below_step (by repeat (first | (with_reducible first | exact HB.out | apply below_alloc | apply pw_below_drewN | apply below_drew1) | exact HB.out)) hb); clear HB; have HO295 := n0_; have HB := n1_; clear n0_ n1_; (try clear hb); (try clear hb2); (try clear hk); (try clear hi); (try clear ho0)))
      repeat (go_quiet (first | (go_at_call 11; (with_reducible refine (lex_Scan.calls k a0 t291 t292 t293 _ A5.out).mono ?_); rintro e w7 ⟨v294, rfl, ho0, hb⟩; have n0_ := Aside0.mk (Kd.R_lower ho0 (below_size (by repeat (first | (with_reducible first | exact HB.out | apply below_alloc | apply pw_below_drewN | apply below_drew1) | exact HB.out)))); have n1_ := Aside0.mk (below_step (by repeat (first | (with_reducible first | exact HB.out | apply below_alloc | apply pw_below_drewN | apply below_drew1) | exact HB.out)) hb); clear HB; have HO295 := n0_; have HB := n1_; clear n0_ n1_; (try clear hb); (try clear hb2); (try clear hk); (try clear hi); (try clear ho0))); try go_wp2_with (first | (go_at_call 11; (with_reducible refine (lex_Scan.calls k a0 t291 t292 t293 _ A5.out).mono ?_); rintro e w7 ⟨v294, rfl, ho0, hb⟩; have n0_ := Aside0.mk (Kd.R_lower ho0 (below_size (by repeat (first | (with_reducible first | exact HB.out | apply below_alloc | apply pw_below_drewN | apply below_drew1) | exact HB.out)))); have n1_ := Aside0.mk (below_step (by repeat (first | (with_reducible first | exact HB.out | apply below_alloc | apply pw_below_drewN | apply below_drew1) | exact HB.out)) hb); clear HB; have HO295 := n0_; have HB := n1_; clear n0_ n1_; (try clear hb); (try clear hb2); (try clear hk); (try clear hi); (try clear ho0))))
      go_loopg [6, 7] k (fun kq v6 v7 w' => ∃ (x6_1 : Int) (x7_1 : Int), v6 = .int .i64 x6_1 ∧ v7 = .int .i64 x7_1 ∧ Aside0 (chrysalislaw08_LexPlaces.l0 kq a0 t291 x6_1 x7_1 = some r) ∧ Aside0 (kq ≤ k) ∧ Aside0 (Kd.R k29 29 w' w.heap.size (fun _ => True) v294 t291) ∧ Aside0 (Below w.heap.size w w'))
      case atStart => exact ⟨((-1)), (0), (by first | rfl | (simp; done) | (simp [*]; done)), (by first | rfl | (simp; done) | (simp [*]; done)), H', ⟨Nat.le_refl _⟩, ⟨by (with_reducible repeat (first | apply Kd.R_alloc | apply Kd.R_drewN | apply Kd.R_drew)); exact HO295.out⟩, ⟨by repeat (first | (with_reducible first | exact HB.out | apply below_alloc | apply pw_below_drewN | apply below_drew1) | exact HB.out)⟩⟩
      case round =>
        clear H'
        try clear c2
        try clear c2b0
        try clear c2b1
        try clear p2
        try clear c5
        try clear c6
        try clear c6b0
        try clear c6b1
        obtain ⟨x6_1, x7_1, rfl, rfl, HA, HK1, HO_3, HB⟩ := hrel
        cases gk with
        | zero => exact absurd HA.out (by simp [chrysalislaw08_LexPlaces.l0])
        | succ k1 =>
          have H := HA.out
          clear HA
          simp only [chrysalislaw08_LexPlaces.l0] at H
          by_cases c8 : x7_1 < (t291.length : Int)
          · rw [if_pos c8] at H
            have c8b0 : decide (x7_1 < (t291.length : Int)) = true := decide_eq_true c8
            clear c8
            by_cases c9 : 0 ≤ x7_1
            · rw [if_pos c9] at H
              have c9b0 : decide (0 ≤ x7_1) = true := decide_eq_true c9
              clear c9
              have HC10 := Aside0.mk H
              clear H
              obtain ⟨Ao11, co11, eo11⟩ := Kd.R_slice HO_3.out
              subst eo11
              have p298 : 0 ≤ (x7_1 : Int) := of_decide_eq_true (by first | (with_reducible assumption) | assumption)
              have q298 : x7_1 < (t291.length : Int) := of_decide_eq_true (by first | (with_reducible assumption) | assumption)
              obtain ⟨ad298, e298, hx298_0, hx298_1, hx298_2, hx298_3⟩ := at_T29 (Kd.R_reads' HO_3.out).2.2 x7_1 p298 q298
              cases e298
              replace p298 := eq_true p298
              replace q298 := eq_true q298
              go_upto_region 11 with (fail)
              repeat (go_quiet (fail); go_upto_region 11 with (fail))
              go_cut [54] (fun v54 wc => ∃ (kq : Nat) (x54_9 : Bool), v54 = .bool x54_9 ∧ Aside0 (chrysalislaw08_LexPlaces.j1 kq a0 t291 x7_1 ((rd_T29 t291 x7_1).f3) x54_9 = some r) ∧ Aside0 (kq ≤ k1) ∧ Aside0 (Kd.R k29 29 wc w.heap.size (fun _ => True) (.slice (some ad298) t291.length co11) t291) ∧ Aside0 (Below w.heap.size w wc))
              case first =>
                have H := HC10.out
                clear HC10
                by_cases c12 : ((rd_T29 t291 x7_1).f3) ≤ x6_1
                · rw [if_pos c12] at H
                  have c12b0 : decide (((rd_T29 t291 x7_1).f3) ≤ x6_1) = true := decide_eq_true c12
                  clear c12
                  (first | rw [c12b0] | (simp only [i64_w, i32_w]; rw [c12b0]) | skip)
                  have H' := Aside0.mk H
                  clear H
                  go_wp2
                  repeat (go_quiet (fail); try go_wp2)
                  go_meet
                  case rel => exact ⟨_, (true), (by first | rfl | (simp; done) | (simp [*]; done)), H', ⟨by have := HK1.out; first | omega | exact Nat.le_refl _⟩, ⟨by (with_reducible repeat (first | apply Kd.R_alloc | apply Kd.R_drewN | apply Kd.R_drew)); exact HO_3.out⟩, ⟨by repeat (first | (with_reducible first | exact HB.out | apply below_alloc | apply pw_below_drewN | apply below_drew1) | exact HB.out)⟩⟩
                · rw [if_neg c12] at H
                  have c12b0 : decide (((rd_T29 t291 x7_1).f3) ≤ x6_1) = false := decide_eq_false c12
                  clear c12
                  (first | rw [c12b0] | (simp only [i64_w, i32_w]; rw [c12b0]) | skip)
                  have H' := Aside0.mk H
                  clear H
                  go_wp2
                  repeat (go_quiet (fail); try go_wp2)
                  go_meet
                  case rel => exact ⟨_, (decide (((rd_T29 t291 x7_1).f3) ≥ (a0.size : Int))), (by first | rfl | (simp; done) | (simp [*]; done)), H', ⟨by have := HK1.out; first | omega | exact Nat.le_refl _⟩, ⟨by (with_reducible repeat (first | apply Kd.R_alloc | apply Kd.R_drewN | apply Kd.R_drew)); exact HO_3.out⟩, ⟨by repeat (first | (with_reducible first | exact HB.out | apply below_alloc | apply pw_below_drewN | apply below_drew1) | exact HB.out)⟩⟩
              case rest =>
                clear HC10
                try clear c1
                try clear c2
                try clear c2b0
                try clear c2b1
                try clear p2
                try clear q2
                try clear hx2
                try clear c5
                try clear c6
                try clear c6b0
                try clear c6b1
                try clear c8
                try clear c8b0
                try clear c9
                try clear c9b0
                try clear c12
                try clear c12b0
                try clear hx298_0
                try clear hx298_1
                try clear hx298_2
                try clear hx298_3
                try clear p2
                try clear p298
                try clear q298
                obtain ⟨kq, x54_9, rfl, HA, HJ9, HO_3, HB⟩ := hcut
                cases kq with
                | zero => exact absurd HA.out (by simp [chrysalislaw08_LexPlaces.j1])
                | succ kj9 =>
                  have H := HA.out
                  clear HA
                  simp only [chrysalislaw08_LexPlaces.j1] at H
                  by_cases c13 : x54_9 = true
                  · subst c13
                    have H1 : (some false) = some r := by rw [if_pos rfl] at H; exact H
                    clear H
                    have H := H1
                    clear H1
                    obtain rfl := Option.some.inj H
                    go_wp2
                    repeat (go_quiet (fail); try go_wp2)
                    go_ret
                    exact ⟨by first | rfl | (simp [errW_none, errW_some] <;> rfl) | (simp [*, errW_none, errW_some] <;> rfl), by repeat (first | (with_reducible first | exact HB.out | apply below_alloc | apply pw_below_drewN | apply below_drew1) | exact HB.out)⟩
                  · replace c13 := Bool.eq_false_iff.mpr c13
                    subst c13
                    have H1 : (if 0 ≤ x7_1 then (if x7_1 < (t291.length : Int) then (if ((rd_T29 t291 x7_1).f0) = 3 then (if 0 ≤ ((rd_T29 t291 x7_1).f3) then (if ((rd_T29 t291 x7_1).f3) < (a0.size : Int) then (chrysalislaw08_LexPlaces.j2 kj9 a0 t291 x7_1 ((rd_T29 t291 x7_1).f3) ((bt a0 ((rd_T29 t291 x7_1).f3)) != 34)) else (none)) else (none)) else (if (wrap64 ((a0.size : Int) - ((rd_T29 t291 x7_1).f3))) < (((rd_T29 t291 x7_1).f1).size : Int) then (chrysalislaw08_LexPlaces.j2 kj9 a0 t291 x7_1 ((rd_T29 t291 x7_1).f3) true) else (if 0 ≤ ((rd_T29 t291 x7_1).f3) then (if ((rd_T29 t291 x7_1).f3) ≤ (wrap64 (((rd_T29 t291 x7_1).f3) + (((rd_T29 t291 x7_1).f1).size : Int))) then (if (wrap64 (((rd_T29 t291 x7_1).f3) + (((rd_T29 t291 x7_1).f1).size : Int))) ≤ (a0.size : Int) then (if (a0.extract (((rd_T29 t291 x7_1).f3) : Int).toNat ((wrap64 (((rd_T29 t291 x7_1).f3) + (((rd_T29 t291 x7_1).f1).size : Int))) : Int).toNat).toList = ((rd_T29 t291 x7_1).f1).toList then (if (((rd_T29 t291 x7_1).f1).size : Int) = 0 then (chrysalislaw08_LexPlaces.j2 kj9 a0 t291 x7_1 ((rd_T29 t291 x7_1).f3) true) else (chrysalislaw08_LexPlaces.j2 kj9 a0 t291 x7_1 ((rd_T29 t291 x7_1).f3) false)) else (chrysalislaw08_LexPlaces.j2 kj9 a0 t291 x7_1 ((rd_T29 t291 x7_1).f3) true)) else (none)) else (none)) else (none)))) else (none)) else (none)) = some r := by rw [if_neg (show ¬ (false = true) by decide)] at H; exact H
                    clear H
                    have H := H1
                    clear H1
                    have HC14 := Aside0.mk H
                    clear H
                    go_upto_region 13 with (fail)
                    repeat (go_quiet (fail); go_upto_region 13 with (fail))
                    go_cut [115] (fun v115 wc => ∃ (kq : Nat) (x115_13 : Bool), v115 = .bool x115_13 ∧ Aside0 (chrysalislaw08_LexPlaces.j2 kq a0 t291 x7_1 ((rd_T29 t291 x7_1).f3) x115_13 = some r) ∧ Aside0 (kq ≤ kj9) ∧ Aside0 (Kd.R k29 29 wc w.heap.size (fun _ => True) (.slice (some ad298) t291.length co11) t291) ∧ Aside0 (Below w.heap.size w wc))
                    case first =>
                      have H := HC14.out
                      clear HC14
                      by_cases c15 : 0 ≤ x7_1
                      · rw [if_pos c15] at H
                        have c15b0 : decide (0 ≤ x7_1) = true := decide_eq_true c15
                        clear c15
                        (first | rw [c15b0] | (simp only [i64_w, i32_w]; rw [c15b0]) | skip)
                        by_cases c16 : x7_1 < (t291.length : Int)
                        · rw [if_pos c16] at H
                          have c16b0 : decide (x7_1 < (t291.length : Int)) = true := decide_eq_true c16
                          clear c16
                          by_cases c17 : ((rd_T29 t291 x7_1).f0) = 3
                          · rw [if_pos c17] at H
                            have c17b0 : (((rd_T29 t291 x7_1).f0) == 3) = true := beq_iff_eq.mpr c17
                            have c17b1 : (((rd_T29 t291 x7_1).f0) != 3) = false := bne_eq_false_iff_eq.mpr c17
                            clear c17
                            by_cases c18 : 0 ≤ ((rd_T29 t291 x7_1).f3)
                            · rw [if_pos c18] at H
                              have c18b0 : decide (0 ≤ ((rd_T29 t291 x7_1).f3)) = true := decide_eq_true c18
                              clear c18
                              by_cases c19 : ((rd_T29 t291 x7_1).f3) < (a0.size : Int)
                              · rw [if_pos c19] at H
                                have c19b0 : decide (((rd_T29 t291 x7_1).f3) < (a0.size : Int)) = true := decide_eq_true c19
                                clear c19
                                have H' := Aside0.mk H
                                clear H
                                have p299 : 0 ≤ (x7_1 : Int) := of_decide_eq_true (by first | (with_reducible assumption) | assumption)
                                have q299 : x7_1 < (t291.length : Int) := of_decide_eq_true (by first | (with_reducible assumption) | assumption)
                                obtain ⟨ad299, e299, hx299_0, hx299_1, hx299_2, hx299_3⟩ := at_T29 (Kd.R_reads' HO_3.out).2.2 x7_1 p299 q299
                                obtain rfl : ad298 = ad299 := (by injection e299)
                                replace p299 := eq_true p299
                                replace q299 := eq_true q299
                                have p300 : 0 ≤ (x7_1 : Int) := of_decide_eq_true (by first | (with_reducible assumption) | assumption)
                                have q300 : x7_1 < (t291.length : Int) := of_decide_eq_true (by first | (with_reducible assumption) | assumption)
                                obtain ⟨ad300, e300, hx300_0, hx300_1, hx300_2, hx300_3⟩ := at_T29 (Kd.R_reads' HO_3.out).2.2 x7_1 p300 q300
                                obtain rfl : ad298 = ad300 := (by injection e300)
                                replace p300 := eq_true p300
                                replace q300 := eq_true q300
                                have p20 : 0 ≤ (((rd_T29 t291 x7_1).f3) : Int) := of_decide_eq_true (by first | (with_reducible assumption) | assumption)
                                have q20 : ((rd_T29 t291 x7_1).f3) < (a0.size : Int) := of_decide_eq_true (by first | (with_reducible assumption) | assumption)
                                have hx20 := bt_at a0 ((rd_T29 t291 x7_1).f3)
                                replace p20 := eq_true p20
                                replace q20 := eq_true q20
                                go_wp2
                                repeat (go_quiet (fail); try go_wp2)
                                go_meet
                                case rel => exact ⟨_, (((bt a0 ((rd_T29 t291 x7_1).f3)) != 34)), (by first | rfl | (simp; done) | (simp [*]; done)), H', ⟨by have := HK1.out; have := HJ9.out; first | omega | exact Nat.le_refl _⟩, ⟨by (with_reducible repeat (first | apply Kd.R_alloc | apply Kd.R_drewN | apply Kd.R_drew)); exact HO_3.out⟩, ⟨by repeat (first | (with_reducible first | exact HB.out | apply below_alloc | apply pw_below_drewN | apply below_drew1) | exact HB.out)⟩⟩
                              · rw [if_neg c19] at H
                                exact absurd H (by simp)
                            · rw [if_neg c18] at H
                              exact absurd H (by simp)
                          · rw [if_neg c17] at H
                            have c17b0 : (((rd_T29 t291 x7_1).f0) == 3) = false := beq_eq_false_iff_ne.mpr c17
                            have c17b1 : (((rd_T29 t291 x7_1).f0) != 3) = true := bne_iff_ne.mpr c17
                            by_cases c21 : (wrap64 ((a0.size : Int) - ((rd_T29 t291 x7_1).f3))) < (((rd_T29 t291 x7_1).f1).size : Int)
                            · rw [if_pos c21] at H
                              have c21b0 : decide ((wrap64 ((a0.size : Int) - ((rd_T29 t291 x7_1).f3))) < (((rd_T29 t291 x7_1).f1).size : Int)) = true := decide_eq_true c21
                              clear c21
                              have H' := Aside0.mk H
                              clear H
                              have p299 : 0 ≤ (x7_1 : Int) := of_decide_eq_true (by first | (with_reducible assumption) | assumption)
                              have q299 : x7_1 < (t291.length : Int) := of_decide_eq_true (by first | (with_reducible assumption) | assumption)
                              obtain ⟨ad299, e299, hx299_0, hx299_1, hx299_2, hx299_3⟩ := at_T29 (Kd.R_reads' HO_3.out).2.2 x7_1 p299 q299
                              obtain rfl : ad298 = ad299 := (by injection e299)
                              replace p299 := eq_true p299
                              replace q299 := eq_true q299
                              have p301 : 0 ≤ (x7_1 : Int) := of_decide_eq_true (by first | (with_reducible assumption) | assumption)
                              have q301 : x7_1 < (t291.length : Int) := of_decide_eq_true (by first | (with_reducible assumption) | assumption)
                              obtain ⟨ad301, e301, hx301_0, hx301_1, hx301_2, hx301_3⟩ := at_T29 (Kd.R_reads' HO_3.out).2.2 x7_1 p301 q301
                              obtain rfl : ad298 = ad301 := (by injection e301)
                              replace p301 := eq_true p301
                              replace q301 := eq_true q301
                              go_wp2
                              repeat (go_quiet (fail); try go_wp2)
                              go_meet
                              case rel => exact ⟨_, (true), (by first | rfl | (simp; done) | (simp [*]; done)), H', ⟨by have := HK1.out; have := HJ9.out; first | omega | exact Nat.le_refl _⟩, ⟨by (with_reducible repeat (first | apply Kd.R_alloc | apply Kd.R_drewN | apply Kd.R_drew)); exact HO_3.out⟩, ⟨by repeat (first | (with_reducible first | exact HB.out | apply below_alloc | apply pw_below_drewN | apply below_drew1) | exact HB.out)⟩⟩
                            · rw [if_neg c21] at H
                              have c21b0 : decide ((wrap64 ((a0.size : Int) - ((rd_T29 t291 x7_1).f3))) < (((rd_T29 t291 x7_1).f1).size : Int)) = false := decide_eq_false c21
                              clear c21
                              by_cases c22 : 0 ≤ ((rd_T29 t291 x7_1).f3)
                              · rw [if_pos c22] at H
                                have c22b0 := eq_true c22
                                have c22b1 : decide (0 ≤ ((rd_T29 t291 x7_1).f3)) = true := decide_eq_true c22
                                clear c22
                                by_cases c23 : ((rd_T29 t291 x7_1).f3) ≤ (wrap64 (((rd_T29 t291 x7_1).f3) + (((rd_T29 t291 x7_1).f1).size : Int)))
                                · rw [if_pos c23] at H
                                  have c23b0 := eq_true c23
                                  have c23b1 : decide (((rd_T29 t291 x7_1).f3) ≤ (wrap64 (((rd_T29 t291 x7_1).f3) + (((rd_T29 t291 x7_1).f1).size : Int)))) = true := decide_eq_true c23
                                  by_cases c24 : (wrap64 (((rd_T29 t291 x7_1).f3) + (((rd_T29 t291 x7_1).f1).size : Int))) ≤ (a0.size : Int)
                                  · rw [if_pos c24] at H
                                    have c24b0 := eq_true c24
                                    have c24b1 : decide ((wrap64 (((rd_T29 t291 x7_1).f3) + (((rd_T29 t291 x7_1).f1).size : Int))) ≤ (a0.size : Int)) = true := decide_eq_true c24
                                    by_cases c25 : (a0.extract (((rd_T29 t291 x7_1).f3) : Int).toNat ((wrap64 (((rd_T29 t291 x7_1).f3) + (((rd_T29 t291 x7_1).f1).size : Int))) : Int).toNat).toList = ((rd_T29 t291 x7_1).f1).toList
                                    · rw [if_pos c25] at H
                                      have c25b0 : ((a0.extract (((rd_T29 t291 x7_1).f3) : Int).toNat ((wrap64 (((rd_T29 t291 x7_1).f3) + (((rd_T29 t291 x7_1).f1).size : Int))) : Int).toNat).toList == ((rd_T29 t291 x7_1).f1).toList) = true := beq_iff_eq.mpr c25
                                      have c25b1 : ((a0.extract (((rd_T29 t291 x7_1).f3) : Int).toNat ((wrap64 (((rd_T29 t291 x7_1).f3) + (((rd_T29 t291 x7_1).f1).size : Int))) : Int).toNat).toList != ((rd_T29 t291 x7_1).f1).toList) = false := bne_eq_false_iff_eq.mpr c25
                                      clear c25
                                      by_cases c26 : (((rd_T29 t291 x7_1).f1).size : Int) = 0
                                      · rw [if_pos c26] at H
                                        have c26b0 : ((((rd_T29 t291 x7_1).f1).size : Int) == 0) = true := beq_iff_eq.mpr c26
                                        have c26b1 : ((((rd_T29 t291 x7_1).f1).size : Int) != 0) = false := bne_eq_false_iff_eq.mpr c26
                                        clear c26
                                        have H' := Aside0.mk H
                                        clear H
                                        have p299 : 0 ≤ (x7_1 : Int) := of_decide_eq_true (by first | (with_reducible assumption) | assumption)
                                        have q299 : x7_1 < (t291.length : Int) := of_decide_eq_true (by first | (with_reducible assumption) | assumption)
                                        obtain ⟨ad299, e299, hx299_0, hx299_1, hx299_2, hx299_3⟩ := at_T29 (Kd.R_reads' HO_3.out).2.2 x7_1 p299 q299
                                        obtain rfl : ad298 = ad299 := (by injection e299)
                                        replace p299 := eq_true p299
                                        replace q299 := eq_true q299
                                        have p301 : 0 ≤ (x7_1 : Int) := of_decide_eq_true (by first | (with_reducible assumption) | assumption)
                                        have q301 : x7_1 < (t291.length : Int) := of_decide_eq_true (by first | (with_reducible assumption) | assumption)
                                        obtain ⟨ad301, e301, hx301_0, hx301_1, hx301_2, hx301_3⟩ := at_T29 (Kd.R_reads' HO_3.out).2.2 x7_1 p301 q301
                                        obtain rfl : ad298 = ad301 := (by injection e301)
                                        replace p301 := eq_true p301
                                        replace q301 := eq_true q301
                                        have p302 : 0 ≤ (x7_1 : Int) := of_decide_eq_true (by first | (with_reducible assumption) | assumption)
                                        have q302 : x7_1 < (t291.length : Int) := of_decide_eq_true (by first | (with_reducible assumption) | assumption)
                                        obtain ⟨ad302, e302, hx302_0, hx302_1, hx302_2, hx302_3⟩ := at_T29 (Kd.R_reads' HO_3.out).2.2 x7_1 p302 q302
                                        obtain rfl : ad298 = ad302 := (by injection e302)
                                        replace p302 := eq_true p302
                                        replace q302 := eq_true q302
                                        have p303 : 0 ≤ (x7_1 : Int) := of_decide_eq_true (by first | (with_reducible assumption) | assumption)
                                        have q303 : x7_1 < (t291.length : Int) := of_decide_eq_true (by first | (with_reducible assumption) | assumption)
                                        obtain ⟨ad303, e303, hx303_0, hx303_1, hx303_2, hx303_3⟩ := at_T29 (Kd.R_reads' HO_3.out).2.2 x7_1 p303 q303
                                        obtain rfl : ad298 = ad303 := (by injection e303)
                                        replace p303 := eq_true p303
                                        replace q303 := eq_true q303
                                        have p304 : 0 ≤ (x7_1 : Int) := of_decide_eq_true (by first | (with_reducible assumption) | assumption)
                                        have q304 : x7_1 < (t291.length : Int) := of_decide_eq_true (by first | (with_reducible assumption) | assumption)
                                        obtain ⟨ad304, e304, hx304_0, hx304_1, hx304_2, hx304_3⟩ := at_T29 (Kd.R_reads' HO_3.out).2.2 x7_1 p304 q304
                                        obtain rfl : ad298 = ad304 := (by injection e304)
                                        replace p304 := eq_true p304
                                        replace q304 := eq_true q304
                                        go_wp2
                                        repeat (go_quiet (fail); try go_wp2)
                                        go_meet
                                        case rel => exact ⟨_, (true), (by first | rfl | (simp; done) | (simp [*]; done)), H', ⟨by have := HK1.out; have := HJ9.out; first | omega | exact Nat.le_refl _⟩, ⟨by (with_reducible repeat (first | apply Kd.R_alloc | apply Kd.R_drewN | apply Kd.R_drew)); exact HO_3.out⟩, ⟨by repeat (first | (with_reducible first | exact HB.out | apply below_alloc | apply pw_below_drewN | apply below_drew1) | exact HB.out)⟩⟩
                                      · rw [if_neg c26] at H
                                        have c26b0 : ((((rd_T29 t291 x7_1).f1).size : Int) == 0) = false := beq_eq_false_iff_ne.mpr c26
                                        have c26b1 : ((((rd_T29 t291 x7_1).f1).size : Int) != 0) = true := bne_iff_ne.mpr c26
                                        have H' := Aside0.mk H
                                        clear H
                                        have p299 : 0 ≤ (x7_1 : Int) := of_decide_eq_true (by first | (with_reducible assumption) | assumption)
                                        have q299 : x7_1 < (t291.length : Int) := of_decide_eq_true (by first | (with_reducible assumption) | assumption)
                                        obtain ⟨ad299, e299, hx299_0, hx299_1, hx299_2, hx299_3⟩ := at_T29 (Kd.R_reads' HO_3.out).2.2 x7_1 p299 q299
                                        obtain rfl : ad298 = ad299 := (by injection e299)
                                        replace p299 := eq_true p299
                                        replace q299 := eq_true q299
                                        have p301 : 0 ≤ (x7_1 : Int) := of_decide_eq_true (by first | (with_reducible assumption) | assumption)
                                        have q301 : x7_1 < (t291.length : Int) := of_decide_eq_true (by first | (with_reducible assumption) | assumption)
                                        obtain ⟨ad301, e301, hx301_0, hx301_1, hx301_2, hx301_3⟩ := at_T29 (Kd.R_reads' HO_3.out).2.2 x7_1 p301 q301
                                        obtain rfl : ad298 = ad301 := (by injection e301)
                                        replace p301 := eq_true p301
                                        replace q301 := eq_true q301
                                        have p302 : 0 ≤ (x7_1 : Int) := of_decide_eq_true (by first | (with_reducible assumption) | assumption)
                                        have q302 : x7_1 < (t291.length : Int) := of_decide_eq_true (by first | (with_reducible assumption) | assumption)
                                        obtain ⟨ad302, e302, hx302_0, hx302_1, hx302_2, hx302_3⟩ := at_T29 (Kd.R_reads' HO_3.out).2.2 x7_1 p302 q302
                                        obtain rfl : ad298 = ad302 := (by injection e302)
                                        replace p302 := eq_true p302
                                        replace q302 := eq_true q302
                                        have p303 : 0 ≤ (x7_1 : Int) := of_decide_eq_true (by first | (with_reducible assumption) | assumption)
                                        have q303 : x7_1 < (t291.length : Int) := of_decide_eq_true (by first | (with_reducible assumption) | assumption)
                                        obtain ⟨ad303, e303, hx303_0, hx303_1, hx303_2, hx303_3⟩ := at_T29 (Kd.R_reads' HO_3.out).2.2 x7_1 p303 q303
                                        obtain rfl : ad298 = ad303 := (by injection e303)
                                        replace p303 := eq_true p303
                                        replace q303 := eq_true q303
                                        have p304 : 0 ≤ (x7_1 : Int) := of_decide_eq_true (by first | (with_reducible assumption) | assumption)
                                        have q304 : x7_1 < (t291.length : Int) := of_decide_eq_true (by first | (with_reducible assumption) | assumption)
                                        obtain ⟨ad304, e304, hx304_0, hx304_1, hx304_2, hx304_3⟩ := at_T29 (Kd.R_reads' HO_3.out).2.2 x7_1 p304 q304
                                        obtain rfl : ad298 = ad304 := (by injection e304)
                                        replace p304 := eq_true p304
                                        replace q304 := eq_true q304
                                        have p305 : 0 ≤ (x7_1 : Int) := of_decide_eq_true (by first | (with_reducible assumption) | assumption)
                                        have q305 : x7_1 < (t291.length : Int) := of_decide_eq_true (by first | (with_reducible assumption) | assumption)
                                        obtain ⟨ad305, e305, hx305_0, hx305_1, hx305_2, hx305_3⟩ := at_T29 (Kd.R_reads' HO_3.out).2.2 x7_1 p305 q305
                                        obtain rfl : ad298 = ad305 := (by injection e305)
                                        replace p305 := eq_true p305
                                        replace q305 := eq_true q305
                                        go_wp2
                                        repeat (go_quiet (fail); try go_wp2)
                                        go_meet
                                        case rel => exact ⟨_, (false), (by first | rfl | (simp; done) | (simp [*]; done)), H', ⟨by have := HK1.out; have := HJ9.out; first | omega | exact Nat.le_refl _⟩, ⟨by (with_reducible repeat (first | apply Kd.R_alloc | apply Kd.R_drewN | apply Kd.R_drew)); exact HO_3.out⟩, ⟨by repeat (first | (with_reducible first | exact HB.out | apply below_alloc | apply pw_below_drewN | apply below_drew1) | exact HB.out)⟩⟩
                                    · rw [if_neg c25] at H
                                      have c25b0 : ((a0.extract (((rd_T29 t291 x7_1).f3) : Int).toNat ((wrap64 (((rd_T29 t291 x7_1).f3) + (((rd_T29 t291 x7_1).f1).size : Int))) : Int).toNat).toList == ((rd_T29 t291 x7_1).f1).toList) = false := beq_eq_false_iff_ne.mpr c25
                                      have c25b1 : ((a0.extract (((rd_T29 t291 x7_1).f3) : Int).toNat ((wrap64 (((rd_T29 t291 x7_1).f3) + (((rd_T29 t291 x7_1).f1).size : Int))) : Int).toNat).toList != ((rd_T29 t291 x7_1).f1).toList) = true := bne_iff_ne.mpr c25
                                      have H' := Aside0.mk H
                                      clear H
                                      have p299 : 0 ≤ (x7_1 : Int) := of_decide_eq_true (by first | (with_reducible assumption) | assumption)
                                      have q299 : x7_1 < (t291.length : Int) := of_decide_eq_true (by first | (with_reducible assumption) | assumption)
                                      obtain ⟨ad299, e299, hx299_0, hx299_1, hx299_2, hx299_3⟩ := at_T29 (Kd.R_reads' HO_3.out).2.2 x7_1 p299 q299
                                      obtain rfl : ad298 = ad299 := (by injection e299)
                                      replace p299 := eq_true p299
                                      replace q299 := eq_true q299
                                      have p301 : 0 ≤ (x7_1 : Int) := of_decide_eq_true (by first | (with_reducible assumption) | assumption)
                                      have q301 : x7_1 < (t291.length : Int) := of_decide_eq_true (by first | (with_reducible assumption) | assumption)
                                      obtain ⟨ad301, e301, hx301_0, hx301_1, hx301_2, hx301_3⟩ := at_T29 (Kd.R_reads' HO_3.out).2.2 x7_1 p301 q301
                                      obtain rfl : ad298 = ad301 := (by injection e301)
                                      replace p301 := eq_true p301
                                      replace q301 := eq_true q301
                                      have p302 : 0 ≤ (x7_1 : Int) := of_decide_eq_true (by first | (with_reducible assumption) | assumption)
                                      have q302 : x7_1 < (t291.length : Int) := of_decide_eq_true (by first | (with_reducible assumption) | assumption)
                                      obtain ⟨ad302, e302, hx302_0, hx302_1, hx302_2, hx302_3⟩ := at_T29 (Kd.R_reads' HO_3.out).2.2 x7_1 p302 q302
                                      obtain rfl : ad298 = ad302 := (by injection e302)
                                      replace p302 := eq_true p302
                                      replace q302 := eq_true q302
                                      have p303 : 0 ≤ (x7_1 : Int) := of_decide_eq_true (by first | (with_reducible assumption) | assumption)
                                      have q303 : x7_1 < (t291.length : Int) := of_decide_eq_true (by first | (with_reducible assumption) | assumption)
                                      obtain ⟨ad303, e303, hx303_0, hx303_1, hx303_2, hx303_3⟩ := at_T29 (Kd.R_reads' HO_3.out).2.2 x7_1 p303 q303
                                      obtain rfl : ad298 = ad303 := (by injection e303)
                                      replace p303 := eq_true p303
                                      replace q303 := eq_true q303
                                      go_wp2
                                      repeat (go_quiet (fail); try go_wp2)
                                      go_meet
                                      case rel => exact ⟨_, (true), (by first | rfl | (simp; done) | (simp [*]; done)), H', ⟨by have := HK1.out; have := HJ9.out; first | omega | exact Nat.le_refl _⟩, ⟨by (with_reducible repeat (first | apply Kd.R_alloc | apply Kd.R_drewN | apply Kd.R_drew)); exact HO_3.out⟩, ⟨by repeat (first | (with_reducible first | exact HB.out | apply below_alloc | apply pw_below_drewN | apply below_drew1) | exact HB.out)⟩⟩
                                  · rw [if_neg c24] at H
                                    exact absurd H (by simp)
                                · rw [if_neg c23] at H
                                  exact absurd H (by simp)
                              · rw [if_neg c22] at H
                                exact absurd H (by simp)
                        · rw [if_neg c16] at H
                          exact absurd H (by simp)
                      · rw [if_neg c15] at H
                        exact absurd H (by simp)
                    case rest =>
                      clear HC14
                      try clear c1
                      try clear c2
                      try clear c2b0
                      try clear c2b1
                      try clear p2
                      try clear q2
                      try clear hx2
                      try clear p3
                      try clear q3
                      try clear hx3
                      try clear c5
                      try clear c6
                      try clear c6b0
                      try clear c6b1
                      try clear p6
                      try clear c8
                      try clear c8b0
                      try clear c9
                      try clear c9b0
                      try clear c12
                      try clear c12b0
                      try clear c13
                      try clear c15
                      try clear c15b0
                      try clear c16
                      try clear c16b0
                      try clear c17
                      try clear c17b0
                      try clear c17b1
                      try clear c18
                      try clear c18b0
                      try clear c19
                      try clear c19b0
                      try clear p20
                      try clear q20
                      try clear hx20
                      try clear c21
                      try clear c21b0
                      try clear c22
                      try clear c22b0
                      try clear c22b1
                      try clear c23
                      try clear c23b0
                      try clear c23b1
                      try clear c24
                      try clear c24b0
                      try clear c24b1
                      try clear c25
                      try clear c25b0
                      try clear c25b1
                      try clear c26
                      try clear c26b0
                      try clear c26b1
                      try clear hx298_0
                      try clear hx298_1
                      try clear hx298_2
                      try clear hx298_3
                      try clear hx299_0
                      try clear hx299_1
                      try clear hx299_2
                      try clear hx299_3
                      try clear hx300_0
                      try clear hx300_1
                      try clear hx300_2
                      try clear hx300_3
                      try clear hx301_0
                      try clear hx301_1
                      try clear hx301_2
                      try clear hx301_3
                      try clear hx302_0
                      try clear hx302_1
                      try clear hx302_2
                      try clear hx302_3
                      try clear hx303_0
                      try clear hx303_1
                      try clear hx303_2
                      try clear hx303_3
                      try clear hx304_0
                      try clear hx304_1
                      try clear hx304_2
                      try clear hx304_3
                      try clear hx305_0
                      try clear hx305_1
                      try clear hx305_2
                      try clear hx305_3
                      try clear p2
                      try clear p20
                      try clear p298
                      try clear p299
                      try clear p300
                      try clear p301
                      try clear p302
                      try clear p303
                      try clear p304
                      try clear p305
                      try clear q2
                      try clear q20
                      try clear q298
                      try clear q299
                      try clear q300
                      try clear q301
                      try clear q302
                      try clear q303
                      try clear q304
                      try clear q305
                      obtain ⟨kq, x115_13, rfl, HA, HJ13, HO_3, HB⟩ := hcut
                      cases kq with
                      | zero => exact absurd HA.out (by simp [chrysalislaw08_LexPlaces.j2])
                      | succ kj13 =>
                        have H := HA.out
                        clear HA
                        simp only [chrysalislaw08_LexPlaces.j2] at H
                        by_cases c27 : x115_13 = true
                        · subst c27
                          have H1 : (some false) = some r := by rw [if_pos rfl] at H; exact H
                          clear H
                          have H := H1
                          clear H1
                          obtain rfl := Option.some.inj H
                          go_wp2
                          repeat (go_quiet (fail); try go_wp2)
                          go_ret
                          exact ⟨by first | rfl | (simp [errW_none, errW_some] <;> rfl) | (simp [*, errW_none, errW_some] <;> rfl), by repeat (first | (with_reducible first | exact HB.out | apply below_alloc | apply pw_below_drewN | apply below_drew1) | exact HB.out)⟩
                        · replace c27 := Bool.eq_false_iff.mpr c27
                          subst c27
                          have H1 : (if 0 ≤ ((rd_T29 t291 x7_1).f3) then (if ((rd_T29 t291 x7_1).f3) ≤ (a0.size : Int) then ((lex_Scan.f kj13 (a0.extract (((rd_T29 t291 x7_1).f3) : Int).toNat a0.size)).bind fun bt306 => (if bt306.2.1 = 0 then (if (bt306.1.length : Int) = (wrap64 ((t291.length : Int) - x7_1)) then (if 0 ≤ x7_1 then (if x7_1 ≤ (t291.length : Int) then ((chrysalisref08_Same.f kj13 bt306.1 (t291.drop (x7_1 : Int).toNat) false).bind fun t315 => (chrysalislaw08_LexPlaces.j3 kj13 a0 t291 x7_1 ((rd_T29 t291 x7_1).f3) (!t315))) else (none)) else (none)) else (chrysalislaw08_LexPlaces.j3 kj13 a0 t291 x7_1 ((rd_T29 t291 x7_1).f3) true)) else (chrysalislaw08_LexPlaces.j3 kj13 a0 t291 x7_1 ((rd_T29 t291 x7_1).f3) true))) else (none)) else (none)) = some r := by rw [if_neg (show ¬ (false = true) by decide)] at H; exact H
                          clear H
                          have H := H1
                          clear H1
                          by_cases c28 : 0 ≤ ((rd_T29 t291 x7_1).f3)
                          · rw [if_pos c28] at H
                            have c28b0 := eq_true c28
                            have c28b1 : decide (0 ≤ ((rd_T29 t291 x7_1).f3)) = true := decide_eq_true c28
                            clear c28
                            by_cases c29 : ((rd_T29 t291 x7_1).f3) ≤ (a0.size : Int)
                            · rw [if_pos c29] at H
                              have c29b0 := eq_true c29
                              have c29b1 : decide (((rd_T29 t291 x7_1).f3) ≤ (a0.size : Int)) = true := decide_eq_true c29
                              clear c29
                              replace H := Option.bind_eq_some_iff.mp H
                              obtain ⟨⟨t306, t307, t308⟩, A300, H⟩ := H
                              replace H : (if t307 = 0 then (if (t306.length : Int) = (wrap64 ((t291.length : Int) - x7_1)) then (if 0 ≤ x7_1 then (if x7_1 ≤ (t291.length : Int) then ((chrysalisref08_Same.f kj13 t306 (t291.drop (x7_1 : Int).toNat) false).bind fun t315 => (chrysalislaw08_LexPlaces.j3 kj13 a0 t291 x7_1 ((rd_T29 t291 x7_1).f3) (!t315))) else (none)) else (none)) else (chrysalislaw08_LexPlaces.j3 kj13 a0 t291 x7_1 ((rd_T29 t291 x7_1).f3) true)) else (chrysalislaw08_LexPlaces.j3 kj13 a0 t291 x7_1 ((rd_T29 t291 x7_1).f3) true)) = some r := H
                              have A30 := Aside0.mk A300
                              clear A300
                              have HC31 := Aside0.mk H
                              clear H
                              go_upto_region 16 with (first | (go_at_call 11; (with_reducible refine (lex_Scan.calls kj13 (a0.extract (((rd_T29 t291 x7_1).f3) : Int).toNat a0.size) t306 t307 t308 _ A30.out).mono ?_); rintro e w32 ⟨v309, rfl, ho0, hb⟩; have n0_ := Aside0.mk (Kd.R_elder' (by (with_reducible repeat (first | apply Kd.R_alloc | apply Kd.R_drewN | apply Kd.R_drew)); exact HO_3.out) (Kd.R_base ho0) hb); have n1_ := Aside0.mk (Kd.R_lower (Kd.R_new' ho0 (Kd.R_lt (by (with_reducible repeat (first | apply Kd.R_alloc | apply Kd.R_drewN | apply Kd.R_drew)); exact HO_3.out))) (below_size (by repeat (first | (with_reducible first | exact HB.out | apply below_alloc | apply pw_below_drewN | apply below_drew1) | exact HB.out)))); have n2_ := Aside0.mk (below_step (by repeat (first | (with_reducible first | exact HB.out | apply below_alloc | apply pw_below_drewN | apply below_drew1) | exact HB.out)) hb); clear HO_3; clear HB; have HO_3 := n0_; have HO310 := n1_; have HB := n2_; clear n0_ n1_ n2_; (try clear hb); (try clear hb2); (try clear hk); (try clear hi); (try clear ho0)))
                              repeat (go_quiet (first | (go_at_call 11; (with_reducible refine (lex_Scan.calls kj13 (a0.extract (((rd_T29 t291 x7_1).f3) : Int).toNat a0.size) t306 t307 t308 _ A30.out).mono ?_); rintro e w32 ⟨v309, rfl, ho0, hb⟩; have n0_ := Aside0.mk (Kd.R_elder' (by (with_reducible repeat (first | apply Kd.R_alloc | apply Kd.R_drewN | apply Kd.R_drew)); exact HO_3.out) (Kd.R_base ho0) hb); have n1_ := Aside0.mk (Kd.R_lower (Kd.R_new' ho0 (Kd.R_lt (by (with_reducible repeat (first | apply Kd.R_alloc | apply Kd.R_drewN | apply Kd.R_drew)); exact HO_3.out))) (below_size (by repeat (first | (with_reducible first | exact HB.out | apply below_alloc | apply pw_below_drewN | apply below_drew1) | exact HB.out)))); have n2_ := Aside0.mk (below_step (by repeat (first | (with_reducible first | exact HB.out | apply below_alloc | apply pw_below_drewN | apply below_drew1) | exact HB.out)) hb); clear HO_3; clear HB; have HO_3 := n0_; have HO310 := n1_; have HB := n2_; clear n0_ n1_ n2_; (try clear hb); (try clear hb2); (try clear hk); (try clear hi); (try clear ho0))); go_upto_region 16 with (first | (go_at_call 11; (with_reducible refine (lex_Scan.calls kj13 (a0.extract (((rd_T29 t291 x7_1).f3) : Int).toNat a0.size) t306 t307 t308 _ A30.out).mono ?_); rintro e w32 ⟨v309, rfl, ho0, hb⟩; have n0_ := Aside0.mk (Kd.R_elder' (by (with_reducible repeat (first | apply Kd.R_alloc | apply Kd.R_drewN | apply Kd.R_drew)); exact HO_3.out) (Kd.R_base ho0) hb); have n1_ := Aside0.mk (Kd.R_lower (Kd.R_new' ho0 (Kd.R_lt (by (with_reducible repeat (first | apply Kd.R_alloc | apply Kd.R_drewN | apply Kd.R_drew)); exact HO_3.out))) (below_size (by repeat (first | (with_reducible first | exact HB.out | apply below_alloc | apply pw_below_drewN | apply below_drew1) | exact HB.out)))); have n2_ := Aside0.mk (below_step (by repeat (first | (with_reducible first | exact HB.out | apply below_alloc | apply pw_below_drewN | apply below_drew1) | exact HB.out)) hb); clear HO_3; clear HB; have HO_3 := n0_; have HO310 := n1_; have HB := n2_; clear n0_ n1_ n2_; (try clear hb); (try clear hb2); (try clear hk); (try clear hi); (try clear ho0))))
                              (try simp only [Act.put, List.setIfInBounds_toArray, List.set_cons_zero, List.set_cons_succ])
                              go_cut [142] (fun v142 wc => ∃ (kq : Nat) (x142_30 : Bool), v142 = .bool x142_30 ∧ Aside0 (chrysalislaw08_LexPlaces.j3 kq a0 t291 x7_1 ((rd_T29 t291 x7_1).f3) x142_30 = some r) ∧ Aside0 (kq ≤ kj13) ∧ Aside0 (Kd.R k29 29 wc w.heap.size (fun _ => True) (.slice (some ad298) t291.length co11) t291) ∧ Aside0 (Below w.heap.size w wc))
                              case first =>
                                have H := HC31.out
                                clear HC31
                                by_cases c33 : t307 = 0
                                · rw [if_pos c33] at H
                                  have c33b0 : (t307 == 0) = true := beq_iff_eq.mpr c33
                                  have c33b1 : (t307 != 0) = false := bne_eq_false_iff_eq.mpr c33
                                  clear c33
                                  (first | rw [c33b0] | (simp only [i64_w, i32_w]; rw [c33b0]) | skip)
                                  by_cases c34 : (t306.length : Int) = (wrap64 ((t291.length : Int) - x7_1))
                                  · rw [if_pos c34] at H
                                    have c34b0 : ((t306.length : Int) == (wrap64 ((t291.length : Int) - x7_1))) = true := beq_iff_eq.mpr c34
                                    have c34b1 : ((t306.length : Int) != (wrap64 ((t291.length : Int) - x7_1))) = false := bne_eq_false_iff_eq.mpr c34
                                    clear c34
                                    by_cases c35 : 0 ≤ x7_1
                                    · rw [if_pos c35] at H
                                      have c35b0 := eq_true c35
                                      have c35b1 : decide (0 ≤ x7_1) = true := decide_eq_true c35
                                      clear c35
                                      by_cases c36 : x7_1 ≤ (t291.length : Int)
                                      · rw [if_pos c36] at H
                                        have c36b0 := eq_true c36
                                        have c36b1 : decide (x7_1 ≤ (t291.length : Int)) = true := decide_eq_true c36
                                        clear c36
                                        obtain ⟨y311, hy311⟩ : ∃ y_ : List (S29), y_ = (t291.drop (x7_1 : Int).toNat) := ⟨_, rfl⟩
                                        replace H : ((chrysalisref08_Same.f kj13 t306 y311 false).bind fun t315 => (chrysalislaw08_LexPlaces.j3 kj13 a0 t291 x7_1 ((rd_T29 t291 x7_1).f3) (!t315))) = some r := by first | (rw [hy311]; with_reducible exact H) | (have H2_ := (Option.bind_some _ _).symm.trans H; rw [hy311]; with_reducible exact H2_) | (have H2_ := (Option.bind_some _ _).symm.trans H; with_reducible exact H2_) | with_reducible exact H | (rw [hy311]; exact H) | exact H
                                        have Ny311 := Aside0.mk hy311
                                        clear hy311
                                        replace H := Option.bind_eq_some_iff.mp H
                                        obtain ⟨t315, A370, H⟩ := H
                                        replace H : (chrysalislaw08_LexPlaces.j3 kj13 a0 t291 x7_1 ((rd_T29 t291 x7_1).f3) (!t315)) = some r := H
                                        have A37 := Aside0.mk A370
                                        clear A370
                                        have H' := Aside0.mk H
                                        clear H
                                        obtain ⟨Ao38, co38, eo38⟩ := Kd.R_slice HO310.out
                                        subst eo38
                                        have q39 : (x7_1 : Int) ≤ ((t291.length : Int) : Int) := of_decide_eq_true (by first | (with_reducible assumption) | assumption)
                                        obtain ⟨i039, hi039, _, hsz39, _⟩ := info_parts info29
                                        have hroom39 : t291.length ≤ co11 := (Kd.R_reads' HO_3.out).2.1
                                        have hC39 : Kd.C k29 _ (some ad298) t291.length t291 := (Kd.R_reads' HO_3.out).2.2
                                        have q039 : (0 : Int) ≤ (x7_1 : Int) := of_decide_eq_true (by first | (with_reducible assumption) | assumption)
                                        have hcut39 := cut_from (P := Try.prog) 23 29 .i64 Try.underlying23 hi039 4 hsz39 (some ad298) t291.length co11 x7_1 q039 q39
                                        have hr39 := Kd.C_drop (m := (x7_1 : Int).toNat) (c := co11) hC39 (by omega) hroom39
                                        obtain ⟨A39, hA39⟩ : ∃ A1, A1 = (if co11 = (x7_1 : Int).toNat then (some ad298) else ((some ad298) : Option Addr).map (·.add ((x7_1 : Int).toNat * 4))) := ⟨_, rfl⟩
                                        obtain ⟨c39, hc39⟩ : ∃ c1, c1 = co11 - (x7_1 : Int).toNat := ⟨_, rfl⟩
                                        have hy39 : y311.length = t291.length - (x7_1 : Int).toNat := (by rw [Ny311.out, List.length_drop] <;> omega)
                                        rw [show (t291).drop (x7_1 : Int).toNat = y311 from Ny311.out.symm] at hr39
                                        replace hr39 : Kd.C k29 _ A39 y311.length y311 := (by rw [hA39]; exact hr39)
                                        rw [← hy39, ← hA39, ← hc39] at hcut39
                                        have HR314 := Aside0.mk hr39
                                        have HC314 := Aside0.mk (show y311.length ≤ c39 from by rw [hy39, hc39]; exact Nat.sub_le_sub_right hroom39 _)
                                        clear hr39 hC39 hroom39 hi039 hsz39 hc39
                                        have KY39 := Aside0.mk hy39
                                        have KA39 := Aside0.mk hA39
                                        clear hy39 hA39
                                        have KL39 := Aside0.mk (show (x7_1 : Int).toNat ≤ t291.length from by omega)
                                        replace q39 := eq_true q39
                                        go_wp2_with (first | (go_at_call 13; (with_reducible refine (chrysalisref08_Same.calls kj13 _ _ t306 _ _ y311 false t315 _ ?side1 ?side2 ?side3 ?side4 A37.out).mono ?_); (case side1 => repeat (first | exact (Kd.R_reads' HO310.out).2.2 | (with_reducible refine Kd.C_alloc ?_ _) | (with_reducible refine Kd.C_drewN ?_ _) | (with_reducible refine Kd.C_drew ?_))); (case side2 => exact (Kd.R_reads' HO310.out).2.1); (case side3 => repeat (first | exact (by repeat (first | (with_reducible exact HR314.out) | (with_reducible refine Kd.C_alloc ?_ _) | (with_reducible refine Kd.C_drewN ?_ _) | (with_reducible refine Kd.C_drew ?_) | exact HR314.out)) | (with_reducible refine Kd.C_alloc ?_ _) | (with_reducible refine Kd.C_drewN ?_ _) | (with_reducible refine Kd.C_drew ?_))); (case side4 => exact HC314.out); rintro e w' ⟨rfl, ⟨nd, rfl⟩⟩; (try first | exact ⟨rfl, _, World.drewN_drewN _ _ _⟩ | exact ⟨rfl, _, Eq.trans (World.drewN_drewN _ _ _) (congrArg (World.drewN _) (Nat.add_assoc _ _ _))⟩)))
                                        repeat (go_quiet (first | (go_at_call 13; (with_reducible refine (chrysalisref08_Same.calls kj13 _ _ t306 _ _ y311 false t315 _ ?side1 ?side2 ?side3 ?side4 A37.out).mono ?_); (case side1 => repeat (first | exact (Kd.R_reads' HO310.out).2.2 | (with_reducible refine Kd.C_alloc ?_ _) | (with_reducible refine Kd.C_drewN ?_ _) | (with_reducible refine Kd.C_drew ?_))); (case side2 => exact (Kd.R_reads' HO310.out).2.1); (case side3 => repeat (first | exact (by repeat (first | (with_reducible exact HR314.out) | (with_reducible refine Kd.C_alloc ?_ _) | (with_reducible refine Kd.C_drewN ?_ _) | (with_reducible refine Kd.C_drew ?_) | exact HR314.out)) | (with_reducible refine Kd.C_alloc ?_ _) | (with_reducible refine Kd.C_drewN ?_ _) | (with_reducible refine Kd.C_drew ?_))); (case side4 => exact HC314.out); rintro e w' ⟨rfl, ⟨nd, rfl⟩⟩; (try first | exact ⟨rfl, _, World.drewN_drewN _ _ _⟩ | exact ⟨rfl, _, Eq.trans (World.drewN_drewN _ _ _) (congrArg (World.drewN _) (Nat.add_assoc _ _ _))⟩))); try go_wp2_with (first | (go_at_call 13; (with_reducible refine (chrysalisref08_Same.calls kj13 _ _ t306 _ _ y311 false t315 _ ?side1 ?side2 ?side3 ?side4 A37.out).mono ?_); (case side1 => repeat (first | exact (Kd.R_reads' HO310.out).2.2 | (with_reducible refine Kd.C_alloc ?_ _) | (with_reducible refine Kd.C_drewN ?_ _) | (with_reducible refine Kd.C_drew ?_))); (case side2 => exact (Kd.R_reads' HO310.out).2.1); (case side3 => repeat (first | exact (by repeat (first | (with_reducible exact HR314.out) | (with_reducible refine Kd.C_alloc ?_ _) | (with_reducible refine Kd.C_drewN ?_ _) | (with_reducible refine Kd.C_drew ?_) | exact HR314.out)) | (with_reducible refine Kd.C_alloc ?_ _) | (with_reducible refine Kd.C_drewN ?_ _) | (with_reducible refine Kd.C_drew ?_))); (case side4 => exact HC314.out); rintro e w' ⟨rfl, ⟨nd, rfl⟩⟩; (try first | exact ⟨rfl, _, World.drewN_drewN _ _ _⟩ | exact ⟨rfl, _, Eq.trans (World.drewN_drewN _ _ _) (congrArg (World.drewN _) (Nat.add_assoc _ _ _))⟩))))
                                        go_meet
                                        case rel => exact ⟨_, (!t315), (by first | rfl | (simp; done) | (simp [*]; done)), H', ⟨by have := HK1.out; have := HJ9.out; have := HJ13.out; first | omega | exact Nat.le_refl _⟩, ⟨by (with_reducible repeat (first | apply Kd.R_alloc | apply Kd.R_drewN | apply Kd.R_drew)); exact Kd.R_mono HO_3.out (fun _ hk => trivial)⟩, ⟨by repeat (first | (with_reducible first | exact HB.out | apply below_alloc | apply pw_below_drewN | apply below_drew1) | exact HB.out)⟩⟩
                                      · rw [if_neg c36] at H
                                        exact absurd H (by simp)
                                    · rw [if_neg c35] at H
                                      exact absurd H (by simp)
                                  · rw [if_neg c34] at H
                                    have c34b0 : ((t306.length : Int) == (wrap64 ((t291.length : Int) - x7_1))) = false := beq_eq_false_iff_ne.mpr c34
                                    have c34b1 : ((t306.length : Int) != (wrap64 ((t291.length : Int) - x7_1))) = true := bne_iff_ne.mpr c34
                                    have H' := Aside0.mk H
                                    clear H
                                    obtain ⟨Ao40, co40, eo40⟩ := Kd.R_slice HO310.out
                                    subst eo40
                                    go_wp2
                                    repeat (go_quiet (fail); try go_wp2)
                                    go_meet
                                    case rel => exact ⟨_, (true), (by first | rfl | (simp; done) | (simp [*]; done)), H', ⟨by have := HK1.out; have := HJ9.out; have := HJ13.out; first | omega | exact Nat.le_refl _⟩, ⟨by (with_reducible repeat (first | apply Kd.R_alloc | apply Kd.R_drewN | apply Kd.R_drew)); exact Kd.R_mono HO_3.out (fun _ hk => trivial)⟩, ⟨by repeat (first | (with_reducible first | exact HB.out | apply below_alloc | apply pw_below_drewN | apply below_drew1) | exact HB.out)⟩⟩
                                · rw [if_neg c33] at H
                                  have c33b0 : (t307 == 0) = false := beq_eq_false_iff_ne.mpr c33
                                  have c33b1 : (t307 != 0) = true := bne_iff_ne.mpr c33
                                  (first | rw [c33b0] | (simp only [i64_w, i32_w]; rw [c33b0]) | skip)
                                  have H' := Aside0.mk H
                                  clear H
                                  go_wp2
                                  repeat (go_quiet (fail); try go_wp2)
                                  go_meet
                                  case rel => exact ⟨_, (true), (by first | rfl | (simp; done) | (simp [*]; done)), H', ⟨by have := HK1.out; have := HJ9.out; have := HJ13.out; first | omega | exact Nat.le_refl _⟩, ⟨by (with_reducible repeat (first | apply Kd.R_alloc | apply Kd.R_drewN | apply Kd.R_drew)); exact Kd.R_mono HO_3.out (fun _ hk => trivial)⟩, ⟨by repeat (first | (with_reducible first | exact HB.out | apply below_alloc | apply pw_below_drewN | apply below_drew1) | exact HB.out)⟩⟩
                              case rest =>
                                clear HC31
                                try clear c1
                                try clear c2
                                try clear c2b0
                                try clear c2b1
                                try clear p2
                                try clear q2
                                try clear hx2
                                try clear c3
                                try clear p3
                                try clear q3
                                try clear hx3
                                try clear c5
                                try clear c6
                                try clear c6b0
                                try clear c6b1
                                try clear p6
                                try clear c8
                                try clear c8b0
                                try clear c9
                                try clear c9b0
                                try clear c12
                                try clear c12b0
                                try clear c13
                                try clear c15
                                try clear c15b0
                                try clear c16
                                try clear c16b0
                                try clear c17
                                try clear c17b0
                                try clear c17b1
                                try clear c18
                                try clear c18b0
                                try clear c19
                                try clear c19b0
                                try clear p20
                                try clear q20
                                try clear hx20
                                try clear c21
                                try clear c21b0
                                try clear c22
                                try clear c22b0
                                try clear c22b1
                                try clear c23
                                try clear c23b0
                                try clear c23b1
                                try clear c24
                                try clear c24b0
                                try clear c24b1
                                try clear c25
                                try clear c25b0
                                try clear c25b1
                                try clear c26
                                try clear c26b0
                                try clear c26b1
                                try clear c27
                                try clear c28
                                try clear c28b0
                                try clear c28b1
                                try clear c29
                                try clear c29b0
                                try clear c29b1
                                try clear p29
                                try clear q29
                                try clear hx29
                                try clear p30
                                try clear q30
                                try clear hx30
                                try clear c33
                                try clear c33b0
                                try clear c33b1
                                try clear c34
                                try clear c34b0
                                try clear c34b1
                                try clear c35
                                try clear c35b0
                                try clear c35b1
                                try clear c36
                                try clear c36b0
                                try clear c36b1
                                try clear c39
                                try clear q39
                                try clear hx298_0
                                try clear hx298_1
                                try clear hx298_2
                                try clear hx298_3
                                try clear hx299_0
                                try clear hx299_1
                                try clear hx299_2
                                try clear hx299_3
                                try clear hx300_0
                                try clear hx300_1
                                try clear hx300_2
                                try clear hx300_3
                                try clear hx301_0
                                try clear hx301_1
                                try clear hx301_2
                                try clear hx301_3
                                try clear hx302_0
                                try clear hx302_1
                                try clear hx302_2
                                try clear hx302_3
                                try clear hx303_0
                                try clear hx303_1
                                try clear hx303_2
                                try clear hx303_3
                                try clear hx304_0
                                try clear hx304_1
                                try clear hx304_2
                                try clear hx304_3
                                try clear hx305_0
                                try clear hx305_1
                                try clear hx305_2
                                try clear hx305_3
                                try clear p2
                                try clear p20
                                try clear p298
                                try clear p299
                                try clear p3
                                try clear p300
                                try clear p301
                                try clear p302
                                try clear p303
                                try clear p304
                                try clear p305
                                try clear p6
                                try clear q039
                                try clear q2
                                try clear q20
                                try clear q298
                                try clear q299
                                try clear q3
                                try clear q300
                                try clear q301
                                try clear q302
                                try clear q303
                                try clear q304
                                try clear q305
                                try clear q39
                                obtain ⟨kq, x142_30, rfl, HA, HJ30, HO_3, HB⟩ := hcut
                                cases kq with
                                | zero => exact absurd HA.out (by simp [chrysalislaw08_LexPlaces.j3])
                                | succ kj30 =>
                                  have H := HA.out
                                  clear HA
                                  simp only [chrysalislaw08_LexPlaces.j3] at H
                                  by_cases c41 : x142_30 = true
                                  · subst c41
                                    have H1 : (some false) = some r := by rw [if_pos rfl] at H; exact H
                                    clear H
                                    have H := H1
                                    clear H1
                                    obtain rfl := Option.some.inj H
                                    go_wp2
                                    repeat (go_quiet (fail); try go_wp2)
                                    go_ret
                                    exact ⟨by first | rfl | (simp [errW_none, errW_some] <;> rfl) | (simp [*, errW_none, errW_some] <;> rfl), by repeat (first | (with_reducible first | exact HB.out | apply below_alloc | apply pw_below_drewN | apply below_drew1) | exact HB.out)⟩
                                  · replace c41 := Bool.eq_false_iff.mpr c41
                                    subst c41
                                    have H1 : (if x7_1 > 20 then ((chrysalislaw08_known.f kj30).bind fun t316 => (some t316)) else (chrysalislaw08_LexPlaces.l0 kj30 a0 t291 ((rd_T29 t291 x7_1).f3) (wrap64 (x7_1 + 1)))) = some r := by rw [if_neg (show ¬ (false = true) by decide)] at H; exact H
                                    clear H
                                    have H := H1
                                    clear H1
                                    by_cases c42 : x7_1 > 20
                                    · rw [if_pos c42] at H
                                      have c42b0 : decide (20 < x7_1) = true := decide_eq_true c42
                                      clear c42
                                      replace H := Option.bind_eq_some_iff.mp H
                                      obtain ⟨t316, A430, H⟩ := H
                                      replace H : (some t316) = some r := H
                                      have A43 := Aside0.mk A430
                                      clear A430
                                      obtain rfl := Option.some.inj H
                                      go_wp2_with (first | (go_at_call 10; (with_reducible refine (chrysalislaw08_known.calls kj30  t316 _ A43.out).mono ?_); rintro e w44 ⟨rfl, hb⟩; have n0_ := Aside0.mk (Kd.R_below (by (with_reducible repeat (first | apply Kd.R_alloc | apply Kd.R_drewN | apply Kd.R_drew)); exact HO_3.out) hb); have n1_ := Aside0.mk (below_step (by repeat (first | (with_reducible first | exact HB.out | apply below_alloc | apply pw_below_drewN | apply below_drew1) | exact HB.out)) hb); clear HO_3; clear HB; have HO_3 := n0_; have HB := n1_; clear n0_ n1_; (try clear hb); (try clear hb2); (try clear hk); (try clear hi)))
                                      repeat (go_quiet (first | (go_at_call 10; (with_reducible refine (chrysalislaw08_known.calls kj30  t316 _ A43.out).mono ?_); rintro e w44 ⟨rfl, hb⟩; have n0_ := Aside0.mk (Kd.R_below (by (with_reducible repeat (first | apply Kd.R_alloc | apply Kd.R_drewN | apply Kd.R_drew)); exact HO_3.out) hb); have n1_ := Aside0.mk (below_step (by repeat (first | (with_reducible first | exact HB.out | apply below_alloc | apply pw_below_drewN | apply below_drew1) | exact HB.out)) hb); clear HO_3; clear HB; have HO_3 := n0_; have HB := n1_; clear n0_ n1_; (try clear hb); (try clear hb2); (try clear hk); (try clear hi))); try go_wp2_with (first | (go_at_call 10; (with_reducible refine (chrysalislaw08_known.calls kj30  t316 _ A43.out).mono ?_); rintro e w44 ⟨rfl, hb⟩; have n0_ := Aside0.mk (Kd.R_below (by (with_reducible repeat (first | apply Kd.R_alloc | apply Kd.R_drewN | apply Kd.R_drew)); exact HO_3.out) hb); have n1_ := Aside0.mk (below_step (by repeat (first | (with_reducible first | exact HB.out | apply below_alloc | apply pw_below_drewN | apply below_drew1) | exact HB.out)) hb); clear HO_3; clear HB; have HO_3 := n0_; have HB := n1_; clear n0_ n1_; (try clear hb); (try clear hb2); (try clear hk); (try clear hi))))
                                      go_ret
                                      exact ⟨by first | rfl | (simp [errW_none, errW_some] <;> rfl) | (simp [*, errW_none, errW_some] <;> rfl), by repeat (first | (with_reducible first | exact HB.out | apply below_alloc | apply pw_below_drewN | apply below_drew1) | exact HB.out)⟩
                                    · rw [if_neg c42] at H
                                      have c42b0 : decide (20 < x7_1) = false := decide_eq_false c42
                                      clear c42
                                      have H' := Aside0.mk H
                                      clear H
                                      go_wp2
                                      repeat (go_quiet (fail); try go_wp2)
                                      go_roundg kj30
                                      case measure => have := HK1.out; have := HJ9.out; have := HJ13.out; have := HJ30.out; omega
                                      case rel => exact ⟨(((rd_T29 t291 x7_1).f3)), (wrap64 (x7_1 + 1)), (by first | rfl | (simp; done) | (simp [*]; done)), (by first | rfl | (simp; done) | (simp [*]; done)), H', ⟨by have := HK1.out; have := HJ9.out; have := HJ13.out; have := HJ30.out; omega⟩, ⟨by (with_reducible repeat (first | apply Kd.R_alloc | apply Kd.R_drewN | apply Kd.R_drew)); exact HO_3.out⟩, ⟨by repeat (first | (with_reducible first | exact HB.out | apply below_alloc | apply pw_below_drewN | apply below_drew1) | exact HB.out)⟩⟩
                            · rw [if_neg c29] at H
                              exact absurd H (by simp)
                          · rw [if_neg c28] at H
                            exact absurd H (by simp)
            · rw [if_neg c9] at H
              exact absurd H (by simp)
          · rw [if_neg c8] at H
            have c8b0 : decide (x7_1 < (t291.length : Int)) = false := decide_eq_false c8
            clear c8
            replace H := Option.bind_eq_some_iff.mp H
            obtain ⟨t297, A450, H⟩ := H
            replace H : (some t297) = some r := H
            have A45 := Aside0.mk A450
            clear A450
            obtain rfl := Option.some.inj H
            obtain ⟨Ao46, co46, eo46⟩ := Kd.R_slice HO_3.out
            subst eo46
            go_wp2_with (first | (go_at_call 10; (with_reducible refine (chrysalislaw08_known.calls k1  t297 _ A45.out).mono ?_); rintro e w47 ⟨rfl, hb⟩; have n0_ := Aside0.mk (Kd.R_below (by (with_reducible repeat (first | apply Kd.R_alloc | apply Kd.R_drewN | apply Kd.R_drew)); exact HO_3.out) hb); have n1_ := Aside0.mk (below_step (by repeat (first | (with_reducible first | exact HB.out | apply below_alloc | apply pw_below_drewN | apply below_drew1) | exact HB.out)) hb); clear HO_3; clear HB; have HO_3 := n0_; have HB := n1_; clear n0_ n1_; (try clear hb); (try clear hb2); (try clear hk); (try clear hi)))
            repeat (go_quiet (first | (go_at_call 10; (with_reducible refine (chrysalislaw08_known.calls k1  t297 _ A45.out).mono ?_); rintro e w47 ⟨rfl, hb⟩; have n0_ := Aside0.mk (Kd.R_below (by (with_reducible repeat (first | apply Kd.R_alloc | apply Kd.R_drewN | apply Kd.R_drew)); exact HO_3.out) hb); have n1_ := Aside0.mk (below_step (by repeat (first | (with_reducible first | exact HB.out | apply below_alloc | apply pw_below_drewN | apply below_drew1) | exact HB.out)) hb); clear HO_3; clear HB; have HO_3 := n0_; have HB := n1_; clear n0_ n1_; (try clear hb); (try clear hb2); (try clear hk); (try clear hi))); try go_wp2_with (first | (go_at_call 10; (with_reducible refine (chrysalislaw08_known.calls k1  t297 _ A45.out).mono ?_); rintro e w47 ⟨rfl, hb⟩; have n0_ := Aside0.mk (Kd.R_below (by (with_reducible repeat (first | apply Kd.R_alloc | apply Kd.R_drewN | apply Kd.R_drew)); exact HO_3.out) hb); have n1_ := Aside0.mk (below_step (by repeat (first | (with_reducible first | exact HB.out | apply below_alloc | apply pw_below_drewN | apply below_drew1) | exact HB.out)) hb); clear HO_3; clear HB; have HO_3 := n0_; have HB := n1_; clear n0_ n1_; (try clear hb); (try clear hb2); (try clear hk); (try clear hi))))
            go_ret
            exact ⟨by first | rfl | (simp [errW_none, errW_some] <;> rfl) | (simp [*, errW_none, errW_some] <;> rfl), by repeat (first | (with_reducible first | exact HB.out | apply below_alloc | apply pw_below_drewN | apply below_drew1) | exact HB.out)⟩
    · rw [if_neg c6] at H
      have c6b0 : (t292 == 0) = false := beq_eq_false_iff_ne.mpr c6
      have c6b1 : (t292 != 0) = true := bne_iff_ne.mpr c6
      by_cases c48 : t293 ≥ 0
      · rw [if_pos c48] at H
        have c48b0 : decide (0 ≤ t293) = true := decide_eq_true c48
        clear c48
        by_cases c49 : t293 < (a0.size : Int)
        · rw [if_pos c49] at H
          have c49b0 : decide (t293 < (a0.size : Int)) = true := decide_eq_true c49
          clear c49
          replace H := Option.bind_eq_some_iff.mp H
          obtain ⟨t296, A500, H⟩ := H
          replace H : (some t296) = some r := H
          have A50 := Aside0.mk A500
          clear A500
          obtain rfl := Option.some.inj H
          go_enter Try.func5, Try.ntmps5
          go_wp2_with (first | (go_at_call 11; (with_reducible refine (lex_Scan.calls k a0 t291 t292 t293 _ A5.out).mono ?_); rintro e w51 ⟨v294, rfl, ho0, hb⟩; have n0_ := Aside0.mk (Kd.R_lower ho0 (below_size (by repeat (first | (with_reducible first | exact HB.out | apply below_alloc | apply pw_below_drewN | apply below_drew1) | exact HB.out)))); have n1_ := Aside0.mk (below_step (by repeat (first | (with_reducible first | exact HB.out | apply below_alloc | apply pw_below_drewN | apply below_drew1) | exact HB.out)) hb); clear HB; have HO295 := n0_; have HB := n1_; clear n0_ n1_; (try clear hb); (try clear hb2); (try clear hk); (try clear hi); (try clear ho0)) | (go_at_call 10; (with_reducible refine (chrysalislaw08_known.calls k  t296 _ A50.out).mono ?_); rintro e w52 ⟨rfl, hb⟩; have n0_ := Aside0.mk (Kd.R_below (by (with_reducible repeat (first | apply Kd.R_alloc | apply Kd.R_drewN | apply Kd.R_drew)); exact HO295.out) hb); have n1_ := Aside0.mk (below_step (by repeat (first | (with_reducible first | exact HB.out | apply below_alloc | apply pw_below_drewN | apply below_drew1) | exact HB.out)) hb); clear HO295; clear HB; have HO295 := n0_; have HB := n1_; clear n0_ n1_; (try clear hb); (try clear hb2); (try clear hk); (try clear hi)))
          repeat (go_quiet (first | (go_at_call 11; (with_reducible refine (lex_Scan.calls k a0 t291 t292 t293 _ A5.out).mono ?_); rintro e w51 ⟨v294, rfl, ho0, hb⟩; have n0_ := Aside0.mk (Kd.R_lower ho0 (below_size (by repeat (first | (with_reducible first | exact HB.out | apply below_alloc | apply pw_below_drewN | apply below_drew1) | exact HB.out)))); have n1_ := Aside0.mk (below_step (by repeat (first | (with_reducible first | exact HB.out | apply below_alloc | apply pw_below_drewN | apply below_drew1) | exact HB.out)) hb); clear HB; have HO295 := n0_; have HB := n1_; clear n0_ n1_; (try clear hb); (try clear hb2); (try clear hk); (try clear hi); (try clear ho0)) | (go_at_call 10; (with_reducible refine (chrysalislaw08_known.calls k  t296 _ A50.out).mono ?_); rintro e w52 ⟨rfl, hb⟩; have n0_ := Aside0.mk (Kd.R_below (by (with_reducible repeat (first | apply Kd.R_alloc | apply Kd.R_drewN | apply Kd.R_drew)); exact HO295.out) hb); have n1_ := Aside0.mk (below_step (by repeat (first | (with_reducible first | exact HB.out | apply below_alloc | apply pw_below_drewN | apply below_drew1) | exact HB.out)) hb); clear HO295; clear HB; have HO295 := n0_; have HB := n1_; clear n0_ n1_; (try clear hb); (try clear hb2); (try clear hk); (try clear hi))); try go_wp2_with (first | (go_at_call 11; (with_reducible refine (lex_Scan.calls k a0 t291 t292 t293 _ A5.out).mono ?_); rintro e w51 ⟨v294, rfl, ho0, hb⟩; have n0_ := Aside0.mk (Kd.R_lower ho0 (below_size (by repeat (first | (with_reducible first | exact HB.out | apply below_alloc | apply pw_below_drewN | apply below_drew1) | exact HB.out)))); have n1_ := Aside0.mk (below_step (by repeat (first | (with_reducible first | exact HB.out | apply below_alloc | apply pw_below_drewN | apply below_drew1) | exact HB.out)) hb); clear HB; have HO295 := n0_; have HB := n1_; clear n0_ n1_; (try clear hb); (try clear hb2); (try clear hk); (try clear hi); (try clear ho0)) | (go_at_call 10; (with_reducible refine (chrysalislaw08_known.calls k  t296 _ A50.out).mono ?_); rintro e w52 ⟨rfl, hb⟩; have n0_ := Aside0.mk (Kd.R_below (by (with_reducible repeat (first | apply Kd.R_alloc | apply Kd.R_drewN | apply Kd.R_drew)); exact HO295.out) hb); have n1_ := Aside0.mk (below_step (by repeat (first | (with_reducible first | exact HB.out | apply below_alloc | apply pw_below_drewN | apply below_drew1) | exact HB.out)) hb); clear HO295; clear HB; have HO295 := n0_; have HB := n1_; clear n0_ n1_; (try clear hb); (try clear hb2); (try clear hk); (try clear hi))))
          go_ret
          exact ⟨by first | rfl | (simp [errW_none, errW_some] <;> rfl) | (simp [*, errW_none, errW_some] <;> rfl), by repeat (first | (with_reducible first | exact HB.out | apply below_alloc | apply pw_below_drewN | apply below_drew1) | exact HB.out)⟩
        · rw [if_neg c49] at H
          have c49b0 : decide (t293 < (a0.size : Int)) = false := decide_eq_false c49
          clear c49
          obtain rfl := Option.some.inj H
          go_enter Try.func5, Try.ntmps5
          go_wp2_with (first | (go_at_call 11; (with_reducible refine (lex_Scan.calls k a0 t291 t292 t293 _ A5.out).mono ?_); rintro e w53 ⟨v294, rfl, ho0, hb⟩; have n0_ := Aside0.mk (Kd.R_lower ho0 (below_size (by repeat (first | (with_reducible first | exact HB.out | apply below_alloc | apply pw_below_drewN | apply below_drew1) | exact HB.out)))); have n1_ := Aside0.mk (below_step (by repeat (first | (with_reducible first | exact HB.out | apply below_alloc | apply pw_below_drewN | apply below_drew1) | exact HB.out)) hb); clear HB; have HO295 := n0_; have HB := n1_; clear n0_ n1_; (try clear hb); (try clear hb2); (try clear hk); (try clear hi); (try clear ho0)))
          repeat (go_quiet (first | (go_at_call 11; (with_reducible refine (lex_Scan.calls k a0 t291 t292 t293 _ A5.out).mono ?_); rintro e w53 ⟨v294, rfl, ho0, hb⟩; have n0_ := Aside0.mk (Kd.R_lower ho0 (below_size (by repeat (first | (with_reducible first | exact HB.out | apply below_alloc | apply pw_below_drewN | apply below_drew1) | exact HB.out)))); have n1_ := Aside0.mk (below_step (by repeat (first | (with_reducible first | exact HB.out | apply below_alloc | apply pw_below_drewN | apply below_drew1) | exact HB.out)) hb); clear HB; have HO295 := n0_; have HB := n1_; clear n0_ n1_; (try clear hb); (try clear hb2); (try clear hk); (try clear hi); (try clear ho0))); try go_wp2_with (first | (go_at_call 11; (with_reducible refine (lex_Scan.calls k a0 t291 t292 t293 _ A5.out).mono ?_); rintro e w53 ⟨v294, rfl, ho0, hb⟩; have n0_ := Aside0.mk (Kd.R_lower ho0 (below_size (by repeat (first | (with_reducible first | exact HB.out | apply below_alloc | apply pw_below_drewN | apply below_drew1) | exact HB.out)))); have n1_ := Aside0.mk (below_step (by repeat (first | (with_reducible first | exact HB.out | apply below_alloc | apply pw_below_drewN | apply below_drew1) | exact HB.out)) hb); clear HB; have HO295 := n0_; have HB := n1_; clear n0_ n1_; (try clear hb); (try clear hb2); (try clear hk); (try clear hi); (try clear ho0))))
          go_ret
          exact ⟨by first | rfl | (simp [errW_none, errW_some] <;> rfl) | (simp [*, errW_none, errW_some] <;> rfl), by repeat (first | (with_reducible first | exact HB.out | apply below_alloc | apply pw_below_drewN | apply below_drew1) | exact HB.out)⟩
      · rw [if_neg c48] at H
        have c48b0 : decide (0 ≤ t293) = false := decide_eq_false c48
        clear c48
        obtain rfl := Option.some.inj H
        go_enter Try.func5, Try.ntmps5
        go_wp2_with (first | (go_at_call 11; (with_reducible refine (lex_Scan.calls k a0 t291 t292 t293 _ A5.out).mono ?_); rintro e w54 ⟨v294, rfl, ho0, hb⟩; have n0_ := Aside0.mk (Kd.R_lower ho0 (below_size (by repeat (first | (with_reducible first | exact HB.out | apply below_alloc | apply pw_below_drewN | apply below_drew1) | exact HB.out)))); have n1_ := Aside0.mk (below_step (by repeat (first | (with_reducible first | exact HB.out | apply below_alloc | apply pw_below_drewN | apply below_drew1) | exact HB.out)) hb); clear HB; have HO295 := n0_; have HB := n1_; clear n0_ n1_; (try clear hb); (try clear hb2); (try clear hk); (try clear hi); (try clear ho0)))
        repeat (go_quiet (first | (go_at_call 11; (with_reducible refine (lex_Scan.calls k a0 t291 t292 t293 _ A5.out).mono ?_); rintro e w54 ⟨v294, rfl, ho0, hb⟩; have n0_ := Aside0.mk (Kd.R_lower ho0 (below_size (by repeat (first | (with_reducible first | exact HB.out | apply below_alloc | apply pw_below_drewN | apply below_drew1) | exact HB.out)))); have n1_ := Aside0.mk (below_step (by repeat (first | (with_reducible first | exact HB.out | apply below_alloc | apply pw_below_drewN | apply below_drew1) | exact HB.out)) hb); clear HB; have HO295 := n0_; have HB := n1_; clear n0_ n1_; (try clear hb); (try clear hb2); (try clear hk); (try clear hi); (try clear ho0))); try go_wp2_with (first | (go_at_call 11; (with_reducible refine (lex_Scan.calls k a0 t291 t292 t293 _ A5.out).mono ?_); rintro e w54 ⟨v294, rfl, ho0, hb⟩; have n0_ := Aside0.mk (Kd.R_lower ho0 (below_size (by repeat (first | (with_reducible first | exact HB.out | apply below_alloc | apply pw_below_drewN | apply below_drew1) | exact HB.out)))); have n1_ := Aside0.mk (below_step (by repeat (first | (with_reducible first | exact HB.out | apply below_alloc | apply pw_below_drewN | apply below_drew1) | exact HB.out)) hb); clear HB; have HO295 := n0_; have HB := n1_; clear n0_ n1_; (try clear hb); (try clear hb2); (try clear hk); (try clear hi); (try clear ho0))))
        go_ret
        exact ⟨by first | rfl | (simp [errW_none, errW_some] <;> rfl) | (simp [*, errW_none, errW_some] <;> rfl), by repeat (first | (with_reducible first | exact HB.out | apply below_alloc | apply pw_below_drewN | apply below_drew1) | exact HB.out)⟩

/-- THE ONE PURE STATEMENT of chrysalislaw08_LexPlaces: yours. -/
def chrysalislaw08_LexPlaces.Pure : Prop := ∀ (a0 : ByteArray), a0.size ≤ 140737488351232 → ∃ k, chrysalislaw08_LexPlaces.f k a0 = some true
theorem chrysalislaw08_LexPlaces.walk (P : chrysalislaw08_LexPlaces.Pure) (a0 : ByteArray) (w : World) (w0 : a0.size ≤ 140737488351232) :
    Calls Try.prog 5 #[.string a0] w fun e w' => e = .returned (.bool true) ∧ Below w.heap.size w w' := by
  obtain ⟨k, h⟩ := P a0 w0
  refine (chrysalislaw08_LexPlaces.calls k a0 true w h).mono ?_
  rintro e w' ⟨rfl, hd⟩
  exact ⟨rfl, hd⟩

end Go.Proofs.Ytkcnpnkcahgniaa.Q
