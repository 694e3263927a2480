/- Walks over functions of the program, words for them, and what the functions come to; of each text only what this claim uses; no condition. -/
import Derived.Test.YtclhaajlgmiilaaZC3

section
namespace Go.Proofs.Ytclhaajlgmiilaa.Q
open Go.RowKit Go.Proofs.YtclhaajlgmiilaaW.PrintWords Go.Proofs.YtclhaajlgmiilaaW.PrintLast Go.Proofs.YtclhaajlgmiilaaW.PrintMore
attribute [local go_sem] max2_int min2_int max_two min_two max_three min_three max_four min_four
set_option linter.unusedVariables false
set_option linter.unusedSimpArgs false

/-! ### chrysalisref09_Expr: function 24 -/
def chrysalisref09_Expr.f (a0 : Int) : Option (Bool) := if a0 ≥ 18 then (some (decide (a0 ≤ 30))) else (some false)
set_option maxHeartbeats 8000000 in
set_option maxRecDepth 100000 in
theorem chrysalisref09_Expr.calls (a0 : Int) (r : Bool) (w : World) (h : chrysalisref09_Expr.f a0 = some r) :
    Calls Try.prog 24 #[.int .i64 a0] w fun e w' => e = .returned (.bool r) ∧ Drawn0 w w' := by
  have H : (if a0 ≥ 18 then (some (decide (a0 ≤ 30))) else (some false)) = some r := h
  clear h
  by_cases c2 : a0 ≥ 18
  · rw [if_pos c2] at H
    have c2b0 : decide (18 ≤ a0) = true := decide_eq_true c2
    clear c2
    obtain rfl := Option.some.inj H
    go_enter Try.func24, Try.ntmps24
    go_wp2
    go_ret
    exact ⟨by first | rfl | (simp; done) | (simp [*]; done), by repeat (first | exact Drawn0.refl _ | apply Drawn0.step)⟩
  · rw [if_neg c2] at H
    have c2b0 : decide (18 ≤ a0) = false := decide_eq_false c2
    clear c2
    obtain rfl := Option.some.inj H
    go_enter Try.func24, Try.ntmps24
    go_wp2
    go_ret
    exact ⟨by first | rfl | (simp; done) | (simp [*]; done), by repeat (first | exact Drawn0.refl _ | apply Drawn0.step)⟩

/-! ### chrysalisref09_Stmt: function 26 -/
def chrysalisref09_Stmt.f (a0 : Int) : Option (Bool) := if a0 ≥ 6 then (some (decide (a0 ≤ 17))) else (some false)
set_option maxHeartbeats 8000000 in
set_option maxRecDepth 100000 in
theorem chrysalisref09_Stmt.calls (a0 : Int) (r : Bool) (w : World) (h : chrysalisref09_Stmt.f a0 = some r) :
    Calls Try.prog 26 #[.int .i64 a0] w fun e w' => e = .returned (.bool r) ∧ Drawn0 w w' := by
  have H : (if a0 ≥ 6 then (some (decide (a0 ≤ 17))) else (some false)) = some r := h
  clear h
  by_cases c2 : a0 ≥ 6
  · rw [if_pos c2] at H
    have c2b0 : decide (6 ≤ a0) = true := decide_eq_true c2
    clear c2
    obtain rfl := Option.some.inj H
    go_enter Try.func26, Try.ntmps26
    go_wp2
    go_ret
    exact ⟨by first | rfl | (simp; done) | (simp [*]; done), by repeat (first | exact Drawn0.refl _ | apply Drawn0.step)⟩
  · rw [if_neg c2] at H
    have c2b0 : decide (6 ≤ a0) = false := decide_eq_false c2
    clear c2
    obtain rfl := Option.some.inj H
    go_enter Try.func26, Try.ntmps26
    go_wp2
    go_ret
    exact ⟨by first | rfl | (simp; done) | (simp [*]; done), by repeat (first | exact Drawn0.refl _ | apply Drawn0.step)⟩

end Go.Proofs.Ytclhaajlgmiilaa.Q
end
section
namespace Go.Proofs.Ytclhaajlgmiilaa.Q
open Go.RowKit Go.Proofs.YtclhaajlgmiilaaW.PrintWords Go.Proofs.YtclhaajlgmiilaaW.PrintLast Go.Proofs.YtclhaajlgmiilaaW.PrintMore
attribute [local go_sem] max2_int min2_int max_two min_two max_three min_three max_four min_four
set_option linter.unusedVariables false
set_option linter.unusedSimpArgs false

/-! ### chrysalisref09_function: function 44 -/
mutual
def chrysalisref09_function.j0 : Nat → List Int → Int → Bool → Option (Bool)
  | 0, _, _, _ => none
  | k + 1, x0, x3, x20 => if x20 = true then (some false) else (chrysalisref09_function.l0 k x0 x3 0)
def chrysalisref09_function.l0 : Nat → List Int → Int → Int → Option (Bool)
  | 0, _, _, _ => none
  | k + 1, x0, x3, x4 => if x4 < (wrap64 (x3 - 1)) then (if 0 ≤ x4 then (if x4 < (x0.length : Int) then (if (rd x0 x4) = 4 then (chrysalisref09_function.l0 k x0 x3 (wrap64 (x4 + 1))) else (some false)) else (none)) else (none)) else (some true)
end
def chrysalisref09_function.f (k : Nat) (l0 : List Int) : Option (Bool) := if (l0.length : Int) < 1 then (chrysalisref09_function.j0 k l0 (l0.length : Int) true) else (if (l0.length : Int) > 9 then (chrysalisref09_function.j0 k l0 (l0.length : Int) true) else (if 0 ≤ (wrap64 ((l0.length : Int) - 1)) then (if (wrap64 ((l0.length : Int) - 1)) < (l0.length : Int) then (chrysalisref09_function.j0 k l0 (l0.length : Int) ((rd l0 (wrap64 ((l0.length : Int) - 1))) != 5)) else (none)) else (none)))
theorem chrysalisref09_function.mono_l : ∀ k, (∀ y0 y1 y2, LeO (chrysalisref09_function.j0 k y0 y1 y2) (chrysalisref09_function.j0 (k + 1) y0 y1 y2)) ∧ (∀ y0 y1 y2, LeO (chrysalisref09_function.l0 k y0 y1 y2) (chrysalisref09_function.l0 (k + 1) y0 y1 y2))
  | 0 => ⟨fun _ _ _ r h => by simp [chrysalisref09_function.j0] at h, fun _ _ _ r h => by simp [chrysalisref09_function.l0] at h⟩
  | k + 1 => by
    obtain ⟨ih0, ih1⟩ := chrysalisref09_function.mono_l k
    refine ⟨?_, ?_⟩
    · intro y0 y1 y2
      unfold chrysalisref09_function.j0
      repeat' first
      | (with_reducible exact ih0 _ _ _)
      | (with_reducible exact ih1 _ _ _)
      | (with_reducible exact LeO.refl _)
      | (with_reducible exact LeO.none _)
      | (with_reducible refine LeO.ite ?_ ?_)
      | (with_reducible refine LeO.bind ?_ (fun _ => ?_))
      | exact ih0 _ _ _
      | exact ih1 _ _ _
      | exact LeO.none _
      | refine LeO.ite ?_ ?_
      | refine LeO.bind ?_ (fun _ => ?_)
    · intro y0 y1 y2
      unfold chrysalisref09_function.l0
      repeat' first
      | (with_reducible exact ih0 _ _ _)
      | (with_reducible exact ih1 _ _ _)
      | (with_reducible exact LeO.refl _)
      | (with_reducible exact LeO.none _)
      | (with_reducible refine LeO.ite ?_ ?_)
      | (with_reducible refine LeO.bind ?_ (fun _ => ?_))
      | exact ih0 _ _ _
      | exact ih1 _ _ _
      | exact LeO.none _
      | refine LeO.ite ?_ ?_
      | refine LeO.bind ?_ (fun _ => ?_)
theorem chrysalisref09_function.mono : ∀ a0 k, LeO (chrysalisref09_function.f k a0) (chrysalisref09_function.f (k + 1) a0) := by
  intro a0 k
  obtain ⟨ih0, ih1⟩ := chrysalisref09_function.mono_l k
  unfold chrysalisref09_function.f
  repeat' first
      | (with_reducible exact ih0 _ _ _)
      | (with_reducible exact ih1 _ _ _)
      | (with_reducible exact LeO.refl _)
      | (with_reducible exact LeO.none _)
      | (with_reducible refine LeO.ite ?_ ?_)
      | (with_reducible refine LeO.bind ?_ (fun _ => ?_))
      | exact ih0 _ _ _
      | exact ih1 _ _ _
      | exact LeO.none _
      | refine LeO.ite ?_ ?_
      | refine LeO.bind ?_ (fun _ => ?_)
set_option maxHeartbeats 8000000 in
set_option maxRecDepth 100000 in
theorem chrysalisref09_function.calls (k : Nat) (A0 : Option Addr) (c0 : Nat) (l0 : List Int) (r : Bool) (w : World) (hr0 : Kd.C (Kd.int .i64) w A0 l0.length l0) (hc0 : l0.length ≤ c0) (h : chrysalisref09_function.f k l0 = some r) :
    Calls Try.prog 44 #[.slice A0 l0.length c0] w fun e w' => e = .returned (.bool r) ∧ Drawn0 w w' := by
  have HR0 := Aside0.mk hr0
  have HC0 := Aside0.mk hc0
  clear hr0 hc0
  have H : (if (l0.length : Int) < 1 then (chrysalisref09_function.j0 k l0 (l0.length : Int) true) else (if (l0.length : Int) > 9 then (chrysalisref09_function.j0 k l0 (l0.length : Int) true) else (if 0 ≤ (wrap64 ((l0.length : Int) - 1)) then (if (wrap64 ((l0.length : Int) - 1)) < (l0.length : Int) then (chrysalisref09_function.j0 k l0 (l0.length : Int) ((rd l0 (wrap64 ((l0.length : Int) - 1))) != 5)) else (none)) else (none)))) = some r := h
  clear h
  have HC2 := Aside0.mk H
  clear H
  go_enter Try.func44, Try.ntmps44
  go_upto_region 2 with (fail)
  go_cut [20] (fun v20 wc => ∃ (kq : Nat) (x20_1 : Bool), v20 = .bool x20_1 ∧ Aside0 (chrysalisref09_function.j0 kq l0 (l0.length : Int) x20_1 = some r) ∧ Aside0 (kq ≤ k) ∧ Drawn0 w wc)
  case first =>
    have H := HC2.out
    clear HC2
    by_cases c3 : (l0.length : Int) < 1
    · rw [if_pos c3] at H
      have c3b0 : decide ((l0.length : Int) < 1) = true := decide_eq_true c3
      have c3b1 : decide (l0.length < 1) = true := decide_eq_true (by omega)
      clear c3
      (first | rw [c3b0] | (simp only [i64_w, i32_w]; rw [c3b0]) | skip)
      have H' := Aside0.mk H
      clear H
      go_wp2
      go_meet
      case rel => exact ⟨_, (true), (by first | rfl | (simp; done) | (simp [*]; done)), H', ⟨by first | omega | exact Nat.le_refl _⟩, by repeat (first | exact Drawn0.refl _ | apply Drawn0.step)⟩
    · rw [if_neg c3] at H
      have c3b0 : decide ((l0.length : Int) < 1) = false := decide_eq_false c3
      have c3b1 : decide (l0.length < 1) = false := decide_eq_false (by omega)
      clear c3
      (first | rw [c3b0] | (simp only [i64_w, i32_w]; rw [c3b0]) | skip)
      by_cases c4 : (l0.length : Int) > 9
      · rw [if_pos c4] at H
        have c4b0 : decide (9 < (l0.length : Int)) = true := decide_eq_true c4
        have c4b1 : decide (9 < l0.length) = true := decide_eq_true (by omega)
        clear c4
        have H' := Aside0.mk H
        clear H
        go_wp2
        go_meet
        case rel => exact ⟨_, (true), (by first | rfl | (simp; done) | (simp [*]; done)), H', ⟨by first | omega | exact Nat.le_refl _⟩, by repeat (first | exact Drawn0.refl _ | apply Drawn0.step)⟩
      · rw [if_neg c4] at H
        have c4b0 : decide (9 < (l0.length : Int)) = false := decide_eq_false c4
        have c4b1 : decide (9 < l0.length) = false := decide_eq_false (by omega)
        clear c4
        obtain ⟨ji5, hji5⟩ : ∃ j_ : Int, (wrap64 ((l0.length : Int) - 1)) = j_ := ⟨_, rfl⟩
        replace H : (if 0 ≤ (ji5) then (if (ji5) < (l0.length : Int) then (chrysalisref09_function.j0 k l0 (l0.length : Int) ((rd l0 (ji5)) != 5)) else (none)) else (none)) = some r := by first | (rw [hji5] at H; exact H) | (simp only [hji5] at H ⊢; exact H)
        have hji5w : (IntKind.i64.wrap ((l0.length : Int) - 1)) = ji5 := (i64_w _).trans hji5
        by_cases c6 : 0 ≤ (ji5)
        · rw [if_pos c6] at H
          have c6b0 : decide (0 ≤ (ji5)) = true := decide_eq_true c6
          clear c6
          by_cases c7 : (ji5) < (l0.length : Int)
          · rw [if_pos c7] at H
            have c7b0 : decide ((ji5) < (l0.length : Int)) = true := decide_eq_true c7
            clear c7
            have H' := Aside0.mk H
            clear H
            have p266 : 0 ≤ ((ji5) : Int) := of_decide_eq_true (by first | (with_reducible assumption) | assumption)
            have q266 : (ji5) < (l0.length : Int) := of_decide_eq_true (by first | (with_reducible assumption) | assumption)
            obtain ⟨ad266, e266, hx266_0⟩ := Kd.at_int HR0.out (ji5) p266 q266
            cases e266
            replace p266 := eq_true p266
            replace q266 := eq_true q266
            go_wp2
            go_meet
            case rel => exact ⟨_, (((rd l0 (ji5)) != 5)), (by first | rfl | (simp; done) | (simp only [← hji5] <;> (first | rfl | simp)) | (simp [*]; done)), H', ⟨by first | omega | exact Nat.le_refl _⟩, by repeat (first | exact Drawn0.refl _ | apply Drawn0.step)⟩
          · rw [if_neg c7] at H
            exact absurd H (by simp)
        · rw [if_neg c6] at H
          exact absurd H (by simp)
  case rest =>
    clear HC2
    try clear p2
    try clear q2
    try clear hx2
    try clear c3
    try clear c3b0
    try clear c3b1
    try clear c4
    try clear c4b0
    try clear c4b1
    try clear c6
    try clear c6b0
    try clear p6
    try clear c7
    try clear c7b0
    try clear hx266_0
    try clear p266
    try clear q266
    obtain ⟨kq, x20_1, rfl, HA, HJ1, ⟨mc1, rfl⟩⟩ := hcut
    cases kq with
    | zero => exact absurd HA.out (by simp [chrysalisref09_function.j0])
    | succ kj1 =>
      have H := HA.out
      clear HA
      simp only [chrysalisref09_function.j0] at H
      by_cases c8 : x20_1 = true
      · subst c8
        have H1 : (some false) = some r := by rw [if_pos rfl] at H; exact H
        clear H
        have H := H1
        clear H1
        obtain rfl := Option.some.inj H
        go_wp2
        go_ret
        exact ⟨by first | rfl | (simp; done) | (simp [*]; done), by repeat (first | exact Drawn0.refl _ | apply Drawn0.step)⟩
      · replace c8 := Bool.eq_false_iff.mpr c8
        subst c8
        have H1 : (chrysalisref09_function.l0 kj1 l0 (l0.length : Int) 0) = some r := by rw [if_neg (show ¬ (false = true) by decide)] at H; exact H
        clear H
        have H := H1
        clear H1
        have H' := Aside0.mk H
        clear H
        go_wp2
        go_loopg [4] kj1 (fun kq v4 w' => ∃ (x4_2 : Int), v4 = .int .i64 x4_2 ∧ Aside0 (chrysalisref09_function.l0 kq l0 (l0.length : Int) x4_2 = some r) ∧ Aside0 (kq ≤ kj1) ∧ Drawn0 w w')
        case atStart => exact ⟨(0), (by first | rfl | (simp; done) | (simp [*]; done)), H', ⟨Nat.le_refl _⟩, by repeat (first | exact Drawn0.refl _ | apply Drawn0.step)⟩
        case round =>
          clear H'
          try clear c1
          try clear p2
          try clear q2
          try clear hx2
          try clear c3
          try clear c3b0
          try clear c3b1
          try clear c4
          try clear c4b0
          try clear c4b1
          try clear c6
          try clear c6b0
          try clear p6
          try clear c7
          try clear c7b0
          try clear c8
          try clear hx266_0
          try clear p2
          try clear p266
          try clear p6
          try clear q2
          try clear q266
          obtain ⟨x4_2, rfl, HA, HK2, ⟨m2, rfl⟩⟩ := hrel
          cases gk with
          | zero => exact absurd HA.out (by simp [chrysalisref09_function.l0])
          | succ k2 =>
            have H := HA.out
            clear HA
            simp only [chrysalisref09_function.l0] at H
            by_cases c9 : x4_2 < (wrap64 ((l0.length : Int) - 1))
            · rw [if_pos c9] at H
              have c9b0 : decide (x4_2 < (wrap64 ((l0.length : Int) - 1))) = true := decide_eq_true c9
              clear c9
              by_cases c10 : 0 ≤ x4_2
              · rw [if_pos c10] at H
                have c10b0 : decide (0 ≤ x4_2) = true := decide_eq_true c10
                clear c10
                by_cases c11 : x4_2 < (l0.length : Int)
                · rw [if_pos c11] at H
                  have c11b0 : decide (x4_2 < (l0.length : Int)) = true := decide_eq_true c11
                  clear c11
                  by_cases c12 : (rd l0 x4_2) = 4
                  · rw [if_pos c12] at H
                    have c12b0 : ((rd l0 x4_2) == 4) = true := beq_iff_eq.mpr c12
                    have c12b1 : ((rd l0 x4_2) != 4) = false := bne_eq_false_iff_eq.mpr c12
                    clear c12
                    have H' := Aside0.mk H
                    clear H
                    have p267 : 0 ≤ (x4_2 : Int) := of_decide_eq_true (by first | (with_reducible assumption) | assumption)
                    have q267 : x4_2 < (l0.length : Int) := of_decide_eq_true (by first | (with_reducible assumption) | assumption)
                    obtain ⟨ad267, e267, hx267_0⟩ := Kd.at_int HR0.out x4_2 p267 q267
                    cases e267
                    replace p267 := eq_true p267
                    replace q267 := eq_true q267
                    go_wp2
                    go_roundg k2
                    case measure => have := HJ1.out; have := HK2.out; omega
                    case rel => exact ⟨(wrap64 (x4_2 + 1)), (by first | rfl | (simp; done) | (simp [*]; done)), H', ⟨by have := HJ1.out; have := HK2.out; omega⟩, by repeat (first | exact Drawn0.refl _ | apply Drawn0.step)⟩
                  · rw [if_neg c12] at H
                    have c12b0 : ((rd l0 x4_2) == 4) = false := beq_eq_false_iff_ne.mpr c12
                    have c12b1 : ((rd l0 x4_2) != 4) = true := bne_iff_ne.mpr c12
                    obtain rfl := Option.some.inj H
                    have p267 : 0 ≤ (x4_2 : Int) := of_decide_eq_true (by first | (with_reducible assumption) | assumption)
                    have q267 : x4_2 < (l0.length : Int) := of_decide_eq_true (by first | (with_reducible assumption) | assumption)
                    obtain ⟨ad267, e267, hx267_0⟩ := Kd.at_int HR0.out x4_2 p267 q267
                    cases e267
                    replace p267 := eq_true p267
                    replace q267 := eq_true q267
                    go_wp2
                    go_ret
                    exact ⟨by first | rfl | (simp; done) | (simp [*]; done), by repeat (first | exact Drawn0.refl _ | apply Drawn0.step)⟩
                · rw [if_neg c11] at H
                  exact absurd H (by simp)
              · rw [if_neg c10] at H
                exact absurd H (by simp)
            · rw [if_neg c9] at H
              have c9b0 : decide (x4_2 < (wrap64 ((l0.length : Int) - 1))) = false := decide_eq_false c9
              clear c9
              obtain rfl := Option.some.inj H
              go_wp2
              go_ret
              exact ⟨by first | rfl | (simp; done) | (simp [*]; done), by repeat (first | exact Drawn0.refl _ | apply Drawn0.step)⟩

end Go.Proofs.Ytclhaajlgmiilaa.Q
end
section
namespace Go.Proofs.Ytclhaajlgmiilaa.Q
open Go.RowKit Go.Proofs.YtclhaajlgmiilaaW.PrintWords Go.Proofs.YtclhaajlgmiilaaW.PrintLast Go.Proofs.YtclhaajlgmiilaaW.PrintMore
attribute [local go_sem] max2_int min2_int max_two min_two max_three min_three max_four min_four
set_option linter.unusedVariables false
set_option linter.unusedSimpArgs false

/-! ### chrysalisref09_exprs: function 45 -/
def chrysalisref09_exprs.l0 : Nat → List Int → Int → Int → Int → Option (Bool)
  | 0, _, _, _, _ => none
  | k + 1, x0, x1, x2, x7 => if x7 < (x0.length : Int) then (if 0 ≤ x7 then ((chrysalisref09_Expr.f (rd x0 x7)).bind fun t269 => (if t269 = true then (chrysalisref09_exprs.l0 k x0 x1 x2 (wrap64 (x7 + 1))) else (some false))) else (none)) else (if (x0.length : Int) ≥ x1 then (some (decide ((x0.length : Int) ≤ x2))) else (some false))
def chrysalisref09_exprs.f (k : Nat) (l0 : List Int) (a1 : Int) (a2 : Int) : Option (Bool) := chrysalisref09_exprs.l0 k l0 a1 a2 0
theorem chrysalisref09_exprs.mono_l : ∀ k, (∀ y0 y1 y2 y3, LeO (chrysalisref09_exprs.l0 k y0 y1 y2 y3) (chrysalisref09_exprs.l0 (k + 1) y0 y1 y2 y3))
  | 0 => fun _ _ _ _ r h => by simp [chrysalisref09_exprs.l0] at h
  | k + 1 => by
    have ih0 := chrysalisref09_exprs.mono_l k
    · intro y0 y1 y2 y3
      unfold chrysalisref09_exprs.l0
      repeat' first
      | (with_reducible exact ih0 _ _ _ _)
      | (with_reducible exact LeO.refl _)
      | (with_reducible exact LeO.none _)
      | (with_reducible refine LeO.ite ?_ ?_)
      | (with_reducible refine LeO.bind ?_ (fun _ => ?_))
      | exact ih0 _ _ _ _
      | exact LeO.none _
      | refine LeO.ite ?_ ?_
      | refine LeO.bind ?_ (fun _ => ?_)
theorem chrysalisref09_exprs.mono : ∀ a0 a1 a2 k, LeO (chrysalisref09_exprs.f k a0 a1 a2) (chrysalisref09_exprs.f (k + 1) a0 a1 a2) := by
  intro a0 a1 a2 k
  have ih0 := chrysalisref09_exprs.mono_l k
  unfold chrysalisref09_exprs.f
  repeat' first
      | (with_reducible exact ih0 _ _ _ _)
      | (with_reducible exact LeO.refl _)
      | (with_reducible exact LeO.none _)
      | (with_reducible refine LeO.ite ?_ ?_)
      | (with_reducible refine LeO.bind ?_ (fun _ => ?_))
      | exact ih0 _ _ _ _
      | exact LeO.none _
      | refine LeO.ite ?_ ?_
      | refine LeO.bind ?_ (fun _ => ?_)
set_option maxHeartbeats 8000000 in
set_option maxRecDepth 100000 in
theorem chrysalisref09_exprs.calls (k : Nat) (A0 : Option Addr) (c0 : Nat) (l0 : List Int) (a1 : Int) (a2 : Int) (r : Bool) (w : World) (hr0 : Kd.C (Kd.int .i64) w A0 l0.length l0) (hc0 : l0.length ≤ c0) (h : chrysalisref09_exprs.f k l0 a1 a2 = some r) :
    Calls Try.prog 45 #[.slice A0 l0.length c0, .int .i64 a1, .int .i64 a2] w fun e w' => e = .returned (.bool r) ∧ Drawn0 w w' := by
  have HR0 := Aside0.mk hr0
  have HC0 := Aside0.mk hc0
  clear hr0 hc0
  have H : (chrysalisref09_exprs.l0 k l0 a1 a2 0) = some r := h
  clear h
  have H' := Aside0.mk H
  clear H
  go_enter Try.func45, Try.ntmps45
  go_wp2
  go_loopg [7] k (fun kq v7 w' => ∃ (x7_1 : Int), v7 = .int .i64 x7_1 ∧ Aside0 (chrysalisref09_exprs.l0 kq l0 a1 a2 x7_1 = some r) ∧ Aside0 (kq ≤ k) ∧ Drawn0 w w')
  case atStart => exact ⟨(0), (by first | rfl | (simp; done) | (simp [*]; done)), H', ⟨Nat.le_refl _⟩, by repeat (first | exact Drawn0.refl _ | apply Drawn0.step)⟩
  case round =>
    clear H'
    try clear p2
    obtain ⟨x7_1, rfl, HA, HK1, ⟨m1, rfl⟩⟩ := hrel
    cases gk with
    | zero => exact absurd HA.out (by simp [chrysalisref09_exprs.l0])
    | succ k1 =>
      have H := HA.out
      clear HA
      simp only [chrysalisref09_exprs.l0] at H
      by_cases c4 : x7_1 < (l0.length : Int)
      · rw [if_pos c4] at H
        have c4b0 : decide (x7_1 < (l0.length : Int)) = true := decide_eq_true c4
        clear c4
        by_cases c5 : 0 ≤ x7_1
        · rw [if_pos c5] at H
          have c5b0 : decide (0 ≤ x7_1) = true := decide_eq_true c5
          clear c5
          replace H := Option.bind_eq_some_iff.mp H
          obtain ⟨t269, A60, H⟩ := H
          replace H : (if t269 = true then (chrysalisref09_exprs.l0 k1 l0 a1 a2 (wrap64 (x7_1 + 1))) else (some false)) = some r := H
          have A6 := Aside0.mk A60
          clear A60
          by_cases c7 : t269 = true
          · subst c7
            have H1 : (chrysalisref09_exprs.l0 k1 l0 a1 a2 (wrap64 (x7_1 + 1))) = some r := by rw [if_pos rfl] at H; exact H
            clear H
            have H := H1
            clear H1
            have H' := Aside0.mk H
            clear H
            have p268 : 0 ≤ (x7_1 : Int) := of_decide_eq_true (by first | (with_reducible assumption) | assumption)
            have q268 : x7_1 < (l0.length : Int) := of_decide_eq_true (by first | (with_reducible assumption) | assumption)
            obtain ⟨ad268, e268, hx268_0⟩ := Kd.at_int HR0.out x7_1 p268 q268
            cases e268
            replace p268 := eq_true p268
            replace q268 := eq_true q268
            go_wp2_with (first | ((with_reducible refine gate_callee (f := 24) rfl ?_); refine goesL_ (some 18) rfl rfl Try.func24 (by kernel_rfl) rfl #[.int .i64 (rd l0 x7_1)] rfl (by (try simp only [List.map_toArray, List.map_cons, List.map_nil]); first | done | rfl | (simp only [List.length_drop, List.length_take]; rfl)) ?_; (with_reducible refine (chrysalisref09_Expr.calls (rd l0 x7_1) true _ A6.out).mono ?_); rintro e w' ⟨rfl, ⟨nd, rfl⟩⟩; refine ⟨_, rfl, ?_⟩))
            go_roundg k1
            case measure => have := HK1.out; omega
            case rel => exact ⟨(wrap64 (x7_1 + 1)), (by first | rfl | (simp; done) | (simp [*]; done)), H', ⟨by have := HK1.out; omega⟩, by repeat (first | exact Drawn0.refl _ | apply Drawn0.step)⟩
          · replace c7 := Bool.eq_false_iff.mpr c7
            subst c7
            have H1 : (some false) = some r := by rw [if_neg (show ¬ (false = true) by decide)] at H; exact H
            clear H
            have H := H1
            clear H1
            obtain rfl := Option.some.inj H
            have p268 : 0 ≤ (x7_1 : Int) := of_decide_eq_true (by first | (with_reducible assumption) | assumption)
            have q268 : x7_1 < (l0.length : Int) := of_decide_eq_true (by first | (with_reducible assumption) | assumption)
            obtain ⟨ad268, e268, hx268_0⟩ := Kd.at_int HR0.out x7_1 p268 q268
            cases e268
            replace p268 := eq_true p268
            replace q268 := eq_true q268
            go_wp2_with (first | ((with_reducible refine gate_callee (f := 24) rfl ?_); refine goesL_ (some 18) rfl rfl Try.func24 (by kernel_rfl) rfl #[.int .i64 (rd l0 x7_1)] rfl (by (try simp only [List.map_toArray, List.map_cons, List.map_nil]); first | done | rfl | (simp only [List.length_drop, List.length_take]; rfl)) ?_; (with_reducible refine (chrysalisref09_Expr.calls (rd l0 x7_1) false _ A6.out).mono ?_); rintro e w' ⟨rfl, ⟨nd, rfl⟩⟩; refine ⟨_, rfl, ?_⟩))
            go_ret
            exact ⟨by first | rfl | (simp; done) | (simp [*]; done), by repeat (first | exact Drawn0.refl _ | apply Drawn0.step)⟩
        · rw [if_neg c5] at H
          exact absurd H (by simp)
      · rw [if_neg c4] at H
        have c4b0 : decide (x7_1 < (l0.length : Int)) = false := decide_eq_false c4
        clear c4
        by_cases c8 : (l0.length : Int) ≥ a1
        · rw [if_pos c8] at H
          have c8b0 : decide (a1 ≤ (l0.length : Int)) = true := decide_eq_true c8
          clear c8
          obtain rfl := Option.some.inj H
          go_wp2
          go_ret
          exact ⟨by first | rfl | (simp; done) | (simp [*]; done), by repeat (first | exact Drawn0.refl _ | apply Drawn0.step)⟩
        · rw [if_neg c8] at H
          have c8b0 : decide (a1 ≤ (l0.length : Int)) = false := decide_eq_false c8
          clear c8
          obtain rfl := Option.some.inj H
          go_wp2
          go_ret
          exact ⟨by first | rfl | (simp; done) | (simp [*]; done), by repeat (first | exact Drawn0.refl _ | apply Drawn0.step)⟩

end Go.Proofs.Ytclhaajlgmiilaa.Q
end
section
namespace Go.Proofs.Ytclhaajlgmiilaa.Q
open Go.RowKit Go.Proofs.YtclhaajlgmiilaaW.PrintWords Go.Proofs.YtclhaajlgmiilaaW.PrintLast Go.Proofs.YtclhaajlgmiilaaW.PrintMore
attribute [local go_sem] max2_int min2_int max_two min_two max_three min_three max_four min_four
set_option linter.unusedVariables false
set_option linter.unusedSimpArgs false

/-! ### chrysalisref09_kids: function 31 -/
mutual
def chrysalisref09_kids.l0 : Nat → List Int → Int → Int → Option (Bool)
  | 0, _, _, _ => none
  | k + 1, x1, x5, x6 => if x6 < x5 then (if 0 ≤ x6 then (if x6 < (x1.length : Int) then (if (rd x1 x6) = 2 then (if x6 > 0 then (if 0 ≤ (wrap64 (x6 - 1)) then (if (wrap64 (x6 - 1)) < (x1.length : Int) then (if (rd x1 (wrap64 (x6 - 1))) = 3 then (some false) else (chrysalisref09_kids.l0 k x1 x5 (wrap64 (x6 + 1)))) else (none)) else (none)) else (chrysalisref09_kids.l0 k x1 x5 (wrap64 (x6 + 1)))) else (if (rd x1 x6) = 3 then (if x6 > 0 then (chrysalisref09_kids.l0 k x1 x5 (wrap64 (x6 + 1))) else (chrysalisref09_kids.l0 k x1 x5 (wrap64 (x6 + 1)))) else (some false))) else (none)) else (none)) else (some true)
def chrysalisref09_kids.j1 : Nat → List Int → Int → Int → Bool → Option (Bool)
  | 0, _, _, _, _ => none
  | k + 1, x1, x5, x10, x49 => if x49 = true then ((chrysalisref09_function.f k x1).bind fun t275 => (some t275)) else (if x10 = 5 then (chrysalisref09_kids.l1 k x1 x5 0) else (if x10 = 8 then ((chrysalisref09_exprs.f k x1 3 3).bind fun t278 => (some t278)) else (if x10 = 9 then (if x5 = 2 then (if 0 < (x1.length : Int) then ((chrysalisref09_Expr.f (rd x1 0)).bind fun t280 => (if t280 = true then (if 1 < (x1.length : Int) then (some ((rd x1 1) == 5)) else (none)) else (some false))) else (none)) else (if x5 = 3 then (if 2 < (x1.length : Int) then (if (rd x1 2) = 5 then (if 0 < (x1.length : Int) then ((chrysalisref09_Expr.f (rd x1 0)).bind fun t284 => (if t284 = true then (if 1 < (x1.length : Int) then (some ((rd x1 1) == 5)) else (none)) else (some false))) else (none)) else (some false)) else (none)) else (some false))) else (if x10 = 10 then (if x5 = 2 then (if 0 < (x1.length : Int) then ((chrysalisref09_Expr.f (rd x1 0)).bind fun t287 => (if t287 = true then (if 1 < (x1.length : Int) then (some ((rd x1 1) == 5)) else (none)) else (some false))) else (none)) else (some false)) else (if x10 = 6 then (chrysalisref09_kids.j3 k x1 x5 x10 (x10 == 6)) else (if x10 = 7 then (chrysalisref09_kids.j3 k x1 x5 x10 (x10 == 7)) else (if x10 = 13 then (chrysalisref09_kids.j3 k x1 x5 x10 (x10 == 13)) else (if x10 = 14 then (chrysalisref09_kids.j3 k x1 x5 x10 (x10 == 14)) else (if x10 = 15 then (chrysalisref09_kids.j3 k x1 x5 x10 (x10 == 15)) else (if x10 = 17 then (chrysalisref09_kids.j3 k x1 x5 x10 (x10 == 17)) else (if x10 = 28 then (chrysalisref09_kids.j3 k x1 x5 x10 (x10 == 28)) else (chrysalisref09_kids.j3 k x1 x5 x10 (x10 == 30)))))))))))))
def chrysalisref09_kids.l1 : Nat → List Int → Int → Int → Option (Bool)
  | 0, _, _, _ => none
  | k + 1, x1, x5, x7 => if x7 < x5 then (if 0 ≤ x7 then (if x7 < (x1.length : Int) then ((chrysalisref09_Stmt.f (rd x1 x7)).bind fun t277 => (if t277 = true then (chrysalisref09_kids.l1 k x1 x5 (wrap64 (x7 + 1))) else (some false))) else (none)) else (none)) else (some true)
def chrysalisref09_kids.j3 : Nat → List Int → Int → Int → Bool → Option (Bool)
  | 0, _, _, _, _ => none
  | k + 1, x1, x5, x10, x113 => if x113 = true then ((chrysalisref09_exprs.f k x1 1 1).bind fun t289 => (some t289)) else (if x10 = 22 then ((chrysalisref09_exprs.f k x1 1 9).bind fun t290 => (some t290)) else (if x10 = 23 then ((chrysalisref09_exprs.f k x1 0 8).bind fun t291 => (some t291)) else (if x10 = 26 then ((chrysalisref09_exprs.f k x1 2 2).bind fun t292 => (some t292)) else (if x10 = 27 then ((chrysalisref09_exprs.f k x1 2 2).bind fun t293 => (some t293)) else (some (x5 == 0))))))
end
def chrysalisref09_kids.f (k : Nat) (a0 : Int) (l1 : List Int) : Option (Bool) := if a0 = 1 then (chrysalisref09_kids.l0 k l1 (l1.length : Int) 0) else (if a0 = 3 then (chrysalisref09_kids.j1 k l1 (l1.length : Int) a0 (a0 == 3)) else (chrysalisref09_kids.j1 k l1 (l1.length : Int) a0 (a0 == 24)))
theorem chrysalisref09_kids.mono_l : ∀ k, (∀ y0 y1 y2, LeO (chrysalisref09_kids.l0 k y0 y1 y2) (chrysalisref09_kids.l0 (k + 1) y0 y1 y2)) ∧ (∀ y0 y1 y2 y3, LeO (chrysalisref09_kids.j1 k y0 y1 y2 y3) (chrysalisref09_kids.j1 (k + 1) y0 y1 y2 y3)) ∧ (∀ y0 y1 y2, LeO (chrysalisref09_kids.l1 k y0 y1 y2) (chrysalisref09_kids.l1 (k + 1) y0 y1 y2)) ∧ (∀ y0 y1 y2 y3, LeO (chrysalisref09_kids.j3 k y0 y1 y2 y3) (chrysalisref09_kids.j3 (k + 1) y0 y1 y2 y3))
  | 0 => ⟨fun _ _ _ r h => by simp [chrysalisref09_kids.l0] at h, fun _ _ _ _ r h => by simp [chrysalisref09_kids.j1] at h, fun _ _ _ r h => by simp [chrysalisref09_kids.l1] at h, fun _ _ _ _ r h => by simp [chrysalisref09_kids.j3] at h⟩
  | k + 1 => by
    obtain ⟨ih0, ih1, ih2, ih3⟩ := chrysalisref09_kids.mono_l k
    refine ⟨?_, ?_, ?_, ?_⟩
    · intro y0 y1 y2
      unfold chrysalisref09_kids.l0
      repeat' first
      | (with_reducible exact ih0 _ _ _)
      | (with_reducible exact ih1 _ _ _ _)
      | (with_reducible exact ih2 _ _ _)
      | (with_reducible exact ih3 _ _ _ _)
      | (with_reducible exact chrysalisref09_exprs.mono _ _ _ _)
      | (with_reducible exact chrysalisref09_function.mono _ _)
      | (with_reducible exact LeO.refl _)
      | (with_reducible exact LeO.none _)
      | (with_reducible refine LeO.ite ?_ ?_)
      | (with_reducible refine LeO.bind ?_ (fun _ => ?_))
      | exact ih0 _ _ _
      | exact ih1 _ _ _ _
      | exact ih2 _ _ _
      | exact ih3 _ _ _ _
      | exact chrysalisref09_exprs.mono _ _ _ _
      | exact chrysalisref09_function.mono _ _
      | exact LeO.none _
      | refine LeO.ite ?_ ?_
      | refine LeO.bind ?_ (fun _ => ?_)
    · intro y0 y1 y2 y3
      unfold chrysalisref09_kids.j1
      repeat' first
      | (with_reducible exact ih0 _ _ _)
      | (with_reducible exact ih1 _ _ _ _)
      | (with_reducible exact ih2 _ _ _)
      | (with_reducible exact ih3 _ _ _ _)
      | (with_reducible exact chrysalisref09_exprs.mono _ _ _ _)
      | (with_reducible exact chrysalisref09_function.mono _ _)
      | (with_reducible exact LeO.refl _)
      | (with_reducible exact LeO.none _)
      | (with_reducible refine LeO.ite ?_ ?_)
      | (with_reducible refine LeO.bind ?_ (fun _ => ?_))
      | exact ih0 _ _ _
      | exact ih1 _ _ _ _
      | exact ih2 _ _ _
      | exact ih3 _ _ _ _
      | exact chrysalisref09_exprs.mono _ _ _ _
      | exact chrysalisref09_function.mono _ _
      | exact LeO.none _
      | refine LeO.ite ?_ ?_
      | refine LeO.bind ?_ (fun _ => ?_)
    · intro y0 y1 y2
      unfold chrysalisref09_kids.l1
      repeat' first
      | (with_reducible exact ih0 _ _ _)
      | (with_reducible exact ih1 _ _ _ _)
      | (with_reducible exact ih2 _ _ _)
      | (with_reducible exact ih3 _ _ _ _)
      | (with_reducible exact chrysalisref09_exprs.mono _ _ _ _)
      | (with_reducible exact chrysalisref09_function.mono _ _)
      | (with_reducible exact LeO.refl _)
      | (with_reducible exact LeO.none _)
      | (with_reducible refine LeO.ite ?_ ?_)
      | (with_reducible refine LeO.bind ?_ (fun _ => ?_))
      | exact ih0 _ _ _
      | exact ih1 _ _ _ _
      | exact ih2 _ _ _
      | exact ih3 _ _ _ _
      | exact chrysalisref09_exprs.mono _ _ _ _
      | exact chrysalisref09_function.mono _ _
      | exact LeO.none _
      | refine LeO.ite ?_ ?_
      | refine LeO.bind ?_ (fun _ => ?_)
    · intro y0 y1 y2 y3
      unfold chrysalisref09_kids.j3
      repeat' first
      | (with_reducible exact ih0 _ _ _)
      | (with_reducible exact ih1 _ _ _ _)
      | (with_reducible exact ih2 _ _ _)
      | (with_reducible exact ih3 _ _ _ _)
      | (with_reducible exact chrysalisref09_exprs.mono _ _ _ _)
      | (with_reducible exact chrysalisref09_function.mono _ _)
      | (with_reducible exact LeO.refl _)
      | (with_reducible exact LeO.none _)
      | (with_reducible refine LeO.ite ?_ ?_)
      | (with_reducible refine LeO.bind ?_ (fun _ => ?_))
      | exact ih0 _ _ _
      | exact ih1 _ _ _ _
      | exact ih2 _ _ _
      | exact ih3 _ _ _ _
      | exact chrysalisref09_exprs.mono _ _ _ _
      | exact chrysalisref09_function.mono _ _
      | exact LeO.none _
      | refine LeO.ite ?_ ?_
      | refine LeO.bind ?_ (fun _ => ?_)
theorem chrysalisref09_kids.mono : ∀ a0 a1 k, LeO (chrysalisref09_kids.f k a0 a1) (chrysalisref09_kids.f (k + 1) a0 a1) := by
  intro a0 a1 k
  obtain ⟨ih0, ih1, ih2, ih3⟩ := chrysalisref09_kids.mono_l k
  unfold chrysalisref09_kids.f
  repeat' first
      | (with_reducible exact ih0 _ _ _)
      | (with_reducible exact ih1 _ _ _ _)
      | (with_reducible exact ih2 _ _ _)
      | (with_reducible exact ih3 _ _ _ _)
      | (with_reducible exact chrysalisref09_exprs.mono _ _ _ _)
      | (with_reducible exact chrysalisref09_function.mono _ _)
      | (with_reducible exact LeO.refl _)
      | (with_reducible exact LeO.none _)
      | (with_reducible refine LeO.ite ?_ ?_)
      | (with_reducible refine LeO.bind ?_ (fun _ => ?_))
      | exact ih0 _ _ _
      | exact ih1 _ _ _ _
      | exact ih2 _ _ _
      | exact ih3 _ _ _ _
      | exact chrysalisref09_exprs.mono _ _ _ _
      | exact chrysalisref09_function.mono _ _
      | exact LeO.none _
      | refine LeO.ite ?_ ?_
      | refine LeO.bind ?_ (fun _ => ?_)
set_option maxHeartbeats 8000000 in
set_option maxRecDepth 100000 in
theorem chrysalisref09_kids.calls (k : Nat) (a0 : Int) (A1 : Option Addr) (c1 : Nat) (l1 : List Int) (r : Bool) (w : World) (hr1 : Kd.C (Kd.int .i64) w A1 l1.length l1) (hc1 : l1.length ≤ c1) (h : chrysalisref09_kids.f k a0 l1 = some r) :
    Calls Try.prog 31 #[.int .i64 a0, .slice A1 l1.length c1] w fun e w' => e = .returned (.bool r) ∧ Drawn0 w w' := by
  have HR1 := Aside0.mk hr1
  have HC1 := Aside0.mk hc1
  clear hr1 hc1
  have H : (if a0 = 1 then (chrysalisref09_kids.l0 k l1 (l1.length : Int) 0) else (if a0 = 3 then (chrysalisref09_kids.j1 k l1 (l1.length : Int) a0 (a0 == 3)) else (chrysalisref09_kids.j1 k l1 (l1.length : Int) a0 (a0 == 24)))) = some r := h
  clear h
  by_cases c3 : a0 = 1
  · rw [if_pos c3] at H
    have c3b0 : (a0 == 1) = true := beq_iff_eq.mpr c3
    have c3b1 : (a0 != 1) = false := bne_eq_false_iff_eq.mpr c3
    clear c3
    have H' := Aside0.mk H
    clear H
    go_enter Try.func31, Try.ntmps31
    go_wp2
    go_loopg [6] k (fun kq v6 w' => ∃ (x6_1 : Int), v6 = .int .i64 x6_1 ∧ Aside0 (chrysalisref09_kids.l0 kq l1 (l1.length : Int) x6_1 = some r) ∧ Aside0 (kq ≤ k) ∧ Drawn0 w w')
    case atStart => exact ⟨(0), (by first | rfl | (simp; done) | (simp [*]; done)), H', ⟨Nat.le_refl _⟩, by repeat (first | exact Drawn0.refl _ | apply Drawn0.step)⟩
    case round =>
      clear H'
      try clear c1
      try clear p2
      try clear c3
      try clear c3b0
      try clear c3b1
      obtain ⟨x6_1, rfl, HA, HK1, ⟨m1, rfl⟩⟩ := hrel
      cases gk with
      | zero => exact absurd HA.out (by simp [chrysalisref09_kids.l0])
      | succ k1 =>
        have H := HA.out
        clear HA
        simp only [chrysalisref09_kids.l0] at H
        by_cases c4 : x6_1 < (l1.length : Int)
        · rw [if_pos c4] at H
          have c4b0 : decide (x6_1 < (l1.length : Int)) = true := decide_eq_true c4
          clear c4
          by_cases c5 : 0 ≤ x6_1
          · rw [if_pos c5] at H
            have c5b0 : decide (0 ≤ x6_1) = true := decide_eq_true c5
            clear c5
            by_cases c6 : x6_1 < (l1.length : Int)
            · rw [if_pos c6] at H
              have c6b0 : decide (x6_1 < (l1.length : Int)) = true := decide_eq_true c6
              clear c6
              by_cases c7 : (rd l1 x6_1) = 2
              · rw [if_pos c7] at H
                have c7b0 : ((rd l1 x6_1) == 2) = true := beq_iff_eq.mpr c7
                have c7b1 : ((rd l1 x6_1) != 2) = false := bne_eq_false_iff_eq.mpr c7
                clear c7
                by_cases c8 : x6_1 > 0
                · rw [if_pos c8] at H
                  have c8b0 : decide (0 < x6_1) = true := decide_eq_true c8
                  clear c8
                  obtain ⟨ji9, hji9⟩ : ∃ j_ : Int, (wrap64 (x6_1 - 1)) = j_ := ⟨_, rfl⟩
                  replace H : (if 0 ≤ (ji9) then (if (ji9) < (l1.length : Int) then (if (rd l1 (ji9)) = 3 then (some false) else (chrysalisref09_kids.l0 k1 l1 (l1.length : Int) (wrap64 (x6_1 + 1)))) else (none)) else (none)) = some r := by first | (rw [hji9] at H; exact H) | (simp only [hji9] at H ⊢; exact H)
                  have hji9w : (IntKind.i64.wrap (x6_1 - 1)) = ji9 := (i64_w _).trans hji9
                  by_cases c10 : 0 ≤ (ji9)
                  · rw [if_pos c10] at H
                    have c10b0 : decide (0 ≤ (ji9)) = true := decide_eq_true c10
                    clear c10
                    by_cases c11 : (ji9) < (l1.length : Int)
                    · rw [if_pos c11] at H
                      have c11b0 : decide ((ji9) < (l1.length : Int)) = true := decide_eq_true c11
                      clear c11
                      by_cases c12 : (rd l1 (ji9)) = 3
                      · rw [if_pos c12] at H
                        have c12b0 : ((rd l1 (ji9)) == 3) = true := beq_iff_eq.mpr c12
                        have c12b1 : ((rd l1 (ji9)) != 3) = false := bne_eq_false_iff_eq.mpr c12
                        clear c12
                        obtain rfl := Option.some.inj H
                        have p270 : 0 ≤ (x6_1 : Int) := of_decide_eq_true (by first | (with_reducible assumption) | assumption)
                        have q270 : x6_1 < (l1.length : Int) := of_decide_eq_true (by first | (with_reducible assumption) | assumption)
                        obtain ⟨ad270, e270, hx270_0⟩ := Kd.at_int HR1.out x6_1 p270 q270
                        cases e270
                        replace p270 := eq_true p270
                        replace q270 := eq_true q270
                        have p271 : 0 ≤ (x6_1 : Int) := of_decide_eq_true (by first | (with_reducible assumption) | assumption)
                        have q271 : x6_1 < (l1.length : Int) := of_decide_eq_true (by first | (with_reducible assumption) | assumption)
                        obtain ⟨ad271, e271, hx271_0⟩ := Kd.at_int HR1.out x6_1 p271 q271
                        obtain rfl : ad270 = ad271 := (by injection e271)
                        replace p271 := eq_true p271
                        replace q271 := eq_true q271
                        have p272 : 0 ≤ ((ji9) : Int) := of_decide_eq_true (by first | (with_reducible assumption) | assumption)
                        have q272 : (ji9) < (l1.length : Int) := of_decide_eq_true (by first | (with_reducible assumption) | assumption)
                        obtain ⟨ad272, e272, hx272_0⟩ := Kd.at_int HR1.out (ji9) p272 q272
                        obtain rfl : ad270 = ad272 := (by injection e272)
                        replace p272 := eq_true p272
                        replace q272 := eq_true q272
                        go_wp2
                        go_ret
                        exact ⟨by first | rfl | (simp; done) | (simp only [← hji9] <;> (first | rfl | simp)) | (simp [*]; done), by repeat (first | exact Drawn0.refl _ | apply Drawn0.step)⟩
                      · rw [if_neg c12] at H
                        have c12b0 : ((rd l1 (ji9)) == 3) = false := beq_eq_false_iff_ne.mpr c12
                        have c12b1 : ((rd l1 (ji9)) != 3) = true := bne_iff_ne.mpr c12
                        have H' := Aside0.mk H
                        clear H
                        have p270 : 0 ≤ (x6_1 : Int) := of_decide_eq_true (by first | (with_reducible assumption) | assumption)
                        have q270 : x6_1 < (l1.length : Int) := of_decide_eq_true (by first | (with_reducible assumption) | assumption)
                        obtain ⟨ad270, e270, hx270_0⟩ := Kd.at_int HR1.out x6_1 p270 q270
                        cases e270
                        replace p270 := eq_true p270
                        replace q270 := eq_true q270
                        have p271 : 0 ≤ (x6_1 : Int) := of_decide_eq_true (by first | (with_reducible assumption) | assumption)
                        have q271 : x6_1 < (l1.length : Int) := of_decide_eq_true (by first | (with_reducible assumption) | assumption)
                        obtain ⟨ad271, e271, hx271_0⟩ := Kd.at_int HR1.out x6_1 p271 q271
                        obtain rfl : ad270 = ad271 := (by injection e271)
                        replace p271 := eq_true p271
                        replace q271 := eq_true q271
                        have p272 : 0 ≤ ((ji9) : Int) := of_decide_eq_true (by first | (with_reducible assumption) | assumption)
                        have q272 : (ji9) < (l1.length : Int) := of_decide_eq_true (by first | (with_reducible assumption) | assumption)
                        obtain ⟨ad272, e272, hx272_0⟩ := Kd.at_int HR1.out (ji9) p272 q272
                        obtain rfl : ad270 = ad272 := (by injection e272)
                        replace p272 := eq_true p272
                        replace q272 := eq_true q272
                        go_wp2
                        go_roundg k1
                        case measure => have := HK1.out; omega
                        case rel => exact ⟨(wrap64 (x6_1 + 1)), (by first | rfl | (simp; done) | (simp [*]; done)), H', ⟨by have := HK1.out; omega⟩, by repeat (first | exact Drawn0.refl _ | apply Drawn0.step)⟩
                    · rw [if_neg c11] at H
                      exact absurd H (by simp)
                  · rw [if_neg c10] at H
                    exact absurd H (by simp)
                · rw [if_neg c8] at H
                  have c8b0 : decide (0 < x6_1) = false := decide_eq_false c8
                  clear c8
                  have H' := Aside0.mk H
                  clear H
                  have p270 : 0 ≤ (x6_1 : Int) := of_decide_eq_true (by first | (with_reducible assumption) | assumption)
                  have q270 : x6_1 < (l1.length : Int) := of_decide_eq_true (by first | (with_reducible assumption) | assumption)
                  obtain ⟨ad270, e270, hx270_0⟩ := Kd.at_int HR1.out x6_1 p270 q270
                  cases e270
                  replace p270 := eq_true p270
                  replace q270 := eq_true q270
                  go_wp2
                  go_roundg k1
                  case measure => have := HK1.out; omega
                  case rel => exact ⟨(wrap64 (x6_1 + 1)), (by first | rfl | (simp; done) | (simp [*]; done)), H', ⟨by have := HK1.out; omega⟩, by repeat (first | exact Drawn0.refl _ | apply Drawn0.step)⟩
              · rw [if_neg c7] at H
                have c7b0 : ((rd l1 x6_1) == 2) = false := beq_eq_false_iff_ne.mpr c7
                have c7b1 : ((rd l1 x6_1) != 2) = true := bne_iff_ne.mpr c7
                by_cases c13 : (rd l1 x6_1) = 3
                · rw [if_pos c13] at H
                  have c13b0 : ((rd l1 x6_1) == 3) = true := beq_iff_eq.mpr c13
                  have c13b1 : ((rd l1 x6_1) != 3) = false := bne_eq_false_iff_eq.mpr c13
                  clear c13
                  by_cases c14 : x6_1 > 0
                  · rw [if_pos c14] at H
                    have c14b0 : decide (0 < x6_1) = true := decide_eq_true c14
                    clear c14
                    have H' := Aside0.mk H
                    clear H
                    have p270 : 0 ≤ (x6_1 : Int) := of_decide_eq_true (by first | (with_reducible assumption) | assumption)
                    have q270 : x6_1 < (l1.length : Int) := of_decide_eq_true (by first | (with_reducible assumption) | assumption)
                    obtain ⟨ad270, e270, hx270_0⟩ := Kd.at_int HR1.out x6_1 p270 q270
                    cases e270
                    replace p270 := eq_true p270
                    replace q270 := eq_true q270
                    have p273 : 0 ≤ (x6_1 : Int) := of_decide_eq_true (by first | (with_reducible assumption) | assumption)
                    have q273 : x6_1 < (l1.length : Int) := of_decide_eq_true (by first | (with_reducible assumption) | assumption)
                    obtain ⟨ad273, e273, hx273_0⟩ := Kd.at_int HR1.out x6_1 p273 q273
                    obtain rfl : ad270 = ad273 := (by injection e273)
                    replace p273 := eq_true p273
                    replace q273 := eq_true q273
                    have p274 : 0 ≤ (x6_1 : Int) := of_decide_eq_true (by first | (with_reducible assumption) | assumption)
                    have q274 : x6_1 < (l1.length : Int) := of_decide_eq_true (by first | (with_reducible assumption) | assumption)
                    obtain ⟨ad274, e274, hx274_0⟩ := Kd.at_int HR1.out x6_1 p274 q274
                    obtain rfl : ad270 = ad274 := (by injection e274)
                    replace p274 := eq_true p274
                    replace q274 := eq_true q274
                    go_wp2
                    go_roundg k1
                    case measure => have := HK1.out; omega
                    case rel => exact ⟨(wrap64 (x6_1 + 1)), (by first | rfl | (simp; done) | (simp [*]; done)), H', ⟨by have := HK1.out; omega⟩, by repeat (first | exact Drawn0.refl _ | apply Drawn0.step)⟩
                  · rw [if_neg c14] at H
                    have c14b0 : decide (0 < x6_1) = false := decide_eq_false c14
                    clear c14
                    have H' := Aside0.mk H
                    clear H
                    have p270 : 0 ≤ (x6_1 : Int) := of_decide_eq_true (by first | (with_reducible assumption) | assumption)
                    have q270 : x6_1 < (l1.length : Int) := of_decide_eq_true (by first | (with_reducible assumption) | assumption)
                    obtain ⟨ad270, e270, hx270_0⟩ := Kd.at_int HR1.out x6_1 p270 q270
                    cases e270
                    replace p270 := eq_true p270
                    replace q270 := eq_true q270
                    have p273 : 0 ≤ (x6_1 : Int) := of_decide_eq_true (by first | (with_reducible assumption) | assumption)
                    have q273 : x6_1 < (l1.length : Int) := of_decide_eq_true (by first | (with_reducible assumption) | assumption)
                    obtain ⟨ad273, e273, hx273_0⟩ := Kd.at_int HR1.out x6_1 p273 q273
                    obtain rfl : ad270 = ad273 := (by injection e273)
                    replace p273 := eq_true p273
                    replace q273 := eq_true q273
                    go_wp2
                    go_roundg k1
                    case measure => have := HK1.out; omega
                    case rel => exact ⟨(wrap64 (x6_1 + 1)), (by first | rfl | (simp; done) | (simp [*]; done)), H', ⟨by have := HK1.out; omega⟩, by repeat (first | exact Drawn0.refl _ | apply Drawn0.step)⟩
                · rw [if_neg c13] at H
                  have c13b0 : ((rd l1 x6_1) == 3) = false := beq_eq_false_iff_ne.mpr c13
                  have c13b1 : ((rd l1 x6_1) != 3) = true := bne_iff_ne.mpr c13
                  obtain rfl := Option.some.inj H
                  have p270 : 0 ≤ (x6_1 : Int) := of_decide_eq_true (by first | (with_reducible assumption) | assumption)
                  have q270 : x6_1 < (l1.length : Int) := of_decide_eq_true (by first | (with_reducible assumption) | assumption)
                  obtain ⟨ad270, e270, hx270_0⟩ := Kd.at_int HR1.out x6_1 p270 q270
                  cases e270
                  replace p270 := eq_true p270
                  replace q270 := eq_true q270
                  have p273 : 0 ≤ (x6_1 : Int) := of_decide_eq_true (by first | (with_reducible assumption) | assumption)
                  have q273 : x6_1 < (l1.length : Int) := of_decide_eq_true (by first | (with_reducible assumption) | assumption)
                  obtain ⟨ad273, e273, hx273_0⟩ := Kd.at_int HR1.out x6_1 p273 q273
                  obtain rfl : ad270 = ad273 := (by injection e273)
                  replace p273 := eq_true p273
                  replace q273 := eq_true q273
                  go_wp2
                  go_ret
                  exact ⟨by first | rfl | (simp; done) | (simp [*]; done), by repeat (first | exact Drawn0.refl _ | apply Drawn0.step)⟩
            · rw [if_neg c6] at H
              exact absurd H (by simp)
          · rw [if_neg c5] at H
            exact absurd H (by simp)
        · rw [if_neg c4] at H
          have c4b0 : decide (x6_1 < (l1.length : Int)) = false := decide_eq_false c4
          clear c4
          obtain rfl := Option.some.inj H
          go_wp2
          go_ret
          exact ⟨by first | rfl | (simp; done) | (simp [*]; done), by repeat (first | exact Drawn0.refl _ | apply Drawn0.step)⟩
  · rw [if_neg c3] at H
    have c3b0 : (a0 == 1) = false := beq_eq_false_iff_ne.mpr c3
    have c3b1 : (a0 != 1) = true := bne_iff_ne.mpr c3
    have HC15 := Aside0.mk H
    clear H
    go_enter Try.func31, Try.ntmps31
    go_upto_if 49 with (fail)
    go_cut [49] (fun v49 wc => ∃ (kq : Nat) (x49_14 : Bool), v49 = .bool x49_14 ∧ Aside0 (chrysalisref09_kids.j1 kq l1 (l1.length : Int) a0 x49_14 = some r) ∧ Aside0 (kq ≤ k) ∧ Drawn0 w wc)
    case first =>
      have H := HC15.out
      clear HC15
      by_cases c16 : a0 = 3
      · rw [if_pos c16] at H
        have c16b0 : (a0 == 3) = true := beq_iff_eq.mpr c16
        have c16b1 : (a0 != 3) = false := bne_eq_false_iff_eq.mpr c16
        clear c16
        (first | rw [c16b0] | (simp only [i64_w, i32_w]; rw [c16b0]) | skip)
        have H' := Aside0.mk H
        clear H
        go_wp2
        go_meet
        case rel => exact ⟨_, ((a0 == 3)), (by first | rfl | (simp; done) | (simp [*]; done)), H', ⟨by first | omega | exact Nat.le_refl _⟩, by repeat (first | exact Drawn0.refl _ | apply Drawn0.step)⟩
      · rw [if_neg c16] at H
        have c16b0 : (a0 == 3) = false := beq_eq_false_iff_ne.mpr c16
        have c16b1 : (a0 != 3) = true := bne_iff_ne.mpr c16
        (first | rw [c16b0] | (simp only [i64_w, i32_w]; rw [c16b0]) | skip)
        have H' := Aside0.mk H
        clear H
        go_wp2
        go_meet
        case rel => exact ⟨_, ((a0 == 24)), (by first | rfl | (simp; done) | (simp [*]; done)), H', ⟨by first | omega | exact Nat.le_refl _⟩, by repeat (first | exact Drawn0.refl _ | apply Drawn0.step)⟩
    case rest =>
      clear HC15
      try clear c1
      try clear p2
      try clear q2
      try clear hx2
      try clear c3
      try clear c3b0
      try clear c3b1
      try clear c4
      try clear c4b0
      try clear c5
      try clear c5b0
      try clear c6
      try clear c6b0
      try clear p6
      try clear c7
      try clear c7b0
      try clear c7b1
      try clear c8
      try clear c8b0
      try clear c10
      try clear c10b0
      try clear c11
      try clear c11b0
      try clear c12
      try clear c12b0
      try clear c12b1
      try clear c13
      try clear c13b0
      try clear c13b1
      try clear c14
      try clear c14b0
      try clear c16
      try clear c16b0
      try clear c16b1
      try clear hx270_0
      try clear hx271_0
      try clear hx272_0
      try clear hx273_0
      try clear hx274_0
      try clear p2
      try clear p270
      try clear p271
      try clear p272
      try clear p273
      try clear p274
      try clear q270
      try clear q271
      try clear q272
      try clear q273
      try clear q274
      obtain ⟨kq, x49_14, rfl, HA, HJ14, ⟨mc14, rfl⟩⟩ := hcut
      cases kq with
      | zero => exact absurd HA.out (by simp [chrysalisref09_kids.j1])
      | succ kj14 =>
        have H := HA.out
        clear HA
        simp only [chrysalisref09_kids.j1] at H
        by_cases c17 : x49_14 = true
        · subst c17
          have H1 : ((chrysalisref09_function.f kj14 l1).bind fun t275 => (some t275)) = some r := by rw [if_pos rfl] at H; exact H
          clear H
          have H := H1
          clear H1
          replace H := Option.bind_eq_some_iff.mp H
          obtain ⟨t275, A180, H⟩ := H
          replace H : (some t275) = some r := H
          have A18 := Aside0.mk A180
          clear A180
          obtain rfl := Option.some.inj H
          go_wp2_with (first | ((with_reducible refine gate_callee (f := 44) rfl ?_); refine goesL_ (some 53) rfl rfl Try.func44 (by kernel_rfl) rfl #[.slice A1 l1.length c1] rfl (by (try simp only [List.map_toArray, List.map_cons, List.map_nil]); first | done | rfl | (simp only [List.length_drop, List.length_take]; rfl)) ?_; (with_reducible refine (chrysalisref09_function.calls kj14 _ _ l1 t275 _ ?side1 ?side2 A18.out).mono ?_); (case side1 => repeat (first | exact HR1.out | (with_reducible refine Kd.C_alloc ?_ _) | (with_reducible refine Kd.C_drewN ?_ _) | (with_reducible refine Kd.C_drew ?_))); (case side2 => exact HC1.out); rintro e w' ⟨rfl, ⟨nd, rfl⟩⟩; refine ⟨_, rfl, ?_⟩))
          go_ret
          exact ⟨by first | rfl | (simp; done) | (simp [*]; done), by repeat (first | exact Drawn0.refl _ | apply Drawn0.step)⟩
        · replace c17 := Bool.eq_false_iff.mpr c17
          subst c17
          rw [if_neg (show ¬ (false = true) by decide)] at H
          have H1 := H
          clear H
          have H := H1
          clear H1
          by_cases c19 : a0 = 5
          · rw [if_pos c19] at H
            have c19b0 : (a0 == 5) = true := beq_iff_eq.mpr c19
            have c19b1 : (a0 != 5) = false := bne_eq_false_iff_eq.mpr c19
            clear c19
            have H' := Aside0.mk H
            clear H
            go_wp2
            go_loopg [7] kj14 (fun kq v7 w' => ∃ (x7_2 : Int), v7 = .int .i64 x7_2 ∧ Aside0 (chrysalisref09_kids.l1 kq l1 (l1.length : Int) x7_2 = some r) ∧ Aside0 (kq ≤ kj14) ∧ Drawn0 w w')
            case atStart => exact ⟨(0), (by first | rfl | (simp; done) | (simp [*]; done)), H', ⟨Nat.le_refl _⟩, by repeat (first | exact Drawn0.refl _ | apply Drawn0.step)⟩
            case round =>
              clear H'
              try clear c1
              try clear p2
              try clear q2
              try clear hx2
              try clear c3
              try clear c3b0
              try clear c3b1
              try clear c4
              try clear c4b0
              try clear c5
              try clear c5b0
              try clear c6
              try clear c6b0
              try clear p6
              try clear c7
              try clear c7b0
              try clear c7b1
              try clear c8
              try clear c8b0
              try clear c10
              try clear c10b0
              try clear c11
              try clear c11b0
              try clear c12
              try clear c12b0
              try clear c12b1
              try clear c13
              try clear c13b0
              try clear c13b1
              try clear c14
              try clear c14b0
              try clear c16
              try clear c16b0
              try clear c16b1
              try clear c17
              try clear c19
              try clear c19b0
              try clear c19b1
              try clear hx270_0
              try clear hx271_0
              try clear hx272_0
              try clear hx273_0
              try clear hx274_0
              try clear p2
              try clear p270
              try clear p271
              try clear p272
              try clear p273
              try clear p274
              try clear p6
              try clear q2
              try clear q270
              try clear q271
              try clear q272
              try clear q273
              try clear q274
              obtain ⟨x7_2, rfl, HA, HK2, ⟨m2, rfl⟩⟩ := hrel
              cases gk with
              | zero => exact absurd HA.out (by simp [chrysalisref09_kids.l1])
              | succ k2 =>
                have H := HA.out
                clear HA
                simp only [chrysalisref09_kids.l1] at H
                by_cases c20 : x7_2 < (l1.length : Int)
                · rw [if_pos c20] at H
                  have c20b0 : decide (x7_2 < (l1.length : Int)) = true := decide_eq_true c20
                  clear c20
                  by_cases c21 : 0 ≤ x7_2
                  · rw [if_pos c21] at H
                    have c21b0 : decide (0 ≤ x7_2) = true := decide_eq_true c21
                    clear c21
                    by_cases c22 : x7_2 < (l1.length : Int)
                    · rw [if_pos c22] at H
                      have c22b0 : decide (x7_2 < (l1.length : Int)) = true := decide_eq_true c22
                      clear c22
                      replace H := Option.bind_eq_some_iff.mp H
                      obtain ⟨t277, A230, H⟩ := H
                      replace H : (if t277 = true then (chrysalisref09_kids.l1 k2 l1 (l1.length : Int) (wrap64 (x7_2 + 1))) else (some false)) = some r := H
                      have A23 := Aside0.mk A230
                      clear A230
                      by_cases c24 : t277 = true
                      · subst c24
                        have H1 : (chrysalisref09_kids.l1 k2 l1 (l1.length : Int) (wrap64 (x7_2 + 1))) = some r := by rw [if_pos rfl] at H; exact H
                        clear H
                        have H := H1
                        clear H1
                        have H' := Aside0.mk H
                        clear H
                        have p276 : 0 ≤ (x7_2 : Int) := of_decide_eq_true (by first | (with_reducible assumption) | assumption)
                        have q276 : x7_2 < (l1.length : Int) := of_decide_eq_true (by first | (with_reducible assumption) | assumption)
                        obtain ⟨ad276, e276, hx276_0⟩ := Kd.at_int HR1.out x7_2 p276 q276
                        cases e276
                        replace p276 := eq_true p276
                        replace q276 := eq_true q276
                        go_wp2_with (first | ((with_reducible refine gate_callee (f := 26) rfl ?_); refine goesL_ (some 65) rfl rfl Try.func26 (by kernel_rfl) rfl #[.int .i64 (rd l1 x7_2)] rfl (by (try simp only [List.map_toArray, List.map_cons, List.map_nil]); first | done | rfl | (simp only [List.length_drop, List.length_take]; rfl)) ?_; (with_reducible refine (chrysalisref09_Stmt.calls (rd l1 x7_2) true _ A23.out).mono ?_); rintro e w' ⟨rfl, ⟨nd, rfl⟩⟩; refine ⟨_, rfl, ?_⟩))
                        go_roundg k2
                        case measure => have := HJ14.out; have := HK2.out; omega
                        case rel => exact ⟨(wrap64 (x7_2 + 1)), (by first | rfl | (simp; done) | (simp [*]; done)), H', ⟨by have := HJ14.out; have := HK2.out; omega⟩, by repeat (first | exact Drawn0.refl _ | apply Drawn0.step)⟩
                      · replace c24 := Bool.eq_false_iff.mpr c24
                        subst c24
                        have H1 : (some false) = some r := by rw [if_neg (show ¬ (false = true) by decide)] at H; exact H
                        clear H
                        have H := H1
                        clear H1
                        obtain rfl := Option.some.inj H
                        have p276 : 0 ≤ (x7_2 : Int) := of_decide_eq_true (by first | (with_reducible assumption) | assumption)
                        have q276 : x7_2 < (l1.length : Int) := of_decide_eq_true (by first | (with_reducible assumption) | assumption)
                        obtain ⟨ad276, e276, hx276_0⟩ := Kd.at_int HR1.out x7_2 p276 q276
                        cases e276
                        replace p276 := eq_true p276
                        replace q276 := eq_true q276
                        go_wp2_with (first | ((with_reducible refine gate_callee (f := 26) rfl ?_); refine goesL_ (some 65) rfl rfl Try.func26 (by kernel_rfl) rfl #[.int .i64 (rd l1 x7_2)] rfl (by (try simp only [List.map_toArray, List.map_cons, List.map_nil]); first | done | rfl | (simp only [List.length_drop, List.length_take]; rfl)) ?_; (with_reducible refine (chrysalisref09_Stmt.calls (rd l1 x7_2) false _ A23.out).mono ?_); rintro e w' ⟨rfl, ⟨nd, rfl⟩⟩; refine ⟨_, rfl, ?_⟩))
                        go_ret
                        exact ⟨by first | rfl | (simp; done) | (simp [*]; done), by repeat (first | exact Drawn0.refl _ | apply Drawn0.step)⟩
                    · rw [if_neg c22] at H
                      exact absurd H (by simp)
                  · rw [if_neg c21] at H
                    exact absurd H (by simp)
                · rw [if_neg c20] at H
                  have c20b0 : decide (x7_2 < (l1.length : Int)) = false := decide_eq_false c20
                  clear c20
                  obtain rfl := Option.some.inj H
                  go_wp2
                  go_ret
                  exact ⟨by first | rfl | (simp; done) | (simp [*]; done), by repeat (first | exact Drawn0.refl _ | apply Drawn0.step)⟩
          · rw [if_neg c19] at H
            have c19b0 : (a0 == 5) = false := beq_eq_false_iff_ne.mpr c19
            have c19b1 : (a0 != 5) = true := bne_iff_ne.mpr c19
            by_cases c25 : a0 = 8
            · rw [if_pos c25] at H
              have c25b0 : (a0 == 8) = true := beq_iff_eq.mpr c25
              have c25b1 : (a0 != 8) = false := bne_eq_false_iff_eq.mpr c25
              clear c25
              replace H := Option.bind_eq_some_iff.mp H
              obtain ⟨t278, A260, H⟩ := H
              replace H : (some t278) = some r := H
              have A26 := Aside0.mk A260
              clear A260
              obtain rfl := Option.some.inj H
              go_wp2_with (first | ((with_reducible refine gate_callee (f := 45) rfl ?_); refine goesL_ (some 70) rfl rfl Try.func45 (by kernel_rfl) rfl #[.slice A1 l1.length c1, .int .i64 3, .int .i64 3] rfl (by (try simp only [List.map_toArray, List.map_cons, List.map_nil]); first | done | rfl | (simp only [List.length_drop, List.length_take]; rfl)) ?_; (with_reducible refine (chrysalisref09_exprs.calls kj14 _ _ l1 3 3 t278 _ ?side1 ?side2 A26.out).mono ?_); (case side1 => repeat (first | exact HR1.out | (with_reducible refine Kd.C_alloc ?_ _) | (with_reducible refine Kd.C_drewN ?_ _) | (with_reducible refine Kd.C_drew ?_))); (case side2 => exact HC1.out); rintro e w' ⟨rfl, ⟨nd, rfl⟩⟩; refine ⟨_, rfl, ?_⟩))
              go_ret
              exact ⟨by first | rfl | (simp; done) | (simp [*]; done), by repeat (first | exact Drawn0.refl _ | apply Drawn0.step)⟩
            · rw [if_neg c25] at H
              have c25b0 : (a0 == 8) = false := beq_eq_false_iff_ne.mpr c25
              have c25b1 : (a0 != 8) = true := bne_iff_ne.mpr c25
              by_cases c27 : a0 = 9
              · rw [if_pos c27] at H
                have c27b0 : (a0 == 9) = true := beq_iff_eq.mpr c27
                have c27b1 : (a0 != 9) = false := bne_eq_false_iff_eq.mpr c27
                clear c27
                by_cases c28 : (l1.length : Int) = 2
                · rw [if_pos c28] at H
                  have c28b0 : ((l1.length : Int) == 2) = true := beq_iff_eq.mpr c28
                  have c28b1 : ((l1.length : Int) != 2) = false := bne_eq_false_iff_eq.mpr c28
                  clear c28
                  by_cases c29 : 0 < (l1.length : Int)
                  · rw [if_pos c29] at H
                    have c29b0 : decide (0 < (l1.length : Int)) = true := decide_eq_true c29
                    have c29b1 : decide (0 < l1.length) = true := decide_eq_true (by omega)
                    clear c29
                    replace H := Option.bind_eq_some_iff.mp H
                    obtain ⟨t280, A300, H⟩ := H
                    replace H : (if t280 = true then (if 1 < (l1.length : Int) then (some ((rd l1 1) == 5)) else (none)) else (some false)) = some r := H
                    have A30 := Aside0.mk A300
                    clear A300
                    by_cases c31 : t280 = true
                    · subst c31
                      have H1 : (if 1 < (l1.length : Int) then (some ((rd l1 1) == 5)) else (none)) = some r := by rw [if_pos rfl] at H; exact H
                      clear H
                      have H := H1
                      clear H1
                      by_cases c32 : 1 < (l1.length : Int)
                      · rw [if_pos c32] at H
                        have c32b0 : decide (1 < (l1.length : Int)) = true := decide_eq_true c32
                        have c32b1 : decide (1 < l1.length) = true := decide_eq_true (by omega)
                        clear c32
                        obtain rfl := Option.some.inj H
                        have p279 : 0 ≤ (0 : Int) := (by omega)
                        have q279 : 0 < (l1.length : Int) := of_decide_eq_true (by first | (with_reducible assumption) | assumption)
                        obtain ⟨ad279, e279, hx279_0⟩ := Kd.at_int HR1.out 0 p279 q279
                        cases e279
                        have qi279 : (0 < l1.length) = True := eq_true (by omega)
                        (try rw [show ((0 : Int)).toNat = 0 from rfl] at hx279_0)
                        (try rw [Addr.add_zero'] at hx279_0)
                        replace p279 := eq_true p279
                        replace q279 := eq_true q279
                        go_wp2_with (first | (go_at_call 24; (with_reducible refine (chrysalisref09_Expr.calls (rd l1 0) true _ A30.out).mono ?_); rintro e w' ⟨rfl, ⟨nd, rfl⟩⟩; have p281 : 0 ≤ (1 : Int) := (by omega); have q281 : 1 < (l1.length : Int) := of_decide_eq_true (by first | (with_reducible assumption) | assumption); obtain ⟨ad281, e281, hx281_0⟩ := Kd.at_int HR1.out 1 p281 q281; obtain rfl : ad279 = ad281 := (by injection e281); (try simp only [show (1 : Int).toNat = 1 from rfl, Nat.reduceMul, Nat.reduceEqDiff, Go.Addr.add, ↓reduceIte] at hx281_0); have qi281 : (1 < l1.length) = True := eq_true (by omega); (try rw [show ((1 : Int)).toNat = 1 from rfl] at hx281_0); replace p281 := eq_true p281; replace q281 := eq_true q281))
                        go_ret
                        exact ⟨by first | rfl | (simp; done) | (simp [*]; done), by repeat (first | exact Drawn0.refl _ | apply Drawn0.step)⟩
                      · rw [if_neg c32] at H
                        exact absurd H (by simp)
                    · replace c31 := Bool.eq_false_iff.mpr c31
                      subst c31
                      have H1 : (some false) = some r := by rw [if_neg (show ¬ (false = true) by decide)] at H; exact H
                      clear H
                      have H := H1
                      clear H1
                      obtain rfl := Option.some.inj H
                      have p279 : 0 ≤ (0 : Int) := (by omega)
                      have q279 : 0 < (l1.length : Int) := of_decide_eq_true (by first | (with_reducible assumption) | assumption)
                      obtain ⟨ad279, e279, hx279_0⟩ := Kd.at_int HR1.out 0 p279 q279
                      cases e279
                      have qi279 : (0 < l1.length) = True := eq_true (by omega)
                      (try rw [show ((0 : Int)).toNat = 0 from rfl] at hx279_0)
                      (try rw [Addr.add_zero'] at hx279_0)
                      replace p279 := eq_true p279
                      replace q279 := eq_true q279
                      go_wp2_with (first | (go_at_call 24; (with_reducible refine (chrysalisref09_Expr.calls (rd l1 0) false _ A30.out).mono ?_); rintro e w' ⟨rfl, ⟨nd, rfl⟩⟩))
                      go_ret
                      exact ⟨by first | rfl | (simp; done) | (simp [*]; done), by repeat (first | exact Drawn0.refl _ | apply Drawn0.step)⟩
                  · rw [if_neg c29] at H
                    exact absurd H (by simp)
                · rw [if_neg c28] at H
                  have c28b0 : ((l1.length : Int) == 2) = false := beq_eq_false_iff_ne.mpr c28
                  have c28b1 : ((l1.length : Int) != 2) = true := bne_iff_ne.mpr c28
                  by_cases c33 : (l1.length : Int) = 3
                  · rw [if_pos c33] at H
                    have c33b0 : ((l1.length : Int) == 3) = true := beq_iff_eq.mpr c33
                    have c33b1 : ((l1.length : Int) != 3) = false := bne_eq_false_iff_eq.mpr c33
                    clear c33
                    by_cases c34 : 2 < (l1.length : Int)
                    · rw [if_pos c34] at H
                      have c34b0 : decide (2 < (l1.length : Int)) = true := decide_eq_true c34
                      have c34b1 : decide (2 < l1.length) = true := decide_eq_true (by omega)
                      clear c34
                      by_cases c35 : (rd l1 2) = 5
                      · rw [if_pos c35] at H
                        have c35b0 : ((rd l1 2) == 5) = true := beq_iff_eq.mpr c35
                        have c35b1 : ((rd l1 2) != 5) = false := bne_eq_false_iff_eq.mpr c35
                        clear c35
                        by_cases c36 : 0 < (l1.length : Int)
                        · rw [if_pos c36] at H
                          have c36b0 : decide (0 < (l1.length : Int)) = true := decide_eq_true c36
                          have c36b1 : decide (0 < l1.length) = true := decide_eq_true (by omega)
                          clear c36
                          replace H := Option.bind_eq_some_iff.mp H
                          obtain ⟨t284, A370, H⟩ := H
                          replace H : (if t284 = true then (if 1 < (l1.length : Int) then (some ((rd l1 1) == 5)) else (none)) else (some false)) = some r := H
                          have A37 := Aside0.mk A370
                          clear A370
                          by_cases c38 : t284 = true
                          · subst c38
                            have H1 : (if 1 < (l1.length : Int) then (some ((rd l1 1) == 5)) else (none)) = some r := by rw [if_pos rfl] at H; exact H
                            clear H
                            have H := H1
                            clear H1
                            by_cases c39 : 1 < (l1.length : Int)
                            · rw [if_pos c39] at H
                              have c39b0 : decide (1 < (l1.length : Int)) = true := decide_eq_true c39
                              have c39b1 : decide (1 < l1.length) = true := decide_eq_true (by omega)
                              clear c39
                              obtain rfl := Option.some.inj H
                              have p282 : 0 ≤ (2 : Int) := (by omega)
                              have q282 : 2 < (l1.length : Int) := of_decide_eq_true (by first | (with_reducible assumption) | assumption)
                              obtain ⟨ad282, e282, hx282_0⟩ := Kd.at_int HR1.out 2 p282 q282
                              cases e282
                              (try simp only [show (2 : Int).toNat = 2 from rfl, Nat.reduceMul, Nat.reduceEqDiff, Go.Addr.add, ↓reduceIte] at hx282_0)
                              have qi282 : (2 < l1.length) = True := eq_true (by omega)
                              (try rw [show ((2 : Int)).toNat = 2 from rfl] at hx282_0)
                              replace p282 := eq_true p282
                              replace q282 := eq_true q282
                              have p283 : 0 ≤ (0 : Int) := (by omega)
                              have q283 : 0 < (l1.length : Int) := of_decide_eq_true (by first | (with_reducible assumption) | assumption)
                              obtain ⟨ad283, e283, hx283_0⟩ := Kd.at_int HR1.out 0 p283 q283
                              obtain rfl : ad282 = ad283 := (by injection e283)
                              have qi283 : (0 < l1.length) = True := eq_true (by omega)
                              (try rw [show ((0 : Int)).toNat = 0 from rfl] at hx283_0)
                              (try rw [Addr.add_zero'] at hx283_0)
                              replace p283 := eq_true p283
                              replace q283 := eq_true q283
                              go_wp2_with (first | (go_at_call 24; (with_reducible refine (chrysalisref09_Expr.calls (rd l1 0) true _ A37.out).mono ?_); rintro e w' ⟨rfl, ⟨nd, rfl⟩⟩; have p285 : 0 ≤ (1 : Int) := (by omega); have q285 : 1 < (l1.length : Int) := of_decide_eq_true (by first | (with_reducible assumption) | assumption); obtain ⟨ad285, e285, hx285_0⟩ := Kd.at_int HR1.out 1 p285 q285; obtain rfl : ad282 = ad285 := (by injection e285); (try simp only [show (1 : Int).toNat = 1 from rfl, Nat.reduceMul, Nat.reduceEqDiff, Go.Addr.add, ↓reduceIte] at hx285_0); have qi285 : (1 < l1.length) = True := eq_true (by omega); (try rw [show ((1 : Int)).toNat = 1 from rfl] at hx285_0); replace p285 := eq_true p285; replace q285 := eq_true q285))
                              go_ret
                              exact ⟨by first | rfl | (simp; done) | (simp [*]; done), by repeat (first | exact Drawn0.refl _ | apply Drawn0.step)⟩
                            · rw [if_neg c39] at H
                              exact absurd H (by simp)
                          · replace c38 := Bool.eq_false_iff.mpr c38
                            subst c38
                            have H1 : (some false) = some r := by rw [if_neg (show ¬ (false = true) by decide)] at H; exact H
                            clear H
                            have H := H1
                            clear H1
                            obtain rfl := Option.some.inj H
                            have p282 : 0 ≤ (2 : Int) := (by omega)
                            have q282 : 2 < (l1.length : Int) := of_decide_eq_true (by first | (with_reducible assumption) | assumption)
                            obtain ⟨ad282, e282, hx282_0⟩ := Kd.at_int HR1.out 2 p282 q282
                            cases e282
                            (try simp only [show (2 : Int).toNat = 2 from rfl, Nat.reduceMul, Nat.reduceEqDiff, Go.Addr.add, ↓reduceIte] at hx282_0)
                            have qi282 : (2 < l1.length) = True := eq_true (by omega)
                            (try rw [show ((2 : Int)).toNat = 2 from rfl] at hx282_0)
                            replace p282 := eq_true p282
                            replace q282 := eq_true q282
                            have p283 : 0 ≤ (0 : Int) := (by omega)
                            have q283 : 0 < (l1.length : Int) := of_decide_eq_true (by first | (with_reducible assumption) | assumption)
                            obtain ⟨ad283, e283, hx283_0⟩ := Kd.at_int HR1.out 0 p283 q283
                            obtain rfl : ad282 = ad283 := (by injection e283)
                            have qi283 : (0 < l1.length) = True := eq_true (by omega)
                            (try rw [show ((0 : Int)).toNat = 0 from rfl] at hx283_0)
                            (try rw [Addr.add_zero'] at hx283_0)
                            replace p283 := eq_true p283
                            replace q283 := eq_true q283
                            go_wp2_with (first | (go_at_call 24; (with_reducible refine (chrysalisref09_Expr.calls (rd l1 0) false _ A37.out).mono ?_); rintro e w' ⟨rfl, ⟨nd, rfl⟩⟩))
                            go_ret
                            exact ⟨by first | rfl | (simp; done) | (simp [*]; done), by repeat (first | exact Drawn0.refl _ | apply Drawn0.step)⟩
                        · rw [if_neg c36] at H
                          exact absurd H (by simp)
                      · rw [if_neg c35] at H
                        have c35b0 : ((rd l1 2) == 5) = false := beq_eq_false_iff_ne.mpr c35
                        have c35b1 : ((rd l1 2) != 5) = true := bne_iff_ne.mpr c35
                        obtain rfl := Option.some.inj H
                        have p282 : 0 ≤ (2 : Int) := (by omega)
                        have q282 : 2 < (l1.length : Int) := of_decide_eq_true (by first | (with_reducible assumption) | assumption)
                        obtain ⟨ad282, e282, hx282_0⟩ := Kd.at_int HR1.out 2 p282 q282
                        cases e282
                        (try simp only [show (2 : Int).toNat = 2 from rfl, Nat.reduceMul, Nat.reduceEqDiff, Go.Addr.add, ↓reduceIte] at hx282_0)
                        have qi282 : (2 < l1.length) = True := eq_true (by omega)
                        (try rw [show ((2 : Int)).toNat = 2 from rfl] at hx282_0)
                        replace p282 := eq_true p282
                        replace q282 := eq_true q282
                        go_wp2
                        go_ret
                        exact ⟨by first | rfl | (simp; done) | (simp [*]; done), by repeat (first | exact Drawn0.refl _ | apply Drawn0.step)⟩
                    · rw [if_neg c34] at H
                      exact absurd H (by simp)
                  · rw [if_neg c33] at H
                    have c33b0 : ((l1.length : Int) == 3) = false := beq_eq_false_iff_ne.mpr c33
                    have c33b1 : ((l1.length : Int) != 3) = true := bne_iff_ne.mpr c33
                    obtain rfl := Option.some.inj H
                    go_wp2
                    go_ret
                    exact ⟨by first | rfl | (simp; done) | (simp [*]; done), by repeat (first | exact Drawn0.refl _ | apply Drawn0.step)⟩
              · rw [if_neg c27] at H
                have c27b0 : (a0 == 9) = false := beq_eq_false_iff_ne.mpr c27
                have c27b1 : (a0 != 9) = true := bne_iff_ne.mpr c27
                by_cases c40 : a0 = 10
                · rw [if_pos c40] at H
                  have c40b0 : (a0 == 10) = true := beq_iff_eq.mpr c40
                  have c40b1 : (a0 != 10) = false := bne_eq_false_iff_eq.mpr c40
                  clear c40
                  by_cases c41 : (l1.length : Int) = 2
                  · rw [if_pos c41] at H
                    have c41b0 : ((l1.length : Int) == 2) = true := beq_iff_eq.mpr c41
                    have c41b1 : ((l1.length : Int) != 2) = false := bne_eq_false_iff_eq.mpr c41
                    clear c41
                    by_cases c42 : 0 < (l1.length : Int)
                    · rw [if_pos c42] at H
                      have c42b0 : decide (0 < (l1.length : Int)) = true := decide_eq_true c42
                      have c42b1 : decide (0 < l1.length) = true := decide_eq_true (by omega)
                      clear c42
                      replace H := Option.bind_eq_some_iff.mp H
                      obtain ⟨t287, A430, H⟩ := H
                      replace H : (if t287 = true then (if 1 < (l1.length : Int) then (some ((rd l1 1) == 5)) else (none)) else (some false)) = some r := H
                      have A43 := Aside0.mk A430
                      clear A430
                      by_cases c44 : t287 = true
                      · subst c44
                        have H1 : (if 1 < (l1.length : Int) then (some ((rd l1 1) == 5)) else (none)) = some r := by rw [if_pos rfl] at H; exact H
                        clear H
                        have H := H1
                        clear H1
                        by_cases c45 : 1 < (l1.length : Int)
                        · rw [if_pos c45] at H
                          have c45b0 : decide (1 < (l1.length : Int)) = true := decide_eq_true c45
                          have c45b1 : decide (1 < l1.length) = true := decide_eq_true (by omega)
                          clear c45
                          obtain rfl := Option.some.inj H
                          have p286 : 0 ≤ (0 : Int) := (by omega)
                          have q286 : 0 < (l1.length : Int) := of_decide_eq_true (by first | (with_reducible assumption) | assumption)
                          obtain ⟨ad286, e286, hx286_0⟩ := Kd.at_int HR1.out 0 p286 q286
                          cases e286
                          have qi286 : (0 < l1.length) = True := eq_true (by omega)
                          (try rw [show ((0 : Int)).toNat = 0 from rfl] at hx286_0)
                          (try rw [Addr.add_zero'] at hx286_0)
                          replace p286 := eq_true p286
                          replace q286 := eq_true q286
                          go_wp2_with (first | (go_at_call 24; (with_reducible refine (chrysalisref09_Expr.calls (rd l1 0) true _ A43.out).mono ?_); rintro e w' ⟨rfl, ⟨nd, rfl⟩⟩; have p288 : 0 ≤ (1 : Int) := (by omega); have q288 : 1 < (l1.length : Int) := of_decide_eq_true (by first | (with_reducible assumption) | assumption); obtain ⟨ad288, e288, hx288_0⟩ := Kd.at_int HR1.out 1 p288 q288; obtain rfl : ad286 = ad288 := (by injection e288); (try simp only [show (1 : Int).toNat = 1 from rfl, Nat.reduceMul, Nat.reduceEqDiff, Go.Addr.add, ↓reduceIte] at hx288_0); have qi288 : (1 < l1.length) = True := eq_true (by omega); (try rw [show ((1 : Int)).toNat = 1 from rfl] at hx288_0); replace p288 := eq_true p288; replace q288 := eq_true q288))
                          go_ret
                          exact ⟨by first | rfl | (simp; done) | (simp [*]; done), by repeat (first | exact Drawn0.refl _ | apply Drawn0.step)⟩
                        · rw [if_neg c45] at H
                          exact absurd H (by simp)
                      · replace c44 := Bool.eq_false_iff.mpr c44
                        subst c44
                        have H1 : (some false) = some r := by rw [if_neg (show ¬ (false = true) by decide)] at H; exact H
                        clear H
                        have H := H1
                        clear H1
                        obtain rfl := Option.some.inj H
                        have p286 : 0 ≤ (0 : Int) := (by omega)
                        have q286 : 0 < (l1.length : Int) := of_decide_eq_true (by first | (with_reducible assumption) | assumption)
                        obtain ⟨ad286, e286, hx286_0⟩ := Kd.at_int HR1.out 0 p286 q286
                        cases e286
                        have qi286 : (0 < l1.length) = True := eq_true (by omega)
                        (try rw [show ((0 : Int)).toNat = 0 from rfl] at hx286_0)
                        (try rw [Addr.add_zero'] at hx286_0)
                        replace p286 := eq_true p286
                        replace q286 := eq_true q286
                        go_wp2_with (first | (go_at_call 24; (with_reducible refine (chrysalisref09_Expr.calls (rd l1 0) false _ A43.out).mono ?_); rintro e w' ⟨rfl, ⟨nd, rfl⟩⟩))
                        go_ret
                        exact ⟨by first | rfl | (simp; done) | (simp [*]; done), by repeat (first | exact Drawn0.refl _ | apply Drawn0.step)⟩
                    · rw [if_neg c42] at H
                      exact absurd H (by simp)
                  · rw [if_neg c41] at H
                    have c41b0 : ((l1.length : Int) == 2) = false := beq_eq_false_iff_ne.mpr c41
                    have c41b1 : ((l1.length : Int) != 2) = true := bne_iff_ne.mpr c41
                    obtain rfl := Option.some.inj H
                    go_wp2
                    go_ret
                    exact ⟨by first | rfl | (simp; done) | (simp [*]; done), by repeat (first | exact Drawn0.refl _ | apply Drawn0.step)⟩
                · rw [if_neg c40] at H
                  have c40b0 : (a0 == 10) = false := beq_eq_false_iff_ne.mpr c40
                  have c40b1 : (a0 != 10) = true := bne_iff_ne.mpr c40
                  have HC46 := Aside0.mk H
                  clear H
                  go_upto_if 113 with (fail)
                  go_cut [113] (fun v113 wc => ∃ (kq : Nat) (x113_45 : Bool), v113 = .bool x113_45 ∧ Aside0 (chrysalisref09_kids.j3 kq l1 (l1.length : Int) a0 x113_45 = some r) ∧ Aside0 (kq ≤ kj14) ∧ Drawn0 w wc)
                  case first =>
                    have H := HC46.out
                    clear HC46
                    by_cases c47 : a0 = 6
                    · rw [if_pos c47] at H
                      have c47b0 : (a0 == 6) = true := beq_iff_eq.mpr c47
                      have c47b1 : (a0 != 6) = false := bne_eq_false_iff_eq.mpr c47
                      clear c47
                      (first | rw [c47b0] | (simp only [i64_w, i32_w]; rw [c47b0]) | skip)
                      have H' := Aside0.mk H
                      clear H
                      go_wp2
                      go_meet
                      case rel => exact ⟨_, ((a0 == 6)), (by first | rfl | (simp; done) | (simp [*]; done)), H', ⟨by have := HJ14.out; first | omega | exact Nat.le_refl _⟩, by repeat (first | exact Drawn0.refl _ | apply Drawn0.step)⟩
                    · rw [if_neg c47] at H
                      have c47b0 : (a0 == 6) = false := beq_eq_false_iff_ne.mpr c47
                      have c47b1 : (a0 != 6) = true := bne_iff_ne.mpr c47
                      (first | rw [c47b0] | (simp only [i64_w, i32_w]; rw [c47b0]) | skip)
                      by_cases c48 : a0 = 7
                      · rw [if_pos c48] at H
                        have c48b0 : (a0 == 7) = true := beq_iff_eq.mpr c48
                        have c48b1 : (a0 != 7) = false := bne_eq_false_iff_eq.mpr c48
                        clear c48
                        have H' := Aside0.mk H
                        clear H
                        go_wp2
                        go_meet
                        case rel => exact ⟨_, ((a0 == 7)), (by first | rfl | (simp; done) | (simp [*]; done)), H', ⟨by have := HJ14.out; first | omega | exact Nat.le_refl _⟩, by repeat (first | exact Drawn0.refl _ | apply Drawn0.step)⟩
                      · rw [if_neg c48] at H
                        have c48b0 : (a0 == 7) = false := beq_eq_false_iff_ne.mpr c48
                        have c48b1 : (a0 != 7) = true := bne_iff_ne.mpr c48
                        by_cases c49 : a0 = 13
                        · rw [if_pos c49] at H
                          have c49b0 : (a0 == 13) = true := beq_iff_eq.mpr c49
                          have c49b1 : (a0 != 13) = false := bne_eq_false_iff_eq.mpr c49
                          clear c49
                          have H' := Aside0.mk H
                          clear H
                          go_wp2
                          go_meet
                          case rel => exact ⟨_, ((a0 == 13)), (by first | rfl | (simp; done) | (simp [*]; done)), H', ⟨by have := HJ14.out; first | omega | exact Nat.le_refl _⟩, by repeat (first | exact Drawn0.refl _ | apply Drawn0.step)⟩
                        · rw [if_neg c49] at H
                          have c49b0 : (a0 == 13) = false := beq_eq_false_iff_ne.mpr c49
                          have c49b1 : (a0 != 13) = true := bne_iff_ne.mpr c49
                          by_cases c50 : a0 = 14
                          · rw [if_pos c50] at H
                            have c50b0 : (a0 == 14) = true := beq_iff_eq.mpr c50
                            have c50b1 : (a0 != 14) = false := bne_eq_false_iff_eq.mpr c50
                            clear c50
                            have H' := Aside0.mk H
                            clear H
                            go_wp2
                            go_meet
                            case rel => exact ⟨_, ((a0 == 14)), (by first | rfl | (simp; done) | (simp [*]; done)), H', ⟨by have := HJ14.out; first | omega | exact Nat.le_refl _⟩, by repeat (first | exact Drawn0.refl _ | apply Drawn0.step)⟩
                          · rw [if_neg c50] at H
                            have c50b0 : (a0 == 14) = false := beq_eq_false_iff_ne.mpr c50
                            have c50b1 : (a0 != 14) = true := bne_iff_ne.mpr c50
                            by_cases c51 : a0 = 15
                            · rw [if_pos c51] at H
                              have c51b0 : (a0 == 15) = true := beq_iff_eq.mpr c51
                              have c51b1 : (a0 != 15) = false := bne_eq_false_iff_eq.mpr c51
                              clear c51
                              have H' := Aside0.mk H
                              clear H
                              go_wp2
                              go_meet
                              case rel => exact ⟨_, ((a0 == 15)), (by first | rfl | (simp; done) | (simp [*]; done)), H', ⟨by have := HJ14.out; first | omega | exact Nat.le_refl _⟩, by repeat (first | exact Drawn0.refl _ | apply Drawn0.step)⟩
                            · rw [if_neg c51] at H
                              have c51b0 : (a0 == 15) = false := beq_eq_false_iff_ne.mpr c51
                              have c51b1 : (a0 != 15) = true := bne_iff_ne.mpr c51
                              by_cases c52 : a0 = 17
                              · rw [if_pos c52] at H
                                have c52b0 : (a0 == 17) = true := beq_iff_eq.mpr c52
                                have c52b1 : (a0 != 17) = false := bne_eq_false_iff_eq.mpr c52
                                clear c52
                                have H' := Aside0.mk H
                                clear H
                                go_wp2
                                go_meet
                                case rel => exact ⟨_, ((a0 == 17)), (by first | rfl | (simp; done) | (simp [*]; done)), H', ⟨by have := HJ14.out; first | omega | exact Nat.le_refl _⟩, by repeat (first | exact Drawn0.refl _ | apply Drawn0.step)⟩
                              · rw [if_neg c52] at H
                                have c52b0 : (a0 == 17) = false := beq_eq_false_iff_ne.mpr c52
                                have c52b1 : (a0 != 17) = true := bne_iff_ne.mpr c52
                                by_cases c53 : a0 = 28
                                · rw [if_pos c53] at H
                                  have c53b0 : (a0 == 28) = true := beq_iff_eq.mpr c53
                                  have c53b1 : (a0 != 28) = false := bne_eq_false_iff_eq.mpr c53
                                  clear c53
                                  have H' := Aside0.mk H
                                  clear H
                                  go_wp2
                                  go_meet
                                  case rel => exact ⟨_, ((a0 == 28)), (by first | rfl | (simp; done) | (simp [*]; done)), H', ⟨by have := HJ14.out; first | omega | exact Nat.le_refl _⟩, by repeat (first | exact Drawn0.refl _ | apply Drawn0.step)⟩
                                · rw [if_neg c53] at H
                                  have c53b0 : (a0 == 28) = false := beq_eq_false_iff_ne.mpr c53
                                  have c53b1 : (a0 != 28) = true := bne_iff_ne.mpr c53
                                  have H' := Aside0.mk H
                                  clear H
                                  go_wp2
                                  go_meet
                                  case rel => exact ⟨_, ((a0 == 30)), (by first | rfl | (simp; done) | (simp [*]; done)), H', ⟨by have := HJ14.out; first | omega | exact Nat.le_refl _⟩, by repeat (first | exact Drawn0.refl _ | apply Drawn0.step)⟩
                  case rest =>
                    clear HC46
                    try clear c1
                    try clear c2
                    try clear p2
                    try clear q2
                    try clear hx2
                    try clear qi2
                    try clear c3
                    try clear c3b0
                    try clear c3b1
                    try clear c4
                    try clear c4b0
                    try clear c5
                    try clear c5b0
                    try clear c6
                    try clear c6b0
                    try clear p6
                    try clear c7
                    try clear c7b0
                    try clear c7b1
                    try clear c8
                    try clear c8b0
                    try clear c10
                    try clear c10b0
                    try clear c11
                    try clear c11b0
                    try clear c12
                    try clear c12b0
                    try clear c12b1
                    try clear c13
                    try clear c13b0
                    try clear c13b1
                    try clear c14
                    try clear c14b0
                    try clear c16
                    try clear c16b0
                    try clear c16b1
                    try clear c17
                    try clear c19
                    try clear c19b0
                    try clear c19b1
                    try clear c20
                    try clear c20b0
                    try clear c21
                    try clear c21b0
                    try clear c22
                    try clear c22b0
                    try clear c24
                    try clear c25
                    try clear c25b0
                    try clear c25b1
                    try clear c26
                    try clear c27
                    try clear c27b0
                    try clear c27b1
                    try clear p27
                    try clear q27
                    try clear hx27
                    try clear qi27
                    try clear c28
                    try clear c28b0
                    try clear c28b1
                    try clear p28
                    try clear q28
                    try clear hx28
                    try clear qi28
                    try clear c29
                    try clear c29b0
                    try clear c29b1
                    try clear c31
                    try clear c32
                    try clear c32b0
                    try clear c32b1
                    try clear c33
                    try clear c33b0
                    try clear c33b1
                    try clear c34
                    try clear c34b0
                    try clear c34b1
                    try clear c35
                    try clear c35b0
                    try clear c35b1
                    try clear c36
                    try clear c36b0
                    try clear c36b1
                    try clear c38
                    try clear c39
                    try clear c39b0
                    try clear c39b1
                    try clear c40
                    try clear c40b0
                    try clear c40b1
                    try clear c41
                    try clear c41b0
                    try clear c41b1
                    try clear c42
                    try clear c42b0
                    try clear c42b1
                    try clear c44
                    try clear c45
                    try clear c45b0
                    try clear c45b1
                    try clear c47
                    try clear c47b0
                    try clear c47b1
                    try clear c48
                    try clear c48b0
                    try clear c48b1
                    try clear c49
                    try clear c49b0
                    try clear c49b1
                    try clear c50
                    try clear c50b0
                    try clear c50b1
                    try clear c51
                    try clear c51b0
                    try clear c51b1
                    try clear c52
                    try clear c52b0
                    try clear c52b1
                    try clear c53
                    try clear c53b0
                    try clear c53b1
                    try clear hx270_0
                    try clear hx271_0
                    try clear hx272_0
                    try clear hx273_0
                    try clear hx274_0
                    try clear hx276_0
                    try clear hx279_0
                    try clear hx281_0
                    try clear hx282_0
                    try clear hx283_0
                    try clear hx285_0
                    try clear hx286_0
                    try clear hx288_0
                    try clear p2
                    try clear p270
                    try clear p271
                    try clear p272
                    try clear p273
                    try clear p274
                    try clear p276
                    try clear p279
                    try clear p281
                    try clear p282
                    try clear p283
                    try clear p285
                    try clear p286
                    try clear p288
                    try clear p6
                    try clear q2
                    try clear q270
                    try clear q271
                    try clear q272
                    try clear q273
                    try clear q274
                    try clear q276
                    try clear q279
                    try clear q281
                    try clear q282
                    try clear q283
                    try clear q285
                    try clear q286
                    try clear q288
                    obtain ⟨kq, x113_45, rfl, HA, HJ45, ⟨mc45, rfl⟩⟩ := hcut
                    cases kq with
                    | zero => exact absurd HA.out (by simp [chrysalisref09_kids.j3])
                    | succ kj45 =>
                      have H := HA.out
                      clear HA
                      simp only [chrysalisref09_kids.j3] at H
                      by_cases c54 : x113_45 = true
                      · subst c54
                        have H1 : ((chrysalisref09_exprs.f kj45 l1 1 1).bind fun t289 => (some t289)) = some r := by rw [if_pos rfl] at H; exact H
                        clear H
                        have H := H1
                        clear H1
                        replace H := Option.bind_eq_some_iff.mp H
                        obtain ⟨t289, A550, H⟩ := H
                        replace H : (some t289) = some r := H
                        have A55 := Aside0.mk A550
                        clear A550
                        obtain rfl := Option.some.inj H
                        go_wp2_with (first | ((with_reducible refine gate_callee (f := 45) rfl ?_); refine goesL_ (some 123) rfl rfl Try.func45 (by kernel_rfl) rfl #[.slice A1 l1.length c1, .int .i64 1, .int .i64 1] rfl (by (try simp only [List.map_toArray, List.map_cons, List.map_nil]); first | done | rfl | (simp only [List.length_drop, List.length_take]; rfl)) ?_; (with_reducible refine (chrysalisref09_exprs.calls kj45 _ _ l1 1 1 t289 _ ?side1 ?side2 A55.out).mono ?_); (case side1 => repeat (first | exact HR1.out | (with_reducible refine Kd.C_alloc ?_ _) | (with_reducible refine Kd.C_drewN ?_ _) | (with_reducible refine Kd.C_drew ?_))); (case side2 => exact HC1.out); rintro e w' ⟨rfl, ⟨nd, rfl⟩⟩; refine ⟨_, rfl, ?_⟩))
                        go_ret
                        exact ⟨by first | rfl | (simp; done) | (simp [*]; done), by repeat (first | exact Drawn0.refl _ | apply Drawn0.step)⟩
                      · replace c54 := Bool.eq_false_iff.mpr c54
                        subst c54
                        rw [if_neg (show ¬ (false = true) by decide)] at H
                        have H1 := H
                        clear H
                        have H := H1
                        clear H1
                        by_cases c56 : a0 = 22
                        · rw [if_pos c56] at H
                          have c56b0 : (a0 == 22) = true := beq_iff_eq.mpr c56
                          have c56b1 : (a0 != 22) = false := bne_eq_false_iff_eq.mpr c56
                          clear c56
                          replace H := Option.bind_eq_some_iff.mp H
                          obtain ⟨t290, A570, H⟩ := H
                          replace H : (some t290) = some r := H
                          have A57 := Aside0.mk A570
                          clear A570
                          obtain rfl := Option.some.inj H
                          go_wp2_with (first | ((with_reducible refine gate_callee (f := 45) rfl ?_); refine goesL_ (some 127) rfl rfl Try.func45 (by kernel_rfl) rfl #[.slice A1 l1.length c1, .int .i64 1, .int .i64 9] rfl (by (try simp only [List.map_toArray, List.map_cons, List.map_nil]); first | done | rfl | (simp only [List.length_drop, List.length_take]; rfl)) ?_; (with_reducible refine (chrysalisref09_exprs.calls kj45 _ _ l1 1 9 t290 _ ?side1 ?side2 A57.out).mono ?_); (case side1 => repeat (first | exact HR1.out | (with_reducible refine Kd.C_alloc ?_ _) | (with_reducible refine Kd.C_drewN ?_ _) | (with_reducible refine Kd.C_drew ?_))); (case side2 => exact HC1.out); rintro e w' ⟨rfl, ⟨nd, rfl⟩⟩; refine ⟨_, rfl, ?_⟩))
                          go_ret
                          exact ⟨by first | rfl | (simp; done) | (simp [*]; done), by repeat (first | exact Drawn0.refl _ | apply Drawn0.step)⟩
                        · rw [if_neg c56] at H
                          have c56b0 : (a0 == 22) = false := beq_eq_false_iff_ne.mpr c56
                          have c56b1 : (a0 != 22) = true := bne_iff_ne.mpr c56
                          by_cases c58 : a0 = 23
                          · rw [if_pos c58] at H
                            have c58b0 : (a0 == 23) = true := beq_iff_eq.mpr c58
                            have c58b1 : (a0 != 23) = false := bne_eq_false_iff_eq.mpr c58
                            clear c58
                            replace H := Option.bind_eq_some_iff.mp H
                            obtain ⟨t291, A590, H⟩ := H
                            replace H : (some t291) = some r := H
                            have A59 := Aside0.mk A590
                            clear A590
                            obtain rfl := Option.some.inj H
                            go_wp2_with (first | ((with_reducible refine gate_callee (f := 45) rfl ?_); refine goesL_ (some 131) rfl rfl Try.func45 (by kernel_rfl) rfl #[.slice A1 l1.length c1, .int .i64 0, .int .i64 8] rfl (by (try simp only [List.map_toArray, List.map_cons, List.map_nil]); first | done | rfl | (simp only [List.length_drop, List.length_take]; rfl)) ?_; (with_reducible refine (chrysalisref09_exprs.calls kj45 _ _ l1 0 8 t291 _ ?side1 ?side2 A59.out).mono ?_); (case side1 => repeat (first | exact HR1.out | (with_reducible refine Kd.C_alloc ?_ _) | (with_reducible refine Kd.C_drewN ?_ _) | (with_reducible refine Kd.C_drew ?_))); (case side2 => exact HC1.out); rintro e w' ⟨rfl, ⟨nd, rfl⟩⟩; refine ⟨_, rfl, ?_⟩))
                            go_ret
                            exact ⟨by first | rfl | (simp; done) | (simp [*]; done), by repeat (first | exact Drawn0.refl _ | apply Drawn0.step)⟩
                          · rw [if_neg c58] at H
                            have c58b0 : (a0 == 23) = false := beq_eq_false_iff_ne.mpr c58
                            have c58b1 : (a0 != 23) = true := bne_iff_ne.mpr c58
                            by_cases c60 : a0 = 26
                            · rw [if_pos c60] at H
                              have c60b0 : (a0 == 26) = true := beq_iff_eq.mpr c60
                              have c60b1 : (a0 != 26) = false := bne_eq_false_iff_eq.mpr c60
                              clear c60
                              replace H := Option.bind_eq_some_iff.mp H
                              obtain ⟨t292, A610, H⟩ := H
                              replace H : (some t292) = some r := H
                              have A61 := Aside0.mk A610
                              clear A610
                              obtain rfl := Option.some.inj H
                              go_wp2_with (first | ((with_reducible refine gate_callee (f := 45) rfl ?_); refine goesL_ (some 136) rfl rfl Try.func45 (by kernel_rfl) rfl #[.slice A1 l1.length c1, .int .i64 2, .int .i64 2] rfl (by (try simp only [List.map_toArray, List.map_cons, List.map_nil]); first | done | rfl | (simp only [List.length_drop, List.length_take]; rfl)) ?_; (with_reducible refine (chrysalisref09_exprs.calls kj45 _ _ l1 2 2 t292 _ ?side1 ?side2 A61.out).mono ?_); (case side1 => repeat (first | exact HR1.out | (with_reducible refine Kd.C_alloc ?_ _) | (with_reducible refine Kd.C_drewN ?_ _) | (with_reducible refine Kd.C_drew ?_))); (case side2 => exact HC1.out); rintro e w' ⟨rfl, ⟨nd, rfl⟩⟩; refine ⟨_, rfl, ?_⟩))
                              go_ret
                              exact ⟨by first | rfl | (simp; done) | (simp [*]; done), by repeat (first | exact Drawn0.refl _ | apply Drawn0.step)⟩
                            · rw [if_neg c60] at H
                              have c60b0 : (a0 == 26) = false := beq_eq_false_iff_ne.mpr c60
                              have c60b1 : (a0 != 26) = true := bne_iff_ne.mpr c60
                              by_cases c62 : a0 = 27
                              · rw [if_pos c62] at H
                                have c62b0 : (a0 == 27) = true := beq_iff_eq.mpr c62
                                have c62b1 : (a0 != 27) = false := bne_eq_false_iff_eq.mpr c62
                                clear c62
                                replace H := Option.bind_eq_some_iff.mp H
                                obtain ⟨t293, A630, H⟩ := H
                                replace H : (some t293) = some r := H
                                have A63 := Aside0.mk A630
                                clear A630
                                obtain rfl := Option.some.inj H
                                go_wp2_with (first | ((with_reducible refine gate_callee (f := 45) rfl ?_); refine goesL_ (some 136) rfl rfl Try.func45 (by kernel_rfl) rfl #[.slice A1 l1.length c1, .int .i64 2, .int .i64 2] rfl (by (try simp only [List.map_toArray, List.map_cons, List.map_nil]); first | done | rfl | (simp only [List.length_drop, List.length_take]; rfl)) ?_; (with_reducible refine (chrysalisref09_exprs.calls kj45 _ _ l1 2 2 t293 _ ?side1 ?side2 A63.out).mono ?_); (case side1 => repeat (first | exact HR1.out | (with_reducible refine Kd.C_alloc ?_ _) | (with_reducible refine Kd.C_drewN ?_ _) | (with_reducible refine Kd.C_drew ?_))); (case side2 => exact HC1.out); rintro e w' ⟨rfl, ⟨nd, rfl⟩⟩; refine ⟨_, rfl, ?_⟩))
                                go_ret
                                exact ⟨by first | rfl | (simp; done) | (simp [*]; done), by repeat (first | exact Drawn0.refl _ | apply Drawn0.step)⟩
                              · rw [if_neg c62] at H
                                have c62b0 : (a0 == 27) = false := beq_eq_false_iff_ne.mpr c62
                                have c62b1 : (a0 != 27) = true := bne_iff_ne.mpr c62
                                obtain rfl := Option.some.inj H
                                go_wp2
                                go_ret
                                exact ⟨by first | rfl | (simp; done) | (simp [*]; done), by repeat (first | exact Drawn0.refl _ | apply Drawn0.step)⟩

end Go.Proofs.Ytclhaajlgmiilaa.Q
end
