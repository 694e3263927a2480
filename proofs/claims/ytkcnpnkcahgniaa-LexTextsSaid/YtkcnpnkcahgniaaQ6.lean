/- Functions that the laws reach, as plain Lean functions, each with a proof that the call does what its function says; no condition. -/
import Derived.Test.YtkcnpnkcahgniaaQ0
import Derived.Test.YtkcnpnkcahgniaaQ5
namespace Go.Proofs.Ytkcnpnkcahgniaa.Q
open Go.RowKit Go.Proofs.YtkcnpnkcahgniaaW.PrintWords Go.Proofs.YtkcnpnkcahgniaaW.PrintLast Go.Proofs.YtkcnpnkcahgniaaW.PrintMore
attribute [local go_sem] max2_int min2_int max_two min_two max_three min_three max_four min_four   -- for this text's walks alone
set_option linter.unusedVariables false
set_option linter.unusedSimpArgs false

/-! ### chrysalisref08_skip: function 24 -/
mutual
def chrysalisref08_skip.l0 : Nat → ByteArray → Int → Option (Int)
  | 0, _, _ => none
  | k + 1, x0, x1 => if x1 < (x0.size : Int) then (if 0 ≤ x1 then ((chrysalisref08_blank.f (bt x0 x1)).bind fun t198 => (if t198 = true then (chrysalisref08_skip.j1 k x0 x1 true) else (chrysalisref08_skip.j1 k x0 x1 ((bt x0 x1) == 35)))) else (none)) else (chrysalisref08_skip.j1 k x0 x1 false)
def chrysalisref08_skip.j1 : Nat → ByteArray → Int → Bool → Option (Int)
  | 0, _, _, _ => none
  | k + 1, x0, x1, x20 => if x20 = true then (if 0 ≤ x1 then (if x1 < (x0.size : Int) then (if (bt x0 x1) = 35 then (chrysalisref08_skip.l1 k x0 x1) else (chrysalisref08_skip.l0 k x0 (wrap64 (x1 + 1)))) else (none)) else (none)) else (some x1)
def chrysalisref08_skip.l1 : Nat → ByteArray → Int → Option (Int)
  | 0, _, _ => none
  | k + 1, x0, x1 => if x1 < (x0.size : Int) then (if 0 ≤ x1 then (if (bt x0 x1) = 10 then (chrysalisref08_skip.l0 k x0 x1) else (chrysalisref08_skip.l1 k x0 (wrap64 (x1 + 1)))) else (none)) else (chrysalisref08_skip.l0 k x0 x1)
end
def chrysalisref08_skip.f (k : Nat) (a0 : ByteArray) (a1 : Int) : Option (Int) := chrysalisref08_skip.l0 k a0 a1
theorem chrysalisref08_skip.mono_l : ∀ k, (∀ y0 y1, LeO (chrysalisref08_skip.l0 k y0 y1) (chrysalisref08_skip.l0 (k + 1) y0 y1)) ∧ (∀ y0 y1 y2, LeO (chrysalisref08_skip.j1 k y0 y1 y2) (chrysalisref08_skip.j1 (k + 1) y0 y1 y2)) ∧ (∀ y0 y1, LeO (chrysalisref08_skip.l1 k y0 y1) (chrysalisref08_skip.l1 (k + 1) y0 y1))
  | 0 => ⟨fun _ _ r h => by simp [chrysalisref08_skip.l0] at h, fun _ _ _ r h => by simp [chrysalisref08_skip.j1] at h, fun _ _ r h => by simp [chrysalisref08_skip.l1] at h⟩
  | k + 1 => by
    obtain ⟨ih0, ih1, ih2⟩ := chrysalisref08_skip.mono_l k
    refine ⟨?_, ?_, ?_⟩
    · intro y0 y1
      unfold chrysalisref08_skip.l0
      repeat' first
      | (with_reducible exact ih0 _ _)
      | (with_reducible exact ih1 _ _ _)
      | (with_reducible exact ih2 _ _)
      | (with_reducible exact LeO.refl _)
      | (with_reducible exact LeO.none _)
      | (with_reducible refine LeO.ite ?_ ?_)
      | (with_reducible refine LeO.bind ?_ (fun _ => ?_))
      | exact ih0 _ _
      | exact ih1 _ _ _
      | exact ih2 _ _
      | exact LeO.none _
      | refine LeO.ite ?_ ?_
      | refine LeO.bind ?_ (fun _ => ?_)
    · intro y0 y1 y2
      unfold chrysalisref08_skip.j1
      repeat' first
      | (with_reducible exact ih0 _ _)
      | (with_reducible exact ih1 _ _ _)
      | (with_reducible exact ih2 _ _)
      | (with_reducible exact LeO.refl _)
      | (with_reducible exact LeO.none _)
      | (with_reducible refine LeO.ite ?_ ?_)
      | (with_reducible refine LeO.bind ?_ (fun _ => ?_))
      | exact ih0 _ _
      | exact ih1 _ _ _
      | exact ih2 _ _
      | exact LeO.none _
      | refine LeO.ite ?_ ?_
      | refine LeO.bind ?_ (fun _ => ?_)
    · intro y0 y1
      unfold chrysalisref08_skip.l1
      repeat' first
      | (with_reducible exact ih0 _ _)
      | (with_reducible exact ih1 _ _ _)
      | (with_reducible exact ih2 _ _)
      | (with_reducible exact LeO.refl _)
      | (with_reducible exact LeO.none _)
      | (with_reducible refine LeO.ite ?_ ?_)
      | (with_reducible refine LeO.bind ?_ (fun _ => ?_))
      | exact ih0 _ _
      | exact ih1 _ _ _
      | exact ih2 _ _
      | exact LeO.none _
      | refine LeO.ite ?_ ?_
      | refine LeO.bind ?_ (fun _ => ?_)
theorem chrysalisref08_skip.mono : ∀ a0 a1 k, LeO (chrysalisref08_skip.f k a0 a1) (chrysalisref08_skip.f (k + 1) a0 a1) := by
  intro a0 a1 k
  obtain ⟨ih0, ih1, ih2⟩ := chrysalisref08_skip.mono_l k
  unfold chrysalisref08_skip.f
  repeat' first
      | (with_reducible exact ih0 _ _)
      | (with_reducible exact ih1 _ _ _)
      | (with_reducible exact ih2 _ _)
      | (with_reducible exact LeO.refl _)
      | (with_reducible exact LeO.none _)
      | (with_reducible refine LeO.ite ?_ ?_)
      | (with_reducible refine LeO.bind ?_ (fun _ => ?_))
      | exact ih0 _ _
      | exact ih1 _ _ _
      | exact ih2 _ _
      | exact LeO.none _
      | refine LeO.ite ?_ ?_
      | refine LeO.bind ?_ (fun _ => ?_)
set_option maxHeartbeats 8000000 in
set_option maxRecDepth 100000 in
theorem chrysalisref08_skip.calls (k : Nat) (a0 : ByteArray) (a1 : Int) (r : Int) (w : World) (h : chrysalisref08_skip.f k a0 a1 = some r) :
    Calls Try.prog 24 #[.string a0, .int .i64 a1] w fun e w' => e = .returned (.int .i64 r) ∧ Drawn0 w w' := by
  have H : (chrysalisref08_skip.l0 k a0 a1) = some r := h
  clear h
  have H' := Aside0.mk H
  clear H
  go_enter Try.func24, Try.ntmps24
  go_wp2
  go_loopg [1] k (fun kq v1 w' => ∃ (x1_1 : Int), v1 = .int .i64 x1_1 ∧ Aside0 (chrysalisref08_skip.l0 kq a0 x1_1 = some r) ∧ Aside0 (kq ≤ k) ∧ Drawn0 w w')
  case atStart => exact ⟨(a1), (by first | rfl | (simp; done) | (simp [*]; done)), H', ⟨Nat.le_refl _⟩, by repeat (first | exact Drawn0.refl _ | apply Drawn0.step)⟩
  case round =>
    clear H'
    try clear c2
    try clear p2
    obtain ⟨x1_1, rfl, HA, HK1, ⟨m1, rfl⟩⟩ := hrel
    cases gk with
    | zero => exact absurd HA.out (by simp [chrysalisref08_skip.l0])
    | succ k1 =>
      have H := HA.out
      clear HA
      simp only [chrysalisref08_skip.l0] at H
      have HC3 := Aside0.mk H
      clear H
      go_upto_region 1 with (fail)
      go_cut [20] (fun v20 wc => ∃ (kq : Nat) (x20_2 : Bool), v20 = .bool x20_2 ∧ Aside0 (chrysalisref08_skip.j1 kq a0 x1_1 x20_2 = some r) ∧ Aside0 (kq ≤ k1) ∧ Drawn0 w wc)
      case first =>
        have H := HC3.out
        clear HC3
        by_cases c4 : x1_1 < (a0.size : Int)
        · rw [if_pos c4] at H
          have c4b0 : decide (x1_1 < (a0.size : Int)) = true := decide_eq_true c4
          clear c4
          (first | rw [c4b0] | (simp only [i64_w, i32_w]; rw [c4b0]) | skip)
          by_cases c5 : 0 ≤ x1_1
          · rw [if_pos c5] at H
            have c5b0 : decide (0 ≤ x1_1) = true := decide_eq_true c5
            clear c5
            replace H := Option.bind_eq_some_iff.mp H
            obtain ⟨t198, A70, H⟩ := H
            replace H : (if t198 = true then (chrysalisref08_skip.j1 k1 a0 x1_1 true) else (chrysalisref08_skip.j1 k1 a0 x1_1 ((bt a0 x1_1) == 35))) = some r := H
            have A7 := Aside0.mk A70
            clear A70
            by_cases c8 : t198 = true
            · subst c8
              have H1 : (chrysalisref08_skip.j1 k1 a0 x1_1 true) = some r := by rw [if_pos rfl] at H; exact H
              clear H
              have H := H1
              clear H1
              have H' := Aside0.mk H
              clear H
              have p6 : 0 ≤ (x1_1 : Int) := of_decide_eq_true (by first | (with_reducible assumption) | assumption)
              have q6 : x1_1 < (a0.size : Int) := of_decide_eq_true (by first | (with_reducible assumption) | assumption)
              have hx6 := bt_at a0 x1_1
              replace p6 := eq_true p6
              replace q6 := eq_true q6
              go_wp2_with (first | (go_at_call 38; (with_reducible refine (chrysalisref08_blank.calls (bt a0 x1_1) true _ A7.out).mono ?_); rintro e w' ⟨rfl, ⟨nd, rfl⟩⟩))
              go_meet
              case rel => exact ⟨_, (true), (by first | rfl | (simp; done) | (simp [*]; done)), H', ⟨by have := HK1.out; first | omega | exact Nat.le_refl _⟩, by repeat (first | exact Drawn0.refl _ | apply Drawn0.step)⟩
            · replace c8 := Bool.eq_false_iff.mpr c8
              subst c8
              have H1 : (chrysalisref08_skip.j1 k1 a0 x1_1 ((bt a0 x1_1) == 35)) = some r := by rw [if_neg (show ¬ (false = true) by decide)] at H; exact H
              clear H
              have H := H1
              clear H1
              have H' := Aside0.mk H
              clear H
              have p6 : 0 ≤ (x1_1 : Int) := of_decide_eq_true (by first | (with_reducible assumption) | assumption)
              have q6 : x1_1 < (a0.size : Int) := of_decide_eq_true (by first | (with_reducible assumption) | assumption)
              have hx6 := bt_at a0 x1_1
              replace p6 := eq_true p6
              replace q6 := eq_true q6
              go_wp2_with (first | (go_at_call 38; (with_reducible refine (chrysalisref08_blank.calls (bt a0 x1_1) false _ A7.out).mono ?_); rintro e w' ⟨rfl, ⟨nd, rfl⟩⟩; have p9 : 0 ≤ (x1_1 : Int) := of_decide_eq_true (by first | (with_reducible assumption) | assumption); have q9 : x1_1 < (a0.size : Int) := of_decide_eq_true (by first | (with_reducible assumption) | assumption); have hx9 := bt_at a0 x1_1; replace p9 := eq_true p9; replace q9 := eq_true q9))
              go_meet
              case rel => exact ⟨_, (((bt a0 x1_1) == 35)), (by first | rfl | (simp; done) | (simp [*]; done)), H', ⟨by have := HK1.out; first | omega | exact Nat.le_refl _⟩, by repeat (first | exact Drawn0.refl _ | apply Drawn0.step)⟩
          · rw [if_neg c5] at H
            exact absurd H (by simp)
        · rw [if_neg c4] at H
          have c4b0 : decide (x1_1 < (a0.size : Int)) = false := decide_eq_false c4
          clear c4
          (first | rw [c4b0] | (simp only [i64_w, i32_w]; rw [c4b0]) | skip)
          have H' := Aside0.mk H
          clear H
          go_wp2
          go_meet
          case rel => exact ⟨_, (false), (by first | rfl | (simp; done) | (simp [*]; done)), H', ⟨by have := HK1.out; first | omega | exact Nat.le_refl _⟩, by repeat (first | exact Drawn0.refl _ | apply Drawn0.step)⟩
      case rest =>
        clear HC3
        try clear c2
        try clear p2
        try clear c4
        try clear c4b0
        try clear c5
        try clear c5b0
        try clear p6
        try clear q6
        try clear hx6
        try clear c8
        try clear p9
        try clear q9
        try clear hx9
        try clear p2
        try clear p6
        try clear p9
        try clear q6
        try clear q9
        obtain ⟨kq, x20_2, rfl, HA, HJ2, ⟨mc2, rfl⟩⟩ := hcut
        cases kq with
        | zero => exact absurd HA.out (by simp [chrysalisref08_skip.j1])
        | succ kj2 =>
          have H := HA.out
          clear HA
          simp only [chrysalisref08_skip.j1] at H
          by_cases c10 : x20_2 = true
          · subst c10
            have H1 : (if 0 ≤ x1_1 then (if x1_1 < (a0.size : Int) then (if (bt a0 x1_1) = 35 then (chrysalisref08_skip.l1 kj2 a0 x1_1) else (chrysalisref08_skip.l0 kj2 a0 (wrap64 (x1_1 + 1)))) else (none)) else (none)) = some r := by rw [if_pos rfl] at H; exact H
            clear H
            have H := H1
            clear H1
            by_cases c11 : 0 ≤ x1_1
            · rw [if_pos c11] at H
              have c11b0 : decide (0 ≤ x1_1) = true := decide_eq_true c11
              clear c11
              by_cases c12 : x1_1 < (a0.size : Int)
              · rw [if_pos c12] at H
                have c12b0 : decide (x1_1 < (a0.size : Int)) = true := decide_eq_true c12
                clear c12
                by_cases c14 : (bt a0 x1_1) = 35
                · rw [if_pos c14] at H
                  have c14b0 : ((bt a0 x1_1) == 35) = true := beq_iff_eq.mpr c14
                  have c14b1 : ((bt a0 x1_1) != 35) = false := bne_eq_false_iff_eq.mpr c14
                  clear c14
                  have H' := Aside0.mk H
                  clear H
                  have p13 : 0 ≤ (x1_1 : Int) := of_decide_eq_true (by first | (with_reducible assumption) | assumption)
                  have q13 : x1_1 < (a0.size : Int) := of_decide_eq_true (by first | (with_reducible assumption) | assumption)
                  have hx13 := bt_at a0 x1_1
                  replace p13 := eq_true p13
                  replace q13 := eq_true q13
                  go_wp2
                  go_loopg [1] kj2 (fun kq v1 w' => ∃ (x1_3 : Int), v1 = .int .i64 x1_3 ∧ Aside0 (chrysalisref08_skip.l1 kq a0 x1_3 = some r) ∧ Aside0 (kq ≤ kj2) ∧ Drawn0 w w')
                  case atStart => exact ⟨(x1_1), (by first | rfl | (simp; done) | (simp [*]; done)), H', ⟨Nat.le_refl _⟩, by repeat (first | exact Drawn0.refl _ | apply Drawn0.step)⟩
                  case round =>
                    clear H'
                    try clear c1
                    try clear p1
                    try clear q1
                    try clear hx1
                    try clear c2
                    try clear p2
                    try clear c4
                    try clear c4b0
                    try clear c5
                    try clear c5b0
                    try clear p6
                    try clear q6
                    try clear hx6
                    try clear c8
                    try clear p9
                    try clear q9
                    try clear hx9
                    try clear c10
                    try clear c11
                    try clear c11b0
                    try clear c12
                    try clear c12b0
                    try clear p13
                    try clear q13
                    try clear hx13
                    try clear c14
                    try clear c14b0
                    try clear c14b1
                    try clear p13
                    try clear p2
                    try clear p6
                    try clear p9
                    try clear q13
                    try clear q6
                    try clear q9
                    obtain ⟨x1_3, rfl, HA, HK3, ⟨m3, rfl⟩⟩ := hrel
                    cases gk with
                    | zero => exact absurd HA.out (by simp [chrysalisref08_skip.l1])
                    | succ k3 =>
                      have H := HA.out
                      clear HA
                      simp only [chrysalisref08_skip.l1] at H
                      by_cases c15 : x1_3 < (a0.size : Int)
                      · rw [if_pos c15] at H
                        have c15b0 : decide (x1_3 < (a0.size : Int)) = true := decide_eq_true c15
                        clear c15
                        by_cases c16 : 0 ≤ x1_3
                        · rw [if_pos c16] at H
                          have c16b0 : decide (0 ≤ x1_3) = true := decide_eq_true c16
                          clear c16
                          by_cases c18 : (bt a0 x1_3) = 10
                          · rw [if_pos c18] at H
                            have c18b0 : ((bt a0 x1_3) == 10) = true := beq_iff_eq.mpr c18
                            have c18b1 : ((bt a0 x1_3) != 10) = false := bne_eq_false_iff_eq.mpr c18
                            clear c18
                            have H' := Aside0.mk H
                            clear H
                            have p17 : 0 ≤ (x1_3 : Int) := of_decide_eq_true (by first | (with_reducible assumption) | assumption)
                            have q17 : x1_3 < (a0.size : Int) := of_decide_eq_true (by first | (with_reducible assumption) | assumption)
                            have hx17 := bt_at a0 x1_3
                            replace p17 := eq_true p17
                            replace q17 := eq_true q17
                            go_wp2
                            go_roundg k3
                            case measure => have := HK1.out; have := HJ2.out; have := HK3.out; omega
                            case rel => exact ⟨(x1_3), (by first | rfl | (simp; done) | (simp [*]; done)), H', ⟨by have := HK1.out; have := HJ2.out; have := HK3.out; omega⟩, by repeat (first | exact Drawn0.refl _ | apply Drawn0.step)⟩
                          · rw [if_neg c18] at H
                            have c18b0 : ((bt a0 x1_3) == 10) = false := beq_eq_false_iff_ne.mpr c18
                            have c18b1 : ((bt a0 x1_3) != 10) = true := bne_iff_ne.mpr c18
                            have H' := Aside0.mk H
                            clear H
                            have p17 : 0 ≤ (x1_3 : Int) := of_decide_eq_true (by first | (with_reducible assumption) | assumption)
                            have q17 : x1_3 < (a0.size : Int) := of_decide_eq_true (by first | (with_reducible assumption) | assumption)
                            have hx17 := bt_at a0 x1_3
                            replace p17 := eq_true p17
                            replace q17 := eq_true q17
                            go_wp2
                            go_roundg k3
                            case measure => have := HK1.out; have := HJ2.out; have := HK3.out; omega
                            case rel => exact ⟨(wrap64 (x1_3 + 1)), (by first | rfl | (simp; done) | (simp [*]; done)), H', ⟨by have := HK1.out; have := HJ2.out; have := HK3.out; omega⟩, by repeat (first | exact Drawn0.refl _ | apply Drawn0.step)⟩
                        · rw [if_neg c16] at H
                          exact absurd H (by simp)
                      · rw [if_neg c15] at H
                        have c15b0 : decide (x1_3 < (a0.size : Int)) = false := decide_eq_false c15
                        clear c15
                        have H' := Aside0.mk H
                        clear H
                        go_wp2
                        go_roundg k3
                        case measure => have := HK1.out; have := HJ2.out; have := HK3.out; omega
                        case rel => exact ⟨(x1_3), (by first | rfl | (simp; done) | (simp [*]; done)), H', ⟨by have := HK1.out; have := HJ2.out; have := HK3.out; omega⟩, by repeat (first | exact Drawn0.refl _ | apply Drawn0.step)⟩
                · rw [if_neg c14] at H
                  have c14b0 : ((bt a0 x1_1) == 35) = false := beq_eq_false_iff_ne.mpr c14
                  have c14b1 : ((bt a0 x1_1) != 35) = true := bne_iff_ne.mpr c14
                  have H' := Aside0.mk H
                  clear H
                  have p13 : 0 ≤ (x1_1 : Int) := of_decide_eq_true (by first | (with_reducible assumption) | assumption)
                  have q13 : x1_1 < (a0.size : Int) := of_decide_eq_true (by first | (with_reducible assumption) | assumption)
                  have hx13 := bt_at a0 x1_1
                  replace p13 := eq_true p13
                  replace q13 := eq_true q13
                  go_wp2
                  go_roundg kj2
                  case measure => have := HK1.out; have := HJ2.out; omega
                  case rel => exact ⟨(wrap64 (x1_1 + 1)), (by first | rfl | (simp; done) | (simp [*]; done)), H', ⟨by have := HK1.out; have := HJ2.out; omega⟩, by repeat (first | exact Drawn0.refl _ | apply Drawn0.step)⟩
              · rw [if_neg c12] at H
                exact absurd H (by simp)
            · rw [if_neg c11] at H
              exact absurd H (by simp)
          · replace c10 := Bool.eq_false_iff.mpr c10
            subst c10
            have H1 : (some x1_1) = some r := by rw [if_neg (show ¬ (false = true) by decide)] at H; exact H
            clear H
            have H := H1
            clear H1
            obtain rfl := Option.some.inj H
            go_wp2
            go_ret
            exact ⟨by first | rfl | (simp; done) | (simp [*]; done), by repeat (first | exact Drawn0.refl _ | apply Drawn0.step)⟩

/-! ### chrysalisref08_Key: function 20 -/
def chrysalisref08_Key.l0 : Nat → ByteArray → List ByteArray → Int → Option (Bool)
  | 0, _, _, _ => none
  | k + 1, x0, x3, x4 => if x4 < (x3.length : Int) then (if 0 ≤ x4 then (if (rdOf ByteArray.empty x3 x4).toList = x0.toList then (some true) else (chrysalisref08_Key.l0 k x0 x3 (wrap64 (x4 + 1)))) else (none)) else (some false)
def chrysalisref08_Key.f (k : Nat) (a0 : ByteArray) : Option (Bool) := chrysalisref08_Key.l0 k a0 (([(⟨#[109, 111, 100, 117, 108, 101]⟩ : ByteArray), (⟨#[117, 115, 101]⟩ : ByteArray), (⟨#[102, 110]⟩ : ByteArray), (⟨#[108, 101, 116]⟩ : ByteArray), (⟨#[105, 102]⟩ : ByteArray), (⟨#[101, 108, 115, 101]⟩ : ByteArray), (⟨#[119, 104, 105, 108, 101]⟩ : ByteArray), (⟨#[98, 114, 101, 97, 107]⟩ : ByteArray), (⟨#[99, 111, 110, 116, 105, 110, 117, 101]⟩ : ByteArray), (⟨#[114, 101, 116, 117, 114, 110]⟩ : ByteArray), (⟨#[112, 117, 116]⟩ : ByteArray), (⟨#[101, 109, 105, 116]⟩ : ByteArray), (⟨#[121, 105, 101, 108, 100]⟩ : ByteArray), (⟨#[110, 105, 108]⟩ : ByteArray), (⟨#[115, 116, 97, 116, 101]⟩ : ByteArray), (⟨#[115, 112, 97, 119, 110]⟩ : ByteArray), (⟨#[108, 101, 110]⟩ : ByteArray), (⟨#[110, 111, 116]⟩ : ByteArray), (⟨#[97, 110, 100]⟩ : ByteArray), (⟨#[111, 114]⟩ : ByteArray)] : List ByteArray)) 0
theorem chrysalisref08_Key.mono_l : ∀ k, (∀ y0 y1 y2, LeO (chrysalisref08_Key.l0 k y0 y1 y2) (chrysalisref08_Key.l0 (k + 1) y0 y1 y2))
  | 0 => fun _ _ _ r h => by simp [chrysalisref08_Key.l0] at h
  | k + 1 => by
    have ih0 := chrysalisref08_Key.mono_l k
    · intro y0 y1 y2
      unfold chrysalisref08_Key.l0
      repeat' first
      | (with_reducible exact ih0 _ _ _)
      | (with_reducible exact LeO.refl _)
      | (with_reducible exact LeO.none _)
      | (with_reducible refine LeO.ite ?_ ?_)
      | (with_reducible refine LeO.bind ?_ (fun _ => ?_))
      | exact ih0 _ _ _
      | exact LeO.none _
      | refine LeO.ite ?_ ?_
      | refine LeO.bind ?_ (fun _ => ?_)
theorem chrysalisref08_Key.mono : ∀ a0 k, LeO (chrysalisref08_Key.f k a0) (chrysalisref08_Key.f (k + 1) a0) := by
  intro a0 k
  have ih0 := chrysalisref08_Key.mono_l k
  unfold chrysalisref08_Key.f
  repeat' first
      | (with_reducible exact ih0 _ _ _)
      | (with_reducible exact LeO.refl _)
      | (with_reducible exact LeO.none _)
      | (with_reducible refine LeO.ite ?_ ?_)
      | (with_reducible refine LeO.bind ?_ (fun _ => ?_))
      | exact ih0 _ _ _
      | exact LeO.none _
      | refine LeO.ite ?_ ?_
      | refine LeO.bind ?_ (fun _ => ?_)
set_option maxHeartbeats 8000000 in
set_option maxRecDepth 100000 in
theorem chrysalisref08_Key.calls (k : Nat) (a0 : ByteArray) (r : Bool) (w : World) (h : chrysalisref08_Key.f k a0 = some r) :
    Calls Try.prog 20 #[.string a0] w fun e w' => e = .returned (.bool r) ∧ Below w.heap.size w w' := by
  have HB := Aside0.mk (Below.refl w.heap.size w)
  have H : (chrysalisref08_Key.l0 k a0 (([(⟨#[109, 111, 100, 117, 108, 101]⟩ : ByteArray), (⟨#[117, 115, 101]⟩ : ByteArray), (⟨#[102, 110]⟩ : ByteArray), (⟨#[108, 101, 116]⟩ : ByteArray), (⟨#[105, 102]⟩ : ByteArray), (⟨#[101, 108, 115, 101]⟩ : ByteArray), (⟨#[119, 104, 105, 108, 101]⟩ : ByteArray), (⟨#[98, 114, 101, 97, 107]⟩ : ByteArray), (⟨#[99, 111, 110, 116, 105, 110, 117, 101]⟩ : ByteArray), (⟨#[114, 101, 116, 117, 114, 110]⟩ : ByteArray), (⟨#[112, 117, 116]⟩ : ByteArray), (⟨#[101, 109, 105, 116]⟩ : ByteArray), (⟨#[121, 105, 101, 108, 100]⟩ : ByteArray), (⟨#[110, 105, 108]⟩ : ByteArray), (⟨#[115, 116, 97, 116, 101]⟩ : ByteArray), (⟨#[115, 112, 97, 119, 110]⟩ : ByteArray), (⟨#[108, 101, 110]⟩ : ByteArray), (⟨#[110, 111, 116]⟩ : ByteArray), (⟨#[97, 110, 100]⟩ : ByteArray), (⟨#[111, 114]⟩ : ByteArray)] : List ByteArray)) 0) = some r := h
  clear h
  obtain ⟨y199, hy199⟩ : ∃ y_ : List ByteArray, y_ = (([(⟨#[109, 111, 100, 117, 108, 101]⟩ : ByteArray), (⟨#[117, 115, 101]⟩ : ByteArray), (⟨#[102, 110]⟩ : ByteArray), (⟨#[108, 101, 116]⟩ : ByteArray), (⟨#[105, 102]⟩ : ByteArray), (⟨#[101, 108, 115, 101]⟩ : ByteArray), (⟨#[119, 104, 105, 108, 101]⟩ : ByteArray), (⟨#[98, 114, 101, 97, 107]⟩ : ByteArray), (⟨#[99, 111, 110, 116, 105, 110, 117, 101]⟩ : ByteArray), (⟨#[114, 101, 116, 117, 114, 110]⟩ : ByteArray), (⟨#[112, 117, 116]⟩ : ByteArray), (⟨#[101, 109, 105, 116]⟩ : ByteArray), (⟨#[121, 105, 101, 108, 100]⟩ : ByteArray), (⟨#[110, 105, 108]⟩ : ByteArray), (⟨#[115, 116, 97, 116, 101]⟩ : ByteArray), (⟨#[115, 112, 97, 119, 110]⟩ : ByteArray), (⟨#[108, 101, 110]⟩ : ByteArray), (⟨#[110, 111, 116]⟩ : ByteArray), (⟨#[97, 110, 100]⟩ : ByteArray), (⟨#[111, 114]⟩ : ByteArray)] : List ByteArray)) := ⟨_, rfl⟩
  replace H : (chrysalisref08_Key.l0 k a0 y199 0) = some r := by first | (rw [hy199]; with_reducible exact H) | (have H2_ := (Option.bind_some _ _).symm.trans H; rw [hy199]; with_reducible exact H2_) | (have H2_ := (Option.bind_some _ _).symm.trans H; with_reducible exact H2_) | with_reducible exact H | (rw [hy199]; exact H) | exact H
  have Ny199 := Aside0.mk hy199
  clear hy199
  have H' := Aside0.mk H
  clear H
  go_enter Try.func20, Try.ntmps20
  go_wp2_with (first | ((with_reducible refine gate_dst (N := 5) rfl ?_); refine Kd.R_lit Kd.string _ 9 ?hg (N := 5) ?hd (xs := ([(⟨#[109, 111, 100, 117, 108, 101]⟩ : ByteArray), (⟨#[117, 115, 101]⟩ : ByteArray), (⟨#[102, 110]⟩ : ByteArray), (⟨#[108, 101, 116]⟩ : ByteArray), (⟨#[105, 102]⟩ : ByteArray), (⟨#[101, 108, 115, 101]⟩ : ByteArray), (⟨#[119, 104, 105, 108, 101]⟩ : ByteArray), (⟨#[98, 114, 101, 97, 107]⟩ : ByteArray), (⟨#[99, 111, 110, 116, 105, 110, 117, 101]⟩ : ByteArray), (⟨#[114, 101, 116, 117, 114, 110]⟩ : ByteArray), (⟨#[112, 117, 116]⟩ : ByteArray), (⟨#[101, 109, 105, 116]⟩ : ByteArray), (⟨#[121, 105, 101, 108, 100]⟩ : ByteArray), (⟨#[110, 105, 108]⟩ : ByteArray), (⟨#[115, 116, 97, 116, 101]⟩ : ByteArray), (⟨#[115, 112, 97, 119, 110]⟩ : ByteArray), (⟨#[108, 101, 110]⟩ : ByteArray), (⟨#[110, 111, 116]⟩ : ByteArray), (⟨#[97, 110, 100]⟩ : ByteArray), (⟨#[111, 114]⟩ : ByteArray)] : List ByteArray)) (inner := [.string (⟨#[109, 111, 100, 117, 108, 101]⟩ : ByteArray), .string (⟨#[117, 115, 101]⟩ : ByteArray), .string (⟨#[102, 110]⟩ : ByteArray), .string (⟨#[108, 101, 116]⟩ : ByteArray), .string (⟨#[105, 102]⟩ : ByteArray), .string (⟨#[101, 108, 115, 101]⟩ : ByteArray), .string (⟨#[119, 104, 105, 108, 101]⟩ : ByteArray), .string (⟨#[98, 114, 101, 97, 107]⟩ : ByteArray), .string (⟨#[99, 111, 110, 116, 105, 110, 117, 101]⟩ : ByteArray), .string (⟨#[114, 101, 116, 117, 114, 110]⟩ : ByteArray), .string (⟨#[112, 117, 116]⟩ : ByteArray), .string (⟨#[101, 109, 105, 116]⟩ : ByteArray), .string (⟨#[121, 105, 101, 108, 100]⟩ : ByteArray), .string (⟨#[110, 105, 108]⟩ : ByteArray), .string (⟨#[115, 116, 97, 116, 101]⟩ : ByteArray), .string (⟨#[115, 112, 97, 119, 110]⟩ : ByteArray), .string (⟨#[108, 101, 110]⟩ : ByteArray), .string (⟨#[110, 111, 116]⟩ : ByteArray), .string (⟨#[97, 110, 100]⟩ : ByteArray), .string (⟨#[111, 114]⟩ : ByteArray)]) (ok := fun _ => True) (okp := fun _ => True) ?hr ?hp (fun _ hk => hk) trivial (Below.refl _ _) (Nat.le_refl _) (by simp) ?_; (case hd => rfl); (case hg => rfl); (case hr => first | (go_simp; done) | (go_simp; rfl)); (case hp => exact (Reps.one (show Kd.M Kd.string _ _ _ (⟨#[109, 111, 100, 117, 108, 101]⟩ : ByteArray) [.string (⟨#[109, 111, 100, 117, 108, 101]⟩ : ByteArray)] from rfl) (Reps.one (show Kd.M Kd.string _ _ _ (⟨#[117, 115, 101]⟩ : ByteArray) [.string (⟨#[117, 115, 101]⟩ : ByteArray)] from rfl) (Reps.one (show Kd.M Kd.string _ _ _ (⟨#[102, 110]⟩ : ByteArray) [.string (⟨#[102, 110]⟩ : ByteArray)] from rfl) (Reps.one (show Kd.M Kd.string _ _ _ (⟨#[108, 101, 116]⟩ : ByteArray) [.string (⟨#[108, 101, 116]⟩ : ByteArray)] from rfl) (Reps.one (show Kd.M Kd.string _ _ _ (⟨#[105, 102]⟩ : ByteArray) [.string (⟨#[105, 102]⟩ : ByteArray)] from rfl) (Reps.one (show Kd.M Kd.string _ _ _ (⟨#[101, 108, 115, 101]⟩ : ByteArray) [.string (⟨#[101, 108, 115, 101]⟩ : ByteArray)] from rfl) (Reps.one (show Kd.M Kd.string _ _ _ (⟨#[119, 104, 105, 108, 101]⟩ : ByteArray) [.string (⟨#[119, 104, 105, 108, 101]⟩ : ByteArray)] from rfl) (Reps.one (show Kd.M Kd.string _ _ _ (⟨#[98, 114, 101, 97, 107]⟩ : ByteArray) [.string (⟨#[98, 114, 101, 97, 107]⟩ : ByteArray)] from rfl) (Reps.one (show Kd.M Kd.string _ _ _ (⟨#[99, 111, 110, 116, 105, 110, 117, 101]⟩ : ByteArray) [.string (⟨#[99, 111, 110, 116, 105, 110, 117, 101]⟩ : ByteArray)] from rfl) (Reps.one (show Kd.M Kd.string _ _ _ (⟨#[114, 101, 116, 117, 114, 110]⟩ : ByteArray) [.string (⟨#[114, 101, 116, 117, 114, 110]⟩ : ByteArray)] from rfl) (Reps.one (show Kd.M Kd.string _ _ _ (⟨#[112, 117, 116]⟩ : ByteArray) [.string (⟨#[112, 117, 116]⟩ : ByteArray)] from rfl) (Reps.one (show Kd.M Kd.string _ _ _ (⟨#[101, 109, 105, 116]⟩ : ByteArray) [.string (⟨#[101, 109, 105, 116]⟩ : ByteArray)] from rfl) (Reps.one (show Kd.M Kd.string _ _ _ (⟨#[121, 105, 101, 108, 100]⟩ : ByteArray) [.string (⟨#[121, 105, 101, 108, 100]⟩ : ByteArray)] from rfl) (Reps.one (show Kd.M Kd.string _ _ _ (⟨#[110, 105, 108]⟩ : ByteArray) [.string (⟨#[110, 105, 108]⟩ : ByteArray)] from rfl) (Reps.one (show Kd.M Kd.string _ _ _ (⟨#[115, 116, 97, 116, 101]⟩ : ByteArray) [.string (⟨#[115, 116, 97, 116, 101]⟩ : ByteArray)] from rfl) (Reps.one (show Kd.M Kd.string _ _ _ (⟨#[115, 112, 97, 119, 110]⟩ : ByteArray) [.string (⟨#[115, 112, 97, 119, 110]⟩ : ByteArray)] from rfl) (Reps.one (show Kd.M Kd.string _ _ _ (⟨#[108, 101, 110]⟩ : ByteArray) [.string (⟨#[108, 101, 110]⟩ : ByteArray)] from rfl) (Reps.one (show Kd.M Kd.string _ _ _ (⟨#[110, 111, 116]⟩ : ByteArray) [.string (⟨#[110, 111, 116]⟩ : ByteArray)] from rfl) (Reps.one (show Kd.M Kd.string _ _ _ (⟨#[97, 110, 100]⟩ : ByteArray) [.string (⟨#[97, 110, 100]⟩ : ByteArray)] from rfl) (Reps.one (show Kd.M Kd.string _ _ _ (⟨#[111, 114]⟩ : ByteArray) [.string (⟨#[111, 114]⟩ : ByteArray)] from rfl) (Reps.none _ _)))))))))))))))))))))); intro v200 w2 ho3 hb hg_ hnew_; clear hg_ hnew_; (first | rw [← Ny199.out] at ho3 | (simp only [Int.reduceToNat] at ho3; rw [← Ny199.out] at ho3)); have n0_ := Aside0.mk (Kd.R_lower ho3 (below_size (by repeat (first | (with_reducible first | exact HB.out | apply below_alloc | apply pw_below_drewN | apply below_drew1) | exact HB.out)))); have n1_ := Aside0.mk (below_step (by repeat (first | (with_reducible first | exact HB.out | apply below_alloc | apply pw_below_drewN | apply below_drew1) | exact HB.out)) hb); clear HB; have HO201 := n0_; have HB := n1_; clear n0_ n1_; clear hb ho3))
  go_loopg [4] k (fun kq v4 w' => ∃ (x4_1 : Int), v4 = .int .i64 x4_1 ∧ Aside0 (chrysalisref08_Key.l0 kq a0 y199 x4_1 = some r) ∧ Aside0 (kq ≤ k) ∧ Aside0 (Kd.R Kd.string 9 w' w.heap.size (fun _ => True) v200 y199) ∧ Aside0 (Below w.heap.size w w'))
  case atStart => exact ⟨(0), (by first | rfl | (simp; done) | (simp [*]; done)), H', ⟨Nat.le_refl _⟩, ⟨by (with_reducible repeat (first | apply Kd.R_alloc | apply Kd.R_drewN | apply Kd.R_drew)); exact HO201.out⟩, ⟨by repeat (first | (with_reducible first | exact HB.out | apply below_alloc | apply pw_below_drewN | apply below_drew1) | exact HB.out)⟩⟩
  case round =>
    clear H'
    try clear c2
    try clear p2
    obtain ⟨x4_1, rfl, HA, HK1, HO_3, HB⟩ := hrel
    cases gk with
    | zero => exact absurd HA.out (by simp [chrysalisref08_Key.l0])
    | succ k1 =>
      have H := HA.out
      clear HA
      simp only [chrysalisref08_Key.l0] at H
      by_cases c4 : x4_1 < (y199.length : Int)
      · rw [if_pos c4] at H
        have c4b0 : decide (x4_1 < (y199.length : Int)) = true := decide_eq_true c4
        clear c4
        by_cases c5 : 0 ≤ x4_1
        · rw [if_pos c5] at H
          have c5b0 : decide (0 ≤ x4_1) = true := decide_eq_true c5
          clear c5
          by_cases c6 : (rdOf ByteArray.empty y199 x4_1).toList = a0.toList
          · rw [if_pos c6] at H
            have c6b0 : ((rdOf ByteArray.empty y199 x4_1).toList == a0.toList) = true := beq_iff_eq.mpr c6
            have c6b1 : ((rdOf ByteArray.empty y199 x4_1).toList != a0.toList) = false := bne_eq_false_iff_eq.mpr c6
            clear c6
            obtain rfl := Option.some.inj H
            obtain ⟨Ao7, co7, eo7⟩ := Kd.R_slice HO_3.out
            subst eo7
            have p202 : 0 ≤ (x4_1 : Int) := of_decide_eq_true (by first | (with_reducible assumption) | assumption)
            have q202 : x4_1 < (y199.length : Int) := of_decide_eq_true (by first | (with_reducible assumption) | assumption)
            obtain ⟨ad202, e202, hx202_0⟩ := Kd.at_string (Kd.R_reads' HO_3.out).2.2 x4_1 p202 q202
            cases e202
            replace p202 := eq_true p202
            replace q202 := eq_true q202
            go_wp2
            go_ret
            exact ⟨by first | rfl | (simp [errW_none, errW_some] <;> rfl) | (simp [*, errW_none, errW_some] <;> rfl), by repeat (first | (with_reducible first | exact HB.out | apply below_alloc | apply pw_below_drewN | apply below_drew1) | exact HB.out)⟩
          · rw [if_neg c6] at H
            have c6b0 : ((rdOf ByteArray.empty y199 x4_1).toList == a0.toList) = false := beq_eq_false_iff_ne.mpr c6
            have c6b1 : ((rdOf ByteArray.empty y199 x4_1).toList != a0.toList) = true := bne_iff_ne.mpr c6
            have H' := Aside0.mk H
            clear H
            obtain ⟨Ao8, co8, eo8⟩ := Kd.R_slice HO_3.out
            subst eo8
            have p202 : 0 ≤ (x4_1 : Int) := of_decide_eq_true (by first | (with_reducible assumption) | assumption)
            have q202 : x4_1 < (y199.length : Int) := of_decide_eq_true (by first | (with_reducible assumption) | assumption)
            obtain ⟨ad202, e202, hx202_0⟩ := Kd.at_string (Kd.R_reads' HO_3.out).2.2 x4_1 p202 q202
            cases e202
            replace p202 := eq_true p202
            replace q202 := eq_true q202
            go_wp2
            go_roundg k1
            case measure => have := HK1.out; omega
            case rel => exact ⟨(wrap64 (x4_1 + 1)), (by first | rfl | (simp; done) | (simp [*]; done)), H', ⟨by have := HK1.out; omega⟩, ⟨by (with_reducible repeat (first | apply Kd.R_alloc | apply Kd.R_drewN | apply Kd.R_drew)); exact HO_3.out⟩, ⟨by repeat (first | (with_reducible first | exact HB.out | apply below_alloc | apply pw_below_drewN | apply below_drew1) | exact HB.out)⟩⟩
        · rw [if_neg c5] at H
          exact absurd H (by simp)
      · rw [if_neg c4] at H
        have c4b0 : decide (x4_1 < (y199.length : Int)) = false := decide_eq_false c4
        clear c4
        obtain rfl := Option.some.inj H
        obtain ⟨Ao9, co9, eo9⟩ := Kd.R_slice HO_3.out
        subst eo9
        go_wp2
        go_ret
        exact ⟨by first | rfl | (simp [errW_none, errW_some] <;> rfl) | (simp [*, errW_none, errW_some] <;> rfl), by repeat (first | (with_reducible first | exact HB.out | apply below_alloc | apply pw_below_drewN | apply below_drew1) | exact HB.out)⟩

/-! ### chrysalisref08_letter: function 39 -/
def chrysalisref08_letter.f (a0 : Int) : Option (Bool) := if a0 ≥ 97 then (some (decide (a0 ≤ 122))) else (some false)
set_option maxHeartbeats 8000000 in
set_option maxRecDepth 100000 in
theorem chrysalisref08_letter.calls (a0 : Int) (r : Bool) (w : World) (h : chrysalisref08_letter.f a0 = some r) :
    Calls Try.prog 39 #[.int .u8 a0] w fun e w' => e = .returned (.bool r) ∧ Drawn0 w w' := by
  have H : (if a0 ≥ 97 then (some (decide (a0 ≤ 122))) else (some false)) = some r := h
  clear h
  by_cases c2 : a0 ≥ 97
  · rw [if_pos c2] at H
    have c2b0 : decide (97 ≤ a0) = true := decide_eq_true c2
    clear c2
    obtain rfl := Option.some.inj H
    go_enter Try.func39, Try.ntmps39
    go_wp2
    go_ret
    exact ⟨by first | rfl | (simp; done) | (simp [*]; done), by repeat (first | exact Drawn0.refl _ | apply Drawn0.step)⟩
  · rw [if_neg c2] at H
    have c2b0 : decide (97 ≤ a0) = false := decide_eq_false c2
    clear c2
    obtain rfl := Option.some.inj H
    go_enter Try.func39, Try.ntmps39
    go_wp2
    go_ret
    exact ⟨by first | rfl | (simp; done) | (simp [*]; done), by repeat (first | exact Drawn0.refl _ | apply Drawn0.step)⟩

end Go.Proofs.Ytkcnpnkcahgniaa.Q
