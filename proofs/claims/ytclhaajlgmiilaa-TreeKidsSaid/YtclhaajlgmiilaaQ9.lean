/- Functions that the laws reach, as plain Lean functions, each with a proof that the call does what its function says; no condition. -/
import Derived.Test.YtclhaajlgmiilaaQ0
namespace Go.Proofs.Ytclhaajlgmiilaa.Q
open Go.RowKit Go.Proofs.YtclhaajlgmiilaaW.PrintWords Go.Proofs.YtclhaajlgmiilaaW.PrintLast Go.Proofs.YtclhaajlgmiilaaW.PrintMore
attribute [local go_sem] max2_int min2_int max_two min_two max_three min_three max_four min_four   -- for this text's walks alone
set_option linter.unusedVariables false
set_option linter.unusedSimpArgs false

/-! ### tree_among: function 46 -/
mutual
def tree_among.l0 : Nat → ByteArray → ByteArray → Int → Int → Option (Bool)
  | 0, _, _, _, _ => none
  | k + 1, x0, x1, x9, x10 => if x10 < x9 then (if 0 ≤ x10 then (if x10 < (x1.size : Int) then (if (bt x1 x10) = 32 then (some false) else (tree_among.l0 k x0 x1 x9 (wrap64 (x10 + 1)))) else (none)) else (none)) else (tree_among.l1 k x0 x1 (wrap64 ((x1.size : Int) + 2)) 0)
def tree_among.l1 : Nat → ByteArray → ByteArray → Int → Int → Option (Bool)
  | 0, _, _, _, _ => none
  | k + 1, x0, x1, x6, x7 => if x1.toList = ([] : List UInt8) then (tree_among.j2 k x0 x1 x6 x7 false) else (tree_among.j2 k x0 x1 x6 x7 (decide ((wrap64 (x7 + x6)) ≤ (x0.size : Int))))
def tree_among.j2 : Nat → ByteArray → ByteArray → Int → Int → Bool → Option (Bool)
  | 0, _, _, _, _, _ => none
  | k + 1, x0, x1, x6, x7, x30 => if x30 = true then (if 0 ≤ x7 then (if x7 ≤ (wrap64 (x7 + x6)) then (if (wrap64 (x7 + x6)) ≤ (x0.size : Int) then (if 1 + x1.size ≤ 9223372036854775807 then (if ((⟨#[32]⟩ : ByteArray) ++ x1).size + 1 ≤ 9223372036854775807 then (if (x0.extract (x7 : Int).toNat ((wrap64 (x7 + x6)) : Int).toNat).toList = (((⟨#[32]⟩ : ByteArray) ++ x1) ++ (⟨#[32]⟩ : ByteArray)).toList then (some true) else (tree_among.l1 k x0 x1 x6 (wrap64 (x7 + 1)))) else (none)) else (none)) else (none)) else (none)) else (none)) else (some false)
end
def tree_among.f (k : Nat) (a0 : ByteArray) (a1 : ByteArray) : Option (Bool) := tree_among.l0 k a0 a1 (a1.size : Int) 0
theorem tree_among.mono_l : ∀ k, (∀ y0 y1 y2 y3, LeO (tree_among.l0 k y0 y1 y2 y3) (tree_among.l0 (k + 1) y0 y1 y2 y3)) ∧ (∀ y0 y1 y2 y3, LeO (tree_among.l1 k y0 y1 y2 y3) (tree_among.l1 (k + 1) y0 y1 y2 y3)) ∧ (∀ y0 y1 y2 y3 y4, LeO (tree_among.j2 k y0 y1 y2 y3 y4) (tree_among.j2 (k + 1) y0 y1 y2 y3 y4))
  | 0 => ⟨fun _ _ _ _ r h => by simp [tree_among.l0] at h, fun _ _ _ _ r h => by simp [tree_among.l1] at h, fun _ _ _ _ _ r h => by simp [tree_among.j2] at h⟩
  | k + 1 => by
    obtain ⟨ih0, ih1, ih2⟩ := tree_among.mono_l k
    refine ⟨?_, ?_, ?_⟩
    · intro y0 y1 y2 y3
      unfold tree_among.l0
      repeat' first
      | (with_reducible exact ih0 _ _ _ _)
      | (with_reducible exact ih1 _ _ _ _)
      | (with_reducible exact ih2 _ _ _ _ _)
      | (with_reducible exact LeO.refl _)
      | (with_reducible exact LeO.none _)
      | (with_reducible refine LeO.ite ?_ ?_)
      | (with_reducible refine LeO.bind ?_ (fun _ => ?_))
      | exact ih0 _ _ _ _
      | exact ih1 _ _ _ _
      | exact ih2 _ _ _ _ _
      | exact LeO.none _
      | refine LeO.ite ?_ ?_
      | refine LeO.bind ?_ (fun _ => ?_)
    · intro y0 y1 y2 y3
      unfold tree_among.l1
      repeat' first
      | (with_reducible exact ih0 _ _ _ _)
      | (with_reducible exact ih1 _ _ _ _)
      | (with_reducible exact ih2 _ _ _ _ _)
      | (with_reducible exact LeO.refl _)
      | (with_reducible exact LeO.none _)
      | (with_reducible refine LeO.ite ?_ ?_)
      | (with_reducible refine LeO.bind ?_ (fun _ => ?_))
      | exact ih0 _ _ _ _
      | exact ih1 _ _ _ _
      | exact ih2 _ _ _ _ _
      | exact LeO.none _
      | refine LeO.ite ?_ ?_
      | refine LeO.bind ?_ (fun _ => ?_)
    · intro y0 y1 y2 y3 y4
      unfold tree_among.j2
      repeat' first
      | (with_reducible exact ih0 _ _ _ _)
      | (with_reducible exact ih1 _ _ _ _)
      | (with_reducible exact ih2 _ _ _ _ _)
      | (with_reducible exact LeO.refl _)
      | (with_reducible exact LeO.none _)
      | (with_reducible refine LeO.ite ?_ ?_)
      | (with_reducible refine LeO.bind ?_ (fun _ => ?_))
      | exact ih0 _ _ _ _
      | exact ih1 _ _ _ _
      | exact ih2 _ _ _ _ _
      | exact LeO.none _
      | refine LeO.ite ?_ ?_
      | refine LeO.bind ?_ (fun _ => ?_)
theorem tree_among.mono : ∀ a0 a1 k, LeO (tree_among.f k a0 a1) (tree_among.f (k + 1) a0 a1) := by
  intro a0 a1 k
  obtain ⟨ih0, ih1, ih2⟩ := tree_among.mono_l k
  unfold tree_among.f
  repeat' first
      | (with_reducible exact ih0 _ _ _ _)
      | (with_reducible exact ih1 _ _ _ _)
      | (with_reducible exact ih2 _ _ _ _ _)
      | (with_reducible exact LeO.refl _)
      | (with_reducible exact LeO.none _)
      | (with_reducible refine LeO.ite ?_ ?_)
      | (with_reducible refine LeO.bind ?_ (fun _ => ?_))
      | exact ih0 _ _ _ _
      | exact ih1 _ _ _ _
      | exact ih2 _ _ _ _ _
      | exact LeO.none _
      | refine LeO.ite ?_ ?_
      | refine LeO.bind ?_ (fun _ => ?_)
set_option maxHeartbeats 8000000 in
set_option maxRecDepth 100000 in
theorem tree_among.calls (k : Nat) (a0 : ByteArray) (a1 : ByteArray) (r : Bool) (w : World) (h : tree_among.f k a0 a1 = some r) :
    Calls Try.prog 46 #[.string a0, .string a1] w fun e w' => e = .returned (.bool r) ∧ Drawn0 w w' := by
  have H : (tree_among.l0 k a0 a1 (a1.size : Int) 0) = some r := h
  clear h
  have H' := Aside0.mk H
  clear H
  go_enter Try.func46, Try.ntmps46
  go_wp2
  go_loopg [10] k (fun kq v10 w' => ∃ (x10_1 : Int), v10 = .int .i64 x10_1 ∧ Aside0 (tree_among.l0 kq a0 a1 (a1.size : Int) x10_1 = some r) ∧ Aside0 (kq ≤ k) ∧ Drawn0 w w')
  case atStart => exact ⟨(0), (by first | rfl | (simp; done) | (simp [*]; done)), H', ⟨Nat.le_refl _⟩, by repeat (first | exact Drawn0.refl _ | apply Drawn0.step)⟩
  case round =>
    clear H'
    try clear p2
    obtain ⟨x10_1, rfl, HA, HK1, ⟨m1, rfl⟩⟩ := hrel
    cases gk with
    | zero => exact absurd HA.out (by simp [tree_among.l0])
    | succ k1 =>
      have H := HA.out
      clear HA
      simp only [tree_among.l0] at H
      by_cases c3 : x10_1 < (a1.size : Int)
      · rw [if_pos c3] at H
        have c3b0 : decide (x10_1 < (a1.size : Int)) = true := decide_eq_true c3
        clear c3
        by_cases c4 : 0 ≤ x10_1
        · rw [if_pos c4] at H
          have c4b0 : decide (0 ≤ x10_1) = true := decide_eq_true c4
          clear c4
          by_cases c5 : x10_1 < (a1.size : Int)
          · rw [if_pos c5] at H
            have c5b0 : decide (x10_1 < (a1.size : Int)) = true := decide_eq_true c5
            clear c5
            by_cases c7 : (bt a1 x10_1) = 32
            · rw [if_pos c7] at H
              have c7b0 : ((bt a1 x10_1) == 32) = true := beq_iff_eq.mpr c7
              have c7b1 : ((bt a1 x10_1) != 32) = false := bne_eq_false_iff_eq.mpr c7
              clear c7
              obtain rfl := Option.some.inj H
              have p6 : 0 ≤ (x10_1 : Int) := of_decide_eq_true (by first | (with_reducible assumption) | assumption)
              have q6 : x10_1 < (a1.size : Int) := of_decide_eq_true (by first | (with_reducible assumption) | assumption)
              have hx6 := bt_at a1 x10_1
              replace p6 := eq_true p6
              replace q6 := eq_true q6
              go_wp2
              go_ret
              exact ⟨by first | rfl | (simp; done) | (simp [*]; done), by repeat (first | exact Drawn0.refl _ | apply Drawn0.step)⟩
            · rw [if_neg c7] at H
              have c7b0 : ((bt a1 x10_1) == 32) = false := beq_eq_false_iff_ne.mpr c7
              have c7b1 : ((bt a1 x10_1) != 32) = true := bne_iff_ne.mpr c7
              have H' := Aside0.mk H
              clear H
              have p6 : 0 ≤ (x10_1 : Int) := of_decide_eq_true (by first | (with_reducible assumption) | assumption)
              have q6 : x10_1 < (a1.size : Int) := of_decide_eq_true (by first | (with_reducible assumption) | assumption)
              have hx6 := bt_at a1 x10_1
              replace p6 := eq_true p6
              replace q6 := eq_true q6
              go_wp2
              go_roundg k1
              case measure => have := HK1.out; omega
              case rel => exact ⟨(wrap64 (x10_1 + 1)), (by first | rfl | (simp; done) | (simp [*]; done)), H', ⟨by have := HK1.out; omega⟩, by repeat (first | exact Drawn0.refl _ | apply Drawn0.step)⟩
          · rw [if_neg c5] at H
            exact absurd H (by simp)
        · rw [if_neg c4] at H
          exact absurd H (by simp)
      · rw [if_neg c3] at H
        have c3b0 : decide (x10_1 < (a1.size : Int)) = false := decide_eq_false c3
        clear c3
        have H' := Aside0.mk H
        clear H
        go_wp2
        go_loopg [7] k1 (fun kq v7 w' => ∃ (x7_2 : Int), v7 = .int .i64 x7_2 ∧ Aside0 (tree_among.l1 kq a0 a1 (wrap64 ((a1.size : Int) + 2)) x7_2 = some r) ∧ Aside0 (kq ≤ k1) ∧ Drawn0 w w')
        case atStart => exact ⟨(0), (by first | rfl | (simp; done) | (simp [*]; done)), H', ⟨Nat.le_refl _⟩, by repeat (first | exact Drawn0.refl _ | apply Drawn0.step)⟩
        case round =>
          clear H'
          try clear p2
          try clear c3
          try clear c3b0
          try clear c4
          try clear c4b0
          try clear c5
          try clear c5b0
          try clear p6
          try clear q6
          try clear hx6
          try clear c7
          try clear c7b0
          try clear c7b1
          try clear p2
          try clear p6
          try clear q6
          obtain ⟨x7_2, rfl, HA, HK2, ⟨m2, rfl⟩⟩ := hrel
          cases gk with
          | zero => exact absurd HA.out (by simp [tree_among.l1])
          | succ k2 =>
            have H := HA.out
            clear HA
            simp only [tree_among.l1] at H
            have HC8 := Aside0.mk H
            clear H
            go_upto_region 9 with (fail)
            go_cut [30] (fun v30 wc => ∃ (kq : Nat) (x30_7 : Bool), v30 = .bool x30_7 ∧ Aside0 (tree_among.j2 kq a0 a1 (wrap64 ((a1.size : Int) + 2)) x7_2 x30_7 = some r) ∧ Aside0 (kq ≤ k2) ∧ Drawn0 w wc)
            case first =>
              have H := HC8.out
              clear HC8
              by_cases c9 : a1.toList = ([] : List UInt8)
              · rw [if_pos c9] at H
                have c9b0 : (a1.toList == ([] : List UInt8)) = true := beq_iff_eq.mpr c9
                have c9b1 : (a1.toList != ([] : List UInt8)) = false := bne_eq_false_iff_eq.mpr c9
                clear c9
                (first | rw [c9b0] | (simp only [i64_w, i32_w]; rw [c9b0]) | skip)
                have H' := Aside0.mk H
                clear H
                go_wp2
                go_meet
                case rel => exact ⟨_, (false), (by first | rfl | (simp; done) | (simp [*]; done)), H', ⟨by have := HK1.out; have := HK2.out; first | omega | exact Nat.le_refl _⟩, by repeat (first | exact Drawn0.refl _ | apply Drawn0.step)⟩
              · rw [if_neg c9] at H
                have c9b0 : (a1.toList == ([] : List UInt8)) = false := beq_eq_false_iff_ne.mpr c9
                have c9b1 : (a1.toList != ([] : List UInt8)) = true := bne_iff_ne.mpr c9
                (first | rw [c9b0] | (simp only [i64_w, i32_w]; rw [c9b0]) | skip)
                have H' := Aside0.mk H
                clear H
                go_wp2
                go_meet
                case rel => exact ⟨_, (decide ((wrap64 (x7_2 + (wrap64 ((a1.size : Int) + 2)))) ≤ (a0.size : Int))), (by first | rfl | (simp; done) | (simp [*]; done)), H', ⟨by have := HK1.out; have := HK2.out; first | omega | exact Nat.le_refl _⟩, by repeat (first | exact Drawn0.refl _ | apply Drawn0.step)⟩
            case rest =>
              clear HC8
              try clear p2
              try clear c3
              try clear c3b0
              try clear c4
              try clear c4b0
              try clear c5
              try clear c5b0
              try clear p6
              try clear q6
              try clear hx6
              try clear c7
              try clear c7b0
              try clear c7b1
              try clear c9
              try clear c9b0
              try clear c9b1
              try clear p2
              try clear p6
              try clear q6
              obtain ⟨kq, x30_7, rfl, HA, HJ7, ⟨mc7, rfl⟩⟩ := hcut
              cases kq with
              | zero => exact absurd HA.out (by simp [tree_among.j2])
              | succ kj7 =>
                have H := HA.out
                clear HA
                simp only [tree_among.j2] at H
                by_cases c10 : x30_7 = true
                · subst c10
                  rw [if_pos rfl] at H
                  have H1 := H
                  clear H
                  have H := H1
                  clear H1
                  by_cases c11 : 0 ≤ x7_2
                  · rw [if_pos c11] at H
                    have c11b0 := eq_true c11
                    have c11b1 : decide (0 ≤ x7_2) = true := decide_eq_true c11
                    clear c11
                    by_cases c12 : x7_2 ≤ (wrap64 (x7_2 + (wrap64 ((a1.size : Int) + 2))))
                    · rw [if_pos c12] at H
                      have c12b0 := eq_true c12
                      have c12b1 : decide (x7_2 ≤ (wrap64 (x7_2 + (wrap64 ((a1.size : Int) + 2))))) = true := decide_eq_true c12
                      by_cases c13 : (wrap64 (x7_2 + (wrap64 ((a1.size : Int) + 2)))) ≤ (a0.size : Int)
                      · rw [if_pos c13] at H
                        have c13b0 := eq_true c13
                        have c13b1 : decide ((wrap64 (x7_2 + (wrap64 ((a1.size : Int) + 2)))) ≤ (a0.size : Int)) = true := decide_eq_true c13
                        by_cases c14 : 1 + a1.size ≤ 9223372036854775807
                        · rw [if_pos c14] at H
                          have c14b0 := eq_true c14
                          have c14b1 : decide (1 + a1.size ≤ 9223372036854775807) = true := decide_eq_true c14
                          try have c14b2 : (9223372036854775807 < 1 + a1.size) = False := eq_false (Nat.not_lt.2 c14)
                          by_cases c15 : ((⟨#[32]⟩ : ByteArray) ++ a1).size + 1 ≤ 9223372036854775807
                          · rw [if_pos c15] at H
                            have c15b0 := eq_true c15
                            have c15b1 : decide (((⟨#[32]⟩ : ByteArray) ++ a1).size + 1 ≤ 9223372036854775807) = true := decide_eq_true c15
                            have c15s := c15
                            simp only [ByteArray.size_append, show ((⟨#[32]⟩ : ByteArray)).size = 1 from rfl] at c15s
                            have c15t := eq_true c15s
                            have c15u := eq_false (Nat.not_lt.2 c15s)
                            clear c15s
                            try have c15b2 : (9223372036854775807 < ((⟨#[32]⟩ : ByteArray) ++ a1).size + 1) = False := eq_false (Nat.not_lt.2 c15)
                            by_cases c16 : (a0.extract (x7_2 : Int).toNat ((wrap64 (x7_2 + (wrap64 ((a1.size : Int) + 2)))) : Int).toNat).toList = (((⟨#[32]⟩ : ByteArray) ++ a1) ++ (⟨#[32]⟩ : ByteArray)).toList
                            · rw [if_pos c16] at H
                              have c16b0 : ((a0.extract (x7_2 : Int).toNat ((wrap64 (x7_2 + (wrap64 ((a1.size : Int) + 2)))) : Int).toNat).toList == (((⟨#[32]⟩ : ByteArray) ++ a1) ++ (⟨#[32]⟩ : ByteArray)).toList) = true := beq_iff_eq.mpr c16
                              have c16b1 : ((a0.extract (x7_2 : Int).toNat ((wrap64 (x7_2 + (wrap64 ((a1.size : Int) + 2)))) : Int).toNat).toList != (((⟨#[32]⟩ : ByteArray) ++ a1) ++ (⟨#[32]⟩ : ByteArray)).toList) = false := bne_eq_false_iff_eq.mpr c16
                              clear c16
                              obtain rfl := Option.some.inj H
                              go_wp2
                              go_ret
                              exact ⟨by first | rfl | (simp; done) | (simp [*]; done), by repeat (first | exact Drawn0.refl _ | apply Drawn0.step)⟩
                            · rw [if_neg c16] at H
                              have c16b0 : ((a0.extract (x7_2 : Int).toNat ((wrap64 (x7_2 + (wrap64 ((a1.size : Int) + 2)))) : Int).toNat).toList == (((⟨#[32]⟩ : ByteArray) ++ a1) ++ (⟨#[32]⟩ : ByteArray)).toList) = false := beq_eq_false_iff_ne.mpr c16
                              have c16b1 : ((a0.extract (x7_2 : Int).toNat ((wrap64 (x7_2 + (wrap64 ((a1.size : Int) + 2)))) : Int).toNat).toList != (((⟨#[32]⟩ : ByteArray) ++ a1) ++ (⟨#[32]⟩ : ByteArray)).toList) = true := bne_iff_ne.mpr c16
                              have H' := Aside0.mk H
                              clear H
                              go_wp2
                              go_roundg kj7
                              case measure => have := HK1.out; have := HK2.out; have := HJ7.out; omega
                              case rel => exact ⟨(wrap64 (x7_2 + 1)), (by first | rfl | (simp; done) | (simp [*]; done)), H', ⟨by have := HK1.out; have := HK2.out; have := HJ7.out; omega⟩, by repeat (first | exact Drawn0.refl _ | apply Drawn0.step)⟩
                          · rw [if_neg c15] at H
                            exact absurd H (by simp)
                        · rw [if_neg c14] at H
                          exact absurd H (by simp)
                      · rw [if_neg c13] at H
                        exact absurd H (by simp)
                    · rw [if_neg c12] at H
                      exact absurd H (by simp)
                  · rw [if_neg c11] at H
                    exact absurd H (by simp)
                · replace c10 := Bool.eq_false_iff.mpr c10
                  subst c10
                  have H1 : (some false) = some r := by rw [if_neg (show ¬ (false = true) by decide)] at H; exact H
                  clear H
                  have H := H1
                  clear H1
                  obtain rfl := Option.some.inj H
                  go_wp2
                  go_ret
                  exact ⟨by first | rfl | (simp; done) | (simp [*]; done), by repeat (first | exact Drawn0.refl _ | apply Drawn0.step)⟩

end Go.Proofs.Ytclhaajlgmiilaa.Q
