/- Functions that the laws reach, as plain Lean functions, each with a proof that the call does what its function says; no condition. -/
import Derived.Test.YtmadbfahdnkecaaQ0
namespace Go.Proofs.Ytmadbfahdnkecaa.Q
open Go.RowKit Go.Proofs.YtmadbfahdnkecaaW.PrintWords Go.Proofs.YtmadbfahdnkecaaW.PrintLast Go.Proofs.YtmadbfahdnkecaaW.PrintMore
attribute [local go_sem]  Go.Proofs.Ytmadbfahdnkecaa.as_num_num Go.Proofs.Ytmadbfahdnkecaa.as_text_num Go.Proofs.Ytmadbfahdnkecaa.as_nil_num Go.Proofs.Ytmadbfahdnkecaa.as_text_text Go.Proofs.Ytmadbfahdnkecaa.as_num_text Go.Proofs.Ytmadbfahdnkecaa.as_nil_text Go.Proofs.Ytmadbfahdnkecaa.leq_texts max2_int min2_int max_two min_two max_three min_three max_four min_four   -- for this text's walks alone
set_option linter.unusedVariables false
set_option linter.unusedSimpArgs false

/-! ### chrysalisref01_Digits: function 39 -/
mutual
def chrysalisref01_Digits.l0 : Nat → Int → List Int → Int → Option (ByteArray)
  | 0, _, _, _ => none
  | k + 1, x0, x3, x4 => if x4 = 0 then (if x0 < 0 then (chrysalisref01_Digits.j1 k x3 (⟨#[45]⟩ : ByteArray)) else (chrysalisref01_Digits.j1 k x3 (⟨#[]⟩ : ByteArray))) else (if (Int.tmod x4 10) < 0 then (if x3.length < 140737488355328 then (chrysalisref01_Digits.l0 k x0 (x3 ++ [(wrap64 (48 + (wrap64 (-(Int.tmod x4 10))))) % 256]) (wrap64 (Int.tdiv x4 10))) else (none)) else (if x3.length < 140737488355328 then (chrysalisref01_Digits.l0 k x0 (x3 ++ [(wrap64 (48 + (Int.tmod x4 10))) % 256]) (wrap64 (Int.tdiv x4 10))) else (none)))
def chrysalisref01_Digits.j1 : Nat → List Int → ByteArray → Option (ByteArray)
  | 0, _, _ => none
  | k + 1, x3, x6 => chrysalisref01_Digits.l1 k x3 x6 (wrap64 ((x3.length : Int) - 1))
def chrysalisref01_Digits.l1 : Nat → List Int → ByteArray → Int → Option (ByteArray)
  | 0, _, _, _ => none
  | k + 1, x3, x6, x7 => if x7 ≥ 0 then (if 0 ≤ x7 then (if x7 ≤ (wrap64 (x7 + 1)) then (if (wrap64 (x7 + 1)) ≤ (x3.length : Int) then ((some ((x3.take ((wrap64 (x7 + 1)) : Int).toNat).drop (x7 : Int).toNat : List Int)).bind fun y460 => (if x6.size + (strOfNums y460).size ≤ 9223372036854775807 then (chrysalisref01_Digits.l1 k x3 (x6 ++ (strOfNums y460)) (wrap64 (x7 - 1))) else (none))) else (none)) else (none)) else (none)) else (some x6)
end
def chrysalisref01_Digits.f (k : Nat) (a0 : Int) : Option (ByteArray) := if a0 = 0 then (some (⟨#[48]⟩ : ByteArray)) else (chrysalisref01_Digits.l0 k a0 ([] : List Int) a0)
theorem chrysalisref01_Digits.mono_l : ∀ k, (∀ y0 y1 y2, LeO (chrysalisref01_Digits.l0 k y0 y1 y2) (chrysalisref01_Digits.l0 (k + 1) y0 y1 y2)) ∧ (∀ y0 y1, LeO (chrysalisref01_Digits.j1 k y0 y1) (chrysalisref01_Digits.j1 (k + 1) y0 y1)) ∧ (∀ y0 y1 y2, LeO (chrysalisref01_Digits.l1 k y0 y1 y2) (chrysalisref01_Digits.l1 (k + 1) y0 y1 y2))
  | 0 => ⟨fun _ _ _ r h => by simp [chrysalisref01_Digits.l0] at h, fun _ _ r h => by simp [chrysalisref01_Digits.j1] at h, fun _ _ _ r h => by simp [chrysalisref01_Digits.l1] at h⟩
  | k + 1 => by
    obtain ⟨ih0, ih1, ih2⟩ := chrysalisref01_Digits.mono_l k
    refine ⟨?_, ?_, ?_⟩
    · intro y0 y1 y2
      unfold chrysalisref01_Digits.l0
      repeat' first
      | (with_reducible exact ih0 _ _ _)
      | (with_reducible exact ih1 _ _)
      | (with_reducible exact ih2 _ _ _)
      | (with_reducible exact LeO.refl _)
      | (with_reducible exact LeO.none _)
      | (with_reducible refine LeO.ite ?_ ?_)
      | (with_reducible refine LeO.bind ?_ (fun _ => ?_))
      | exact ih0 _ _ _
      | exact ih1 _ _
      | exact ih2 _ _ _
      | exact LeO.none _
      | refine LeO.ite ?_ ?_
      | refine LeO.bind ?_ (fun _ => ?_)
    · intro y0 y1
      unfold chrysalisref01_Digits.j1
      repeat' first
      | (with_reducible exact ih0 _ _ _)
      | (with_reducible exact ih1 _ _)
      | (with_reducible exact ih2 _ _ _)
      | (with_reducible exact LeO.refl _)
      | (with_reducible exact LeO.none _)
      | (with_reducible refine LeO.ite ?_ ?_)
      | (with_reducible refine LeO.bind ?_ (fun _ => ?_))
      | exact ih0 _ _ _
      | exact ih1 _ _
      | exact ih2 _ _ _
      | exact LeO.none _
      | refine LeO.ite ?_ ?_
      | refine LeO.bind ?_ (fun _ => ?_)
    · intro y0 y1 y2
      unfold chrysalisref01_Digits.l1
      repeat' first
      | (with_reducible exact ih0 _ _ _)
      | (with_reducible exact ih1 _ _)
      | (with_reducible exact ih2 _ _ _)
      | (with_reducible exact LeO.refl _)
      | (with_reducible exact LeO.none _)
      | (with_reducible refine LeO.ite ?_ ?_)
      | (with_reducible refine LeO.bind ?_ (fun _ => ?_))
      | exact ih0 _ _ _
      | exact ih1 _ _
      | exact ih2 _ _ _
      | exact LeO.none _
      | refine LeO.ite ?_ ?_
      | refine LeO.bind ?_ (fun _ => ?_)
theorem chrysalisref01_Digits.mono : ∀ a0 k, LeO (chrysalisref01_Digits.f k a0) (chrysalisref01_Digits.f (k + 1) a0) := by
  intro a0 k
  obtain ⟨ih0, ih1, ih2⟩ := chrysalisref01_Digits.mono_l k
  unfold chrysalisref01_Digits.f
  repeat' first
      | (with_reducible exact ih0 _ _ _)
      | (with_reducible exact ih1 _ _)
      | (with_reducible exact ih2 _ _ _)
      | (with_reducible exact LeO.refl _)
      | (with_reducible exact LeO.none _)
      | (with_reducible refine LeO.ite ?_ ?_)
      | (with_reducible refine LeO.bind ?_ (fun _ => ?_))
      | exact ih0 _ _ _
      | exact ih1 _ _
      | exact ih2 _ _ _
      | exact LeO.none _
      | refine LeO.ite ?_ ?_
      | refine LeO.bind ?_ (fun _ => ?_)
set_option maxHeartbeats 8000000 in
set_option maxRecDepth 100000 in
theorem chrysalisref01_Digits.calls (k : Nat) (a0 : Int) (r : ByteArray) (w : World) (h : chrysalisref01_Digits.f k a0 = some r) :
    Calls Try.prog 39 #[.int .i64 a0] w fun e w' => e = .returned (.string r) ∧ Below w.heap.size w w' := by
  have HB := Aside0.mk (Below.refl w.heap.size w)
  have H : (if a0 = 0 then (some (⟨#[48]⟩ : ByteArray)) else (chrysalisref01_Digits.l0 k a0 ([] : List Int) a0)) = some r := h
  clear h
  by_cases c2 : a0 = 0
  · rw [if_pos c2] at H
    have c2b0 : (a0 == 0) = true := beq_iff_eq.mpr c2
    have c2b1 : (a0 != 0) = false := bne_eq_false_iff_eq.mpr c2
    clear c2
    obtain rfl := Option.some.inj H
    go_enter Try.func39, Try.ntmps39
    go_wp2
    go_ret
    exact ⟨by first | rfl | (simp [errW_none, errW_some] <;> rfl) | (simp [*, errW_none, errW_some] <;> rfl), by repeat (first | (with_reducible first | exact HB.out | apply below_alloc | apply pw_below_drewN | apply below_drew1) | exact HB.out)⟩
  · rw [if_neg c2] at H
    have c2b0 : (a0 == 0) = false := beq_eq_false_iff_ne.mpr c2
    have c2b1 : (a0 != 0) = true := bne_iff_ne.mpr c2
    have H' := Aside0.mk H
    clear H
    go_enter Try.func39, Try.ntmps39
    go_wp2
    go_loopg [3, 4] k (fun kq v3 v4 w' => ∃ (x3_1 : List Int) (x4_1 : Int), v4 = .int .i64 x4_1 ∧ Aside0 (chrysalisref01_Digits.l0 kq a0 x3_1 x4_1 = some r) ∧ Aside0 (kq ≤ k) ∧ Aside0 (Kd.R (Kd.int .u8) 5 w' w.heap.size (fun _ => True) v3 x3_1) ∧ Aside0 (Below w.heap.size w w'))
    case atStart => exact ⟨(([] : List Int)), (a0), (by first | rfl | (simp; done) | (simp [*]; done)), H', ⟨Nat.le_refl _⟩, ⟨by first | exact Kd.R_nil _ _ _ _ _ | exact Kd.N_nil _ _ _ _ _ | exact Kd.V_nil _ _ _ _ _ | exact Kd.Q_nil _ _ _ _ _ | exact Kd.S_nil _ _ _ _ _⟩, ⟨by repeat (first | (with_reducible first | exact HB.out | apply below_alloc | apply pw_below_drewN | apply below_drew1) | exact HB.out)⟩⟩
    case round =>
      clear H'
      try clear c2
      try clear c2b0
      try clear c2b1
      try clear p2
      obtain ⟨x3_1, x4_1, rfl, HA, HK1, HO_3, HB⟩ := hrel
      cases gk with
      | zero => exact absurd HA.out (by simp [chrysalisref01_Digits.l0])
      | succ k1 =>
        have H := HA.out
        clear HA
        simp only [chrysalisref01_Digits.l0] at H
        by_cases c3 : x4_1 = 0
        · rw [if_pos c3] at H
          have c3b0 : (x4_1 == 0) = true := beq_iff_eq.mpr c3
          have c3b1 : (x4_1 != 0) = false := bne_eq_false_iff_eq.mpr c3
          clear c3
          have HC4 := Aside0.mk H
          clear H
          go_upto_if 28 with (fail)
          go_cut [6] (fun v6 wc => ∃ (kq : Nat) (x6_3 : ByteArray), v6 = .string x6_3 ∧ Aside0 (chrysalisref01_Digits.j1 kq x3_1 x6_3 = some r) ∧ Aside0 (kq ≤ k1) ∧ Aside0 (Kd.R (Kd.int .u8) 5 wc w.heap.size (fun _ => True) u3 x3_1) ∧ Aside0 (Below w.heap.size w wc))
          case first =>
            have H := HC4.out
            clear HC4
            by_cases c5 : a0 < 0
            · rw [if_pos c5] at H
              have c5b0 : decide (a0 < 0) = true := decide_eq_true c5
              clear c5
              (first | rw [c5b0] | (simp only [i64_w, i32_w]; rw [c5b0]) | skip)
              have H' := Aside0.mk H
              clear H
              go_wp2
              go_meet
              case rel => exact ⟨_, ((⟨#[45]⟩ : ByteArray)), (by first | rfl | (simp; done) | (simp [*]; done)), H', ⟨by have := HK1.out; first | omega | exact Nat.le_refl _⟩, ⟨by (with_reducible repeat (first | apply Kd.R_alloc | apply Kd.R_drewN | apply Kd.R_drew)); exact HO_3.out⟩, ⟨by repeat (first | (with_reducible first | exact HB.out | apply below_alloc | apply pw_below_drewN | apply below_drew1) | exact HB.out)⟩⟩
            · rw [if_neg c5] at H
              have c5b0 : decide (a0 < 0) = false := decide_eq_false c5
              clear c5
              (first | rw [c5b0] | (simp only [i64_w, i32_w]; rw [c5b0]) | skip)
              have H' := Aside0.mk H
              clear H
              go_wp2
              go_meet
              case rel => exact ⟨_, ((⟨#[]⟩ : ByteArray)), (by first | rfl | (simp; done) | (simp [*]; done)), H', ⟨by have := HK1.out; first | omega | exact Nat.le_refl _⟩, ⟨by (with_reducible repeat (first | apply Kd.R_alloc | apply Kd.R_drewN | apply Kd.R_drew)); exact HO_3.out⟩, ⟨by repeat (first | (with_reducible first | exact HB.out | apply below_alloc | apply pw_below_drewN | apply below_drew1) | exact HB.out)⟩⟩
          case rest =>
            clear HC4
            try clear c2
            try clear c2b0
            try clear c2b1
            try clear p2
            try clear c3
            try clear c3b0
            try clear c3b1
            try clear c5
            try clear c5b0
            try clear p2
            obtain ⟨kq, x6_3, rfl, HA, HJ3, HO_3, HB⟩ := hcut
            cases kq with
            | zero => exact absurd HA.out (by simp [chrysalisref01_Digits.j1])
            | succ kj3 =>
              have H := HA.out
              clear HA
              simp only [chrysalisref01_Digits.j1] at H
              have H' := Aside0.mk H
              clear H
              obtain ⟨Ao6, co6, eo6⟩ := Kd.R_slice HO_3.out
              subst eo6
              go_wp2
              go_loopg [6, 7] kj3 (fun kq v6 v7 w' => ∃ (x6_3 : ByteArray) (x7_3 : Int), v6 = .string x6_3 ∧ v7 = .int .i64 x7_3 ∧ Aside0 (chrysalisref01_Digits.l1 kq x3_1 x6_3 x7_3 = some r) ∧ Aside0 (kq ≤ kj3) ∧ Aside0 (Kd.R (Kd.int .u8) 5 w' w.heap.size (fun _ => True) (.slice Ao6 x3_1.length co6) x3_1) ∧ Aside0 (Below w.heap.size w w'))
              case atStart => exact ⟨(x6_3), (wrap64 ((x3_1.length : Int) - 1)), (by first | rfl | (simp; done) | (simp [*]; done)), (by first | rfl | (simp; done) | (simp [*]; done)), H', ⟨Nat.le_refl _⟩, ⟨by (with_reducible repeat (first | apply Kd.R_alloc | apply Kd.R_drewN | apply Kd.R_drew)); exact HO_3.out⟩, ⟨by repeat (first | (with_reducible first | exact HB.out | apply below_alloc | apply pw_below_drewN | apply below_drew1) | exact HB.out)⟩⟩
              case round =>
                clear H'
                try clear c2
                try clear c2b0
                try clear c2b1
                try clear p2
                try clear c3
                try clear c3b0
                try clear c3b1
                try clear c5
                try clear c5b0
                try clear p6
                try clear p2
                obtain ⟨x6_3, x7_3, rfl, rfl, HA, HK3, HO_3, HB⟩ := hrel
                cases gk with
                | zero => exact absurd HA.out (by simp [chrysalisref01_Digits.l1])
                | succ k3 =>
                  have H := HA.out
                  clear HA
                  simp only [chrysalisref01_Digits.l1] at H
                  by_cases c7 : x7_3 ≥ 0
                  · rw [if_pos c7] at H
                    have c7b0 : decide (0 ≤ x7_3) = true := decide_eq_true c7
                    clear c7
                    by_cases c8 : 0 ≤ x7_3
                    · rw [if_pos c8] at H
                      have c8b0 := eq_true c8
                      have c8b1 : decide (0 ≤ x7_3) = true := decide_eq_true c8
                      clear c8
                      by_cases c9 : x7_3 ≤ (wrap64 (x7_3 + 1))
                      · rw [if_pos c9] at H
                        have c9b0 := eq_true c9
                        have c9b1 : decide (x7_3 ≤ (wrap64 (x7_3 + 1))) = true := decide_eq_true c9
                        by_cases c10 : (wrap64 (x7_3 + 1)) ≤ (x3_1.length : Int)
                        · rw [if_pos c10] at H
                          have c10b0 := eq_true c10
                          have c10b1 : decide ((wrap64 (x7_3 + 1)) ≤ (x3_1.length : Int)) = true := decide_eq_true c10
                          obtain ⟨y460, hy460⟩ : ∃ y_ : List Int, y_ = ((x3_1.take ((wrap64 (x7_3 + 1)) : Int).toNat).drop (x7_3 : Int).toNat) := ⟨_, rfl⟩
                          replace H : (if x6_3.size + (strOfNums y460).size ≤ 9223372036854775807 then (chrysalisref01_Digits.l1 k3 x3_1 (x6_3 ++ (strOfNums y460)) (wrap64 (x7_3 - 1))) else (none)) = some r := by first | (rw [hy460]; with_reducible exact H) | (have H2_ := (Option.bind_some _ _).symm.trans H; rw [hy460]; with_reducible exact H2_) | (have H2_ := (Option.bind_some _ _).symm.trans H; with_reducible exact H2_) | with_reducible exact H | (rw [hy460]; exact H) | exact H
                          have Ny460 := Aside0.mk hy460
                          clear hy460
                          by_cases c11 : x6_3.size + (strOfNums y460).size ≤ 9223372036854775807
                          · rw [if_pos c11] at H
                            have c11b0 := eq_true c11
                            have c11b1 : decide (x6_3.size + (strOfNums y460).size ≤ 9223372036854775807) = true := decide_eq_true c11
                            try have c11b2 : (9223372036854775807 < x6_3.size + (strOfNums y460).size) = False := eq_false (Nat.not_lt.2 c11)
                            have H' := Aside0.mk H
                            clear H
                            have q12 : ((wrap64 (x7_3 + 1)) : Int) ≤ ((x3_1.length : Int) : Int) := of_decide_eq_true (by first | (with_reducible assumption) | assumption)
                            obtain ⟨i012, hi012, _, hsz12, _⟩ := info_parts info5
                            have hroom12 : x3_1.length ≤ co6 := (Kd.R_reads' HO_3.out).2.1
                            have hC12 : Kd.C (Kd.int .u8) _ Ao6 x3_1.length x3_1 := (Kd.R_reads' HO_3.out).2.2
                            have ql12 : (x7_3 : Int) ≤ ((wrap64 (x7_3 + 1)) : Int) := of_decide_eq_true (by first | (with_reducible assumption) | assumption)
                            have q012 : (0 : Int) ≤ (x7_3 : Int) := of_decide_eq_true (by first | (with_reducible assumption) | assumption)
                            have hcut12 := cut_mid (P := Try.prog) 68 5 .i64 .i64 Try.underlying68 hi012 1 hsz12 Ao6 x3_1.length co6 x7_3 (wrap64 (x7_3 + 1)) q012 ql12 q12 hroom12
                            have hr12 := Kd.C_mid (lo := (x7_3 : Int).toNat) (hi := ((wrap64 (x7_3 + 1)) : Int).toNat) (c := co6) hC12 (by omega) (by omega) hroom12
                            obtain ⟨A12, hA12⟩ : ∃ A1, A1 = (if co6 = (x7_3 : Int).toNat then Ao6 else (Ao6 : Option Addr).map (·.add ((x7_3 : Int).toNat * 1))) := ⟨_, rfl⟩
                            obtain ⟨c12, hc12⟩ : ∃ c1, c1 = co6 - (x7_3 : Int).toNat := ⟨_, rfl⟩
                            have hy12 : y460.length = ((wrap64 (x7_3 + 1)) : Int).toNat - (x7_3 : Int).toNat := (by rw [Ny460.out, List.length_drop, List.length_take] <;> omega)
                            rw [show ((x3_1).take ((wrap64 (x7_3 + 1)) : Int).toNat).drop (x7_3 : Int).toNat = y460 from Ny460.out.symm] at hr12
                            replace hr12 : Kd.C (Kd.int .u8) _ A12 y460.length y460 := (by rw [hA12]; exact hr12)
                            rw [← hy12, ← hA12, ← hc12] at hcut12
                            have HR463 := Aside0.mk hr12
                            have HC463 := Aside0.mk (show y460.length ≤ c12 from by rw [hy12, hc12]; exact Nat.sub_le_sub_right (Nat.le_trans (by omega) hroom12) _)
                            clear hr12 hC12 hroom12 hi012 hsz12 hc12
                            have KY12 := Aside0.mk hy12
                            have KA12 := Aside0.mk hA12
                            clear hy12 hA12
                            have KL12 := Aside0.mk (show ((wrap64 (x7_3 + 1)) : Int).toNat ≤ x3_1.length from by omega)
                            have KM12 := Aside0.mk (show (x7_3 : Int).toNat ≤ ((wrap64 (x7_3 + 1)) : Int).toNat from by omega)
                            replace q12 := eq_true q12
                            have hcv13 := Kd.C_string (P := Try.prog) (A := A12) (c := c12) Try.underlying68 Try.underlying5 Try.underlying9 (by repeat (first | (with_reducible exact HR463.out) | (with_reducible refine Kd.C_alloc ?_ _) | (with_reducible refine Kd.C_drewN ?_ _) | (with_reducible refine Kd.C_drew ?_) | exact HR463.out))
                            go_wp2
                            go_roundg k3
                            case measure => have := HK1.out; have := HJ3.out; have := HK3.out; omega
                            case rel => exact ⟨(x6_3 ++ (strOfNums y460)), (wrap64 (x7_3 - 1)), (by first | rfl | (simp; done) | (simp [*]; done)), (by first | rfl | (simp; done) | (simp [*]; done)), H', ⟨by have := HK1.out; have := HJ3.out; have := HK3.out; omega⟩, ⟨by (with_reducible repeat (first | apply Kd.R_alloc | apply Kd.R_drewN | apply Kd.R_drew)); exact HO_3.out⟩, ⟨by repeat (first | (with_reducible first | exact HB.out | apply below_alloc | apply pw_below_drewN | apply below_drew1) | exact HB.out)⟩⟩
                          · rw [if_neg c11] at H
                            exact absurd H (by simp)
                        · rw [if_neg c10] at H
                          exact absurd H (by simp)
                      · rw [if_neg c9] at H
                        exact absurd H (by simp)
                    · rw [if_neg c8] at H
                      exact absurd H (by simp)
                  · rw [if_neg c7] at H
                    have c7b0 : decide (0 ≤ x7_3) = false := decide_eq_false c7
                    clear c7
                    obtain rfl := Option.some.inj H
                    go_wp2
                    go_ret
                    exact ⟨by first | rfl | (simp [errW_none, errW_some] <;> rfl) | (simp [*, errW_none, errW_some] <;> rfl), by repeat (first | (with_reducible first | exact HB.out | apply below_alloc | apply pw_below_drewN | apply below_drew1) | exact HB.out)⟩
        · rw [if_neg c3] at H
          have c3b0 : (x4_1 == 0) = false := beq_eq_false_iff_ne.mpr c3
          have c3b1 : (x4_1 != 0) = true := bne_iff_ne.mpr c3
          by_cases c14 : (Int.tmod x4_1 10) < 0
          · rw [if_pos c14] at H
            have c14b0 : decide ((Int.tmod x4_1 10) < 0) = true := decide_eq_true c14
            clear c14
            by_cases c15 : x3_1.length < 140737488355328
            · rw [if_pos c15] at H
              have LMc15 := Aside0.mk c15
              clear c15
              obtain ⟨y454, hy454⟩ : ∃ y_ : List Int, y_ = (x3_1 ++ [(wrap64 (48 + (wrap64 (-(Int.tmod x4_1 10))))) % 256]) := ⟨_, rfl⟩
              replace H : (chrysalisref01_Digits.l0 k1 a0 y454 (wrap64 (Int.tdiv x4_1 10))) = some r := by first | (rw [hy454]; with_reducible exact H) | (have H2_ := (Option.bind_some _ _).symm.trans H; rw [hy454]; with_reducible exact H2_) | (have H2_ := (Option.bind_some _ _).symm.trans H; with_reducible exact H2_) | with_reducible exact H | (rw [hy454]; exact H) | exact H
              have Ny454 := Aside0.mk hy454
              clear hy454
              have H' := Aside0.mk H
              clear H
              go_wp2_with (first | ((with_reducible refine gate_builtin (b := .append) (xs := #[.tmp 21, .tmp 25]) rfl ?_); at_builtin; refine Kd.R_append (Kd.int .u8) (w0 := w) w.heap.size rfl (.tmp 21) (.tmp 25) 68 5 (.int .u8 0) 1 rfl Try.underlying68 info5 rfl (by decide) (by omega) u3 x3_1 ((wrap64 (48 + (wrap64 (-(Int.tmod x4_1 10))))) % 256) [.int .u8 ((wrap64 (48 + (wrap64 (-(Int.tmod x4_1 10))))) % 256)] (fun _ => True) (fun _ => False) rfl rfl ?aP (fun _ hk => hk.elim) ?aF ?aO ?aB ?aS ?aL ?_; (case aP => exact rfl); (case aB => exact (by repeat (first | (with_reducible first | exact HB.out | apply below_alloc | apply pw_below_drewN | apply below_drew1) | exact HB.out))); (case aF => exact (fun _ _ => trivial)); (case aO => exact (by (with_reducible repeat (first | apply Kd.R_alloc | apply Kd.R_drewN | apply Kd.R_drew)); exact HO_3.out)); (case aS => exact (below_size (by repeat (first | (with_reducible first | exact HB.out | apply below_alloc | apply pw_below_drewN | apply below_drew1) | exact HB.out)))); (case aL => have := LMc15.out; omega); intro v455 w16 ho hb hg hat; rw [← Ny454.out] at ho; have n0_ := Aside0.mk (hb); have n1_ := Aside0.mk (ho); clear HB; clear HO_3; have HB := n0_; have HO456 := n1_; clear n0_ n1_; clear ho hb hg hat))
              go_roundg k1
              case measure => have := HK1.out; omega
              case rel => exact ⟨(y454), (wrap64 (Int.tdiv x4_1 10)), (by first | rfl | (simp; done) | (simp [*]; done)), H', ⟨by have := HK1.out; omega⟩, ⟨by (with_reducible repeat (first | apply Kd.R_alloc | apply Kd.R_drewN | apply Kd.R_drew)); exact HO456.out⟩, ⟨by repeat (first | (with_reducible first | exact HB.out | apply below_alloc | apply pw_below_drewN | apply below_drew1) | exact HB.out)⟩⟩
            · rw [if_neg c15] at H
              exact absurd H (by simp)
          · rw [if_neg c14] at H
            have c14b0 : decide ((Int.tmod x4_1 10) < 0) = false := decide_eq_false c14
            clear c14
            by_cases c17 : x3_1.length < 140737488355328
            · rw [if_pos c17] at H
              have LMc17 := Aside0.mk c17
              clear c17
              obtain ⟨y457, hy457⟩ : ∃ y_ : List Int, y_ = (x3_1 ++ [(wrap64 (48 + (Int.tmod x4_1 10))) % 256]) := ⟨_, rfl⟩
              replace H : (chrysalisref01_Digits.l0 k1 a0 y457 (wrap64 (Int.tdiv x4_1 10))) = some r := by first | (rw [hy457]; with_reducible exact H) | (have H2_ := (Option.bind_some _ _).symm.trans H; rw [hy457]; with_reducible exact H2_) | (have H2_ := (Option.bind_some _ _).symm.trans H; with_reducible exact H2_) | with_reducible exact H | (rw [hy457]; exact H) | exact H
              have Ny457 := Aside0.mk hy457
              clear hy457
              have H' := Aside0.mk H
              clear H
              go_wp2_with (first | ((with_reducible refine gate_builtin (b := .append) (xs := #[.tmp 21, .tmp 25]) rfl ?_); at_builtin; refine Kd.R_append (Kd.int .u8) (w0 := w) w.heap.size rfl (.tmp 21) (.tmp 25) 68 5 (.int .u8 0) 1 rfl Try.underlying68 info5 rfl (by decide) (by omega) u3 x3_1 ((wrap64 (48 + (Int.tmod x4_1 10))) % 256) [.int .u8 ((wrap64 (48 + (Int.tmod x4_1 10))) % 256)] (fun _ => True) (fun _ => False) rfl rfl ?aP (fun _ hk => hk.elim) ?aF ?aO ?aB ?aS ?aL ?_; (case aP => exact rfl); (case aB => exact (by repeat (first | (with_reducible first | exact HB.out | apply below_alloc | apply pw_below_drewN | apply below_drew1) | exact HB.out))); (case aF => exact (fun _ _ => trivial)); (case aO => exact (by (with_reducible repeat (first | apply Kd.R_alloc | apply Kd.R_drewN | apply Kd.R_drew)); exact HO_3.out)); (case aS => exact (below_size (by repeat (first | (with_reducible first | exact HB.out | apply below_alloc | apply pw_below_drewN | apply below_drew1) | exact HB.out)))); (case aL => have := LMc17.out; omega); intro v458 w18 ho hb hg hat; rw [← Ny457.out] at ho; have n0_ := Aside0.mk (hb); have n1_ := Aside0.mk (ho); clear HB; clear HO_3; have HB := n0_; have HO459 := n1_; clear n0_ n1_; clear ho hb hg hat))
              go_roundg k1
              case measure => have := HK1.out; omega
              case rel => exact ⟨(y457), (wrap64 (Int.tdiv x4_1 10)), (by first | rfl | (simp; done) | (simp [*]; done)), H', ⟨by have := HK1.out; omega⟩, ⟨by (with_reducible repeat (first | apply Kd.R_alloc | apply Kd.R_drewN | apply Kd.R_drew)); exact HO459.out⟩, ⟨by repeat (first | (with_reducible first | exact HB.out | apply below_alloc | apply pw_below_drewN | apply below_drew1) | exact HB.out)⟩⟩
            · rw [if_neg c17] at H
              exact absurd H (by simp)

end Go.Proofs.Ytmadbfahdnkecaa.Q
