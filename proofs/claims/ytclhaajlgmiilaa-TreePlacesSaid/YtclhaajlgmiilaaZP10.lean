/- Walks over functions of the program, words for them, and what the functions come to; of each text only what this claim uses; no condition. -/
import Derived.Test.YtclhaajlgmiilaaZP3
import Derived.Test.YtclhaajlgmiilaaZP7
import Derived.Test.YtclhaajlgmiilaaZP9

section
namespace Go.Proofs.Ytclhaajlgmiilaa.Q
open Go.RowKit Go.Proofs.YtclhaajlgmiilaaW.PrintWords Go.Proofs.YtclhaajlgmiilaaW.PrintLast Go.Proofs.YtclhaajlgmiilaaW.PrintMore
attribute [local go_sem] max2_int min2_int max_two min_two max_three min_three max_four min_four
set_option linter.unusedVariables false
set_option linter.unusedSimpArgs false

/-! ### chrysalisref09_Depth: function 22 -/
mutual
def chrysalisref09_Depth.l0 : Nat → List (S36) → List Int → Int → Int → Option (Int)
  | 0, _, _, _, _ => none
  | k + 1, x0, x3, x4, x5 => if x5 < (x0.length : Int) then ((chrysalisref09_End.f k x0 x5).bind fun t226 => (if t226 < 0 then (some (-1)) else (if (x3.length : Int) > 0 then (if 0 ≤ (wrap64 ((x3.length : Int) - 1)) then (if (wrap64 ((x3.length : Int) - 1)) < (x3.length : Int) then (chrysalisref09_Depth.j1 k x0 (x3.set ((wrap64 ((x3.length : Int) - 1)) : Int).toNat (wrap64 ((rd x3 (wrap64 ((x3.length : Int) - 1))) - 1))) x4 x5) else (none)) else (none)) else (chrysalisref09_Depth.j1 k x0 x3 x4 x5)))) else (some x4)
def chrysalisref09_Depth.j1 : Nat → List (S36) → List Int → Int → Int → Option (Int)
  | 0, _, _, _, _ => none
  | k + 1, x0, x3, x4, x5 => if 0 ≤ x5 then (if x5 < (x0.length : Int) then (if x3.length < 17592186044416 then ((some (x3 ++ [(rd_T36 x0 x5).f1] : List Int)).bind fun y230 => (if (y230.length : Int) > x4 then (chrysalisref09_Depth.j2 k x0 y230 (y230.length : Int) x5) else (chrysalisref09_Depth.j2 k x0 y230 x4 x5))) else (none)) else (none)) else (none)
def chrysalisref09_Depth.j2 : Nat → List (S36) → List Int → Int → Int → Option (Int)
  | 0, _, _, _, _ => none
  | k + 1, x0, x3, x4, x5 => chrysalisref09_Depth.l1 k x0 x3 x4 x5
def chrysalisref09_Depth.l1 : Nat → List (S36) → List Int → Int → Int → Option (Int)
  | 0, _, _, _, _ => none
  | k + 1, x0, x3, x4, x5 => if (x3.length : Int) > 0 then (if 0 ≤ (wrap64 ((x3.length : Int) - 1)) then (if (wrap64 ((x3.length : Int) - 1)) < (x3.length : Int) then (if (rd x3 (wrap64 ((x3.length : Int) - 1))) = 0 then (if (wrap64 ((x3.length : Int) - 1)) ≤ (x3.length : Int) then (chrysalisref09_Depth.l1 k x0 (x3.take ((wrap64 ((x3.length : Int) - 1)) : Int).toNat) x4 x5) else (none)) else (chrysalisref09_Depth.l0 k x0 x3 x4 (wrap64 (x5 + 1)))) else (none)) else (none)) else (chrysalisref09_Depth.l0 k x0 x3 x4 (wrap64 (x5 + 1)))
end
def chrysalisref09_Depth.f (k : Nat) (l0 : List (S36)) : Option (Int) := chrysalisref09_Depth.l0 k l0 ([] : List Int) 0 0
theorem chrysalisref09_Depth.mono_l : ∀ k, (∀ y0 y1 y2 y3, LeO (chrysalisref09_Depth.l0 k y0 y1 y2 y3) (chrysalisref09_Depth.l0 (k + 1) y0 y1 y2 y3)) ∧ (∀ y0 y1 y2 y3, LeO (chrysalisref09_Depth.j1 k y0 y1 y2 y3) (chrysalisref09_Depth.j1 (k + 1) y0 y1 y2 y3)) ∧ (∀ y0 y1 y2 y3, LeO (chrysalisref09_Depth.j2 k y0 y1 y2 y3) (chrysalisref09_Depth.j2 (k + 1) y0 y1 y2 y3)) ∧ (∀ y0 y1 y2 y3, LeO (chrysalisref09_Depth.l1 k y0 y1 y2 y3) (chrysalisref09_Depth.l1 (k + 1) y0 y1 y2 y3))
  | 0 => ⟨fun _ _ _ _ r h => by simp [chrysalisref09_Depth.l0] at h, fun _ _ _ _ r h => by simp [chrysalisref09_Depth.j1] at h, fun _ _ _ _ r h => by simp [chrysalisref09_Depth.j2] at h, fun _ _ _ _ r h => by simp [chrysalisref09_Depth.l1] at h⟩
  | k + 1 => by
    obtain ⟨ih0, ih1, ih2, ih3⟩ := chrysalisref09_Depth.mono_l k
    refine ⟨?_, ?_, ?_, ?_⟩
    · intro y0 y1 y2 y3
      unfold chrysalisref09_Depth.l0
      repeat' first
      | (with_reducible exact ih0 _ _ _ _)
      | (with_reducible exact ih1 _ _ _ _)
      | (with_reducible exact ih2 _ _ _ _)
      | (with_reducible exact ih3 _ _ _ _)
      | (with_reducible exact chrysalisref09_End.mono _ _ _)
      | (with_reducible exact LeO.refl _)
      | (with_reducible exact LeO.none _)
      | (with_reducible refine LeO.ite ?_ ?_)
      | (with_reducible refine LeO.bind ?_ (fun _ => ?_))
      | exact ih0 _ _ _ _
      | exact ih1 _ _ _ _
      | exact ih2 _ _ _ _
      | exact ih3 _ _ _ _
      | exact chrysalisref09_End.mono _ _ _
      | exact LeO.none _
      | refine LeO.ite ?_ ?_
      | refine LeO.bind ?_ (fun _ => ?_)
    · intro y0 y1 y2 y3
      unfold chrysalisref09_Depth.j1
      repeat' first
      | (with_reducible exact ih0 _ _ _ _)
      | (with_reducible exact ih1 _ _ _ _)
      | (with_reducible exact ih2 _ _ _ _)
      | (with_reducible exact ih3 _ _ _ _)
      | (with_reducible exact chrysalisref09_End.mono _ _ _)
      | (with_reducible exact LeO.refl _)
      | (with_reducible exact LeO.none _)
      | (with_reducible refine LeO.ite ?_ ?_)
      | (with_reducible refine LeO.bind ?_ (fun _ => ?_))
      | exact ih0 _ _ _ _
      | exact ih1 _ _ _ _
      | exact ih2 _ _ _ _
      | exact ih3 _ _ _ _
      | exact chrysalisref09_End.mono _ _ _
      | exact LeO.none _
      | refine LeO.ite ?_ ?_
      | refine LeO.bind ?_ (fun _ => ?_)
    · intro y0 y1 y2 y3
      unfold chrysalisref09_Depth.j2
      repeat' first
      | (with_reducible exact ih0 _ _ _ _)
      | (with_reducible exact ih1 _ _ _ _)
      | (with_reducible exact ih2 _ _ _ _)
      | (with_reducible exact ih3 _ _ _ _)
      | (with_reducible exact chrysalisref09_End.mono _ _ _)
      | (with_reducible exact LeO.refl _)
      | (with_reducible exact LeO.none _)
      | (with_reducible refine LeO.ite ?_ ?_)
      | (with_reducible refine LeO.bind ?_ (fun _ => ?_))
      | exact ih0 _ _ _ _
      | exact ih1 _ _ _ _
      | exact ih2 _ _ _ _
      | exact ih3 _ _ _ _
      | exact chrysalisref09_End.mono _ _ _
      | exact LeO.none _
      | refine LeO.ite ?_ ?_
      | refine LeO.bind ?_ (fun _ => ?_)
    · intro y0 y1 y2 y3
      unfold chrysalisref09_Depth.l1
      repeat' first
      | (with_reducible exact ih0 _ _ _ _)
      | (with_reducible exact ih1 _ _ _ _)
      | (with_reducible exact ih2 _ _ _ _)
      | (with_reducible exact ih3 _ _ _ _)
      | (with_reducible exact chrysalisref09_End.mono _ _ _)
      | (with_reducible exact LeO.refl _)
      | (with_reducible exact LeO.none _)
      | (with_reducible refine LeO.ite ?_ ?_)
      | (with_reducible refine LeO.bind ?_ (fun _ => ?_))
      | exact ih0 _ _ _ _
      | exact ih1 _ _ _ _
      | exact ih2 _ _ _ _
      | exact ih3 _ _ _ _
      | exact chrysalisref09_End.mono _ _ _
      | exact LeO.none _
      | refine LeO.ite ?_ ?_
      | refine LeO.bind ?_ (fun _ => ?_)
theorem chrysalisref09_Depth.mono : ∀ a0 k, LeO (chrysalisref09_Depth.f k a0) (chrysalisref09_Depth.f (k + 1) a0) := by
  intro a0 k
  obtain ⟨ih0, ih1, ih2, ih3⟩ := chrysalisref09_Depth.mono_l k
  unfold chrysalisref09_Depth.f
  repeat' first
      | (with_reducible exact ih0 _ _ _ _)
      | (with_reducible exact ih1 _ _ _ _)
      | (with_reducible exact ih2 _ _ _ _)
      | (with_reducible exact ih3 _ _ _ _)
      | (with_reducible exact chrysalisref09_End.mono _ _ _)
      | (with_reducible exact LeO.refl _)
      | (with_reducible exact LeO.none _)
      | (with_reducible refine LeO.ite ?_ ?_)
      | (with_reducible refine LeO.bind ?_ (fun _ => ?_))
      | exact ih0 _ _ _ _
      | exact ih1 _ _ _ _
      | exact ih2 _ _ _ _
      | exact ih3 _ _ _ _
      | exact chrysalisref09_End.mono _ _ _
      | exact LeO.none _
      | refine LeO.ite ?_ ?_
      | refine LeO.bind ?_ (fun _ => ?_)
set_option maxHeartbeats 8000000 in
set_option maxRecDepth 100000 in
theorem chrysalisref09_Depth.calls (k : Nat) (A0 : Option Addr) (c0 : Nat) (l0 : List (S36)) (r : Int) (w : World) (hr0 : Kd.C k36 w A0 l0.length l0) (hc0 : l0.length ≤ c0) (h : chrysalisref09_Depth.f k l0 = some r) :
    Calls Try.prog 22 #[.slice A0 l0.length c0] w fun e w' => e = .returned (.int .i64 r) ∧ Below w.heap.size w w' := by
  have HR0 := Aside0.mk hr0
  have HC0 := Aside0.mk hc0
  clear hr0 hc0
  have HB := Aside0.mk (Below.refl w.heap.size w)
  have H : (chrysalisref09_Depth.l0 k l0 ([] : List Int) 0 0) = some r := h
  clear h
  have H' := Aside0.mk H
  clear H
  go_enter Try.func22, Try.ntmps22
  go_wp2
  go_loopg [3, 4, 5] k (fun kq v3 v4 v5 w' => ∃ (x3_1 : List Int) (x4_1 : Int) (x5_1 : Int), v4 = .int .i64 x4_1 ∧ v5 = .int .i64 x5_1 ∧ Aside0 (chrysalisref09_Depth.l0 kq l0 x3_1 x4_1 x5_1 = some r) ∧ Aside0 (kq ≤ k) ∧ Aside0 (Kd.R (Kd.int .i64) 3 w' w.heap.size (fun _ => True) v3 x3_1) ∧ Aside0 (Below w.heap.size w w'))
  case atStart => exact ⟨(([] : List Int)), (0), (0), (by first | rfl | (simp; done) | (simp [*]; done)), (by first | rfl | (simp; done) | (simp [*]; done)), H', ⟨Nat.le_refl _⟩, ⟨by first | exact Kd.R_nil _ _ _ _ _ | exact Kd.N_nil _ _ _ _ _ | exact Kd.V_nil _ _ _ _ _ | exact Kd.Q_nil _ _ _ _ _ | exact Kd.S_nil _ _ _ _ _⟩, ⟨by repeat (first | (with_reducible first | exact HB.out | apply below_alloc | apply pw_below_drewN | apply below_drew1) | exact HB.out)⟩⟩
  case round =>
    clear H'
    obtain ⟨x3_1, x4_1, x5_1, rfl, rfl, HA, HK1, HO_3, HB⟩ := hrel
    cases gk with
    | zero => exact absurd HA.out (by simp [chrysalisref09_Depth.l0])
    | succ k1 =>
      have H := HA.out
      clear HA
      simp only [chrysalisref09_Depth.l0] at H
      by_cases c2 : x5_1 < (l0.length : Int)
      · rw [if_pos c2] at H
        have c2b0 : decide (x5_1 < (l0.length : Int)) = true := decide_eq_true c2
        clear c2
        replace H := Option.bind_eq_some_iff.mp H
        obtain ⟨t226, A30, H⟩ := H
        try dsimp only at H
        have A3 := Aside0.mk A30
        clear A30
        by_cases c4 : t226 < 0
        · rw [if_pos c4] at H
          have c4b0 : decide (t226 < 0) = true := decide_eq_true c4
          clear c4
          obtain rfl := Option.some.inj H
          go_wp2_with (first | ((with_reducible refine gate_callee (f := 15) rfl ?_); refine goesL_ (some 14) rfl rfl Try.func15 (by kernel_rfl) rfl #[.slice A0 l0.length c0, .int .i64 x5_1] rfl (by (try simp only [List.map_toArray, List.map_cons, List.map_nil]); first | done | rfl | (simp only [List.length_drop, List.length_take]; rfl)) ?_; (with_reducible refine (chrysalisref09_End.calls k1 _ _ l0 x5_1 t226 _ ?side1 ?side2 A3.out).mono ?_); (case side1 => repeat (first | exact (Kd.C_below HR0.out HB.out) | (with_reducible refine Kd.C_alloc ?_ _) | (with_reducible refine Kd.C_drewN ?_ _) | (with_reducible refine Kd.C_drew ?_))); (case side2 => exact HC0.out); rintro e w' ⟨rfl, ⟨nd, rfl⟩⟩; refine ⟨_, rfl, ?_⟩))
          go_ret
          exact ⟨by first | rfl | (simp [errW_none, errW_some] <;> rfl) | (simp [*, errW_none, errW_some] <;> rfl), by repeat (first | (with_reducible first | exact HB.out | apply below_alloc | apply pw_below_drewN | apply below_drew1) | exact HB.out)⟩
        · rw [if_neg c4] at H
          have c4b0 : decide (t226 < 0) = false := decide_eq_false c4
          clear c4
          have HC5 := Aside0.mk H
          clear H
          go_upto_if 18 with (first | ((with_reducible refine gate_callee (f := 15) rfl ?_); refine goesL_ (some 14) rfl rfl Try.func15 (by kernel_rfl) rfl #[.slice A0 l0.length c0, .int .i64 x5_1] rfl (by (try simp only [List.map_toArray, List.map_cons, List.map_nil]); first | done | rfl | (simp only [List.length_drop, List.length_take]; rfl)) ?_; (with_reducible refine (chrysalisref09_End.calls k1 _ _ l0 x5_1 t226 _ ?side1 ?side2 A3.out).mono ?_); (case side1 => repeat (first | exact (Kd.C_below HR0.out HB.out) | (with_reducible refine Kd.C_alloc ?_ _) | (with_reducible refine Kd.C_drewN ?_ _) | (with_reducible refine Kd.C_drew ?_))); (case side2 => exact HC0.out); rintro e w' ⟨rfl, ⟨nd, rfl⟩⟩; refine ⟨_, rfl, ?_⟩; obtain ⟨Ao6, co6, eo6⟩ := Kd.R_slice HO_3.out; subst eo6))
          (try simp only [Act.put, List.setIfInBounds_toArray, List.set_cons_zero, List.set_cons_succ])
          go_cut [] (fun wc => ∃ (kq : Nat) (x3_4 : List Int), Aside0 (chrysalisref09_Depth.j1 kq l0 x3_4 x4_1 x5_1 = some r) ∧ Aside0 (kq ≤ k1) ∧ Aside0 (Kd.R (Kd.int .i64) 3 wc w.heap.size (fun _ => True) (.slice Ao6 x3_1.length co6) x3_4) ∧ Aside0 (Below w.heap.size w wc))
          case first =>
            have H := HC5.out
            clear HC5
            by_cases c7 : (x3_1.length : Int) > 0
            · rw [if_pos c7] at H
              have c7b0 : decide (0 < (x3_1.length : Int)) = true := decide_eq_true c7
              have c7b1 : decide (0 < x3_1.length) = true := decide_eq_true (by omega)
              clear c7
              (first | rw [c7b1] | rw [c7b0] | (simp only [i64_w, i32_w]; rw [c7b0]) | skip)
              obtain ⟨ji8, hji8⟩ : ∃ j_ : Int, (wrap64 ((x3_1.length : Int) - 1)) = j_ := ⟨_, rfl⟩
              replace H : (if 0 ≤ (ji8) then (if (ji8) < (x3_1.length : Int) then (chrysalisref09_Depth.j1 k1 l0 (x3_1.set ((ji8) : Int).toNat (wrap64 ((rd x3_1 (ji8)) - 1))) x4_1 x5_1) else (none)) else (none)) = some r := by first | (rw [hji8] at H; exact H) | (simp only [hji8] at H ⊢; exact H)
              have hji8w : (IntKind.i64.wrap ((x3_1.length : Int) - 1)) = ji8 := (i64_w _).trans hji8
              by_cases c9 : 0 ≤ (ji8)
              · rw [if_pos c9] at H
                have c9b0 : decide (0 ≤ (ji8)) = true := decide_eq_true c9
                clear c9
                by_cases c10 : (ji8) < (x3_1.length : Int)
                · rw [if_pos c10] at H
                  have c10b0 : decide ((ji8) < (x3_1.length : Int)) = true := decide_eq_true c10
                  clear c10
                  obtain ⟨y228, hy228⟩ : ∃ y_ : List Int, y_ = (x3_1.set ((ji8) : Int).toNat (wrap64 ((rd x3_1 (ji8)) - 1))) := ⟨_, rfl⟩
                  replace H : (chrysalisref09_Depth.j1 k1 l0 y228 x4_1 x5_1) = some r := by first | (rw [hy228]; with_reducible exact H) | (have H2_ := (Option.bind_some _ _).symm.trans H; rw [hy228]; with_reducible exact H2_) | (have H2_ := (Option.bind_some _ _).symm.trans H; with_reducible exact H2_) | with_reducible exact H | (rw [hy228]; exact H) | exact H
                  have Ny228 := Aside0.mk hy228
                  clear hy228
                  have H' := Aside0.mk H
                  clear H
                  have p227 : 0 ≤ ((ji8) : Int) := of_decide_eq_true (by first | (with_reducible assumption) | assumption)
                  have q227 : (ji8) < (x3_1.length : Int) := of_decide_eq_true (by first | (with_reducible assumption) | assumption)
                  obtain ⟨ad227, e227, hx227_0⟩ := Kd.at_int (Kd.R_reads' HO_3.out).2.2 (ji8) p227 q227
                  cases e227
                  replace p227 := eq_true p227
                  replace q227 := eq_true q227
                  have p11 : 0 ≤ ((ji8) : Int) := of_decide_eq_true (by first | (with_reducible assumption) | assumption)
                  have q11 : ((ji8) : Int) < ((x3_1.length : Int) : Int) := of_decide_eq_true (by first | (with_reducible assumption) | assumption)
                  obtain ⟨go11, co11, eo11, gb11, gl11, cl11, HG11⟩ := Kd.R_form HO_3.out (by omega)
                  (first | cases eo11 | (injection eo11 with ea_ en_ ec_; (first | subst ea_ | (injection ea_ with ea_; subst ea_)); subst ec_; clear en_))
                  have GB11 := Aside0.mk gb11
                  have GG11 := Aside0.mk HG11
                  clear gb11 gl11 HG11
                  (first | simp only [add_plain] at hx227_0 | skip)
                  obtain ⟨hx11_0, hf11_0⟩ := Kd.R_celln 0 HO_3.out ((ji8) : Int) p11 q11
                  replace p11 := eq_true p11
                  replace q11 := eq_true q11
                  have HP12 := Kd.R_putg HO_3.out ((ji8) : Int) (wrap64 ((rd x3_1 (ji8)) - 1))
                  go_wp2
                  go_meet
                  case rel => exact ⟨_, (y228), H', ⟨by have := HK1.out; first | omega | exact Nat.le_refl _⟩, ⟨by first | (rw [dwS, Ny228.out]; exact Kd.R_drewN HP12.1 _) | exact HO_3.out⟩, ⟨by first | (rw [dwS]; exact pw_below_drewN (below_set HB.out GB11.out) _) | repeat (first | (with_reducible first | exact HB.out | apply below_alloc | apply pw_below_drewN | apply below_drew1) | exact HB.out)⟩⟩
                · rw [if_neg c10] at H
                  exact absurd H (by simp)
              · rw [if_neg c9] at H
                exact absurd H (by simp)
            · rw [if_neg c7] at H
              have c7b0 : decide (0 < (x3_1.length : Int)) = false := decide_eq_false c7
              have c7b1 : decide (0 < x3_1.length) = false := decide_eq_false (by omega)
              clear c7
              (first | rw [c7b1] | rw [c7b0] | (simp only [i64_w, i32_w]; rw [c7b0]) | skip)
              have H' := Aside0.mk H
              clear H
              go_wp2
              go_meet
              case rel => exact ⟨_, (x3_1), H', ⟨by have := HK1.out; first | omega | exact Nat.le_refl _⟩, ⟨by (with_reducible repeat (first | apply Kd.R_alloc | apply Kd.R_drewN | apply Kd.R_drew)); exact HO_3.out⟩, ⟨by repeat (first | (with_reducible first | exact HB.out | apply below_alloc | apply pw_below_drewN | apply below_drew1) | exact HB.out)⟩⟩
          case rest =>
            clear HC5
            try clear c1
            try clear p1
            try clear q1
            try clear hx1
            try clear hf1
            try clear c2
            try clear c2b0
            try clear p2
            try clear q2
            try clear hx2
            try clear c4
            try clear c4b0
            try clear p6
            try clear c7
            try clear c7b0
            try clear c7b1
            try clear c9
            try clear c9b0
            try clear c10
            try clear c10b0
            try clear p11
            try clear q11
            try clear hx11
            try clear hf11
            try clear hx11_0
            try clear hx227_0
            try clear p11
            try clear p227
            try clear q11
            try clear q227
            obtain ⟨kq, x3_4, HA, HJ4, HO_3, HB⟩ := hcut
            have hl3_4 := (Kd.R_reads' HO_3.out).1
            rw [hl3_4] at HO_3
            (try simp only [hl3_4])
            cases kq with
            | zero => exact absurd HA.out (by simp [chrysalisref09_Depth.j1])
            | succ kj4 =>
              have H := HA.out
              clear HA
              simp only [chrysalisref09_Depth.j1] at H
              by_cases c14 : 0 ≤ x5_1
              · rw [if_pos c14] at H
                have c14b0 : decide (0 ≤ x5_1) = true := decide_eq_true c14
                clear c14
                by_cases c15 : x5_1 < (l0.length : Int)
                · rw [if_pos c15] at H
                  have c15b0 : decide (x5_1 < (l0.length : Int)) = true := decide_eq_true c15
                  clear c15
                  by_cases c16 : x3_4.length < 17592186044416
                  · rw [if_pos c16] at H
                    have LMc16 := Aside0.mk c16
                    clear c16
                    obtain ⟨y230, hy230⟩ : ∃ y_ : List Int, y_ = (x3_4 ++ [(rd_T36 l0 x5_1).f1]) := ⟨_, rfl⟩
                    replace H : (if (y230.length : Int) > x4_1 then (chrysalisref09_Depth.j2 kj4 l0 y230 (y230.length : Int) x5_1) else (chrysalisref09_Depth.j2 kj4 l0 y230 x4_1 x5_1)) = some r := by first | (rw [hy230]; with_reducible exact H) | (have H2_ := (Option.bind_some _ _).symm.trans H; rw [hy230]; with_reducible exact H2_) | (have H2_ := (Option.bind_some _ _).symm.trans H; with_reducible exact H2_) | with_reducible exact H | (rw [hy230]; exact H) | exact H
                    have Ny230 := Aside0.mk hy230
                    clear hy230
                    have HC17 := Aside0.mk H
                    clear H
                    have p229 : 0 ≤ (x5_1 : Int) := of_decide_eq_true (by first | (with_reducible assumption) | assumption)
                    have q229 : x5_1 < (l0.length : Int) := of_decide_eq_true (by first | (with_reducible assumption) | assumption)
                    obtain ⟨ad229, e229, hx229_0, hx229_1, hx229_2, hx229_3, hx229_4⟩ := at_T36 HR0.out x5_1 p229 q229
                    cases e229
                    replace hx229_0 := (HB.out.cell (World.block_lt_of_cell? w _ hx229_0)).trans hx229_0
                    replace hx229_1 := (HB.out.cell (World.block_lt_of_cell? w _ hx229_1)).trans hx229_1
                    replace hx229_2 := (HB.out.cell (World.block_lt_of_cell? w _ hx229_2)).trans hx229_2
                    replace hx229_3 := (HB.out.cell (World.block_lt_of_cell? w _ hx229_3)).trans hx229_3
                    replace hx229_4 := (HB.out.cell (World.block_lt_of_cell? w _ hx229_4)).trans hx229_4
                    replace p229 := eq_true p229
                    replace q229 := eq_true q229
                    go_upto_if 42 with (first | ((with_reducible refine gate_builtin (b := .append) (xs := #[.tmp 31, .tmp 37]) rfl ?_); (try (refine gate_guard (by rfl) ?_; dsimp only)); at_builtin; refine Kd.R_append (Kd.int .i64) (w0 := w) w.heap.size rfl (.tmp 31) (.tmp 37) 31 3 (.int .i64 0) 8 rfl Try.underlying31 info3 rfl (by decide) (by omega) (.slice Ao6 x3_4.length co6) x3_4 ((rd_T36 l0 x5_1).f1) [.int .i64 ((rd_T36 l0 x5_1).f1)] (fun _ => True) (fun _ => False) rfl rfl ?aP (fun _ hk => hk.elim) ?aF ?aO ?aB ?aS ?aL ?_; (case aP => exact rfl); (case aB => exact (by repeat (first | (with_reducible first | exact HB.out | apply below_alloc | apply pw_below_drewN | apply below_drew1) | exact HB.out))); (case aF => exact (fun _ _ => trivial)); (case aO => exact (by (with_reducible repeat (first | apply Kd.R_alloc | apply Kd.R_drewN | apply Kd.R_drew)); exact HO_3.out)); (case aS => exact (below_size (by repeat (first | (with_reducible first | exact HB.out | apply below_alloc | apply pw_below_drewN | apply below_drew1) | exact HB.out)))); (case aL => have := LMc16.out; omega); intro v231 w18 ho hb hg hat; rw [← Ny230.out] at ho; have n0_ := Aside0.mk (hb); have n1_ := Aside0.mk (ho); clear HB; clear HO_3; have HB := n0_; have HO232 := n1_; clear n0_ n1_; clear ho hb hg hat; obtain ⟨Ao19, co19, eo19⟩ := Kd.R_slice HO232.out; subst eo19))
                    (try simp only [Act.put, List.setIfInBounds_toArray, List.set_cons_zero, List.set_cons_succ])
                    go_cut [4] (fun v4 wc => ∃ (kq : Nat) (x4_16 : Int), v4 = .int .i64 x4_16 ∧ Aside0 (chrysalisref09_Depth.j2 kq l0 y230 x4_16 x5_1 = some r) ∧ Aside0 (kq ≤ kj4) ∧ Aside0 (Kd.R (Kd.int .i64) 3 wc w.heap.size (fun _ => True) (.slice Ao19 y230.length co19) y230) ∧ Aside0 (Below w.heap.size w wc))
                    case first =>
                      have H := HC17.out
                      clear HC17
                      by_cases c20 : (y230.length : Int) > x4_1
                      · rw [if_pos c20] at H
                        have c20b0 : decide (x4_1 < (y230.length : Int)) = true := decide_eq_true c20
                        clear c20
                        (first | rw [c20b0] | (simp only [i64_w, i32_w]; rw [c20b0]) | skip)
                        have H' := Aside0.mk H
                        clear H
                        go_wp2
                        go_meet
                        case rel => exact ⟨_, ((y230.length : Int)), (by first | rfl | (simp; done) | (simp [*]; done)), H', ⟨by have := HK1.out; have := HJ4.out; first | omega | exact Nat.le_refl _⟩, ⟨by (try simp only [hl3_4]); (with_reducible repeat (first | apply Kd.R_alloc | apply Kd.R_drewN | apply Kd.R_drew)); exact HO232.out⟩, ⟨by repeat (first | (with_reducible first | exact HB.out | apply below_alloc | apply pw_below_drewN | apply below_drew1) | exact HB.out)⟩⟩
                      · rw [if_neg c20] at H
                        have c20b0 : decide (x4_1 < (y230.length : Int)) = false := decide_eq_false c20
                        clear c20
                        (first | rw [c20b0] | (simp only [i64_w, i32_w]; rw [c20b0]) | skip)
                        have H' := Aside0.mk H
                        clear H
                        go_wp2
                        go_meet
                        case rel => exact ⟨_, (x4_1), (by first | rfl | (simp; done) | (simp [*]; done)), H', ⟨by have := HK1.out; have := HJ4.out; first | omega | exact Nat.le_refl _⟩, ⟨by (try simp only [hl3_4]); (with_reducible repeat (first | apply Kd.R_alloc | apply Kd.R_drewN | apply Kd.R_drew)); exact HO232.out⟩, ⟨by repeat (first | (with_reducible first | exact HB.out | apply below_alloc | apply pw_below_drewN | apply below_drew1) | exact HB.out)⟩⟩
                    case rest =>
                      clear HC17
                      try clear c1
                      try clear p1
                      try clear q1
                      try clear hx1
                      try clear hf1
                      try clear c2
                      try clear c2b0
                      try clear p2
                      try clear q2
                      try clear hx2
                      try clear c4
                      try clear c4b0
                      try clear p6
                      try clear c7
                      try clear c7b0
                      try clear c7b1
                      try clear c9
                      try clear c9b0
                      try clear c10
                      try clear c10b0
                      try clear p11
                      try clear q11
                      try clear hx11
                      try clear hf11
                      try clear c14
                      try clear c14b0
                      try clear c15
                      try clear c15b0
                      try clear c16
                      try clear c20
                      try clear c20b0
                      try clear hx11_0
                      try clear hx227_0
                      try clear hx229_0
                      try clear hx229_1
                      try clear hx229_2
                      try clear hx229_3
                      try clear hx229_4
                      try clear p1
                      try clear p11
                      try clear p2
                      try clear p227
                      try clear p229
                      try clear p6
                      try clear q1
                      try clear q11
                      try clear q2
                      try clear q227
                      try clear q229
                      obtain ⟨kq, x4_16, rfl, HA, HJ16, HO_3, HB⟩ := hcut
                      cases kq with
                      | zero => exact absurd HA.out (by simp [chrysalisref09_Depth.j2])
                      | succ kj16 =>
                        have H := HA.out
                        clear HA
                        simp only [chrysalisref09_Depth.j2] at H
                        have H' := Aside0.mk H
                        clear H
                        go_wp2
                        go_loopg [3] kj16 (fun kq v3 w' => ∃ (x3_4 : List Int), Aside0 (chrysalisref09_Depth.l1 kq l0 x3_4 x4_16 x5_1 = some r) ∧ Aside0 (kq ≤ kj16) ∧ Aside0 (Kd.R (Kd.int .i64) 3 w' w.heap.size (fun _ => True) v3 x3_4) ∧ Aside0 (Below w.heap.size w w'))
                        case atStart => exact ⟨(y230), H', ⟨Nat.le_refl _⟩, ⟨by (try simp only [hl3_4]); (with_reducible repeat (first | apply Kd.R_alloc | apply Kd.R_drewN | apply Kd.R_drew)); exact HO_3.out⟩, ⟨by repeat (first | (with_reducible first | exact HB.out | apply below_alloc | apply pw_below_drewN | apply below_drew1) | exact HB.out)⟩⟩
                        case round =>
                          clear H'
                          try clear c1
                          try clear p1
                          try clear q1
                          try clear hx1
                          try clear hf1
                          try clear c2
                          try clear c2b0
                          try clear p2
                          try clear q2
                          try clear hx2
                          try clear c4
                          try clear c4b0
                          try clear p6
                          try clear c7
                          try clear c7b0
                          try clear c7b1
                          try clear c9
                          try clear c9b0
                          try clear c10
                          try clear c10b0
                          try clear p11
                          try clear q11
                          try clear hx11
                          try clear hf11
                          try clear c14
                          try clear c14b0
                          try clear c15
                          try clear c15b0
                          try clear c16
                          try clear c20
                          try clear c20b0
                          try clear hx11_0
                          try clear hx227_0
                          try clear hx229_0
                          try clear hx229_1
                          try clear hx229_2
                          try clear hx229_3
                          try clear hx229_4
                          try clear p1
                          try clear p11
                          try clear p2
                          try clear p227
                          try clear p229
                          try clear p6
                          try clear q1
                          try clear q11
                          try clear q2
                          try clear q227
                          try clear q229
                          obtain ⟨x3_4, HA, HK4, HO_3, HB⟩ := hrel
                          cases gk with
                          | zero => exact absurd HA.out (by simp [chrysalisref09_Depth.l1])
                          | succ k4 =>
                            have H := HA.out
                            clear HA
                            simp only [chrysalisref09_Depth.l1] at H
                            by_cases c21 : (x3_4.length : Int) > 0
                            · rw [if_pos c21] at H
                              have c21b0 : decide (0 < (x3_4.length : Int)) = true := decide_eq_true c21
                              have c21b1 : decide (0 < x3_4.length) = true := decide_eq_true (by omega)
                              clear c21
                              obtain ⟨ji22, hji22⟩ : ∃ j_ : Int, (wrap64 ((x3_4.length : Int) - 1)) = j_ := ⟨_, rfl⟩
                              replace H : (if 0 ≤ (ji22) then (if (ji22) < (x3_4.length : Int) then (if (rd x3_4 (ji22)) = 0 then (if (ji22) ≤ (x3_4.length : Int) then (chrysalisref09_Depth.l1 k4 l0 (x3_4.take ((ji22) : Int).toNat) x4_16 x5_1) else (none)) else (chrysalisref09_Depth.l0 k4 l0 x3_4 x4_16 (wrap64 (x5_1 + 1)))) else (none)) else (none)) = some r := by first | (rw [hji22] at H; exact H) | (simp only [hji22] at H ⊢; exact H)
                              have hji22w : (IntKind.i64.wrap ((x3_4.length : Int) - 1)) = ji22 := (i64_w _).trans hji22
                              by_cases c23 : 0 ≤ (ji22)
                              · rw [if_pos c23] at H
                                have c23b0 : decide (0 ≤ (ji22)) = true := decide_eq_true c23
                                clear c23
                                by_cases c24 : (ji22) < (x3_4.length : Int)
                                · rw [if_pos c24] at H
                                  have c24b0 : decide ((ji22) < (x3_4.length : Int)) = true := decide_eq_true c24
                                  clear c24
                                  by_cases c25 : (rd x3_4 (ji22)) = 0
                                  · rw [if_pos c25] at H
                                    have c25b0 : ((rd x3_4 (ji22)) == 0) = true := beq_iff_eq.mpr c25
                                    have c25b1 : ((rd x3_4 (ji22)) != 0) = false := bne_eq_false_iff_eq.mpr c25
                                    clear c25
                                    by_cases c26 : (ji22) ≤ (x3_4.length : Int)
                                    · rw [if_pos c26] at H
                                      have c26b0 := eq_true c26
                                      have c26b1 : decide ((ji22) ≤ (x3_4.length : Int)) = true := decide_eq_true c26
                                      clear c26
                                      obtain ⟨y234, hy234⟩ : ∃ y_ : List Int, y_ = (x3_4.take ((ji22) : Int).toNat) := ⟨_, rfl⟩
                                      replace H : (chrysalisref09_Depth.l1 k4 l0 y234 x4_16 x5_1) = some r := by first | (rw [hy234]; with_reducible exact H) | (have H2_ := (Option.bind_some _ _).symm.trans H; rw [hy234]; with_reducible exact H2_) | (have H2_ := (Option.bind_some _ _).symm.trans H; with_reducible exact H2_) | with_reducible exact H | (rw [hy234]; exact H) | exact H
                                      have Ny234 := Aside0.mk hy234
                                      clear hy234
                                      have H' := Aside0.mk H
                                      clear H
                                      obtain ⟨Ao27, co27, eo27⟩ := Kd.R_slice HO_3.out
                                      subst eo27
                                      have p233 : 0 ≤ ((ji22) : Int) := of_decide_eq_true (by first | (with_reducible assumption) | assumption)
                                      have q233 : (ji22) < (x3_4.length : Int) := of_decide_eq_true (by first | (with_reducible assumption) | assumption)
                                      obtain ⟨ad233, e233, hx233_0⟩ := Kd.at_int (Kd.R_reads' HO_3.out).2.2 (ji22) p233 q233
                                      cases e233
                                      replace p233 := eq_true p233
                                      replace q233 := eq_true q233
                                      have q28 : ((ji22) : Int) ≤ ((x3_4.length : Int) : Int) := of_decide_eq_true (by first | (with_reducible assumption) | assumption)
                                      obtain ⟨i028, hi028, _, hsz28, _⟩ := info_parts info3
                                      have hcut28 := cut_to (P := Try.prog) 31 3 .i64 Try.underlying31 hi028 (some ad233) x3_4.length co27 (ji22) (of_decide_eq_true (by first | (with_reducible assumption) | assumption)) q28 (Kd.R_reads' HO_3.out).2.1
                                      have hr28 := Kd.R_take (m := ((ji22) : Int).toNat) HO_3.out (by omega)
                                      have hy28 : y234.length = ((ji22) : Int).toNat := (by rw [Ny234.out, List.length_take]; omega)
                                      rw [← Ny234.out] at hr28
                                      rw [← hy28] at hr28 hcut28
                                      clear hy28 hi028 hsz28 HO_3
                                      have HO236 := Aside0.mk hr28
                                      clear hr28
                                      replace q28 := eq_true q28
                                      go_wp2
                                      go_roundg k4
                                      case measure => have := HK1.out; have := HJ4.out; have := HJ16.out; have := HK4.out; omega
                                      case rel => exact ⟨(y234), H', ⟨by have := HK1.out; have := HJ4.out; have := HJ16.out; have := HK4.out; omega⟩, ⟨by (try simp only [hl3_4]); (with_reducible repeat (first | apply Kd.R_alloc | apply Kd.R_drewN | apply Kd.R_drew)); exact HO236.out⟩, ⟨by repeat (first | (with_reducible first | exact HB.out | apply below_alloc | apply pw_below_drewN | apply below_drew1) | exact HB.out)⟩⟩
                                    · rw [if_neg c26] at H
                                      exact absurd H (by simp)
                                  · rw [if_neg c25] at H
                                    have c25b0 : ((rd x3_4 (ji22)) == 0) = false := beq_eq_false_iff_ne.mpr c25
                                    have c25b1 : ((rd x3_4 (ji22)) != 0) = true := bne_iff_ne.mpr c25
                                    have H' := Aside0.mk H
                                    clear H
                                    obtain ⟨Ao29, co29, eo29⟩ := Kd.R_slice HO_3.out
                                    subst eo29
                                    have p233 : 0 ≤ ((ji22) : Int) := of_decide_eq_true (by first | (with_reducible assumption) | assumption)
                                    have q233 : (ji22) < (x3_4.length : Int) := of_decide_eq_true (by first | (with_reducible assumption) | assumption)
                                    obtain ⟨ad233, e233, hx233_0⟩ := Kd.at_int (Kd.R_reads' HO_3.out).2.2 (ji22) p233 q233
                                    cases e233
                                    replace p233 := eq_true p233
                                    replace q233 := eq_true q233
                                    go_wp2
                                    (try simp only [← hl3_4])
                                    go_roundg k4
                                    case measure => have := HK1.out; have := HJ4.out; have := HJ16.out; have := HK4.out; omega
                                    case rel => exact ⟨(x3_4), (x4_16), (wrap64 (x5_1 + 1)), (by first | rfl | (simp; done) | (simp [*]; done)), (by first | rfl | (simp; done) | (simp [*]; done)), H', ⟨by have := HK1.out; have := HJ4.out; have := HJ16.out; have := HK4.out; omega⟩, ⟨by (try simp only [hl3_4]); (with_reducible repeat (first | apply Kd.R_alloc | apply Kd.R_drewN | apply Kd.R_drew)); exact HO_3.out⟩, ⟨by repeat (first | (with_reducible first | exact HB.out | apply below_alloc | apply pw_below_drewN | apply below_drew1) | exact HB.out)⟩⟩
                                · rw [if_neg c24] at H
                                  exact absurd H (by simp)
                              · rw [if_neg c23] at H
                                exact absurd H (by simp)
                            · rw [if_neg c21] at H
                              have c21b0 : decide (0 < (x3_4.length : Int)) = false := decide_eq_false c21
                              have c21b1 : decide (0 < x3_4.length) = false := decide_eq_false (by omega)
                              clear c21
                              have H' := Aside0.mk H
                              clear H
                              obtain ⟨Ao30, co30, eo30⟩ := Kd.R_slice HO_3.out
                              subst eo30
                              go_wp2
                              (try simp only [← hl3_4])
                              go_roundg k4
                              case measure => have := HK1.out; have := HJ4.out; have := HJ16.out; have := HK4.out; omega
                              case rel => exact ⟨(x3_4), (x4_16), (wrap64 (x5_1 + 1)), (by first | rfl | (simp; done) | (simp [*]; done)), (by first | rfl | (simp; done) | (simp [*]; done)), H', ⟨by have := HK1.out; have := HJ4.out; have := HJ16.out; have := HK4.out; omega⟩, ⟨by (try simp only [hl3_4]); (with_reducible repeat (first | apply Kd.R_alloc | apply Kd.R_drewN | apply Kd.R_drew)); exact HO_3.out⟩, ⟨by repeat (first | (with_reducible first | exact HB.out | apply below_alloc | apply pw_below_drewN | apply below_drew1) | exact HB.out)⟩⟩
                  · rw [if_neg c16] at H
                    exact absurd H (by simp)
                · rw [if_neg c15] at H
                  exact absurd H (by simp)
              · rw [if_neg c14] at H
                exact absurd H (by simp)
      · rw [if_neg c2] at H
        have c2b0 : decide (x5_1 < (l0.length : Int)) = false := decide_eq_false c2
        clear c2
        obtain rfl := Option.some.inj H
        go_wp2
        go_ret
        exact ⟨by first | rfl | (simp [errW_none, errW_some] <;> rfl) | (simp [*, errW_none, errW_some] <;> rfl), by repeat (first | (with_reducible first | exact HB.out | apply below_alloc | apply pw_below_drewN | apply below_drew1) | exact HB.out)⟩

end Go.Proofs.Ytclhaajlgmiilaa.Q
end
section
namespace Go.Proofs.Ytclhaajlgmiilaa.Q
open Go.RowKit Go.Proofs.YtclhaajlgmiilaaW.PrintWords Go.Proofs.YtclhaajlgmiilaaW.PrintLast Go.Proofs.YtclhaajlgmiilaaW.PrintMore
attribute [local go_sem] max2_int min2_int max_two min_two max_three min_three max_four min_four
set_option linter.unusedVariables false
set_option linter.unusedSimpArgs false

/-! ### chrysalislaw09_ints: function 16 -/
def chrysalislaw09_ints.l0 : Nat → List Int → List Int → Int → Option (Bool)
  | 0, _, _, _ => none
  | k + 1, x0, x1, x5 => if x5 < (x0.length : Int) then (if 0 ≤ x5 then (if x5 < (x1.length : Int) then (if (rd x0 x5) = (rd x1 x5) then (chrysalislaw09_ints.l0 k x0 x1 (wrap64 (x5 + 1))) else (some false)) else (none)) else (none)) else (some true)
def chrysalislaw09_ints.f (k : Nat) (l0 : List Int) (l1 : List Int) : Option (Bool) := if (l0.length : Int) = (l1.length : Int) then (chrysalislaw09_ints.l0 k l0 l1 0) else (some false)
theorem chrysalislaw09_ints.mono_l : ∀ k, (∀ y0 y1 y2, LeO (chrysalislaw09_ints.l0 k y0 y1 y2) (chrysalislaw09_ints.l0 (k + 1) y0 y1 y2))
  | 0 => fun _ _ _ r h => by simp [chrysalislaw09_ints.l0] at h
  | k + 1 => by
    have ih0 := chrysalislaw09_ints.mono_l k
    · intro y0 y1 y2
      unfold chrysalislaw09_ints.l0
      repeat' first
      | (with_reducible exact ih0 _ _ _)
      | (with_reducible exact LeO.refl _)
      | (with_reducible exact LeO.none _)
      | (with_reducible refine LeO.ite ?_ ?_)
      | (with_reducible refine LeO.bind ?_ (fun _ => ?_))
      | exact ih0 _ _ _
      | exact LeO.none _
      | refine LeO.ite ?_ ?_
      | refine LeO.bind ?_ (fun _ => ?_)
theorem chrysalislaw09_ints.mono : ∀ a0 a1 k, LeO (chrysalislaw09_ints.f k a0 a1) (chrysalislaw09_ints.f (k + 1) a0 a1) := by
  intro a0 a1 k
  have ih0 := chrysalislaw09_ints.mono_l k
  unfold chrysalislaw09_ints.f
  repeat' first
      | (with_reducible exact ih0 _ _ _)
      | (with_reducible exact LeO.refl _)
      | (with_reducible exact LeO.none _)
      | (with_reducible refine LeO.ite ?_ ?_)
      | (with_reducible refine LeO.bind ?_ (fun _ => ?_))
      | exact ih0 _ _ _
      | exact LeO.none _
      | refine LeO.ite ?_ ?_
      | refine LeO.bind ?_ (fun _ => ?_)
set_option maxHeartbeats 8000000 in
set_option maxRecDepth 100000 in
theorem chrysalislaw09_ints.calls (k : Nat) (A0 : Option Addr) (c0 : Nat) (l0 : List Int) (A1 : Option Addr) (c1 : Nat) (l1 : List Int) (r : Bool) (w : World) (hr0 : Kd.C (Kd.int .i64) w A0 l0.length l0) (hc0 : l0.length ≤ c0) (hr1 : Kd.C (Kd.int .i64) w A1 l1.length l1) (hc1 : l1.length ≤ c1) (h : chrysalislaw09_ints.f k l0 l1 = some r) :
    Calls Try.prog 16 #[.slice A0 l0.length c0, .slice A1 l1.length c1] w fun e w' => e = .returned (.bool r) ∧ Drawn0 w w' := by
  have HR0 := Aside0.mk hr0
  have HC0 := Aside0.mk hc0
  clear hr0 hc0
  have HR1 := Aside0.mk hr1
  have HC1 := Aside0.mk hc1
  clear hr1 hc1
  have H : (if (l0.length : Int) = (l1.length : Int) then (chrysalislaw09_ints.l0 k l0 l1 0) else (some false)) = some r := h
  clear h
  by_cases c3 : (l0.length : Int) = (l1.length : Int)
  · rw [if_pos c3] at H
    have c3b0 : ((l0.length : Int) == (l1.length : Int)) = true := beq_iff_eq.mpr c3
    have c3b1 : ((l0.length : Int) != (l1.length : Int)) = false := bne_eq_false_iff_eq.mpr c3
    have c3b2 : (l0.length == l1.length) = true := by first | simpa using c3 | (simp at c3 ⊢; omega)
    clear c3
    have H' := Aside0.mk H
    clear H
    go_enter Try.func16, Try.ntmps16
    go_wp2
    repeat (go_quiet (fail); try go_wp2)
    go_loopg [5] k (fun kq v5 w' => ∃ (x5_1 : Int), v5 = .int .i64 x5_1 ∧ Aside0 (chrysalislaw09_ints.l0 kq l0 l1 x5_1 = some r) ∧ Aside0 (kq ≤ k) ∧ Drawn0 w w')
    case atStart => exact ⟨(0), (by first | rfl | (simp; done) | (simp [*]; done)), H', ⟨Nat.le_refl _⟩, by repeat (first | exact Drawn0.refl _ | apply Drawn0.step)⟩
    case round =>
      clear H'
      try clear c1
      try clear p2
      try clear c3
      try clear c3b0
      try clear c3b1
      try clear c3b2
      obtain ⟨x5_1, rfl, HA, HK1, ⟨m1, rfl⟩⟩ := hrel
      cases gk with
      | zero => exact absurd HA.out (by simp [chrysalislaw09_ints.l0])
      | succ k1 =>
        have H := HA.out
        clear HA
        simp only [chrysalislaw09_ints.l0] at H
        by_cases c4 : x5_1 < (l0.length : Int)
        · rw [if_pos c4] at H
          have c4b0 : decide (x5_1 < (l0.length : Int)) = true := decide_eq_true c4
          clear c4
          by_cases c5 : 0 ≤ x5_1
          · rw [if_pos c5] at H
            have c5b0 : decide (0 ≤ x5_1) = true := decide_eq_true c5
            clear c5
            by_cases c6 : x5_1 < (l1.length : Int)
            · rw [if_pos c6] at H
              have c6b0 : decide (x5_1 < (l1.length : Int)) = true := decide_eq_true c6
              clear c6
              by_cases c7 : (rd l0 x5_1) = (rd l1 x5_1)
              · rw [if_pos c7] at H
                have c7b0 : ((rd l0 x5_1) == (rd l1 x5_1)) = true := beq_iff_eq.mpr c7
                have c7b1 : ((rd l0 x5_1) != (rd l1 x5_1)) = false := bne_eq_false_iff_eq.mpr c7
                clear c7
                have H' := Aside0.mk H
                clear H
                have p316 : 0 ≤ (x5_1 : Int) := of_decide_eq_true (by first | (with_reducible assumption) | assumption)
                have q316 : x5_1 < (l0.length : Int) := of_decide_eq_true (by first | (with_reducible assumption) | assumption)
                obtain ⟨ad316, e316, hx316_0⟩ := Kd.at_int HR0.out x5_1 p316 q316
                cases e316
                replace p316 := eq_true p316
                replace q316 := eq_true q316
                have p317 : 0 ≤ (x5_1 : Int) := of_decide_eq_true (by first | (with_reducible assumption) | assumption)
                have q317 : x5_1 < (l1.length : Int) := of_decide_eq_true (by first | (with_reducible assumption) | assumption)
                obtain ⟨ad317, e317, hx317_0⟩ := Kd.at_int HR1.out x5_1 p317 q317
                cases e317
                replace p317 := eq_true p317
                replace q317 := eq_true q317
                go_wp2
                repeat (go_quiet (fail); try go_wp2)
                go_roundg k1
                case measure => have := HK1.out; omega
                case rel => exact ⟨(wrap64 (x5_1 + 1)), (by first | rfl | (simp; done) | (simp [*]; done)), H', ⟨by have := HK1.out; omega⟩, by repeat (first | exact Drawn0.refl _ | apply Drawn0.step)⟩
              · rw [if_neg c7] at H
                have c7b0 : ((rd l0 x5_1) == (rd l1 x5_1)) = false := beq_eq_false_iff_ne.mpr c7
                have c7b1 : ((rd l0 x5_1) != (rd l1 x5_1)) = true := bne_iff_ne.mpr c7
                obtain rfl := Option.some.inj H
                have p316 : 0 ≤ (x5_1 : Int) := of_decide_eq_true (by first | (with_reducible assumption) | assumption)
                have q316 : x5_1 < (l0.length : Int) := of_decide_eq_true (by first | (with_reducible assumption) | assumption)
                obtain ⟨ad316, e316, hx316_0⟩ := Kd.at_int HR0.out x5_1 p316 q316
                cases e316
                replace p316 := eq_true p316
                replace q316 := eq_true q316
                have p317 : 0 ≤ (x5_1 : Int) := of_decide_eq_true (by first | (with_reducible assumption) | assumption)
                have q317 : x5_1 < (l1.length : Int) := of_decide_eq_true (by first | (with_reducible assumption) | assumption)
                obtain ⟨ad317, e317, hx317_0⟩ := Kd.at_int HR1.out x5_1 p317 q317
                cases e317
                replace p317 := eq_true p317
                replace q317 := eq_true q317
                go_wp2
                repeat (go_quiet (fail); try go_wp2)
                go_ret
                exact ⟨by first | rfl | (simp; done) | (simp [*]; done), by repeat (first | exact Drawn0.refl _ | apply Drawn0.step)⟩
            · rw [if_neg c6] at H
              exact absurd H (by simp)
          · rw [if_neg c5] at H
            exact absurd H (by simp)
        · rw [if_neg c4] at H
          have c4b0 : decide (x5_1 < (l0.length : Int)) = false := decide_eq_false c4
          clear c4
          obtain rfl := Option.some.inj H
          go_wp2
          repeat (go_quiet (fail); try go_wp2)
          go_ret
          exact ⟨by first | rfl | (simp; done) | (simp [*]; done), by repeat (first | exact Drawn0.refl _ | apply Drawn0.step)⟩
  · rw [if_neg c3] at H
    have c3b0 : ((l0.length : Int) == (l1.length : Int)) = false := beq_eq_false_iff_ne.mpr c3
    have c3b1 : ((l0.length : Int) != (l1.length : Int)) = true := bne_iff_ne.mpr c3
    have c3b2 : (l0.length == l1.length) = false := by first | simpa using c3 | (simp at c3 ⊢; omega)
    obtain rfl := Option.some.inj H
    go_enter Try.func16, Try.ntmps16
    go_wp2
    repeat (go_quiet (fail); try go_wp2)
    go_ret
    exact ⟨by first | rfl | (simp; done) | (simp [*]; done), by repeat (first | exact Drawn0.refl _ | apply Drawn0.step)⟩

end Go.Proofs.Ytclhaajlgmiilaa.Q
end
section
namespace Go.Proofs.Ytclhaajlgmiilaa.Q
open Go.RowKit Go.Proofs.YtclhaajlgmiilaaW.PrintWords Go.Proofs.YtclhaajlgmiilaaW.PrintLast Go.Proofs.YtclhaajlgmiilaaW.PrintMore
attribute [local go_sem] max2_int min2_int max_two min_two max_three min_three max_four min_four
set_option linter.unusedVariables false
set_option linter.unusedSimpArgs false

attribute [local go_sem high] eqA36
/-! ### chrysalisref09_Same: function 19 -/
def chrysalisref09_Same.l0 : Nat → List (S36) → List (S36) → Int → Option (Bool)
  | 0, _, _, _ => none
  | k + 1, x0, x1, x5 => if x5 < (x0.length : Int) then (if 0 ≤ x5 then (if x5 < (x1.length : Int) then (if (!(((rd_T36 x0 x5).f0) == ((rd_T36 x1 x5).f0)) || (!(((rd_T36 x0 x5).f1) == ((rd_T36 x1 x5).f1)) || (!((((rd_T36 x0 x5).f2).toList) == (((rd_T36 x1 x5).f2).toList)) || (!(((rd_T36 x0 x5).f3) == ((rd_T36 x1 x5).f3)) || (!((((rd_T36 x0 x5).f4).toList) == (((rd_T36 x1 x5).f4).toList))))))) = true then (some false) else (chrysalisref09_Same.l0 k x0 x1 (wrap64 (x5 + 1)))) else (none)) else (none)) else (some true)
def chrysalisref09_Same.f (k : Nat) (l0 : List (S36)) (l1 : List (S36)) : Option (Bool) := if (l0.length : Int) = (l1.length : Int) then (chrysalisref09_Same.l0 k l0 l1 0) else (some false)
theorem chrysalisref09_Same.mono_l : ∀ k, (∀ y0 y1 y2, LeO (chrysalisref09_Same.l0 k y0 y1 y2) (chrysalisref09_Same.l0 (k + 1) y0 y1 y2))
  | 0 => fun _ _ _ r h => by simp [chrysalisref09_Same.l0] at h
  | k + 1 => by
    have ih0 := chrysalisref09_Same.mono_l k
    · intro y0 y1 y2
      unfold chrysalisref09_Same.l0
      repeat' first
      | (with_reducible exact ih0 _ _ _)
      | (with_reducible exact LeO.refl _)
      | (with_reducible exact LeO.none _)
      | (with_reducible refine LeO.ite ?_ ?_)
      | (with_reducible refine LeO.bind ?_ (fun _ => ?_))
      | exact ih0 _ _ _
      | exact LeO.none _
      | refine LeO.ite ?_ ?_
      | refine LeO.bind ?_ (fun _ => ?_)
theorem chrysalisref09_Same.mono : ∀ a0 a1 k, LeO (chrysalisref09_Same.f k a0 a1) (chrysalisref09_Same.f (k + 1) a0 a1) := by
  intro a0 a1 k
  have ih0 := chrysalisref09_Same.mono_l k
  unfold chrysalisref09_Same.f
  repeat' first
      | (with_reducible exact ih0 _ _ _)
      | (with_reducible exact LeO.refl _)
      | (with_reducible exact LeO.none _)
      | (with_reducible refine LeO.ite ?_ ?_)
      | (with_reducible refine LeO.bind ?_ (fun _ => ?_))
      | exact ih0 _ _ _
      | exact LeO.none _
      | refine LeO.ite ?_ ?_
      | refine LeO.bind ?_ (fun _ => ?_)
set_option maxHeartbeats 8000000 in
set_option maxRecDepth 100000 in
theorem chrysalisref09_Same.calls (k : Nat) (A0 : Option Addr) (c0 : Nat) (l0 : List (S36)) (A1 : Option Addr) (c1 : Nat) (l1 : List (S36)) (r : Bool) (w : World) (hr0 : Kd.C k36 w A0 l0.length l0) (hc0 : l0.length ≤ c0) (hr1 : Kd.C k36 w A1 l1.length l1) (hc1 : l1.length ≤ c1) (h : chrysalisref09_Same.f k l0 l1 = some r) :
    Calls Try.prog 19 #[.slice A0 l0.length c0, .slice A1 l1.length c1] w fun e w' => e = .returned (.bool r) ∧ Drawn0 w w' := by
  have hu36 := Try.underlying36
  have HR0 := Aside0.mk hr0
  have HC0 := Aside0.mk hc0
  clear hr0 hc0
  have HR1 := Aside0.mk hr1
  have HC1 := Aside0.mk hc1
  clear hr1 hc1
  have H : (if (l0.length : Int) = (l1.length : Int) then (chrysalisref09_Same.l0 k l0 l1 0) else (some false)) = some r := h
  clear h
  by_cases c3 : (l0.length : Int) = (l1.length : Int)
  · rw [if_pos c3] at H
    have c3b0 : ((l0.length : Int) == (l1.length : Int)) = true := beq_iff_eq.mpr c3
    have c3b1 : ((l0.length : Int) != (l1.length : Int)) = false := bne_eq_false_iff_eq.mpr c3
    have c3b2 : (l0.length == l1.length) = true := by first | simpa using c3 | (simp at c3 ⊢; omega)
    clear c3
    have H' := Aside0.mk H
    clear H
    go_enter Try.func19, Try.ntmps19
    go_wp2
    repeat (go_quiet (fail); try go_wp2)
    go_loopg [5] k (fun kq v5 w' => ∃ (x5_1 : Int), v5 = .int .i64 x5_1 ∧ Aside0 (chrysalisref09_Same.l0 kq l0 l1 x5_1 = some r) ∧ Aside0 (kq ≤ k) ∧ Drawn0 w w')
    case atStart => exact ⟨(0), (by first | rfl | (simp; done) | (simp [*]; done)), H', ⟨Nat.le_refl _⟩, by repeat (first | exact Drawn0.refl _ | apply Drawn0.step)⟩
    case round =>
      clear H'
      try clear c1
      try clear p2
      try clear c3
      try clear c3b0
      try clear c3b1
      try clear c3b2
      obtain ⟨x5_1, rfl, HA, HK1, ⟨m1, rfl⟩⟩ := hrel
      cases gk with
      | zero => exact absurd HA.out (by simp [chrysalisref09_Same.l0])
      | succ k1 =>
        have H := HA.out
        clear HA
        simp only [chrysalisref09_Same.l0] at H
        by_cases c4 : x5_1 < (l0.length : Int)
        · rw [if_pos c4] at H
          have c4b0 : decide (x5_1 < (l0.length : Int)) = true := decide_eq_true c4
          clear c4
          by_cases c5 : 0 ≤ x5_1
          · rw [if_pos c5] at H
            have c5b0 : decide (0 ≤ x5_1) = true := decide_eq_true c5
            clear c5
            by_cases c6 : x5_1 < (l1.length : Int)
            · rw [if_pos c6] at H
              have c6b0 : decide (x5_1 < (l1.length : Int)) = true := decide_eq_true c6
              clear c6
              by_cases c7 : (!(((rd_T36 l0 x5_1).f0) == ((rd_T36 l1 x5_1).f0)) || (!(((rd_T36 l0 x5_1).f1) == ((rd_T36 l1 x5_1).f1)) || (!((((rd_T36 l0 x5_1).f2).toList) == (((rd_T36 l1 x5_1).f2).toList)) || (!(((rd_T36 l0 x5_1).f3) == ((rd_T36 l1 x5_1).f3)) || (!((((rd_T36 l0 x5_1).f4).toList) == (((rd_T36 l1 x5_1).f4).toList))))))) = true
              · rw [if_pos c7] at H
                have c7b0 : (!(((rd_T36 l0 x5_1).f0) == ((rd_T36 l1 x5_1).f0)) || (!(((rd_T36 l0 x5_1).f1) == ((rd_T36 l1 x5_1).f1)) || (!((((rd_T36 l0 x5_1).f2).toList) == (((rd_T36 l1 x5_1).f2).toList)) || (!(((rd_T36 l0 x5_1).f3) == ((rd_T36 l1 x5_1).f3)) || (!((((rd_T36 l0 x5_1).f4).toList) == (((rd_T36 l1 x5_1).f4).toList))))))) = true := c7
                clear c7
                obtain rfl := Option.some.inj H
                have p318 : 0 ≤ (x5_1 : Int) := of_decide_eq_true (by first | (with_reducible assumption) | assumption)
                have q318 : x5_1 < (l0.length : Int) := of_decide_eq_true (by first | (with_reducible assumption) | assumption)
                obtain ⟨ad318, e318, hx318_0, hx318_1, hx318_2, hx318_3, hx318_4⟩ := at_T36 HR0.out x5_1 p318 q318
                cases e318
                replace p318 := eq_true p318
                replace q318 := eq_true q318
                have p319 : 0 ≤ (x5_1 : Int) := of_decide_eq_true (by first | (with_reducible assumption) | assumption)
                have q319 : x5_1 < (l1.length : Int) := of_decide_eq_true (by first | (with_reducible assumption) | assumption)
                obtain ⟨ad319, e319, hx319_0, hx319_1, hx319_2, hx319_3, hx319_4⟩ := at_T36 HR1.out x5_1 p319 q319
                cases e319
                replace p319 := eq_true p319
                replace q319 := eq_true q319
                go_wp2
                repeat (go_quiet (fail); try go_wp2)
                go_ret
                exact ⟨by first | rfl | (simp; done) | (simp [*]; done), by repeat (first | exact Drawn0.refl _ | apply Drawn0.step)⟩
              · rw [if_neg c7] at H
                have c7b0 : (!(((rd_T36 l0 x5_1).f0) == ((rd_T36 l1 x5_1).f0)) || (!(((rd_T36 l0 x5_1).f1) == ((rd_T36 l1 x5_1).f1)) || (!((((rd_T36 l0 x5_1).f2).toList) == (((rd_T36 l1 x5_1).f2).toList)) || (!(((rd_T36 l0 x5_1).f3) == ((rd_T36 l1 x5_1).f3)) || (!((((rd_T36 l0 x5_1).f4).toList) == (((rd_T36 l1 x5_1).f4).toList))))))) = false := by simpa using c7
                clear c7
                have H' := Aside0.mk H
                clear H
                have p318 : 0 ≤ (x5_1 : Int) := of_decide_eq_true (by first | (with_reducible assumption) | assumption)
                have q318 : x5_1 < (l0.length : Int) := of_decide_eq_true (by first | (with_reducible assumption) | assumption)
                obtain ⟨ad318, e318, hx318_0, hx318_1, hx318_2, hx318_3, hx318_4⟩ := at_T36 HR0.out x5_1 p318 q318
                cases e318
                replace p318 := eq_true p318
                replace q318 := eq_true q318
                have p319 : 0 ≤ (x5_1 : Int) := of_decide_eq_true (by first | (with_reducible assumption) | assumption)
                have q319 : x5_1 < (l1.length : Int) := of_decide_eq_true (by first | (with_reducible assumption) | assumption)
                obtain ⟨ad319, e319, hx319_0, hx319_1, hx319_2, hx319_3, hx319_4⟩ := at_T36 HR1.out x5_1 p319 q319
                cases e319
                replace p319 := eq_true p319
                replace q319 := eq_true q319
                go_wp2
                repeat (go_quiet (fail); try go_wp2)
                go_roundg k1
                case measure => have := HK1.out; omega
                case rel => exact ⟨(wrap64 (x5_1 + 1)), (by first | rfl | (simp; done) | (simp [*]; done)), H', ⟨by have := HK1.out; omega⟩, by repeat (first | exact Drawn0.refl _ | apply Drawn0.step)⟩
            · rw [if_neg c6] at H
              exact absurd H (by simp)
          · rw [if_neg c5] at H
            exact absurd H (by simp)
        · rw [if_neg c4] at H
          have c4b0 : decide (x5_1 < (l0.length : Int)) = false := decide_eq_false c4
          clear c4
          obtain rfl := Option.some.inj H
          go_wp2
          repeat (go_quiet (fail); try go_wp2)
          go_ret
          exact ⟨by first | rfl | (simp; done) | (simp [*]; done), by repeat (first | exact Drawn0.refl _ | apply Drawn0.step)⟩
  · rw [if_neg c3] at H
    have c3b0 : ((l0.length : Int) == (l1.length : Int)) = false := beq_eq_false_iff_ne.mpr c3
    have c3b1 : ((l0.length : Int) != (l1.length : Int)) = true := bne_iff_ne.mpr c3
    have c3b2 : (l0.length == l1.length) = false := by first | simpa using c3 | (simp at c3 ⊢; omega)
    obtain rfl := Option.some.inj H
    go_enter Try.func19, Try.ntmps19
    go_wp2
    repeat (go_quiet (fail); try go_wp2)
    go_ret
    exact ⟨by first | rfl | (simp; done) | (simp [*]; done), by repeat (first | exact Drawn0.refl _ | apply Drawn0.step)⟩

/-! ### chrysalisref09_Sub: function 20 -/
def chrysalisref09_Sub.f (k : Nat) (l0 : List (S36)) (a1 : Int) : Option ((List (S36))) := (chrysalisref09_End.f k l0 a1).bind fun t320 => (if t320 < 0 then (some ([] : List (S36))) else (if 0 ≤ a1 then (if a1 ≤ t320 then (if t320 ≤ (l0.length : Int) then ((some ((l0.take (t320 : Int).toNat).drop (a1 : Int).toNat : List (S36))).bind fun y321 => (if ([] : List (S36)).length + y321.length < 2513169434916 then (some (([] : List (S36)) ++ y321)) else (none))) else (none)) else (none)) else (none)))
theorem chrysalisref09_Sub.mono : ∀ a0 a1 k, LeO (chrysalisref09_Sub.f k a0 a1) (chrysalisref09_Sub.f (k + 1) a0 a1) := by
  intro a0 a1 k
  unfold chrysalisref09_Sub.f
  repeat' first
      | (with_reducible exact chrysalisref09_End.mono _ _ _)
      | (with_reducible exact LeO.refl _)
      | (with_reducible exact LeO.none _)
      | (with_reducible refine LeO.ite ?_ ?_)
      | (with_reducible refine LeO.bind ?_ (fun _ => ?_))
      | exact chrysalisref09_End.mono _ _ _
      | exact LeO.none _
      | refine LeO.ite ?_ ?_
      | refine LeO.bind ?_ (fun _ => ?_)
set_option maxHeartbeats 8000000 in
set_option maxRecDepth 100000 in
theorem chrysalisref09_Sub.calls (k : Nat) (A0 : Option Addr) (c0 : Nat) (l0 : List (S36)) (a1 : Int) (r : List (S36)) (w : World) (hr0 : Kd.C k36 w A0 l0.length l0) (hc0 : l0.length ≤ c0) (h : chrysalisref09_Sub.f k l0 a1 = some r) :
    Calls Try.prog 20 #[.slice A0 l0.length c0, .int .i64 a1] w fun e w' => ∃ v0_ : Value, e = .returned (v0_) ∧ Kd.R k36 36 w' w.heap.size (fun _ => True) v0_ r ∧ Below w.heap.size w w' := by
  have HR0 := Aside0.mk hr0
  have HC0 := Aside0.mk hc0
  clear hr0 hc0
  have HB := Aside0.mk (Below.refl w.heap.size w)
  have H : ((chrysalisref09_End.f k l0 a1).bind fun t320 => (if t320 < 0 then (some ([] : List (S36))) else (if 0 ≤ a1 then (if a1 ≤ t320 then (if t320 ≤ (l0.length : Int) then ((some ((l0.take (t320 : Int).toNat).drop (a1 : Int).toNat : List (S36))).bind fun y321 => (if ([] : List (S36)).length + y321.length < 2513169434916 then (some (([] : List (S36)) ++ y321)) else (none))) else (none)) else (none)) else (none)))) = some r := h
  clear h
  replace H := Option.bind_eq_some_iff.mp H
  obtain ⟨t320, A30, H⟩ := H
  try dsimp only at H
  have A3 := Aside0.mk A30
  clear A30
  by_cases c4 : t320 < 0
  · rw [if_pos c4] at H
    have c4b0 : decide (t320 < 0) = true := decide_eq_true c4
    clear c4
    obtain rfl := Option.some.inj H
    go_enter Try.func20, Try.ntmps20
    go_wp2_with (first | ((with_reducible refine gate_callee (f := 15) rfl ?_); refine goesL_ (some 9) rfl rfl Try.func15 (by kernel_rfl) rfl #[.slice A0 l0.length c0, .int .i64 a1] rfl (by (try simp only [List.map_toArray, List.map_cons, List.map_nil]); first | done | rfl | (simp only [List.length_drop, List.length_take]; rfl)) ?_; (with_reducible refine (chrysalisref09_End.calls k _ _ l0 a1 t320 _ ?side1 ?side2 A3.out).mono ?_); (case side1 => repeat (first | exact HR0.out | (with_reducible refine Kd.C_alloc ?_ _) | (with_reducible refine Kd.C_drewN ?_ _) | (with_reducible refine Kd.C_drew ?_))); (case side2 => exact HC0.out); rintro e w' ⟨rfl, ⟨nd, rfl⟩⟩; refine ⟨_, rfl, ?_⟩))
    go_ret
    exact ⟨_, by first | rfl | (simp [errW_none, errW_some] <;> rfl) | (simp [*, errW_none, errW_some] <;> rfl), by first | exact Kd.R_nil _ _ _ _ _ | exact Kd.N_nil _ _ _ _ _ | exact Kd.V_nil _ _ _ _ _ | exact Kd.Q_nil _ _ _ _ _ | exact Kd.S_nil _ _ _ _ _, by repeat (first | (with_reducible first | exact HB.out | apply below_alloc | apply pw_below_drewN | apply below_drew1) | exact HB.out)⟩
  · rw [if_neg c4] at H
    have c4b0 : decide (t320 < 0) = false := decide_eq_false c4
    clear c4
    by_cases c5 : 0 ≤ a1
    · rw [if_pos c5] at H
      have c5b0 := eq_true c5
      have c5b1 : decide (0 ≤ a1) = true := decide_eq_true c5
      clear c5
      by_cases c6 : a1 ≤ t320
      · rw [if_pos c6] at H
        have c6b0 := eq_true c6
        have c6b1 : decide (a1 ≤ t320) = true := decide_eq_true c6
        clear c6
        by_cases c7 : t320 ≤ (l0.length : Int)
        · rw [if_pos c7] at H
          have c7b0 := eq_true c7
          have c7b1 : decide (t320 ≤ (l0.length : Int)) = true := decide_eq_true c7
          clear c7
          obtain ⟨y321, hy321⟩ : ∃ y_ : List (S36), y_ = ((l0.take (t320 : Int).toNat).drop (a1 : Int).toNat) := ⟨_, rfl⟩
          replace H : (if ([] : List (S36)).length + y321.length < 2513169434916 then (some (([] : List (S36)) ++ y321)) else (none)) = some r := by first | (rw [hy321]; with_reducible exact H) | (have H2_ := (Option.bind_some _ _).symm.trans H; rw [hy321]; with_reducible exact H2_) | (have H2_ := (Option.bind_some _ _).symm.trans H; with_reducible exact H2_) | with_reducible exact H | (rw [hy321]; exact H) | exact H
          have Ny321 := Aside0.mk hy321
          clear hy321
          by_cases c8 : ([] : List (S36)).length + y321.length < 2513169434916
          · rw [if_pos c8] at H
            have LMc8 := Aside0.mk c8
            clear c8
            obtain ⟨y325, hy325⟩ : ∃ y_ : List (S36), y_ = (([] : List (S36)) ++ y321) := ⟨_, rfl⟩
            replace H : (some y325) = some r := by first | (rw [hy325]; with_reducible exact H) | (have H2_ := (Option.bind_some _ _).symm.trans H; rw [hy325]; with_reducible exact H2_) | (have H2_ := (Option.bind_some _ _).symm.trans H; with_reducible exact H2_) | with_reducible exact H | (rw [hy325]; exact H) | exact H
            have Ny325 := Aside0.mk hy325
            clear hy325
            obtain rfl := Option.some.inj H
            go_enter Try.func20, Try.ntmps20
            go_wp2_with (first | ((with_reducible refine gate_callee (f := 15) rfl ?_); refine goesL_ (some 9) rfl rfl Try.func15 (by kernel_rfl) rfl #[.slice A0 l0.length c0, .int .i64 a1] rfl (by (try simp only [List.map_toArray, List.map_cons, List.map_nil]); first | done | rfl | (simp only [List.length_drop, List.length_take]; rfl)) ?_; (with_reducible refine (chrysalisref09_End.calls k _ _ l0 a1 t320 _ ?side1 ?side2 A3.out).mono ?_); (case side1 => repeat (first | exact HR0.out | (with_reducible refine Kd.C_alloc ?_ _) | (with_reducible refine Kd.C_drewN ?_ _) | (with_reducible refine Kd.C_drew ?_))); (case side2 => exact HC0.out); rintro e w' ⟨rfl, ⟨nd, rfl⟩⟩; refine ⟨_, rfl, ?_⟩; have q9 : (t320 : Int) ≤ ((l0.length : Int) : Int) := of_decide_eq_true (by first | (with_reducible assumption) | assumption); obtain ⟨i09, hi09, _, hsz9, _⟩ := info_parts info36; have hroom9 : l0.length ≤ c0 := HC0.out; have hC9 : Kd.C k36 _ A0 l0.length l0 := HR0.out; have ql9 : (a1 : Int) ≤ (t320 : Int) := of_decide_eq_true (by first | (with_reducible assumption) | assumption); have q09 : (0 : Int) ≤ (a1 : Int) := of_decide_eq_true (by first | (with_reducible assumption) | assumption); have hcut9 := cut_mid (P := Try.prog) 22 36 .i64 .i64 Try.underlying22 hi09 5 hsz9 A0 l0.length c0 a1 t320 q09 ql9 q9 hroom9; have hr9 := Kd.C_mid (lo := (a1 : Int).toNat) (hi := (t320 : Int).toNat) (c := c0) hC9 (by omega) (by omega) hroom9; obtain ⟨A9, hA9⟩ : ∃ A1, A1 = (if c0 = (a1 : Int).toNat then A0 else (A0 : Option Addr).map (·.add ((a1 : Int).toNat * 5))) := ⟨_, rfl⟩; obtain ⟨c9, hc9⟩ : ∃ c1, c1 = c0 - (a1 : Int).toNat := ⟨_, rfl⟩; have hy9 : y321.length = (t320 : Int).toNat - (a1 : Int).toNat := (by rw [Ny321.out, List.length_drop, List.length_take] <;> omega); rw [show ((l0).take (t320 : Int).toNat).drop (a1 : Int).toNat = y321 from Ny321.out.symm] at hr9; replace hr9 : Kd.C k36 _ A9 y321.length y321 := (by rw [hA9]; exact hr9); rw [← hy9, ← hA9, ← hc9] at hcut9; have HR324 := Aside0.mk hr9; have HC324 := Aside0.mk (show y321.length ≤ c9 from by rw [hy9, hc9]; exact Nat.sub_le_sub_right (Nat.le_trans (by omega) hroom9) _); clear hr9 hC9 hroom9 hi09 hsz9 hc9; have KY9 := Aside0.mk hy9; have KA9 := Aside0.mk hA9; clear hy9 hA9; replace q9 := eq_true q9) | ((with_reducible refine gate_builtin (b := .append) (xs := #[.tmp 13, .tmp 17]) rfl ?_); at_builtin; refine Kd.R_append_rows k36 (w0 := w) w.heap.size rfl (.tmp 13) (.tmp 17) 22 36 (.agg #[(.int .i64 0), (.int .i64 0), (.string ⟨#[]⟩), (.int .i64 0), (.string ⟨#[]⟩)]) 56 rfl Try.underlying22 info36 rfl (by decide) (by omega) (.slice none 0 0) ([] : List (S36)) y321 _ _ _ (fun _ => True) (fun _ => False) rfl rfl ?aO ?aR (fun _ _ h => h) (fun _ h => h.elim) ?aF ?aB ?aS ?aL ?_; (case aR => repeat (first | exact HR324.out | (with_reducible refine Kd.C_alloc ?_ _) | (with_reducible refine Kd.C_drewN ?_ _) | (with_reducible refine Kd.C_drew ?_))); (case aB => exact (by repeat (first | (with_reducible first | exact HB.out | apply below_alloc | apply pw_below_drewN | apply below_drew1) | exact HB.out))); (case aF => exact (fun _ _ => trivial)); (case aO => exact ((Kd.R_nil _ _ _ _ (fun _ => True)))); (case aS => exact (below_size (by repeat (first | (with_reducible first | exact HB.out | apply below_alloc | apply pw_below_drewN | apply below_drew1) | exact HB.out)))); (case aL => have := LMc8.out; omega); intro v326 w10 ho hb hg hat; rw [← Ny325.out] at ho; have n0_ := Aside0.mk (hb); have n1_ := Aside0.mk (ho); clear HB; have HB := n0_; have HO327 := n1_; clear n0_ n1_; clear ho hb hg hat))
            go_ret
            exact ⟨_, by first | rfl | (simp [errW_none, errW_some] <;> rfl) | (simp [*, errW_none, errW_some] <;> rfl), by (with_reducible repeat (first | apply Kd.R_alloc | apply Kd.R_drewN | apply Kd.R_drew)); exact HO327.out, by repeat (first | (with_reducible first | exact HB.out | apply below_alloc | apply pw_below_drewN | apply below_drew1) | exact HB.out)⟩
          · rw [if_neg c8] at H
            exact absurd H (by simp)
        · rw [if_neg c7] at H
          exact absurd H (by simp)
      · rw [if_neg c6] at H
        exact absurd H (by simp)
    · rw [if_neg c5] at H
      exact absurd H (by simp)

end Go.Proofs.Ytclhaajlgmiilaa.Q
end
