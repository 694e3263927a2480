/- Functions that the laws reach, as plain Lean functions, each with a proof that the call does what its function says; no condition. -/
import Derived.Test.YtkcnpnkcahgniaaQ0
import Derived.Test.YtkcnpnkcahgniaaQ4
import Derived.Test.YtkcnpnkcahgniaaQ5
import Derived.Test.YtkcnpnkcahgniaaQ12
namespace Go.Proofs.Ytkcnpnkcahgniaa.Q
open Go.RowKit Go.Proofs.YtkcnpnkcahgniaaW.PrintWords Go.Proofs.YtkcnpnkcahgniaaW.PrintLast Go.Proofs.YtkcnpnkcahgniaaW.PrintMore
attribute [local go_sem] max2_int min2_int max_two min_two max_three min_three max_four min_four   -- for this text's walks alone
set_option linter.unusedVariables false
set_option linter.unusedSimpArgs false

/-! ### chrysalislaw08_LexJoins: function 6 -/
mutual
def chrysalislaw08_LexJoins.j0 : Nat → ByteArray → ByteArray → Bool → Option (Bool)
  | 0, _, _, _ => none
  | k + 1, x0, x1, x21 => if x21 = true then ((chrysalislaw08_known.f k).bind fun t317 => (some t317)) else ((lex_Scan.f k x0).bind fun bt318 => ((lex_Scan.f k x1).bind fun bt323 => (if x0.size + 1 ≤ 9223372036854775807 then (if (x0 ++ (⟨#[10]⟩ : ByteArray)).size + x1.size ≤ 9223372036854775807 then ((lex_Scan.f k ((x0 ++ (⟨#[10]⟩ : ByteArray)) ++ x1)).bind fun bt328 => (if bt318.2.1 = 0 then (chrysalislaw08_LexJoins.j1 k bt318.1 bt323.1 bt328.1 bt328.2.1 (bt323.2.1 != 0)) else (chrysalislaw08_LexJoins.j1 k bt318.1 bt323.1 bt328.1 bt328.2.1 true))) else (none)) else (none))))
def chrysalislaw08_LexJoins.j1 : Nat → List (S29) → List (S29) → List (S29) → Int → Bool → Option (Bool)
  | 0, _, _, _, _, _ => none
  | k + 1, x5, x8, x11, x12, x49 => if x49 = true then ((chrysalislaw08_known.f k).bind fun t333 => (some t333)) else (if x12 = 0 then (chrysalislaw08_LexJoins.j2 k x5 x8 x11 ((x11.length : Int) != (wrap64 ((x5.length : Int) + (x8.length : Int))))) else (chrysalislaw08_LexJoins.j2 k x5 x8 x11 true))
def chrysalislaw08_LexJoins.j2 : Nat → List (S29) → List (S29) → List (S29) → Bool → Option (Bool)
  | 0, _, _, _, _ => none
  | k + 1, x5, x8, x11, x62 => if x62 = true then (some false) else (if 0 ≤ (x5.length : Int) then (if (x5.length : Int) ≤ (x11.length : Int) then ((chrysalisref08_Same.f k (x11.take ((x5.length : Int) : Int).toNat) x5 true).bind fun t338 => (if t338 = true then ((chrysalisref08_Same.f k (x11.drop ((x5.length : Int) : Int).toNat) x8 false).bind fun t343 => (if t343 = true then ((chrysalislaw08_known.f k).bind fun t344 => (some t344)) else (some false))) else (some false))) else (none)) else (none))
end
def chrysalislaw08_LexJoins.f (k : Nat) (a0 : ByteArray) (a1 : ByteArray) : Option (Bool) := if (a0.size : Int) > 2000 then (chrysalislaw08_LexJoins.j0 k a0 a1 true) else (chrysalislaw08_LexJoins.j0 k a0 a1 (decide ((a1.size : Int) > 2000)))
theorem chrysalislaw08_LexJoins.mono_l : ∀ k, (∀ y0 y1 y2, LeO (chrysalislaw08_LexJoins.j0 k y0 y1 y2) (chrysalislaw08_LexJoins.j0 (k + 1) y0 y1 y2)) ∧ (∀ y0 y1 y2 y3 y4, LeO (chrysalislaw08_LexJoins.j1 k y0 y1 y2 y3 y4) (chrysalislaw08_LexJoins.j1 (k + 1) y0 y1 y2 y3 y4)) ∧ (∀ y0 y1 y2 y3, LeO (chrysalislaw08_LexJoins.j2 k y0 y1 y2 y3) (chrysalislaw08_LexJoins.j2 (k + 1) y0 y1 y2 y3))
  | 0 => ⟨fun _ _ _ r h => by simp [chrysalislaw08_LexJoins.j0] at h, fun _ _ _ _ _ r h => by simp [chrysalislaw08_LexJoins.j1] at h, fun _ _ _ _ r h => by simp [chrysalislaw08_LexJoins.j2] at h⟩
  | k + 1 => by
    obtain ⟨ih0, ih1, ih2⟩ := chrysalislaw08_LexJoins.mono_l k
    refine ⟨?_, ?_, ?_⟩
    · intro y0 y1 y2
      unfold chrysalislaw08_LexJoins.j0
      repeat' first
      | (with_reducible exact ih0 _ _ _)
      | (with_reducible exact ih1 _ _ _ _ _)
      | (with_reducible exact ih2 _ _ _ _)
      | (with_reducible exact chrysalislaw08_known.mono _)
      | (with_reducible exact chrysalisref08_Same.mono _ _ _ _)
      | (with_reducible exact lex_Scan.mono _ _)
      | (with_reducible exact LeO.refl _)
      | (with_reducible exact LeO.none _)
      | (with_reducible refine LeO.ite ?_ ?_)
      | (with_reducible refine LeO.bind ?_ (fun _ => ?_))
      | exact ih0 _ _ _
      | exact ih1 _ _ _ _ _
      | exact ih2 _ _ _ _
      | exact chrysalislaw08_known.mono _
      | exact chrysalisref08_Same.mono _ _ _ _
      | exact lex_Scan.mono _ _
      | exact LeO.none _
      | refine LeO.ite ?_ ?_
      | refine LeO.bind ?_ (fun _ => ?_)
    · intro y0 y1 y2 y3 y4
      unfold chrysalislaw08_LexJoins.j1
      repeat' first
      | (with_reducible exact ih0 _ _ _)
      | (with_reducible exact ih1 _ _ _ _ _)
      | (with_reducible exact ih2 _ _ _ _)
      | (with_reducible exact chrysalislaw08_known.mono _)
      | (with_reducible exact chrysalisref08_Same.mono _ _ _ _)
      | (with_reducible exact lex_Scan.mono _ _)
      | (with_reducible exact LeO.refl _)
      | (with_reducible exact LeO.none _)
      | (with_reducible refine LeO.ite ?_ ?_)
      | (with_reducible refine LeO.bind ?_ (fun _ => ?_))
      | exact ih0 _ _ _
      | exact ih1 _ _ _ _ _
      | exact ih2 _ _ _ _
      | exact chrysalislaw08_known.mono _
      | exact chrysalisref08_Same.mono _ _ _ _
      | exact lex_Scan.mono _ _
      | exact LeO.none _
      | refine LeO.ite ?_ ?_
      | refine LeO.bind ?_ (fun _ => ?_)
    · intro y0 y1 y2 y3
      unfold chrysalislaw08_LexJoins.j2
      repeat' first
      | (with_reducible exact ih0 _ _ _)
      | (with_reducible exact ih1 _ _ _ _ _)
      | (with_reducible exact ih2 _ _ _ _)
      | (with_reducible exact chrysalislaw08_known.mono _)
      | (with_reducible exact chrysalisref08_Same.mono _ _ _ _)
      | (with_reducible exact lex_Scan.mono _ _)
      | (with_reducible exact LeO.refl _)
      | (with_reducible exact LeO.none _)
      | (with_reducible refine LeO.ite ?_ ?_)
      | (with_reducible refine LeO.bind ?_ (fun _ => ?_))
      | exact ih0 _ _ _
      | exact ih1 _ _ _ _ _
      | exact ih2 _ _ _ _
      | exact chrysalislaw08_known.mono _
      | exact chrysalisref08_Same.mono _ _ _ _
      | exact lex_Scan.mono _ _
      | exact LeO.none _
      | refine LeO.ite ?_ ?_
      | refine LeO.bind ?_ (fun _ => ?_)
theorem chrysalislaw08_LexJoins.mono : ∀ a0 a1 k, LeO (chrysalislaw08_LexJoins.f k a0 a1) (chrysalislaw08_LexJoins.f (k + 1) a0 a1) := by
  intro a0 a1 k
  obtain ⟨ih0, ih1, ih2⟩ := chrysalislaw08_LexJoins.mono_l k
  unfold chrysalislaw08_LexJoins.f
  repeat' first
      | (with_reducible exact ih0 _ _ _)
      | (with_reducible exact ih1 _ _ _ _ _)
      | (with_reducible exact ih2 _ _ _ _)
      | (with_reducible exact chrysalislaw08_known.mono _)
      | (with_reducible exact chrysalisref08_Same.mono _ _ _ _)
      | (with_reducible exact lex_Scan.mono _ _)
      | (with_reducible exact LeO.refl _)
      | (with_reducible exact LeO.none _)
      | (with_reducible refine LeO.ite ?_ ?_)
      | (with_reducible refine LeO.bind ?_ (fun _ => ?_))
      | exact ih0 _ _ _
      | exact ih1 _ _ _ _ _
      | exact ih2 _ _ _ _
      | exact chrysalislaw08_known.mono _
      | exact chrysalisref08_Same.mono _ _ _ _
      | exact lex_Scan.mono _ _
      | exact LeO.none _
      | refine LeO.ite ?_ ?_
      | refine LeO.bind ?_ (fun _ => ?_)
set_option maxHeartbeats 8000000 in
set_option maxRecDepth 100000 in
theorem chrysalislaw08_LexJoins.calls (k : Nat) (a0 : ByteArray) (a1 : ByteArray) (r : Bool) (w : World) (h : chrysalislaw08_LexJoins.f k a0 a1 = some r) :
    Calls Try.prog 6 #[.string a0, .string a1] w fun e w' => e = .returned (.bool r) ∧ Below w.heap.size w w' := by
  have HB := Aside0.mk (Below.refl w.heap.size w)
  have H : (if (a0.size : Int) > 2000 then (chrysalislaw08_LexJoins.j0 k a0 a1 true) else (chrysalislaw08_LexJoins.j0 k a0 a1 (decide ((a1.size : Int) > 2000)))) = some r := h
  clear h
  have HC3 := Aside0.mk H
  clear H
  go_enter Try.func6, Try.ntmps6
  go_upto_region 1 with (fail)
  go_cut [21] (fun v21 wc => ∃ (kq : Nat) (x21_2 : Bool), v21 = .bool x21_2 ∧ Aside0 (chrysalislaw08_LexJoins.j0 kq a0 a1 x21_2 = some r) ∧ Aside0 (kq ≤ k) ∧ Aside0 (Below w.heap.size w wc))
  case first =>
    have H := HC3.out
    clear HC3
    by_cases c4 : (a0.size : Int) > 2000
    · rw [if_pos c4] at H
      have c4b0 : decide (2000 < (a0.size : Int)) = true := decide_eq_true c4
      have c4b1 : decide (2000 < a0.size) = true := decide_eq_true (by omega)
      clear c4
      (first | rw [c4b0] | (simp only [i64_w, i32_w]; rw [c4b0]) | skip)
      have H' := Aside0.mk H
      clear H
      go_wp2
      go_meet
      case rel => exact ⟨_, (true), (by first | rfl | (simp; done) | (simp [*]; done)), H', ⟨by first | omega | exact Nat.le_refl _⟩, ⟨by repeat (first | (with_reducible first | exact HB.out | apply below_alloc | apply pw_below_drewN | apply below_drew1) | exact HB.out)⟩⟩
    · rw [if_neg c4] at H
      have c4b0 : decide (2000 < (a0.size : Int)) = false := decide_eq_false c4
      have c4b1 : decide (2000 < a0.size) = false := decide_eq_false (by omega)
      clear c4
      (first | rw [c4b0] | (simp only [i64_w, i32_w]; rw [c4b0]) | skip)
      have H' := Aside0.mk H
      clear H
      go_wp2
      go_meet
      case rel => exact ⟨_, (decide ((a1.size : Int) > 2000)), (by first | rfl | (simp; done) | (simp [*]; done)), H', ⟨by first | omega | exact Nat.le_refl _⟩, ⟨by repeat (first | (with_reducible first | exact HB.out | apply below_alloc | apply pw_below_drewN | apply below_drew1) | exact HB.out)⟩⟩
  case rest =>
    clear HC3
    try clear p2
    try clear c4
    try clear c4b0
    try clear c4b1
    obtain ⟨kq, x21_2, rfl, HA, HJ2, HB⟩ := hcut
    cases kq with
    | zero => exact absurd HA.out (by simp [chrysalislaw08_LexJoins.j0])
    | succ kj2 =>
      have H := HA.out
      clear HA
      simp only [chrysalislaw08_LexJoins.j0] at H
      by_cases c5 : x21_2 = true
      · subst c5
        have H1 : ((chrysalislaw08_known.f kj2).bind fun t317 => (some t317)) = some r := by rw [if_pos rfl] at H; exact H
        clear H
        have H := H1
        clear H1
        replace H := Option.bind_eq_some_iff.mp H
        obtain ⟨t317, A60, H⟩ := H
        replace H : (some t317) = some r := H
        have A6 := Aside0.mk A60
        clear A60
        obtain rfl := Option.some.inj H
        go_wp2_with (first | ((with_reducible refine gate_callee (f := 10) rfl ?_); refine goesL_ (some 22) rfl rfl Try.func10 (by kernel_rfl) rfl #[] rfl (by (try simp only [List.map_toArray, List.map_cons, List.map_nil]); first | done | rfl | (simp only [List.length_drop, List.length_take]; rfl)) ?_; (with_reducible refine (chrysalislaw08_known.calls kj2  t317 _ A6.out).mono ?_); rintro e w7 ⟨rfl, hb⟩; refine ⟨_, rfl, ?_⟩; have n0_ := Aside0.mk (below_step (by repeat (first | (with_reducible first | exact HB.out | apply below_alloc | apply pw_below_drewN | apply below_drew1) | exact HB.out)) hb); clear HB; have HB := n0_; clear n0_; (try clear hb); (try clear hb2); (try clear hk); (try clear hi)))
        go_ret
        exact ⟨by first | rfl | (simp [errW_none, errW_some] <;> rfl) | (simp [*, errW_none, errW_some] <;> rfl), by repeat (first | (with_reducible first | exact HB.out | apply below_alloc | apply pw_below_drewN | apply below_drew1) | exact HB.out)⟩
      · replace c5 := Bool.eq_false_iff.mpr c5
        subst c5
        have H1 : ((lex_Scan.f kj2 a0).bind fun bt318 => ((lex_Scan.f kj2 a1).bind fun bt323 => (if a0.size + 1 ≤ 9223372036854775807 then (if (a0 ++ (⟨#[10]⟩ : ByteArray)).size + a1.size ≤ 9223372036854775807 then ((lex_Scan.f kj2 ((a0 ++ (⟨#[10]⟩ : ByteArray)) ++ a1)).bind fun bt328 => (if bt318.2.1 = 0 then (chrysalislaw08_LexJoins.j1 kj2 bt318.1 bt323.1 bt328.1 bt328.2.1 (bt323.2.1 != 0)) else (chrysalislaw08_LexJoins.j1 kj2 bt318.1 bt323.1 bt328.1 bt328.2.1 true))) else (none)) else (none)))) = some r := by rw [if_neg (show ¬ (false = true) by decide)] at H; exact H
        clear H
        have H := H1
        clear H1
        replace H := Option.bind_eq_some_iff.mp H
        obtain ⟨⟨t318, t319, t320⟩, A80, H⟩ := H
        replace H : ((lex_Scan.f kj2 a1).bind fun bt323 => (if a0.size + 1 ≤ 9223372036854775807 then (if (a0 ++ (⟨#[10]⟩ : ByteArray)).size + a1.size ≤ 9223372036854775807 then ((lex_Scan.f kj2 ((a0 ++ (⟨#[10]⟩ : ByteArray)) ++ a1)).bind fun bt328 => (if t319 = 0 then (chrysalislaw08_LexJoins.j1 kj2 t318 bt323.1 bt328.1 bt328.2.1 (bt323.2.1 != 0)) else (chrysalislaw08_LexJoins.j1 kj2 t318 bt323.1 bt328.1 bt328.2.1 true))) else (none)) else (none))) = some r := H
        have A8 := Aside0.mk A80
        clear A80
        replace H := Option.bind_eq_some_iff.mp H
        obtain ⟨⟨t323, t324, t325⟩, A90, H⟩ := H
        replace H : (if a0.size + 1 ≤ 9223372036854775807 then (if (a0 ++ (⟨#[10]⟩ : ByteArray)).size + a1.size ≤ 9223372036854775807 then ((lex_Scan.f kj2 ((a0 ++ (⟨#[10]⟩ : ByteArray)) ++ a1)).bind fun bt328 => (if t319 = 0 then (chrysalislaw08_LexJoins.j1 kj2 t318 t323 bt328.1 bt328.2.1 (t324 != 0)) else (chrysalislaw08_LexJoins.j1 kj2 t318 t323 bt328.1 bt328.2.1 true))) else (none)) else (none)) = some r := H
        have A9 := Aside0.mk A90
        clear A90
        by_cases c10 : a0.size + 1 ≤ 9223372036854775807
        · rw [if_pos c10] at H
          have c10b0 := eq_true c10
          have c10b1 : decide (a0.size + 1 ≤ 9223372036854775807) = true := decide_eq_true c10
          try have c10b2 : (9223372036854775807 < a0.size + 1) = False := eq_false (Nat.not_lt.2 c10)
          by_cases c11 : (a0 ++ (⟨#[10]⟩ : ByteArray)).size + a1.size ≤ 9223372036854775807
          · rw [if_pos c11] at H
            have c11b0 := eq_true c11
            have c11b1 : decide ((a0 ++ (⟨#[10]⟩ : ByteArray)).size + a1.size ≤ 9223372036854775807) = true := decide_eq_true c11
            have c11s := c11
            simp only [ByteArray.size_append, show ((⟨#[10]⟩ : ByteArray)).size = 1 from rfl] at c11s
            have c11t := eq_true c11s
            have c11u := eq_false (Nat.not_lt.2 c11s)
            clear c11s
            try have c11b2 : (9223372036854775807 < (a0 ++ (⟨#[10]⟩ : ByteArray)).size + a1.size) = False := eq_false (Nat.not_lt.2 c11)
            replace H := Option.bind_eq_some_iff.mp H
            obtain ⟨⟨t328, t329, t330⟩, A120, H⟩ := H
            replace H : (if t319 = 0 then (chrysalislaw08_LexJoins.j1 kj2 t318 t323 t328 t329 (t324 != 0)) else (chrysalislaw08_LexJoins.j1 kj2 t318 t323 t328 t329 true)) = some r := H
            have A12 := Aside0.mk A120
            clear A120
            have HC13 := Aside0.mk H
            clear H
            go_upto_region 6 with (first | ((with_reducible refine gate_callee (f := 11) rfl ?_); refine goesL_ (some 25) rfl rfl Try.func11 (by kernel_rfl) rfl #[.string a0] rfl (by (try simp only [List.map_toArray, List.map_cons, List.map_nil]); first | done | rfl | (simp only [List.length_drop, List.length_take]; rfl)) ?_; (with_reducible refine (lex_Scan.calls kj2 a0 t318 t319 t320 _ A8.out).mono ?_); rintro e w14 ⟨v321, rfl, ho0, hb⟩; refine ⟨_, rfl, ?_⟩; have n0_ := Aside0.mk (Kd.R_lower ho0 (below_size (by repeat (first | (with_reducible first | exact HB.out | apply below_alloc | apply pw_below_drewN | apply below_drew1) | exact HB.out)))); have n1_ := Aside0.mk (below_step (by repeat (first | (with_reducible first | exact HB.out | apply below_alloc | apply pw_below_drewN | apply below_drew1) | exact HB.out)) hb); clear HB; have HO322 := n0_; have HB := n1_; clear n0_ n1_; (try clear hb); (try clear hb2); (try clear hk); (try clear hi); (try clear ho0)) | ((with_reducible refine gate_callee (f := 11) rfl ?_); refine goesL_ (some 31) rfl rfl Try.func11 (by kernel_rfl) rfl #[.string a1] rfl (by (try simp only [List.map_toArray, List.map_cons, List.map_nil]); first | done | rfl | (simp only [List.length_drop, List.length_take]; rfl)) ?_; (with_reducible refine (lex_Scan.calls kj2 a1 t323 t324 t325 _ A9.out).mono ?_); rintro e w15 ⟨v326, rfl, ho0, hb⟩; refine ⟨_, rfl, ?_⟩; have n0_ := Aside0.mk (Kd.R_elder' (by (with_reducible repeat (first | apply Kd.R_alloc | apply Kd.R_drewN | apply Kd.R_drew)); exact HO322.out) (Kd.R_base ho0) hb); have n1_ := Aside0.mk (Kd.R_lower (Kd.R_new' ho0 (Kd.R_lt (by (with_reducible repeat (first | apply Kd.R_alloc | apply Kd.R_drewN | apply Kd.R_drew)); exact HO322.out))) (below_size (by repeat (first | (with_reducible first | exact HB.out | apply below_alloc | apply pw_below_drewN | apply below_drew1) | exact HB.out)))); have n2_ := Aside0.mk (below_step (by repeat (first | (with_reducible first | exact HB.out | apply below_alloc | apply pw_below_drewN | apply below_drew1) | exact HB.out)) hb); clear HO322; clear HB; have HO322 := n0_; have HO327 := n1_; have HB := n2_; clear n0_ n1_ n2_; (try clear hb); (try clear hb2); (try clear hk); (try clear hi); (try clear ho0)) | ((with_reducible refine gate_callee (f := 11) rfl ?_); refine goesL_ (some 40) rfl rfl Try.func11 (by kernel_rfl) rfl #[.string ((a0 ++ (⟨#[10]⟩ : ByteArray)) ++ a1)] rfl (by (try simp only [List.map_toArray, List.map_cons, List.map_nil]); first | done | rfl | (simp only [List.length_drop, List.length_take]; rfl)) ?_; (with_reducible refine (lex_Scan.calls kj2 ((a0 ++ (⟨#[10]⟩ : ByteArray)) ++ a1) t328 t329 t330 _ A12.out).mono ?_); rintro e w16 ⟨v331, rfl, ho0, hb⟩; refine ⟨_, rfl, ?_⟩; have n0_ := Aside0.mk (Kd.R_elder' (by (with_reducible repeat (first | apply Kd.R_alloc | apply Kd.R_drewN | apply Kd.R_drew)); exact HO322.out) (Kd.R_base ho0) hb); have n1_ := Aside0.mk (Kd.R_elder' (by (with_reducible repeat (first | apply Kd.R_alloc | apply Kd.R_drewN | apply Kd.R_drew)); exact HO327.out) (Kd.R_base ho0) hb); have n2_ := Aside0.mk (Kd.R_lower (Kd.R_new' (Kd.R_new' ho0 (Kd.R_lt (by (with_reducible repeat (first | apply Kd.R_alloc | apply Kd.R_drewN | apply Kd.R_drew)); exact HO322.out))) (Kd.R_lt (by (with_reducible repeat (first | apply Kd.R_alloc | apply Kd.R_drewN | apply Kd.R_drew)); exact HO327.out))) (below_size (by repeat (first | (with_reducible first | exact HB.out | apply below_alloc | apply pw_below_drewN | apply below_drew1) | exact HB.out)))); have n3_ := Aside0.mk (below_step (by repeat (first | (with_reducible first | exact HB.out | apply below_alloc | apply pw_below_drewN | apply below_drew1) | exact HB.out)) hb); clear HO322; clear HO327; clear HB; have HO322 := n0_; have HO327 := n1_; have HO332 := n2_; have HB := n3_; clear n0_ n1_ n2_ n3_; (try clear hb); (try clear hb2); (try clear hk); (try clear hi); (try clear ho0)))
            (try simp only [Act.put, List.setIfInBounds_toArray, List.set_cons_zero, List.set_cons_succ])
            go_cut [49] (fun v49 wc => ∃ (kq : Nat) (x49_12 : Bool), v49 = .bool x49_12 ∧ Aside0 (chrysalislaw08_LexJoins.j1 kq t318 t323 t328 t329 x49_12 = some r) ∧ Aside0 (kq ≤ kj2) ∧ Aside0 (Kd.R k29 29 wc w.heap.size (fun k_ => some k_ ≠ (v326 : Value).ownBlock ∧ some k_ ≠ (v331 : Value).ownBlock) v321 t318) ∧ Aside0 (Kd.R k29 29 wc w.heap.size (fun k_ => some k_ ≠ (v321 : Value).ownBlock ∧ some k_ ≠ (v331 : Value).ownBlock) v326 t323) ∧ Aside0 (Kd.R k29 29 wc w.heap.size (fun k_ => some k_ ≠ (v321 : Value).ownBlock ∧ some k_ ≠ (v326 : Value).ownBlock) v331 t328) ∧ Aside0 (Below w.heap.size w wc))
            case first =>
              have H := HC13.out
              clear HC13
              by_cases c17 : t319 = 0
              · rw [if_pos c17] at H
                have c17b0 : (t319 == 0) = true := beq_iff_eq.mpr c17
                have c17b1 : (t319 != 0) = false := bne_eq_false_iff_eq.mpr c17
                clear c17
                (first | rw [c17b0] | (simp only [i64_w, i32_w]; rw [c17b0]) | skip)
                have H' := Aside0.mk H
                clear H
                go_wp2
                go_meet
                case rel => exact ⟨_, ((t324 != 0)), (by first | rfl | (simp; done) | (simp [*]; done)), H', ⟨by have := HJ2.out; first | omega | exact Nat.le_refl _⟩, ⟨by (with_reducible repeat (first | apply Kd.R_alloc | apply Kd.R_drewN | apply Kd.R_drew)); exact Kd.R_mono HO322.out (fun _ hk => ⟨hk.1.2, hk.2⟩)⟩, ⟨by (with_reducible repeat (first | apply Kd.R_alloc | apply Kd.R_drewN | apply Kd.R_drew)); exact Kd.R_mono HO327.out (fun _ hk => ⟨hk.1.2, hk.2⟩)⟩, ⟨by (with_reducible repeat (first | apply Kd.R_alloc | apply Kd.R_drewN | apply Kd.R_drew)); exact Kd.R_mono HO332.out (fun _ hk => ⟨hk.1.2, hk.2⟩)⟩, ⟨by repeat (first | (with_reducible first | exact HB.out | apply below_alloc | apply pw_below_drewN | apply below_drew1) | exact HB.out)⟩⟩
              · rw [if_neg c17] at H
                have c17b0 : (t319 == 0) = false := beq_eq_false_iff_ne.mpr c17
                have c17b1 : (t319 != 0) = true := bne_iff_ne.mpr c17
                (first | rw [c17b0] | (simp only [i64_w, i32_w]; rw [c17b0]) | skip)
                have H' := Aside0.mk H
                clear H
                go_wp2
                go_meet
                case rel => exact ⟨_, (true), (by first | rfl | (simp; done) | (simp [*]; done)), H', ⟨by have := HJ2.out; first | omega | exact Nat.le_refl _⟩, ⟨by (with_reducible repeat (first | apply Kd.R_alloc | apply Kd.R_drewN | apply Kd.R_drew)); exact Kd.R_mono HO322.out (fun _ hk => ⟨hk.1.2, hk.2⟩)⟩, ⟨by (with_reducible repeat (first | apply Kd.R_alloc | apply Kd.R_drewN | apply Kd.R_drew)); exact Kd.R_mono HO327.out (fun _ hk => ⟨hk.1.2, hk.2⟩)⟩, ⟨by (with_reducible repeat (first | apply Kd.R_alloc | apply Kd.R_drewN | apply Kd.R_drew)); exact Kd.R_mono HO332.out (fun _ hk => ⟨hk.1.2, hk.2⟩)⟩, ⟨by repeat (first | (with_reducible first | exact HB.out | apply below_alloc | apply pw_below_drewN | apply below_drew1) | exact HB.out)⟩⟩
            case rest =>
              clear HC13
              try clear c1
              try clear p2
              try clear c4
              try clear c4b0
              try clear c4b1
              try clear c5
              try clear c6
              try clear c10
              try clear c10b0
              try clear c10b1
              try clear c10b2
              try clear c11
              try clear c11b0
              try clear c11b1
              try clear c11b2
              try clear c17
              try clear c17b0
              try clear c17b1
              try clear p2
              obtain ⟨kq, x49_12, rfl, HA, HJ12, HO_5, HO_8, HO_11, HB⟩ := hcut
              cases kq with
              | zero => exact absurd HA.out (by simp [chrysalislaw08_LexJoins.j1])
              | succ kj12 =>
                have H := HA.out
                clear HA
                simp only [chrysalislaw08_LexJoins.j1] at H
                by_cases c18 : x49_12 = true
                · subst c18
                  have H1 : ((chrysalislaw08_known.f kj12).bind fun t333 => (some t333)) = some r := by rw [if_pos rfl] at H; exact H
                  clear H
                  have H := H1
                  clear H1
                  replace H := Option.bind_eq_some_iff.mp H
                  obtain ⟨t333, A190, H⟩ := H
                  replace H : (some t333) = some r := H
                  have A19 := Aside0.mk A190
                  clear A190
                  obtain rfl := Option.some.inj H
                  go_wp2_with (first | ((with_reducible refine gate_callee (f := 10) rfl ?_); refine goesL_ (some 50) rfl rfl Try.func10 (by kernel_rfl) rfl #[] rfl (by (try simp only [List.map_toArray, List.map_cons, List.map_nil]); first | done | rfl | (simp only [List.length_drop, List.length_take]; rfl)) ?_; (with_reducible refine (chrysalislaw08_known.calls kj12  t333 _ A19.out).mono ?_); rintro e w20 ⟨rfl, hb⟩; refine ⟨_, rfl, ?_⟩; have n0_ := Aside0.mk (Kd.R_below (by (with_reducible repeat (first | apply Kd.R_alloc | apply Kd.R_drewN | apply Kd.R_drew)); exact HO_5.out) hb); have n1_ := Aside0.mk (Kd.R_below (by (with_reducible repeat (first | apply Kd.R_alloc | apply Kd.R_drewN | apply Kd.R_drew)); exact HO_8.out) hb); have n2_ := Aside0.mk (Kd.R_below (by (with_reducible repeat (first | apply Kd.R_alloc | apply Kd.R_drewN | apply Kd.R_drew)); exact HO_11.out) hb); have n3_ := Aside0.mk (below_step (by repeat (first | (with_reducible first | exact HB.out | apply below_alloc | apply pw_below_drewN | apply below_drew1) | exact HB.out)) hb); clear HO_5; clear HO_8; clear HO_11; clear HB; have HO_5 := n0_; have HO_8 := n1_; have HO_11 := n2_; have HB := n3_; clear n0_ n1_ n2_ n3_; (try clear hb); (try clear hb2); (try clear hk); (try clear hi)))
                  go_ret
                  exact ⟨by first | rfl | (simp [errW_none, errW_some] <;> rfl) | (simp [*, errW_none, errW_some] <;> rfl), by repeat (first | (with_reducible first | exact HB.out | apply below_alloc | apply pw_below_drewN | apply below_drew1) | exact HB.out)⟩
                · replace c18 := Bool.eq_false_iff.mpr c18
                  subst c18
                  have H1 : (if t329 = 0 then (chrysalislaw08_LexJoins.j2 kj12 t318 t323 t328 ((t328.length : Int) != (wrap64 ((t318.length : Int) + (t323.length : Int))))) else (chrysalislaw08_LexJoins.j2 kj12 t318 t323 t328 true)) = some r := by rw [if_neg (show ¬ (false = true) by decide)] at H; exact H
                  clear H
                  have H := H1
                  clear H1
                  have HC21 := Aside0.mk H
                  clear H
                  go_upto_region 8 with (fail)
                  go_cut [62] (fun v62 wc => ∃ (kq : Nat) (x62_20 : Bool), v62 = .bool x62_20 ∧ Aside0 (chrysalislaw08_LexJoins.j2 kq t318 t323 t328 x62_20 = some r) ∧ Aside0 (kq ≤ kj12) ∧ Aside0 (Kd.R k29 29 wc w.heap.size (fun k_ => some k_ ≠ (v326 : Value).ownBlock ∧ some k_ ≠ (v331 : Value).ownBlock) v321 t318) ∧ Aside0 (Kd.R k29 29 wc w.heap.size (fun k_ => some k_ ≠ (v321 : Value).ownBlock ∧ some k_ ≠ (v331 : Value).ownBlock) v326 t323) ∧ Aside0 (Kd.R k29 29 wc w.heap.size (fun k_ => some k_ ≠ (v321 : Value).ownBlock ∧ some k_ ≠ (v326 : Value).ownBlock) v331 t328) ∧ Aside0 (Below w.heap.size w wc))
                  case first =>
                    have H := HC21.out
                    clear HC21
                    by_cases c22 : t329 = 0
                    · rw [if_pos c22] at H
                      have c22b0 : (t329 == 0) = true := beq_iff_eq.mpr c22
                      have c22b1 : (t329 != 0) = false := bne_eq_false_iff_eq.mpr c22
                      clear c22
                      (first | rw [c22b0] | (simp only [i64_w, i32_w]; rw [c22b0]) | skip)
                      have H' := Aside0.mk H
                      clear H
                      obtain ⟨Ao23, co23, eo23⟩ := Kd.R_slice HO_11.out
                      subst eo23
                      obtain ⟨Ao24, co24, eo24⟩ := Kd.R_slice HO_5.out
                      subst eo24
                      obtain ⟨Ao25, co25, eo25⟩ := Kd.R_slice HO_8.out
                      subst eo25
                      go_wp2
                      go_meet
                      case rel => exact ⟨_, (((t328.length : Int) != (wrap64 ((t318.length : Int) + (t323.length : Int))))), (by first | rfl | (simp; done) | (simp [*]; done)), H', ⟨by have := HJ2.out; have := HJ12.out; first | omega | exact Nat.le_refl _⟩, ⟨by (with_reducible repeat (first | apply Kd.R_alloc | apply Kd.R_drewN | apply Kd.R_drew)); exact HO_5.out⟩, ⟨by (with_reducible repeat (first | apply Kd.R_alloc | apply Kd.R_drewN | apply Kd.R_drew)); exact HO_8.out⟩, ⟨by (with_reducible repeat (first | apply Kd.R_alloc | apply Kd.R_drewN | apply Kd.R_drew)); exact HO_11.out⟩, ⟨by repeat (first | (with_reducible first | exact HB.out | apply below_alloc | apply pw_below_drewN | apply below_drew1) | exact HB.out)⟩⟩
                    · rw [if_neg c22] at H
                      have c22b0 : (t329 == 0) = false := beq_eq_false_iff_ne.mpr c22
                      have c22b1 : (t329 != 0) = true := bne_iff_ne.mpr c22
                      (first | rw [c22b0] | (simp only [i64_w, i32_w]; rw [c22b0]) | skip)
                      have H' := Aside0.mk H
                      clear H
                      go_wp2
                      go_meet
                      case rel => exact ⟨_, (true), (by first | rfl | (simp; done) | (simp [*]; done)), H', ⟨by have := HJ2.out; have := HJ12.out; first | omega | exact Nat.le_refl _⟩, ⟨by (with_reducible repeat (first | apply Kd.R_alloc | apply Kd.R_drewN | apply Kd.R_drew)); exact HO_5.out⟩, ⟨by (with_reducible repeat (first | apply Kd.R_alloc | apply Kd.R_drewN | apply Kd.R_drew)); exact HO_8.out⟩, ⟨by (with_reducible repeat (first | apply Kd.R_alloc | apply Kd.R_drewN | apply Kd.R_drew)); exact HO_11.out⟩, ⟨by repeat (first | (with_reducible first | exact HB.out | apply below_alloc | apply pw_below_drewN | apply below_drew1) | exact HB.out)⟩⟩
                  case rest =>
                    clear HC21
                    try clear c1
                    try clear c2
                    try clear p2
                    try clear c4
                    try clear c4b0
                    try clear c4b1
                    try clear c5
                    try clear c6
                    try clear p6
                    try clear c10
                    try clear c10b0
                    try clear c10b1
                    try clear c10b2
                    try clear c11
                    try clear c11b0
                    try clear c11b1
                    try clear c11b2
                    try clear c17
                    try clear c17b0
                    try clear c17b1
                    try clear c18
                    try clear c22
                    try clear c22b0
                    try clear c22b1
                    try clear p2
                    obtain ⟨kq, x62_20, rfl, HA, HJ20, HO_5, HO_8, HO_11, HB⟩ := hcut
                    cases kq with
                    | zero => exact absurd HA.out (by simp [chrysalislaw08_LexJoins.j2])
                    | succ kj20 =>
                      have H := HA.out
                      clear HA
                      simp only [chrysalislaw08_LexJoins.j2] at H
                      by_cases c26 : x62_20 = true
                      · subst c26
                        have H1 : (some false) = some r := by rw [if_pos rfl] at H; exact H
                        clear H
                        have H := H1
                        clear H1
                        obtain rfl := Option.some.inj H
                        go_wp2
                        go_ret
                        exact ⟨by first | rfl | (simp [errW_none, errW_some] <;> rfl) | (simp [*, errW_none, errW_some] <;> rfl), by repeat (first | (with_reducible first | exact HB.out | apply below_alloc | apply pw_below_drewN | apply below_drew1) | exact HB.out)⟩
                      · replace c26 := Bool.eq_false_iff.mpr c26
                        subst c26
                        have H1 : (if 0 ≤ (t318.length : Int) then (if (t318.length : Int) ≤ (t328.length : Int) then ((chrysalisref08_Same.f kj20 (t328.take ((t318.length : Int) : Int).toNat) t318 true).bind fun t338 => (if t338 = true then ((chrysalisref08_Same.f kj20 (t328.drop ((t318.length : Int) : Int).toNat) t323 false).bind fun t343 => (if t343 = true then ((chrysalislaw08_known.f kj20).bind fun t344 => (some t344)) else (some false))) else (some false))) else (none)) else (none)) = some r := by rw [if_neg (show ¬ (false = true) by decide)] at H; exact H
                        clear H
                        have H := H1
                        clear H1
                        by_cases c27 : 0 ≤ (t318.length : Int)
                        · rw [if_pos c27] at H
                          have c27b0 := eq_true c27
                          have c27b1 : decide (0 ≤ (t318.length : Int)) = true := decide_eq_true c27
                          clear c27
                          by_cases c28 : (t318.length : Int) ≤ (t328.length : Int)
                          · rw [if_pos c28] at H
                            have c28b0 := eq_true c28
                            have c28b1 : decide ((t318.length : Int) ≤ (t328.length : Int)) = true := decide_eq_true c28
                            clear c28
                            obtain ⟨y334, hy334⟩ : ∃ y_ : List (S29), y_ = (t328.take ((t318.length : Int) : Int).toNat) := ⟨_, rfl⟩
                            replace H : ((chrysalisref08_Same.f kj20 y334 t318 true).bind fun t338 => (if t338 = true then ((chrysalisref08_Same.f kj20 (t328.drop ((t318.length : Int) : Int).toNat) t323 false).bind fun t343 => (if t343 = true then ((chrysalislaw08_known.f kj20).bind fun t344 => (some t344)) else (some false))) else (some false))) = some r := by first | (rw [hy334]; with_reducible exact H) | (have H2_ := (Option.bind_some _ _).symm.trans H; rw [hy334]; with_reducible exact H2_) | (have H2_ := (Option.bind_some _ _).symm.trans H; with_reducible exact H2_) | with_reducible exact H | (rw [hy334]; exact H) | exact H
                            have Ny334 := Aside0.mk hy334
                            clear hy334
                            replace H := Option.bind_eq_some_iff.mp H
                            obtain ⟨t338, A290, H⟩ := H
                            replace H : (if t338 = true then ((chrysalisref08_Same.f kj20 (t328.drop ((t318.length : Int) : Int).toNat) t323 false).bind fun t343 => (if t343 = true then ((chrysalislaw08_known.f kj20).bind fun t344 => (some t344)) else (some false))) else (some false)) = some r := H
                            have A29 := Aside0.mk A290
                            clear A290
                            by_cases c30 : t338 = true
                            · subst c30
                              have H1 : ((chrysalisref08_Same.f kj20 (t328.drop ((t318.length : Int) : Int).toNat) t323 false).bind fun t343 => (if t343 = true then ((chrysalislaw08_known.f kj20).bind fun t344 => (some t344)) else (some false))) = some r := by rw [if_pos rfl] at H; exact H
                              clear H
                              have H := H1
                              clear H1
                              have c31b0 := eq_true (of_decide_eq_true (by first | (with_reducible assumption) | assumption) : 0 ≤ (t318.length : Int))
                              have c32b0 := eq_true (of_decide_eq_true (by first | (with_reducible assumption) | assumption) : (t318.length : Int) ≤ (t328.length : Int))
                              obtain ⟨y339, hy339⟩ : ∃ y_ : List (S29), y_ = (t328.drop ((t318.length : Int) : Int).toNat) := ⟨_, rfl⟩
                              replace H : ((chrysalisref08_Same.f kj20 y339 t323 false).bind fun t343 => (if t343 = true then ((chrysalislaw08_known.f kj20).bind fun t344 => (some t344)) else (some false))) = some r := by first | (rw [hy339]; with_reducible exact H) | (have H2_ := (Option.bind_some _ _).symm.trans H; rw [hy339]; with_reducible exact H2_) | (have H2_ := (Option.bind_some _ _).symm.trans H; with_reducible exact H2_) | with_reducible exact H | (rw [hy339]; exact H) | exact H
                              have Ny339 := Aside0.mk hy339
                              clear hy339
                              replace H := Option.bind_eq_some_iff.mp H
                              obtain ⟨t343, A330, H⟩ := H
                              replace H : (if t343 = true then ((chrysalislaw08_known.f kj20).bind fun t344 => (some t344)) else (some false)) = some r := H
                              have A33 := Aside0.mk A330
                              clear A330
                              by_cases c34 : t343 = true
                              · subst c34
                                have H1 : ((chrysalislaw08_known.f kj20).bind fun t344 => (some t344)) = some r := by rw [if_pos rfl] at H; exact H
                                clear H
                                have H := H1
                                clear H1
                                replace H := Option.bind_eq_some_iff.mp H
                                obtain ⟨t344, A350, H⟩ := H
                                replace H : (some t344) = some r := H
                                have A35 := Aside0.mk A350
                                clear A350
                                obtain rfl := Option.some.inj H
                                obtain ⟨Ao36, co36, eo36⟩ := Kd.R_slice HO_5.out
                                subst eo36
                                obtain ⟨Ao38, co38, eo38⟩ := Kd.R_slice HO_11.out
                                subst eo38
                                have q37 : ((t318.length : Int) : Int) ≤ ((t328.length : Int) : Int) := of_decide_eq_true (by first | (with_reducible assumption) | assumption)
                                obtain ⟨i037, hi037, _, hsz37, _⟩ := info_parts info29
                                have hroom37 : t328.length ≤ co38 := (Kd.R_reads' HO_11.out).2.1
                                have hC37 : Kd.C k29 _ Ao38 t328.length t328 := (Kd.R_reads' HO_11.out).2.2
                                have hcut37 := cut_to (P := Try.prog) 23 29 .i64 Try.underlying23 hi037 Ao38 t328.length co38 (t318.length : Int) (of_decide_eq_true (by first | (with_reducible assumption) | assumption)) q37 hroom37
                                have hr37 := Kd.C_take (m := ((t318.length : Int) : Int).toNat) hC37 (by omega)
                                have hy37 : y334.length = ((t318.length : Int) : Int).toNat := (by rw [Ny334.out, List.length_take]; omega)
                                rw [← Ny334.out] at hr37
                                rw [← hy37] at hcut37
                                have HR337 := Aside0.mk hr37
                                have HC337 := Aside0.mk (show y334.length ≤ co38 from by omega)
                                clear hr37 hC37 hroom37 hi037 hsz37
                                have KY37 := Aside0.mk hy37
                                clear hy37
                                have KL37 := Aside0.mk (show ((t318.length : Int) : Int).toNat ≤ t328.length from by omega)
                                replace q37 := eq_true q37
                                go_wp2_with (first | ((with_reducible refine gate_callee (f := 13) rfl ?_); refine goesL_ (some 68) rfl rfl Try.func13 (by kernel_rfl) rfl #[.slice Ao38 y334.length co38, .slice Ao36 t318.length co36, .bool true] rfl (by (try simp only [List.map_toArray, List.map_cons, List.map_nil]); first | done | rfl | (simp only [List.length_drop, List.length_take]; rfl)) ?_; (with_reducible refine (chrysalisref08_Same.calls kj20 _ _ y334 _ _ t318 true true _ ?side1 ?side2 ?side3 ?side4 A29.out).mono ?_); (case side1 => repeat (first | exact (by repeat (first | (with_reducible exact HR337.out) | (with_reducible refine Kd.C_alloc ?_ _) | (with_reducible refine Kd.C_drewN ?_ _) | (with_reducible refine Kd.C_drew ?_) | exact HR337.out)) | (with_reducible refine Kd.C_alloc ?_ _) | (with_reducible refine Kd.C_drewN ?_ _) | (with_reducible refine Kd.C_drew ?_))); (case side2 => exact HC337.out); (case side3 => repeat (first | exact (Kd.R_reads' HO_5.out).2.2 | (with_reducible refine Kd.C_alloc ?_ _) | (with_reducible refine Kd.C_drewN ?_ _) | (with_reducible refine Kd.C_drew ?_))); (case side4 => exact (Kd.R_reads' HO_5.out).2.1); rintro e w' ⟨rfl, ⟨nd, rfl⟩⟩; refine ⟨_, rfl, ?_⟩; have q39 : ((t318.length : Int) : Int) ≤ ((t328.length : Int) : Int) := of_decide_eq_true (by first | (with_reducible assumption) | assumption); obtain ⟨i039, hi039, _, hsz39, _⟩ := info_parts info29; have hroom39 : t328.length ≤ co38 := (Kd.R_reads' HO_11.out).2.1; have hC39 : Kd.C k29 _ Ao38 t328.length t328 := (Kd.R_reads' HO_11.out).2.2; have q039 : (0 : Int) ≤ ((t318.length : Int) : Int) := of_decide_eq_true (by first | (with_reducible assumption) | assumption); have hcut39 := cut_from (P := Try.prog) 23 29 .i64 Try.underlying23 hi039 4 hsz39 Ao38 t328.length co38 (t318.length : Int) q039 q39; have hr39 := Kd.C_drop (m := ((t318.length : Int) : Int).toNat) (c := co38) hC39 (by omega) hroom39; obtain ⟨A39, hA39⟩ : ∃ A1, A1 = (if co38 = ((t318.length : Int) : Int).toNat then Ao38 else (Ao38 : Option Addr).map (·.add (((t318.length : Int) : Int).toNat * 4))) := ⟨_, rfl⟩; obtain ⟨c39, hc39⟩ : ∃ c1, c1 = co38 - ((t318.length : Int) : Int).toNat := ⟨_, rfl⟩; have hy39 : y339.length = t328.length - ((t318.length : Int) : Int).toNat := (by rw [Ny339.out, List.length_drop] <;> omega); rw [show (t328).drop ((t318.length : Int) : Int).toNat = y339 from Ny339.out.symm] at hr39; replace hr39 : Kd.C k29 _ A39 y339.length y339 := (by rw [hA39]; exact hr39); rw [← hy39, ← hA39, ← hc39] at hcut39; have HR342 := Aside0.mk hr39; have HC342 := Aside0.mk (show y339.length ≤ c39 from by rw [hy39, hc39]; exact Nat.sub_le_sub_right hroom39 _); clear hr39 hC39 hroom39 hi039 hsz39 hc39; have KY39 := Aside0.mk hy39; have KA39 := Aside0.mk hA39; clear hy39 hA39; have KL39 := Aside0.mk (show ((t318.length : Int) : Int).toNat ≤ t328.length from by omega); replace q39 := eq_true q39; obtain ⟨Ao40, co40, eo40⟩ := Kd.R_slice HO_8.out; subst eo40) | (go_at_call 13; (with_reducible refine (chrysalisref08_Same.calls kj20 _ _ y339 _ _ t323 false true _ ?side1 ?side2 ?side3 ?side4 A33.out).mono ?_); (case side1 => repeat (first | exact (by repeat (first | (with_reducible exact HR342.out) | (with_reducible refine Kd.C_alloc ?_ _) | (with_reducible refine Kd.C_drewN ?_ _) | (with_reducible refine Kd.C_drew ?_) | exact HR342.out)) | (with_reducible refine Kd.C_alloc ?_ _) | (with_reducible refine Kd.C_drewN ?_ _) | (with_reducible refine Kd.C_drew ?_))); (case side2 => exact HC342.out); (case side3 => repeat (first | exact (Kd.R_reads' HO_8.out).2.2 | (with_reducible refine Kd.C_alloc ?_ _) | (with_reducible refine Kd.C_drewN ?_ _) | (with_reducible refine Kd.C_drew ?_))); (case side4 => exact (Kd.R_reads' HO_8.out).2.1); rintro e w' ⟨rfl, ⟨nd, rfl⟩⟩) | (go_at_call 10; (with_reducible refine (chrysalislaw08_known.calls kj20  t344 _ A35.out).mono ?_); rintro e w41 ⟨rfl, hb⟩; have n0_ := Aside0.mk (Kd.R_below (by (with_reducible repeat (first | apply Kd.R_alloc | apply Kd.R_drewN | apply Kd.R_drew)); exact HO_5.out) hb); have n1_ := Aside0.mk (Kd.R_below (by (with_reducible repeat (first | apply Kd.R_alloc | apply Kd.R_drewN | apply Kd.R_drew)); exact HO_8.out) hb); have n2_ := Aside0.mk (Kd.R_below (by (with_reducible repeat (first | apply Kd.R_alloc | apply Kd.R_drewN | apply Kd.R_drew)); exact HO_11.out) hb); have n3_ := Aside0.mk (Kd.C_below (by repeat (first | (with_reducible exact HR337.out) | (with_reducible refine Kd.C_alloc ?_ _) | (with_reducible refine Kd.C_drewN ?_ _) | (with_reducible refine Kd.C_drew ?_) | exact HR337.out)) hb); have n4_ := Aside0.mk (Kd.C_below (by repeat (first | (with_reducible exact HR342.out) | (with_reducible refine Kd.C_alloc ?_ _) | (with_reducible refine Kd.C_drewN ?_ _) | (with_reducible refine Kd.C_drew ?_) | exact HR342.out)) hb); have n5_ := Aside0.mk (below_step (by repeat (first | (with_reducible first | exact HB.out | apply below_alloc | apply pw_below_drewN | apply below_drew1) | exact HB.out)) hb); clear HO_5; clear HO_8; clear HO_11; clear HR337; clear HR342; clear HB; have HO_5 := n0_; have HO_8 := n1_; have HO_11 := n2_; have HR337 := n3_; have HR342 := n4_; have HB := n5_; clear n0_ n1_ n2_ n3_ n4_ n5_; (try clear hb); (try clear hb2); (try clear hk); (try clear hi)))
                                go_ret
                                exact ⟨by first | rfl | (simp [errW_none, errW_some] <;> rfl) | (simp [*, errW_none, errW_some] <;> rfl), by repeat (first | (with_reducible first | exact HB.out | apply below_alloc | apply pw_below_drewN | apply below_drew1) | exact HB.out)⟩
                              · replace c34 := Bool.eq_false_iff.mpr c34
                                subst c34
                                have H1 : (some false) = some r := by rw [if_neg (show ¬ (false = true) by decide)] at H; exact H
                                clear H
                                have H := H1
                                clear H1
                                obtain rfl := Option.some.inj H
                                obtain ⟨Ao42, co42, eo42⟩ := Kd.R_slice HO_5.out
                                subst eo42
                                obtain ⟨Ao44, co44, eo44⟩ := Kd.R_slice HO_11.out
                                subst eo44
                                have q43 : ((t318.length : Int) : Int) ≤ ((t328.length : Int) : Int) := of_decide_eq_true (by first | (with_reducible assumption) | assumption)
                                obtain ⟨i043, hi043, _, hsz43, _⟩ := info_parts info29
                                have hroom43 : t328.length ≤ co44 := (Kd.R_reads' HO_11.out).2.1
                                have hC43 : Kd.C k29 _ Ao44 t328.length t328 := (Kd.R_reads' HO_11.out).2.2
                                have hcut43 := cut_to (P := Try.prog) 23 29 .i64 Try.underlying23 hi043 Ao44 t328.length co44 (t318.length : Int) (of_decide_eq_true (by first | (with_reducible assumption) | assumption)) q43 hroom43
                                have hr43 := Kd.C_take (m := ((t318.length : Int) : Int).toNat) hC43 (by omega)
                                have hy43 : y334.length = ((t318.length : Int) : Int).toNat := (by rw [Ny334.out, List.length_take]; omega)
                                rw [← Ny334.out] at hr43
                                rw [← hy43] at hcut43
                                have HR337 := Aside0.mk hr43
                                have HC337 := Aside0.mk (show y334.length ≤ co44 from by omega)
                                clear hr43 hC43 hroom43 hi043 hsz43
                                have KY43 := Aside0.mk hy43
                                clear hy43
                                have KL43 := Aside0.mk (show ((t318.length : Int) : Int).toNat ≤ t328.length from by omega)
                                replace q43 := eq_true q43
                                go_wp2_with (first | ((with_reducible refine gate_callee (f := 13) rfl ?_); refine goesL_ (some 68) rfl rfl Try.func13 (by kernel_rfl) rfl #[.slice Ao44 y334.length co44, .slice Ao42 t318.length co42, .bool true] rfl (by (try simp only [List.map_toArray, List.map_cons, List.map_nil]); first | done | rfl | (simp only [List.length_drop, List.length_take]; rfl)) ?_; (with_reducible refine (chrysalisref08_Same.calls kj20 _ _ y334 _ _ t318 true true _ ?side1 ?side2 ?side3 ?side4 A29.out).mono ?_); (case side1 => repeat (first | exact (by repeat (first | (with_reducible exact HR337.out) | (with_reducible refine Kd.C_alloc ?_ _) | (with_reducible refine Kd.C_drewN ?_ _) | (with_reducible refine Kd.C_drew ?_) | exact HR337.out)) | (with_reducible refine Kd.C_alloc ?_ _) | (with_reducible refine Kd.C_drewN ?_ _) | (with_reducible refine Kd.C_drew ?_))); (case side2 => exact HC337.out); (case side3 => repeat (first | exact (Kd.R_reads' HO_5.out).2.2 | (with_reducible refine Kd.C_alloc ?_ _) | (with_reducible refine Kd.C_drewN ?_ _) | (with_reducible refine Kd.C_drew ?_))); (case side4 => exact (Kd.R_reads' HO_5.out).2.1); rintro e w' ⟨rfl, ⟨nd, rfl⟩⟩; refine ⟨_, rfl, ?_⟩; have q45 : ((t318.length : Int) : Int) ≤ ((t328.length : Int) : Int) := of_decide_eq_true (by first | (with_reducible assumption) | assumption); obtain ⟨i045, hi045, _, hsz45, _⟩ := info_parts info29; have hroom45 : t328.length ≤ co44 := (Kd.R_reads' HO_11.out).2.1; have hC45 : Kd.C k29 _ Ao44 t328.length t328 := (Kd.R_reads' HO_11.out).2.2; have q045 : (0 : Int) ≤ ((t318.length : Int) : Int) := of_decide_eq_true (by first | (with_reducible assumption) | assumption); have hcut45 := cut_from (P := Try.prog) 23 29 .i64 Try.underlying23 hi045 4 hsz45 Ao44 t328.length co44 (t318.length : Int) q045 q45; have hr45 := Kd.C_drop (m := ((t318.length : Int) : Int).toNat) (c := co44) hC45 (by omega) hroom45; obtain ⟨A45, hA45⟩ : ∃ A1, A1 = (if co44 = ((t318.length : Int) : Int).toNat then Ao44 else (Ao44 : Option Addr).map (·.add (((t318.length : Int) : Int).toNat * 4))) := ⟨_, rfl⟩; obtain ⟨c45, hc45⟩ : ∃ c1, c1 = co44 - ((t318.length : Int) : Int).toNat := ⟨_, rfl⟩; have hy45 : y339.length = t328.length - ((t318.length : Int) : Int).toNat := (by rw [Ny339.out, List.length_drop] <;> omega); rw [show (t328).drop ((t318.length : Int) : Int).toNat = y339 from Ny339.out.symm] at hr45; replace hr45 : Kd.C k29 _ A45 y339.length y339 := (by rw [hA45]; exact hr45); rw [← hy45, ← hA45, ← hc45] at hcut45; have HR342 := Aside0.mk hr45; have HC342 := Aside0.mk (show y339.length ≤ c45 from by rw [hy45, hc45]; exact Nat.sub_le_sub_right hroom45 _); clear hr45 hC45 hroom45 hi045 hsz45 hc45; have KY45 := Aside0.mk hy45; have KA45 := Aside0.mk hA45; clear hy45 hA45; have KL45 := Aside0.mk (show ((t318.length : Int) : Int).toNat ≤ t328.length from by omega); replace q45 := eq_true q45; obtain ⟨Ao46, co46, eo46⟩ := Kd.R_slice HO_8.out; subst eo46) | (go_at_call 13; (with_reducible refine (chrysalisref08_Same.calls kj20 _ _ y339 _ _ t323 false false _ ?side1 ?side2 ?side3 ?side4 A33.out).mono ?_); (case side1 => repeat (first | exact (by repeat (first | (with_reducible exact HR342.out) | (with_reducible refine Kd.C_alloc ?_ _) | (with_reducible refine Kd.C_drewN ?_ _) | (with_reducible refine Kd.C_drew ?_) | exact HR342.out)) | (with_reducible refine Kd.C_alloc ?_ _) | (with_reducible refine Kd.C_drewN ?_ _) | (with_reducible refine Kd.C_drew ?_))); (case side2 => exact HC342.out); (case side3 => repeat (first | exact (Kd.R_reads' HO_8.out).2.2 | (with_reducible refine Kd.C_alloc ?_ _) | (with_reducible refine Kd.C_drewN ?_ _) | (with_reducible refine Kd.C_drew ?_))); (case side4 => exact (Kd.R_reads' HO_8.out).2.1); rintro e w' ⟨rfl, ⟨nd, rfl⟩⟩))
                                go_ret
                                exact ⟨by first | rfl | (simp [errW_none, errW_some] <;> rfl) | (simp [*, errW_none, errW_some] <;> rfl), by repeat (first | (with_reducible first | exact HB.out | apply below_alloc | apply pw_below_drewN | apply below_drew1) | exact HB.out)⟩
                            · replace c30 := Bool.eq_false_iff.mpr c30
                              subst c30
                              have H1 : (some false) = some r := by rw [if_neg (show ¬ (false = true) by decide)] at H; exact H
                              clear H
                              have H := H1
                              clear H1
                              obtain rfl := Option.some.inj H
                              obtain ⟨Ao47, co47, eo47⟩ := Kd.R_slice HO_5.out
                              subst eo47
                              obtain ⟨Ao49, co49, eo49⟩ := Kd.R_slice HO_11.out
                              subst eo49
                              have q48 : ((t318.length : Int) : Int) ≤ ((t328.length : Int) : Int) := of_decide_eq_true (by first | (with_reducible assumption) | assumption)
                              obtain ⟨i048, hi048, _, hsz48, _⟩ := info_parts info29
                              have hroom48 : t328.length ≤ co49 := (Kd.R_reads' HO_11.out).2.1
                              have hC48 : Kd.C k29 _ Ao49 t328.length t328 := (Kd.R_reads' HO_11.out).2.2
                              have hcut48 := cut_to (P := Try.prog) 23 29 .i64 Try.underlying23 hi048 Ao49 t328.length co49 (t318.length : Int) (of_decide_eq_true (by first | (with_reducible assumption) | assumption)) q48 hroom48
                              have hr48 := Kd.C_take (m := ((t318.length : Int) : Int).toNat) hC48 (by omega)
                              have hy48 : y334.length = ((t318.length : Int) : Int).toNat := (by rw [Ny334.out, List.length_take]; omega)
                              rw [← Ny334.out] at hr48
                              rw [← hy48] at hcut48
                              have HR337 := Aside0.mk hr48
                              have HC337 := Aside0.mk (show y334.length ≤ co49 from by omega)
                              clear hr48 hC48 hroom48 hi048 hsz48
                              have KY48 := Aside0.mk hy48
                              clear hy48
                              have KL48 := Aside0.mk (show ((t318.length : Int) : Int).toNat ≤ t328.length from by omega)
                              replace q48 := eq_true q48
                              go_wp2_with (first | ((with_reducible refine gate_callee (f := 13) rfl ?_); refine goesL_ (some 68) rfl rfl Try.func13 (by kernel_rfl) rfl #[.slice Ao49 y334.length co49, .slice Ao47 t318.length co47, .bool true] rfl (by (try simp only [List.map_toArray, List.map_cons, List.map_nil]); first | done | rfl | (simp only [List.length_drop, List.length_take]; rfl)) ?_; (with_reducible refine (chrysalisref08_Same.calls kj20 _ _ y334 _ _ t318 true false _ ?side1 ?side2 ?side3 ?side4 A29.out).mono ?_); (case side1 => repeat (first | exact (by repeat (first | (with_reducible exact HR337.out) | (with_reducible refine Kd.C_alloc ?_ _) | (with_reducible refine Kd.C_drewN ?_ _) | (with_reducible refine Kd.C_drew ?_) | exact HR337.out)) | (with_reducible refine Kd.C_alloc ?_ _) | (with_reducible refine Kd.C_drewN ?_ _) | (with_reducible refine Kd.C_drew ?_))); (case side2 => exact HC337.out); (case side3 => repeat (first | exact (Kd.R_reads' HO_5.out).2.2 | (with_reducible refine Kd.C_alloc ?_ _) | (with_reducible refine Kd.C_drewN ?_ _) | (with_reducible refine Kd.C_drew ?_))); (case side4 => exact (Kd.R_reads' HO_5.out).2.1); rintro e w' ⟨rfl, ⟨nd, rfl⟩⟩; refine ⟨_, rfl, ?_⟩))
                              go_ret
                              exact ⟨by first | rfl | (simp [errW_none, errW_some] <;> rfl) | (simp [*, errW_none, errW_some] <;> rfl), by repeat (first | (with_reducible first | exact HB.out | apply below_alloc | apply pw_below_drewN | apply below_drew1) | exact HB.out)⟩
                          · rw [if_neg c28] at H
                            exact absurd H (by simp)
                        · rw [if_neg c27] at H
                          exact absurd H (by simp)
          · rw [if_neg c11] at H
            exact absurd H (by simp)
        · rw [if_neg c10] at H
          exact absurd H (by simp)

/-- THE ONE PURE STATEMENT of chrysalislaw08_LexJoins: yours. -/
def chrysalislaw08_LexJoins.Pure : Prop := ∀ (a0 : ByteArray) (a1 : ByteArray), a0.size ≤ 140737488351232 → a1.size ≤ 140737488351232 → ∃ k, chrysalislaw08_LexJoins.f k a0 a1 = some true
theorem chrysalislaw08_LexJoins.walk (P : chrysalislaw08_LexJoins.Pure) (a0 : ByteArray) (a1 : ByteArray) (w : World) (w0 : a0.size ≤ 140737488351232) (w1 : a1.size ≤ 140737488351232) :
    Calls Try.prog 6 #[.string a0, .string a1] w fun e w' => e = .returned (.bool true) ∧ Below w.heap.size w w' := by
  obtain ⟨k, h⟩ := P a0 a1 w0 w1
  refine (chrysalislaw08_LexJoins.calls k a0 a1 true w h).mono ?_
  rintro e w' ⟨rfl, hd⟩
  exact ⟨rfl, hd⟩

end Go.Proofs.Ytkcnpnkcahgniaa.Q
