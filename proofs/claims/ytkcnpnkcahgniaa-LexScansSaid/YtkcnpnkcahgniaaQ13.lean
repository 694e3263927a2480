/- Functions that the laws reach, as plain Lean functions, each with a proof that the call does what its function says; no condition. -/
import Derived.Test.YtkcnpnkcahgniaaQ0
import Derived.Test.YtkcnpnkcahgniaaQ4
import Derived.Test.YtkcnpnkcahgniaaQ5
import Derived.Test.YtkcnpnkcahgniaaQ11
import Derived.Test.YtkcnpnkcahgniaaQ12
namespace Go.Proofs.Ytkcnpnkcahgniaa.Q
open Go.RowKit Go.Proofs.YtkcnpnkcahgniaaW.PrintWords Go.Proofs.YtkcnpnkcahgniaaW.PrintLast Go.Proofs.YtkcnpnkcahgniaaW.PrintMore
attribute [local go_sem] max2_int min2_int max_two min_two max_three min_three max_four min_four   -- for this text's walks alone
set_option linter.unusedVariables false
set_option linter.unusedSimpArgs false

/-! ### chrysalislaw08_LexScans: function 3 -/
mutual
def chrysalislaw08_LexScans.j0 : Nat → ByteArray → List (S29) → List (S29) → Bool → Option (Bool)
  | 0, _, _, _, _ => none
  | k + 1, x0, x3, x6, x9 => chrysalislaw08_LexScans.l0 k x0 x3 x6 x9 0
def chrysalislaw08_LexScans.l0 : Nat → ByteArray → List (S29) → List (S29) → Bool → Int → Option (Bool)
  | 0, _, _, _, _, _ => none
  | k + 1, x0, x3, x6, x9, x10 => if x10 < (x3.length : Int) then (if 0 ≤ x10 then (chrysalislaw08_LexScans.l0 k x0 (x3.set (x10 : Int).toNat (⟨(rd_T29 x3 x10).f0, (⟨#[115, 112, 111, 105, 108, 116]⟩ : ByteArray), (rd_T29 x3 x10).f2, (rd_T29 x3 x10).f3⟩ : S29)) x6 x9 (wrap64 (x10 + 1))) else (none)) else ((lex_Scan.f k x0).bind fun bt271 => (if x9 = true then ((chrysalisref08_Same.f k bt271.1 x6 true).bind fun t276 => (if t276 = true then ((chrysalislaw08_known.f k).bind fun t277 => (some t277)) else (some false))) else (some false)))
end
def chrysalislaw08_LexScans.f (k : Nat) (a0 : ByteArray) : Option (Bool) := if (a0.size : Int) > 20000 then ((chrysalislaw08_known.f k).bind fun t258 => (some t258)) else ((lex_Scan.f k a0).bind fun bt259 => ((chrysalisref08_Scan.f k a0).bind fun bt264 => ((chrysalisref08_Same.f k bt259.1 bt264.1 true).bind fun t269 => (if t269 = true then (if bt259.2.1 = bt264.2.1 then (chrysalislaw08_LexScans.j0 k a0 bt259.1 bt264.1 (bt259.2.2 == bt264.2.2)) else (chrysalislaw08_LexScans.j0 k a0 bt259.1 bt264.1 false)) else (chrysalislaw08_LexScans.j0 k a0 bt259.1 bt264.1 false)))))
theorem chrysalislaw08_LexScans.mono_l : ∀ k, (∀ y0 y1 y2 y3, LeO (chrysalislaw08_LexScans.j0 k y0 y1 y2 y3) (chrysalislaw08_LexScans.j0 (k + 1) y0 y1 y2 y3)) ∧ (∀ y0 y1 y2 y3 y4, LeO (chrysalislaw08_LexScans.l0 k y0 y1 y2 y3 y4) (chrysalislaw08_LexScans.l0 (k + 1) y0 y1 y2 y3 y4))
  | 0 => ⟨fun _ _ _ _ r h => by simp [chrysalislaw08_LexScans.j0] at h, fun _ _ _ _ _ r h => by simp [chrysalislaw08_LexScans.l0] at h⟩
  | k + 1 => by
    obtain ⟨ih0, ih1⟩ := chrysalislaw08_LexScans.mono_l k
    refine ⟨?_, ?_⟩
    · intro y0 y1 y2 y3
      unfold chrysalislaw08_LexScans.j0
      repeat' first
      | (with_reducible exact ih0 _ _ _ _)
      | (with_reducible exact ih1 _ _ _ _ _)
      | (with_reducible exact chrysalislaw08_known.mono _)
      | (with_reducible exact chrysalisref08_Same.mono _ _ _ _)
      | (with_reducible exact chrysalisref08_Scan.mono _ _)
      | (with_reducible exact lex_Scan.mono _ _)
      | (with_reducible exact LeO.refl _)
      | (with_reducible exact LeO.none _)
      | (with_reducible refine LeO.ite ?_ ?_)
      | (with_reducible refine LeO.bind ?_ (fun _ => ?_))
      | exact ih0 _ _ _ _
      | exact ih1 _ _ _ _ _
      | exact chrysalislaw08_known.mono _
      | exact chrysalisref08_Same.mono _ _ _ _
      | exact chrysalisref08_Scan.mono _ _
      | exact lex_Scan.mono _ _
      | exact LeO.none _
      | refine LeO.ite ?_ ?_
      | refine LeO.bind ?_ (fun _ => ?_)
    · intro y0 y1 y2 y3 y4
      unfold chrysalislaw08_LexScans.l0
      repeat' first
      | (with_reducible exact ih0 _ _ _ _)
      | (with_reducible exact ih1 _ _ _ _ _)
      | (with_reducible exact chrysalislaw08_known.mono _)
      | (with_reducible exact chrysalisref08_Same.mono _ _ _ _)
      | (with_reducible exact chrysalisref08_Scan.mono _ _)
      | (with_reducible exact lex_Scan.mono _ _)
      | (with_reducible exact LeO.refl _)
      | (with_reducible exact LeO.none _)
      | (with_reducible refine LeO.ite ?_ ?_)
      | (with_reducible refine LeO.bind ?_ (fun _ => ?_))
      | exact ih0 _ _ _ _
      | exact ih1 _ _ _ _ _
      | exact chrysalislaw08_known.mono _
      | exact chrysalisref08_Same.mono _ _ _ _
      | exact chrysalisref08_Scan.mono _ _
      | exact lex_Scan.mono _ _
      | exact LeO.none _
      | refine LeO.ite ?_ ?_
      | refine LeO.bind ?_ (fun _ => ?_)
theorem chrysalislaw08_LexScans.mono : ∀ a0 k, LeO (chrysalislaw08_LexScans.f k a0) (chrysalislaw08_LexScans.f (k + 1) a0) := by
  intro a0 k
  obtain ⟨ih0, ih1⟩ := chrysalislaw08_LexScans.mono_l k
  unfold chrysalislaw08_LexScans.f
  repeat' first
      | (with_reducible exact ih0 _ _ _ _)
      | (with_reducible exact ih1 _ _ _ _ _)
      | (with_reducible exact chrysalislaw08_known.mono _)
      | (with_reducible exact chrysalisref08_Same.mono _ _ _ _)
      | (with_reducible exact chrysalisref08_Scan.mono _ _)
      | (with_reducible exact lex_Scan.mono _ _)
      | (with_reducible exact LeO.refl _)
      | (with_reducible exact LeO.none _)
      | (with_reducible refine LeO.ite ?_ ?_)
      | (with_reducible refine LeO.bind ?_ (fun _ => ?_))
      | exact ih0 _ _ _ _
      | exact ih1 _ _ _ _ _
      | exact chrysalislaw08_known.mono _
      | exact chrysalisref08_Same.mono _ _ _ _
      | exact chrysalisref08_Scan.mono _ _
      | exact lex_Scan.mono _ _
      | exact LeO.none _
      | refine LeO.ite ?_ ?_
      | refine LeO.bind ?_ (fun _ => ?_)
set_option maxHeartbeats 8000000 in
set_option maxRecDepth 100000 in
theorem chrysalislaw08_LexScans.calls (k : Nat) (a0 : ByteArray) (r : Bool) (w : World) (h : chrysalislaw08_LexScans.f k a0 = some r) :
    Calls Try.prog 3 #[.string a0] w fun e w' => e = .returned (.bool r) ∧ Below w.heap.size w w' := by
  have HB := Aside0.mk (Below.refl w.heap.size w)
  have H : (if (a0.size : Int) > 20000 then ((chrysalislaw08_known.f k).bind fun t258 => (some t258)) else ((lex_Scan.f k a0).bind fun bt259 => ((chrysalisref08_Scan.f k a0).bind fun bt264 => ((chrysalisref08_Same.f k bt259.1 bt264.1 true).bind fun t269 => (if t269 = true then (if bt259.2.1 = bt264.2.1 then (chrysalislaw08_LexScans.j0 k a0 bt259.1 bt264.1 (bt259.2.2 == bt264.2.2)) else (chrysalislaw08_LexScans.j0 k a0 bt259.1 bt264.1 false)) else (chrysalislaw08_LexScans.j0 k a0 bt259.1 bt264.1 false)))))) = some r := h
  clear h
  by_cases c2 : (a0.size : Int) > 20000
  · rw [if_pos c2] at H
    have c2b0 : decide (20000 < (a0.size : Int)) = true := decide_eq_true c2
    have c2b1 : decide (20000 < a0.size) = true := decide_eq_true (by omega)
    clear c2
    replace H := Option.bind_eq_some_iff.mp H
    obtain ⟨t258, A30, H⟩ := H
    replace H : (some t258) = some r := H
    have A3 := Aside0.mk A30
    clear A30
    obtain rfl := Option.some.inj H
    go_enter Try.func3, Try.ntmps3
    go_wp2_with (first | ((with_reducible refine gate_callee (f := 10) rfl ?_); refine goesL_ (some 17) rfl rfl Try.func10 (by kernel_rfl) rfl #[] rfl (by (try simp only [List.map_toArray, List.map_cons, List.map_nil]); first | done | rfl | (simp only [List.length_drop, List.length_take]; rfl)) ?_; (with_reducible refine (chrysalislaw08_known.calls k  t258 _ A3.out).mono ?_); rintro e w4 ⟨rfl, hb⟩; refine ⟨_, rfl, ?_⟩; have n0_ := Aside0.mk (below_step (by repeat (first | (with_reducible first | exact HB.out | apply below_alloc | apply pw_below_drewN | apply below_drew1) | exact HB.out)) hb); clear HB; have HB := n0_; clear n0_; (try clear hb); (try clear hb2); (try clear hk); (try clear hi)))
    go_ret
    exact ⟨by first | rfl | (simp [errW_none, errW_some] <;> rfl) | (simp [*, errW_none, errW_some] <;> rfl), by repeat (first | (with_reducible first | exact HB.out | apply below_alloc | apply pw_below_drewN | apply below_drew1) | exact HB.out)⟩
  · rw [if_neg c2] at H
    have c2b0 : decide (20000 < (a0.size : Int)) = false := decide_eq_false c2
    have c2b1 : decide (20000 < a0.size) = false := decide_eq_false (by omega)
    clear c2
    replace H := Option.bind_eq_some_iff.mp H
    obtain ⟨⟨t259, t260, t261⟩, A50, H⟩ := H
    replace H : ((chrysalisref08_Scan.f k a0).bind fun bt264 => ((chrysalisref08_Same.f k t259 bt264.1 true).bind fun t269 => (if t269 = true then (if t260 = bt264.2.1 then (chrysalislaw08_LexScans.j0 k a0 t259 bt264.1 (t261 == bt264.2.2)) else (chrysalislaw08_LexScans.j0 k a0 t259 bt264.1 false)) else (chrysalislaw08_LexScans.j0 k a0 t259 bt264.1 false)))) = some r := H
    have A5 := Aside0.mk A50
    clear A50
    replace H := Option.bind_eq_some_iff.mp H
    obtain ⟨⟨t264, t265, t266⟩, A60, H⟩ := H
    replace H : ((chrysalisref08_Same.f k t259 t264 true).bind fun t269 => (if t269 = true then (if t260 = t265 then (chrysalislaw08_LexScans.j0 k a0 t259 t264 (t261 == t266)) else (chrysalislaw08_LexScans.j0 k a0 t259 t264 false)) else (chrysalislaw08_LexScans.j0 k a0 t259 t264 false))) = some r := H
    have A6 := Aside0.mk A60
    clear A60
    have HC7 := Aside0.mk H
    clear H
    go_enter Try.func3, Try.ntmps3
    go_upto_region 5 with (first | ((with_reducible refine gate_callee (f := 11) rfl ?_); refine goesL_ (some 20) rfl rfl Try.func11 (by kernel_rfl) rfl #[.string a0] rfl (by (try simp only [List.map_toArray, List.map_cons, List.map_nil]); first | done | rfl | (simp only [List.length_drop, List.length_take]; rfl)) ?_; (with_reducible refine (lex_Scan.calls k a0 t259 t260 t261 _ A5.out).mono ?_); rintro e w8 ⟨v262, rfl, ho0, hb⟩; refine ⟨_, rfl, ?_⟩; have n0_ := Aside0.mk (Kd.R_lower ho0 (below_size (by repeat (first | (with_reducible first | exact HB.out | apply below_alloc | apply pw_below_drewN | apply below_drew1) | exact HB.out)))); have n1_ := Aside0.mk (below_step (by repeat (first | (with_reducible first | exact HB.out | apply below_alloc | apply pw_below_drewN | apply below_drew1) | exact HB.out)) hb); clear HB; have HO263 := n0_; have HB := n1_; clear n0_ n1_; (try clear hb); (try clear hb2); (try clear hk); (try clear hi); (try clear ho0)) | ((with_reducible refine gate_callee (f := 12) rfl ?_); refine goesL_ (some 26) rfl rfl Try.func12 (by kernel_rfl) rfl #[.string a0] rfl (by (try simp only [List.map_toArray, List.map_cons, List.map_nil]); first | done | rfl | (simp only [List.length_drop, List.length_take]; rfl)) ?_; (with_reducible refine (chrysalisref08_Scan.calls k a0 t264 t265 t266 _ A6.out).mono ?_); rintro e w9 ⟨v267, rfl, ho0, hb⟩; refine ⟨_, rfl, ?_⟩; have n0_ := Aside0.mk (Kd.R_elder' (by (with_reducible repeat (first | apply Kd.R_alloc | apply Kd.R_drewN | apply Kd.R_drew)); exact HO263.out) (Kd.R_base ho0) hb); have n1_ := Aside0.mk (Kd.R_lower (Kd.R_new' ho0 (Kd.R_lt (by (with_reducible repeat (first | apply Kd.R_alloc | apply Kd.R_drewN | apply Kd.R_drew)); exact HO263.out))) (below_size (by repeat (first | (with_reducible first | exact HB.out | apply below_alloc | apply pw_below_drewN | apply below_drew1) | exact HB.out)))); have n2_ := Aside0.mk (below_step (by repeat (first | (with_reducible first | exact HB.out | apply below_alloc | apply pw_below_drewN | apply below_drew1) | exact HB.out)) hb); clear HO263; clear HB; have HO263 := n0_; have HO268 := n1_; have HB := n2_; clear n0_ n1_ n2_; (try clear hb); (try clear hb2); (try clear hk); (try clear hi); (try clear ho0)))
    (try simp only [Act.put, List.setIfInBounds_toArray, List.set_cons_zero, List.set_cons_succ])
    go_cut [9] (fun v9 wc => ∃ (kq : Nat) (x9_6 : Bool), v9 = .bool x9_6 ∧ Aside0 (chrysalislaw08_LexScans.j0 kq a0 t259 t264 x9_6 = some r) ∧ Aside0 (kq ≤ k) ∧ Aside0 (Kd.R k29 29 wc w.heap.size (fun k_ => some k_ ≠ (v267 : Value).ownBlock) v262 t259) ∧ Aside0 (Kd.R k29 29 wc w.heap.size (fun k_ => some k_ ≠ (v262 : Value).ownBlock) v267 t264) ∧ Aside0 (Below w.heap.size w wc))
    case first =>
      have H := HC7.out
      clear HC7
      replace H := Option.bind_eq_some_iff.mp H
      obtain ⟨t269, A100, H⟩ := H
      replace H : (if t269 = true then (if t260 = t265 then (chrysalislaw08_LexScans.j0 k a0 t259 t264 (t261 == t266)) else (chrysalislaw08_LexScans.j0 k a0 t259 t264 false)) else (chrysalislaw08_LexScans.j0 k a0 t259 t264 false)) = some r := H
      have A10 := Aside0.mk A100
      clear A100
      by_cases c11 : t269 = true
      · subst c11
        have H1 : (if t260 = t265 then (chrysalislaw08_LexScans.j0 k a0 t259 t264 (t261 == t266)) else (chrysalislaw08_LexScans.j0 k a0 t259 t264 false)) = some r := by rw [if_pos rfl] at H; exact H
        clear H
        have H := H1
        clear H1
        by_cases c12 : t260 = t265
        · rw [if_pos c12] at H
          have c12b0 : (t260 == t265) = true := beq_iff_eq.mpr c12
          have c12b1 : (t260 != t265) = false := bne_eq_false_iff_eq.mpr c12
          clear c12
          (first | rw [c12b0] | (simp only [i64_w, i32_w]; rw [c12b0]) | skip)
          have H' := Aside0.mk H
          clear H
          obtain ⟨Ao13, co13, eo13⟩ := Kd.R_slice HO263.out
          subst eo13
          obtain ⟨Ao14, co14, eo14⟩ := Kd.R_slice HO268.out
          subst eo14
          go_wp2_with (first | ((with_reducible refine gate_callee (f := 13) rfl ?_); refine goesL_ (some 32) rfl rfl Try.func13 (by kernel_rfl) rfl #[.slice Ao13 t259.length co13, .slice Ao14 t264.length co14, .bool true] rfl (by (try simp only [List.map_toArray, List.map_cons, List.map_nil]); first | done | rfl | (simp only [List.length_drop, List.length_take]; rfl)) ?_; (with_reducible refine (chrysalisref08_Same.calls k _ _ t259 _ _ t264 true true _ ?side1 ?side2 ?side3 ?side4 A10.out).mono ?_); (case side1 => repeat (first | exact (Kd.R_reads' HO263.out).2.2 | (with_reducible refine Kd.C_alloc ?_ _) | (with_reducible refine Kd.C_drewN ?_ _) | (with_reducible refine Kd.C_drew ?_))); (case side2 => exact (Kd.R_reads' HO263.out).2.1); (case side3 => repeat (first | exact (Kd.R_reads' HO268.out).2.2 | (with_reducible refine Kd.C_alloc ?_ _) | (with_reducible refine Kd.C_drewN ?_ _) | (with_reducible refine Kd.C_drew ?_))); (case side4 => exact (Kd.R_reads' HO268.out).2.1); rintro e w' ⟨rfl, ⟨nd, rfl⟩⟩; refine ⟨_, rfl, ?_⟩))
          go_meet
          case rel => exact ⟨_, ((t261 == t266)), (by first | rfl | (simp; done) | (simp [*]; done)), H', ⟨by first | omega | exact Nat.le_refl _⟩, ⟨by (with_reducible repeat (first | apply Kd.R_alloc | apply Kd.R_drewN | apply Kd.R_drew)); exact Kd.R_mono HO263.out (fun _ hk => hk.2)⟩, ⟨by (with_reducible repeat (first | apply Kd.R_alloc | apply Kd.R_drewN | apply Kd.R_drew)); exact Kd.R_mono HO268.out (fun _ hk => hk.2)⟩, ⟨by repeat (first | (with_reducible first | exact HB.out | apply below_alloc | apply pw_below_drewN | apply below_drew1) | exact HB.out)⟩⟩
        · rw [if_neg c12] at H
          have c12b0 : (t260 == t265) = false := beq_eq_false_iff_ne.mpr c12
          have c12b1 : (t260 != t265) = true := bne_iff_ne.mpr c12
          (first | rw [c12b0] | (simp only [i64_w, i32_w]; rw [c12b0]) | skip)
          have H' := Aside0.mk H
          clear H
          obtain ⟨Ao15, co15, eo15⟩ := Kd.R_slice HO263.out
          subst eo15
          obtain ⟨Ao16, co16, eo16⟩ := Kd.R_slice HO268.out
          subst eo16
          go_wp2_with (first | ((with_reducible refine gate_callee (f := 13) rfl ?_); refine goesL_ (some 32) rfl rfl Try.func13 (by kernel_rfl) rfl #[.slice Ao15 t259.length co15, .slice Ao16 t264.length co16, .bool true] rfl (by (try simp only [List.map_toArray, List.map_cons, List.map_nil]); first | done | rfl | (simp only [List.length_drop, List.length_take]; rfl)) ?_; (with_reducible refine (chrysalisref08_Same.calls k _ _ t259 _ _ t264 true true _ ?side1 ?side2 ?side3 ?side4 A10.out).mono ?_); (case side1 => repeat (first | exact (Kd.R_reads' HO263.out).2.2 | (with_reducible refine Kd.C_alloc ?_ _) | (with_reducible refine Kd.C_drewN ?_ _) | (with_reducible refine Kd.C_drew ?_))); (case side2 => exact (Kd.R_reads' HO263.out).2.1); (case side3 => repeat (first | exact (Kd.R_reads' HO268.out).2.2 | (with_reducible refine Kd.C_alloc ?_ _) | (with_reducible refine Kd.C_drewN ?_ _) | (with_reducible refine Kd.C_drew ?_))); (case side4 => exact (Kd.R_reads' HO268.out).2.1); rintro e w' ⟨rfl, ⟨nd, rfl⟩⟩; refine ⟨_, rfl, ?_⟩))
          go_meet
          case rel => exact ⟨_, (false), (by first | rfl | (simp; done) | (simp [*]; done)), H', ⟨by first | omega | exact Nat.le_refl _⟩, ⟨by (with_reducible repeat (first | apply Kd.R_alloc | apply Kd.R_drewN | apply Kd.R_drew)); exact Kd.R_mono HO263.out (fun _ hk => hk.2)⟩, ⟨by (with_reducible repeat (first | apply Kd.R_alloc | apply Kd.R_drewN | apply Kd.R_drew)); exact Kd.R_mono HO268.out (fun _ hk => hk.2)⟩, ⟨by repeat (first | (with_reducible first | exact HB.out | apply below_alloc | apply pw_below_drewN | apply below_drew1) | exact HB.out)⟩⟩
      · replace c11 := Bool.eq_false_iff.mpr c11
        subst c11
        have H1 : (chrysalislaw08_LexScans.j0 k a0 t259 t264 false) = some r := by rw [if_neg (show ¬ (false = true) by decide)] at H; exact H
        clear H
        have H := H1
        clear H1
        have H' := Aside0.mk H
        clear H
        obtain ⟨Ao17, co17, eo17⟩ := Kd.R_slice HO263.out
        subst eo17
        obtain ⟨Ao18, co18, eo18⟩ := Kd.R_slice HO268.out
        subst eo18
        go_wp2_with (first | ((with_reducible refine gate_callee (f := 13) rfl ?_); refine goesL_ (some 32) rfl rfl Try.func13 (by kernel_rfl) rfl #[.slice Ao17 t259.length co17, .slice Ao18 t264.length co18, .bool true] rfl (by (try simp only [List.map_toArray, List.map_cons, List.map_nil]); first | done | rfl | (simp only [List.length_drop, List.length_take]; rfl)) ?_; (with_reducible refine (chrysalisref08_Same.calls k _ _ t259 _ _ t264 true false _ ?side1 ?side2 ?side3 ?side4 A10.out).mono ?_); (case side1 => repeat (first | exact (Kd.R_reads' HO263.out).2.2 | (with_reducible refine Kd.C_alloc ?_ _) | (with_reducible refine Kd.C_drewN ?_ _) | (with_reducible refine Kd.C_drew ?_))); (case side2 => exact (Kd.R_reads' HO263.out).2.1); (case side3 => repeat (first | exact (Kd.R_reads' HO268.out).2.2 | (with_reducible refine Kd.C_alloc ?_ _) | (with_reducible refine Kd.C_drewN ?_ _) | (with_reducible refine Kd.C_drew ?_))); (case side4 => exact (Kd.R_reads' HO268.out).2.1); rintro e w' ⟨rfl, ⟨nd, rfl⟩⟩; refine ⟨_, rfl, ?_⟩))
        go_meet
        case rel => exact ⟨_, (false), (by first | rfl | (simp; done) | (simp [*]; done)), H', ⟨by first | omega | exact Nat.le_refl _⟩, ⟨by (with_reducible repeat (first | apply Kd.R_alloc | apply Kd.R_drewN | apply Kd.R_drew)); exact Kd.R_mono HO263.out (fun _ hk => hk.2)⟩, ⟨by (with_reducible repeat (first | apply Kd.R_alloc | apply Kd.R_drewN | apply Kd.R_drew)); exact Kd.R_mono HO268.out (fun _ hk => hk.2)⟩, ⟨by repeat (first | (with_reducible first | exact HB.out | apply below_alloc | apply pw_below_drewN | apply below_drew1) | exact HB.out)⟩⟩
    case rest =>
      clear HC7
      try clear c1
      try clear c2
      try clear c2b0
      try clear c2b1
      try clear p2
      try clear c3
      try clear c10
      try clear c11
      try clear c12
      try clear c12b0
      try clear c12b1
      try clear c13
      obtain ⟨kq, x9_6, rfl, HA, HJ6, HO_3, HO_6, HB⟩ := hcut
      cases kq with
      | zero => exact absurd HA.out (by simp [chrysalislaw08_LexScans.j0])
      | succ kj6 =>
        have H := HA.out
        clear HA
        simp only [chrysalislaw08_LexScans.j0] at H
        have H' := Aside0.mk H
        clear H
        go_wp2
        go_loopg [10] kj6 (fun kq v10 w' => ∃ (x3_2 : List (S29)) (x10_2 : Int), v10 = .int .i64 x10_2 ∧ Aside0 (chrysalislaw08_LexScans.l0 kq a0 x3_2 t264 x9_6 x10_2 = some r) ∧ Aside0 (kq ≤ kj6) ∧ Aside0 (Kd.R k29 29 w' w.heap.size (fun k_ => some k_ ≠ (v267 : Value).ownBlock) v262 x3_2) ∧ Aside0 (Kd.R k29 29 w' w.heap.size (fun k_ => some k_ ≠ (v262 : Value).ownBlock) v267 t264) ∧ Aside0 (Below w.heap.size w w'))
        case atStart => exact ⟨(t259), (0), (by first | rfl | (simp; done) | (simp [*]; done)), H', ⟨Nat.le_refl _⟩, ⟨by (with_reducible repeat (first | apply Kd.R_alloc | apply Kd.R_drewN | apply Kd.R_drew)); exact HO_3.out⟩, ⟨by (with_reducible repeat (first | apply Kd.R_alloc | apply Kd.R_drewN | apply Kd.R_drew)); exact HO_6.out⟩, ⟨by repeat (first | (with_reducible first | exact HB.out | apply below_alloc | apply pw_below_drewN | apply below_drew1) | exact HB.out)⟩⟩
        case round =>
          clear H'
          try clear c1
          try clear c2
          try clear c2b0
          try clear c2b1
          try clear p2
          try clear c3
          try clear c10
          try clear c11
          try clear c12
          try clear c12b0
          try clear c12b1
          try clear c13
          try clear p2
          obtain ⟨x3_2, x10_2, rfl, HA, HK2, HO_3, HO_6, HB⟩ := hrel
          cases gk with
          | zero => exact absurd HA.out (by simp [chrysalislaw08_LexScans.l0])
          | succ k2 =>
            have H := HA.out
            clear HA
            simp only [chrysalislaw08_LexScans.l0] at H
            by_cases c19 : x10_2 < (x3_2.length : Int)
            · rw [if_pos c19] at H
              have c19b0 : decide (x10_2 < (x3_2.length : Int)) = true := decide_eq_true c19
              clear c19
              by_cases c20 : 0 ≤ x10_2
              · rw [if_pos c20] at H
                have c20b0 : decide (0 ≤ x10_2) = true := decide_eq_true c20
                clear c20
                obtain ⟨y270, hy270⟩ : ∃ y_ : List (S29), y_ = (x3_2.set (x10_2 : Int).toNat (⟨(rd_T29 x3_2 x10_2).f0, (⟨#[115, 112, 111, 105, 108, 116]⟩ : ByteArray), (rd_T29 x3_2 x10_2).f2, (rd_T29 x3_2 x10_2).f3⟩ : S29)) := ⟨_, rfl⟩
                replace H : (chrysalislaw08_LexScans.l0 k2 a0 y270 t264 x9_6 (wrap64 (x10_2 + 1))) = some r := by first | (rw [hy270]; with_reducible exact H) | (have H2_ := (Option.bind_some _ _).symm.trans H; rw [hy270]; with_reducible exact H2_) | (have H2_ := (Option.bind_some _ _).symm.trans H; with_reducible exact H2_) | with_reducible exact H | (rw [hy270]; exact H) | exact H
                have Ny270 := Aside0.mk hy270
                clear hy270
                have H' := Aside0.mk H
                clear H
                obtain ⟨Ao22, co22, eo22⟩ := Kd.R_slice HO_3.out
                subst eo22
                have p21 : 0 ≤ (x10_2 : Int) := of_decide_eq_true (by first | (with_reducible assumption) | assumption)
                have q21 : (x10_2 : Int) < ((x3_2.length : Int) : Int) := of_decide_eq_true (by first | (with_reducible assumption) | assumption)
                obtain ⟨go21, co21, eo21, gb21, gl21, cl21, HG21⟩ := Kd.R_form HO_3.out (by omega)
                (first | cases eo21 | (injection eo21 with ea_ en_ ec_; (first | subst ea_ | (injection ea_ with ea_; subst ea_)); subst ec_; clear en_))
                have GB21 := Aside0.mk gb21
                have GG21 := Aside0.mk HG21
                clear gb21 gl21 HG21
                obtain ⟨ce21, hcl21, hM21, hcc21, hfr21⟩ := Kd.R_elem HO_3.out z29 (x10_2 : Int) p21 q21
                obtain rfl := k29_openM hM21
                have hx21_0 : wr.cell? ⟨go21, (x10_2 : Int).toNat * 4, none⟩ = some (.int .i64 ((rd_T29 x3_2 x10_2).f0)) := hcc21 0 _ rfl
                have hx21_1 : wr.cell? ⟨go21, (x10_2 : Int).toNat * 4 + 1, none⟩ = some (.string ((rd_T29 x3_2 x10_2).f1)) := hcc21 1 _ rfl
                have hx21_2 : wr.cell? ⟨go21, (x10_2 : Int).toNat * 4 + 2, none⟩ = some (.int .i64 ((rd_T29 x3_2 x10_2).f2)) := hcc21 2 _ rfl
                have hx21_3 : wr.cell? ⟨go21, (x10_2 : Int).toNat * 4 + 3, none⟩ = some (.int .i64 ((rd_T29 x3_2 x10_2).f3)) := hcc21 3 _ rfl
                have hf21_0 : wr.frozen? ⟨go21, (x10_2 : Int).toNat * 4, none⟩ = false := hfr21 0
                have hf21_1 : wr.frozen? ⟨go21, (x10_2 : Int).toNat * 4 + 1, none⟩ = false := hfr21 1
                have hf21_2 : wr.frozen? ⟨go21, (x10_2 : Int).toNat * 4 + 2, none⟩ = false := hfr21 2
                have hf21_3 : wr.frozen? ⟨go21, (x10_2 : Int).toNat * 4 + 3, none⟩ = false := hfr21 3
                clear hcl21 hcc21 hfr21 hM21
                replace p21 := eq_true p21
                replace q21 := eq_true q21
                have HX23 := Aside0.mk (show Kd.R k29 29 wr w.heap.size (fun k_ => some k_ ≠ (v267 : Value).ownBlock) (.slice (some ⟨go21, 0, none⟩) x3_2.length co22) x3_2 from (by (with_reducible repeat (first | apply Kd.R_alloc | apply Kd.R_drewN | apply Kd.R_drew)); exact HO_3.out))
                obtain ⟨ce23, hcl23, hM23, hcc23, hfr23⟩ := Kd.R_elem HX23.out z29 (x10_2 : Int) (of_decide_eq_true (by first | (with_reducible assumption) | assumption)) (by have h_ : (x10_2 : Int) < ((x3_2.length : Int) : Int) := of_decide_eq_true (by first | (with_reducible assumption) | assumption); first | exact h_ | (have e_ := (Kd.R_reads' HO_3.out).1; omega) | simpa using h_)
                obtain rfl := k29_openM hM23
                have HP23 := Kd.R_seg HX23.out (x10_2 : Int) (of_decide_eq_true (by first | (with_reducible assumption) | assumption)) (by have h_ : (x10_2 : Int) < ((x3_2.length : Int) : Int) := of_decide_eq_true (by first | (with_reducible assumption) | assumption); first | exact h_ | (have e_ := (Kd.R_reads' HO_3.out).1; omega) | simpa using h_) (seg := [.string (⟨#[115, 112, 111, 105, 108, 116]⟩ : ByteArray)]) (j := 1) hcl23 hcc23 (show 2 ≤ 4 from by decide) (x' := (⟨(rd_T29 x3_2 x10_2).f0, (⟨#[115, 112, 111, 105, 108, 116]⟩ : ByteArray), (rd_T29 x3_2 x10_2).f2, (rd_T29 x3_2 x10_2).f3⟩ : S29)) (k29_mkM _ _ _ (⟨(rd_T29 x3_2 x10_2).f0, (⟨#[115, 112, 111, 105, 108, 116]⟩ : ByteArray), (rd_T29 x3_2 x10_2).f2, (rd_T29 x3_2 x10_2).f3⟩ : S29) ) (fun _ hk => hk)
                have hx23_1 := hcc23 1 _ rfl
                (try simp only [show (k29).sz = 4 from rfl, Nat.mul_one, Nat.add_zero] at hx23_1)
                have hf23_1 := hfr23 1
                (try simp only [show (k29).sz = 4 from rfl, Nat.mul_one, Nat.add_zero] at hf23_1)
                clear hcl23 hcc23 hfr23 hM23
                go_wp2_with (first | ((with_reducible refine gate_store (t := 9) (p := 52) rfl ?_); refine store_event (t := 9) (p := 52) (v := ?vo_w24) (w1 := (wr.setCell ⟨go21, (x10_2 : Int).toNat * 4 + 1, none⟩ (.string (⟨#[115, 112, 111, 105, 108, 116]⟩ : ByteArray)))) ?hg ?ho ?hn ?hr ?_; (case ho => rfl); (case hg => rfl); (case hn => rfl); (case hr => first | (go_simp; done) | (go_simp; rfl)); intro w24 hw; have hg : wr.grownBy w24 (some go21) := (by rw [hw]; exact HP23.2); have hp_ : Kd.R k29 29 w24 w.heap.size (fun k_ => some k_ ≠ (v267 : Value).ownBlock) (.slice (some ⟨go21, 0, none⟩) x3_2.length co22) y270 := (by rw [hw, Ny270.out]; exact HP23.1); clear HP23; have n0_ := Aside0.mk (hp_); have n1_ := Aside0.mk (Kd.R_after (v := (.slice (some ⟨go21, 0, none⟩) x3_2.length co22)) (v1 := (.slice (some ⟨go21, 0, none⟩) x3_2.length co22)) (ok := (fun _ => True)) (by (with_reducible repeat (first | apply Kd.R_alloc | apply Kd.R_drewN | apply Kd.R_drew)); exact Kd.R_mono HO_6.out (fun _ hk => ⟨trivial, hk⟩)) hg (.inl rfl)); have n2_ := Aside0.mk ((by rw [hw]; exact below_set (HB.out) GB21.out : Below w.heap.size w w24)); clear HO_3; clear HO_6; clear HB; have HO_3 := n0_; have HO_6 := n1_; have HB := n2_; clear n0_ n1_ n2_; clear hg hw hp_))
                go_roundg k2
                case measure => have := HJ6.out; have := HK2.out; omega
                case rel => exact ⟨(y270), (wrap64 (x10_2 + 1)), (by first | rfl | (simp; done) | (simp [*]; done)), H', ⟨by have := HJ6.out; have := HK2.out; omega⟩, ⟨by (with_reducible repeat (first | apply Kd.R_alloc | apply Kd.R_drewN | apply Kd.R_drew)); exact HO_3.out⟩, ⟨by (with_reducible repeat (first | apply Kd.R_alloc | apply Kd.R_drewN | apply Kd.R_drew)); exact Kd.R_mono HO_6.out (fun _ hk => hk.2)⟩, ⟨by repeat (first | (with_reducible first | exact HB.out | apply below_alloc | apply pw_below_drewN | apply below_drew1) | exact HB.out)⟩⟩
              · rw [if_neg c20] at H
                exact absurd H (by simp)
            · rw [if_neg c19] at H
              have c19b0 : decide (x10_2 < (x3_2.length : Int)) = false := decide_eq_false c19
              clear c19
              replace H := Option.bind_eq_some_iff.mp H
              obtain ⟨⟨t271, t272, t273⟩, A250, H⟩ := H
              replace H : (if x9_6 = true then ((chrysalisref08_Same.f k2 t271 t264 true).bind fun t276 => (if t276 = true then ((chrysalislaw08_known.f k2).bind fun t277 => (some t277)) else (some false))) else (some false)) = some r := H
              have A25 := Aside0.mk A250
              clear A250
              by_cases c26 : x9_6 = true
              · subst c26
                have H1 : ((chrysalisref08_Same.f k2 t271 t264 true).bind fun t276 => (if t276 = true then ((chrysalislaw08_known.f k2).bind fun t277 => (some t277)) else (some false))) = some r := by rw [if_pos rfl] at H; exact H
                clear H
                have H := H1
                clear H1
                replace H := Option.bind_eq_some_iff.mp H
                obtain ⟨t276, A270, H⟩ := H
                replace H : (if t276 = true then ((chrysalislaw08_known.f k2).bind fun t277 => (some t277)) else (some false)) = some r := H
                have A27 := Aside0.mk A270
                clear A270
                by_cases c28 : t276 = true
                · subst c28
                  have H1 : ((chrysalislaw08_known.f k2).bind fun t277 => (some t277)) = some r := by rw [if_pos rfl] at H; exact H
                  clear H
                  have H := H1
                  clear H1
                  replace H := Option.bind_eq_some_iff.mp H
                  obtain ⟨t277, A290, H⟩ := H
                  replace H : (some t277) = some r := H
                  have A29 := Aside0.mk A290
                  clear A290
                  obtain rfl := Option.some.inj H
                  obtain ⟨Ao30, co30, eo30⟩ := Kd.R_slice HO_3.out
                  subst eo30
                  go_wp2_with (first | ((with_reducible refine gate_callee (f := 11) rfl ?_); refine goesL_ (some 55) rfl rfl Try.func11 (by kernel_rfl) rfl #[.string a0] rfl (by (try simp only [List.map_toArray, List.map_cons, List.map_nil]); first | done | rfl | (simp only [List.length_drop, List.length_take]; rfl)) ?_; (with_reducible refine (lex_Scan.calls k2 a0 t271 t272 t273 _ A25.out).mono ?_); rintro e w31 ⟨v274, rfl, ho0, hb⟩; refine ⟨_, rfl, ?_⟩; have n0_ := Aside0.mk (Kd.R_elder' (by (with_reducible repeat (first | apply Kd.R_alloc | apply Kd.R_drewN | apply Kd.R_drew)); exact HO_3.out) (Kd.R_base ho0) hb); have n1_ := Aside0.mk (Kd.R_elder' (by (with_reducible repeat (first | apply Kd.R_alloc | apply Kd.R_drewN | apply Kd.R_drew)); exact HO_6.out) (Kd.R_base ho0) hb); have n2_ := Aside0.mk (Kd.R_lower (Kd.R_new' (Kd.R_new' ho0 (Kd.R_lt (by (with_reducible repeat (first | apply Kd.R_alloc | apply Kd.R_drewN | apply Kd.R_drew)); exact HO_3.out))) (Kd.R_lt (by (with_reducible repeat (first | apply Kd.R_alloc | apply Kd.R_drewN | apply Kd.R_drew)); exact HO_6.out))) (below_size (by repeat (first | (with_reducible first | exact HB.out | apply below_alloc | apply pw_below_drewN | apply below_drew1) | exact HB.out)))); have n3_ := Aside0.mk (below_step (by repeat (first | (with_reducible first | exact HB.out | apply below_alloc | apply pw_below_drewN | apply below_drew1) | exact HB.out)) hb); clear HO_3; clear HO_6; clear HB; have HO_3 := n0_; have HO_6 := n1_; have HO275 := n2_; have HB := n3_; clear n0_ n1_ n2_ n3_; (try clear hb); (try clear hb2); (try clear hk); (try clear hi); (try clear ho0); obtain ⟨Ao32, co32, eo32⟩ := Kd.R_slice HO275.out; subst eo32; obtain ⟨Ao33, co33, eo33⟩ := Kd.R_slice HO_6.out; subst eo33) | (go_at_call 13; (with_reducible refine (chrysalisref08_Same.calls k2 _ _ t271 _ _ t264 true true _ ?side1 ?side2 ?side3 ?side4 A27.out).mono ?_); (case side1 => repeat (first | exact (Kd.R_reads' HO275.out).2.2 | (with_reducible refine Kd.C_alloc ?_ _) | (with_reducible refine Kd.C_drewN ?_ _) | (with_reducible refine Kd.C_drew ?_))); (case side2 => exact (Kd.R_reads' HO275.out).2.1); (case side3 => repeat (first | exact (Kd.R_reads' HO_6.out).2.2 | (with_reducible refine Kd.C_alloc ?_ _) | (with_reducible refine Kd.C_drewN ?_ _) | (with_reducible refine Kd.C_drew ?_))); (case side4 => exact (Kd.R_reads' HO_6.out).2.1); rintro e w' ⟨rfl, ⟨nd, rfl⟩⟩) | (go_at_call 10; (with_reducible refine (chrysalislaw08_known.calls k2  t277 _ A29.out).mono ?_); rintro e w34 ⟨rfl, hb⟩; have n0_ := Aside0.mk (Kd.R_below (by (with_reducible repeat (first | apply Kd.R_alloc | apply Kd.R_drewN | apply Kd.R_drew)); exact HO_3.out) hb); have n1_ := Aside0.mk (Kd.R_below (by (with_reducible repeat (first | apply Kd.R_alloc | apply Kd.R_drewN | apply Kd.R_drew)); exact HO_6.out) hb); have n2_ := Aside0.mk (Kd.R_below (by (with_reducible repeat (first | apply Kd.R_alloc | apply Kd.R_drewN | apply Kd.R_drew)); exact HO275.out) hb); have n3_ := Aside0.mk (below_step (by repeat (first | (with_reducible first | exact HB.out | apply below_alloc | apply pw_below_drewN | apply below_drew1) | exact HB.out)) hb); clear HO_3; clear HO_6; clear HO275; clear HB; have HO_3 := n0_; have HO_6 := n1_; have HO275 := n2_; have HB := n3_; clear n0_ n1_ n2_ n3_; (try clear hb); (try clear hb2); (try clear hk); (try clear hi)))
                  go_ret
                  exact ⟨by first | rfl | (simp [errW_none, errW_some] <;> rfl) | (simp [*, errW_none, errW_some] <;> rfl), by repeat (first | (with_reducible first | exact HB.out | apply below_alloc | apply pw_below_drewN | apply below_drew1) | exact HB.out)⟩
                · replace c28 := Bool.eq_false_iff.mpr c28
                  subst c28
                  have H1 : (some false) = some r := by rw [if_neg (show ¬ (false = true) by decide)] at H; exact H
                  clear H
                  have H := H1
                  clear H1
                  obtain rfl := Option.some.inj H
                  obtain ⟨Ao35, co35, eo35⟩ := Kd.R_slice HO_3.out
                  subst eo35
                  go_wp2_with (first | ((with_reducible refine gate_callee (f := 11) rfl ?_); refine goesL_ (some 55) rfl rfl Try.func11 (by kernel_rfl) rfl #[.string a0] rfl (by (try simp only [List.map_toArray, List.map_cons, List.map_nil]); first | done | rfl | (simp only [List.length_drop, List.length_take]; rfl)) ?_; (with_reducible refine (lex_Scan.calls k2 a0 t271 t272 t273 _ A25.out).mono ?_); rintro e w36 ⟨v274, rfl, ho0, hb⟩; refine ⟨_, rfl, ?_⟩; have n0_ := Aside0.mk (Kd.R_elder' (by (with_reducible repeat (first | apply Kd.R_alloc | apply Kd.R_drewN | apply Kd.R_drew)); exact HO_3.out) (Kd.R_base ho0) hb); have n1_ := Aside0.mk (Kd.R_elder' (by (with_reducible repeat (first | apply Kd.R_alloc | apply Kd.R_drewN | apply Kd.R_drew)); exact HO_6.out) (Kd.R_base ho0) hb); have n2_ := Aside0.mk (Kd.R_lower (Kd.R_new' (Kd.R_new' ho0 (Kd.R_lt (by (with_reducible repeat (first | apply Kd.R_alloc | apply Kd.R_drewN | apply Kd.R_drew)); exact HO_3.out))) (Kd.R_lt (by (with_reducible repeat (first | apply Kd.R_alloc | apply Kd.R_drewN | apply Kd.R_drew)); exact HO_6.out))) (below_size (by repeat (first | (with_reducible first | exact HB.out | apply below_alloc | apply pw_below_drewN | apply below_drew1) | exact HB.out)))); have n3_ := Aside0.mk (below_step (by repeat (first | (with_reducible first | exact HB.out | apply below_alloc | apply pw_below_drewN | apply below_drew1) | exact HB.out)) hb); clear HO_3; clear HO_6; clear HB; have HO_3 := n0_; have HO_6 := n1_; have HO275 := n2_; have HB := n3_; clear n0_ n1_ n2_ n3_; (try clear hb); (try clear hb2); (try clear hk); (try clear hi); (try clear ho0); obtain ⟨Ao37, co37, eo37⟩ := Kd.R_slice HO275.out; subst eo37; obtain ⟨Ao38, co38, eo38⟩ := Kd.R_slice HO_6.out; subst eo38) | (go_at_call 13; (with_reducible refine (chrysalisref08_Same.calls k2 _ _ t271 _ _ t264 true false _ ?side1 ?side2 ?side3 ?side4 A27.out).mono ?_); (case side1 => repeat (first | exact (Kd.R_reads' HO275.out).2.2 | (with_reducible refine Kd.C_alloc ?_ _) | (with_reducible refine Kd.C_drewN ?_ _) | (with_reducible refine Kd.C_drew ?_))); (case side2 => exact (Kd.R_reads' HO275.out).2.1); (case side3 => repeat (first | exact (Kd.R_reads' HO_6.out).2.2 | (with_reducible refine Kd.C_alloc ?_ _) | (with_reducible refine Kd.C_drewN ?_ _) | (with_reducible refine Kd.C_drew ?_))); (case side4 => exact (Kd.R_reads' HO_6.out).2.1); rintro e w' ⟨rfl, ⟨nd, rfl⟩⟩))
                  go_ret
                  exact ⟨by first | rfl | (simp [errW_none, errW_some] <;> rfl) | (simp [*, errW_none, errW_some] <;> rfl), by repeat (first | (with_reducible first | exact HB.out | apply below_alloc | apply pw_below_drewN | apply below_drew1) | exact HB.out)⟩
              · replace c26 := Bool.eq_false_iff.mpr c26
                subst c26
                have H1 : (some false) = some r := by rw [if_neg (show ¬ (false = true) by decide)] at H; exact H
                clear H
                have H := H1
                clear H1
                obtain rfl := Option.some.inj H
                obtain ⟨Ao39, co39, eo39⟩ := Kd.R_slice HO_3.out
                subst eo39
                go_wp2_with (first | ((with_reducible refine gate_callee (f := 11) rfl ?_); refine goesL_ (some 55) rfl rfl Try.func11 (by kernel_rfl) rfl #[.string a0] rfl (by (try simp only [List.map_toArray, List.map_cons, List.map_nil]); first | done | rfl | (simp only [List.length_drop, List.length_take]; rfl)) ?_; (with_reducible refine (lex_Scan.calls k2 a0 t271 t272 t273 _ A25.out).mono ?_); rintro e w40 ⟨v274, rfl, ho0, hb⟩; refine ⟨_, rfl, ?_⟩; have n0_ := Aside0.mk (Kd.R_elder' (by (with_reducible repeat (first | apply Kd.R_alloc | apply Kd.R_drewN | apply Kd.R_drew)); exact HO_3.out) (Kd.R_base ho0) hb); have n1_ := Aside0.mk (Kd.R_elder' (by (with_reducible repeat (first | apply Kd.R_alloc | apply Kd.R_drewN | apply Kd.R_drew)); exact HO_6.out) (Kd.R_base ho0) hb); have n2_ := Aside0.mk (Kd.R_lower (Kd.R_new' (Kd.R_new' ho0 (Kd.R_lt (by (with_reducible repeat (first | apply Kd.R_alloc | apply Kd.R_drewN | apply Kd.R_drew)); exact HO_3.out))) (Kd.R_lt (by (with_reducible repeat (first | apply Kd.R_alloc | apply Kd.R_drewN | apply Kd.R_drew)); exact HO_6.out))) (below_size (by repeat (first | (with_reducible first | exact HB.out | apply below_alloc | apply pw_below_drewN | apply below_drew1) | exact HB.out)))); have n3_ := Aside0.mk (below_step (by repeat (first | (with_reducible first | exact HB.out | apply below_alloc | apply pw_below_drewN | apply below_drew1) | exact HB.out)) hb); clear HO_3; clear HO_6; clear HB; have HO_3 := n0_; have HO_6 := n1_; have HO275 := n2_; have HB := n3_; clear n0_ n1_ n2_ n3_; (try clear hb); (try clear hb2); (try clear hk); (try clear hi); (try clear ho0)))
                go_ret
                exact ⟨by first | rfl | (simp [errW_none, errW_some] <;> rfl) | (simp [*, errW_none, errW_some] <;> rfl), by repeat (first | (with_reducible first | exact HB.out | apply below_alloc | apply pw_below_drewN | apply below_drew1) | exact HB.out)⟩

/-- THE ONE PURE STATEMENT of chrysalislaw08_LexScans: yours. -/
def chrysalislaw08_LexScans.Pure : Prop := ∀ (a0 : ByteArray), a0.size ≤ 140737488351232 → ∃ k, chrysalislaw08_LexScans.f k a0 = some true
theorem chrysalislaw08_LexScans.walk (P : chrysalislaw08_LexScans.Pure) (a0 : ByteArray) (w : World) (w0 : a0.size ≤ 140737488351232) :
    Calls Try.prog 3 #[.string a0] w fun e w' => e = .returned (.bool true) ∧ Below w.heap.size w w' := by
  obtain ⟨k, h⟩ := P a0 w0
  refine (chrysalislaw08_LexScans.calls k a0 true w h).mono ?_
  rintro e w' ⟨rfl, hd⟩
  exact ⟨rfl, hd⟩

end Go.Proofs.Ytkcnpnkcahgniaa.Q
