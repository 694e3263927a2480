/- Walks over functions of the program, words for them, and what the functions come to; of each text only what this claim uses; no condition. -/
import Derived.Test.YtendgafpkeadhaaZRO0
import Derived.Test.YtendgafpkeadhaaZRO1
import Derived.Test.YtendgafpkeadhaaZRO3
import Derived.Test.YtendgafpkeadhaaZRO4
import Derived.Test.YtendgafpkeadhaaZRO5
import Derived.Test.YtendgafpkeadhaaZRO8
section
namespace Go.Proofs.Ytendgafpkeadhaa.Q
open Go.RowKit Go.Proofs.YtendgafpkeadhaaW.PrintWords Go.Proofs.YtendgafpkeadhaaW.PrintLast Go.Proofs.YtendgafpkeadhaaW.PrintMore
attribute [local go_sem] iY iW iV iU max2_int min2_int max_two min_two max_three min_three max_four min_four
set_option linter.unusedVariables false
set_option linter.unusedSimpArgs false
/-! ### dK: function 90 -/
mutual
def dK.l0 : Nat → List (List (S41)) → List (S38) → Int → Bool → Option ((List (List (S41))) × Int × Bool)
 | 0, _, _, _, _ => none
 | k + 1, x5, x1000, x1001, x1002 => if x1002 = true then (dK.j1 k x5 false x1000 x1001 x1002) else ((aZ.f x1000 x1001 x1002).bind fun bt488 => (dK.j1 k x5 (bt488.1.toList != ([41] : List UInt8)) x1000 bt488.2.1 bt488.2.2))
def dK.j1 : Nat → List (List (S41)) → Bool → List (S38) → Int → Bool → Option ((List (List (S41))) × Int × Bool)
 | 0, _, _, _, _, _ => none
 | k + 1, x5, x17, x1000, x1001, x1002 => if x17 = true then (if (x5.length : Int) > 0 then ((aG.f x1000 x1001 x1002 (⟨#[44]⟩ : ByteArray)).bind fun bt493 => ((cu.f k x1000 bt493.1 bt493.2).bind fun bt495 => (if x5.length < 5864062014805 then (dK.l0 k (x5 ++ [bt495.1]) x1000 bt495.2.1 bt495.2.2) else (none)))) else ((cu.f k x1000 x1001 x1002).bind fun bt503 => (if x5.length < 5864062014805 then (dK.l0 k (x5 ++ [bt503.1]) x1000 bt503.2.1 bt503.2.2) else (none)))) else ((aG.f x1000 x1001 x1002 (⟨#[41]⟩ : ByteArray)).bind fun bt491 => (some (x5, bt491.1, bt491.2)))
end
def dK.f (k : Nat) (s0_0 : List (S38)) (s0_1 : Int) (s0_2 : Bool) : Option ((List (List (S41))) × Int × Bool) := (aG.f s0_0 s0_1 s0_2 (⟨#[40]⟩ : ByteArray)).bind fun bt486 => (dK.l0 k ([] : List (List (S41))) s0_0 bt486.1 bt486.2)
theorem dK.mono_l : ∀ k, (∀ y0 y1 y2 y3, LeO (dK.l0 k y0 y1 y2 y3) (dK.l0 (k + 1) y0 y1 y2 y3)) ∧ (∀ y0 y1 y2 y3 y4, LeO (dK.j1 k y0 y1 y2 y3 y4) (dK.j1 (k + 1) y0 y1 y2 y3 y4))
 | 0 => ⟨fun _ _ _ _ r h => by simp [dK.l0] at h, fun _ _ _ _ _ r h => by simp [dK.j1] at h⟩
 | k + 1 => by
  obtain ⟨ih0, ih1⟩ := dK.mono_l k
  refine ⟨?_, ?_⟩
  ·intro y0 y1 y2 y3
   unfold dK.l0
   have m0 := cu.mono
   exact yL
  intro y0 y1 y2 y3 y4
  unfold dK.j1
  have m0 := cu.mono
  exact yL
theorem dK.mono : ∀ a0 a1 a2 k, LeO (dK.f k a0 a1 a2) (dK.f (k + 1) a0 a1 a2) := by
 intro a0 a1 a2 k
 obtain ⟨ih0, ih1⟩ := dK.mono_l k
 unfold dK.f
 have m0 := cu.mono
 exact yL
set_option maxHeartbeats 8000000 in
set_option maxRecDepth 100000 in
theorem dK.calls (k : Nat) (g : Nat) (s0_0 : List (S38)) (s0_1 : Int) (s0_2 : Bool) (r1 : List (List (S41))) (r2 : Int) (r3 : Bool) (w0 w : World) (hI : ai w0 w g s0_0 s0_1 s0_2) (hB : Below w0.heap.size w0 w) (h : dK.f k s0_0 s0_1 s0_2 = some (r1, r2, r3)) :
 Calls Try.prog 72 #[.pointer (some ⟨g, 0, none⟩), .func (.func 73) #[.pointer (some ⟨g, 0, none⟩)] #[]] w fun e w' => ∃ v0_ : Value, e = .returned (v0_) ∧ Kd.S (Kd.slice 41 k41) 23 w' w.heap.size (fun _ => True) v0_ r1 ∧ ai w0 w' g s0_0 r2 r3 ∧ Below w0.heap.size w0 w' ∧ ag w w' g none := by
 have HI0 := Aside0.mk hI
 have HK := Aside0.mk (ag.refl w g none)
 have HL := Aside0.mk hB.size
 clear hI
 have HW0 := Aside0.mk hB.size
 have HB := Aside0.mk hB
 clear hB
 have H := h
 clear h
 unfold dK.f at H
 revert H
 refine yB2 fun t486 t487 A2 H => ?_
 try dsimp only at H
 have H' := Aside0.mk H
 clear H
 go_enter Try.func72, Try.ntmps72
 go_wp2_with (first | ((with_reducible refine gC 51 rfl ?_); refine gM 51 7 rfl Try.func51 (aG.calls g s0_0 s0_1 s0_2 (⟨#[40]⟩ : ByteArray) t486 t487 w0 _ Z0 Z2 A2.out) ?_; rintro _ w3 ⟨rfl, hi, hb, hk⟩; refine ⟨_, rfl, yA3 (ag.trans Z1 hk (.inl rfl)) (hb) (hi) ?_⟩; clear HK HB HI0 hb; intro HK HB HI0))
 (try simp only [Act.put, List.setIfInBounds_toArray, List.set_cons_zero, List.set_cons_succ])
 go_loopg [5] k (fun kq v5 w' => ∃ (x5_1 : List (List (S41))) (x1001_1 : Int) (x1002_1 : Bool), Aside0 (dK.l0 kq x5_1 s0_0 x1001_1 x1002_1 = some (r1, r2, r3)) ∧ Aside0 (kq ≤ k) ∧ Aside0 (Kd.S (Kd.slice 41 k41) 23 w' w.heap.size (fun _ => True) v5 x5_1) ∧ Aside0 (ai w0 w' g s0_0 x1001_1 x1002_1) ∧ Aside0 (ag w w' g none) ∧ Aside0 (Below w0.heap.size w0 w'))
 case atStart => exact ⟨(([] : List (List (S41)))), (t486), (t487), H', ⟨Nat.le_refl _⟩, ⟨Z66⟩, ⟨Z0⟩, ⟨Z1⟩, ⟨Z2⟩⟩
 case round =>
  clear H'
  try clear p2
  obtain ⟨x5_1, x1001_1, x1002_1, HA, HK1, HO_5, HI0, HK, HB⟩ := hrel
  cases gk with
  | zero => exact absurd HA.out (by simp [dK.l0])
  | succ k1 =>
   have H := HA.out
   clear HA
   simp only [dK.l0] at H
   have HC4 := Aside0.mk H
   clear H
   go_upto_region 3 with (fail)
   go_cut [17] (fun v17 wc => ∃ (kq : Nat) (x17_3 : Bool) (x1001_3 : Int) (x1002_3 : Bool), v17 = .bool x17_3 ∧ Aside0 (dK.j1 kq x5_1 x17_3 s0_0 x1001_3 x1002_3 = some (r1, r2, r3)) ∧ Aside0 (kq ≤ k1) ∧ Aside0 (Kd.S (Kd.slice 41 k41) 23 wc w.heap.size (fun _ => True) u5 x5_1) ∧ Aside0 (ai w0 wc g s0_0 x1001_3 x1002_3) ∧ Aside0 (ag w wc g none) ∧ Aside0 (Below w0.heap.size w0 wc))
   case first =>
    have H := HC4.out
    clear HC4
    cases x1002_1
    rotate_left
    ·replace H := yT H
     have H' := Aside0.mk H
     clear H
     obtain ⟨ASz6_0, cSz6_0, HGz6, hgz6, HSz6_0⟩ := HI0.out
     have hcz6_0 := dH HGz6
     have hcz6_1 := dG HGz6
     have hcz6_2 := dF HGz6
     have hfz6_1 := ae HGz6 1
     have hfz6_2 := ae HGz6 2
     clear HGz6 hgz6
     go_wp2
     go_meet
     case rel => exact ⟨_, (false), (x1001_1), (true), Z6, H', ⟨by have := HK1.out; first | omega | exact Nat.le_refl _⟩, ⟨Z28⟩, ⟨Z0⟩, ⟨Z1⟩, ⟨Z2⟩⟩
    replace H := yF H
    revert H
    refine yB3 fun t488 t489 t490 A7 H => ?_
    try dsimp only at H
    have H' := Aside0.mk H
    clear H
    obtain ⟨ASz8_0, cSz8_0, HGz8, hgz8, HSz8_0⟩ := HI0.out
    have hcz8_0 := dH HGz8
    have hcz8_1 := dG HGz8
    have hcz8_2 := dF HGz8
    have hfz8_1 := ae HGz8 1
    have hfz8_2 := ae HGz8 2
    clear HGz8 hgz8
    go_wp2_with (first | (go_at_call 71; (with_reducible refine (aZ.calls g s0_0 x1001_1 false t488 t489 t490 w0 _ ?side1 ?side2 A7.out).mono ?_); (case side1 => exact Z0); (case side2 => exact Z2); rintro e w9 ⟨rfl, hi, hb, hk⟩; refine yA4 (Kd.eX (Kd.jG (ai.gK (show ai w0 _ g s0_0 x1001_1 false from Z0) Z28 (by decide)) hk (fun _ h => h.2)) (fun _ h => h.1)) (ag.trans Z1 hk (.inl rfl)) (hb) (hi) ?_; clear HO_5 HK HB HI0; intro HO_5 HK HB HI0; (try clear hb)))
    go_meet
    case rel => exact ⟨_, ((t488.toList != ([41] : List UInt8))), (t489), (t490), Z6, H', ⟨by have := HK1.out; first | omega | exact Nat.le_refl _⟩, ⟨Z28⟩, ⟨Z0⟩, ⟨Z1⟩, ⟨Z2⟩⟩
   case rest =>
    clear HC4
    try clear p2
    try clear c5
    try clear c9
    try clear hcz6_0
    try clear hcz6_1
    try clear hcz6_2
    try clear hcz8_0
    try clear hcz8_1
    try clear hcz8_2
    try clear hfz6_1
    try clear hfz6_2
    try clear hfz8_1
    try clear hfz8_2
    try clear p2
    obtain ⟨kq, x17_3, x1001_3, x1002_3, rfl, HA, HJ3, HO_5, HI0, HK, HB⟩ := hcut
    cases kq with
    | zero => exact absurd HA.out (by simp [dK.j1])
    | succ kj3 =>
     have H := HA.out
     clear HA
     simp only [dK.j1] at H
     cases x17_3
     rotate_left
     ·replace H := yT H
      revert H
      refine dX (fun c11 H => ?_) fun c11 H => ?_
      ·have c11b0 : decide (0 < (x5_1.length : Int)) = true := decide_eq_true c11
       have c11b1 : decide (0 < x5_1.length) = true := decide_eq_true (by omega)
       clear c11
       revert H
       refine yB2 fun t493 t494 A12 H => ?_
       try dsimp only at H
       revert H
       refine yB3 fun t495 t498 t499 A13 H => ?_
       try dsimp only at H
       revert H
       refine dX (fun c14 H => ?_) fun c14 H => ?_
       ·have LMc14 := Aside0.mk c14
        clear c14
        obtain ⟨y500, hy500⟩ : ∃ y_ : List (List (S41)), y_ = (x5_1 ++ [t495]) := ⟨_, rfl⟩
        replace H : (dK.l0 kj3 y500 s0_0 t498 t499) = some (r1, r2, r3) := by first | (rw [hy500]; with_reducible exact H) | (have H2_ := (Option.bind_some _ _).symm.trans H; rw [hy500]; with_reducible exact H2_) | (have H2_ := (Option.bind_some _ _).symm.trans H; with_reducible exact H2_) | with_reducible exact H | (rw [hy500]; exact H) | exact H
        have Ny500 := Aside0.mk hy500
        clear hy500
        have H' := Aside0.mk H
        clear H
        obtain ⟨Ao15, co15, eo15⟩ := Kd.kW HO_5.out
        subst eo15
        go_wp2_with (first | ((with_reducible refine gC 51 rfl ?_); refine gM 51 22 rfl Try.func51 (aG.calls g s0_0 x1001_3 x1002_3 (⟨#[44]⟩ : ByteArray) t493 t494 w0 _ Z0 Z2 A12.out) ?_; rintro _ w16 ⟨rfl, hi, hb, hk⟩; refine ⟨_, rfl, yA4 (Kd.eX (Kd.jG (ai.gK (show ai w0 _ g s0_0 x1001_3 x1002_3 from Z0) Z28 (by decide)) hk (fun _ h => h.2)) (fun _ h => h.1)) (ag.trans Z1 hk (.inl rfl)) (hb) (hi) ?_⟩; clear HO_5 HK HB HI0 hb; intro HO_5 HK HB HI0) | ((with_reducible refine (cu.calls kj3 g s0_0 t493 t494 t495 t498 t499 w0 _ ?side1 ?side2 A13.out).mono ?_); (case side1 => exact Z0); (case side2 => exact Z2); rintro e w17 ⟨v496, rfl, ho0, hi, hb, hk⟩; refine yA5 (Kd.eX (Kd.nX (Kd.nY (ai.gK (show ai w0 _ g s0_0 t493 t494 from Z0) Z28 (by decide)) hk) (Kd.R_base ho0)) (fun _ h_ => h_.1)) (Kd.R_lower ho0 (by exact aC (w := w) (g := g) (row := none) Z1)) (ag.trans Z1 hk (.inl rfl)) (hb) (hi) ?_; clear HO_5 HK HB HI0; intro HO_5 HO497 HK HB HI0; (try clear hb); (try clear ho0); obtain ⟨Ao19, co19, rfl⟩ := Kd.R_slice HO497.out) | ((with_reducible refine dB (b := .append) (xs := #[.tmp 23, .tmp 26]) rfl ?_); at_builtin; refine Kd.lG (Kd.slice 41 k41) w.heap.size rfl (.tmp 23) (.tmp 26) 78 23 (.slice none 0 0) 24 rfl Try.underlying78 info23 rfl (by decide) (by omega) (.slice Ao15 x5_1.length co15) x5_1 t495 [.slice Ao19 t495.length co19] (fun _ => True) (fun k_ => some k_ = (.slice Ao19 t495.length co19 : Value).ownBlock) rfl rfl ?aP (fun k_ hk_ => ((Kd.bn (ok' := fun k_ => ((fun _ => True)) k_ ∧ some k_ ≠ (.slice Ao15 x5_1.length co15 : Value).ownBlock) (Kd.dV (HO497.out) (Kd.iI HO_5.out) (by decide)) (fun k_ hk => ⟨trivial, hk.2⟩))).1 k_ hk_.symm) ?aF ?aO (Below.refl _ _) ?aS ?aL ?_; (case aP => exact Kd.rF (Kd.bn (Kd.kX rfl (Kd.bn (ok' := fun k_ => ((fun _ => True)) k_ ∧ some k_ ≠ (.slice Ao15 x5_1.length co15 : Value).ownBlock) (Kd.dV (HO497.out) (Kd.iI HO_5.out) (by decide)) (fun k_ hk => ⟨trivial, hk.2⟩))) (fun _ h_ => h_))); (case aF => exact (fun _ _ => trivial)); (case aO => exact Z64); (case aS => exact (by exact aC (w := w) (g := g) (row := none) Z1)); (case aL => have := LMc14.out; omega); intro v501 w18 ho hb hg hat; rw [← Ny500.out] at ho; refine yA4 (ai.grown Z0 hg (ai.lQ HI0.out HO_5.out (by decide))) (eY Z2 HL.out hb) (ag.trans Z1 (ag.iq hg g) (Kd.lV HO_5.out)) (ho) ?_; clear HI0 HB HK HO_5 HO497; intro HI0 HB HK HO502; clear ho hb hg hat))
        go_roundg kj3
        case measure => have := HK1.out; have := HJ3.out; omega
        case rel => exact ⟨(y500), (t498), (t499), H', ⟨by have := HK1.out; have := HJ3.out; omega⟩, ⟨by (with_reducible repeat (first | apply Kd.gX | apply Kd.gW | apply Kd.ja)); exact HO502.out⟩, ⟨Z0⟩, ⟨Z1⟩, ⟨Z2⟩⟩
       exact absurd H (by simp)
      have c11b0 : decide (0 < (x5_1.length : Int)) = false := decide_eq_false c11
      have c11b1 : decide (0 < x5_1.length) = false := decide_eq_false (by omega)
      clear c11
      revert H
      refine yB3 fun t503 t506 t507 A20 H => ?_
      try dsimp only at H
      revert H
      refine dX (fun c21 H => ?_) fun c21 H => ?_
      ·have LMc21 := Aside0.mk c21
       clear c21
       obtain ⟨y508, hy508⟩ : ∃ y_ : List (List (S41)), y_ = (x5_1 ++ [t503]) := ⟨_, rfl⟩
       replace H : (dK.l0 kj3 y508 s0_0 t506 t507) = some (r1, r2, r3) := by first | (rw [hy508]; with_reducible exact H) | (have H2_ := (Option.bind_some _ _).symm.trans H; rw [hy508]; with_reducible exact H2_) | (have H2_ := (Option.bind_some _ _).symm.trans H; with_reducible exact H2_) | with_reducible exact H | (rw [hy508]; exact H) | exact H
       have Ny508 := Aside0.mk hy508
       clear hy508
       have H' := Aside0.mk H
       clear H
       obtain ⟨Ao22, co22, eo22⟩ := Kd.kW HO_5.out
       subst eo22
       go_wp2_with (first | ((with_reducible refine (cu.calls kj3 g s0_0 x1001_3 x1002_3 t503 t506 t507 w0 _ ?side1 ?side2 A20.out).mono ?_); (case side1 => exact Z0); (case side2 => exact Z2); rintro e w23 ⟨v504, rfl, ho0, hi, hb, hk⟩; refine yA5 (Kd.eX (Kd.nX (Kd.nY (ai.gK (show ai w0 _ g s0_0 x1001_3 x1002_3 from Z0) Z28 (by decide)) hk) (Kd.R_base ho0)) (fun _ h_ => h_.1)) (Kd.R_lower ho0 (by exact aC (w := w) (g := g) (row := none) Z1)) (ag.trans Z1 hk (.inl rfl)) (hb) (hi) ?_; clear HO_5 HK HB HI0; intro HO_5 HO505 HK HB HI0; (try clear hb); (try clear ho0); obtain ⟨Ao25, co25, rfl⟩ := Kd.R_slice HO505.out) | ((with_reducible refine dB (b := .append) (xs := #[.tmp 23, .tmp 26]) rfl ?_); at_builtin; refine Kd.lG (Kd.slice 41 k41) w.heap.size rfl (.tmp 23) (.tmp 26) 78 23 (.slice none 0 0) 24 rfl Try.underlying78 info23 rfl (by decide) (by omega) (.slice Ao22 x5_1.length co22) x5_1 t503 [.slice Ao25 t503.length co25] (fun _ => True) (fun k_ => some k_ = (.slice Ao25 t503.length co25 : Value).ownBlock) rfl rfl ?aP (fun k_ hk_ => ((Kd.bn (ok' := fun k_ => ((fun _ => True)) k_ ∧ some k_ ≠ (.slice Ao22 x5_1.length co22 : Value).ownBlock) (Kd.dV (HO505.out) (Kd.iI HO_5.out) (by decide)) (fun k_ hk => ⟨trivial, hk.2⟩))).1 k_ hk_.symm) ?aF ?aO (Below.refl _ _) ?aS ?aL ?_; (case aP => exact Kd.rF (Kd.bn (Kd.kX rfl (Kd.bn (ok' := fun k_ => ((fun _ => True)) k_ ∧ some k_ ≠ (.slice Ao22 x5_1.length co22 : Value).ownBlock) (Kd.dV (HO505.out) (Kd.iI HO_5.out) (by decide)) (fun k_ hk => ⟨trivial, hk.2⟩))) (fun _ h_ => h_))); (case aF => exact (fun _ _ => trivial)); (case aO => exact Z64); (case aS => exact (by exact aC (w := w) (g := g) (row := none) Z1)); (case aL => have := LMc21.out; omega); intro v509 w24 ho hb hg hat; rw [← Ny508.out] at ho; refine yA4 (ai.grown Z0 hg (ai.lQ HI0.out HO_5.out (by decide))) (eY Z2 HL.out hb) (ag.trans Z1 (ag.iq hg g) (Kd.lV HO_5.out)) (ho) ?_; clear HI0 HB HK HO_5 HO505; intro HI0 HB HK HO510; clear ho hb hg hat))
       go_roundg kj3
       case measure => have := HK1.out; have := HJ3.out; omega
       case rel => exact ⟨(y508), (t506), (t507), H', ⟨by have := HK1.out; have := HJ3.out; omega⟩, ⟨by (with_reducible repeat (first | apply Kd.gX | apply Kd.gW | apply Kd.ja)); exact HO510.out⟩, ⟨Z0⟩, ⟨Z1⟩, ⟨Z2⟩⟩
      exact absurd H (by simp)
     replace H := yF H
     revert H
     refine yB2 fun t491 t492 A26 H => ?_
     try dsimp only at H
     simp only [Option.some.injEq, Prod.mk.injEq] at H
     obtain ⟨rfl, rfl, rfl⟩ := H
     go_wp2_with (first | ((with_reducible refine gC 51 rfl ?_); refine gM 51 29 rfl Try.func51 (aG.calls g s0_0 x1001_3 x1002_3 (⟨#[41]⟩ : ByteArray) t491 t492 w0 _ Z0 Z2 A26.out) ?_; rintro _ w27 ⟨rfl, hi, hb, hk⟩; refine ⟨_, rfl, yA4 (Kd.eX (Kd.jG (ai.gK (show ai w0 _ g s0_0 x1001_3 x1002_3 from Z0) Z28 (by decide)) hk (fun _ h => h.2)) (fun _ h => h.1)) (ag.trans Z1 hk (.inl rfl)) (hb) (hi) ?_⟩; clear HO_5 HK HB HI0 hb; intro HO_5 HK HB HI0))
     go_ret
     exact ⟨_, Z4, Z28, Z0, Z2, Z1⟩
end Go.Proofs.Ytendgafpkeadhaa.Q
end
section
namespace Go.Proofs.Ytendgafpkeadhaa.Q
open Go.RowKit Go.Proofs.YtendgafpkeadhaaW.PrintWords Go.Proofs.YtendgafpkeadhaaW.PrintLast Go.Proofs.YtendgafpkeadhaaW.PrintMore
attribute [local go_sem] iY iW iV iU max2_int min2_int max_two min_two max_three min_three max_four min_four
set_option linter.unusedVariables false
set_option linter.unusedSimpArgs false
/-! ### bf: function 55 -/
def bf.f (F : Fam) (k : Nat) (s0_0 : List (S38)) (s0_1 : Int) (s0_2 : Bool) (a1_0 : Int) (a1_1 : Int) (a1_2 : ByteArray) (a1_3 : Int) (a1_4 : ByteArray) : Option ((List (S41)) × Int × Bool) := (dK.f k s0_0 s0_1 s0_2).bind fun bt512 => ((aX.f F k s0_0 bt512.2.1 bt512.2.2).bind fun bt517 => (if bt512.1.length < 5864062014805 then ((au.f k a1_0 a1_1 a1_2 a1_3 a1_4 (bt512.1 ++ [bt517.1])).bind fun t525 => (some (t525, bt517.2.1, bt517.2.2))) else (none)))
theorem bf.mono {F F' : Fam} (HLE : ji F F') : ∀ a0 a1 a2 a3 a4 a5 a6 a7 k, LeO (bf.f F k a0 a1 a2 a3 a4 a5 a6 a7) (bf.f F' (k + 1) a0 a1 a2 a3 a4 a5 a6 a7) := by
 intro a0 a1 a2 a3 a4 a5 a6 a7 k
 unfold bf.f
 have m0 := au.mono
 have m1 := (aX.mono HLE)
 have m2 := dK.mono
 exact yL
def bf.T2 : Bool × List (List Nat × List Nat) := (true, [([], []), ([], []), ([], []), ([2], [2]), ([3], [3]), ([1, 4, 3], [1, 4]), ([0, 5, 5], [0, 5]), ([6, 6, 0, 1, 2, 3, 4, 5, 6], [6])])
def bf.B2 : List Nat := [0, 0, 0, 4, 12, 30, 63, 127]
theorem bf.BL : rtab .any (opsOf Try.f55 2) = bf.T2 := by kernel_rfl
theorem bf.vT : waitsOk bf.T2.2 bf.B2 = true := by kernel_rfl
set_option maxHeartbeats 8000000 in
set_option maxRecDepth 100000 in
theorem bf.calls (F : Fam) (HF : kL F) (k : Nat) (g : Nat) (s0_0 : List (S38)) (s0_1 : Int) (s0_2 : Bool) (a1_0 : Int) (a1_1 : Int) (a1_2 : ByteArray) (a1_3 : Int) (a1_4 : ByteArray) (r1 : List (S41)) (r2 : Int) (r3 : Bool) (w0 w : World) (hI : ai w0 w g s0_0 s0_1 s0_2) (hB : Below w0.heap.size w0 w) (h : bf.f F k s0_0 s0_1 s0_2 a1_0 a1_1 a1_2 a1_3 a1_4 = some (r1, r2, r3)) :
 Calls Try.prog 55 #[.pointer (some ⟨g, 0, none⟩), .agg #[.int .i64 a1_0, .int .i64 a1_1, .string a1_2, .int .i64 a1_3, .string a1_4]] w fun e w' => ∃ v0_ : Value, e = .returned (v0_) ∧ Kd.R k41 41 w' w.heap.size (fun _ => True) v0_ r1 ∧ ai w0 w' g s0_0 r2 r3 ∧ Below w0.heap.size w0 w' ∧ ag w w' g none := by
 have hu41 := Try.underlying41
 have HI0 := Aside0.mk hI
 have HK := Aside0.mk (ag.refl w g none)
 have HL := Aside0.mk hB.size
 clear hI
 have HW0 := Aside0.mk hB.size
 have HB := Aside0.mk hB
 clear hB
 have H := h
 clear h
 unfold bf.f at H
 revert H
 refine yB3 fun t512 t515 t516 A3 H => ?_
 try dsimp only at H
 revert H
 refine yB3 fun t517 t520 t521 A4 H => ?_
 try dsimp only at H
 revert H
 refine dX (fun c5 H => ?_) fun c5 H => ?_
 ·have LMc5 := Aside0.mk c5
  clear c5
  obtain ⟨y522, hy522⟩ : ∃ y_ : List (List (S41)), y_ = (t512 ++ [t517]) := ⟨_, rfl⟩
  replace H : ((au.f k a1_0 a1_1 a1_2 a1_3 a1_4 y522).bind fun t525 => (some (t525, t520, t521))) = some (r1, r2, r3) := by first | (rw [hy522]; with_reducible exact H) | (have H2_ := (Option.bind_some _ _).symm.trans H; rw [hy522]; with_reducible exact H2_) | (have H2_ := (Option.bind_some _ _).symm.trans H; with_reducible exact H2_) | with_reducible exact H | (rw [hy522]; exact H) | exact H
  have Ny522 := Aside0.mk hy522
  clear hy522
  revert H
  refine yB1 fun t525 A6 H => ?_
  simp only [Option.some.injEq, Prod.mk.injEq] at H
  obtain ⟨rfl, rfl, rfl⟩ := H
  go_enter Try.func55, Try.ntmps55
  try go_wp2_with (first | ((with_reducible refine bJ (N := 3) rfl ?_); refine bU ?hg (N := 3) ?hd (cs := #[.int .i64 a1_0, .int .i64 a1_1, .string a1_2, .int .i64 a1_3, .string a1_4]) (t := 41) ?hr ?_; (case hd => rfl); (case hg => rfl); (case hr => first | (go_simp; done) | (go_simp; rfl)); intro gb511 hg w7 hbox hb; refine yA8 (ai.below Z0 hb) (ag.trans Z1 (ag.of_below hb g none) (.inl rfl)) (below_step Z2 hb) (hbox) ((by rw [hg]; exact (by exact aC (w := w) (g := g) (row := none) Z1) : w.heap.size ≤ gb511)) ((Nat.le_trans HW0.out (by rw [hg]; exact (by exact aC (w := w) (g := g) (row := none) Z1) : w.heap.size ≤ gb511) : w0.heap.size ≤ gb511)) ((by rw [hg]; exact Nat.ne_of_lt (ai.lt (show ai w0 _ g s0_0 s0_1 s0_2 from Z0)) : g ≠ gb511)) ((by rw [hg]; exact Nat.ne_of_gt (ai.lt (show ai w0 _ g s0_0 s0_1 s0_2 from Z0)) : gb511 ≠ g)) ?_; clear HI0 HK HB; intro HI0 HK HB BK511 GW511 GE511 NB0_511 NB511_0; clear hb hbox hg) | ((with_reducible refine gC 72 rfl ?_); refine gM 72 9 rfl Try.func72 (dK.calls k g s0_0 s0_1 s0_2 t512 t515 t516 w0 _ Z43 Z52 A3.out) ?_; rintro _ w8 ⟨v513, rfl, ho0, hi, hb, hk⟩; refine ⟨_, rfl, yA5 (ag.blk hk (g' := gb511) (o := .cells #[.int .i64 a1_0, .int .i64 a1_1, .string a1_2, .int .i64 a1_3, .string a1_4] 41 (0, 0)) (by exact BK511.out) NB511_0.out (by simp)) (Kd.BC (Kd.Ji ho0 (g := gb511) (o := .cells #[.int .i64 a1_0, .int .i64 a1_1, .string a1_2, .int .i64 a1_3, .string a1_4] 41 (0, 0)) (by exact BK511.out)) (by exact aC (w := w) (g := g) (row := none) Z29)) (ag.trans Z29 hk (.inl rfl)) (hb) (hi) ?_⟩; clear BK511 HK HB HI0 hb ho0; intro BK511 HO514 HK HB HI0))
  refine yA5 (Kd.ja HO514.out) (lF BK511.out) (ai.drew HI0.out) (iL HK.out) (below_drew1 HB.out) ?_
  clear HO514 BK511 HI0 HK HB
  intro HO514 BK511 HI0 HK HB
  refine jB (n := 8) (S := fun w' => w'.cell? ⟨gb511, 0, none⟩ = some (.int .i64 a1_0) ∧ w'.cell? ⟨gb511, 1, none⟩ = some (.int .i64 a1_1) ∧ w'.cell? ⟨gb511, 2, none⟩ = some (.string a1_2) ∧ w'.cell? ⟨gb511, 3, none⟩ = some (.int .i64 a1_3) ∧ w'.cell? ⟨gb511, 4, none⟩ = some (.string a1_4)) (ds := []) #[false, false, false, false, false, false, false, false] (by kernel_rfl) rfl rfl ⟨(af BK511.out 0).trans rfl, (af BK511.out 1).trans rfl, (af BK511.out 2).trans rfl, (af BK511.out 3).trans rfl, (af BK511.out 4).trans rfl⟩ (fun hHeld => ?_); refine fQ bf.BL bf.vT (fun HT_ HW_ => ?_)
  generalize w8.drew = w9 at HO514 BK511 HI0 HK HB hHeld ⊢
  refine pA 1 11 (bQ 8 2) ?_
  refine pA 2 12 (bQ 8 6) ?_
  refine nH (i := 0) (N := some 10) (v := ?_) (a' := ?_) #[true, true, true, false, false, false, false, false] rfl rfl (jU HT_.out HW_.out (by kernel_rfl)) (fun _ _ _ h => h) (Or.inl ⟨by rfl, ?_⟩) hHeld ?_ ?_
  rotate_left
  ·rintro w' ⟨s0, s1, s2, s3, s4⟩
   go_simp
   with_reducible rfl
  rotate_left
  ·simp only [Act.put, List.setIfInBounds_toArray, List.set_cons_zero, List.set_cons_succ, dE, dM]
   rfl
  refine lJ (i := 3) (N := some 13) (bQ 8 15) rfl rfl (jf HT_.out (by kernel_rfl)) (by decide) (fun K hK => ?_)
  refine jY Try.func74 (by kernel_rfl) rfl #[.pointer (some ⟨g, 0, none⟩)] (by rfl) rfl rfl Z39 ?_
  with_reducible refine (aX.calls F HF k g s0_0 t515 t516 t517 t520 t521 w0 _ ?side1 ?side2 A4.out).mono ?_
  (case side1 => repeat (first | (with_reducible first | exact HI0.out | apply ai.alloc | apply ai.drewN | apply ai.drew | apply ai.oW | apply ai.oV | apply ai.uK (hne := NB0_511.out)) | exact HI0.out))
  (case side2 => repeat (first | (with_reducible first | exact HB.out | apply below_alloc | apply pw_below_drewN | apply below_drew1 | refine dA ?_ (ai.ge HI0.out) | refine dA ?_ GE511.out) | exact HB.out))
  rintro e w10 ⟨v518, rfl, ho0, hi, hb, hk⟩
  refine ⟨_, rfl, ?_⟩
  refine yA6 (ag.blk hk (g' := gb511) (o := .cells #[.int .i64 a1_0, .int .i64 a1_1, .string a1_2, .int .i64 a1_3, .string a1_4] 41 (0, 0)) (by exact BK511.out) NB511_0.out (by simp)) (Kd.eX (Kd.nX (Kd.nY (ai.gK (show ai w0 _ g s0_0 t515 t516 from Z43) (by (with_reducible repeat (first | apply Kd.gX | apply Kd.gW | apply Kd.ja)); exact HO514.out) (by decide)) hk) (Kd.R_base ho0)) (fun _ h_ => h_.1)) (Kd.R_lower (Kd.nz ho0 (g := gb511) (o := .cells #[.int .i64 a1_0, .int .i64 a1_1, .string a1_2, .int .i64 a1_3, .string a1_4] 41 (0, 0)) (by exact BK511.out)) (aC (w := w) (g := g) (row := none) Z29)) (ag.trans Z29 hk (.inl rfl)) (hb) (hi) ?_; clear BK511 HO514 HK HB HI0; intro BK511 HO514 HO519 HK HB HI0
  (try clear hb)
  (try clear hb2)
  (try clear hk)
  (try clear hi)
  (try clear ho0)
  obtain ⟨Ao12, co12, eo12⟩ := Kd.R_slice HO519.out
  (first | subst eo12 | (injection eo12 with f1_ f2_ f3_; have f4_ := f1_.symm; have f5_ := f3_.symm; clear f1_ f2_ f3_; subst f4_; subst f5_))
  refine hK.out _ _ ⟨(af BK511.out 0).trans rfl, (af BK511.out 1).trans rfl, (af BK511.out 2).trans rfl, (af BK511.out 3).trans rfl, (af BK511.out 4).trans rfl⟩ (fun hHeld => ?_)
  clear hK K
  refine jw (a' := ?_) ?_ ?_
  rotate_left
  ·show Act.put _ (some 13) _ = _
   simp only [Act.put, List.setIfInBounds_toArray, List.set_cons_zero, List.set_cons_succ, dE, dM]
   rfl
  refine lJ (i := 4) (N := some 14) (bQ 8 31) rfl rfl (jf HT_.out (by kernel_rfl)) (by decide) (fun K hK => ?_)
  refine HY (w1 := ?_) (v := ?_) (by rfl) rfl ?_ ?_
  rotate_left 2
  ·go_simp
   constructor
   ·rfl
   rfl
  refine hK.out _ _ ⟨(af (mO BK511.out _) 0).trans rfl, (af (mO BK511.out _) 1).trans rfl, (af (mO BK511.out _) 2).trans rfl, (af (mO BK511.out _) 3).trans rfl, (af (mO BK511.out _) 4).trans rfl⟩ (fun hHeld => ?_)
  clear hK K
  refine jw (a' := ?_) ?_ ?_
  rotate_left
  ·show Act.put _ (some 14) _ = _
   simp only [Act.put, List.setIfInBounds_toArray, List.set_cons_zero, List.set_cons_succ, dE, dM]
   rfl
  refine lJ (i := 5) (N := some 15) (bQ 8 63) rfl rfl (jf HT_.out (by kernel_rfl)) (by decide) (fun K hK => ?_)
  refine Kd.uM (Kd.slice 41 k41) w.heap.size (by rfl) (.tmp 11) (.tmp 14) 78 23 (.slice none 0 0) 24 rfl Try.underlying78 info23 rfl (by decide) (by omega) v513 t512 t517 [.slice Ao12 t517.length co12] (fun k_ => k_ ≠ gb511) (fun k_ => some k_ = (.slice Ao12 t517.length co12 : Value).ownBlock) rfl rfl ?aP (fun k_ hk_ => ((Kd.bn (ok' := fun k_ => ((fun k_ => k_ ≠ gb511)) k_ ∧ some k_ ≠ (v513 : Value).ownBlock) (Kd.dV (HO519.out) (Kd.iI HO514.out) (by decide)) (fun k_ hk => ⟨hk.1.2, hk.2⟩))).1 k_ hk_.symm) ?aF ?aO (Below.refl _ _) ?aS ?aL ?_
  (case aP => exact Kd.rF (Kd.bn (Kd.kX rfl (Kd.bn (ok' := fun k_ => ((fun k_ => k_ ≠ gb511)) k_ ∧ some k_ ≠ (v513 : Value).ownBlock) (Kd.dV (HO519.out) (Kd.iI HO514.out) (by decide)) (fun k_ hk => ⟨hk.1.2, hk.2⟩))) (fun _ h_ => h_)))
  (case aF => exact (fun k_ hk => Kd.nM (g := gb511) (o := .cells #[.int .i64 a1_0, .int .i64 a1_1, .string a1_2, .int .i64 a1_3, .string a1_4] 41 (0, 0)) (by exact BK511.out) k_ hk))
  (case aO => exact (by (with_reducible repeat (first | apply Kd.gX | apply Kd.gW | apply Kd.ja)); exact Kd.eX HO514.out (fun k_ hk => ⟨hk.1.2, fun e_ => hk.2 e_⟩)))
  (case aS => exact (by exact aC (w := w) (g := g) (row := none) Z29))
  (case aL => have := LMc5.out; omega)
  intro v523 w11 ho hb hg hat
  rw [← Ny522.out] at ho
  refine yA5 (ai.grown Z43 hg (ai.lQ HI0.out HO514.out (by decide))) (jd (g := gb511) (o := .cells #[.int .i64 a1_0, .int .i64 a1_1, .string a1_2, .int .i64 a1_3, .string a1_4] 41 (0, 0)) (by exact BK511.out) hg (Kd.GM HO514.out BK511.out (by decide))) (eY Z52 HL.out hb) (ag.trans Z29 (ag.iq hg g) (Kd.lV HO514.out)) (ho) ?_
  clear HI0 BK511 HB HK HO514 HO519
  intro HI0 BK511 HB HK HO524
  clear ho hb hg hat
  obtain ⟨Ao13, co13, eo13⟩ := Kd.kW HO524.out
  (first | subst eo13 | (injection eo13 with f1_ f2_ f3_; have f4_ := f1_.symm; have f5_ := f3_.symm; clear f1_ f2_ f3_; subst f4_; subst f5_))
  refine hK.out _ _ ⟨(af BK511.out 0).trans rfl, (af BK511.out 1).trans rfl, (af BK511.out 2).trans rfl, (af BK511.out 3).trans rfl, (af BK511.out 4).trans rfl⟩ (fun hHeld => ?_)
  clear hK K
  refine jw (a' := ?_) ?_ ?_
  rotate_left
  ·show Act.put _ (some 15) _ = _
   simp only [Act.put, List.setIfInBounds_toArray, List.set_cons_zero, List.set_cons_succ, dE, dM]
   rfl
  refine lJ (i := 6) (N := some 16) (bQ 8 127) rfl rfl (jf HT_.out (by kernel_rfl)) (by decide) (fun K hK => ?_)
  refine jY Try.func56 (by kernel_rfl) rfl #[.agg #[.int .i64 a1_0, .int .i64 a1_1, .string a1_2, .int .i64 a1_3, .string a1_4], .slice Ao13 y522.length co13] (by rfl) rfl rfl Z39 ?_
  with_reducible refine (au.calls k a1_0 a1_1 a1_2 a1_3 a1_4 _ _ y522 t525 _ ?side1 ?side2 A6.out).mono ?_
  (case side1 => repeat (first | exact (Kd.jJ HO524.out).2.2 | (with_reducible refine Kd.C_alloc ?_ _) | (with_reducible refine Kd.C_drewN ?_ _) | (with_reducible refine Kd.C_drew ?_)))
  (case side2 => exact (Kd.jJ HO524.out).2.1)
  rintro e w14 ⟨v526, rfl, ho0, hb⟩
  refine ⟨_, rfl, ?_⟩
  refine yA6 (Kd.nZ (by (with_reducible repeat (first | apply Kd.gX | apply Kd.gW | apply Kd.ja)); exact HO524.out) (Kd.R_base ho0) hb) (Kd.R_lower (Kd.nz ho0 (g := gb511) (o := .cells #[.int .i64 a1_0, .int .i64 a1_1, .string a1_2, .int .i64 a1_3, .string a1_4] 41 (0, 0)) (by exact BK511.out)) (aC (w := w) (g := g) (row := none) Z29)) (ai.below Z43 hb) (bV (g := gb511) (o := .cells #[.int .i64 a1_0, .int .i64 a1_1, .string a1_2, .int .i64 a1_3, .string a1_4] 41 (0, 0)) (by exact BK511.out) hb) (ag.trans Z29 (ag.of_below hb g none) (.inl rfl)) (below_step Z52 hb) ?_; clear HO524 HI0 BK511 HK HB; intro HO524 HO527 HI0 BK511 HK HB
  (try clear hb)
  (try clear hb2)
  (try clear hk)
  (try clear hi)
  (try clear ho0)
  refine hK.out _ _ ⟨(af BK511.out 0).trans rfl, (af BK511.out 1).trans rfl, (af BK511.out 2).trans rfl, (af BK511.out 3).trans rfl, (af BK511.out 4).trans rfl⟩ (fun hHeld => ?_)
  clear hK K
  refine jw (a' := ?_) ?_ ?_
  rotate_left
  ·show Act.put _ (some 16) _ = _
   simp only [Act.put, List.setIfInBounds_toArray, List.set_cons_zero, List.set_cons_succ, dE, dM]
   rfl
  refine pA 7 4 (bQ 8 255) ?_
  refine kT (jh HT_.out (by kernel_rfl)) ?_
  try go_wp2
  go_ret
  exact ⟨_, Z4, by (with_reducible repeat (first | apply Kd.R_alloc | apply Kd.R_drewN | apply Kd.R_drew)); exact Kd.bn HO527.out (fun _ hk => trivial), Z43, Z52, Z29⟩
 exact absurd H (by simp)
end Go.Proofs.Ytendgafpkeadhaa.Q
end
section
namespace Go.Proofs.Ytendgafpkeadhaa.Q
open Go.RowKit Go.Proofs.YtendgafpkeadhaaW.PrintWords Go.Proofs.YtendgafpkeadhaaW.PrintLast Go.Proofs.YtendgafpkeadhaaW.PrintMore
attribute [local go_sem] iY iW iV iU max2_int min2_int max_two min_two max_three min_three max_four min_four
set_option linter.unusedVariables false
set_option linter.unusedSimpArgs false
/-! ### dC: function 85 -/
def dC.f (F : Fam) (k : Nat) (s0_0 : List (S38)) (s0_1 : Int) (s0_2 : Bool) : Option ((List (S41)) × Int × Bool) := (gu.f s0_0 s0_1 s0_2).bind fun bt603 => (if bt603.2.2.2.2.1 = true then (if bt603.1 = 2 then ((au.f k 19 0 (⟨#[]⟩ : ByteArray) bt603.2.2.1 (⟨#[]⟩ : ByteArray) ([] : List (List (S41)))).bind fun t611 => (some (t611, wrap64 (bt603.2.2.2.2.2.1 + 1), bt603.2.2.2.2.2.2))) else (if bt603.1 = 3 then ((au.f k 20 0 (⟨#[]⟩ : ByteArray) 0 bt603.2.1 ([] : List (List (S41)))).bind fun t614 => (some (t614, wrap64 (bt603.2.2.2.2.2.1 + 1), bt603.2.2.2.2.2.2))) else ((bu.f s0_0 bt603.2.2.2.2.2.1 bt603.2.2.2.2.2.2 1).bind fun bt617 => ((ax.f s0_0 bt617.2.2.2.2.1 bt617.2.2.2.2.2 (⟨#[46]⟩ : ByteArray)).bind fun bt623 => (if bt623.1 = true then ((bu.f s0_0 bt623.2.1 bt623.2.2 1).bind fun bt626 => ((dU.f F k s0_0 bt626.2.2.2.2.1 bt626.2.2.2.2.2).bind fun bt632 => ((au.f k 23 0 bt617.2.1 0 bt626.2.1 bt632.1).bind fun t637 => (some (t637, bt632.2.1, bt632.2.2))))) else ((au.f k 21 0 bt617.2.1 0 (⟨#[]⟩ : ByteArray) ([] : List (List (S41)))).bind fun t640 => (some (t640, bt623.2.1, bt623.2.2)))))))) else (some (([] : List (S41)), bt603.2.2.2.2.2.1, true)))
theorem dC.mono {F F' : Fam} (HLE : ji F F') : ∀ a0 a1 a2 k, LeO (dC.f F k a0 a1 a2) (dC.f F' (k + 1) a0 a1 a2) := by
 intro a0 a1 a2 k
 unfold dC.f
 have m0 := au.mono
 have m1 := (dU.mono HLE)
 exact yL
set_option maxHeartbeats 8000000 in
set_option maxRecDepth 100000 in
theorem dC.calls (F : Fam) (HF : kL F) (k : Nat) (g : Nat) (s0_0 : List (S38)) (s0_1 : Int) (s0_2 : Bool) (r1 : List (S41)) (r2 : Int) (r3 : Bool) (w0 w : World) (hI : ai w0 w g s0_0 s0_1 s0_2) (hB : Below w0.heap.size w0 w) (h : dC.f F k s0_0 s0_1 s0_2 = some (r1, r2, r3)) :
 Calls Try.prog 85 #[.pointer (some ⟨g, 0, none⟩)] w fun e w' => ∃ v0_ : Value, e = .returned (v0_) ∧ Kd.R k41 41 w' w.heap.size (fun _ => True) v0_ r1 ∧ ai w0 w' g s0_0 r2 r3 ∧ Below w0.heap.size w0 w' ∧ ag w w' g none := by
 have hu38 := Try.underlying38
 have hu41 := Try.underlying41
 have HI0 := Aside0.mk hI
 have HK := Aside0.mk (ag.refl w g none)
 have HL := Aside0.mk hB.size
 clear hI
 have HW0 := Aside0.mk hB.size
 have HB := Aside0.mk hB
 clear hB
 have H := h
 clear h
 unfold dC.f at H
 revert H
 refine yB7 fun t603 t604 t605 t606 t607 t608 t609 A2 H => ?_
 try dsimp only at H
 cases t607
 rotate_left
 ·replace H := yT H
  revert H
  refine aJ (fun c4b0 c4b1 H => ?_) fun c4 c4b0 c4b1 H => ?_
  ·revert H
   refine yB1 fun t611 A5 H => ?_
   simp only [Option.some.injEq, Prod.mk.injEq] at H
   obtain ⟨rfl, rfl, rfl⟩ := H
   go_enter Try.func85, Try.ntmps85
   go_wp2_with (first | ((with_reducible refine gC 70 rfl ?_); refine gM 70 9 rfl Try.func70 (gu.calls g s0_0 s0_1 s0_2 t603 t604 t605 t606 true t608 t609 w0 _ Z0 Z2 A2.out) ?_; rintro _ w6 ⟨rfl, hi, hb, hk⟩; refine ⟨_, rfl, yA3 (ag.trans Z1 hk (.inl rfl)) (hb) (hi) ?_⟩; clear HK HB HI0 hb; intro HK HB HI0) | ((with_reducible refine bJ (N := 3) rfl ?_); refine bU ?hg (N := 3) ?hd (cs := #[.int .i64 0, .string (⟨#[]⟩ : ByteArray), .int .i64 0, .int .i64 0]) (t := 38) ?hr ?_; (case hd => rfl); (case hg => rfl); (case hr => first | (go_simp; done) | (go_simp; rfl)); intro gb610 hg w7 hbox hb; refine yA8 (ai.below Z0 hb) (ag.trans Z1 (ag.of_below hb g none) (.inl rfl)) (below_step Z2 hb) (hbox) ((by rw [hg]; exact (by exact aC (w := w) (g := g) (row := none) Z1) : w.heap.size ≤ gb610)) ((Nat.le_trans HW0.out (by rw [hg]; exact (by exact aC (w := w) (g := g) (row := none) Z1) : w.heap.size ≤ gb610) : w0.heap.size ≤ gb610)) ((by rw [hg]; exact Nat.ne_of_lt (ai.lt (show ai w0 _ g s0_0 t608 t609 from Z0)) : g ≠ gb610)) ((by rw [hg]; exact Nat.ne_of_gt (ai.lt (show ai w0 _ g s0_0 t608 t609 from Z0)) : gb610 ≠ g)) ?_; clear HI0 HK HB; intro HI0 HK HB BK610 GW610 GE610 NB0_610 NB610_0; clear hb hbox hg; have hnb8 := NB610_0.out; have hnc8 := NB0_610.out; have hcz9_0 : w7.cell? ⟨gb610, 0, none⟩ = some (.int .i64 0) := (af BK610.out 0).trans rfl; have hcz9_1 : w7.cell? ⟨gb610, 1, none⟩ = some (.string (⟨#[]⟩ : ByteArray)) := (af BK610.out 1).trans rfl; have hcz9_2 : w7.cell? ⟨gb610, 2, none⟩ = some (.int .i64 0) := (af BK610.out 2).trans rfl; have hcz9_3 : w7.cell? ⟨gb610, 3, none⟩ = some (.int .i64 0) := (af BK610.out 3).trans rfl; have hfz9_0 := ae BK610.out 0; have hfz9_1 := ae BK610.out 1; have hfz9_2 := ae BK610.out 2; have hfz9_3 := ae BK610.out 3; obtain ⟨ASz10_0, cSz10_0, HGz10, hgz10, HSz10_0⟩ := HI0.out; have hcz10_0 := dH HGz10; have hcz10_1 := dG HGz10; have hcz10_2 := dF HGz10; have hfz10_1 := ae HGz10 1; have hfz10_2 := ae HGz10 2; clear HGz10 hgz10) | ((with_reducible refine gC 56 rfl ?_); refine gM 56 31 rfl Try.func56 (au.calls k 19 0 (⟨#[]⟩ : ByteArray) t605 (⟨#[]⟩ : ByteArray) _ _ ([] : List (List (S41))) t611 _ (Kd.pI _ _) (Nat.le_refl _) A5.out) ?_; rintro _ w11 ⟨v612, rfl, ho0, hb⟩; refine ⟨_, rfl, yA5 (Kd.R_lower ho0 (by exact aC (w := w) (g := g) (row := none) Z13)) (ai.below (show ai w0 (((((w7.setCell ⟨gb610, 0, none⟩ (.int .i64 t603)).setCell ⟨gb610, 1, none⟩ (.string t604)).setCell ⟨gb610, 2, none⟩ (.int .i64 t605)).setCell ⟨gb610, 3, none⟩ (.int .i64 t606)).setCell ⟨g, 1, none⟩ (.int .i64 (wrap64 (t608 + 1)))) g s0_0 (wrap64 (t608 + 1)) t609 from Z17) hb) (bV (g := gb610) (o := .cells #[.int .i64 t603, .string t604, .int .i64 t605, .int .i64 t606] 38 (0, 0)) (by refine eF ?_ NB610_0.out _; refine aA (cs := #[.int .i64 t603, .string t604, .int .i64 t605, .int .i64 0]) ?_ 3 _ rfl; refine aA (cs := #[.int .i64 t603, .string t604, .int .i64 0, .int .i64 0]) ?_ 2 _ rfl; refine aA (cs := #[.int .i64 t603, .string (⟨#[]⟩ : ByteArray), .int .i64 0, .int .i64 0]) ?_ 1 _ rfl; refine aA (cs := #[.int .i64 0, .string (⟨#[]⟩ : ByteArray), .int .i64 0, .int .i64 0]) ?_ 0 _ rfl; exact BK610.out) hb) (ag.trans Z13 (ag.of_below hb g none) (.inl rfl)) (below_step Z18 hb) ?_⟩; clear HI0 BK610 HK HB hb ho0; intro HO613 HI0 BK610 HK HB))
   go_ret
   exact ⟨_, Z4, by (with_reducible repeat (first | apply Kd.R_alloc | apply Kd.R_drewN | apply Kd.R_drew)); exact HO613.out, Z17, Z18, Z13⟩
  revert H
  refine aJ (fun c12b0 c12b1 H => ?_) fun c12 c12b0 c12b1 H => ?_
  ·revert H
   refine yB1 fun t614 A13 H => ?_
   simp only [Option.some.injEq, Prod.mk.injEq] at H
   obtain ⟨rfl, rfl, rfl⟩ := H
   go_enter Try.func85, Try.ntmps85
   go_wp2_with (first | ((with_reducible refine gC 70 rfl ?_); refine gM 70 9 rfl Try.func70 (gu.calls g s0_0 s0_1 s0_2 t603 t604 t605 t606 true t608 t609 w0 _ Z0 Z2 A2.out) ?_; rintro _ w14 ⟨rfl, hi, hb, hk⟩; refine ⟨_, rfl, yA3 (ag.trans Z1 hk (.inl rfl)) (hb) (hi) ?_⟩; clear HK HB HI0 hb; intro HK HB HI0) | ((with_reducible refine bJ (N := 3) rfl ?_); refine bU ?hg (N := 3) ?hd (cs := #[.int .i64 0, .string (⟨#[]⟩ : ByteArray), .int .i64 0, .int .i64 0]) (t := 38) ?hr ?_; (case hd => rfl); (case hg => rfl); (case hr => first | (go_simp; done) | (go_simp; rfl)); intro gb610 hg w15 hbox hb; refine yA8 (ai.below Z0 hb) (ag.trans Z1 (ag.of_below hb g none) (.inl rfl)) (below_step Z2 hb) (hbox) ((by rw [hg]; exact (by exact aC (w := w) (g := g) (row := none) Z1) : w.heap.size ≤ gb610)) ((Nat.le_trans HW0.out (by rw [hg]; exact (by exact aC (w := w) (g := g) (row := none) Z1) : w.heap.size ≤ gb610) : w0.heap.size ≤ gb610)) ((by rw [hg]; exact Nat.ne_of_lt (ai.lt (show ai w0 _ g s0_0 t608 t609 from Z0)) : g ≠ gb610)) ((by rw [hg]; exact Nat.ne_of_gt (ai.lt (show ai w0 _ g s0_0 t608 t609 from Z0)) : gb610 ≠ g)) ?_; clear HI0 HK HB; intro HI0 HK HB BK610 GW610 GE610 NB0_610 NB610_0; clear hb hbox hg; have hnb16 := NB610_0.out; have hnc16 := NB0_610.out; have hcz17_0 : w15.cell? ⟨gb610, 0, none⟩ = some (.int .i64 0) := (af BK610.out 0).trans rfl; have hcz17_1 : w15.cell? ⟨gb610, 1, none⟩ = some (.string (⟨#[]⟩ : ByteArray)) := (af BK610.out 1).trans rfl; have hcz17_2 : w15.cell? ⟨gb610, 2, none⟩ = some (.int .i64 0) := (af BK610.out 2).trans rfl; have hcz17_3 : w15.cell? ⟨gb610, 3, none⟩ = some (.int .i64 0) := (af BK610.out 3).trans rfl; have hfz17_0 := ae BK610.out 0; have hfz17_1 := ae BK610.out 1; have hfz17_2 := ae BK610.out 2; have hfz17_3 := ae BK610.out 3; obtain ⟨ASz18_0, cSz18_0, HGz18, hgz18, HSz18_0⟩ := HI0.out; have hcz18_0 := dH HGz18; have hcz18_1 := dG HGz18; have hcz18_2 := dF HGz18; have hfz18_1 := ae HGz18 1; have hfz18_2 := ae HGz18 2; clear HGz18 hgz18) | ((with_reducible refine gC 56 rfl ?_); refine gM 56 44 rfl Try.func56 (au.calls k 20 0 (⟨#[]⟩ : ByteArray) 0 t604 _ _ ([] : List (List (S41))) t614 _ (Kd.pI _ _) (Nat.le_refl _) A13.out) ?_; rintro _ w19 ⟨v615, rfl, ho0, hb⟩; refine ⟨_, rfl, yA5 (Kd.R_lower ho0 (by exact aC (w := w) (g := g) (row := none) Z13)) (ai.below (show ai w0 (((((w15.setCell ⟨gb610, 0, none⟩ (.int .i64 t603)).setCell ⟨gb610, 1, none⟩ (.string t604)).setCell ⟨gb610, 2, none⟩ (.int .i64 t605)).setCell ⟨gb610, 3, none⟩ (.int .i64 t606)).setCell ⟨g, 1, none⟩ (.int .i64 (wrap64 (t608 + 1)))) g s0_0 (wrap64 (t608 + 1)) t609 from Z17) hb) (bV (g := gb610) (o := .cells #[.int .i64 t603, .string t604, .int .i64 t605, .int .i64 t606] 38 (0, 0)) (by refine eF ?_ NB610_0.out _; refine aA (cs := #[.int .i64 t603, .string t604, .int .i64 t605, .int .i64 0]) ?_ 3 _ rfl; refine aA (cs := #[.int .i64 t603, .string t604, .int .i64 0, .int .i64 0]) ?_ 2 _ rfl; refine aA (cs := #[.int .i64 t603, .string (⟨#[]⟩ : ByteArray), .int .i64 0, .int .i64 0]) ?_ 1 _ rfl; refine aA (cs := #[.int .i64 0, .string (⟨#[]⟩ : ByteArray), .int .i64 0, .int .i64 0]) ?_ 0 _ rfl; exact BK610.out) hb) (ag.trans Z13 (ag.of_below hb g none) (.inl rfl)) (below_step Z18 hb) ?_⟩; clear HI0 BK610 HK HB hb ho0; intro HO616 HI0 BK610 HK HB))
   go_ret
   exact ⟨_, Z4, by (with_reducible repeat (first | apply Kd.R_alloc | apply Kd.R_drewN | apply Kd.R_drew)); exact HO616.out, Z17, Z18, Z13⟩
  revert H
  refine yB6 fun t617 t618 t619 t620 t621 t622 A20 H => ?_
  try dsimp only at H
  revert H
  refine yB3 fun t623 t624 t625 A21 H => ?_
  try dsimp only at H
  cases t623
  rotate_left
  ·replace H := yT H
   revert H
   refine yB6 fun t626 t627 t628 t629 t630 t631 A23 H => ?_
   try dsimp only at H
   revert H
   refine yB3 fun t632 t635 t636 A24 H => ?_
   try dsimp only at H
   revert H
   refine yB1 fun t637 A25 H => ?_
   simp only [Option.some.injEq, Prod.mk.injEq] at H
   obtain ⟨rfl, rfl, rfl⟩ := H
   go_enter Try.func85, Try.ntmps85
   go_wp2_with (first | ((with_reducible refine gC 70 rfl ?_); refine gM 70 9 rfl Try.func70 (gu.calls g s0_0 s0_1 s0_2 t603 t604 t605 t606 true t608 t609 w0 _ Z0 Z2 A2.out) ?_; rintro _ w26 ⟨rfl, hi, hb, hk⟩; refine ⟨_, rfl, yA3 (ag.trans Z1 hk (.inl rfl)) (hb) (hi) ?_⟩; clear HK HB HI0 hb; intro HK HB HI0) | ((with_reducible refine bJ (N := 3) rfl ?_); refine bU ?hg (N := 3) ?hd (cs := #[.int .i64 0, .string (⟨#[]⟩ : ByteArray), .int .i64 0, .int .i64 0]) (t := 38) ?hr ?_; (case hd => rfl); (case hg => rfl); (case hr => first | (go_simp; done) | (go_simp; rfl)); intro gb610 hg w27 hbox hb; refine yA8 (ai.below Z0 hb) (ag.trans Z1 (ag.of_below hb g none) (.inl rfl)) (below_step Z2 hb) (hbox) ((by rw [hg]; exact (by exact aC (w := w) (g := g) (row := none) Z1) : w.heap.size ≤ gb610)) ((Nat.le_trans HW0.out (by rw [hg]; exact (by exact aC (w := w) (g := g) (row := none) Z1) : w.heap.size ≤ gb610) : w0.heap.size ≤ gb610)) ((by rw [hg]; exact Nat.ne_of_lt (ai.lt (show ai w0 _ g s0_0 t608 t609 from Z0)) : g ≠ gb610)) ((by rw [hg]; exact Nat.ne_of_gt (ai.lt (show ai w0 _ g s0_0 t608 t609 from Z0)) : gb610 ≠ g)) ?_; clear HI0 HK HB; intro HI0 HK HB BK610 GW610 GE610 NB0_610 NB610_0; clear hb hbox hg; have hnb28 := NB610_0.out; have hnc28 := NB0_610.out; have hcz29_0 : w27.cell? ⟨gb610, 0, none⟩ = some (.int .i64 0) := (af BK610.out 0).trans rfl; have hcz29_1 : w27.cell? ⟨gb610, 1, none⟩ = some (.string (⟨#[]⟩ : ByteArray)) := (af BK610.out 1).trans rfl; have hcz29_2 : w27.cell? ⟨gb610, 2, none⟩ = some (.int .i64 0) := (af BK610.out 2).trans rfl; have hcz29_3 : w27.cell? ⟨gb610, 3, none⟩ = some (.int .i64 0) := (af BK610.out 3).trans rfl; have hfz29_0 := ae BK610.out 0; have hfz29_1 := ae BK610.out 1; have hfz29_2 := ae BK610.out 2; have hfz29_3 := ae BK610.out 3) | ((with_reducible refine gC 52 rfl ?_); refine gM 52 46 rfl Try.func52 (bu.calls g s0_0 t608 t609 1 t617 t618 t619 t620 t621 t622 w0 _ Z17 Z18 A20.out) ?_; rintro _ w30 ⟨rfl, hi, hb, hk⟩; refine ⟨_, rfl, yA4 (ag.blk hk (g' := gb610) (o := .cells #[.int .i64 t603, .string t604, .int .i64 t605, .int .i64 t606] 38 (0, 0)) (by refine aA (cs := #[.int .i64 t603, .string t604, .int .i64 t605, .int .i64 0]) ?_ 3 _ rfl; refine aA (cs := #[.int .i64 t603, .string t604, .int .i64 0, .int .i64 0]) ?_ 2 _ rfl; refine aA (cs := #[.int .i64 t603, .string (⟨#[]⟩ : ByteArray), .int .i64 0, .int .i64 0]) ?_ 1 _ rfl; refine aA (cs := #[.int .i64 0, .string (⟨#[]⟩ : ByteArray), .int .i64 0, .int .i64 0]) ?_ 0 _ rfl; exact BK610.out) NB610_0.out (by simp)) (ag.trans Z13 hk (.inl rfl)) (hb) (hi) ?_⟩; clear BK610 HK HB HI0 hb; intro BK610 HK HB HI0) | ((with_reducible refine gC 53 rfl ?_); refine gM 53 49 rfl Try.func53 (ax.calls g s0_0 t621 t622 (⟨#[46]⟩ : ByteArray) true t624 t625 w0 _ Z17 Z18 A21.out) ?_; rintro _ w31 ⟨rfl, hi, hb, hk⟩; refine ⟨_, rfl, yA4 (ag.blk hk (g' := gb610) (o := .cells #[.int .i64 t603, .string t604, .int .i64 t605, .int .i64 t606] 38 (0, 0)) (by exact BK610.out) NB610_0.out (by simp)) (ag.trans Z13 hk (.inl rfl)) (hb) (hi) ?_⟩; clear BK610 HK HB HI0 hb; intro BK610 HK HB HI0) | ((with_reducible refine gC 52 rfl ?_); refine gM 52 55 rfl Try.func52 (bu.calls g s0_0 t624 t625 1 t626 t627 t628 t629 t630 t631 w0 _ Z17 Z18 A23.out) ?_; rintro _ w32 ⟨rfl, hi, hb, hk⟩; refine ⟨_, rfl, yA4 (ag.blk hk (g' := gb610) (o := .cells #[.int .i64 t603, .string t604, .int .i64 t605, .int .i64 t606] 38 (0, 0)) (by exact BK610.out) NB610_0.out (by simp)) (ag.trans Z13 hk (.inl rfl)) (hb) (hi) ?_⟩; clear BK610 HK HB HI0 hb; intro BK610 HK HB HI0) | ((with_reducible refine gC 72 rfl ?_); refine gM 72 63 rfl Try.func72 (dU.calls F HF k g s0_0 t630 t631 t632 t635 t636 w0 _ Z17 Z18 A24.out) ?_; rintro _ w33 ⟨v633, rfl, ho0, hi, hb, hk⟩; refine ⟨_, rfl, yA5 (ag.blk hk (g' := gb610) (o := .cells #[.int .i64 t603, .string t604, .int .i64 t605, .int .i64 t606] 38 (0, 0)) (by exact BK610.out) NB610_0.out (by simp)) (Kd.BC ho0 (by exact aC (w := w) (g := g) (row := none) Z13)) (ag.trans Z13 hk (.inl rfl)) (hb) (hi) ?_⟩; clear BK610 HK HB HI0 hb ho0; intro BK610 HO634 HK HB HI0; obtain ⟨Ao34, co34, rfl⟩ := Kd.kW HO634.out) | ((with_reducible refine gC 56 rfl ?_); refine gM 56 64 rfl Try.func56 (au.calls k 23 0 t618 0 t627 _ _ t632 t637 _ (by repeat (first | exact (Kd.jJ HO634.out).2.2 | (with_reducible refine Kd.C_alloc ?_ _) | (with_reducible refine Kd.C_drewN ?_ _) | (with_reducible refine Kd.C_drew ?_))) ((Kd.jJ HO634.out).2.1) A25.out) ?_; rintro _ w35 ⟨v638, rfl, ho0, hb⟩; refine ⟨_, rfl, yA6 (Kd.nZ (by (with_reducible repeat (first | apply Kd.gX | apply Kd.gW | apply Kd.ja)); exact HO634.out) (Kd.R_base ho0) hb) (Kd.R_lower ho0 (by exact aC (w := w) (g := g) (row := none) Z13)) (ai.below Z17 hb) (bV (g := gb610) (o := .cells #[.int .i64 t603, .string t604, .int .i64 t605, .int .i64 t606] 38 (0, 0)) (by exact BK610.out) hb) (ag.trans Z13 (ag.of_below hb g none) (.inl rfl)) (below_step Z18 hb) ?_⟩; clear HO634 HI0 BK610 HK HB hb ho0; intro HO634 HO639 HI0 BK610 HK HB))
   go_ret
   exact ⟨_, Z4, by (with_reducible repeat (first | apply Kd.R_alloc | apply Kd.R_drewN | apply Kd.R_drew)); exact HO639.out, Z17, Z18, Z13⟩
  replace H := yF H
  revert H
  refine yB1 fun t640 A36 H => ?_
  simp only [Option.some.injEq, Prod.mk.injEq] at H
  obtain ⟨rfl, rfl, rfl⟩ := H
  go_enter Try.func85, Try.ntmps85
  go_wp2_with (first | ((with_reducible refine gC 70 rfl ?_); refine gM 70 9 rfl Try.func70 (gu.calls g s0_0 s0_1 s0_2 t603 t604 t605 t606 true t608 t609 w0 _ Z0 Z2 A2.out) ?_; rintro _ w37 ⟨rfl, hi, hb, hk⟩; refine ⟨_, rfl, yA3 (ag.trans Z1 hk (.inl rfl)) (hb) (hi) ?_⟩; clear HK HB HI0 hb; intro HK HB HI0) | ((with_reducible refine bJ (N := 3) rfl ?_); refine bU ?hg (N := 3) ?hd (cs := #[.int .i64 0, .string (⟨#[]⟩ : ByteArray), .int .i64 0, .int .i64 0]) (t := 38) ?hr ?_; (case hd => rfl); (case hg => rfl); (case hr => first | (go_simp; done) | (go_simp; rfl)); intro gb610 hg w38 hbox hb; refine yA8 (ai.below Z0 hb) (ag.trans Z1 (ag.of_below hb g none) (.inl rfl)) (below_step Z2 hb) (hbox) ((by rw [hg]; exact (by exact aC (w := w) (g := g) (row := none) Z1) : w.heap.size ≤ gb610)) ((Nat.le_trans HW0.out (by rw [hg]; exact (by exact aC (w := w) (g := g) (row := none) Z1) : w.heap.size ≤ gb610) : w0.heap.size ≤ gb610)) ((by rw [hg]; exact Nat.ne_of_lt (ai.lt (show ai w0 _ g s0_0 t608 t609 from Z0)) : g ≠ gb610)) ((by rw [hg]; exact Nat.ne_of_gt (ai.lt (show ai w0 _ g s0_0 t608 t609 from Z0)) : gb610 ≠ g)) ?_; clear HI0 HK HB; intro HI0 HK HB BK610 GW610 GE610 NB0_610 NB610_0; clear hb hbox hg; have hnb39 := NB610_0.out; have hnc39 := NB0_610.out; have hcz40_0 : w38.cell? ⟨gb610, 0, none⟩ = some (.int .i64 0) := (af BK610.out 0).trans rfl; have hcz40_1 : w38.cell? ⟨gb610, 1, none⟩ = some (.string (⟨#[]⟩ : ByteArray)) := (af BK610.out 1).trans rfl; have hcz40_2 : w38.cell? ⟨gb610, 2, none⟩ = some (.int .i64 0) := (af BK610.out 2).trans rfl; have hcz40_3 : w38.cell? ⟨gb610, 3, none⟩ = some (.int .i64 0) := (af BK610.out 3).trans rfl; have hfz40_0 := ae BK610.out 0; have hfz40_1 := ae BK610.out 1; have hfz40_2 := ae BK610.out 2; have hfz40_3 := ae BK610.out 3) | ((with_reducible refine gC 52 rfl ?_); refine gM 52 46 rfl Try.func52 (bu.calls g s0_0 t608 t609 1 t617 t618 t619 t620 t621 t622 w0 _ Z17 Z18 A20.out) ?_; rintro _ w41 ⟨rfl, hi, hb, hk⟩; refine ⟨_, rfl, yA4 (ag.blk hk (g' := gb610) (o := .cells #[.int .i64 t603, .string t604, .int .i64 t605, .int .i64 t606] 38 (0, 0)) (by refine aA (cs := #[.int .i64 t603, .string t604, .int .i64 t605, .int .i64 0]) ?_ 3 _ rfl; refine aA (cs := #[.int .i64 t603, .string t604, .int .i64 0, .int .i64 0]) ?_ 2 _ rfl; refine aA (cs := #[.int .i64 t603, .string (⟨#[]⟩ : ByteArray), .int .i64 0, .int .i64 0]) ?_ 1 _ rfl; refine aA (cs := #[.int .i64 0, .string (⟨#[]⟩ : ByteArray), .int .i64 0, .int .i64 0]) ?_ 0 _ rfl; exact BK610.out) NB610_0.out (by simp)) (ag.trans Z13 hk (.inl rfl)) (hb) (hi) ?_⟩; clear BK610 HK HB HI0 hb; intro BK610 HK HB HI0) | ((with_reducible refine gC 53 rfl ?_); refine gM 53 49 rfl Try.func53 (ax.calls g s0_0 t621 t622 (⟨#[46]⟩ : ByteArray) false t624 t625 w0 _ Z17 Z18 A21.out) ?_; rintro _ w42 ⟨rfl, hi, hb, hk⟩; refine ⟨_, rfl, yA4 (ag.blk hk (g' := gb610) (o := .cells #[.int .i64 t603, .string t604, .int .i64 t605, .int .i64 t606] 38 (0, 0)) (by exact BK610.out) NB610_0.out (by simp)) (ag.trans Z13 hk (.inl rfl)) (hb) (hi) ?_⟩; clear BK610 HK HB HI0 hb; intro BK610 HK HB HI0) | ((with_reducible refine gC 56 rfl ?_); refine gM 56 53 rfl Try.func56 (au.calls k 21 0 t618 0 (⟨#[]⟩ : ByteArray) _ _ ([] : List (List (S41))) t640 _ (Kd.pI _ _) (Nat.le_refl _) A36.out) ?_; rintro _ w43 ⟨v641, rfl, ho0, hb⟩; refine ⟨_, rfl, yA5 (Kd.R_lower ho0 (by exact aC (w := w) (g := g) (row := none) Z13)) (ai.below Z17 hb) (bV (g := gb610) (o := .cells #[.int .i64 t603, .string t604, .int .i64 t605, .int .i64 t606] 38 (0, 0)) (by exact BK610.out) hb) (ag.trans Z13 (ag.of_below hb g none) (.inl rfl)) (below_step Z18 hb) ?_⟩; clear HI0 BK610 HK HB hb ho0; intro HO642 HI0 BK610 HK HB))
  go_ret
  exact ⟨_, Z4, by (with_reducible repeat (first | apply Kd.R_alloc | apply Kd.R_drewN | apply Kd.R_drew)); exact HO642.out, Z17, Z18, Z13⟩
 replace H := yF H
 simp only [Option.some.injEq, Prod.mk.injEq] at H
 obtain ⟨rfl, rfl, rfl⟩ := H
 go_enter Try.func85, Try.ntmps85
 go_wp2_with (first | ((with_reducible refine gC 70 rfl ?_); refine gM 70 9 rfl Try.func70 (gu.calls g s0_0 s0_1 s0_2 t603 t604 t605 t606 false t608 t609 w0 _ Z0 Z2 A2.out) ?_; rintro _ w44 ⟨rfl, hi, hb, hk⟩; refine ⟨_, rfl, yA3 (ag.trans Z1 hk (.inl rfl)) (hb) (hi) ?_⟩; clear HK HB HI0 hb; intro HK HB HI0) | ((with_reducible refine bJ (N := 3) rfl ?_); refine bU ?hg (N := 3) ?hd (cs := #[.int .i64 0, .string (⟨#[]⟩ : ByteArray), .int .i64 0, .int .i64 0]) (t := 38) ?hr ?_; (case hd => rfl); (case hg => rfl); (case hr => first | (go_simp; done) | (go_simp; rfl)); intro gb610 hg w45 hbox hb; refine yA8 (ai.below Z0 hb) (ag.trans Z1 (ag.of_below hb g none) (.inl rfl)) (below_step Z2 hb) (hbox) ((by rw [hg]; exact (by exact aC (w := w) (g := g) (row := none) Z1) : w.heap.size ≤ gb610)) ((Nat.le_trans HW0.out (by rw [hg]; exact (by exact aC (w := w) (g := g) (row := none) Z1) : w.heap.size ≤ gb610) : w0.heap.size ≤ gb610)) ((by rw [hg]; exact Nat.ne_of_lt (ai.lt (show ai w0 _ g s0_0 t608 t609 from Z0)) : g ≠ gb610)) ((by rw [hg]; exact Nat.ne_of_gt (ai.lt (show ai w0 _ g s0_0 t608 t609 from Z0)) : gb610 ≠ g)) ?_; clear HI0 HK HB; intro HI0 HK HB BK610 GW610 GE610 NB0_610 NB610_0; clear hb hbox hg; have hnb46 := NB610_0.out; have hnc46 := NB0_610.out; have hcz47_0 : w45.cell? ⟨gb610, 0, none⟩ = some (.int .i64 0) := (af BK610.out 0).trans rfl; have hcz47_1 : w45.cell? ⟨gb610, 1, none⟩ = some (.string (⟨#[]⟩ : ByteArray)) := (af BK610.out 1).trans rfl; have hcz47_2 : w45.cell? ⟨gb610, 2, none⟩ = some (.int .i64 0) := (af BK610.out 2).trans rfl; have hcz47_3 : w45.cell? ⟨gb610, 3, none⟩ = some (.int .i64 0) := (af BK610.out 3).trans rfl; have hfz47_0 := ae BK610.out 0; have hfz47_1 := ae BK610.out 1; have hfz47_2 := ae BK610.out 2; have hfz47_3 := ae BK610.out 3; obtain ⟨ASz48_0, cSz48_0, HGz48, hgz48, HSz48_0⟩ := HI0.out; have hcz48_0 := dH HGz48; have hcz48_1 := dG HGz48; have hcz48_2 := dF HGz48; have hfz48_1 := ae HGz48 1; have hfz48_2 := ae HGz48 2; clear HGz48 hgz48))
 go_ret
 exact ⟨_, Z4, Z24, Z17, Z18, Z13⟩
end Go.Proofs.Ytendgafpkeadhaa.Q
end
