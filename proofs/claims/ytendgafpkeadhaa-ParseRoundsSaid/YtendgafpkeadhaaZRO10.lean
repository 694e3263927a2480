/- Walks over functions of the program, words for them, and what the functions come to; of each text only what this claim uses; no condition. -/
import Derived.Test.YtendgafpkeadhaaZRO0
import Derived.Test.YtendgafpkeadhaaZRO1
import Derived.Test.YtendgafpkeadhaaZRO3
import Derived.Test.YtendgafpkeadhaaZRO4
import Derived.Test.YtendgafpkeadhaaZRO5
import Derived.Test.YtendgafpkeadhaaZRO9
section
namespace Go.Proofs.Ytendgafpkeadhaa.Q
open Go.RowKit Go.Proofs.YtendgafpkeadhaaW.PrintWords Go.Proofs.YtendgafpkeadhaaW.PrintLast Go.Proofs.YtendgafpkeadhaaW.PrintMore
attribute [local go_sem] iY iW iV iU max2_int min2_int max_two min_two max_three min_three max_four min_four
set_option linter.unusedVariables false
set_option linter.unusedSimpArgs false
/-! ### dh: function 84 -/
def dh.f (F : Fam) (k : Nat) (s0_0 : List (S38)) (s0_1 : Int) (s0_2 : Bool) : Option ((List (S41)) × Int × Bool) := (aZ.f s0_0 s0_1 s0_2).bind fun bt643 => (if bt643.1.toList = ([110, 105, 108] : List UInt8) then ((ax.f s0_0 bt643.2.1 bt643.2.2 bt643.1).bind fun bt646 => ((au.f k 18 0 (⟨#[]⟩ : ByteArray) 0 (⟨#[]⟩ : ByteArray) ([] : List (List (S41)))).bind fun t649 => (some (t649, bt646.2.1, bt646.2.2)))) else (if bt643.1.toList = ([115, 116, 97, 116, 101] : List UInt8) then ((ax.f s0_0 bt643.2.1 bt643.2.2 bt643.1).bind fun bt652 => ((au.f k 29 0 (⟨#[]⟩ : ByteArray) 0 (⟨#[]⟩ : ByteArray) ([] : List (List (S41)))).bind fun t655 => (some (t655, bt652.2.1, bt652.2.2)))) else (if bt643.1.toList = ([123] : List UInt8) then ((ax.f s0_0 bt643.2.1 bt643.2.2 bt643.1).bind fun bt658 => ((aG.f s0_0 bt658.2.1 bt658.2.2 (⟨#[125]⟩ : ByteArray)).bind fun bt661 => ((au.f k 25 0 (⟨#[]⟩ : ByteArray) 0 (⟨#[]⟩ : ByteArray) ([] : List (List (S41)))).bind fun t663 => (some (t663, bt661.1, bt661.2))))) else (if bt643.1.toList = ([102, 110] : List UInt8) then ((ax.f s0_0 bt643.2.1 bt643.2.2 bt643.1).bind fun bt666 => ((bf.f F k s0_0 bt666.2.1 bt666.2.2 24 0 (⟨#[]⟩ : ByteArray) 0 (⟨#[]⟩ : ByteArray)).bind fun bt669 => (some (bt669.1, bt669.2.1, bt669.2.2)))) else (if bt643.1.toList = ([40] : List UInt8) then ((ax.f s0_0 bt643.2.1 bt643.2.2 bt643.1).bind fun bt674 => ((fE.f F k s0_0 bt674.2.1 bt674.2.2).bind fun bt677 => ((aG.f s0_0 bt677.2.1 bt677.2.2 (⟨#[41]⟩ : ByteArray)).bind fun bt682 => (some (bt677.1, bt682.1, bt682.2))))) else ((dC.f F k s0_0 bt643.2.1 bt643.2.2).bind fun bt684 => (some (bt684.1, bt684.2.1, bt684.2.2))))))))
theorem dh.mono {F F' : Fam} (HLE : ji F F') : ∀ a0 a1 a2 k, LeO (dh.f F k a0 a1 a2) (dh.f F' (k + 1) a0 a1 a2) := by
 intro a0 a1 a2 k
 unfold dh.f
 have m0 := au.mono
 have m1 := (bf.mono HLE)
 have m2 := (dC.mono HLE)
 have m3 := (fE.mono HLE)
 exact yL
set_option maxHeartbeats 8000000 in
set_option maxRecDepth 100000 in
theorem dh.calls (F : Fam) (HF : kL F) (k : Nat) (g : Nat) (s0_0 : List (S38)) (s0_1 : Int) (s0_2 : Bool) (r1 : List (S41)) (r2 : Int) (r3 : Bool) (w0 w : World) (hI : ai w0 w g s0_0 s0_1 s0_2) (hB : Below w0.heap.size w0 w) (h : dh.f F k s0_0 s0_1 s0_2 = some (r1, r2, r3)) :
 Calls Try.prog 84 #[.pointer (some ⟨g, 0, none⟩)] w fun e w' => ∃ v0_ : Value, e = .returned (v0_) ∧ Kd.R k41 41 w' w.heap.size (fun _ => True) v0_ r1 ∧ ai w0 w' g s0_0 r2 r3 ∧ Below w0.heap.size w0 w' ∧ ag w w' g none := by
 have hu41 := Try.underlying41
 have HI0 := Aside0.mk hI
 have HK := Aside0.mk (ag.refl w g none)
 have HL := Aside0.mk hB.size
 clear hI
 have HW0 := Aside0.mk hB.size
 have HB := Aside0.mk hB
 clear hB
 have H := h
 clear h
 unfold dh.f at H
 revert H
 refine yB3 fun t643 t644 t645 A2 H => ?_
 try dsimp only at H
 revert H
 refine aJ (fun c3b0 c3b1 H => ?_) fun c3 c3b0 c3b1 H => ?_
 ·revert H
  refine yB3 fun t646 t647 t648 A4 H => ?_
  try dsimp only at H
  revert H
  refine yB1 fun t649 A5 H => ?_
  simp only [Option.some.injEq, Prod.mk.injEq] at H
  obtain ⟨rfl, rfl, rfl⟩ := H
  go_enter Try.func84, Try.ntmps84
  go_wp2_with (first | ((with_reducible refine gC 71 rfl ?_); refine gM 71 6 rfl Try.func71 (aZ.calls g s0_0 s0_1 s0_2 t643 t644 t645 w0 _ Z0 Z2 A2.out) ?_; rintro _ w6 ⟨rfl, hi, hb, hk⟩; refine ⟨_, rfl, yA3 (ag.trans Z1 hk (.inl rfl)) (hb) (hi) ?_⟩; clear HK HB HI0 hb; intro HK HB HI0) | ((with_reducible refine gC 53 rfl ?_); refine gM 53 12 rfl Try.func53 (ax.calls g s0_0 t644 t645 t643 t646 t647 t648 w0 _ Z0 Z2 A4.out) ?_; rintro _ w7 ⟨rfl, hi, hb, hk⟩; refine ⟨_, rfl, yA3 (ag.trans Z1 hk (.inl rfl)) (hb) (hi) ?_⟩; clear HK HB HI0 hb; intro HK HB HI0) | ((with_reducible refine gC 56 rfl ?_); refine gM 56 14 rfl Try.func56 (au.calls k 18 0 (⟨#[]⟩ : ByteArray) 0 (⟨#[]⟩ : ByteArray) _ _ ([] : List (List (S41))) t649 _ (Kd.pI _ _) (Nat.le_refl _) A5.out) ?_; rintro _ w8 ⟨v650, rfl, ho0, hb⟩; refine ⟨_, rfl, yA4 (Kd.R_lower ho0 (by exact aC (w := w) (g := g) (row := none) Z1)) (ai.below Z0 hb) (ag.trans Z1 (ag.of_below hb g none) (.inl rfl)) (below_step Z2 hb) ?_⟩; clear HI0 HK HB hb ho0; intro HO651 HI0 HK HB))
  go_ret
  exact ⟨_, Z4, by (with_reducible repeat (first | apply Kd.R_alloc | apply Kd.R_drewN | apply Kd.R_drew)); exact HO651.out, Z0, Z2, Z1⟩
 revert H
 refine aJ (fun c9b0 c9b1 H => ?_) fun c9 c9b0 c9b1 H => ?_
 ·revert H
  refine yB3 fun t652 t653 t654 A10 H => ?_
  try dsimp only at H
  revert H
  refine yB1 fun t655 A11 H => ?_
  simp only [Option.some.injEq, Prod.mk.injEq] at H
  obtain ⟨rfl, rfl, rfl⟩ := H
  go_enter Try.func84, Try.ntmps84
  go_wp2_with (first | ((with_reducible refine gC 71 rfl ?_); refine gM 71 6 rfl Try.func71 (aZ.calls g s0_0 s0_1 s0_2 t643 t644 t645 w0 _ Z0 Z2 A2.out) ?_; rintro _ w12 ⟨rfl, hi, hb, hk⟩; refine ⟨_, rfl, yA3 (ag.trans Z1 hk (.inl rfl)) (hb) (hi) ?_⟩; clear HK HB HI0 hb; intro HK HB HI0) | ((with_reducible refine gC 53 rfl ?_); refine gM 53 19 rfl Try.func53 (ax.calls g s0_0 t644 t645 t643 t652 t653 t654 w0 _ Z0 Z2 A10.out) ?_; rintro _ w13 ⟨rfl, hi, hb, hk⟩; refine ⟨_, rfl, yA3 (ag.trans Z1 hk (.inl rfl)) (hb) (hi) ?_⟩; clear HK HB HI0 hb; intro HK HB HI0) | ((with_reducible refine gC 56 rfl ?_); refine gM 56 21 rfl Try.func56 (au.calls k 29 0 (⟨#[]⟩ : ByteArray) 0 (⟨#[]⟩ : ByteArray) _ _ ([] : List (List (S41))) t655 _ (Kd.pI _ _) (Nat.le_refl _) A11.out) ?_; rintro _ w14 ⟨v656, rfl, ho0, hb⟩; refine ⟨_, rfl, yA4 (Kd.R_lower ho0 (by exact aC (w := w) (g := g) (row := none) Z1)) (ai.below Z0 hb) (ag.trans Z1 (ag.of_below hb g none) (.inl rfl)) (below_step Z2 hb) ?_⟩; clear HI0 HK HB hb ho0; intro HO657 HI0 HK HB))
  go_ret
  exact ⟨_, Z4, by (with_reducible repeat (first | apply Kd.R_alloc | apply Kd.R_drewN | apply Kd.R_drew)); exact HO657.out, Z0, Z2, Z1⟩
 revert H
 refine aJ (fun c15b0 c15b1 H => ?_) fun c15 c15b0 c15b1 H => ?_
 ·revert H
  refine yB3 fun t658 t659 t660 A16 H => ?_
  try dsimp only at H
  revert H
  refine yB2 fun t661 t662 A17 H => ?_
  try dsimp only at H
  revert H
  refine yB1 fun t663 A18 H => ?_
  simp only [Option.some.injEq, Prod.mk.injEq] at H
  obtain ⟨rfl, rfl, rfl⟩ := H
  go_enter Try.func84, Try.ntmps84
  go_wp2_with (first | ((with_reducible refine gC 71 rfl ?_); refine gM 71 6 rfl Try.func71 (aZ.calls g s0_0 s0_1 s0_2 t643 t644 t645 w0 _ Z0 Z2 A2.out) ?_; rintro _ w19 ⟨rfl, hi, hb, hk⟩; refine ⟨_, rfl, yA3 (ag.trans Z1 hk (.inl rfl)) (hb) (hi) ?_⟩; clear HK HB HI0 hb; intro HK HB HI0) | ((with_reducible refine gC 53 rfl ?_); refine gM 53 26 rfl Try.func53 (ax.calls g s0_0 t644 t645 t643 t658 t659 t660 w0 _ Z0 Z2 A16.out) ?_; rintro _ w20 ⟨rfl, hi, hb, hk⟩; refine ⟨_, rfl, yA3 (ag.trans Z1 hk (.inl rfl)) (hb) (hi) ?_⟩; clear HK HB HI0 hb; intro HK HB HI0) | ((with_reducible refine gC 51 rfl ?_); refine gM 51 28 rfl Try.func51 (aG.calls g s0_0 t659 t660 (⟨#[125]⟩ : ByteArray) t661 t662 w0 _ Z0 Z2 A17.out) ?_; rintro _ w21 ⟨rfl, hi, hb, hk⟩; refine ⟨_, rfl, yA3 (ag.trans Z1 hk (.inl rfl)) (hb) (hi) ?_⟩; clear HK HB HI0 hb; intro HK HB HI0) | ((with_reducible refine gC 56 rfl ?_); refine gM 56 30 rfl Try.func56 (au.calls k 25 0 (⟨#[]⟩ : ByteArray) 0 (⟨#[]⟩ : ByteArray) _ _ ([] : List (List (S41))) t663 _ (Kd.pI _ _) (Nat.le_refl _) A18.out) ?_; rintro _ w22 ⟨v664, rfl, ho0, hb⟩; refine ⟨_, rfl, yA4 (Kd.R_lower ho0 (by exact aC (w := w) (g := g) (row := none) Z1)) (ai.below Z0 hb) (ag.trans Z1 (ag.of_below hb g none) (.inl rfl)) (below_step Z2 hb) ?_⟩; clear HI0 HK HB hb ho0; intro HO665 HI0 HK HB))
  go_ret
  exact ⟨_, Z4, by (with_reducible repeat (first | apply Kd.R_alloc | apply Kd.R_drewN | apply Kd.R_drew)); exact HO665.out, Z0, Z2, Z1⟩
 revert H
 refine aJ (fun c23b0 c23b1 H => ?_) fun c23 c23b0 c23b1 H => ?_
 ·revert H
  refine yB3 fun t666 t667 t668 A24 H => ?_
  try dsimp only at H
  revert H
  refine yB3 fun t669 t672 t673 A25 H => ?_
  try dsimp only at H
  simp only [Option.some.injEq, Prod.mk.injEq] at H
  obtain ⟨rfl, rfl, rfl⟩ := H
  go_enter Try.func84, Try.ntmps84
  go_wp2_with (first | ((with_reducible refine gC 71 rfl ?_); refine gM 71 6 rfl Try.func71 (aZ.calls g s0_0 s0_1 s0_2 t643 t644 t645 w0 _ Z0 Z2 A2.out) ?_; rintro _ w26 ⟨rfl, hi, hb, hk⟩; refine ⟨_, rfl, yA3 (ag.trans Z1 hk (.inl rfl)) (hb) (hi) ?_⟩; clear HK HB HI0 hb; intro HK HB HI0) | ((with_reducible refine gC 53 rfl ?_); refine gM 53 35 rfl Try.func53 (ax.calls g s0_0 t644 t645 t643 t666 t667 t668 w0 _ Z0 Z2 A24.out) ?_; rintro _ w27 ⟨rfl, hi, hb, hk⟩; refine ⟨_, rfl, yA3 (ag.trans Z1 hk (.inl rfl)) (hb) (hi) ?_⟩; clear HK HB HI0 hb; intro HK HB HI0) | ((with_reducible refine gC 55 rfl ?_); refine gM 55 38 rfl Try.func55 (bf.calls F HF k g s0_0 t667 t668 24 0 (⟨#[]⟩ : ByteArray) 0 (⟨#[]⟩ : ByteArray) t669 t672 t673 w0 _ Z0 Z2 A25.out) ?_; rintro _ w28 ⟨v670, rfl, ho0, hi, hb, hk⟩; refine ⟨_, rfl, yA4 (Kd.R_lower ho0 (by exact aC (w := w) (g := g) (row := none) Z1)) (ag.trans Z1 hk (.inl rfl)) (hb) (hi) ?_⟩; clear HK HB HI0 hb ho0; intro HO671 HK HB HI0))
  go_ret
  exact ⟨_, Z4, by (with_reducible repeat (first | apply Kd.R_alloc | apply Kd.R_drewN | apply Kd.R_drew)); exact HO671.out, Z0, Z2, Z1⟩
 revert H
 refine aJ (fun c29b0 c29b1 H => ?_) fun c29 c29b0 c29b1 H => ?_
 ·revert H
  refine yB3 fun t674 t675 t676 A30 H => ?_
  try dsimp only at H
  revert H
  refine yB3 fun t677 t680 t681 A31 H => ?_
  try dsimp only at H
  revert H
  refine yB2 fun t682 t683 A32 H => ?_
  try dsimp only at H
  simp only [Option.some.injEq, Prod.mk.injEq] at H
  obtain ⟨rfl, rfl, rfl⟩ := H
  go_enter Try.func84, Try.ntmps84
  go_wp2_with (first | ((with_reducible refine gC 71 rfl ?_); refine gM 71 6 rfl Try.func71 (aZ.calls g s0_0 s0_1 s0_2 t643 t644 t645 w0 _ Z0 Z2 A2.out) ?_; rintro _ w33 ⟨rfl, hi, hb, hk⟩; refine ⟨_, rfl, yA3 (ag.trans Z1 hk (.inl rfl)) (hb) (hi) ?_⟩; clear HK HB HI0 hb; intro HK HB HI0) | ((with_reducible refine gC 53 rfl ?_); refine gM 53 43 rfl Try.func53 (ax.calls g s0_0 t644 t645 t643 t674 t675 t676 w0 _ Z0 Z2 A30.out) ?_; rintro _ w34 ⟨rfl, hi, hb, hk⟩; refine ⟨_, rfl, yA3 (ag.trans Z1 hk (.inl rfl)) (hb) (hi) ?_⟩; clear HK HB HI0 hb; intro HK HB HI0) | ((with_reducible refine gC 77 rfl ?_); refine gM 77 45 rfl Try.func77 (fE.calls F HF k g s0_0 t675 t676 t677 t680 t681 w0 _ Z0 Z2 A31.out) ?_; rintro _ w35 ⟨v678, rfl, ho0, hi, hb, hk⟩; refine ⟨_, rfl, yA4 (Kd.R_lower ho0 (by exact aC (w := w) (g := g) (row := none) Z1)) (ag.trans Z1 hk (.inl rfl)) (hb) (hi) ?_⟩; clear HK HB HI0 hb ho0; intro HO679 HK HB HI0) | ((with_reducible refine gC 51 rfl ?_); refine gM 51 47 rfl Try.func51 (aG.calls g s0_0 t680 t681 (⟨#[41]⟩ : ByteArray) t682 t683 w0 _ Z0 Z2 A32.out) ?_; rintro _ w36 ⟨rfl, hi, hb, hk⟩; refine ⟨_, rfl, yA4 (Kd.bn (Kd.iF (ai.apart (show ai w0 _ g s0_0 t680 t681 from Z0) (by (with_reducible repeat (first | apply Kd.R_alloc | apply Kd.R_drewN | apply Kd.R_drew)); exact HO679.out) (by decide)) hk (fun _ h => h.2)) (fun _ h => h.1)) (ag.trans Z1 hk (.inl rfl)) (hb) (hi) ?_⟩; clear HO679 HK HB HI0 hb; intro HO679 HK HB HI0))
  go_ret
  exact ⟨_, Z4, by (with_reducible repeat (first | apply Kd.R_alloc | apply Kd.R_drewN | apply Kd.R_drew)); exact HO679.out, Z0, Z2, Z1⟩
 revert H
 refine yB3 fun t684 t687 t688 A37 H => ?_
 try dsimp only at H
 simp only [Option.some.injEq, Prod.mk.injEq] at H
 obtain ⟨rfl, rfl, rfl⟩ := H
 go_enter Try.func84, Try.ntmps84
 go_wp2_with (first | ((with_reducible refine gC 71 rfl ?_); refine gM 71 6 rfl Try.func71 (aZ.calls g s0_0 s0_1 s0_2 t643 t644 t645 w0 _ Z0 Z2 A2.out) ?_; rintro _ w38 ⟨rfl, hi, hb, hk⟩; refine ⟨_, rfl, yA3 (ag.trans Z1 hk (.inl rfl)) (hb) (hi) ?_⟩; clear HK HB HI0 hb; intro HK HB HI0) | ((with_reducible refine gC 85 rfl ?_); refine gM 85 50 rfl Try.func85 (dC.calls F HF k g s0_0 t644 t645 t684 t687 t688 w0 _ Z0 Z2 A37.out) ?_; rintro _ w39 ⟨v685, rfl, ho0, hi, hb, hk⟩; refine ⟨_, rfl, yA4 (Kd.R_lower ho0 (by exact aC (w := w) (g := g) (row := none) Z1)) (ag.trans Z1 hk (.inl rfl)) (hb) (hi) ?_⟩; clear HK HB HI0 hb ho0; intro HO686 HK HB HI0))
 go_ret
 exact ⟨_, Z4, by (with_reducible repeat (first | apply Kd.R_alloc | apply Kd.R_drewN | apply Kd.R_drew)); exact HO686.out, Z0, Z2, Z1⟩
-- BY HAND: function 89 (runtime_errorString_RuntimeError)
end Go.Proofs.Ytendgafpkeadhaa.Q
end
section
namespace Go.Proofs.Ytendgafpkeadhaa.Q
open Go.RowKit Go.Proofs.YtendgafpkeadhaaW.PrintWords Go.Proofs.YtendgafpkeadhaaW.PrintLast Go.Proofs.YtendgafpkeadhaaW.PrintMore
attribute [local go_sem] iY iW iV iU max2_int min2_int max_two min_two max_three min_three max_four min_four
set_option linter.unusedVariables false
set_option linter.unusedSimpArgs false
/-! ### aH: function 82 -/
mutual
def aH.j0 (F : Fam) : Nat → ByteArray → ByteArray → Bool → List (S38) → Int → Bool → Option ((List (S41)) × Int × Bool)
 | 0, _, _, _, _, _, _ => none
 | k + 1, x3, x8, x9, x1000, x1001, x1002 => if x9 = true then ((ax.f x1000 x1001 x1002 x3).bind fun bt692 => ((kM.f F k x1000 bt692.2.1 bt692.2.2).bind fun bt695 => ((au.f k 28 0 (⟨#[]⟩ : ByteArray) 0 x3 (([bt695.1] : List (List (S41))))).bind fun t703 => (some (t703, bt695.2.1, bt695.2.2))))) else (if x8.toList = ([115, 112, 97, 119, 110] : List UInt8) then ((ax.f x1000 x1001 x1002 x3).bind fun bt706 => ((kM.f F k x1000 bt706.2.1 bt706.2.2).bind fun bt709 => ((au.f k 30 0 (⟨#[]⟩ : ByteArray) 0 (⟨#[]⟩ : ByteArray) (([bt709.1] : List (List (S41))))).bind fun t717 => (some (t717, bt709.2.1, bt709.2.2))))) else ((dh.f F k x1000 x1001 x1002).bind fun bt720 => (aH.l0 F k bt720.1 x1000 bt720.2.1 bt720.2.2)))
def aH.l0 (F : Fam) : Nat → List (S41) → List (S38) → Int → Bool → Option ((List (S41)) × Int × Bool)
 | 0, _, _, _, _ => none
 | k + 1, x4, x1000, x1001, x1002 => if x1002 = true then (some (x4, x1001, x1002)) else ((aZ.f x1000 x1001 x1002).bind fun bt725 => (if bt725.1.toList = ([40] : List UInt8) then ((some (([x4] : List (List (S41))) : List (List (S41)))).bind fun y728 => ((dU.f F k x1000 bt725.2.1 bt725.2.2).bind fun bt731 => (if y728.length + bt731.1.length < 5864062014805 then ((au.f k 22 0 (⟨#[]⟩ : ByteArray) 0 (⟨#[]⟩ : ByteArray) (y728 ++ bt731.1)).bind fun t739 => (aH.l0 F k t739 x1000 bt731.2.1 bt731.2.2)) else (none)))) else (if bt725.1.toList = ([91] : List UInt8) then ((ax.f x1000 bt725.2.1 bt725.2.2 (⟨#[91]⟩ : ByteArray)).bind fun bt742 => ((fE.f F k x1000 bt742.2.1 bt742.2.2).bind fun bt745 => ((au.f k 26 0 (⟨#[]⟩ : ByteArray) 0 (⟨#[]⟩ : ByteArray) (([x4, bt745.1] : List (List (S41))))).bind fun t753 => ((aG.f x1000 bt745.2.1 bt745.2.2 (⟨#[93]⟩ : ByteArray)).bind fun bt756 => (aH.l0 F k t753 x1000 bt756.1 bt756.2))))) else (some (x4, bt725.2.1, bt725.2.2)))))
end
def aH.f (F : Fam) (k : Nat) (s0_0 : List (S38)) (s0_1 : Int) (s0_2 : Bool) : Option ((List (S41)) × Int × Bool) := (aZ.f s0_0 s0_1 s0_2).bind fun bt689 => (if bt689.1.toList = ([45] : List UInt8) then (aH.j0 F k bt689.1 bt689.1 (bt689.1.toList == ([45] : List UInt8)) s0_0 bt689.2.1 bt689.2.2) else (if bt689.1.toList = ([110, 111, 116] : List UInt8) then (aH.j0 F k bt689.1 bt689.1 (bt689.1.toList == ([110, 111, 116] : List UInt8)) s0_0 bt689.2.1 bt689.2.2) else (aH.j0 F k bt689.1 bt689.1 (bt689.1.toList == ([108, 101, 110] : List UInt8)) s0_0 bt689.2.1 bt689.2.2)))
theorem aH.mono_l {F F' : Fam} (HLE : ji F F') : ∀ k, (∀ y0 y1 y2 y3 y4 y5, LeO (aH.j0 F k y0 y1 y2 y3 y4 y5) (aH.j0 F' (k + 1) y0 y1 y2 y3 y4 y5)) ∧ (∀ y0 y1 y2 y3, LeO (aH.l0 F k y0 y1 y2 y3) (aH.l0 F' (k + 1) y0 y1 y2 y3))
 | 0 => ⟨fun _ _ _ _ _ _ r h => by simp [aH.j0] at h, fun _ _ _ _ r h => by simp [aH.l0] at h⟩
 | k + 1 => by
  obtain ⟨ih0, ih1⟩ := aH.mono_l HLE k
  refine ⟨?_, ?_⟩
  ·intro y0 y1 y2 y3 y4 y5
   unfold aH.j0
   have m0 := au.mono
   have m1 := (dh.mono HLE)
   have m2 := (dU.mono HLE)
   have m3 := (fE.mono HLE)
   have m4 := (kM.mono HLE)
   exact yL
  intro y0 y1 y2 y3
  unfold aH.l0
  have m0 := au.mono
  have m1 := (dh.mono HLE)
  have m2 := (dU.mono HLE)
  have m3 := (fE.mono HLE)
  have m4 := (kM.mono HLE)
  exact yL
theorem aH.mono {F F' : Fam} (HLE : ji F F') : ∀ a0 a1 a2 k, LeO (aH.f F k a0 a1 a2) (aH.f F' (k + 1) a0 a1 a2) := by
 intro a0 a1 a2 k
 obtain ⟨ih0, ih1⟩ := aH.mono_l HLE k
 unfold aH.f
 have m0 := au.mono
 have m1 := (dh.mono HLE)
 have m2 := (dU.mono HLE)
 have m3 := (fE.mono HLE)
 have m4 := (kM.mono HLE)
 exact yL
set_option maxHeartbeats 8000000 in
set_option maxRecDepth 100000 in
theorem aH.calls (F : Fam) (HF : kL F) (k : Nat) (g : Nat) (s0_0 : List (S38)) (s0_1 : Int) (s0_2 : Bool) (r1 : List (S41)) (r2 : Int) (r3 : Bool) (w0 w : World) (hI : ai w0 w g s0_0 s0_1 s0_2) (hB : Below w0.heap.size w0 w) (h : aH.f F k s0_0 s0_1 s0_2 = some (r1, r2, r3)) :
 Calls Try.prog 82 #[.pointer (some ⟨g, 0, none⟩)] w fun e w' => ∃ v0_ : Value, e = .returned (v0_) ∧ Kd.R k41 41 w' w.heap.size (fun _ => True) v0_ r1 ∧ ai w0 w' g s0_0 r2 r3 ∧ Below w0.heap.size w0 w' ∧ ag w w' g none := by
 have hu41 := Try.underlying41
 have HI0 := Aside0.mk hI
 have HK := Aside0.mk (ag.refl w g none)
 have HL := Aside0.mk hB.size
 clear hI
 have HW0 := Aside0.mk hB.size
 have HB := Aside0.mk hB
 clear hB
 have H := h
 clear h
 unfold aH.f at H
 revert H
 refine yB3 fun t689 t690 t691 A2 H => ?_
 try dsimp only at H
 have HC3 := Aside0.mk H
 clear H
 go_enter Try.func82, Try.ntmps82
 go_upto_if 9 with (first | ((with_reducible refine gC 71 rfl ?_); refine gM 71 7 rfl Try.func71 (aZ.calls g s0_0 s0_1 s0_2 t689 t690 t691 w0 _ Z0 Z2 A2.out) ?_; rintro _ w4 ⟨rfl, hi, hb, hk⟩; refine ⟨_, rfl, yA3 (ag.trans Z1 hk (.inl rfl)) (hb) (hi) ?_⟩; clear HK HB HI0 hb; intro HK HB HI0))
 (try simp only [Act.put, List.setIfInBounds_toArray, List.set_cons_zero, List.set_cons_succ])
 go_cut [9] (fun v9 wc => ∃ (kq : Nat) (x9_2 : Bool), v9 = .bool x9_2 ∧ Aside0 (aH.j0 F kq t689 t689 x9_2 s0_0 t690 t691 = some (r1, r2, r3)) ∧ Aside0 (kq ≤ k) ∧ Aside0 (ai w0 wc g s0_0 t690 t691) ∧ Aside0 (ag w wc g none) ∧ Aside0 (Below w0.heap.size w0 wc))
 case first =>
  have H := HC3.out
  clear HC3
  revert H
  refine aJ (fun c5b0 c5b1 H => ?_) fun c5 c5b0 c5b1 H => ?_
  ·(first | rw [c5b0] | (simp only [dE, dM]; rw [c5b0]) | skip)
   have H' := Aside0.mk H
   clear H
   go_wp2
   go_meet
   case rel => exact ⟨_, ((t689.toList == ([45] : List UInt8))), Z6, H', ⟨Z38⟩, ⟨Z0⟩, ⟨Z1⟩, ⟨Z2⟩⟩
  (first | rw [c5b0] | (simp only [dE, dM]; rw [c5b0]) | skip)
  revert H
  refine aJ (fun c6b0 c6b1 H => ?_) fun c6 c6b0 c6b1 H => ?_
  ·have H' := Aside0.mk H
   clear H
   go_wp2
   go_meet
   case rel => exact ⟨_, ((t689.toList == ([110, 111, 116] : List UInt8))), Z6, H', ⟨Z38⟩, ⟨Z0⟩, ⟨Z1⟩, ⟨Z2⟩⟩
  have H' := Aside0.mk H
  clear H
  go_wp2
  go_meet
  case rel => exact ⟨_, ((t689.toList == ([108, 101, 110] : List UInt8))), Z6, H', ⟨Z38⟩, ⟨Z0⟩, ⟨Z1⟩, ⟨Z2⟩⟩
 case rest =>
  clear HC3
  try clear p2
  try clear c5
  try clear c5b0
  try clear c5b1
  try clear c6
  try clear c6b0
  try clear c6b1
  obtain ⟨kq, x9_2, rfl, HA, HJ2, HI0, HK, HB⟩ := hcut
  cases kq with
  | zero => exact absurd HA.out (by simp [aH.j0])
  | succ kj2 =>
   have H := HA.out
   clear HA
   simp only [aH.j0] at H
   cases x9_2
   rotate_left
   ·replace H := yT H
    revert H
    refine yB3 fun t692 t693 t694 A8 H => ?_
    try dsimp only at H
    revert H
    refine yB3 fun t695 t698 t699 A9 H => ?_
    try dsimp only at H
    obtain ⟨y700, hy700⟩ : ∃ y_ : List (List (S41)), y_ = (([t695] : List (List (S41)))) := ⟨_, rfl⟩
    replace H : ((au.f kj2 28 0 (⟨#[]⟩ : ByteArray) 0 t689 y700).bind fun t703 => (some (t703, t698, t699))) = some (r1, r2, r3) := by first | (rw [hy700]; with_reducible exact H) | (have H2_ := (Option.bind_some _ _).symm.trans H; rw [hy700]; with_reducible exact H2_) | (have H2_ := (Option.bind_some _ _).symm.trans H; with_reducible exact H2_) | with_reducible exact H | (rw [hy700]; exact H) | exact H
    have Ny700 := Aside0.mk hy700
    clear hy700
    revert H
    refine yB1 fun t703 A10 H => ?_
    simp only [Option.some.injEq, Prod.mk.injEq] at H
    obtain ⟨rfl, rfl, rfl⟩ := H
    go_wp2_with (first | ((with_reducible refine gC 53 rfl ?_); refine gM 53 15 rfl Try.func53 (ax.calls g s0_0 t690 t691 t689 t692 t693 t694 w0 _ Z0 Z2 A8.out) ?_; rintro _ w11 ⟨rfl, hi, hb, hk⟩; refine ⟨_, rfl, yA3 (ag.trans Z1 hk (.inl rfl)) (hb) (hi) ?_⟩; clear HK HB HI0 hb; intro HK HB HI0) | ((with_reducible refine gC 82 rfl ?_); refine gM 82 19 rfl Try.func82 (kM.calls F HF kj2 g s0_0 t693 t694 t695 t698 t699 w0 _ Z0 Z2 A9.out) ?_; rintro _ w12 ⟨v696, rfl, ho0, hi, hb, hk⟩; refine ⟨_, rfl, yA4 (Kd.R_lower ho0 (by exact aC (w := w) (g := g) (row := none) Z1)) (ag.trans Z1 hk (.inl rfl)) (hb) (hi) ?_⟩; clear HK HB HI0 hb ho0; intro HO697 HK HB HI0; obtain ⟨Ao13, co13, rfl⟩ := Kd.R_slice HO697.out) | ((with_reducible refine bJ (N := 20) rfl ?_); refine Kd.oh (Kd.slice 41 k41) _ 23 ?hg (N' := 20) ?hd (xs := ([t695] : List (List (S41)))) (inner := [.slice Ao13 t695.length co13]) (ok := (fun k_ => k_ ≠ g)) (okp := (fun k_ => k_ ≠ g)) ?hr ?hp (fun _ hk => hk) ((show ∀ k_, w12.heap.size ≤ k_ → (fun k_ => k_ ≠ g) k_ from fun k_ hk => ai.fresh Z0 k_ hk) _ (Nat.le_refl _)) (Below.refl _ _) (Nat.le_refl _) (by simp) ?_; (case hd => rfl); (case hg => rfl); (case hr => first | (go_simp; done) | (go_simp; rfl)); (case hp => exact (bT.one (show Kd.FK (Kd.slice 41 k41) _ _ t695 [.slice Ao13 t695.length co13] from (Kd.dP (Kd.R_reads' (Kd.bn (ok' := (fun k_ => k_ ≠ g)) (ai.apart HI0.out (HO697.out) (by decide)) (fun k_ hk => hk.2))).2.1 (Kd.R_F (Kd.bn (ok' := (fun k_ => k_ ≠ g)) (ai.apart HI0.out (HO697.out) (by decide)) (fun k_ hk => hk.2))))) (bT.none _ _))); intro v701 w14 ho15 hb hg_ hnew_; clear hg_ hnew_; (first | rw [← Ny700.out] at ho15 | (simp only [Int.reduceToNat] at ho15; rw [← Ny700.out] at ho15)); refine yA4 (Kd.jq ho15 (by exact aC (w := w) (g := g) (row := none) Z1)) (ai.below Z0 hb) (ag.trans Z1 (ag.of_below hb g none) (.inl rfl)) (below_step Z2 hb) ?_; clear HI0 HK HB HO697; intro HO702 HI0 HK HB; clear hb ho15; obtain ⟨Ao16, co16, rfl⟩ := Kd.jo HO702.out) | ((with_reducible refine gC 56 rfl ?_); refine gM 56 21 rfl Try.func56 (au.calls kj2 28 0 (⟨#[]⟩ : ByteArray) 0 t689 _ _ y700 t703 _ (by repeat (first | exact (Kd.eG HO702.out).2.2 | (with_reducible refine Kd.C_alloc ?_ _) | (with_reducible refine Kd.C_drewN ?_ _) | (with_reducible refine Kd.C_drew ?_))) ((Kd.eG HO702.out).2.1) A10.out) ?_; rintro _ w17 ⟨v704, rfl, ho0, hb⟩; refine ⟨_, rfl, yA5 (Kd.iQ (by (with_reducible repeat (first | apply Kd.fG | apply Kd.fF | apply Kd.gQ)); exact HO702.out) (Kd.R_base ho0) hb) (Kd.R_lower ho0 (by exact aC (w := w) (g := g) (row := none) Z1)) (ai.below Z0 hb) (ag.trans Z1 (ag.of_below hb g none) (.inl rfl)) (below_step Z2 hb) ?_⟩; clear HO702 HI0 HK HB hb ho0; intro HO702 HO705 HI0 HK HB))
    go_ret
    exact ⟨_, Z4, by (with_reducible repeat (first | apply Kd.R_alloc | apply Kd.R_drewN | apply Kd.R_drew)); exact HO705.out, Z0, Z2, Z1⟩
   replace H := yF H
   revert H
   refine aJ (fun c18b0 c18b1 H => ?_) fun c18 c18b0 c18b1 H => ?_
   ·revert H
    refine yB3 fun t706 t707 t708 A19 H => ?_
    try dsimp only at H
    revert H
    refine yB3 fun t709 t712 t713 A20 H => ?_
    try dsimp only at H
    obtain ⟨y714, hy714⟩ : ∃ y_ : List (List (S41)), y_ = (([t709] : List (List (S41)))) := ⟨_, rfl⟩
    replace H : ((au.f kj2 30 0 (⟨#[]⟩ : ByteArray) 0 (⟨#[]⟩ : ByteArray) y714).bind fun t717 => (some (t717, t712, t713))) = some (r1, r2, r3) := by first | (rw [hy714]; with_reducible exact H) | (have H2_ := (Option.bind_some _ _).symm.trans H; rw [hy714]; with_reducible exact H2_) | (have H2_ := (Option.bind_some _ _).symm.trans H; with_reducible exact H2_) | with_reducible exact H | (rw [hy714]; exact H) | exact H
    have Ny714 := Aside0.mk hy714
    clear hy714
    revert H
    refine yB1 fun t717 A21 H => ?_
    simp only [Option.some.injEq, Prod.mk.injEq] at H
    obtain ⟨rfl, rfl, rfl⟩ := H
    go_wp2_with (first | ((with_reducible refine gC 53 rfl ?_); refine gM 53 26 rfl Try.func53 (ax.calls g s0_0 t690 t691 t689 t706 t707 t708 w0 _ Z0 Z2 A19.out) ?_; rintro _ w22 ⟨rfl, hi, hb, hk⟩; refine ⟨_, rfl, yA3 (ag.trans Z1 hk (.inl rfl)) (hb) (hi) ?_⟩; clear HK HB HI0 hb; intro HK HB HI0) | ((with_reducible refine gC 82 rfl ?_); refine gM 82 29 rfl Try.func82 (kM.calls F HF kj2 g s0_0 t707 t708 t709 t712 t713 w0 _ Z0 Z2 A20.out) ?_; rintro _ w23 ⟨v710, rfl, ho0, hi, hb, hk⟩; refine ⟨_, rfl, yA4 (Kd.R_lower ho0 (by exact aC (w := w) (g := g) (row := none) Z1)) (ag.trans Z1 hk (.inl rfl)) (hb) (hi) ?_⟩; clear HK HB HI0 hb ho0; intro HO711 HK HB HI0; obtain ⟨Ao24, co24, rfl⟩ := Kd.R_slice HO711.out) | ((with_reducible refine bJ (N := 30) rfl ?_); refine Kd.oh (Kd.slice 41 k41) _ 23 ?hg (N' := 30) ?hd (xs := ([t709] : List (List (S41)))) (inner := [.slice Ao24 t709.length co24]) (ok := (fun k_ => k_ ≠ g)) (okp := (fun k_ => k_ ≠ g)) ?hr ?hp (fun _ hk => hk) ((show ∀ k_, w23.heap.size ≤ k_ → (fun k_ => k_ ≠ g) k_ from fun k_ hk => ai.fresh Z0 k_ hk) _ (Nat.le_refl _)) (Below.refl _ _) (Nat.le_refl _) (by simp) ?_; (case hd => rfl); (case hg => rfl); (case hr => first | (go_simp; done) | (go_simp; rfl)); (case hp => exact (bT.one (show Kd.FK (Kd.slice 41 k41) _ _ t709 [.slice Ao24 t709.length co24] from (Kd.dP (Kd.R_reads' (Kd.bn (ok' := (fun k_ => k_ ≠ g)) (ai.apart HI0.out (HO711.out) (by decide)) (fun k_ hk => hk.2))).2.1 (Kd.R_F (Kd.bn (ok' := (fun k_ => k_ ≠ g)) (ai.apart HI0.out (HO711.out) (by decide)) (fun k_ hk => hk.2))))) (bT.none _ _))); intro v715 w25 ho26 hb hg_ hnew_; clear hg_ hnew_; (first | rw [← Ny714.out] at ho26 | (simp only [Int.reduceToNat] at ho26; rw [← Ny714.out] at ho26)); refine yA4 (Kd.jq ho26 (by exact aC (w := w) (g := g) (row := none) Z1)) (ai.below Z0 hb) (ag.trans Z1 (ag.of_below hb g none) (.inl rfl)) (below_step Z2 hb) ?_; clear HI0 HK HB HO711; intro HO716 HI0 HK HB; clear hb ho26; obtain ⟨Ao27, co27, rfl⟩ := Kd.jo HO716.out) | ((with_reducible refine gC 56 rfl ?_); refine gM 56 31 rfl Try.func56 (au.calls kj2 30 0 (⟨#[]⟩ : ByteArray) 0 (⟨#[]⟩ : ByteArray) _ _ y714 t717 _ (by repeat (first | exact (Kd.eG HO716.out).2.2 | (with_reducible refine Kd.C_alloc ?_ _) | (with_reducible refine Kd.C_drewN ?_ _) | (with_reducible refine Kd.C_drew ?_))) ((Kd.eG HO716.out).2.1) A21.out) ?_; rintro _ w28 ⟨v718, rfl, ho0, hb⟩; refine ⟨_, rfl, yA5 (Kd.iQ (by (with_reducible repeat (first | apply Kd.fG | apply Kd.fF | apply Kd.gQ)); exact HO716.out) (Kd.R_base ho0) hb) (Kd.R_lower ho0 (by exact aC (w := w) (g := g) (row := none) Z1)) (ai.below Z0 hb) (ag.trans Z1 (ag.of_below hb g none) (.inl rfl)) (below_step Z2 hb) ?_⟩; clear HO716 HI0 HK HB hb ho0; intro HO716 HO719 HI0 HK HB))
    go_ret
    exact ⟨_, Z4, by (with_reducible repeat (first | apply Kd.R_alloc | apply Kd.R_drewN | apply Kd.R_drew)); exact HO719.out, Z0, Z2, Z1⟩
   revert H
   refine yB3 fun t720 t723 t724 A29 H => ?_
   try dsimp only at H
   have H' := Aside0.mk H
   clear H
   go_wp2_with (first | ((with_reducible refine gC 84 rfl ?_); refine gM 84 33 rfl Try.func84 (dh.calls F HF kj2 g s0_0 t690 t691 t720 t723 t724 w0 _ Z0 Z2 A29.out) ?_; rintro _ w30 ⟨v721, rfl, ho0, hi, hb, hk⟩; refine ⟨_, rfl, yA4 (Kd.R_lower ho0 (by exact aC (w := w) (g := g) (row := none) Z1)) (ag.trans Z1 hk (.inl rfl)) (hb) (hi) ?_⟩; clear HK HB HI0 hb ho0; intro HO722 HK HB HI0))
   (try simp only [Act.put, List.setIfInBounds_toArray, List.set_cons_zero, List.set_cons_succ])
   go_loopg [4] kj2 (fun kq v4 w' => ∃ (x4_2 : List (S41)) (x1001_2 : Int) (x1002_2 : Bool), Aside0 (aH.l0 F kq x4_2 s0_0 x1001_2 x1002_2 = some (r1, r2, r3)) ∧ Aside0 (kq ≤ kj2) ∧ Aside0 (Kd.R k41 41 w' w.heap.size (fun _ => True) v4 x4_2) ∧ Aside0 (ai w0 w' g s0_0 x1001_2 x1002_2) ∧ Aside0 (ag w w' g none) ∧ Aside0 (Below w0.heap.size w0 w'))
   case atStart => exact ⟨(t720), (t723), (t724), H', ⟨Nat.le_refl _⟩, ⟨by (with_reducible repeat (first | apply Kd.R_alloc | apply Kd.R_drewN | apply Kd.R_drew)); exact HO722.out⟩, ⟨Z0⟩, ⟨Z1⟩, ⟨Z2⟩⟩
   case round =>
    clear H'
    try clear c1
    try clear p2
    try clear c5
    try clear c5b0
    try clear c5b1
    try clear c6
    try clear c6b0
    try clear c6b1
    try clear c7
    try clear c8
    try clear c18
    try clear c18b0
    try clear c18b1
    try clear p2
    obtain ⟨x4_2, x1001_2, x1002_2, HA, HK2, HO_4, HI0, HK, HB⟩ := hrel
    cases gk with
    | zero => exact absurd HA.out (by simp [aH.l0])
    | succ k2 =>
     have H := HA.out
     clear HA
     simp only [aH.l0] at H
     cases x1002_2
     rotate_left
     ·replace H := yT H
      simp only [Option.some.injEq, Prod.mk.injEq] at H
      obtain ⟨rfl, rfl, rfl⟩ := H
      obtain ⟨ASz32_0, cSz32_0, HGz32, hgz32, HSz32_0⟩ := HI0.out
      have hcz32_0 := dH HGz32
      have hcz32_1 := dG HGz32
      have hcz32_2 := dF HGz32
      have hfz32_1 := ae HGz32 1
      have hfz32_2 := ae HGz32 2
      clear HGz32 hgz32
      go_wp2
      go_ret
      exact ⟨_, Z4, Z33, Z0, Z2, Z1⟩
     replace H := yF H
     revert H
     refine yB3 fun t725 t726 t727 A33 H => ?_
     try dsimp only at H
     revert H
     refine aJ (fun c34b0 c34b1 H => ?_) fun c34 c34b0 c34b1 H => ?_
     ·obtain ⟨y728, hy728⟩ : ∃ y_ : List (List (S41)), y_ = (([x4_2] : List (List (S41)))) := ⟨_, rfl⟩
      replace H : ((dU.f F k2 s0_0 t726 t727).bind fun bt731 => (if y728.length + bt731.1.length < 5864062014805 then ((au.f k2 22 0 (⟨#[]⟩ : ByteArray) 0 (⟨#[]⟩ : ByteArray) (y728 ++ bt731.1)).bind fun t739 => (aH.l0 F k2 t739 s0_0 bt731.2.1 bt731.2.2)) else (none))) = some (r1, r2, r3) := by first | (rw [hy728]; with_reducible exact H) | (have H2_ := (Option.bind_some _ _).symm.trans H; rw [hy728]; with_reducible exact H2_) | (have H2_ := (Option.bind_some _ _).symm.trans H; with_reducible exact H2_) | with_reducible exact H | (rw [hy728]; exact H) | exact H
      have Ny728 := Aside0.mk hy728
      clear hy728
      revert H
      refine yB3 fun t731 t734 t735 A35 H => ?_
      try dsimp only at H
      revert H
      refine dX (fun c36 H => ?_) fun c36 H => ?_
      ·have LMc36 := Aside0.mk c36
       clear c36
       obtain ⟨y736, hy736⟩ : ∃ y_ : List (List (S41)), y_ = (y728 ++ t731) := ⟨_, rfl⟩
       replace H : ((au.f k2 22 0 (⟨#[]⟩ : ByteArray) 0 (⟨#[]⟩ : ByteArray) y736).bind fun t739 => (aH.l0 F k2 t739 s0_0 t734 t735)) = some (r1, r2, r3) := by first | (rw [hy736]; with_reducible exact H) | (have H2_ := (Option.bind_some _ _).symm.trans H; rw [hy736]; with_reducible exact H2_) | (have H2_ := (Option.bind_some _ _).symm.trans H; with_reducible exact H2_) | with_reducible exact H | (rw [hy736]; exact H) | exact H
       have Ny736 := Aside0.mk hy736
       clear hy736
       revert H
       refine yB1 fun t739 A37 H => ?_
       have H' := Aside0.mk H
       clear H
       obtain ⟨ASz38_0, cSz38_0, HGz38, hgz38, HSz38_0⟩ := HI0.out
       have hcz38_0 := dH HGz38
       have hcz38_1 := dG HGz38
       have hcz38_2 := dF HGz38
       have hfz38_1 := ae HGz38 1
       have hfz38_2 := ae HGz38 2
       clear HGz38 hgz38
       go_wp2_with (first | ((with_reducible refine gC 71 rfl ?_); refine gM 71 40 rfl Try.func71 (aZ.calls g s0_0 x1001_2 false t725 t726 t727 w0 _ Z0 Z2 A33.out) ?_; rintro _ w39 ⟨rfl, hi, hb, hk⟩; refine ⟨_, rfl, yA4 (Kd.bn (Kd.iF (ai.apart (show ai w0 _ g s0_0 x1001_2 false from Z0) Z33 (by decide)) hk (fun _ h => h.2)) (fun _ h => h.1)) (ag.trans Z1 hk (.inl rfl)) (hb) (hi) ?_⟩; clear HO_4 HK HB HI0 hb; intro HO_4 HK HB HI0; obtain ⟨Ao40, co40, rfl⟩ := Kd.R_slice HO_4.out) | ((with_reducible refine bJ (N := 44) rfl ?_); refine Kd.oh (Kd.slice 41 k41) _ 23 ?hg (N' := 44) ?hd (xs := ([x4_2] : List (List (S41)))) (inner := [.slice Ao40 x4_2.length co40]) (ok := (fun k_ => k_ ≠ g)) (okp := (fun k_ => k_ ≠ g)) ?hr ?hp (fun _ hk => hk) ((show ∀ k_, w39.heap.size ≤ k_ → (fun k_ => k_ ≠ g) k_ from fun k_ hk => ai.fresh Z0 k_ hk) _ (Nat.le_refl _)) (Below.refl _ _) (Nat.le_refl _) (by simp) ?_; (case hd => rfl); (case hg => rfl); (case hr => first | (go_simp; done) | (go_simp; rfl)); (case hp => exact (bT.one (show Kd.FK (Kd.slice 41 k41) _ _ x4_2 [.slice Ao40 x4_2.length co40] from (Kd.dP (Kd.R_reads' (Kd.bn (ok' := (fun k_ => k_ ≠ g)) (ai.apart HI0.out (HO_4.out) (by decide)) (fun k_ hk => hk.2))).2.1 (Kd.R_F (Kd.bn (ok' := (fun k_ => k_ ≠ g)) (ai.apart HI0.out (HO_4.out) (by decide)) (fun k_ hk => hk.2))))) (bT.none _ _))); intro v729 w41 ho42 hb hg_ hnew_; clear hg_ hnew_; (first | rw [← Ny728.out] at ho42 | (simp only [Int.reduceToNat] at ho42; rw [← Ny728.out] at ho42)); refine yA4 (Kd.jq ho42 (by exact aC (w := w) (g := g) (row := none) Z1)) (ai.below Z0 hb) (ag.trans Z1 (ag.of_below hb g none) (.inl rfl)) (below_step Z2 hb) ?_; clear HI0 HK HB HO_4; intro HO730 HI0 HK HB; clear hb ho42) | ((with_reducible refine gC 72 rfl ?_); refine gM 72 50 rfl Try.func72 (dU.calls F HF k2 g s0_0 t726 t727 t731 t734 t735 w0 _ Z0 Z2 A35.out) ?_; rintro _ w43 ⟨v732, rfl, ho0, hi, hb, hk⟩; refine ⟨_, rfl, yA5 (Kd.fV (Kd.xu (Kd.xx (Kd.fV (ok := fun k_ => k_ ≠ g) (by (with_reducible repeat (first | apply Kd.fG | apply Kd.fF | apply Kd.gQ)); exact HO730.out) (fun k_ hk_ => (⟨hk_, hk_⟩ : _ ∧ k_ ≠ g))) hk) (Kd.Jo (Kd.S_N ho0))) (fun _ h_ => h_.1)) (Kd.jq (Kd.fV (ok' := fun k_ => some k_ ≠ (v729 : Value).ownBlock ∧ k_ ≠ g) (Kd.S_N (Kd.rX ho0)) (fun k_ hk_ => ⟨(Kd.fresh' (Kd.JJ (by (with_reducible repeat (first | apply Kd.fG | apply Kd.fF | apply Kd.gQ)); exact HO730.out)) k_ hk_.2.1), (ai.fresh Z0 k_ hk_.2.1)⟩)) (by exact aC (w := w) (g := g) (row := none) Z1)) (ag.trans Z1 hk (.inl rfl)) (hb) (hi) ?_⟩; clear HO730 HK HB HI0 hb ho0; intro HO730 HO733 HK HB HI0; obtain ⟨Ao45, co45, rfl⟩ := Kd.jo HO733.out) | ((with_reducible refine dB (b := .append) (xs := #[.tmp 46, .tmp 50]) rfl ?_); at_builtin; refine Kd.uO (Kd.slice 41 k41) w.heap.size rfl (.tmp 46) (.tmp 50) 78 23 (.slice none 0 0) 24 rfl Try.underlying78 info23 rfl (by decide) (by omega) v729 y728 t731 _ _ _ (fun k_ => k_ ≠ g) (fun k_ => ((fun k_ => k_ ≠ g)) k_ ∧ some k_ ≠ (v729 : Value).ownBlock) rfl rfl ?aO ?aR (fun _ hk => hk) ?aF (Below.refl _ _) ?aS ?aL ?_; (case aR => exact (by skip; exact Kd.N_F (Kd.fV (ok' := (fun k_ => ((fun k_ => k_ ≠ g)) k_ ∧ some k_ ≠ (v729 : Value).ownBlock)) (HO733.out) (fun k_ hk => ⟨hk.2, hk.1⟩)))); (case aF => exact (fun k_ hk => ai.fresh Z0 k_ hk)); (case aO => exact (by (with_reducible repeat (first | apply Kd.fG | apply Kd.fF | apply Kd.gQ)); exact Kd.fV HO730.out (fun _ hk => hk.1))); (case aS => exact (by exact aC (w := w) (g := g) (row := none) Z1)); (case aL => have := LMc36.out; omega); intro v737 w44 ho hb hg hat; rw [← Ny736.out] at ho; refine yA5 (ai.grown Z0 hg (ai.rV HI0.out HO730.out (by decide))) (Kd.Fe (ok := (fun k_ => k_ ≠ g)) (by (with_reducible repeat (first | apply Kd.fG | apply Kd.fF | apply Kd.gQ)); exact Kd.fV HO733.out (fun _ hk => ⟨hk.2, hk.1⟩)) hg hat) (eY Z2 HL.out hb) (ag.trans Z1 (ag.iq hg g) (Kd.rZ HO730.out)) (ho) ?_; clear HI0 HO733 HB HK HO730; intro HI0 HO733 HB HK HO738; clear ho hb hg hat; obtain ⟨Ao46, co46, rfl⟩ := Kd.jo HO738.out) | ((with_reducible refine gC 56 rfl ?_); refine gM 56 52 rfl Try.func56 (au.calls k2 22 0 (⟨#[]⟩ : ByteArray) 0 (⟨#[]⟩ : ByteArray) _ _ y736 t739 _ (by repeat (first | exact (Kd.eG HO738.out).2.2 | (with_reducible refine Kd.C_alloc ?_ _) | (with_reducible refine Kd.C_drewN ?_ _) | (with_reducible refine Kd.C_drew ?_))) ((Kd.eG HO738.out).2.1) A37.out) ?_; rintro _ w47 ⟨v740, rfl, ho0, hb⟩; refine ⟨_, rfl, yA6 (Kd.iQ (by (with_reducible repeat (first | apply Kd.fG | apply Kd.fF | apply Kd.gQ)); exact HO733.out) (Kd.R_base ho0) hb) (Kd.iQ (by (with_reducible repeat (first | apply Kd.fG | apply Kd.fF | apply Kd.gQ)); exact HO738.out) (Kd.R_base ho0) hb) (Kd.R_lower ho0 (by exact aC (w := w) (g := g) (row := none) Z1)) (ai.below Z0 hb) (ag.trans Z1 (ag.of_below hb g none) (.inl rfl)) (below_step Z2 hb) ?_⟩; clear HO733 HO738 HI0 HK HB hb ho0; intro HO733 HO738 HO741 HI0 HK HB))
       go_roundg k2
       case measure => have := HJ2.out; have := HK2.out; omega
       case rel => exact ⟨(t739), (t734), (t735), H', ⟨by have := HJ2.out; have := HK2.out; omega⟩, ⟨by (with_reducible repeat (first | apply Kd.R_alloc | apply Kd.R_drewN | apply Kd.R_drew)); exact HO741.out⟩, ⟨Z0⟩, ⟨Z1⟩, ⟨Z2⟩⟩
      exact absurd H (by simp)
     revert H
     refine aJ (fun c48b0 c48b1 H => ?_) fun c48 c48b0 c48b1 H => ?_
     ·revert H
      refine yB3 fun t742 t743 t744 A49 H => ?_
      try dsimp only at H
      revert H
      refine yB3 fun t745 t748 t749 A50 H => ?_
      try dsimp only at H
      obtain ⟨y750, hy750⟩ : ∃ y_ : List (List (S41)), y_ = (([x4_2, t745] : List (List (S41)))) := ⟨_, rfl⟩
      replace H : ((au.f k2 26 0 (⟨#[]⟩ : ByteArray) 0 (⟨#[]⟩ : ByteArray) y750).bind fun t753 => ((aG.f s0_0 t748 t749 (⟨#[93]⟩ : ByteArray)).bind fun bt756 => (aH.l0 F k2 t753 s0_0 bt756.1 bt756.2))) = some (r1, r2, r3) := by first | (rw [hy750]; with_reducible exact H) | (have H2_ := (Option.bind_some _ _).symm.trans H; rw [hy750]; with_reducible exact H2_) | (have H2_ := (Option.bind_some _ _).symm.trans H; with_reducible exact H2_) | with_reducible exact H | (rw [hy750]; exact H) | exact H
      have Ny750 := Aside0.mk hy750
      clear hy750
      revert H
      refine yB1 fun t753 A51 H => ?_
      revert H
      refine yB2 fun t756 t757 A52 H => ?_
      try dsimp only at H
      have H' := Aside0.mk H
      clear H
      obtain ⟨ASz53_0, cSz53_0, HGz53, hgz53, HSz53_0⟩ := HI0.out
      have hcz53_0 := dH HGz53
      have hcz53_1 := dG HGz53
      have hcz53_2 := dF HGz53
      have hfz53_1 := ae HGz53 1
      have hfz53_2 := ae HGz53 2
      clear HGz53 hgz53
      go_wp2_with (first | ((with_reducible refine gC 71 rfl ?_); refine gM 71 40 rfl Try.func71 (aZ.calls g s0_0 x1001_2 false t725 t726 t727 w0 _ Z0 Z2 A33.out) ?_; rintro _ w54 ⟨rfl, hi, hb, hk⟩; refine ⟨_, rfl, yA4 (Kd.bn (Kd.iF (ai.apart (show ai w0 _ g s0_0 x1001_2 false from Z0) Z33 (by decide)) hk (fun _ h => h.2)) (fun _ h => h.1)) (ag.trans Z1 hk (.inl rfl)) (hb) (hi) ?_⟩; clear HO_4 HK HB HI0 hb; intro HO_4 HK HB HI0) | ((with_reducible refine gC 53 rfl ?_); refine gM 53 56 rfl Try.func53 (ax.calls g s0_0 t726 t727 (⟨#[91]⟩ : ByteArray) t742 t743 t744 w0 _ Z0 Z2 A49.out) ?_; rintro _ w55 ⟨rfl, hi, hb, hk⟩; refine ⟨_, rfl, yA4 (Kd.bn (Kd.iF (ai.apart (show ai w0 _ g s0_0 t726 t727 from Z0) Z33 (by decide)) hk (fun _ h => h.2)) (fun _ h => h.1)) (ag.trans Z1 hk (.inl rfl)) (hb) (hi) ?_⟩; clear HO_4 HK HB HI0 hb; intro HO_4 HK HB HI0) | ((with_reducible refine gC 77 rfl ?_); refine gM 77 60 rfl Try.func77 (fE.calls F HF k2 g s0_0 t743 t744 t745 t748 t749 w0 _ Z0 Z2 A50.out) ?_; rintro _ w56 ⟨v746, rfl, ho0, hi, hb, hk⟩; refine ⟨_, rfl, yA5 (Kd.bn (Kd.qU (Kd.qV (ai.apart (show ai w0 _ g s0_0 t743 t744 from Z0) Z33 (by decide)) hk) (Kd.R_base ho0)) (fun _ h_ => h_.1)) (Kd.R_lower (Kd.R_new' ho0 (Kd.R_lt Z33)) (by exact aC (w := w) (g := g) (row := none) Z1)) (ag.trans Z1 hk (.inl rfl)) (hb) (hi) ?_⟩; clear HO_4 HK HB HI0 hb ho0; intro HO_4 HO747 HK HB HI0; obtain ⟨Ao57, co57, rfl⟩ := Kd.R_slice HO_4.out; obtain ⟨Ao58, co58, rfl⟩ := Kd.R_slice HO747.out) | ((with_reducible refine bJ (N := 61) rfl ?_); refine Kd.oh (Kd.slice 41 k41) _ 23 ?hg (N' := 61) ?hd (xs := ([x4_2, t745] : List (List (S41)))) (inner := [.slice Ao57 x4_2.length co57, .slice Ao58 t745.length co58]) (ok := (fun k_ => k_ ≠ g)) (okp := (fun k_ => k_ ≠ g)) ?hr ?hp (fun _ hk => hk) ((show ∀ k_, w56.heap.size ≤ k_ → (fun k_ => k_ ≠ g) k_ from fun k_ hk => ai.fresh Z0 k_ hk) _ (Nat.le_refl _)) (Below.refl _ _) (Nat.le_refl _) (by simp) ?_; (case hd => rfl); (case hg => rfl); (case hr => first | (go_simp; done) | (go_simp; rfl)); (case hp => exact (bT.one (show Kd.FK (Kd.slice 41 k41) _ _ x4_2 [.slice Ao57 x4_2.length co57] from (Kd.dP (Kd.R_reads' (Kd.bn (ok' := (fun k_ => k_ ≠ g)) (ai.apart HI0.out (HO_4.out) (by decide)) (fun k_ hk => hk.2))).2.1 (Kd.R_F (Kd.bn (ok' := (fun k_ => k_ ≠ g)) (ai.apart HI0.out (HO_4.out) (by decide)) (fun k_ hk => hk.2))))) (bT.one (show Kd.FK (Kd.slice 41 k41) _ _ t745 [.slice Ao58 t745.length co58] from (Kd.dP (Kd.R_reads' (Kd.bn (ok' := (fun k_ => k_ ≠ g)) (ai.apart HI0.out (HO747.out) (by decide)) (fun k_ hk => hk.2))).2.1 (Kd.R_F (Kd.bn (ok' := (fun k_ => k_ ≠ g)) (ai.apart HI0.out (HO747.out) (by decide)) (fun k_ hk => hk.2))))) (bT.none _ _)))); intro v751 w59 ho60 hb hg_ hnew_; clear hg_ hnew_; (first | rw [← Ny750.out] at ho60 | (simp only [Int.reduceToNat] at ho60; rw [← Ny750.out] at ho60)); refine yA4 (Kd.jq ho60 (by exact aC (w := w) (g := g) (row := none) Z1)) (ai.below Z0 hb) (ag.trans Z1 (ag.of_below hb g none) (.inl rfl)) (below_step Z2 hb) ?_; clear HI0 HK HB HO747 HO_4; intro HO752 HI0 HK HB; clear hb ho60; obtain ⟨Ao61, co61, rfl⟩ := Kd.jo HO752.out) | ((with_reducible refine gC 56 rfl ?_); refine gM 56 62 rfl Try.func56 (au.calls k2 26 0 (⟨#[]⟩ : ByteArray) 0 (⟨#[]⟩ : ByteArray) _ _ y750 t753 _ (by repeat (first | exact (Kd.eG HO752.out).2.2 | (with_reducible refine Kd.C_alloc ?_ _) | (with_reducible refine Kd.C_drewN ?_ _) | (with_reducible refine Kd.C_drew ?_))) ((Kd.eG HO752.out).2.1) A51.out) ?_; rintro _ w62 ⟨v754, rfl, ho0, hb⟩; refine ⟨_, rfl, yA5 (Kd.iQ (by (with_reducible repeat (first | apply Kd.fG | apply Kd.fF | apply Kd.gQ)); exact HO752.out) (Kd.R_base ho0) hb) (Kd.R_lower ho0 (by exact aC (w := w) (g := g) (row := none) Z1)) (ai.below Z0 hb) (ag.trans Z1 (ag.of_below hb g none) (.inl rfl)) (below_step Z2 hb) ?_⟩; clear HO752 HI0 HK HB hb ho0; intro HO752 HO755 HI0 HK HB) | ((with_reducible refine gC 51 rfl ?_); refine gM 51 64 rfl Try.func51 (aG.calls g s0_0 t748 t749 (⟨#[93]⟩ : ByteArray) t756 t757 w0 _ Z0 Z2 A52.out) ?_; rintro _ w63 ⟨rfl, hi, hb, hk⟩; refine ⟨_, rfl, yA5 (Kd.fV (Kd.xy (Kd.fV (ok := fun k_ => (k_ ≠ g ∧ some k_ ≠ (v754 : Value).ownBlock)) (by (with_reducible repeat (first | apply Kd.fG | apply Kd.fF | apply Kd.gQ)); exact HO752.out) (fun k_ hk_ => (⟨hk_, hk_.1⟩ : _ ∧ k_ ≠ g))) hk (fun _ h => h.2)) (fun _ h => h.1)) (Kd.bn (Kd.iF (ai.apart (show ai w0 _ g s0_0 t748 t749 from Z0) (by (with_reducible repeat (first | apply Kd.R_alloc | apply Kd.R_drewN | apply Kd.R_drew)); exact HO755.out) (by decide)) hk (fun _ h => h.2)) (fun _ h => h.1)) (ag.trans Z1 hk (.inl rfl)) (hb) (hi) ?_⟩; clear HO752 HO755 HK HB HI0 hb; intro HO752 HO755 HK HB HI0))
      go_roundg k2
      case measure => have := HJ2.out; have := HK2.out; omega
      case rel => exact ⟨(t753), (t756), (t757), H', ⟨by have := HJ2.out; have := HK2.out; omega⟩, ⟨by (with_reducible repeat (first | apply Kd.R_alloc | apply Kd.R_drewN | apply Kd.R_drew)); exact HO755.out⟩, ⟨Z0⟩, ⟨Z1⟩, ⟨Z2⟩⟩
     simp only [Option.some.injEq, Prod.mk.injEq] at H
     obtain ⟨rfl, rfl, rfl⟩ := H
     obtain ⟨ASz64_0, cSz64_0, HGz64, hgz64, HSz64_0⟩ := HI0.out
     have hcz64_0 := dH HGz64
     have hcz64_1 := dG HGz64
     have hcz64_2 := dF HGz64
     have hfz64_1 := ae HGz64 1
     have hfz64_2 := ae HGz64 2
     clear HGz64 hgz64
     go_wp2_with (first | ((with_reducible refine gC 71 rfl ?_); refine gM 71 40 rfl Try.func71 (aZ.calls g s0_0 x1001_2 false t725 t726 t727 w0 _ Z0 Z2 A33.out) ?_; rintro _ w65 ⟨rfl, hi, hb, hk⟩; refine ⟨_, rfl, yA4 (Kd.bn (Kd.iF (ai.apart (show ai w0 _ g s0_0 x1001_2 false from Z0) Z33 (by decide)) hk (fun _ h => h.2)) (fun _ h => h.1)) (ag.trans Z1 hk (.inl rfl)) (hb) (hi) ?_⟩; clear HO_4 HK HB HI0 hb; intro HO_4 HK HB HI0))
     go_ret
     exact ⟨_, Z4, Z33, Z0, Z2, Z1⟩
end Go.Proofs.Ytendgafpkeadhaa.Q
end
section
namespace Go.Proofs.Ytendgafpkeadhaa.Q
open Go.RowKit Go.Proofs.YtendgafpkeadhaaW.PrintWords Go.Proofs.YtendgafpkeadhaaW.PrintLast Go.Proofs.YtendgafpkeadhaaW.PrintMore
attribute [local go_sem] max2_int min2_int max_two min_two max_three min_three max_four min_four
set_option linter.unusedVariables false
set_option linter.unusedSimpArgs false
/-! ### bG: function 83 -/
mutual
def bG.j0 : Nat → ByteArray → Bool → Option (Int)
 | 0, _, _ => none
 | k + 1, x3, x8 => if x8 = true then (some 3) else (if x3.toList = ([43] : List UInt8) then (bG.j1 k x3 (x3.toList == ([43] : List UInt8))) else (if x3.toList = ([45] : List UInt8) then (bG.j1 k x3 (x3.toList == ([45] : List UInt8))) else (bG.j1 k x3 (x3.toList == ([46, 46] : List UInt8)))))
def bG.j1 : Nat → ByteArray → Bool → Option (Int)
 | 0, _, _ => none
 | k + 1, x3, x13 => if x13 = true then (some 4) else (if x3.toList = ([42] : List UInt8) then (some 5) else (if x3.toList = ([47] : List UInt8) then (some 5) else (if x3.toList = ([37] : List UInt8) then (some 5) else (some 0))))
end
def bG.f (k : Nat) (a0 : ByteArray) : Option (Int) := if a0.toList = ([111, 114] : List UInt8) then (some 1) else (if a0.toList = ([97, 110, 100] : List UInt8) then (some 2) else (if a0.toList = ([61, 61] : List UInt8) then (bG.j0 k a0 (a0.toList == ([61, 61] : List UInt8))) else (if a0.toList = ([33, 61] : List UInt8) then (bG.j0 k a0 (a0.toList == ([33, 61] : List UInt8))) else (if a0.toList = ([60] : List UInt8) then (bG.j0 k a0 (a0.toList == ([60] : List UInt8))) else (bG.j0 k a0 (a0.toList == ([60, 61] : List UInt8)))))))
theorem bG.mono_l : ∀ k, (∀ y0 y1, LeO (bG.j0 k y0 y1) (bG.j0 (k + 1) y0 y1)) ∧ (∀ y0 y1, LeO (bG.j1 k y0 y1) (bG.j1 (k + 1) y0 y1))
 | 0 => ⟨fun _ _ r h => by simp [bG.j0] at h, fun _ _ r h => by simp [bG.j1] at h⟩
 | k + 1 => by
  obtain ⟨ih0, ih1⟩ := bG.mono_l k
  refine ⟨?_, ?_⟩
  ·intro y0 y1
   unfold bG.j0
   exact yL
  intro y0 y1
  unfold bG.j1
  exact yL
theorem bG.mono : ∀ a0 k, LeO (bG.f k a0) (bG.f (k + 1) a0) := by
 intro a0 k
 obtain ⟨ih0, ih1⟩ := bG.mono_l k
 unfold bG.f
 exact yL
set_option maxHeartbeats 8000000 in
set_option maxRecDepth 100000 in
theorem bG.calls (k : Nat) (a0 : ByteArray) (r : Int) (w : World) (h : bG.f k a0 = some r) :
 Calls Try.prog 83 #[.string a0] w fun e w' => e = .returned (.int .i64 r) ∧ dw w w' := by
 have H := h
 clear h
 unfold bG.f at H
 revert H
 refine aJ (fun c2b0 c2b1 H => ?_) fun c2 c2b0 c2b1 H => ?_
 ·obtain rfl := Option.some.inj H
  go_enter Try.func83, Try.ntmps83
  go_wp2
  go_ret
  exact ⟨Z6, Z8⟩
 revert H
 refine aJ (fun c3b0 c3b1 H => ?_) fun c3 c3b0 c3b1 H => ?_
 ·obtain rfl := Option.some.inj H
  go_enter Try.func83, Try.ntmps83
  go_wp2
  go_ret
  exact ⟨Z6, Z8⟩
 have HC4 := Aside0.mk H
 clear H
 go_enter Try.func83, Try.ntmps83
 go_upto_if 8 with (fail)
 go_cut [8] (fun v8 wc => ∃ (kq : Nat) (x8_3 : Bool), v8 = .bool x8_3 ∧ Aside0 (bG.j0 kq a0 x8_3 = some r) ∧ Aside0 (kq ≤ k) ∧ dw w wc)
 case first =>
  have H := HC4.out
  clear HC4
  revert H
  refine aJ (fun c5b0 c5b1 H => ?_) fun c5 c5b0 c5b1 H => ?_
  ·(first | rw [c5b0] | (simp only [dE, dM]; rw [c5b0]) | skip)
   have H' := Aside0.mk H
   clear H
   go_wp2
   go_meet
   case rel => exact ⟨_, ((a0.toList == ([61, 61] : List UInt8))), Z6, H', ⟨Z38⟩, Z8⟩
  (first | rw [c5b0] | (simp only [dE, dM]; rw [c5b0]) | skip)
  revert H
  refine aJ (fun c6b0 c6b1 H => ?_) fun c6 c6b0 c6b1 H => ?_
  ·have H' := Aside0.mk H
   clear H
   go_wp2
   go_meet
   case rel => exact ⟨_, ((a0.toList == ([33, 61] : List UInt8))), Z6, H', ⟨Z38⟩, Z8⟩
  revert H
  refine aJ (fun c7b0 c7b1 H => ?_) fun c7 c7b0 c7b1 H => ?_
  ·have H' := Aside0.mk H
   clear H
   go_wp2
   go_meet
   case rel => exact ⟨_, ((a0.toList == ([60] : List UInt8))), Z6, H', ⟨Z38⟩, Z8⟩
  have H' := Aside0.mk H
  clear H
  go_wp2
  go_meet
  case rel => exact ⟨_, ((a0.toList == ([60, 61] : List UInt8))), Z6, H', ⟨Z38⟩, Z8⟩
 case rest =>
  clear HC4
  try clear c2
  try clear c2b0
  try clear c2b1
  try clear p2
  try clear c3
  try clear c3b0
  try clear c3b1
  try clear c5
  try clear c5b0
  try clear c5b1
  try clear c6
  try clear c6b0
  try clear c6b1
  try clear c7
  try clear c7b0
  try clear c7b1
  obtain ⟨kq, x8_3, rfl, HA, HJ3, ⟨mc3, rfl⟩⟩ := hcut
  cases kq with
  | zero => exact absurd HA.out (by simp [bG.j0])
  | succ kj3 =>
   have H := HA.out
   clear HA
   simp only [bG.j0] at H
   cases x8_3
   rotate_left
   ·replace H := yT H
    obtain rfl := Option.some.inj H
    go_wp2
    go_ret
    exact ⟨Z6, Z8⟩
   replace H := yF H
   have HC9 := Aside0.mk H
   clear H
   go_upto_if 13 with (fail)
   go_cut [13] (fun v13 wc => ∃ (kq : Nat) (x13_8 : Bool), v13 = .bool x13_8 ∧ Aside0 (bG.j1 kq a0 x13_8 = some r) ∧ Aside0 (kq ≤ kj3) ∧ dw w wc)
   case first =>
    have H := HC9.out
    clear HC9
    revert H
    refine aJ (fun c10b0 c10b1 H => ?_) fun c10 c10b0 c10b1 H => ?_
    ·(first | rw [c10b0] | (simp only [dE, dM]; rw [c10b0]) | skip)
     have H' := Aside0.mk H
     clear H
     go_wp2
     go_meet
     case rel => exact ⟨_, ((a0.toList == ([43] : List UInt8))), Z6, H', ⟨by have := HJ3.out; first | omega | exact Nat.le_refl _⟩, Z8⟩
    (first | rw [c10b0] | (simp only [dE, dM]; rw [c10b0]) | skip)
    revert H
    refine aJ (fun c11b0 c11b1 H => ?_) fun c11 c11b0 c11b1 H => ?_
    ·have H' := Aside0.mk H
     clear H
     go_wp2
     go_meet
     case rel => exact ⟨_, ((a0.toList == ([45] : List UInt8))), Z6, H', ⟨by have := HJ3.out; first | omega | exact Nat.le_refl _⟩, Z8⟩
    have H' := Aside0.mk H
    clear H
    go_wp2
    go_meet
    case rel => exact ⟨_, ((a0.toList == ([46, 46] : List UInt8))), Z6, H', ⟨by have := HJ3.out; first | omega | exact Nat.le_refl _⟩, Z8⟩
   case rest =>
    clear HC9
    try clear c1
    try clear c2
    try clear c2b0
    try clear c2b1
    try clear p2
    try clear c3
    try clear c3b0
    try clear c3b1
    try clear c5
    try clear c5b0
    try clear c5b1
    try clear c6
    try clear c6b0
    try clear c6b1
    try clear c7
    try clear c7b0
    try clear c7b1
    try clear c8
    try clear c10
    try clear c10b0
    try clear c10b1
    try clear c11
    try clear c11b0
    try clear c11b1
    try clear p2
    obtain ⟨kq, x13_8, rfl, HA, HJ8, ⟨mc8, rfl⟩⟩ := hcut
    cases kq with
    | zero => exact absurd HA.out (by simp [bG.j1])
    | succ kj8 =>
     have H := HA.out
     clear HA
     simp only [bG.j1] at H
     cases x13_8
     rotate_left
     ·replace H := yT H
      obtain rfl := Option.some.inj H
      go_wp2
      go_ret
      exact ⟨Z6, Z8⟩
     replace H := yF H
     revert H
     refine aJ (fun c13b0 c13b1 H => ?_) fun c13 c13b0 c13b1 H => ?_
     ·obtain rfl := Option.some.inj H
      go_wp2
      go_ret
      exact ⟨Z6, Z8⟩
     revert H
     refine aJ (fun c14b0 c14b1 H => ?_) fun c14 c14b0 c14b1 H => ?_
     ·obtain rfl := Option.some.inj H
      go_wp2
      go_ret
      exact ⟨Z6, Z8⟩
     revert H
     refine aJ (fun c15b0 c15b1 H => ?_) fun c15 c15b0 c15b1 H => ?_
     ·obtain rfl := Option.some.inj H
      go_wp2
      go_ret
      exact ⟨Z6, Z8⟩
     obtain rfl := Option.some.inj H
     go_wp2
     go_ret
     exact ⟨Z6, Z8⟩
end Go.Proofs.Ytendgafpkeadhaa.Q
end
