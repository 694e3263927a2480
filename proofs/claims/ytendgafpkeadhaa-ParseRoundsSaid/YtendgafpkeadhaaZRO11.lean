/- Walks over functions of the program, words for them, and what the functions come to; of each text only what this claim uses; no condition. -/
import Derived.Test.YtendgafpkeadhaaZRO0
import Derived.Test.YtendgafpkeadhaaZRO1
import Derived.Test.YtendgafpkeadhaaZRO3
import Derived.Test.YtendgafpkeadhaaZRO4
import Derived.Test.YtendgafpkeadhaaZRO5
import Derived.Test.YtendgafpkeadhaaZRO6
import Derived.Test.YtendgafpkeadhaaZRO8
import Derived.Test.YtendgafpkeadhaaZRO9
import Derived.Test.YtendgafpkeadhaaZRO10
section
namespace Go.Proofs.Ytendgafpkeadhaa.Q
open Go.RowKit Go.Proofs.YtendgafpkeadhaaW.PrintWords Go.Proofs.YtendgafpkeadhaaW.PrintLast Go.Proofs.YtendgafpkeadhaaW.PrintMore
attribute [local go_sem] iY iW iV iU max2_int min2_int max_two min_two max_three min_three max_four min_four
set_option linter.unusedVariables false
set_option linter.unusedSimpArgs false
-- BY HAND: function 88 (runtime_errorString_Error)
/-! ### aU: function 80 -/
def aU.l0 (F : Fam) : Nat → Int → List (S41) → List (S38) → Int → Bool → Option ((List (S41)) × Int × Bool)
 | 0, _, _, _, _, _ => none
 | k + 1, x1, x5, x1000, x1001, x1002 => if x1002 = true then (some (x5, x1001, x1002)) else ((aZ.f x1000 x1001 x1002).bind fun bt768 => ((bG.f k bt768.1).bind fun t771 => (if t771 = x1 then ((ax.f x1000 bt768.2.1 bt768.2.2 bt768.1).bind fun bt772 => ((kN.f F k x1000 bt772.2.1 bt772.2.2 (wrap64 (x1 + 1))).bind fun bt775 => ((au.f k 27 0 (⟨#[]⟩ : ByteArray) 0 bt768.1 (([x5, bt775.1] : List (List (S41))))).bind fun t783 => (if x1 = 3 then (some (t783, bt775.2.1, bt775.2.2)) else (aU.l0 F k x1 t783 x1000 bt775.2.1 bt775.2.2))))) else (some (x5, bt768.2.1, bt768.2.2)))))
def aU.f (F : Fam) (k : Nat) (s0_0 : List (S38)) (s0_1 : Int) (s0_2 : Bool) (a1 : Int) : Option ((List (S41)) × Int × Bool) := if a1 = 6 then ((aH.f F k s0_0 s0_1 s0_2).bind fun bt758 => (some (bt758.1, bt758.2.1, bt758.2.2))) else ((kN.f F k s0_0 s0_1 s0_2 (wrap64 (a1 + 1))).bind fun bt763 => (aU.l0 F k a1 bt763.1 s0_0 bt763.2.1 bt763.2.2))
theorem aU.mono_l {F F' : Fam} (HLE : ji F F') : ∀ k, (∀ y0 y1 y2 y3 y4, LeO (aU.l0 F k y0 y1 y2 y3 y4) (aU.l0 F' (k + 1) y0 y1 y2 y3 y4))
 | 0 => fun _ _ _ _ _ r h => by simp [aU.l0] at h
 | k + 1 => by
  have ih0 := aU.mono_l HLE k
  intro y0 y1 y2 y3 y4
  unfold aU.l0
  have m0 := au.mono
  have m1 := (aH.mono HLE)
  have m2 := bG.mono
  have m3 := (kN.mono HLE)
  exact yL
theorem aU.mono {F F' : Fam} (HLE : ji F F') : ∀ a0 a1 a2 a3 k, LeO (aU.f F k a0 a1 a2 a3) (aU.f F' (k + 1) a0 a1 a2 a3) := by
 intro a0 a1 a2 a3 k
 have ih0 := aU.mono_l HLE k
 unfold aU.f
 have m0 := au.mono
 have m1 := (aH.mono HLE)
 have m2 := bG.mono
 have m3 := (kN.mono HLE)
 exact yL
set_option maxHeartbeats 8000000 in
set_option maxRecDepth 100000 in
theorem aU.calls (F : Fam) (HF : kL F) (k : Nat) (g : Nat) (s0_0 : List (S38)) (s0_1 : Int) (s0_2 : Bool) (a1 : Int) (r1 : List (S41)) (r2 : Int) (r3 : Bool) (w0 w : World) (hI : ai w0 w g s0_0 s0_1 s0_2) (hB : Below w0.heap.size w0 w) (h : aU.f F k s0_0 s0_1 s0_2 a1 = some (r1, r2, r3)) :
 Calls Try.prog 80 #[.pointer (some ⟨g, 0, none⟩), .int .i64 a1] w fun e w' => ∃ v0_ : Value, e = .returned (v0_) ∧ Kd.R k41 41 w' w.heap.size (fun _ => True) v0_ r1 ∧ ai w0 w' g s0_0 r2 r3 ∧ Below w0.heap.size w0 w' ∧ ag w w' g none := by
 have hu41 := Try.underlying41
 have HI0 := Aside0.mk hI
 have HK := Aside0.mk (ag.refl w g none)
 have HL := Aside0.mk hB.size
 clear hI
 have HW0 := Aside0.mk hB.size
 have HB := Aside0.mk hB
 clear hB
 have H := h
 clear h
 unfold aU.f at H
 revert H
 refine aJ (fun c3b0 c3b1 H => ?_) fun c3 c3b0 c3b1 H => ?_
 ·revert H
  refine yB3 fun t758 t761 t762 A4 H => ?_
  try dsimp only at H
  simp only [Option.some.injEq, Prod.mk.injEq] at H
  obtain ⟨rfl, rfl, rfl⟩ := H
  go_enter Try.func80, Try.ntmps80
  go_wp2_with (first | ((with_reducible refine gC 82 rfl ?_); refine gM 82 10 rfl Try.func82 (aH.calls F HF k g s0_0 s0_1 s0_2 t758 t761 t762 w0 _ Z0 Z2 A4.out) ?_; rintro _ w5 ⟨v759, rfl, ho0, hi, hb, hk⟩; refine ⟨_, rfl, yA4 (Kd.R_lower ho0 (by exact aC (w := w) (g := g) (row := none) Z1)) (ag.trans Z1 hk (.inl rfl)) (hb) (hi) ?_⟩; clear HK HB HI0 hb ho0; intro HO760 HK HB HI0))
  go_ret
  exact ⟨_, Z4, by (with_reducible repeat (first | apply Kd.R_alloc | apply Kd.R_drewN | apply Kd.R_drew)); exact HO760.out, Z0, Z2, Z1⟩
 revert H
 refine yB3 fun t763 t766 t767 A6 H => ?_
 try dsimp only at H
 have H' := Aside0.mk H
 clear H
 go_enter Try.func80, Try.ntmps80
 go_wp2_with (first | ((with_reducible refine gC 80 rfl ?_); refine gM 80 14 rfl Try.func80 (kN.calls F HF k g s0_0 s0_1 s0_2 (wrap64 (a1 + 1)) t763 t766 t767 w0 _ Z0 Z2 A6.out) ?_; rintro _ w7 ⟨v764, rfl, ho0, hi, hb, hk⟩; refine ⟨_, rfl, yA4 (Kd.R_lower ho0 (by exact aC (w := w) (g := g) (row := none) Z1)) (ag.trans Z1 hk (.inl rfl)) (hb) (hi) ?_⟩; clear HK HB HI0 hb ho0; intro HO765 HK HB HI0))
 (try simp only [Act.put, List.setIfInBounds_toArray, List.set_cons_zero, List.set_cons_succ])
 go_loopg [5] k (fun kq v5 w' => ∃ (x5_1 : List (S41)) (x1001_1 : Int) (x1002_1 : Bool), Aside0 (aU.l0 F kq a1 x5_1 s0_0 x1001_1 x1002_1 = some (r1, r2, r3)) ∧ Aside0 (kq ≤ k) ∧ Aside0 (Kd.R k41 41 w' w.heap.size (fun _ => True) v5 x5_1) ∧ Aside0 (ai w0 w' g s0_0 x1001_1 x1002_1) ∧ Aside0 (ag w w' g none) ∧ Aside0 (Below w0.heap.size w0 w'))
 case atStart => exact ⟨(t763), (t766), (t767), H', ⟨Nat.le_refl _⟩, ⟨by (with_reducible repeat (first | apply Kd.R_alloc | apply Kd.R_drewN | apply Kd.R_drew)); exact HO765.out⟩, ⟨Z0⟩, ⟨Z1⟩, ⟨Z2⟩⟩
 case round =>
  clear H'
  try clear p2
  try clear c3
  try clear c3b0
  try clear c3b1
  try clear p6
  obtain ⟨x5_1, x1001_1, x1002_1, HA, HK1, HO_5, HI0, HK, HB⟩ := hrel
  cases gk with
  | zero => exact absurd HA.out (by simp [aU.l0])
  | succ k1 =>
   have H := HA.out
   clear HA
   simp only [aU.l0] at H
   cases x1002_1
   rotate_left
   ·replace H := yT H
    simp only [Option.some.injEq, Prod.mk.injEq] at H
    obtain ⟨rfl, rfl, rfl⟩ := H
    obtain ⟨ASz9_0, cSz9_0, HGz9, hgz9, HSz9_0⟩ := HI0.out
    have hcz9_0 := dH HGz9
    have hcz9_1 := dG HGz9
    have hcz9_2 := dF HGz9
    have hfz9_1 := ae HGz9 1
    have hfz9_2 := ae HGz9 2
    clear HGz9 hgz9
    go_wp2
    go_ret
    exact ⟨_, Z4, Z19, Z0, Z2, Z1⟩
   replace H := yF H
   revert H
   refine yB3 fun t768 t769 t770 A10 H => ?_
   try dsimp only at H
   revert H
   refine yB1 fun t771 A11 H => ?_
   revert H
   refine aJ (fun c12b0 c12b1 H => ?_) fun c12 c12b0 c12b1 H => ?_
   ·revert H
    refine yB3 fun t772 t773 t774 A13 H => ?_
    try dsimp only at H
    revert H
    refine yB3 fun t775 t778 t779 A14 H => ?_
    try dsimp only at H
    obtain ⟨y780, hy780⟩ : ∃ y_ : List (List (S41)), y_ = (([x5_1, t775] : List (List (S41)))) := ⟨_, rfl⟩
    replace H : ((au.f k1 27 0 (⟨#[]⟩ : ByteArray) 0 t768 y780).bind fun t783 => (if a1 = 3 then (some (t783, t778, t779)) else (aU.l0 F k1 a1 t783 s0_0 t778 t779))) = some (r1, r2, r3) := by first | (rw [hy780]; with_reducible exact H) | (have H2_ := (Option.bind_some _ _).symm.trans H; rw [hy780]; with_reducible exact H2_) | (have H2_ := (Option.bind_some _ _).symm.trans H; with_reducible exact H2_) | with_reducible exact H | (rw [hy780]; exact H) | exact H
    have Ny780 := Aside0.mk hy780
    clear hy780
    revert H
    refine yB1 fun t783 A15 H => ?_
    revert H
    refine aJ (fun c16b0 c16b1 H => ?_) fun c16 c16b0 c16b1 H => ?_
    ·simp only [Option.some.injEq, Prod.mk.injEq] at H
     obtain ⟨rfl, rfl, rfl⟩ := H
     obtain ⟨ASz17_0, cSz17_0, HGz17, hgz17, HSz17_0⟩ := HI0.out
     have hcz17_0 := dH HGz17
     have hcz17_1 := dG HGz17
     have hcz17_2 := dF HGz17
     have hfz17_1 := ae HGz17 1
     have hfz17_2 := ae HGz17 2
     clear HGz17 hgz17
     go_wp2_with (first | ((with_reducible refine gC 71 rfl ?_); refine gM 71 21 rfl Try.func71 (aZ.calls g s0_0 x1001_1 false t768 t769 t770 w0 _ Z0 Z2 A10.out) ?_; rintro _ w18 ⟨rfl, hi, hb, hk⟩; refine ⟨_, rfl, yA4 (Kd.bn (Kd.iF (ai.apart (show ai w0 _ g s0_0 x1001_1 false from Z0) Z19 (by decide)) hk (fun _ h => h.2)) (fun _ h => h.1)) (ag.trans Z1 hk (.inl rfl)) (hb) (hi) ?_⟩; clear HO_5 HK HB HI0 hb; intro HO_5 HK HB HI0) | ((with_reducible refine gC 83 rfl ?_); refine gM 83 23 rfl Try.func83 (bG.calls k1 t768 t771 _ A11.out) ?_; rintro _ w' ⟨rfl, ⟨nd, rfl⟩⟩; refine ⟨_, rfl, ?_⟩) | ((with_reducible refine gC 53 rfl ?_); refine gM 53 28 rfl Try.func53 (ax.calls g s0_0 t769 t770 t768 t772 t773 t774 w0 _ Z0 Z2 A13.out) ?_; rintro _ w19 ⟨rfl, hi, hb, hk⟩; refine ⟨_, rfl, yA4 (Kd.bn (Kd.iF (ai.apart (show ai w0 _ g s0_0 t769 t770 from Z0) Z19 (by decide)) hk (fun _ h => h.2)) (fun _ h => h.1)) (ag.trans Z1 hk (.inl rfl)) (hb) (hi) ?_⟩; clear HO_5 HK HB HI0 hb; intro HO_5 HK HB HI0) | ((with_reducible refine gC 80 rfl ?_); refine gM 80 35 rfl Try.func80 (kN.calls F HF k1 g s0_0 t773 t774 (wrap64 (a1 + 1)) t775 t778 t779 w0 _ Z0 Z2 A14.out) ?_; rintro _ w20 ⟨v776, rfl, ho0, hi, hb, hk⟩; refine ⟨_, rfl, yA5 (Kd.bn (Kd.qU (Kd.qV (ai.apart (show ai w0 _ g s0_0 t773 t774 from Z0) Z19 (by decide)) hk) (Kd.R_base ho0)) (fun _ h_ => h_.1)) (Kd.R_lower (Kd.R_new' ho0 (Kd.R_lt Z19)) (by exact aC (w := w) (g := g) (row := none) Z1)) (ag.trans Z1 hk (.inl rfl)) (hb) (hi) ?_⟩; clear HO_5 HK HB HI0 hb ho0; intro HO_5 HO777 HK HB HI0; obtain ⟨Ao21, co21, rfl⟩ := Kd.R_slice HO_5.out; obtain ⟨Ao22, co22, rfl⟩ := Kd.R_slice HO777.out) | ((with_reducible refine bJ (N := 36) rfl ?_); refine Kd.oh (Kd.slice 41 k41) _ 23 ?hg (N' := 36) ?hd (xs := ([x5_1, t775] : List (List (S41)))) (inner := [.slice Ao21 x5_1.length co21, .slice Ao22 t775.length co22]) (ok := (fun k_ => k_ ≠ g)) (okp := (fun k_ => k_ ≠ g)) ?hr ?hp (fun _ hk => hk) ((show ∀ k_, w20.heap.size ≤ k_ → (fun k_ => k_ ≠ g) k_ from fun k_ hk => ai.fresh Z0 k_ hk) _ (Nat.le_refl _)) (Below.refl _ _) (Nat.le_refl _) (by simp) ?_; (case hd => rfl); (case hg => rfl); (case hr => first | (go_simp; done) | (go_simp; rfl)); (case hp => exact (bT.one (show Kd.FK (Kd.slice 41 k41) _ _ x5_1 [.slice Ao21 x5_1.length co21] from (Kd.dP (Kd.R_reads' (Kd.bn (ok' := (fun k_ => k_ ≠ g)) (ai.apart HI0.out (HO_5.out) (by decide)) (fun k_ hk => hk.2))).2.1 (Kd.R_F (Kd.bn (ok' := (fun k_ => k_ ≠ g)) (ai.apart HI0.out (HO_5.out) (by decide)) (fun k_ hk => hk.2))))) (bT.one (show Kd.FK (Kd.slice 41 k41) _ _ t775 [.slice Ao22 t775.length co22] from (Kd.dP (Kd.R_reads' (Kd.bn (ok' := (fun k_ => k_ ≠ g)) (ai.apart HI0.out (HO777.out) (by decide)) (fun k_ hk => hk.2))).2.1 (Kd.R_F (Kd.bn (ok' := (fun k_ => k_ ≠ g)) (ai.apart HI0.out (HO777.out) (by decide)) (fun k_ hk => hk.2))))) (bT.none _ _)))); intro v781 w23 ho24 hb hg_ hnew_; clear hg_ hnew_; (first | rw [← Ny780.out] at ho24 | (simp only [Int.reduceToNat] at ho24; rw [← Ny780.out] at ho24)); refine yA4 (Kd.jq ho24 (by exact aC (w := w) (g := g) (row := none) Z1)) (ai.below Z0 hb) (ag.trans Z1 (ag.of_below hb g none) (.inl rfl)) (below_step Z2 hb) ?_; clear HI0 HK HB HO777 HO_5; intro HO782 HI0 HK HB; clear hb ho24; obtain ⟨Ao25, co25, rfl⟩ := Kd.jo HO782.out) | ((with_reducible refine gC 56 rfl ?_); refine gM 56 37 rfl Try.func56 (au.calls k1 27 0 (⟨#[]⟩ : ByteArray) 0 t768 _ _ y780 t783 _ (by repeat (first | exact (Kd.eG HO782.out).2.2 | (with_reducible refine Kd.C_alloc ?_ _) | (with_reducible refine Kd.C_drewN ?_ _) | (with_reducible refine Kd.C_drew ?_))) ((Kd.eG HO782.out).2.1) A15.out) ?_; rintro _ w26 ⟨v784, rfl, ho0, hb⟩; refine ⟨_, rfl, yA5 (Kd.iQ (by (with_reducible repeat (first | apply Kd.fG | apply Kd.fF | apply Kd.gQ)); exact HO782.out) (Kd.R_base ho0) hb) (Kd.R_lower ho0 (by exact aC (w := w) (g := g) (row := none) Z1)) (ai.below Z0 hb) (ag.trans Z1 (ag.of_below hb g none) (.inl rfl)) (below_step Z2 hb) ?_⟩; clear HO782 HI0 HK HB hb ho0; intro HO782 HO785 HI0 HK HB))
     go_ret
     exact ⟨_, Z4, by (with_reducible repeat (first | apply Kd.R_alloc | apply Kd.R_drewN | apply Kd.R_drew)); exact HO785.out, Z0, Z2, Z1⟩
    have H' := Aside0.mk H
    clear H
    obtain ⟨ASz27_0, cSz27_0, HGz27, hgz27, HSz27_0⟩ := HI0.out
    have hcz27_0 := dH HGz27
    have hcz27_1 := dG HGz27
    have hcz27_2 := dF HGz27
    have hfz27_1 := ae HGz27 1
    have hfz27_2 := ae HGz27 2
    clear HGz27 hgz27
    go_wp2_with (first | ((with_reducible refine gC 71 rfl ?_); refine gM 71 21 rfl Try.func71 (aZ.calls g s0_0 x1001_1 false t768 t769 t770 w0 _ Z0 Z2 A10.out) ?_; rintro _ w28 ⟨rfl, hi, hb, hk⟩; refine ⟨_, rfl, yA4 (Kd.bn (Kd.iF (ai.apart (show ai w0 _ g s0_0 x1001_1 false from Z0) Z19 (by decide)) hk (fun _ h => h.2)) (fun _ h => h.1)) (ag.trans Z1 hk (.inl rfl)) (hb) (hi) ?_⟩; clear HO_5 HK HB HI0 hb; intro HO_5 HK HB HI0) | ((with_reducible refine gC 83 rfl ?_); refine gM 83 23 rfl Try.func83 (bG.calls k1 t768 t771 _ A11.out) ?_; rintro _ w' ⟨rfl, ⟨nd, rfl⟩⟩; refine ⟨_, rfl, ?_⟩) | ((with_reducible refine gC 53 rfl ?_); refine gM 53 28 rfl Try.func53 (ax.calls g s0_0 t769 t770 t768 t772 t773 t774 w0 _ Z0 Z2 A13.out) ?_; rintro _ w29 ⟨rfl, hi, hb, hk⟩; refine ⟨_, rfl, yA4 (Kd.bn (Kd.iF (ai.apart (show ai w0 _ g s0_0 t769 t770 from Z0) Z19 (by decide)) hk (fun _ h => h.2)) (fun _ h => h.1)) (ag.trans Z1 hk (.inl rfl)) (hb) (hi) ?_⟩; clear HO_5 HK HB HI0 hb; intro HO_5 HK HB HI0) | ((with_reducible refine gC 80 rfl ?_); refine gM 80 35 rfl Try.func80 (kN.calls F HF k1 g s0_0 t773 t774 (wrap64 (a1 + 1)) t775 t778 t779 w0 _ Z0 Z2 A14.out) ?_; rintro _ w30 ⟨v776, rfl, ho0, hi, hb, hk⟩; refine ⟨_, rfl, yA5 (Kd.bn (Kd.qU (Kd.qV (ai.apart (show ai w0 _ g s0_0 t773 t774 from Z0) Z19 (by decide)) hk) (Kd.R_base ho0)) (fun _ h_ => h_.1)) (Kd.R_lower (Kd.R_new' ho0 (Kd.R_lt Z19)) (by exact aC (w := w) (g := g) (row := none) Z1)) (ag.trans Z1 hk (.inl rfl)) (hb) (hi) ?_⟩; clear HO_5 HK HB HI0 hb ho0; intro HO_5 HO777 HK HB HI0; obtain ⟨Ao31, co31, rfl⟩ := Kd.R_slice HO_5.out; obtain ⟨Ao32, co32, rfl⟩ := Kd.R_slice HO777.out) | ((with_reducible refine bJ (N := 36) rfl ?_); refine Kd.oh (Kd.slice 41 k41) _ 23 ?hg (N' := 36) ?hd (xs := ([x5_1, t775] : List (List (S41)))) (inner := [.slice Ao31 x5_1.length co31, .slice Ao32 t775.length co32]) (ok := (fun k_ => k_ ≠ g)) (okp := (fun k_ => k_ ≠ g)) ?hr ?hp (fun _ hk => hk) ((show ∀ k_, w30.heap.size ≤ k_ → (fun k_ => k_ ≠ g) k_ from fun k_ hk => ai.fresh Z0 k_ hk) _ (Nat.le_refl _)) (Below.refl _ _) (Nat.le_refl _) (by simp) ?_; (case hd => rfl); (case hg => rfl); (case hr => first | (go_simp; done) | (go_simp; rfl)); (case hp => exact (bT.one (show Kd.FK (Kd.slice 41 k41) _ _ x5_1 [.slice Ao31 x5_1.length co31] from (Kd.dP (Kd.R_reads' (Kd.bn (ok' := (fun k_ => k_ ≠ g)) (ai.apart HI0.out (HO_5.out) (by decide)) (fun k_ hk => hk.2))).2.1 (Kd.R_F (Kd.bn (ok' := (fun k_ => k_ ≠ g)) (ai.apart HI0.out (HO_5.out) (by decide)) (fun k_ hk => hk.2))))) (bT.one (show Kd.FK (Kd.slice 41 k41) _ _ t775 [.slice Ao32 t775.length co32] from (Kd.dP (Kd.R_reads' (Kd.bn (ok' := (fun k_ => k_ ≠ g)) (ai.apart HI0.out (HO777.out) (by decide)) (fun k_ hk => hk.2))).2.1 (Kd.R_F (Kd.bn (ok' := (fun k_ => k_ ≠ g)) (ai.apart HI0.out (HO777.out) (by decide)) (fun k_ hk => hk.2))))) (bT.none _ _)))); intro v781 w33 ho34 hb hg_ hnew_; clear hg_ hnew_; (first | rw [← Ny780.out] at ho34 | (simp only [Int.reduceToNat] at ho34; rw [← Ny780.out] at ho34)); refine yA4 (Kd.jq ho34 (by exact aC (w := w) (g := g) (row := none) Z1)) (ai.below Z0 hb) (ag.trans Z1 (ag.of_below hb g none) (.inl rfl)) (below_step Z2 hb) ?_; clear HI0 HK HB HO777 HO_5; intro HO782 HI0 HK HB; clear hb ho34; obtain ⟨Ao35, co35, rfl⟩ := Kd.jo HO782.out) | ((with_reducible refine gC 56 rfl ?_); refine gM 56 37 rfl Try.func56 (au.calls k1 27 0 (⟨#[]⟩ : ByteArray) 0 t768 _ _ y780 t783 _ (by repeat (first | exact (Kd.eG HO782.out).2.2 | (with_reducible refine Kd.C_alloc ?_ _) | (with_reducible refine Kd.C_drewN ?_ _) | (with_reducible refine Kd.C_drew ?_))) ((Kd.eG HO782.out).2.1) A15.out) ?_; rintro _ w36 ⟨v784, rfl, ho0, hb⟩; refine ⟨_, rfl, yA5 (Kd.iQ (by (with_reducible repeat (first | apply Kd.fG | apply Kd.fF | apply Kd.gQ)); exact HO782.out) (Kd.R_base ho0) hb) (Kd.R_lower ho0 (by exact aC (w := w) (g := g) (row := none) Z1)) (ai.below Z0 hb) (ag.trans Z1 (ag.of_below hb g none) (.inl rfl)) (below_step Z2 hb) ?_⟩; clear HO782 HI0 HK HB hb ho0; intro HO782 HO785 HI0 HK HB))
    go_roundg k1
    case measure => have := HK1.out; omega
    case rel => exact ⟨(t783), (t778), (t779), H', ⟨by have := HK1.out; omega⟩, ⟨by (with_reducible repeat (first | apply Kd.R_alloc | apply Kd.R_drewN | apply Kd.R_drew)); exact HO785.out⟩, ⟨Z0⟩, ⟨Z1⟩, ⟨Z2⟩⟩
   simp only [Option.some.injEq, Prod.mk.injEq] at H
   obtain ⟨rfl, rfl, rfl⟩ := H
   obtain ⟨ASz37_0, cSz37_0, HGz37, hgz37, HSz37_0⟩ := HI0.out
   have hcz37_0 := dH HGz37
   have hcz37_1 := dG HGz37
   have hcz37_2 := dF HGz37
   have hfz37_1 := ae HGz37 1
   have hfz37_2 := ae HGz37 2
   clear HGz37 hgz37
   go_wp2_with (first | ((with_reducible refine gC 71 rfl ?_); refine gM 71 21 rfl Try.func71 (aZ.calls g s0_0 x1001_1 false t768 t769 t770 w0 _ Z0 Z2 A10.out) ?_; rintro _ w38 ⟨rfl, hi, hb, hk⟩; refine ⟨_, rfl, yA4 (Kd.bn (Kd.iF (ai.apart (show ai w0 _ g s0_0 x1001_1 false from Z0) Z19 (by decide)) hk (fun _ h => h.2)) (fun _ h => h.1)) (ag.trans Z1 hk (.inl rfl)) (hb) (hi) ?_⟩; clear HO_5 HK HB HI0 hb; intro HO_5 HK HB HI0) | ((with_reducible refine gC 83 rfl ?_); refine gM 83 23 rfl Try.func83 (bG.calls k1 t768 t771 _ A11.out) ?_; rintro _ w' ⟨rfl, ⟨nd, rfl⟩⟩; refine ⟨_, rfl, ?_⟩))
   go_ret
   exact ⟨_, Z4, Z19, Z0, Z2, Z1⟩
/-! ### dD: function 77 -/
def dD.f (F : Fam) (k : Nat) (s0_0 : List (S38)) (s0_1 : Int) (s0_2 : Bool) : Option ((List (S41)) × Int × Bool) := (aU.f F k s0_0 s0_1 s0_2 1).bind fun bt786 => (some (bt786.1, bt786.2.1, bt786.2.2))
theorem dD.mono {F F' : Fam} (HLE : ji F F') : ∀ a0 a1 a2 k, LeO (dD.f F k a0 a1 a2) (dD.f F' (k + 1) a0 a1 a2) := by
 intro a0 a1 a2 k
 unfold dD.f
 have m0 := (aU.mono HLE)
 exact yL
set_option maxHeartbeats 8000000 in
set_option maxRecDepth 100000 in
theorem dD.calls (F : Fam) (HF : kL F) (k : Nat) (g : Nat) (s0_0 : List (S38)) (s0_1 : Int) (s0_2 : Bool) (r1 : List (S41)) (r2 : Int) (r3 : Bool) (w0 w : World) (hI : ai w0 w g s0_0 s0_1 s0_2) (hB : Below w0.heap.size w0 w) (h : dD.f F k s0_0 s0_1 s0_2 = some (r1, r2, r3)) :
 Calls Try.prog 77 #[.pointer (some ⟨g, 0, none⟩)] w fun e w' => ∃ v0_ : Value, e = .returned (v0_) ∧ Kd.R k41 41 w' w.heap.size (fun _ => True) v0_ r1 ∧ ai w0 w' g s0_0 r2 r3 ∧ Below w0.heap.size w0 w' ∧ ag w w' g none := by
 have HI0 := Aside0.mk hI
 have HK := Aside0.mk (ag.refl w g none)
 have HL := Aside0.mk hB.size
 clear hI
 have HW0 := Aside0.mk hB.size
 have HB := Aside0.mk hB
 clear hB
 have H := h
 clear h
 unfold dD.f at H
 revert H
 refine yB3 fun t786 t789 t790 A2 H => ?_
 try dsimp only at H
 simp only [Option.some.injEq, Prod.mk.injEq] at H
 obtain ⟨rfl, rfl, rfl⟩ := H
 go_enter Try.func77, Try.ntmps77
 go_wp2_with (first | ((with_reducible refine gC 80 rfl ?_); refine gM 80 4 rfl Try.func80 (aU.calls F HF k g s0_0 s0_1 s0_2 1 t786 t789 t790 w0 _ Z0 Z2 A2.out) ?_; rintro _ w3 ⟨v787, rfl, ho0, hi, hb, hk⟩; refine ⟨_, rfl, yA4 (Kd.R_lower ho0 (by exact aC (w := w) (g := g) (row := none) Z1)) (ag.trans Z1 hk (.inl rfl)) (hb) (hi) ?_⟩; clear HK HB HI0 hb ho0; intro HO788 HK HB HI0))
 go_ret
 exact ⟨_, Z4, by (with_reducible repeat (first | apply Kd.R_alloc | apply Kd.R_drewN | apply Kd.R_drew)); exact HO788.out, Z0, Z2, Z1⟩
end Go.Proofs.Ytendgafpkeadhaa.Q
end
section
namespace Go.Proofs.Ytendgafpkeadhaa.Q
open Go.RowKit Go.Proofs.YtendgafpkeadhaaW.PrintWords Go.Proofs.YtendgafpkeadhaaW.PrintLast Go.Proofs.YtendgafpkeadhaaW.PrintMore
attribute [local go_sem] iY iW iV iU max2_int min2_int max_two min_two max_three min_three max_four min_four
set_option linter.unusedVariables false
set_option linter.unusedSimpArgs false
/-! ### aK: function 25 -/
mutual
def aK.l0 (F : Fam) : Nat → List (List (S41)) → List (S38) → Int → Bool → Int → Int → ByteArray → Int → ByteArray → Option ((List (S41)) × Int × Bool)
 | 0, _, _, _, _, _, _, _, _, _ => none
 | k + 1, x4, x1000, x1001, x1002, x537000, x537001, x537002, x537003, x537004 => (ax.f x1000 x1001 x1002 (⟨#[117, 115, 101]⟩ : ByteArray)).bind fun bt545 => (if bt545.1 = true then ((dJ.f k x1000 bt545.2.1 bt545.2.2).bind fun bt548 => (if x4.length < 5864062014805 then (aK.l0 F k (x4 ++ [bt548.1]) x1000 bt548.2.1 bt548.2.2 x537000 x537001 x537002 x537003 x537004) else (none))) else (aK.l1 F k x4 x1000 bt545.2.1 bt545.2.2 x537000 x537001 x537002 x537003 x537004))
def aK.l1 (F : Fam) : Nat → List (List (S41)) → List (S38) → Int → Bool → Int → Int → ByteArray → Int → ByteArray → Option ((List (S41)) × Int × Bool)
 | 0, _, _, _, _, _, _, _, _, _ => none
 | k + 1, x4, x1000, x1001, x1002, x537000, x537001, x537002, x537003, x537004 => (ax.f x1000 x1001 x1002 (⟨#[102, 110]⟩ : ByteArray)).bind fun bt556 => (if bt556.1 = true then ((bu.f x1000 bt556.2.1 bt556.2.2 1).bind fun bt559 => ((bf.f F k x1000 bt559.2.2.2.2.1 bt559.2.2.2.2.2 3 0 bt559.2.1 0 (⟨#[]⟩ : ByteArray)).bind fun bt565 => (if x4.length < 5864062014805 then (aK.l1 F k (x4 ++ [bt565.1]) x1000 bt565.2.1 bt565.2.2 x537000 x537001 x537002 x537003 x537004) else (none)))) else ((au.f k x537000 x537001 x537002 x537003 x537004 x4).bind fun t573 => (some (t573, bt556.2.1, bt556.2.2))))
end
def aK.f (F : Fam) (k : Nat) (s0_0 : List (S38)) (s0_1 : Int) (s0_2 : Bool) : Option ((List (S41)) × Int × Bool) := (aG.f s0_0 s0_1 s0_2 (⟨#[109, 111, 100, 117, 108, 101]⟩ : ByteArray)).bind fun bt528 => ((bu.f s0_0 bt528.1 bt528.2 1).bind fun bt530 => ((bu.f s0_0 bt530.2.2.2.2.1 bt530.2.2.2.2.2 2).bind fun bt537 => ((aG.f s0_0 bt537.2.2.2.2.1 bt537.2.2.2.2.2 (⟨#[59]⟩ : ByteArray)).bind fun bt543 => (aK.l0 F k ([] : List (List (S41))) s0_0 bt543.1 bt543.2 1 0 bt530.2.1 bt537.2.2.1 (⟨#[]⟩ : ByteArray)))))
theorem aK.mono_l {F F' : Fam} (HLE : ji F F') : ∀ k, (∀ y0 y1 y2 y3 y4 y5 y6 y7 y8, LeO (aK.l0 F k y0 y1 y2 y3 y4 y5 y6 y7 y8) (aK.l0 F' (k + 1) y0 y1 y2 y3 y4 y5 y6 y7 y8)) ∧ (∀ y0 y1 y2 y3 y4 y5 y6 y7 y8, LeO (aK.l1 F k y0 y1 y2 y3 y4 y5 y6 y7 y8) (aK.l1 F' (k + 1) y0 y1 y2 y3 y4 y5 y6 y7 y8))
 | 0 => ⟨fun _ _ _ _ _ _ _ _ _ r h => by simp [aK.l0] at h, fun _ _ _ _ _ _ _ _ _ r h => by simp [aK.l1] at h⟩
 | k + 1 => by
  obtain ⟨ih0, ih1⟩ := aK.mono_l HLE k
  refine ⟨?_, ?_⟩
  ·intro y0 y1 y2 y3 y4 y5 y6 y7 y8
   unfold aK.l0
   have m0 := au.mono
   have m1 := (bf.mono HLE)
   have m2 := dJ.mono
   exact yL
  intro y0 y1 y2 y3 y4 y5 y6 y7 y8
  unfold aK.l1
  have m0 := au.mono
  have m1 := (bf.mono HLE)
  have m2 := dJ.mono
  exact yL
theorem aK.mono {F F' : Fam} (HLE : ji F F') : ∀ a0 a1 a2 k, LeO (aK.f F k a0 a1 a2) (aK.f F' (k + 1) a0 a1 a2) := by
 intro a0 a1 a2 k
 obtain ⟨ih0, ih1⟩ := aK.mono_l HLE k
 unfold aK.f
 have m0 := au.mono
 have m1 := (bf.mono HLE)
 have m2 := dJ.mono
 exact yL
set_option maxHeartbeats 8000000 in
set_option maxRecDepth 100000 in
theorem aK.calls (F : Fam) (HF : kL F) (k : Nat) (g : Nat) (s0_0 : List (S38)) (s0_1 : Int) (s0_2 : Bool) (r1 : List (S41)) (r2 : Int) (r3 : Bool) (w0 w : World) (hI : ai w0 w g s0_0 s0_1 s0_2) (hB : Below w0.heap.size w0 w) (h : aK.f F k s0_0 s0_1 s0_2 = some (r1, r2, r3)) :
 Calls Try.prog 25 #[.pointer (some ⟨g, 0, none⟩)] w fun e w' => ∃ v0_ : Value, e = .returned (v0_) ∧ Kd.R k41 41 w' w.heap.size (fun _ => True) v0_ r1 ∧ ai w0 w' g s0_0 r2 r3 ∧ Below w0.heap.size w0 w' ∧ ag w w' g none := by
 have hu41 := Try.underlying41
 have HI0 := Aside0.mk hI
 have HK := Aside0.mk (ag.refl w g none)
 have HL := Aside0.mk hB.size
 clear hI
 have HW0 := Aside0.mk hB.size
 have HB := Aside0.mk hB
 clear hB
 have H := h
 clear h
 unfold aK.f at H
 revert H
 refine yB2 fun t528 t529 A2 H => ?_
 try dsimp only at H
 revert H
 refine yB6 fun t530 t531 t532 t533 t534 t535 A3 H => ?_
 try dsimp only at H
 revert H
 refine yB6 fun t537 t538 t539 t540 t541 t542 A4 H => ?_
 try dsimp only at H
 revert H
 refine yB2 fun t543 t544 A5 H => ?_
 try dsimp only at H
 have H' := Aside0.mk H
 clear H
 go_enter Try.func25, Try.ntmps25
 go_wp2_with (first | ((with_reducible refine gC 51 rfl ?_); refine gM 51 6 rfl Try.func51 (aG.calls g s0_0 s0_1 s0_2 (⟨#[109, 111, 100, 117, 108, 101]⟩ : ByteArray) t528 t529 w0 _ Z0 Z2 A2.out) ?_; rintro _ w6 ⟨rfl, hi, hb, hk⟩; refine ⟨_, rfl, yA3 (ag.trans Z1 hk (.inl rfl)) (hb) (hi) ?_⟩; clear HK HB HI0 hb; intro HK HB HI0) | ((with_reducible refine gC 52 rfl ?_); refine gM 52 8 rfl Try.func52 (bu.calls g s0_0 t528 t529 1 t530 t531 t532 t533 t534 t535 w0 _ Z0 Z2 A3.out) ?_; rintro _ w7 ⟨rfl, hi, hb, hk⟩; refine ⟨_, rfl, yA3 (ag.trans Z1 hk (.inl rfl)) (hb) (hi) ?_⟩; clear HK HB HI0 hb; intro HK HB HI0) | ((with_reducible refine bJ (N := 3) rfl ?_); refine bU ?hg (N := 3) ?hd (cs := #[.int .i64 0, .int .i64 0, .string (⟨#[]⟩ : ByteArray), .int .i64 0, .string (⟨#[]⟩ : ByteArray)]) (t := 41) ?hr ?_; (case hd => rfl); (case hg => rfl); (case hr => first | (go_simp; done) | (go_simp; rfl)); intro gb536 hg w8 hbox hb; refine yA8 (ai.below Z0 hb) (ag.trans Z1 (ag.of_below hb g none) (.inl rfl)) (below_step Z2 hb) (hbox) ((by rw [hg]; exact (by exact aC (w := w) (g := g) (row := none) Z1) : w.heap.size ≤ gb536)) ((Nat.le_trans HW0.out (by rw [hg]; exact (by exact aC (w := w) (g := g) (row := none) Z1) : w.heap.size ≤ gb536) : w0.heap.size ≤ gb536)) ((by rw [hg]; exact Nat.ne_of_lt (ai.lt (show ai w0 _ g s0_0 t534 t535 from Z0)) : g ≠ gb536)) ((by rw [hg]; exact Nat.ne_of_gt (ai.lt (show ai w0 _ g s0_0 t534 t535 from Z0)) : gb536 ≠ g)) ?_; clear HI0 HK HB; intro HI0 HK HB BK536 GW536 GE536 NB0_536 NB536_0; clear hb hbox hg; have hnb9 := NB536_0.out; have hnc9 := NB0_536.out; have hcz10_0 : w8.cell? ⟨gb536, 0, none⟩ = some (.int .i64 0) := (af BK536.out 0).trans rfl; have hcz10_1 : w8.cell? ⟨gb536, 1, none⟩ = some (.int .i64 0) := (af BK536.out 1).trans rfl; have hcz10_2 : w8.cell? ⟨gb536, 2, none⟩ = some (.string (⟨#[]⟩ : ByteArray)) := (af BK536.out 2).trans rfl; have hcz10_3 : w8.cell? ⟨gb536, 3, none⟩ = some (.int .i64 0) := (af BK536.out 3).trans rfl; have hcz10_4 : w8.cell? ⟨gb536, 4, none⟩ = some (.string (⟨#[]⟩ : ByteArray)) := (af BK536.out 4).trans rfl; have hfz10_0 := ae BK536.out 0; have hfz10_1 := ae BK536.out 1; have hfz10_2 := ae BK536.out 2; have hfz10_3 := ae BK536.out 3; have hfz10_4 := ae BK536.out 4) | ((with_reducible refine gC 52 rfl ?_); refine gM 52 12 rfl Try.func52 (bu.calls g s0_0 t534 t535 2 t537 t538 t539 t540 t541 t542 w0 _ Z10 Z15 A4.out) ?_; rintro _ w11 ⟨rfl, hi, hb, hk⟩; refine ⟨_, rfl, yA4 (ag.blk hk (g' := gb536) (o := .cells #[.int .i64 1, .int .i64 0, .string t531, .int .i64 0, .string (⟨#[]⟩ : ByteArray)] 41 (0, 0)) (by refine aA (cs := #[.int .i64 1, .int .i64 0, .string t531, .int .i64 0, .string (⟨#[]⟩ : ByteArray)]) ?_ 4 _ rfl; refine aA (cs := #[.int .i64 1, .int .i64 0, .string t531, .int .i64 0, .string (⟨#[]⟩ : ByteArray)]) ?_ 3 _ rfl; refine aA (cs := #[.int .i64 1, .int .i64 0, .string (⟨#[]⟩ : ByteArray), .int .i64 0, .string (⟨#[]⟩ : ByteArray)]) ?_ 2 _ rfl; refine aA (cs := #[.int .i64 1, .int .i64 0, .string (⟨#[]⟩ : ByteArray), .int .i64 0, .string (⟨#[]⟩ : ByteArray)]) ?_ 1 _ rfl; refine aA (cs := #[.int .i64 0, .int .i64 0, .string (⟨#[]⟩ : ByteArray), .int .i64 0, .string (⟨#[]⟩ : ByteArray)]) ?_ 0 _ rfl; exact BK536.out) NB536_0.out (by simp)) (ag.trans Z11 hk (.inl rfl)) (hb) (hi) ?_⟩; clear BK536 HK HB HI0 hb; intro BK536 HK HB HI0; have hcz12_0 : w11.cell? ⟨gb536, 0, none⟩ = some (.int .i64 1) := (af BK536.out 0).trans rfl; have hcz12_1 : w11.cell? ⟨gb536, 1, none⟩ = some (.int .i64 0) := (af BK536.out 1).trans rfl; have hcz12_2 : w11.cell? ⟨gb536, 2, none⟩ = some (.string t531) := (af BK536.out 2).trans rfl; have hcz12_3 : w11.cell? ⟨gb536, 3, none⟩ = some (.int .i64 0) := (af BK536.out 3).trans rfl; have hcz12_4 : w11.cell? ⟨gb536, 4, none⟩ = some (.string (⟨#[]⟩ : ByteArray)) := (af BK536.out 4).trans rfl; have hfz12_0 := ae BK536.out 0; have hfz12_1 := ae BK536.out 1; have hfz12_2 := ae BK536.out 2; have hfz12_3 := ae BK536.out 3; have hfz12_4 := ae BK536.out 4) | ((with_reducible refine gC 51 rfl ?_); refine gM 51 16 rfl Try.func51 (aG.calls g s0_0 t541 t542 (⟨#[59]⟩ : ByteArray) t543 t544 w0 _ Z10 Z15 A5.out) ?_; rintro _ w13 ⟨rfl, hi, hb, hk⟩; refine ⟨_, rfl, yA4 (ag.blk hk (g' := gb536) (o := .cells #[.int .i64 1, .int .i64 0, .string t531, .int .i64 t539, .string (⟨#[]⟩ : ByteArray)] 41 (0, 0)) (by refine aA (cs := #[.int .i64 1, .int .i64 0, .string t531, .int .i64 0, .string (⟨#[]⟩ : ByteArray)]) ?_ 3 _ rfl; exact BK536.out) NB536_0.out (by simp)) (ag.trans Z11 hk (.inl rfl)) (hb) (hi) ?_⟩; clear BK536 HK HB HI0 hb; intro BK536 HK HB HI0))
 (try simp only [Act.put, List.setIfInBounds_toArray, List.set_cons_zero, List.set_cons_succ])
 go_loopg [4] k (fun kq v4 w' => ∃ (x4_1 : List (List (S41))) (x1001_1 : Int) (x1002_1 : Bool), Aside0 (aK.l0 F kq x4_1 s0_0 x1001_1 x1002_1 1 0 t531 t539 (⟨#[]⟩ : ByteArray) = some (r1, r2, r3)) ∧ Aside0 (kq ≤ k) ∧ Aside0 (Kd.S (Kd.slice 41 k41) 23 w' w.heap.size (fun k_ => k_ ≠ gb536) v4 x4_1) ∧ Aside0 (w'.heap[gb536]? = some (.cells #[.int .i64 1, .int .i64 0, .string t531, .int .i64 t539, .string (⟨#[]⟩ : ByteArray)] 41 (0, 0))) ∧ Aside0 (ai w0 w' g s0_0 x1001_1 x1002_1) ∧ Aside0 (ag w w' g none) ∧ Aside0 (Below w0.heap.size w0 w'))
 case atStart => exact ⟨(([] : List (List (S41)))), (t543), (t544), H', ⟨Nat.le_refl _⟩, ⟨Z66⟩, ⟨by exact BK536.out⟩, ⟨Z10⟩, ⟨Z11⟩, ⟨Z15⟩⟩
 case round =>
  clear H'
  try clear c2
  try clear p2
  try clear c5
  try clear c9
  try clear hcz10_0
  try clear hcz10_1
  try clear hcz10_2
  try clear hcz10_3
  try clear hcz10_4
  try clear hcz12_0
  try clear hcz12_1
  try clear hcz12_2
  try clear hcz12_3
  try clear hcz12_4
  try clear hfz10_0
  try clear hfz10_1
  try clear hfz10_2
  try clear hfz10_3
  try clear hfz10_4
  try clear hfz12_0
  try clear hfz12_1
  try clear hfz12_2
  try clear hfz12_3
  try clear hfz12_4
  obtain ⟨x4_1, x1001_1, x1002_1, HA, HK1, HO_4, BK536, HI0, HK, HB⟩ := hrel
  cases gk with
  | zero => exact absurd HA.out (by simp [aK.l0])
  | succ k1 =>
   have H := HA.out
   clear HA
   simp only [aK.l0] at H
   revert H
   refine yB3 fun t545 t546 t547 A14 H => ?_
   try dsimp only at H
   cases t545
   rotate_left
   ·replace H := yT H
    revert H
    refine yB3 fun t548 t551 t552 A16 H => ?_
    try dsimp only at H
    revert H
    refine dX (fun c17 H => ?_) fun c17 H => ?_
    ·have LMc17 := Aside0.mk c17
     clear c17
     obtain ⟨y553, hy553⟩ : ∃ y_ : List (List (S41)), y_ = (x4_1 ++ [t548]) := ⟨_, rfl⟩
     replace H : (aK.l0 F k1 y553 s0_0 t551 t552 1 0 t531 t539 (⟨#[]⟩ : ByteArray)) = some (r1, r2, r3) := by first | (rw [hy553]; with_reducible exact H) | (have H2_ := (Option.bind_some _ _).symm.trans H; rw [hy553]; with_reducible exact H2_) | (have H2_ := (Option.bind_some _ _).symm.trans H; with_reducible exact H2_) | with_reducible exact H | (rw [hy553]; exact H) | exact H
     have Ny553 := Aside0.mk hy553
     clear hy553
     have H' := Aside0.mk H
     clear H
     go_wp2_with (first | ((with_reducible refine gC 53 rfl ?_); refine gM 53 18 rfl Try.func53 (ax.calls g s0_0 x1001_1 x1002_1 (⟨#[117, 115, 101]⟩ : ByteArray) true t546 t547 w0 _ Z10 Z15 A14.out) ?_; rintro _ w18 ⟨rfl, hi, hb, hk⟩; refine ⟨_, rfl, yA5 (Kd.eX (Kd.jG (ai.gK (show ai w0 _ g s0_0 x1001_1 x1002_1 from Z10) Z45 (by decide)) hk (fun _ h => h.2)) (fun _ h => h.1)) (ag.blk hk (g' := gb536) (o := .cells #[.int .i64 1, .int .i64 0, .string t531, .int .i64 t539, .string (⟨#[]⟩ : ByteArray)] 41 (0, 0)) (by exact BK536.out) NB536_0.out (by simp)) (ag.trans Z11 hk (.inl rfl)) (hb) (hi) ?_⟩; clear HO_4 BK536 HK HB HI0 hb; intro HO_4 BK536 HK HB HI0) | ((with_reducible refine gC 54 rfl ?_); refine gM 54 21 rfl Try.func54 (dJ.calls k1 g s0_0 t546 t547 t548 t551 t552 w0 _ Z10 Z15 A16.out) ?_; rintro _ w19 ⟨v549, rfl, ho0, hi, hb, hk⟩; refine ⟨_, rfl, yA6 (Kd.eX (Kd.nX (Kd.nY (ai.gK (show ai w0 _ g s0_0 t546 t547 from Z10) Z45 (by decide)) hk) (Kd.R_base ho0)) (fun _ h_ => h_.1)) (ag.blk hk (g' := gb536) (o := .cells #[.int .i64 1, .int .i64 0, .string t531, .int .i64 t539, .string (⟨#[]⟩ : ByteArray)] 41 (0, 0)) (by exact BK536.out) NB536_0.out (by simp)) (Kd.R_lower (Kd.nz ho0 (g := gb536) (o := .cells #[.int .i64 1, .int .i64 0, .string t531, .int .i64 t539, .string (⟨#[]⟩ : ByteArray)] 41 (0, 0)) (by exact BK536.out)) (by exact aC (w := w) (g := g) (row := none) Z11)) (ag.trans Z11 hk (.inl rfl)) (hb) (hi) ?_⟩; clear HO_4 BK536 HK HB HI0 hb ho0; intro HO_4 BK536 HO550 HK HB HI0; obtain ⟨Ao21, co21, rfl⟩ := Kd.R_slice HO550.out) | ((with_reducible refine dB (b := .append) (xs := #[.tmp 19, .tmp 22]) rfl ?_); at_builtin; refine Kd.lG (Kd.slice 41 k41) w.heap.size rfl (.tmp 19) (.tmp 22) 78 23 (.slice none 0 0) 24 rfl Try.underlying78 info23 rfl (by decide) (by omega) u4 x4_1 t548 [.slice Ao21 t548.length co21] (fun k_ => k_ ≠ gb536) (fun k_ => some k_ = (.slice Ao21 t548.length co21 : Value).ownBlock) rfl rfl ?aP (fun k_ hk_ => ((Kd.bn (ok' := fun k_ => ((fun k_ => k_ ≠ gb536)) k_ ∧ some k_ ≠ (u4 : Value).ownBlock) (Kd.dV (HO550.out) (Kd.iI HO_4.out) (by decide)) (fun k_ hk => ⟨hk.1.2, hk.2⟩))).1 k_ hk_.symm) ?aF ?aO (Below.refl _ _) ?aS ?aL ?_; (case aP => exact Kd.rF (Kd.bn (Kd.kX rfl (Kd.bn (ok' := fun k_ => ((fun k_ => k_ ≠ gb536)) k_ ∧ some k_ ≠ (u4 : Value).ownBlock) (Kd.dV (HO550.out) (Kd.iI HO_4.out) (by decide)) (fun k_ hk => ⟨hk.1.2, hk.2⟩))) (fun _ h_ => h_))); (case aF => exact (fun k_ hk => Kd.nM (g := gb536) (o := .cells #[.int .i64 1, .int .i64 0, .string t531, .int .i64 t539, .string (⟨#[]⟩ : ByteArray)] 41 (0, 0)) (by exact BK536.out) k_ hk)); (case aO => exact (by (with_reducible repeat (first | apply Kd.gX | apply Kd.gW | apply Kd.ja)); exact Kd.eX HO_4.out (fun k_ hk => ⟨hk.1, fun e_ => hk.2 e_⟩))); (case aS => exact (by exact aC (w := w) (g := g) (row := none) Z11)); (case aL => have := LMc17.out; omega); intro v554 w20 ho hb hg hat; rw [← Ny553.out] at ho; refine yA5 (jd (g := gb536) (o := .cells #[.int .i64 1, .int .i64 0, .string t531, .int .i64 t539, .string (⟨#[]⟩ : ByteArray)] 41 (0, 0)) (by exact BK536.out) hg (Kd.GM HO_4.out BK536.out (by decide))) (ai.grown Z10 hg (ai.lQ HI0.out HO_4.out (by decide))) (eY Z15 HL.out hb) (ag.trans Z11 (ag.iq hg g) (Kd.lV HO_4.out)) (ho) ?_; clear BK536 HI0 HB HK HO_4 HO550; intro BK536 HI0 HB HK HO555; clear ho hb hg hat))
     go_roundg k1
     case measure => have := HK1.out; omega
     case rel => exact ⟨(y553), (t551), (t552), H', ⟨by have := HK1.out; omega⟩, ⟨by (with_reducible repeat (first | apply Kd.gX | apply Kd.gW | apply Kd.ja)); exact HO555.out⟩, ⟨by exact BK536.out⟩, ⟨Z10⟩, ⟨Z11⟩, ⟨Z15⟩⟩
    exact absurd H (by simp)
   replace H := yF H
   have H' := Aside0.mk H
   clear H
   go_wp2_with (first | ((with_reducible refine gC 53 rfl ?_); refine gM 53 18 rfl Try.func53 (ax.calls g s0_0 x1001_1 x1002_1 (⟨#[117, 115, 101]⟩ : ByteArray) false t546 t547 w0 _ Z10 Z15 A14.out) ?_; rintro _ w22 ⟨rfl, hi, hb, hk⟩; refine ⟨_, rfl, yA5 (Kd.eX (Kd.jG (ai.gK (show ai w0 _ g s0_0 x1001_1 x1002_1 from Z10) Z45 (by decide)) hk (fun _ h => h.2)) (fun _ h => h.1)) (ag.blk hk (g' := gb536) (o := .cells #[.int .i64 1, .int .i64 0, .string t531, .int .i64 t539, .string (⟨#[]⟩ : ByteArray)] 41 (0, 0)) (by exact BK536.out) NB536_0.out (by simp)) (ag.trans Z11 hk (.inl rfl)) (hb) (hi) ?_⟩; clear HO_4 BK536 HK HB HI0 hb; intro HO_4 BK536 HK HB HI0))
   (try simp only [Act.put, List.setIfInBounds_toArray, List.set_cons_zero, List.set_cons_succ])
   go_loopg [4] k1 (fun kq v4 w' => ∃ (x4_2 : List (List (S41))) (x1001_2 : Int) (x1002_2 : Bool), Aside0 (aK.l1 F kq x4_2 s0_0 x1001_2 x1002_2 1 0 t531 t539 (⟨#[]⟩ : ByteArray) = some (r1, r2, r3)) ∧ Aside0 (kq ≤ k1) ∧ Aside0 (Kd.S (Kd.slice 41 k41) 23 w' w.heap.size (fun k_ => k_ ≠ gb536) v4 x4_2) ∧ Aside0 (w'.heap[gb536]? = some (.cells #[.int .i64 1, .int .i64 0, .string t531, .int .i64 t539, .string (⟨#[]⟩ : ByteArray)] 41 (0, 0))) ∧ Aside0 (ai w0 w' g s0_0 x1001_2 x1002_2) ∧ Aside0 (ag w w' g none) ∧ Aside0 (Below w0.heap.size w0 w'))
   case atStart => exact ⟨(x4_1), (t546), (t547), H', ⟨Nat.le_refl _⟩, ⟨Z45⟩, ⟨by exact BK536.out⟩, ⟨Z10⟩, ⟨Z11⟩, ⟨Z15⟩⟩
   case round =>
    clear H'
    try clear c1
    try clear c2
    try clear p2
    try clear c5
    try clear c9
    try clear c15
    try clear c17
    try clear hcz10_0
    try clear hcz10_1
    try clear hcz10_2
    try clear hcz10_3
    try clear hcz10_4
    try clear hcz12_0
    try clear hcz12_1
    try clear hcz12_2
    try clear hcz12_3
    try clear hcz12_4
    try clear hfz10_0
    try clear hfz10_1
    try clear hfz10_2
    try clear hfz10_3
    try clear hfz10_4
    try clear hfz12_0
    try clear hfz12_1
    try clear hfz12_2
    try clear hfz12_3
    try clear hfz12_4
    try clear p2
    obtain ⟨x4_2, x1001_2, x1002_2, HA, HK2, HO_4, BK536, HI0, HK, HB⟩ := hrel
    cases gk with
    | zero => exact absurd HA.out (by simp [aK.l1])
    | succ k2 =>
     have H := HA.out
     clear HA
     simp only [aK.l1] at H
     revert H
     refine yB3 fun t556 t557 t558 A23 H => ?_
     try dsimp only at H
     cases t556
     rotate_left
     ·replace H := yT H
      revert H
      refine yB6 fun t559 t560 t561 t562 t563 t564 A25 H => ?_
      try dsimp only at H
      revert H
      refine yB3 fun t565 t568 t569 A26 H => ?_
      try dsimp only at H
      revert H
      refine dX (fun c27 H => ?_) fun c27 H => ?_
      ·have LMc27 := Aside0.mk c27
       clear c27
       obtain ⟨y570, hy570⟩ : ∃ y_ : List (List (S41)), y_ = (x4_2 ++ [t565]) := ⟨_, rfl⟩
       replace H : (aK.l1 F k2 y570 s0_0 t568 t569 1 0 t531 t539 (⟨#[]⟩ : ByteArray)) = some (r1, r2, r3) := by first | (rw [hy570]; with_reducible exact H) | (have H2_ := (Option.bind_some _ _).symm.trans H; rw [hy570]; with_reducible exact H2_) | (have H2_ := (Option.bind_some _ _).symm.trans H; with_reducible exact H2_) | with_reducible exact H | (rw [hy570]; exact H) | exact H
       have Ny570 := Aside0.mk hy570
       clear hy570
       have H' := Aside0.mk H
       clear H
       go_wp2_with (first | ((with_reducible refine gC 53 rfl ?_); refine gM 53 25 rfl Try.func53 (ax.calls g s0_0 x1001_2 x1002_2 (⟨#[102, 110]⟩ : ByteArray) true t557 t558 w0 _ Z10 Z15 A23.out) ?_; rintro _ w28 ⟨rfl, hi, hb, hk⟩; refine ⟨_, rfl, yA5 (Kd.eX (Kd.jG (ai.gK (show ai w0 _ g s0_0 x1001_2 x1002_2 from Z10) Z45 (by decide)) hk (fun _ h => h.2)) (fun _ h => h.1)) (ag.blk hk (g' := gb536) (o := .cells #[.int .i64 1, .int .i64 0, .string t531, .int .i64 t539, .string (⟨#[]⟩ : ByteArray)] 41 (0, 0)) (by exact BK536.out) NB536_0.out (by simp)) (ag.trans Z11 hk (.inl rfl)) (hb) (hi) ?_⟩; clear HO_4 BK536 HK HB HI0 hb; intro HO_4 BK536 HK HB HI0) | ((with_reducible refine gC 52 rfl ?_); refine gM 52 29 rfl Try.func52 (bu.calls g s0_0 t557 t558 1 t559 t560 t561 t562 t563 t564 w0 _ Z10 Z15 A25.out) ?_; rintro _ w29 ⟨rfl, hi, hb, hk⟩; refine ⟨_, rfl, yA5 (Kd.eX (Kd.jG (ai.gK (show ai w0 _ g s0_0 t557 t558 from Z10) Z45 (by decide)) hk (fun _ h => h.2)) (fun _ h => h.1)) (ag.blk hk (g' := gb536) (o := .cells #[.int .i64 1, .int .i64 0, .string t531, .int .i64 t539, .string (⟨#[]⟩ : ByteArray)] 41 (0, 0)) (by exact BK536.out) NB536_0.out (by simp)) (ag.trans Z11 hk (.inl rfl)) (hb) (hi) ?_⟩; clear HO_4 BK536 HK HB HI0 hb; intro HO_4 BK536 HK HB HI0) | ((with_reducible refine gC 55 rfl ?_); refine gM 55 32 rfl Try.func55 (bf.calls F HF k2 g s0_0 t563 t564 3 0 t560 0 (⟨#[]⟩ : ByteArray) t565 t568 t569 w0 _ Z10 Z15 A26.out) ?_; rintro _ w30 ⟨v566, rfl, ho0, hi, hb, hk⟩; refine ⟨_, rfl, yA6 (Kd.eX (Kd.nX (Kd.nY (ai.gK (show ai w0 _ g s0_0 t563 t564 from Z10) Z45 (by decide)) hk) (Kd.R_base ho0)) (fun _ h_ => h_.1)) (ag.blk hk (g' := gb536) (o := .cells #[.int .i64 1, .int .i64 0, .string t531, .int .i64 t539, .string (⟨#[]⟩ : ByteArray)] 41 (0, 0)) (by exact BK536.out) NB536_0.out (by simp)) (Kd.R_lower (Kd.nz ho0 (g := gb536) (o := .cells #[.int .i64 1, .int .i64 0, .string t531, .int .i64 t539, .string (⟨#[]⟩ : ByteArray)] 41 (0, 0)) (by exact BK536.out)) (by exact aC (w := w) (g := g) (row := none) Z11)) (ag.trans Z11 hk (.inl rfl)) (hb) (hi) ?_⟩; clear HO_4 BK536 HK HB HI0 hb ho0; intro HO_4 BK536 HO567 HK HB HI0; obtain ⟨Ao32, co32, rfl⟩ := Kd.R_slice HO567.out) | ((with_reducible refine dB (b := .append) (xs := #[.tmp 26, .tmp 33]) rfl ?_); at_builtin; refine Kd.lG (Kd.slice 41 k41) w.heap.size rfl (.tmp 26) (.tmp 33) 78 23 (.slice none 0 0) 24 rfl Try.underlying78 info23 rfl (by decide) (by omega) u4 x4_2 t565 [.slice Ao32 t565.length co32] (fun k_ => k_ ≠ gb536) (fun k_ => some k_ = (.slice Ao32 t565.length co32 : Value).ownBlock) rfl rfl ?aP (fun k_ hk_ => ((Kd.bn (ok' := fun k_ => ((fun k_ => k_ ≠ gb536)) k_ ∧ some k_ ≠ (u4 : Value).ownBlock) (Kd.dV (HO567.out) (Kd.iI HO_4.out) (by decide)) (fun k_ hk => ⟨hk.1.2, hk.2⟩))).1 k_ hk_.symm) ?aF ?aO (Below.refl _ _) ?aS ?aL ?_; (case aP => exact Kd.rF (Kd.bn (Kd.kX rfl (Kd.bn (ok' := fun k_ => ((fun k_ => k_ ≠ gb536)) k_ ∧ some k_ ≠ (u4 : Value).ownBlock) (Kd.dV (HO567.out) (Kd.iI HO_4.out) (by decide)) (fun k_ hk => ⟨hk.1.2, hk.2⟩))) (fun _ h_ => h_))); (case aF => exact (fun k_ hk => Kd.nM (g := gb536) (o := .cells #[.int .i64 1, .int .i64 0, .string t531, .int .i64 t539, .string (⟨#[]⟩ : ByteArray)] 41 (0, 0)) (by exact BK536.out) k_ hk)); (case aO => exact (by (with_reducible repeat (first | apply Kd.gX | apply Kd.gW | apply Kd.ja)); exact Kd.eX HO_4.out (fun k_ hk => ⟨hk.1, fun e_ => hk.2 e_⟩))); (case aS => exact (by exact aC (w := w) (g := g) (row := none) Z11)); (case aL => have := LMc27.out; omega); intro v571 w31 ho hb hg hat; rw [← Ny570.out] at ho; refine yA5 (jd (g := gb536) (o := .cells #[.int .i64 1, .int .i64 0, .string t531, .int .i64 t539, .string (⟨#[]⟩ : ByteArray)] 41 (0, 0)) (by exact BK536.out) hg (Kd.GM HO_4.out BK536.out (by decide))) (ai.grown Z10 hg (ai.lQ HI0.out HO_4.out (by decide))) (eY Z15 HL.out hb) (ag.trans Z11 (ag.iq hg g) (Kd.lV HO_4.out)) (ho) ?_; clear BK536 HI0 HB HK HO_4 HO567; intro BK536 HI0 HB HK HO572; clear ho hb hg hat))
       go_roundg k2
       case measure => have := HK1.out; have := HK2.out; omega
       case rel => exact ⟨(y570), (t568), (t569), H', ⟨by have := HK1.out; have := HK2.out; omega⟩, ⟨by (with_reducible repeat (first | apply Kd.gX | apply Kd.gW | apply Kd.ja)); exact HO572.out⟩, ⟨by exact BK536.out⟩, ⟨Z10⟩, ⟨Z11⟩, ⟨Z15⟩⟩
      exact absurd H (by simp)
     replace H := yF H
     revert H
     refine yB1 fun t573 A33 H => ?_
     simp only [Option.some.injEq, Prod.mk.injEq] at H
     obtain ⟨rfl, rfl, rfl⟩ := H
     go_wp2_with (first | ((with_reducible refine gC 53 rfl ?_); refine gM 53 25 rfl Try.func53 (ax.calls g s0_0 x1001_2 x1002_2 (⟨#[102, 110]⟩ : ByteArray) false t557 t558 w0 _ Z10 Z15 A23.out) ?_; rintro _ w34 ⟨rfl, hi, hb, hk⟩; refine ⟨_, rfl, yA5 (Kd.eX (Kd.jG (ai.gK (show ai w0 _ g s0_0 x1001_2 x1002_2 from Z10) Z45 (by decide)) hk (fun _ h => h.2)) (fun _ h => h.1)) (ag.blk hk (g' := gb536) (o := .cells #[.int .i64 1, .int .i64 0, .string t531, .int .i64 t539, .string (⟨#[]⟩ : ByteArray)] 41 (0, 0)) (by exact BK536.out) NB536_0.out (by simp)) (ag.trans Z11 hk (.inl rfl)) (hb) (hi) ?_⟩; clear HO_4 BK536 HK HB HI0 hb; intro HO_4 BK536 HK HB HI0; have hnb35 := NB536_0.out; have hnc35 := NB0_536.out; have hcz36_0 : w34.cell? ⟨gb536, 0, none⟩ = some (.int .i64 1) := (af BK536.out 0).trans rfl; have hcz36_1 : w34.cell? ⟨gb536, 1, none⟩ = some (.int .i64 0) := (af BK536.out 1).trans rfl; have hcz36_2 : w34.cell? ⟨gb536, 2, none⟩ = some (.string t531) := (af BK536.out 2).trans rfl; have hcz36_3 : w34.cell? ⟨gb536, 3, none⟩ = some (.int .i64 t539) := (af BK536.out 3).trans rfl; have hcz36_4 : w34.cell? ⟨gb536, 4, none⟩ = some (.string (⟨#[]⟩ : ByteArray)) := (af BK536.out 4).trans rfl; have hfz36_0 := ae BK536.out 0; have hfz36_1 := ae BK536.out 1; have hfz36_2 := ae BK536.out 2; have hfz36_3 := ae BK536.out 3; have hfz36_4 := ae BK536.out 4; obtain ⟨Ao37, co37, rfl⟩ := Kd.kW HO_4.out) | ((with_reducible refine gC 56 rfl ?_); refine gM 56 37 rfl Try.func56 (au.calls k2 1 0 t531 t539 (⟨#[]⟩ : ByteArray) _ _ x4_2 t573 _ (by repeat (first | exact (Kd.jJ HO_4.out).2.2 | (with_reducible refine Kd.C_alloc ?_ _) | (with_reducible refine Kd.C_drewN ?_ _) | (with_reducible refine Kd.C_drew ?_))) ((Kd.jJ HO_4.out).2.1) A33.out) ?_; rintro _ w38 ⟨v574, rfl, ho0, hb⟩; refine ⟨_, rfl, yA6 (Kd.nZ Z45 (Kd.R_base ho0) hb) (Kd.R_lower (Kd.nz ho0 (g := gb536) (o := .cells #[.int .i64 1, .int .i64 0, .string t531, .int .i64 t539, .string (⟨#[]⟩ : ByteArray)] 41 (0, 0)) (by exact BK536.out)) (by exact aC (w := w) (g := g) (row := none) Z11)) (bV (g := gb536) (o := .cells #[.int .i64 1, .int .i64 0, .string t531, .int .i64 t539, .string (⟨#[]⟩ : ByteArray)] 41 (0, 0)) (by exact BK536.out) hb) (ai.below Z10 hb) (ag.trans Z11 (ag.of_below hb g none) (.inl rfl)) (below_step Z15 hb) ?_⟩; clear HO_4 BK536 HI0 HK HB hb ho0; intro HO_4 HO575 BK536 HI0 HK HB))
     go_ret
     exact ⟨_, Z4, by (with_reducible repeat (first | apply Kd.R_alloc | apply Kd.R_drewN | apply Kd.R_drew)); exact Kd.bn HO575.out (fun _ hk => trivial), Z10, Z15, Z11⟩
end Go.Proofs.Ytendgafpkeadhaa.Q
end
section
set_option linter.unusedVariables false
set_option linter.unusedSimpArgs false
namespace Go.Proofs.Ytendgafpkeadhaa.Q
open Go.RowKit Go.Proofs.YtendgafpkeadhaaW.PrintWords Go.Proofs.YtendgafpkeadhaaW.PrintLast Go.Proofs.YtendgafpkeadhaaW.PrintMore
def fam : Nat → Fam
 | 0 => ⟨fun _ _ _ => none, fun _ _ _ => none, fun _ _ _ _ => none, fun _ _ _ => none⟩
 | k + 1 => ⟨fun a b c => dD.f (fam k) k a b c, fun a b c => aX.f (fam k) k a b c, fun a b c d => aU.f (fam k) k a b c d, fun a b c => aH.f (fam k) k a b c⟩
theorem ui : ∀ k, kL (fam k)
 | 0 => ⟨fun _ _ _ _ _ _ _ _ _ _ _ h => (by simp [fam] at h), fun _ _ _ _ _ _ _ _ _ _ _ h => (by simp [fam] at h), fun _ _ _ _ _ _ _ _ _ _ _ _ h => (by simp [fam] at h), fun _ _ _ _ _ _ _ _ _ _ _ h => (by simp [fam] at h)⟩
 | k + 1 => ⟨fun g s0 s1 s2 r1 r2 r3 w0 w hI hB h => dD.calls (fam k) (ui k) k g s0 s1 s2 r1 r2 r3 w0 w hI hB h,
  fun g s0 s1 s2 r1 r2 r3 w0 w hI hB h => aX.calls (fam k) (ui k) k g s0 s1 s2 r1 r2 r3 w0 w hI hB h,
  fun g s0 s1 s2 a1 r1 r2 r3 w0 w hI hB h => aU.calls (fam k) (ui k) k g s0 s1 s2 a1 r1 r2 r3 w0 w hI hB h,
  fun g s0 s1 s2 r1 r2 r3 w0 w hI hB h => aH.calls (fam k) (ui k) k g s0 s1 s2 r1 r2 r3 w0 w hI hB h⟩
theorem uj : ∀ k, ji (fam k) (fam (k + 1))
 | 0 => ⟨fun _ _ _ => LeO.none _, fun _ _ _ => LeO.none _, fun _ _ _ _ => LeO.none _, fun _ _ _ => LeO.none _⟩
 | k + 1 => ⟨fun a b c => dD.mono (uj k) a b c k, fun a b c => aX.mono (uj k) a b c k, fun a b c d => aU.mono (uj k) a b c d k, fun a b c => aH.mono (uj k) a b c k⟩
end Go.Proofs.Ytendgafpkeadhaa.Q
end
section
namespace Go.Proofs.Ytendgafpkeadhaa.Q
open Go.RowKit Go.Proofs.YtendgafpkeadhaaW.PrintWords Go.Proofs.YtendgafpkeadhaaW.PrintLast Go.Proofs.YtendgafpkeadhaaW.PrintMore
attribute [local go_sem] iY iW iV iU max2_int min2_int max_two min_two max_three min_three max_four min_four
set_option linter.unusedVariables false
set_option linter.unusedSimpArgs false
/-! ### dS: function 26 -/
def dS.f (s0_0 : List (S38)) (s0_1 : Int) (s0_2 : Bool) : Option (Int × Int × Bool) := if s0_1 < (s0_0.length : Int) then (if 0 ≤ s0_1 then (some ((rd_T38 s0_0 s0_1).f3, s0_1, s0_2)) else (none)) else (if (s0_0.length : Int) > 0 then (if 0 ≤ (wrap64 ((s0_0.length : Int) - 1)) then (if (wrap64 ((s0_0.length : Int) - 1)) < (s0_0.length : Int) then (some (wrap64 (((rd_T38 s0_0 (wrap64 ((s0_0.length : Int) - 1))).f3) + 1), s0_1, s0_2)) else (none)) else (none)) else (some (0, s0_1, s0_2)))
set_option maxHeartbeats 8000000 in
set_option maxRecDepth 100000 in
theorem dS.calls (g : Nat) (s0_0 : List (S38)) (s0_1 : Int) (s0_2 : Bool) (r1 : Int) (r2 : Int) (r3 : Bool) (w0 w : World) (hI : ai w0 w g s0_0 s0_1 s0_2) (hB : Below w0.heap.size w0 w) (h : dS.f s0_0 s0_1 s0_2 = some (r1, r2, r3)) :
 Calls Try.prog 26 #[.pointer (some ⟨g, 0, none⟩)] w fun e w' => e = .returned (.int .i64 r1) ∧ ai w0 w' g s0_0 r2 r3 ∧ Below w0.heap.size w0 w' ∧ ag w w' g none := by
 have HI0 := Aside0.mk hI
 have HK := Aside0.mk (ag.refl w g none)
 have HL := Aside0.mk hB.size
 clear hI
 have HW0 := Aside0.mk hB.size
 have HB := Aside0.mk hB
 clear hB
 have H := h
 clear h
 unfold dS.f at H
 revert H
 refine fO (fun c2b0 H => ?_) fun c2b0 H => ?_
 ·revert H
  refine eQ (fun c3b0 H => ?_) fun c3 H => ?_
  ·simp only [Option.some.injEq, Prod.mk.injEq] at H
   obtain ⟨rfl, rfl, rfl⟩ := H
   obtain ⟨ASz4_0, cSz4_0, HGz4, hgz4, HSz4_0⟩ := HI0.out
   have hcz4_0 := dH HGz4
   have hcz4_1 := dG HGz4
   have hcz4_2 := dF HGz4
   have hfz4_1 := ae HGz4 1
   have hfz4_2 := ae HGz4 2
   clear HGz4 hgz4
   have p576 : 0 ≤ (s0_1 : Int) := of_decide_eq_true Z5
   have q576 : s0_1 < (s0_0.length : Int) := of_decide_eq_true Z5
   obtain ⟨ad576, e576, hx576_0, hx576_1, hx576_2, hx576_3⟩ := xk HSz4_0 s0_1 p576 q576
   cases e576
   replace hx576_0 := dY HB.out hx576_0
   replace hx576_1 := dY HB.out hx576_1
   replace hx576_2 := dY HB.out hx576_2
   replace hx576_3 := dY HB.out hx576_3
   replace p576 := eq_true p576
   replace q576 := eq_true q576
   go_enter Try.func26, Try.ntmps26
   go_wp2
   repeat (go_quiet (fail); try go_wp2)
   go_ret
   exact ⟨Z4, Z0, Z2, Z1⟩
  exact absurd H (by simp)
 revert H
 refine dX (fun c5 H => ?_) fun c5 H => ?_
 ·have c5b0 : decide (0 < (s0_0.length : Int)) = true := decide_eq_true c5
  have c5b1 : decide (0 < s0_0.length) = true := decide_eq_true (by omega)
  clear c5
  obtain ⟨ji6, hji6⟩ : ∃ j_ : Int, (wrap64 ((s0_0.length : Int) - 1)) = j_ := ⟨_, rfl⟩
  replace H : (if 0 ≤ (ji6) then (if (ji6) < (s0_0.length : Int) then (some (wrap64 (((rd_T38 s0_0 (ji6)).f3) + 1), s0_1, s0_2)) else (none)) else (none)) = some (r1, r2, r3) := by first | (rw [hji6] at H; exact H) | (simp only [hji6] at H ⊢; exact H)
  have hji6w : (IntKind.i64.wrap ((s0_0.length : Int) - 1)) = ji6 := (dE _).trans hji6
  revert H
  refine eQ (fun c7b0 H => ?_) fun c7 H => ?_
  ·revert H
   refine eQ (fun c8b0 H => ?_) fun c8 H => ?_
   ·simp only [Option.some.injEq, Prod.mk.injEq] at H
    obtain ⟨rfl, rfl, rfl⟩ := H
    obtain ⟨ASz9_0, cSz9_0, HGz9, hgz9, HSz9_0⟩ := HI0.out
    have hcz9_0 := dH HGz9
    have hcz9_1 := dG HGz9
    have hcz9_2 := dF HGz9
    have hfz9_1 := ae HGz9 1
    have hfz9_2 := ae HGz9 2
    clear HGz9 hgz9
    have p577 : 0 ≤ ((ji6) : Int) := of_decide_eq_true Z5
    have q577 : (ji6) < (s0_0.length : Int) := of_decide_eq_true Z5
    obtain ⟨ad577, e577, hx577_0, hx577_1, hx577_2, hx577_3⟩ := xk HSz9_0 (ji6) p577 q577
    cases e577
    replace hx577_0 := dY HB.out hx577_0
    replace hx577_1 := dY HB.out hx577_1
    replace hx577_2 := dY HB.out hx577_2
    replace hx577_3 := dY HB.out hx577_3
    replace p577 := eq_true p577
    replace q577 := eq_true q577
    go_enter Try.func26, Try.ntmps26
    go_wp2
    repeat (go_quiet (fail); try go_wp2)
    go_ret
    exact ⟨by first | rfl | (simp [errW_none, errW_some] <;> rfl) | (simp only [← hji6]; first | rfl | (simp [errW_none, errW_some] <;> rfl)) | (simp [*, errW_none, errW_some] <;> rfl), Z0, Z2, Z1⟩
   exact absurd H (by simp)
  exact absurd H (by simp)
 have c5b0 : decide (0 < (s0_0.length : Int)) = false := decide_eq_false c5
 have c5b1 : decide (0 < s0_0.length) = false := decide_eq_false (by omega)
 clear c5
 simp only [Option.some.injEq, Prod.mk.injEq] at H
 obtain ⟨rfl, rfl, rfl⟩ := H
 obtain ⟨ASz10_0, cSz10_0, HGz10, hgz10, HSz10_0⟩ := HI0.out
 have hcz10_0 := dH HGz10
 have hcz10_1 := dG HGz10
 have hcz10_2 := dF HGz10
 have hfz10_1 := ae HGz10 1
 have hfz10_2 := ae HGz10 2
 clear HGz10 hgz10
 go_enter Try.func26, Try.ntmps26
 go_wp2
 repeat (go_quiet (fail); try go_wp2)
 go_ret
 exact ⟨Z4, Z0, Z2, Z1⟩
end Go.Proofs.Ytendgafpkeadhaa.Q
end
