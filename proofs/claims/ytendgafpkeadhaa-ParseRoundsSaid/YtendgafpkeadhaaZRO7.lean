/- Walks over functions of the program, words for them, and what the functions come to; of each text only what this claim uses; no condition. -/
import Derived.Test.YtendgafpkeadhaaZRO0
import Derived.Test.YtendgafpkeadhaaZRO1
import Derived.Test.YtendgafpkeadhaaZRO3
import Derived.Test.YtendgafpkeadhaaZRO4
import Derived.Test.YtendgafpkeadhaaZRO5
import Derived.Test.YtendgafpkeadhaaZRO6
namespace Go.Proofs.Ytendgafpkeadhaa.Q
open Go.RowKit Go.Proofs.YtendgafpkeadhaaW.PrintWords Go.Proofs.YtendgafpkeadhaaW.PrintLast Go.Proofs.YtendgafpkeadhaaW.PrintMore
attribute [local go_sem] iY iW iV iU max2_int min2_int max_two min_two max_three min_three max_four min_four
set_option linter.unusedVariables false
set_option linter.unusedSimpArgs false
/-! ### aT: function 79 -/
def aT.j0 (F : Fam) : Nat → List (S41) → Bool → List (S38) → Int → Bool → Option ((List (S41)) × Int × Bool)
 | 0, _, _, _, _, _ => none
 | k + 1, x3, x8, x1000, x1001, x1002 => if x8 = true then ((aG.f x1000 x1001 x1002 (⟨#[59]⟩ : ByteArray)).bind fun bt307 => ((au.f k 17 0 (⟨#[]⟩ : ByteArray) 0 (⟨#[]⟩ : ByteArray) (([x3] : List (List (S41))))).bind fun t312 => (some (t312, bt307.1, bt307.2)))) else (if 0 < (x3.length : Int) then (if ((rd_T41 x3 0).f0) = 21 then ((aG.f x1000 x1001 x1002 (⟨#[61]⟩ : ByteArray)).bind fun bt316 => ((bC.f F k x1000 bt316.1 bt316.2 7 0 ((rd_T41 x3 0).f2) 0 (⟨#[]⟩ : ByteArray)).bind fun bt319 => (some (bt319.1, bt319.2.1, bt319.2.2)))) else (if ((rd_T41 x3 0).f0) = 26 then ((aG.f x1000 x1001 x1002 (⟨#[61]⟩ : ByteArray)).bind fun bt325 => ((df.f k x3 0).bind fun t327 => ((fE.f F k x1000 bt325.1 bt325.2).bind fun bt330 => ((aG.f x1000 bt330.2.1 bt330.2.2 (⟨#[59]⟩ : ByteArray)).bind fun bt335 => (if 0 < (t327.length : Int) then ((fJ.f k x3 (rd t327 0)).bind fun t338 => (if 1 < (t327.length : Int) then ((fJ.f k x3 (rd t327 1)).bind fun t342 => ((au.f k 8 0 (⟨#[]⟩ : ByteArray) 0 (⟨#[]⟩ : ByteArray) (([t338, t342, bt330.1] : List (List (S41))))).bind fun t348 => (some (t348, bt335.1, bt335.2)))) else (none))) else (none)))))) else (some (([] : List (S41)), x1001, true)))) else (none))
def aT.f (F : Fam) (k : Nat) (s0_0 : List (S38)) (s0_1 : Int) (s0_2 : Bool) : Option ((List (S41)) × Int × Bool) := (fE.f F k s0_0 s0_1 s0_2).bind fun bt299 => (if bt299.2.2 = true then (aT.j0 F k bt299.1 true s0_0 bt299.2.1 bt299.2.2) else ((aZ.f s0_0 bt299.2.1 bt299.2.2).bind fun bt304 => (aT.j0 F k bt299.1 (bt304.1.toList != ([61] : List UInt8)) s0_0 bt304.2.1 bt304.2.2)))
theorem aT.mono_l {F F' : Fam} (HLE : ji F F') : ∀ k, (∀ y0 y1 y2 y3 y4, LeO (aT.j0 F k y0 y1 y2 y3 y4) (aT.j0 F' (k + 1) y0 y1 y2 y3 y4))
 | 0 => fun _ _ _ _ _ r h => by simp [aT.j0] at h
 | k + 1 => by
  have ih0 := aT.mono_l HLE k
  intro y0 y1 y2 y3 y4
  unfold aT.j0
  have m0 := au.mono
  have m1 := (bC.mono HLE)
  have m2 := (fE.mono HLE)
  have m3 := df.mono
  have m4 := fJ.mono
  exact yL
theorem aT.mono {F F' : Fam} (HLE : ji F F') : ∀ a0 a1 a2 k, LeO (aT.f F k a0 a1 a2) (aT.f F' (k + 1) a0 a1 a2) := by
 intro a0 a1 a2 k
 have ih0 := aT.mono_l HLE k
 unfold aT.f
 have m0 := au.mono
 have m1 := (bC.mono HLE)
 have m2 := (fE.mono HLE)
 have m3 := df.mono
 have m4 := fJ.mono
 exact yL
def aT.T13 : Bool × List (List Nat × List Nat) := (true, [([], []), ([], []), ([], []), ([2], [2]), ([3], [3]), ([1, 4], [1, 4]), ([], []), ([], []), ([7], [7]), ([8], [8]), ([6, 9, 5], [6, 9]), ([], []), ([5, 10, 11], [5, 10, 11]), ([0, 12, 10], [0, 12]), ([13, 13, 0, 1, 2, 3, 4, 5, 6, 7, 8, 9, 10, 11, 12, 13], [13])])
def aT.B13 : List Nat := [0, 0, 0, 4, 12, 30, 0, 0, 128, 384, 1022, 0, 4094, 8191, 16383]
theorem aT.J3 : rtab .any (opsOf Try.f79 13) = aT.T13 := by kernel_rfl
theorem aT.Jf : waitsOk aT.T13.2 aT.B13 = true := by kernel_rfl
set_option maxHeartbeats 8000000 in
set_option maxRecDepth 100000 in
theorem aT.calls (F : Fam) (HF : kL F) (k : Nat) (g : Nat) (s0_0 : List (S38)) (s0_1 : Int) (s0_2 : Bool) (r1 : List (S41)) (r2 : Int) (r3 : Bool) (w0 w : World) (hI : ai w0 w g s0_0 s0_1 s0_2) (hB : Below w0.heap.size w0 w) (h : aT.f F k s0_0 s0_1 s0_2 = some (r1, r2, r3)) :
 Calls Try.prog 79 #[.pointer (some ⟨g, 0, none⟩)] w fun e w' => ∃ v0_ : Value, e = .returned (v0_) ∧ Kd.R k41 41 w' w.heap.size (fun _ => True) v0_ r1 ∧ ai w0 w' g s0_0 r2 r3 ∧ Below w0.heap.size w0 w' ∧ ag w w' g none := by
 have hu41 := Try.underlying41
 have HI0 := Aside0.mk hI
 have HK := Aside0.mk (ag.refl w g none)
 have HL := Aside0.mk hB.size
 clear hI
 have HW0 := Aside0.mk hB.size
 have HB := Aside0.mk hB
 clear hB
 have H := h
 clear h
 unfold aT.f at H
 revert H
 refine yB3 fun t299 t302 t303 A2 H => ?_
 try dsimp only at H
 have HC3 := Aside0.mk H
 clear H
 go_enter Try.func79, Try.ntmps79
 go_upto_region 2 with (first | ((with_reducible refine gC 77 rfl ?_); refine gM 77 7 rfl Try.func77 (fE.calls F HF k g s0_0 s0_1 s0_2 t299 t302 t303 w0 _ Z0 Z2 A2.out) ?_; rintro _ w4 ⟨v300, rfl, ho0, hi, hb, hk⟩; refine ⟨_, rfl, yA4 (Kd.R_lower ho0 (by exact aC (w := w) (g := g) (row := none) Z1)) (ag.trans Z1 hk (.inl rfl)) (hb) (hi) ?_⟩; clear HK HB HI0 hb ho0; intro HO301 HK HB HI0))
 (try simp only [Act.put, List.setIfInBounds_toArray, List.set_cons_zero, List.set_cons_succ])
 go_cut [8] (fun v8 wc => ∃ (kq : Nat) (x8_2 : Bool) (x1001_2 : Int) (x1002_2 : Bool), v8 = .bool x8_2 ∧ Aside0 (aT.j0 F kq t299 x8_2 s0_0 x1001_2 x1002_2 = some (r1, r2, r3)) ∧ Aside0 (kq ≤ k) ∧ Aside0 (Kd.R k41 41 wc w.heap.size (fun _ => True) v300 t299) ∧ Aside0 (ai w0 wc g s0_0 x1001_2 x1002_2) ∧ Aside0 (ag w wc g none) ∧ Aside0 (Below w0.heap.size w0 wc))
 case first =>
  have H := HC3.out
  clear HC3
  cases t303
  rotate_left
  ·replace H := yT H
   have H' := Aside0.mk H
   clear H
   obtain ⟨ASz6_0, cSz6_0, HGz6, hgz6, HSz6_0⟩ := HI0.out
   have hcz6_0 := dH HGz6
   have hcz6_1 := dG HGz6
   have hcz6_2 := dF HGz6
   have hfz6_1 := ae HGz6 1
   have hfz6_2 := ae HGz6 2
   clear HGz6 hgz6
   go_wp2
   go_meet
   case rel => exact ⟨_, (true), (t302), (true), Z6, H', ⟨Z38⟩, ⟨Z73⟩, ⟨Z0⟩, ⟨Z1⟩, ⟨Z2⟩⟩
  replace H := yF H
  revert H
  refine yB3 fun t304 t305 t306 A7 H => ?_
  try dsimp only at H
  have H' := Aside0.mk H
  clear H
  obtain ⟨ASz8_0, cSz8_0, HGz8, hgz8, HSz8_0⟩ := HI0.out
  have hcz8_0 := dH HGz8
  have hcz8_1 := dG HGz8
  have hcz8_2 := dF HGz8
  have hfz8_1 := ae HGz8 1
  have hfz8_2 := ae HGz8 2
  clear HGz8 hgz8
  go_wp2_with (first | (go_at_call 71; (with_reducible refine (aZ.calls g s0_0 t302 false t304 t305 t306 w0 _ ?side1 ?side2 A7.out).mono ?_); (case side1 => exact Z0); (case side2 => exact Z2); rintro e w9 ⟨rfl, hi, hb, hk⟩; refine yA4 (Kd.bn (Kd.iF (ai.apart (show ai w0 _ g s0_0 t302 false from Z0) Z73 (by decide)) hk (fun _ h => h.2)) (fun _ h => h.1)) (ag.trans Z1 hk (.inl rfl)) (hb) (hi) ?_; clear HO301 HK HB HI0; intro HO301 HK HB HI0; (try clear hb)))
  go_meet
  case rel => exact ⟨_, ((t304.toList != ([61] : List UInt8))), (t305), (t306), Z6, H', ⟨Z38⟩, ⟨Z73⟩, ⟨Z0⟩, ⟨Z1⟩, ⟨Z2⟩⟩
 case rest =>
  clear HC3
  try clear p2
  try clear c5
  try clear c7
  try clear c8
  try clear hcz6_0
  try clear hcz6_1
  try clear hcz6_2
  try clear hcz8_0
  try clear hcz8_1
  try clear hcz8_2
  try clear hfz6_1
  try clear hfz6_2
  try clear hfz8_1
  try clear hfz8_2
  obtain ⟨kq, x8_2, x1001_2, x1002_2, rfl, HA, HJ2, HO_3, HI0, HK, HB⟩ := hcut
  cases kq with
  | zero => exact absurd HA.out (by simp [aT.j0])
  | succ kj2 =>
   have H := HA.out
   clear HA
   simp only [aT.j0] at H
   cases x8_2
   rotate_left
   ·replace H := yT H
    revert H
    refine yB2 fun t307 t308 A11 H => ?_
    try dsimp only at H
    obtain ⟨y309, hy309⟩ : ∃ y_ : List (List (S41)), y_ = (([t299] : List (List (S41)))) := ⟨_, rfl⟩
    replace H : ((au.f kj2 17 0 (⟨#[]⟩ : ByteArray) 0 (⟨#[]⟩ : ByteArray) y309).bind fun t312 => (some (t312, t307, t308))) = some (r1, r2, r3) := by first | (rw [hy309]; with_reducible exact H) | (have H2_ := (Option.bind_some _ _).symm.trans H; rw [hy309]; with_reducible exact H2_) | (have H2_ := (Option.bind_some _ _).symm.trans H; with_reducible exact H2_) | with_reducible exact H | (rw [hy309]; exact H) | exact H
    have Ny309 := Aside0.mk hy309
    clear hy309
    revert H
    refine yB1 fun t312 A12 H => ?_
    simp only [Option.some.injEq, Prod.mk.injEq] at H
    obtain ⟨rfl, rfl, rfl⟩ := H
    go_wp2_with (first | ((with_reducible refine gC 51 rfl ?_); refine gM 51 19 rfl Try.func51 (aG.calls g s0_0 x1001_2 x1002_2 (⟨#[59]⟩ : ByteArray) t307 t308 w0 _ Z0 Z2 A11.out) ?_; rintro _ w13 ⟨rfl, hi, hb, hk⟩; refine ⟨_, rfl, yA4 (Kd.bn (Kd.iF (ai.apart (show ai w0 _ g s0_0 x1001_2 x1002_2 from Z0) Z21 (by decide)) hk (fun _ h => h.2)) (fun _ h => h.1)) (ag.trans Z1 hk (.inl rfl)) (hb) (hi) ?_⟩; clear HO_3 HK HB HI0 hb; intro HO_3 HK HB HI0; obtain ⟨Ao14, co14, rfl⟩ := Kd.R_slice HO_3.out) | ((with_reducible refine bJ (N := 22) rfl ?_); refine Kd.oh (Kd.slice 41 k41) _ 23 ?hg (N' := 22) ?hd (xs := ([t299] : List (List (S41)))) (inner := [.slice Ao14 t299.length co14]) (ok := (fun k_ => k_ ≠ g)) (okp := (fun k_ => k_ ≠ g)) ?hr ?hp (fun _ hk => hk) ((show ∀ k_, w13.heap.size ≤ k_ → (fun k_ => k_ ≠ g) k_ from fun k_ hk => ai.fresh Z0 k_ hk) _ (Nat.le_refl _)) (Below.refl _ _) (Nat.le_refl _) (by simp) ?_; (case hd => rfl); (case hg => rfl); (case hr => first | (go_simp; done) | (go_simp; rfl)); (case hp => exact (bT.one (show Kd.FK (Kd.slice 41 k41) _ _ t299 [.slice Ao14 t299.length co14] from (Kd.dP (Kd.R_reads' (Kd.bn (ok' := (fun k_ => k_ ≠ g)) (ai.apart HI0.out (HO_3.out) (by decide)) (fun k_ hk => hk.2))).2.1 (Kd.R_F (Kd.bn (ok' := (fun k_ => k_ ≠ g)) (ai.apart HI0.out (HO_3.out) (by decide)) (fun k_ hk => hk.2))))) (bT.none _ _))); intro v310 w15 ho16 hb hg_ hnew_; clear hg_ hnew_; (first | rw [← Ny309.out] at ho16 | (simp only [Int.reduceToNat] at ho16; rw [← Ny309.out] at ho16)); refine yA4 (Kd.jq ho16 (by exact aC (w := w) (g := g) (row := none) Z1)) (ai.below Z0 hb) (ag.trans Z1 (ag.of_below hb g none) (.inl rfl)) (below_step Z2 hb) ?_; clear HI0 HK HB HO_3; intro HO311 HI0 HK HB; clear hb ho16; obtain ⟨Ao17, co17, rfl⟩ := Kd.jo HO311.out) | ((with_reducible refine gC 56 rfl ?_); refine gM 56 23 rfl Try.func56 (au.calls kj2 17 0 (⟨#[]⟩ : ByteArray) 0 (⟨#[]⟩ : ByteArray) _ _ y309 t312 _ (by repeat (first | exact (Kd.eG HO311.out).2.2 | (with_reducible refine Kd.C_alloc ?_ _) | (with_reducible refine Kd.C_drewN ?_ _) | (with_reducible refine Kd.C_drew ?_))) ((Kd.eG HO311.out).2.1) A12.out) ?_; rintro _ w18 ⟨v313, rfl, ho0, hb⟩; refine ⟨_, rfl, yA5 (Kd.iQ (by (with_reducible repeat (first | apply Kd.fG | apply Kd.fF | apply Kd.gQ)); exact HO311.out) (Kd.R_base ho0) hb) (Kd.R_lower ho0 (by exact aC (w := w) (g := g) (row := none) Z1)) (ai.below Z0 hb) (ag.trans Z1 (ag.of_below hb g none) (.inl rfl)) (below_step Z2 hb) ?_⟩; clear HO311 HI0 HK HB hb ho0; intro HO311 HO314 HI0 HK HB))
    go_ret
    exact ⟨_, Z4, by (with_reducible repeat (first | apply Kd.R_alloc | apply Kd.R_drewN | apply Kd.R_drew)); exact HO314.out, Z0, Z2, Z1⟩
   replace H := yF H
   revert H
   refine jX (fun c19 c19b0 H => ?_) fun c19 H => ?_
   ·have c19b1 : decide (0 < t299.length) = true := decide_eq_true (by omega)
    clear c19
    revert H
    refine aJ (fun c20b0 c20b1 H => ?_) fun c20 c20b0 c20b1 H => ?_
    ·revert H
     refine yB2 fun t316 t317 A21 H => ?_
     try dsimp only at H
     revert H
     refine yB3 fun t319 t322 t323 A22 H => ?_
     try dsimp only at H
     simp only [Option.some.injEq, Prod.mk.injEq] at H
     obtain ⟨rfl, rfl, rfl⟩ := H
     obtain ⟨Ao23, co23, eo23⟩ := Kd.R_slice HO_3.out
     subst eo23
     have p315 : 0 ≤ (0 : Int) := (by omega)
     have q315 : 0 < (t299.length : Int) := of_decide_eq_true Z5
     obtain ⟨ad315, e315, hx315_0, hx315_1, hx315_2, hx315_3, hx315_4⟩ := gJ (Kd.R_reads' HO_3.out).2.2 0 p315 q315
     cases e315
     have qi315 : (0 < t299.length) = True := eq_true (by omega)
     (try rw [show ((0 : Int)).toNat = 0 from rfl] at hx315_0)
     (try rw [show 0 * 5 = 0 from rfl] at hx315_0)
     (try rw [Addr.add_zero'] at hx315_0)
     (try rw [show ((0 : Int)).toNat = 0 from rfl] at hx315_1)
     (try rw [show 0 * 5 = 0 from rfl] at hx315_1)
     (try rw [Addr.add_zero'] at hx315_1)
     (try rw [show ((0 : Int)).toNat = 0 from rfl] at hx315_2)
     (try rw [show 0 * 5 = 0 from rfl] at hx315_2)
     (try rw [Addr.add_zero'] at hx315_2)
     (try rw [show ((0 : Int)).toNat = 0 from rfl] at hx315_3)
     (try rw [show 0 * 5 = 0 from rfl] at hx315_3)
     (try rw [Addr.add_zero'] at hx315_3)
     (try rw [show ((0 : Int)).toNat = 0 from rfl] at hx315_4)
     (try rw [show 0 * 5 = 0 from rfl] at hx315_4)
     (try rw [Addr.add_zero'] at hx315_4)
     replace p315 := eq_true p315
     replace q315 := eq_true q315
     go_wp2_with (first | ((with_reducible refine gC 51 rfl ?_); refine gM 51 31 rfl Try.func51 (aG.calls g s0_0 x1001_2 x1002_2 (⟨#[61]⟩ : ByteArray) t316 t317 w0 _ Z0 Z2 A21.out) ?_; rintro _ w24 ⟨rfl, hi, hb, hk⟩; refine ⟨_, rfl, yA4 (Kd.bn (Kd.iF (ai.apart (show ai w0 _ g s0_0 x1001_2 x1002_2 from Z0) Z21 (by decide)) hk (fun _ h => h.2)) (fun _ h => h.1)) (ag.trans Z1 hk (.inl rfl)) (hb) (hi) ?_⟩; clear HO_3 HK HB HI0 hb; intro HO_3 HK HB HI0; have p318 : 0 ≤ (0 : Int) := (by omega); have q318 : 0 < (t299.length : Int) := of_decide_eq_true Z5; obtain ⟨ad318, e318, hx318_0, hx318_1, hx318_2, hx318_3, hx318_4⟩ := gJ (Kd.R_reads' HO_3.out).2.2 0 p318 q318; obtain rfl : ad315 = ad318 := (by injection e318); have qi318 : (0 < t299.length) = True := eq_true (by omega); (try rw [show ((0 : Int)).toNat = 0 from rfl] at hx318_0); (try rw [show 0 * 5 = 0 from rfl] at hx318_0); (try rw [Addr.add_zero'] at hx318_0); (try rw [show ((0 : Int)).toNat = 0 from rfl] at hx318_1); (try rw [show 0 * 5 = 0 from rfl] at hx318_1); (try rw [Addr.add_zero'] at hx318_1); (try rw [show ((0 : Int)).toNat = 0 from rfl] at hx318_2); (try rw [show 0 * 5 = 0 from rfl] at hx318_2); (try rw [Addr.add_zero'] at hx318_2); (try rw [show ((0 : Int)).toNat = 0 from rfl] at hx318_3); (try rw [show 0 * 5 = 0 from rfl] at hx318_3); (try rw [Addr.add_zero'] at hx318_3); (try rw [show ((0 : Int)).toNat = 0 from rfl] at hx318_4); (try rw [show 0 * 5 = 0 from rfl] at hx318_4); (try rw [Addr.add_zero'] at hx318_4); replace p318 := eq_true p318; replace q318 := eq_true q318) | ((with_reducible refine gC 76 rfl ?_); refine gM 76 38 rfl Try.func76 (bC.calls F HF kj2 g s0_0 t316 t317 7 0 ((rd_T41 t299 0).f2) 0 (⟨#[]⟩ : ByteArray) t319 t322 t323 w0 _ Z0 Z2 A22.out) ?_; rintro _ w25 ⟨v320, rfl, ho0, hi, hb, hk⟩; refine ⟨_, rfl, yA5 (Kd.bn (Kd.qU (Kd.qV (ai.apart (show ai w0 _ g s0_0 t316 t317 from Z0) Z21 (by decide)) hk) (Kd.R_base ho0)) (fun _ h_ => h_.1)) (Kd.R_lower (Kd.R_new' ho0 (Kd.R_lt Z21)) (by exact aC (w := w) (g := g) (row := none) Z1)) (ag.trans Z1 hk (.inl rfl)) (hb) (hi) ?_⟩; clear HO_3 HK HB HI0 hb ho0; intro HO_3 HO321 HK HB HI0))
     go_ret
     exact ⟨_, Z4, by (with_reducible repeat (first | apply Kd.R_alloc | apply Kd.R_drewN | apply Kd.R_drew)); exact Kd.bn HO321.out (fun _ hk => trivial), Z0, Z2, Z1⟩
    revert H
    refine aJ (fun c26b0 c26b1 H => ?_) fun c26 c26b0 c26b1 H => ?_
    ·revert H
     refine yB2 fun t325 t326 A27 H => ?_
     try dsimp only at H
     revert H
     refine yB1 fun t327 A28 H => ?_
     revert H
     refine yB3 fun t330 t333 t334 A29 H => ?_
     try dsimp only at H
     revert H
     refine yB2 fun t335 t336 A30 H => ?_
     try dsimp only at H
     revert H
     refine jX (fun c31 c31b0 H => ?_) fun c31 H => ?_
     ·have c31b1 : decide (0 < t327.length) = true := decide_eq_true (by omega)
      clear c31
      revert H
      refine yB1 fun t338 A32 H => ?_
      revert H
      refine jX (fun c33 c33b0 H => ?_) fun c33 H => ?_
      ·have c33b1 : decide (1 < t327.length) = true := decide_eq_true (by omega)
       clear c33
       revert H
       refine yB1 fun t342 A34 H => ?_
       obtain ⟨y345, hy345⟩ : ∃ y_ : List (List (S41)), y_ = (([t338, t342, t330] : List (List (S41)))) := ⟨_, rfl⟩
       replace H : ((au.f kj2 8 0 (⟨#[]⟩ : ByteArray) 0 (⟨#[]⟩ : ByteArray) y345).bind fun t348 => (some (t348, t335, t336))) = some (r1, r2, r3) := by first | (rw [hy345]; with_reducible exact H) | (have H2_ := (Option.bind_some _ _).symm.trans H; rw [hy345]; with_reducible exact H2_) | (have H2_ := (Option.bind_some _ _).symm.trans H; with_reducible exact H2_) | with_reducible exact H | (rw [hy345]; exact H) | exact H
       have Ny345 := Aside0.mk hy345
       clear hy345
       revert H
       refine yB1 fun t348 A35 H => ?_
       simp only [Option.some.injEq, Prod.mk.injEq] at H
       obtain ⟨rfl, rfl, rfl⟩ := H
       obtain ⟨Ao36, co36, eo36⟩ := Kd.R_slice HO_3.out
       subst eo36
       have p315 : 0 ≤ (0 : Int) := (by omega)
       have q315 : 0 < (t299.length : Int) := of_decide_eq_true Z5
       obtain ⟨ad315, e315, hx315_0, hx315_1, hx315_2, hx315_3, hx315_4⟩ := gJ (Kd.R_reads' HO_3.out).2.2 0 p315 q315
       cases e315
       have qi315 : (0 < t299.length) = True := eq_true (by omega)
       (try rw [show ((0 : Int)).toNat = 0 from rfl] at hx315_0)
       (try rw [show 0 * 5 = 0 from rfl] at hx315_0)
       (try rw [Addr.add_zero'] at hx315_0)
       (try rw [show ((0 : Int)).toNat = 0 from rfl] at hx315_1)
       (try rw [show 0 * 5 = 0 from rfl] at hx315_1)
       (try rw [Addr.add_zero'] at hx315_1)
       (try rw [show ((0 : Int)).toNat = 0 from rfl] at hx315_2)
       (try rw [show 0 * 5 = 0 from rfl] at hx315_2)
       (try rw [Addr.add_zero'] at hx315_2)
       (try rw [show ((0 : Int)).toNat = 0 from rfl] at hx315_3)
       (try rw [show 0 * 5 = 0 from rfl] at hx315_3)
       (try rw [Addr.add_zero'] at hx315_3)
       (try rw [show ((0 : Int)).toNat = 0 from rfl] at hx315_4)
       (try rw [show 0 * 5 = 0 from rfl] at hx315_4)
       (try rw [Addr.add_zero'] at hx315_4)
       replace p315 := eq_true p315
       replace q315 := eq_true q315
       have p324 : 0 ≤ (0 : Int) := (by omega)
       have q324 : 0 < (t299.length : Int) := of_decide_eq_true Z5
       obtain ⟨ad324, e324, hx324_0, hx324_1, hx324_2, hx324_3, hx324_4⟩ := gJ (Kd.R_reads' HO_3.out).2.2 0 p324 q324
       obtain rfl : ad315 = ad324 := (by injection e324)
       have qi324 : (0 < t299.length) = True := eq_true (by omega)
       (try rw [show ((0 : Int)).toNat = 0 from rfl] at hx324_0)
       (try rw [show 0 * 5 = 0 from rfl] at hx324_0)
       (try rw [Addr.add_zero'] at hx324_0)
       (try rw [show ((0 : Int)).toNat = 0 from rfl] at hx324_1)
       (try rw [show 0 * 5 = 0 from rfl] at hx324_1)
       (try rw [Addr.add_zero'] at hx324_1)
       (try rw [show ((0 : Int)).toNat = 0 from rfl] at hx324_2)
       (try rw [show 0 * 5 = 0 from rfl] at hx324_2)
       (try rw [Addr.add_zero'] at hx324_2)
       (try rw [show ((0 : Int)).toNat = 0 from rfl] at hx324_3)
       (try rw [show 0 * 5 = 0 from rfl] at hx324_3)
       (try rw [Addr.add_zero'] at hx324_3)
       (try rw [show ((0 : Int)).toNat = 0 from rfl] at hx324_4)
       (try rw [show 0 * 5 = 0 from rfl] at hx324_4)
       (try rw [Addr.add_zero'] at hx324_4)
       replace p324 := eq_true p324
       replace q324 := eq_true q324
       try go_wp2_with (first | ((with_reducible refine gC 51 rfl ?_); refine gM 51 46 rfl Try.func51 (aG.calls g s0_0 x1001_2 x1002_2 (⟨#[61]⟩ : ByteArray) t325 t326 w0 _ Z0 Z2 A27.out) ?_; rintro _ w37 ⟨rfl, hi, hb, hk⟩; refine ⟨_, rfl, yA4 (Kd.bn (Kd.iF (ai.apart (show ai w0 _ g s0_0 x1001_2 x1002_2 from Z0) Z21 (by decide)) hk (fun _ h => h.2)) (fun _ h => h.1)) (ag.trans Z1 hk (.inl rfl)) (hb) (hi) ?_⟩; clear HO_3 HK HB HI0 hb; intro HO_3 HK HB HI0) | ((with_reducible refine gC 19 rfl ?_); refine gM 19 48 rfl Try.func19 (df.calls kj2 _ _ t299 0 t327 _ (by repeat (first | exact (Kd.R_reads' HO_3.out).2.2 | (with_reducible refine Kd.C_alloc ?_ _) | (with_reducible refine Kd.C_drewN ?_ _) | (with_reducible refine Kd.C_drew ?_))) ((Kd.R_reads' HO_3.out).2.1) A28.out) ?_; rintro _ w38 ⟨v328, rfl, ho0, hb⟩; refine ⟨_, rfl, yA5 (Kd.R_below Z21 hb) (Kd.R_lower ho0 (by exact aC (w := w) (g := g) (row := none) Z1)) (ai.below Z0 hb) (ag.trans Z1 (ag.of_below hb g none) (.inl rfl)) (below_step Z2 hb) ?_⟩; clear HO_3 HI0 HK HB hb ho0; intro HO_3 HO329 HI0 HK HB) | ((with_reducible refine gC 77 rfl ?_); refine gM 77 50 rfl Try.func77 (fE.calls F HF kj2 g s0_0 t325 t326 t330 t333 t334 w0 _ Z0 Z2 A29.out) ?_; rintro _ w39 ⟨v331, rfl, ho0, hi, hb, hk⟩; refine ⟨_, rfl, yA6 (Kd.bn (Kd.qU (Kd.qV (ai.apart (show ai w0 _ g s0_0 t325 t326 from Z0) Z21 (by decide)) hk) (Kd.R_base ho0)) (fun _ h_ => h_.1)) (Kd.bn (Kd.iF (ai.apart (show ai w0 _ g s0_0 t325 t326 from Z0) Z57 (by decide)) hk (fun _ h => h.2)) (fun _ h => h.1)) (Kd.R_lower (Kd.R_new' ho0 (Kd.R_lt Z21)) (by exact aC (w := w) (g := g) (row := none) Z1)) (ag.trans Z1 hk (.inl rfl)) (hb) (hi) ?_⟩; clear HO_3 HO329 HK HB HI0 hb ho0; intro HO_3 HO329 HO332 HK HB HI0) | ((with_reducible refine gC 51 rfl ?_); refine gM 51 52 rfl Try.func51 (aG.calls g s0_0 t333 t334 (⟨#[59]⟩ : ByteArray) t335 t336 w0 _ Z0 Z2 A30.out) ?_; rintro _ w40 ⟨rfl, hi, hb, hk⟩; refine ⟨_, rfl, yA6 (Kd.bn (Kd.iF (ai.apart (show ai w0 _ g s0_0 t333 t334 from Z0) Z21 (by decide)) hk (fun _ h => h.2)) (fun _ h => h.1)) (Kd.bn (Kd.iF (ai.apart (show ai w0 _ g s0_0 t333 t334 from Z0) Z57 (by decide)) hk (fun _ h => h.2)) (fun _ h => h.1)) (Kd.bn (Kd.iF (ai.apart (show ai w0 _ g s0_0 t333 t334 from Z0) Z67 (by decide)) hk (fun _ h => h.2)) (fun _ h => h.1)) (ag.trans Z1 hk (.inl rfl)) (hb) (hi) ?_⟩; clear HO_3 HO329 HO332 HK HB HI0 hb; intro HO_3 HO329 HO332 HK HB HI0))
       refine yA6 (Kd.R_drew HO_3.out) (Kd.R_drew HO329.out) (Kd.R_drew HO332.out) (ai.drew HI0.out) (iL HK.out) (below_drew1 HB.out) ?_
       clear HO_3 HO329 HO332 HI0 HK HB
       intro HO_3 HO329 HO332 HI0 HK HB
       obtain ⟨Ao42, co42, eo42⟩ := Kd.R_slice HO329.out
       (first | subst eo42 | (injection eo42 with f1_ f2_ f3_; have f4_ := f1_.symm; have f5_ := f3_.symm; clear f1_ f2_ f3_; subst f4_; subst f5_))
       have p337 : 0 ≤ (0 : Int) := (by omega)
       have q337 : 0 < (t327.length : Int) := of_decide_eq_true Z5
       obtain ⟨ad337, e337, hx337_0⟩ := Kd.jF (Kd.R_reads' HO329.out).2.2 0 p337 q337
       cases e337
       have qi337 : (0 < t327.length) = True := eq_true (by omega)
       (try rw [show ((0 : Int)).toNat = 0 from rfl] at hx337_0)
       (try rw [Addr.add_zero'] at hx337_0)
       replace p337 := eq_true p337
       replace q337 := eq_true q337
       have p341 : 0 ≤ (1 : Int) := (by omega)
       have q341 : 1 < (t327.length : Int) := of_decide_eq_true Z5
       obtain ⟨ad341, e341, hx341_0⟩ := Kd.jF (Kd.R_reads' HO329.out).2.2 1 p341 q341
       obtain rfl : ad337 = ad341 := (by injection e341)
       (try simp only [show (1 : Int).toNat = 1 from rfl, Nat.reduceMul, Nat.reduceEqDiff, Go.Addr.add, ↓reduceIte] at hx341_0)
       have qi341 : (1 < t327.length) = True := eq_true (by omega)
       (try rw [show ((1 : Int)).toNat = 1 from rfl] at hx341_0)
       replace p341 := eq_true p341
       replace q341 := eq_true q341
       refine jB (n := 15) (S := fun w' => w'.cell? ad337 = some (.int .i64 (rd t327 0)) ∧ w'.cell? ⟨ad337.block, ad337.off + 1, none⟩ = some (.int .i64 (rd t327 1))) (ds := []) #[false, false, false, false, false, false, false, false, false, false, false, false, false, false, false] (by kernel_rfl) rfl rfl ⟨hx337_0, hx341_0⟩ (fun hHeld => ?_); refine fQ aT.J3 aT.Jf (fun HT_ HW_ => ?_)
       generalize w40.drew = w41 at HO_3 HO329 HO332 HI0 HK HB hx337_0 hx341_0 hHeld ⊢
       refine pA 0 53 (bQ 15 1) ?_
       refine pA 1 54 (bQ 15 3) ?_
       refine pA 2 55 (bQ 15 7) ?_
       refine pA 3 56 (bQ 15 15) ?_
       refine pA 6 59 (bQ 15 79) ?_
       refine pA 7 60 (bQ 15 207) ?_
       refine pA 8 61 (bQ 15 463) ?_
       refine pA 11 64 (bQ 15 2511) ?_
       refine nH (i := 4) (N := some 57) (v := ?_) (a' := ?_) #[true, true, true, true, true, false, true, true, true, false, false, true, false, false, false] rfl rfl (jU HT_.out HW_.out (by kernel_rfl)) (fun _ _ _ h => h) (Or.inl ⟨by rfl, ?_⟩) hHeld ?_ ?_
       rotate_left
       ·rintro w' ⟨s0, s1⟩
        go_simp
        with_reducible rfl
       rotate_left
       ·simp only [Act.put, List.setIfInBounds_toArray, List.set_cons_zero, List.set_cons_succ, dE, dM]
        rfl
       refine nH (i := 9) (N := some 62) (v := ?_) (a' := ?_) #[true, true, true, true, true, false, true, true, true, true, false, true, false, false, false] rfl rfl (jU HT_.out HW_.out (by kernel_rfl)) (fun _ _ _ h => h) (Or.inl ⟨by rfl, ?_⟩) hHeld ?_ ?_
       rotate_left
       ·rintro w' ⟨s0, s1⟩
        go_simp
        with_reducible rfl
       rotate_left
       ·simp only [Act.put, List.setIfInBounds_toArray, List.set_cons_zero, List.set_cons_succ, dE, dM]
        rfl
       refine lJ (i := 5) (N := some 58) (bQ 15 3071) rfl rfl (jf HT_.out (by kernel_rfl)) (by decide) (fun K hK => ?_)
       refine jY Try.func81 (by kernel_rfl) rfl #[.slice (some ad315) t299.length co36, .int .i64 (rd t327 0)] (by rfl) rfl rfl Z39 ?_
       with_reducible refine (fJ.calls kj2 _ _ t299 (rd t327 0) t338 _ ?side1 ?side2 A32.out).mono ?_
       (case side1 => repeat (first | exact (Kd.R_reads' HO_3.out).2.2 | (with_reducible refine Kd.C_alloc ?_ _) | (with_reducible refine Kd.C_drewN ?_ _) | (with_reducible refine Kd.C_drew ?_)))
       (case side2 => exact (Kd.R_reads' HO_3.out).2.1)
       rintro e w43 ⟨v339, rfl, ho0, hb⟩
       have HS0_ := (hb.cell (World.block_lt_of_cell? _ _ (hHeld.1))).trans (hHeld.1)
       have HS1_ := (hb.cell (World.block_lt_of_cell? _ _ (hHeld.2))).trans (hHeld.2)
       refine ⟨_, rfl, ?_⟩
       refine yA7 (Kd.R_elder' Z21 (Kd.R_base ho0) hb) (Kd.R_below Z57 hb) (Kd.R_elder' Z67 (Kd.R_base ho0) hb) (Kd.R_lower (Kd.R_new' (Kd.R_new' ho0 (Kd.R_lt Z21)) (Kd.R_lt Z67)) (aC (w := w) (g := g) (row := none) Z1)) (ai.below Z0 hb) (ag.trans Z1 (ag.of_below hb g none) (.inl rfl)) (below_step Z2 hb) ?_; clear HO_3 HO329 HO332 HI0 HK HB; intro HO_3 HO329 HO332 HO340 HI0 HK HB
       (try clear hb)
       (try clear hb2)
       (try clear hk)
       (try clear hi)
       (try clear ho0)
       refine hK.out _ _ ⟨HS0_, HS1_⟩ (fun hHeld => ?_)
       clear hK K
       refine jw (a' := ?_) ?_ ?_
       rotate_left
       ·show Act.put _ (some 58) _ = _
        simp only [Act.put, List.setIfInBounds_toArray, List.set_cons_zero, List.set_cons_succ, dE, dM]
        rfl
       refine lJ (i := 10) (N := some 63) (bQ 15 4095) rfl rfl (jf HT_.out (by kernel_rfl)) (by decide) (fun K hK => ?_)
       refine jY Try.func81 (by kernel_rfl) rfl #[.slice (some ad315) t299.length co36, .int .i64 (rd t327 1)] (by rfl) rfl rfl Z39 ?_
       with_reducible refine (fJ.calls kj2 _ _ t299 (rd t327 1) t342 _ ?side1 ?side2 A34.out).mono ?_
       (case side1 => repeat (first | exact (Kd.R_reads' HO_3.out).2.2 | (with_reducible refine Kd.C_alloc ?_ _) | (with_reducible refine Kd.C_drewN ?_ _) | (with_reducible refine Kd.C_drew ?_)))
       (case side2 => exact (Kd.R_reads' HO_3.out).2.1)
       rintro e w44 ⟨v343, rfl, ho0, hb⟩
       have HS0_ := (hb.cell (World.block_lt_of_cell? _ _ (hHeld.1))).trans (hHeld.1)
       have HS1_ := (hb.cell (World.block_lt_of_cell? _ _ (hHeld.2))).trans (hHeld.2)
       refine ⟨_, rfl, ?_⟩
       refine yA8 (Kd.R_elder' Z21 (Kd.R_base ho0) hb) (Kd.R_below Z57 hb) (Kd.R_elder' Z67 (Kd.R_base ho0) hb) (Kd.R_elder' (by (with_reducible repeat (first | apply Kd.R_alloc | apply Kd.R_drewN | apply Kd.R_drew)); exact HO340.out) (Kd.R_base ho0) hb) (Kd.R_lower (Kd.R_new' (Kd.R_new' (Kd.R_new' ho0 (Kd.R_lt Z21)) (Kd.R_lt Z67)) (Kd.R_lt (by (with_reducible repeat (first | apply Kd.R_alloc | apply Kd.R_drewN | apply Kd.R_drew)); exact HO340.out))) (aC (w := w) (g := g) (row := none) Z1)) (ai.below Z0 hb) (ag.trans Z1 (ag.of_below hb g none) (.inl rfl)) (below_step Z2 hb) ?_; clear HO_3 HO329 HO332 HO340 HI0 HK HB; intro HO_3 HO329 HO332 HO340 HO344 HI0 HK HB
       (try clear hb)
       (try clear hb2)
       (try clear hk)
       (try clear hi)
       (try clear ho0)
       obtain ⟨Ao45, co45, eo45⟩ := Kd.R_slice HO340.out
       (first | subst eo45 | (injection eo45 with f1_ f2_ f3_; have f4_ := f1_.symm; have f5_ := f3_.symm; clear f1_ f2_ f3_; subst f4_; subst f5_))
       obtain ⟨Ao46, co46, eo46⟩ := Kd.R_slice HO344.out
       (first | subst eo46 | (injection eo46 with f1_ f2_ f3_; have f4_ := f1_.symm; have f5_ := f3_.symm; clear f1_ f2_ f3_; subst f4_; subst f5_))
       obtain ⟨Ao47, co47, eo47⟩ := Kd.R_slice HO332.out
       (first | subst eo47 | (injection eo47 with f1_ f2_ f3_; have f4_ := f1_.symm; have f5_ := f3_.symm; clear f1_ f2_ f3_; subst f4_; subst f5_))
       refine hK.out _ _ ⟨HS0_, HS1_⟩ (fun hHeld => ?_)
       clear hK K
       refine jw (a' := ?_) ?_ ?_
       rotate_left
       ·show Act.put _ (some 63) _ = _
        simp only [Act.put, List.setIfInBounds_toArray, List.set_cons_zero, List.set_cons_succ, dE, dM]
        rfl
       refine lJ (i := 12) (N := some 65) (bQ 15 8191) rfl rfl (jf HT_.out (by kernel_rfl)) (by decide) (fun K hK => ?_)
       refine Kd.zW (Kd.slice 41 k41) _ 23 ?hg (N' := 65) ?hd (xs := ([t338, t342, t330] : List (List (S41)))) (inner := [.slice Ao45 t338.length co45, .slice Ao46 t342.length co46, .slice Ao47 t330.length co47]) (ok := (fun k_ => some k_ ≠ (.slice (some ad315) t299.length co36 : Value).ownBlock ∧ some k_ ≠ (.slice (some ad337) t327.length co42 : Value).ownBlock ∧ k_ ≠ g)) (okp := (fun k_ => some k_ ≠ (.slice (some ad315) t299.length co36 : Value).ownBlock ∧ some k_ ≠ (.slice (some ad337) t327.length co42 : Value).ownBlock ∧ k_ ≠ g)) ?hr ?hp (fun _ hk => hk) ((show ∀ k_, w44.heap.size ≤ k_ → (fun k_ => some k_ ≠ (.slice (some ad315) t299.length co36 : Value).ownBlock ∧ some k_ ≠ (.slice (some ad337) t327.length co42 : Value).ownBlock ∧ k_ ≠ g) k_ from fun k_ hk => ⟨Kd.fresh' (Kd.R_lt Z21) k_ hk, Kd.fresh' (Kd.R_lt Z57) k_ hk, ai.fresh Z0 k_ hk⟩) _ (Nat.le_refl _)) (Below.refl _ _) (Nat.le_refl _) (by simp) ?_; (case hd => rfl); (case hg => rfl); (case hr => first | (go_simp; done) | (go_simp; rfl)); (case hp => exact (bT.one (show Kd.FK (Kd.slice 41 k41) _ _ t338 [.slice Ao45 t338.length co45] from (Kd.dP (Kd.R_reads' (Kd.bn (ok' := (fun k_ => some k_ ≠ (.slice (some ad315) t299.length co36 : Value).ownBlock ∧ some k_ ≠ (.slice (some ad337) t327.length co42 : Value).ownBlock ∧ k_ ≠ g)) (ai.apart HI0.out (Kd.dV (HO340.out) (Kd.lW HO329.out) (by decide)) (by decide)) (fun k_ hk => ⟨hk.1.1.1.1.2, ⟨hk.1.2, hk.2⟩⟩))).2.1 (Kd.R_F (Kd.bn (ok' := (fun k_ => some k_ ≠ (.slice (some ad315) t299.length co36 : Value).ownBlock ∧ some k_ ≠ (.slice (some ad337) t327.length co42 : Value).ownBlock ∧ k_ ≠ g)) (ai.apart HI0.out (Kd.dV (HO340.out) (Kd.lW HO329.out) (by decide)) (by decide)) (fun k_ hk => ⟨hk.1.1.1.1.2, ⟨hk.1.2, hk.2⟩⟩))))) (bT.one (show Kd.FK (Kd.slice 41 k41) _ _ t342 [.slice Ao46 t342.length co46] from (Kd.dP (Kd.R_reads' (Kd.bn (ok' := (fun k_ => some k_ ≠ (.slice (some ad315) t299.length co36 : Value).ownBlock ∧ some k_ ≠ (.slice (some ad337) t327.length co42 : Value).ownBlock ∧ k_ ≠ g)) (ai.apart HI0.out (Kd.dV (HO344.out) (Kd.lW HO329.out) (by decide)) (by decide)) (fun k_ hk => ⟨hk.1.1.1.1.2, ⟨hk.1.2, hk.2⟩⟩))).2.1 (Kd.R_F (Kd.bn (ok' := (fun k_ => some k_ ≠ (.slice (some ad315) t299.length co36 : Value).ownBlock ∧ some k_ ≠ (.slice (some ad337) t327.length co42 : Value).ownBlock ∧ k_ ≠ g)) (ai.apart HI0.out (Kd.dV (HO344.out) (Kd.lW HO329.out) (by decide)) (by decide)) (fun k_ hk => ⟨hk.1.1.1.1.2, ⟨hk.1.2, hk.2⟩⟩))))) (bT.one (show Kd.FK (Kd.slice 41 k41) _ _ t330 [.slice Ao47 t330.length co47] from (Kd.dP (Kd.R_reads' (Kd.bn (ok' := (fun k_ => some k_ ≠ (.slice (some ad315) t299.length co36 : Value).ownBlock ∧ some k_ ≠ (.slice (some ad337) t327.length co42 : Value).ownBlock ∧ k_ ≠ g)) (ai.apart HI0.out (Kd.dV (HO332.out) (Kd.lW HO329.out) (by decide)) (by decide)) (fun k_ hk => ⟨hk.1.1.1.1.2, ⟨hk.1.2, hk.2⟩⟩))).2.1 (Kd.R_F (Kd.bn (ok' := (fun k_ => some k_ ≠ (.slice (some ad315) t299.length co36 : Value).ownBlock ∧ some k_ ≠ (.slice (some ad337) t327.length co42 : Value).ownBlock ∧ k_ ≠ g)) (ai.apart HI0.out (Kd.dV (HO332.out) (Kd.lW HO329.out) (by decide)) (by decide)) (fun k_ hk => ⟨hk.1.1.1.1.2, ⟨hk.1.2, hk.2⟩⟩))))) (bT.none _ _)))))
       intro v346 w48 ho49 hb hg_ hnew_
       have HS0_ := (hb.cell (World.block_lt_of_cell? _ _ (hHeld.1))).trans (hHeld.1)
       have HS1_ := (hb.cell (World.block_lt_of_cell? _ _ (hHeld.2))).trans (hHeld.2)
       clear hg_ hnew_
       (first | rw [← Ny345.out] at ho49 | (simp only [Int.reduceToNat] at ho49; rw [← Ny345.out] at ho49))
       refine yA6 (Kd.R_below Z21 hb) (Kd.R_below Z57 hb) (Kd.jq ho49 (aC (w := w) (g := g) (row := none) Z1)) (ai.below Z0 hb) (ag.trans Z1 (ag.of_below hb g none) (.inl rfl)) (below_step Z2 hb) ?_; clear HO_3 HO329 HI0 HK HB HO332 HO340 HO344; intro HO_3 HO329 HO347 HI0 HK HB
       clear hb ho49
       obtain ⟨Ao50, co50, eo50⟩ := Kd.jo HO347.out
       (first | subst eo50 | (injection eo50 with f1_ f2_ f3_; have f4_ := f1_.symm; have f5_ := f3_.symm; clear f1_ f2_ f3_; subst f4_; subst f5_))
       refine hK.out _ _ ⟨HS0_, HS1_⟩ (fun hHeld => ?_)
       clear hK K
       refine jw (a' := ?_) ?_ ?_
       rotate_left
       ·show Act.put _ (some 65) _ = _
        simp only [Act.put, List.setIfInBounds_toArray, List.set_cons_zero, List.set_cons_succ, dE, dM]
        rfl
       refine lJ (i := 13) (N := some 66) (bQ 15 16383) rfl rfl (jf HT_.out (by kernel_rfl)) (by decide) (fun K hK => ?_)
       refine jY Try.func56 (by kernel_rfl) rfl #[.agg #[.int .i64 8, .int .i64 0, .string (⟨#[]⟩ : ByteArray), .int .i64 0, .string (⟨#[]⟩ : ByteArray)], .slice Ao50 y345.length co50] (by rfl) rfl rfl Z39 ?_
       with_reducible refine (au.calls kj2 8 0 (⟨#[]⟩ : ByteArray) 0 (⟨#[]⟩ : ByteArray) _ _ y345 t348 _ ?side1 ?side2 A35.out).mono ?_
       (case side1 => repeat (first | exact (Kd.eG HO347.out).2.2 | (with_reducible refine Kd.C_alloc ?_ _) | (with_reducible refine Kd.C_drewN ?_ _) | (with_reducible refine Kd.C_drew ?_)))
       (case side2 => exact (Kd.eG HO347.out).2.1)
       rintro e w51 ⟨v349, rfl, ho0, hb⟩
       have HS0_ := (hb.cell (World.block_lt_of_cell? _ _ (hHeld.1))).trans (hHeld.1)
       have HS1_ := (hb.cell (World.block_lt_of_cell? _ _ (hHeld.2))).trans (hHeld.2)
       refine ⟨_, rfl, ?_⟩
       refine yA7 (Kd.R_elder' Z21 (Kd.R_base ho0) hb) (Kd.R_below Z57 hb) (Kd.iQ (by (with_reducible repeat (first | apply Kd.fG | apply Kd.fF | apply Kd.gQ)); exact HO347.out) (Kd.R_base ho0) hb) (Kd.R_lower (Kd.R_new' ho0 (Kd.R_lt Z21)) (aC (w := w) (g := g) (row := none) Z1)) (ai.below Z0 hb) (ag.trans Z1 (ag.of_below hb g none) (.inl rfl)) (below_step Z2 hb) ?_; clear HO_3 HO329 HO347 HI0 HK HB; intro HO_3 HO329 HO347 HO350 HI0 HK HB
       (try clear hb)
       (try clear hb2)
       (try clear hk)
       (try clear hi)
       (try clear ho0)
       refine hK.out _ _ ⟨HS0_, HS1_⟩ (fun hHeld => ?_)
       clear hK K
       refine jw (a' := ?_) ?_ ?_
       rotate_left
       ·show Act.put _ (some 66) _ = _
        simp only [Act.put, List.setIfInBounds_toArray, List.set_cons_zero, List.set_cons_succ, dE, dM]
        rfl
       refine pA 14 2 (bQ 15 32767) ?_
       refine kT (jh HT_.out (by kernel_rfl)) ?_
       try go_wp2
       go_ret
       exact ⟨_, Z4, by (with_reducible repeat (first | apply Kd.R_alloc | apply Kd.R_drewN | apply Kd.R_drew)); exact Kd.bn HO350.out (fun _ hk => trivial), Z0, Z2, Z1⟩
      exact absurd H (by simp)
     exact absurd H (by simp)
    simp only [Option.some.injEq, Prod.mk.injEq] at H
    obtain ⟨rfl, rfl, rfl⟩ := H
    obtain ⟨Ao52, co52, eo52⟩ := Kd.R_slice HO_3.out
    subst eo52
    have p315 : 0 ≤ (0 : Int) := (by omega)
    have q315 : 0 < (t299.length : Int) := of_decide_eq_true Z5
    obtain ⟨ad315, e315, hx315_0, hx315_1, hx315_2, hx315_3, hx315_4⟩ := gJ (Kd.R_reads' HO_3.out).2.2 0 p315 q315
    cases e315
    have qi315 : (0 < t299.length) = True := eq_true (by omega)
    (try rw [show ((0 : Int)).toNat = 0 from rfl] at hx315_0)
    (try rw [show 0 * 5 = 0 from rfl] at hx315_0)
    (try rw [Addr.add_zero'] at hx315_0)
    (try rw [show ((0 : Int)).toNat = 0 from rfl] at hx315_1)
    (try rw [show 0 * 5 = 0 from rfl] at hx315_1)
    (try rw [Addr.add_zero'] at hx315_1)
    (try rw [show ((0 : Int)).toNat = 0 from rfl] at hx315_2)
    (try rw [show 0 * 5 = 0 from rfl] at hx315_2)
    (try rw [Addr.add_zero'] at hx315_2)
    (try rw [show ((0 : Int)).toNat = 0 from rfl] at hx315_3)
    (try rw [show 0 * 5 = 0 from rfl] at hx315_3)
    (try rw [Addr.add_zero'] at hx315_3)
    (try rw [show ((0 : Int)).toNat = 0 from rfl] at hx315_4)
    (try rw [show 0 * 5 = 0 from rfl] at hx315_4)
    (try rw [Addr.add_zero'] at hx315_4)
    replace p315 := eq_true p315
    replace q315 := eq_true q315
    have p324 : 0 ≤ (0 : Int) := (by omega)
    have q324 : 0 < (t299.length : Int) := of_decide_eq_true Z5
    obtain ⟨ad324, e324, hx324_0, hx324_1, hx324_2, hx324_3, hx324_4⟩ := gJ (Kd.R_reads' HO_3.out).2.2 0 p324 q324
    obtain rfl : ad315 = ad324 := (by injection e324)
    have qi324 : (0 < t299.length) = True := eq_true (by omega)
    (try rw [show ((0 : Int)).toNat = 0 from rfl] at hx324_0)
    (try rw [show 0 * 5 = 0 from rfl] at hx324_0)
    (try rw [Addr.add_zero'] at hx324_0)
    (try rw [show ((0 : Int)).toNat = 0 from rfl] at hx324_1)
    (try rw [show 0 * 5 = 0 from rfl] at hx324_1)
    (try rw [Addr.add_zero'] at hx324_1)
    (try rw [show ((0 : Int)).toNat = 0 from rfl] at hx324_2)
    (try rw [show 0 * 5 = 0 from rfl] at hx324_2)
    (try rw [Addr.add_zero'] at hx324_2)
    (try rw [show ((0 : Int)).toNat = 0 from rfl] at hx324_3)
    (try rw [show 0 * 5 = 0 from rfl] at hx324_3)
    (try rw [Addr.add_zero'] at hx324_3)
    (try rw [show ((0 : Int)).toNat = 0 from rfl] at hx324_4)
    (try rw [show 0 * 5 = 0 from rfl] at hx324_4)
    (try rw [Addr.add_zero'] at hx324_4)
    replace p324 := eq_true p324
    replace q324 := eq_true q324
    obtain ⟨ASz53_0, cSz53_0, HGz53, hgz53, HSz53_0⟩ := HI0.out
    have hcz53_0 := dH HGz53
    have hcz53_1 := dG HGz53
    have hcz53_2 := dF HGz53
    have hfz53_1 := ae HGz53 1
    have hfz53_2 := ae HGz53 2
    clear HGz53 hgz53
    go_wp2
    go_ret
    exact ⟨_, Z4, Z24, Z0, Z2, Z1⟩
   exact absurd H (by simp)
end Go.Proofs.Ytendgafpkeadhaa.Q
