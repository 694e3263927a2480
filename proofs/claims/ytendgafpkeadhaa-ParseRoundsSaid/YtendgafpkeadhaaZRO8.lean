/- Walks over functions of the program, words for them, and what the functions come to; of each text only what this claim uses; no condition. -/
import Derived.Test.YtendgafpkeadhaaZRO0
import Derived.Test.YtendgafpkeadhaaZRO1
import Derived.Test.YtendgafpkeadhaaZRO3
import Derived.Test.YtendgafpkeadhaaZRO4
import Derived.Test.YtendgafpkeadhaaZRO5
import Derived.Test.YtendgafpkeadhaaZRO6
import Derived.Test.YtendgafpkeadhaaZRO7
section
namespace Go.Proofs.Ytendgafpkeadhaa.Q
open Go.RowKit Go.Proofs.YtendgafpkeadhaaW.PrintWords Go.Proofs.YtendgafpkeadhaaW.PrintLast Go.Proofs.YtendgafpkeadhaaW.PrintMore
attribute [local go_sem] iY iW iV iU max2_int min2_int max_two min_two max_three min_three max_four min_four
set_option linter.unusedVariables false
set_option linter.unusedSimpArgs false
/-! ### aN: function 75 -/
mutual
def aN.j1 (F : Fam) : Nat → ByteArray → Int → List (S38) → Int → Bool → Option ((List (S41)) × Int × Bool)
 | 0, _, _, _, _, _ => none
 | k + 1, x3, x4, x1000, x1001, x1002 => if x4 = 0 then ((aT.f F k x1000 x1001 x1002).bind fun bt441 => (some (bt441.1, bt441.2.1, bt441.2.2))) else ((ax.f x1000 x1001 x1002 x3).bind fun bt446 => ((bC.f F k x1000 bt446.2.1 bt446.2.2 x4 0 (⟨#[]⟩ : ByteArray) 0 (⟨#[]⟩ : ByteArray)).bind fun bt449 => (some (bt449.1, bt449.2.1, bt449.2.2))))
def aN.j0 (F : Fam) : Nat → ByteArray → Int → List (S38) → Int → Bool → Option ((List (S41)) × Int × Bool)
 | 0, _, _, _, _, _ => none
 | k + 1, x3, x4, x1000, x1001, x1002 => if x4 = 0 then ((ax.f x1000 x1001 x1002 x3).bind fun bt425 => ((dm.f k x1000 bt425.2.1 bt425.2.2 16).bind fun bt428 => (some (bt428.1, bt428.2.1, bt428.2.2)))) else ((ax.f x1000 x1001 x1002 x3).bind fun bt433 => ((dm.f k x1000 bt433.2.1 bt433.2.2 x4).bind fun bt436 => (some (bt436.1, bt436.2.1, bt436.2.2))))
end
def aN.f (F : Fam) (k : Nat) (s0_0 : List (S38)) (s0_1 : Int) (s0_2 : Bool) : Option ((List (S41)) × Int × Bool) := (aZ.f s0_0 s0_1 s0_2).bind fun bt351 => (if bt351.1.toList = ([108, 101, 116] : List UInt8) then ((ax.f s0_0 bt351.2.1 bt351.2.2 bt351.1).bind fun bt354 => ((bu.f s0_0 bt354.2.1 bt354.2.2 1).bind fun bt357 => ((aG.f s0_0 bt357.2.2.2.2.1 bt357.2.2.2.2.2 (⟨#[61]⟩ : ByteArray)).bind fun bt363 => ((bC.f F k s0_0 bt363.1 bt363.2 6 0 bt357.2.1 0 (⟨#[]⟩ : ByteArray)).bind fun bt365 => (some (bt365.1, bt365.2.1, bt365.2.2)))))) else (if bt351.1.toList = ([105, 102] : List UInt8) then ((ax.f s0_0 bt351.2.1 bt351.2.2 bt351.1).bind fun bt370 => ((fE.f F k s0_0 bt370.2.1 bt370.2.2).bind fun bt373 => ((some (([bt373.1] : List (List (S41))) : List (List (S41)))).bind fun y378 => ((iy.f F k s0_0 bt373.2.1 bt373.2.2).bind fun bt381 => (if y378.length < 5864062014805 then ((some (y378 ++ [bt381.1] : List (List (S41)))).bind fun y386 => ((ax.f s0_0 bt381.2.1 bt381.2.2 (⟨#[101, 108, 115, 101]⟩ : ByteArray)).bind fun bt389 => (if bt389.1 = true then ((iy.f F k s0_0 bt389.2.1 bt389.2.2).bind fun bt392 => (if y386.length < 5864062014805 then ((au.f k 9 0 (⟨#[]⟩ : ByteArray) 0 (⟨#[]⟩ : ByteArray) (y386 ++ [bt392.1])).bind fun t400 => (some (t400, bt392.2.1, bt392.2.2))) else (none))) else ((au.f k 9 0 (⟨#[]⟩ : ByteArray) 0 (⟨#[]⟩ : ByteArray) y386).bind fun t403 => (some (t403, bt389.2.1, bt389.2.2)))))) else (none)))))) else (if bt351.1.toList = ([119, 104, 105, 108, 101] : List UInt8) then ((ax.f s0_0 bt351.2.1 bt351.2.2 bt351.1).bind fun bt406 => ((fE.f F k s0_0 bt406.2.1 bt406.2.2).bind fun bt409 => ((iy.f F k s0_0 bt409.2.1 bt409.2.2).bind fun bt414 => ((au.f k 10 0 (⟨#[]⟩ : ByteArray) 0 (⟨#[]⟩ : ByteArray) (([bt409.1, bt414.1] : List (List (S41))))).bind fun t422 => (some (t422, bt414.2.1, bt414.2.2)))))) else (if bt351.1.toList = ([98, 114, 101, 97, 107] : List UInt8) then (if 11 = 0 then (aN.j0 F k bt351.1 12 s0_0 bt351.2.1 bt351.2.2) else (aN.j0 F k bt351.1 11 s0_0 bt351.2.1 bt351.2.2)) else (if bt351.1.toList = ([99, 111, 110, 116, 105, 110, 117, 101] : List UInt8) then (if 0 = 0 then (aN.j0 F k bt351.1 12 s0_0 bt351.2.1 bt351.2.2) else (aN.j0 F k bt351.1 0 s0_0 bt351.2.1 bt351.2.2)) else (if bt351.1.toList = ([121, 105, 101, 108, 100] : List UInt8) then (aN.j0 F k bt351.1 0 s0_0 bt351.2.1 bt351.2.2) else (if bt351.1.toList = ([114, 101, 116, 117, 114, 110] : List UInt8) then (aN.j1 F k bt351.1 13 s0_0 bt351.2.1 bt351.2.2) else (if bt351.1.toList = ([112, 117, 116] : List UInt8) then (aN.j1 F k bt351.1 14 s0_0 bt351.2.1 bt351.2.2) else (if bt351.1.toList = ([101, 109, 105, 116] : List UInt8) then (aN.j1 F k bt351.1 15 s0_0 bt351.2.1 bt351.2.2) else (aN.j1 F k bt351.1 0 s0_0 bt351.2.1 bt351.2.2))))))))))
theorem aN.mono_l {F F' : Fam} (HLE : ji F F') : ∀ k, (∀ y0 y1 y2 y3 y4, LeO (aN.j1 F k y0 y1 y2 y3 y4) (aN.j1 F' (k + 1) y0 y1 y2 y3 y4)) ∧ (∀ y0 y1 y2 y3 y4, LeO (aN.j0 F k y0 y1 y2 y3 y4) (aN.j0 F' (k + 1) y0 y1 y2 y3 y4))
 | 0 => ⟨fun _ _ _ _ _ r h => by simp [aN.j1] at h, fun _ _ _ _ _ r h => by simp [aN.j0] at h⟩
 | k + 1 => by
  obtain ⟨ih0, ih1⟩ := aN.mono_l HLE k
  refine ⟨?_, ?_⟩
  ·intro y0 y1 y2 y3 y4
   unfold aN.j1
   have m0 := au.mono
   have m1 := dm.mono
   have m2 := (bC.mono HLE)
   have m3 := (aT.mono HLE)
   have m4 := (iy.mono HLE)
   have m5 := (fE.mono HLE)
   exact yL
  intro y0 y1 y2 y3 y4
  unfold aN.j0
  have m0 := au.mono
  have m1 := dm.mono
  have m2 := (bC.mono HLE)
  have m3 := (aT.mono HLE)
  have m4 := (iy.mono HLE)
  have m5 := (fE.mono HLE)
  exact yL
theorem aN.mono {F F' : Fam} (HLE : ji F F') : ∀ a0 a1 a2 k, LeO (aN.f F k a0 a1 a2) (aN.f F' (k + 1) a0 a1 a2) := by
 intro a0 a1 a2 k
 obtain ⟨ih0, ih1⟩ := aN.mono_l HLE k
 unfold aN.f
 have m0 := au.mono
 have m1 := dm.mono
 have m2 := (bC.mono HLE)
 have m3 := (aT.mono HLE)
 have m4 := (iy.mono HLE)
 have m5 := (fE.mono HLE)
 exact yL
set_option maxHeartbeats 8000000 in
set_option maxRecDepth 100000 in
theorem aN.calls (F : Fam) (HF : kL F) (k : Nat) (g : Nat) (s0_0 : List (S38)) (s0_1 : Int) (s0_2 : Bool) (r1 : List (S41)) (r2 : Int) (r3 : Bool) (w0 w : World) (hI : ai w0 w g s0_0 s0_1 s0_2) (hB : Below w0.heap.size w0 w) (h : aN.f F k s0_0 s0_1 s0_2 = some (r1, r2, r3)) :
 Calls Try.prog 75 #[.pointer (some ⟨g, 0, none⟩)] w fun e w' => ∃ v0_ : Value, e = .returned (v0_) ∧ Kd.R k41 41 w' w.heap.size (fun _ => True) v0_ r1 ∧ ai w0 w' g s0_0 r2 r3 ∧ Below w0.heap.size w0 w' ∧ ag w w' g none := by
 have hu41 := Try.underlying41
 have HI0 := Aside0.mk hI
 have HK := Aside0.mk (ag.refl w g none)
 have HL := Aside0.mk hB.size
 clear hI
 have HW0 := Aside0.mk hB.size
 have HB := Aside0.mk hB
 clear hB
 have H := h
 clear h
 unfold aN.f at H
 revert H
 refine yB3 fun t351 t352 t353 A2 H => ?_
 try dsimp only at H
 have HC3 := Aside0.mk H
 clear H
 go_enter Try.func75, Try.ntmps75
 go_upto_block 0 with (first | ((with_reducible refine gC 71 rfl ?_); refine gM 71 9 rfl Try.func71 (aZ.calls g s0_0 s0_1 s0_2 t351 t352 t353 w0 _ Z0 Z2 A2.out) ?_; rintro _ w4 ⟨rfl, hi, hb, hk⟩; refine ⟨_, rfl, yA3 (ag.trans Z1 hk (.inl rfl)) (hb) (hi) ?_⟩; clear HK HB HI0 hb; intro HK HB HI0))
 (try simp only [Act.put, List.setIfInBounds_toArray, List.set_cons_zero, List.set_cons_succ])
 go_cut [4] (fun v4 wc => ∃ (kq : Nat) (x4_2 : Int) (x1001_2 : Int) (x1002_2 : Bool), v4 = .int .i64 x4_2 ∧ Aside0 (aN.j1 F kq t351 x4_2 s0_0 x1001_2 x1002_2 = some (r1, r2, r3)) ∧ Aside0 (kq ≤ k) ∧ Aside0 (ai w0 wc g s0_0 x1001_2 x1002_2) ∧ Aside0 (ag w wc g none) ∧ Aside0 (Below w0.heap.size w0 wc))
 case first =>
  have H := HC3.out
  clear HC3
  have HC5 := Aside0.mk H
  clear H
  go_upto_block 6 with (fail)
  go_cut [4] (fun v4 wc => ∃ (kq : Nat) (x4_4 : Int) (x1001_4 : Int) (x1002_4 : Bool), v4 = .int .i64 x4_4 ∧ Aside0 (aN.j0 F kq t351 x4_4 s0_0 x1001_4 x1002_4 = some (r1, r2, r3)) ∧ Aside0 (kq ≤ k) ∧ Aside0 (ai w0 wc g s0_0 x1001_4 x1002_4) ∧ Aside0 (ag w wc g none) ∧ Aside0 (Below w0.heap.size w0 wc))
  case first =>
   have H := HC5.out
   clear HC5
   revert H
   refine aJ (fun c6b0 c6b1 H => ?_) fun c6 c6b0 c6b1 H => ?_
   ·(first | rw [c6b0] | (simp only [dE, dM]; rw [c6b0]) | skip)
    revert H
    refine yB3 fun t354 t355 t356 A7 H => ?_
    try dsimp only at H
    revert H
    refine yB6 fun t357 t358 t359 t360 t361 t362 A8 H => ?_
    try dsimp only at H
    revert H
    refine yB2 fun t363 t364 A9 H => ?_
    try dsimp only at H
    revert H
    refine yB3 fun t365 t368 t369 A10 H => ?_
    try dsimp only at H
    simp only [Option.some.injEq, Prod.mk.injEq] at H
    obtain ⟨rfl, rfl, rfl⟩ := H
    go_wp2_with (first | ((with_reducible refine gC 53 rfl ?_); refine gM 53 31 rfl Try.func53 (ax.calls g s0_0 t352 t353 t351 t354 t355 t356 w0 _ Z0 Z2 A7.out) ?_; rintro _ w11 ⟨rfl, hi, hb, hk⟩; refine ⟨_, rfl, yA3 (ag.trans Z1 hk (.inl rfl)) (hb) (hi) ?_⟩; clear HK HB HI0 hb; intro HK HB HI0) | ((with_reducible refine gC 52 rfl ?_); refine gM 52 33 rfl Try.func52 (bu.calls g s0_0 t355 t356 1 t357 t358 t359 t360 t361 t362 w0 _ Z0 Z2 A8.out) ?_; rintro _ w12 ⟨rfl, hi, hb, hk⟩; refine ⟨_, rfl, yA3 (ag.trans Z1 hk (.inl rfl)) (hb) (hi) ?_⟩; clear HK HB HI0 hb; intro HK HB HI0) | ((with_reducible refine gC 51 rfl ?_); refine gM 51 36 rfl Try.func51 (aG.calls g s0_0 t361 t362 (⟨#[61]⟩ : ByteArray) t363 t364 w0 _ Z0 Z2 A9.out) ?_; rintro _ w13 ⟨rfl, hi, hb, hk⟩; refine ⟨_, rfl, yA3 (ag.trans Z1 hk (.inl rfl)) (hb) (hi) ?_⟩; clear HK HB HI0 hb; intro HK HB HI0) | ((with_reducible refine gC 76 rfl ?_); refine gM 76 40 rfl Try.func76 (bC.calls F HF k g s0_0 t363 t364 6 0 t358 0 (⟨#[]⟩ : ByteArray) t365 t368 t369 w0 _ Z0 Z2 A10.out) ?_; rintro _ w14 ⟨v366, rfl, ho0, hi, hb, hk⟩; refine ⟨_, rfl, yA4 (Kd.R_lower ho0 (by exact aC (w := w) (g := g) (row := none) Z1)) (ag.trans Z1 hk (.inl rfl)) (hb) (hi) ?_⟩; clear HK HB HI0 hb ho0; intro HO367 HK HB HI0))
    go_ret
    exact ⟨_, Z4, by (with_reducible repeat (first | apply Kd.R_alloc | apply Kd.R_drewN | apply Kd.R_drew)); exact HO367.out, Z0, Z2, Z1⟩
   (first | rw [c6b0] | (simp only [dE, dM]; rw [c6b0]) | skip)
   revert H
   refine aJ (fun c15b0 c15b1 H => ?_) fun c15 c15b0 c15b1 H => ?_
   ·revert H
    refine yB3 fun t370 t371 t372 A16 H => ?_
    try dsimp only at H
    revert H
    refine yB3 fun t373 t376 t377 A17 H => ?_
    try dsimp only at H
    obtain ⟨y378, hy378⟩ : ∃ y_ : List (List (S41)), y_ = (([t373] : List (List (S41)))) := ⟨_, rfl⟩
    replace H : ((iy.f F k s0_0 t376 t377).bind fun bt381 => (if y378.length < 5864062014805 then ((some (y378 ++ [bt381.1] : List (List (S41)))).bind fun y386 => ((ax.f s0_0 bt381.2.1 bt381.2.2 (⟨#[101, 108, 115, 101]⟩ : ByteArray)).bind fun bt389 => (if bt389.1 = true then ((iy.f F k s0_0 bt389.2.1 bt389.2.2).bind fun bt392 => (if y386.length < 5864062014805 then ((au.f k 9 0 (⟨#[]⟩ : ByteArray) 0 (⟨#[]⟩ : ByteArray) (y386 ++ [bt392.1])).bind fun t400 => (some (t400, bt392.2.1, bt392.2.2))) else (none))) else ((au.f k 9 0 (⟨#[]⟩ : ByteArray) 0 (⟨#[]⟩ : ByteArray) y386).bind fun t403 => (some (t403, bt389.2.1, bt389.2.2)))))) else (none))) = some (r1, r2, r3) := by first | (rw [hy378]; with_reducible exact H) | (have H2_ := (Option.bind_some _ _).symm.trans H; rw [hy378]; with_reducible exact H2_) | (have H2_ := (Option.bind_some _ _).symm.trans H; with_reducible exact H2_) | with_reducible exact H | (rw [hy378]; exact H) | exact H
    have Ny378 := Aside0.mk hy378
    clear hy378
    revert H
    refine yB3 fun t381 t384 t385 A18 H => ?_
    try dsimp only at H
    revert H
    refine dX (fun c19 H => ?_) fun c19 H => ?_
    ·have LMc19 := Aside0.mk c19
     clear c19
     obtain ⟨y386, hy386⟩ : ∃ y_ : List (List (S41)), y_ = (y378 ++ [t381]) := ⟨_, rfl⟩
     replace H : ((ax.f s0_0 t384 t385 (⟨#[101, 108, 115, 101]⟩ : ByteArray)).bind fun bt389 => (if bt389.1 = true then ((iy.f F k s0_0 bt389.2.1 bt389.2.2).bind fun bt392 => (if y386.length < 5864062014805 then ((au.f k 9 0 (⟨#[]⟩ : ByteArray) 0 (⟨#[]⟩ : ByteArray) (y386 ++ [bt392.1])).bind fun t400 => (some (t400, bt392.2.1, bt392.2.2))) else (none))) else ((au.f k 9 0 (⟨#[]⟩ : ByteArray) 0 (⟨#[]⟩ : ByteArray) y386).bind fun t403 => (some (t403, bt389.2.1, bt389.2.2))))) = some (r1, r2, r3) := by first | (rw [hy386]; with_reducible exact H) | (have H2_ := (Option.bind_some _ _).symm.trans H; rw [hy386]; with_reducible exact H2_) | (have H2_ := (Option.bind_some _ _).symm.trans H; with_reducible exact H2_) | with_reducible exact H | (rw [hy386]; exact H) | exact H
     have Ny386 := Aside0.mk hy386
     clear hy386
     revert H
     refine yB3 fun t389 t390 t391 A20 H => ?_
     try dsimp only at H
     cases t389
     rotate_left
     ·replace H := yT H
      revert H
      refine yB3 fun t392 t395 t396 A22 H => ?_
      try dsimp only at H
      revert H
      refine dX (fun c23 H => ?_) fun c23 H => ?_
      ·have LMc23 := Aside0.mk c23
       clear c23
       obtain ⟨y397, hy397⟩ : ∃ y_ : List (List (S41)), y_ = (y386 ++ [t392]) := ⟨_, rfl⟩
       replace H : ((au.f k 9 0 (⟨#[]⟩ : ByteArray) 0 (⟨#[]⟩ : ByteArray) y397).bind fun t400 => (some (t400, t395, t396))) = some (r1, r2, r3) := by first | (rw [hy397]; with_reducible exact H) | (have H2_ := (Option.bind_some _ _).symm.trans H; rw [hy397]; with_reducible exact H2_) | (have H2_ := (Option.bind_some _ _).symm.trans H; with_reducible exact H2_) | with_reducible exact H | (rw [hy397]; exact H) | exact H
       have Ny397 := Aside0.mk hy397
       clear hy397
       revert H
       refine yB1 fun t400 A24 H => ?_
       simp only [Option.some.injEq, Prod.mk.injEq] at H
       obtain ⟨rfl, rfl, rfl⟩ := H
       go_wp2_with (first | ((with_reducible refine gC 53 rfl ?_); refine gM 53 43 rfl Try.func53 (ax.calls g s0_0 t352 t353 t351 t370 t371 t372 w0 _ Z0 Z2 A16.out) ?_; rintro _ w25 ⟨rfl, hi, hb, hk⟩; refine ⟨_, rfl, yA3 (ag.trans Z1 hk (.inl rfl)) (hb) (hi) ?_⟩; clear HK HB HI0 hb; intro HK HB HI0) | ((with_reducible refine gC 77 rfl ?_); refine gM 77 45 rfl Try.func77 (fE.calls F HF k g s0_0 t371 t372 t373 t376 t377 w0 _ Z0 Z2 A17.out) ?_; rintro _ w26 ⟨v374, rfl, ho0, hi, hb, hk⟩; refine ⟨_, rfl, yA4 (Kd.R_lower ho0 (by exact aC (w := w) (g := g) (row := none) Z1)) (ag.trans Z1 hk (.inl rfl)) (hb) (hi) ?_⟩; clear HK HB HI0 hb ho0; intro HO375 HK HB HI0; obtain ⟨Ao27, co27, rfl⟩ := Kd.R_slice HO375.out) | ((with_reducible refine bJ (N := 46) rfl ?_); refine Kd.oh (Kd.slice 41 k41) _ 23 ?hg (N' := 46) ?hd (xs := ([t373] : List (List (S41)))) (inner := [.slice Ao27 t373.length co27]) (ok := (fun k_ => k_ ≠ g)) (okp := (fun k_ => k_ ≠ g)) ?hr ?hp (fun _ hk => hk) ((show ∀ k_, w26.heap.size ≤ k_ → (fun k_ => k_ ≠ g) k_ from fun k_ hk => ai.fresh Z0 k_ hk) _ (Nat.le_refl _)) (Below.refl _ _) (Nat.le_refl _) (by simp) ?_; (case hd => rfl); (case hg => rfl); (case hr => first | (go_simp; done) | (go_simp; rfl)); (case hp => exact (bT.one (show Kd.FK (Kd.slice 41 k41) _ _ t373 [.slice Ao27 t373.length co27] from (Kd.dP (Kd.R_reads' (Kd.bn (ok' := (fun k_ => k_ ≠ g)) (ai.apart HI0.out (HO375.out) (by decide)) (fun k_ hk => hk.2))).2.1 (Kd.R_F (Kd.bn (ok' := (fun k_ => k_ ≠ g)) (ai.apart HI0.out (HO375.out) (by decide)) (fun k_ hk => hk.2))))) (bT.none _ _))); intro v379 w28 ho29 hb hg_ hnew_; clear hg_ hnew_; (first | rw [← Ny378.out] at ho29 | (simp only [Int.reduceToNat] at ho29; rw [← Ny378.out] at ho29)); refine yA4 (Kd.jq ho29 (by exact aC (w := w) (g := g) (row := none) Z1)) (ai.below Z0 hb) (ag.trans Z1 (ag.of_below hb g none) (.inl rfl)) (below_step Z2 hb) ?_; clear HI0 HK HB HO375; intro HO380 HI0 HK HB; clear hb ho29) | ((with_reducible refine gC 74 rfl ?_); refine gM 74 49 rfl Try.func74 (iy.calls F HF k g s0_0 t376 t377 t381 t384 t385 w0 _ Z0 Z2 A18.out) ?_; rintro _ w30 ⟨v382, rfl, ho0, hi, hb, hk⟩; refine ⟨_, rfl, yA5 (Kd.fV (Kd.xu (Kd.xx (Kd.fV (ok := fun k_ => k_ ≠ g) (by (with_reducible repeat (first | apply Kd.fG | apply Kd.fF | apply Kd.gQ)); exact HO380.out) (fun k_ hk_ => (⟨hk_, hk_⟩ : _ ∧ k_ ≠ g))) hk) (Kd.R_base ho0)) (fun _ h_ => h_.1)) (Kd.R_lower ho0 (by exact aC (w := w) (g := g) (row := none) Z1)) (ag.trans Z1 hk (.inl rfl)) (hb) (hi) ?_⟩; clear HO380 HK HB HI0 hb ho0; intro HO380 HO383 HK HB HI0; obtain ⟨Ao32, co32, rfl⟩ := Kd.R_slice HO383.out) | ((with_reducible refine dB (b := .append) (xs := #[.tmp 47, .tmp 50]) rfl ?_); at_builtin; refine Kd.uA (Kd.slice 41 k41) w.heap.size rfl (.tmp 47) (.tmp 50) 78 23 (.slice none 0 0) 24 rfl Try.underlying78 info23 rfl (by decide) (by omega) v379 y378 t381 [.slice Ao32 t381.length co32] (fun k_ => k_ ≠ g) (fun k_ => ((fun k_ => k_ ≠ g)) k_ ∧ some k_ ≠ (v379 : Value).ownBlock) rfl rfl ?aP (fun _ hk => hk) ?aF ?aO (Below.refl _ _) ?aS ?aL ?_; (case aP => exact (Kd.dP (Kd.R_reads' (Kd.bn (ok' := (fun k_ => ((fun k_ => k_ ≠ g)) k_ ∧ some k_ ≠ (v379 : Value).ownBlock)) (ai.apart HI0.out (Kd.dV (HO383.out) (Kd.oM HO380.out) (by decide)) (by decide)) (fun k_ hk => ⟨hk.2, hk.1.2⟩))).2.1 (Kd.R_F (Kd.bn (ok' := (fun k_ => ((fun k_ => k_ ≠ g)) k_ ∧ some k_ ≠ (v379 : Value).ownBlock)) (ai.apart HI0.out (Kd.dV (HO383.out) (Kd.oM HO380.out) (by decide)) (by decide)) (fun k_ hk => ⟨hk.2, hk.1.2⟩))))); (case aF => exact (fun k_ hk => ai.fresh Z0 k_ hk)); (case aO => exact (by (with_reducible repeat (first | apply Kd.fG | apply Kd.fF | apply Kd.gQ)); exact Kd.fV HO380.out (fun _ hk => hk.1))); (case aS => exact (by exact aC (w := w) (g := g) (row := none) Z1)); (case aL => have := LMc19.out; omega); intro v387 w31 ho hb hg hat; rw [← Ny386.out] at ho; refine yA4 (ai.grown Z0 hg (ai.rV HI0.out HO380.out (by decide))) (eY Z2 HL.out hb) (ag.trans Z1 (ag.iq hg g) (Kd.rZ HO380.out)) (ho) ?_; clear HI0 HB HK HO380 HO383; intro HI0 HB HK HO388; clear ho hb hg hat) | ((with_reducible refine gC 53 rfl ?_); refine gM 53 53 rfl Try.func53 (ax.calls g s0_0 t384 t385 (⟨#[101, 108, 115, 101]⟩ : ByteArray) true t390 t391 w0 _ Z0 Z2 A20.out) ?_; rintro _ w33 ⟨rfl, hi, hb, hk⟩; refine ⟨_, rfl, yA4 (Kd.fV (Kd.xy (Kd.fV (ok := fun k_ => k_ ≠ g) Z69 (fun k_ hk_ => (⟨hk_, hk_⟩ : _ ∧ k_ ≠ g))) hk (fun _ h => h.2)) (fun _ h => h.1)) (ag.trans Z1 hk (.inl rfl)) (hb) (hi) ?_⟩; clear HO388 HK HB HI0 hb; intro HO388 HK HB HI0) | ((with_reducible refine gC 74 rfl ?_); refine gM 74 56 rfl Try.func74 (iy.calls F HF k g s0_0 t390 t391 t392 t395 t396 w0 _ Z0 Z2 A22.out) ?_; rintro _ w34 ⟨v393, rfl, ho0, hi, hb, hk⟩; refine ⟨_, rfl, yA5 (Kd.fV (Kd.xu (Kd.xx (Kd.fV (ok := fun k_ => k_ ≠ g) Z69 (fun k_ hk_ => (⟨hk_, hk_⟩ : _ ∧ k_ ≠ g))) hk) (Kd.R_base ho0)) (fun _ h_ => h_.1)) (Kd.R_lower ho0 (by exact aC (w := w) (g := g) (row := none) Z1)) (ag.trans Z1 hk (.inl rfl)) (hb) (hi) ?_⟩; clear HO388 HK HB HI0 hb ho0; intro HO388 HO394 HK HB HI0; obtain ⟨Ao36, co36, rfl⟩ := Kd.R_slice HO394.out) | ((with_reducible refine dB (b := .append) (xs := #[.tmp 54, .tmp 57]) rfl ?_); at_builtin; refine Kd.uA (Kd.slice 41 k41) w.heap.size rfl (.tmp 54) (.tmp 57) 78 23 (.slice none 0 0) 24 rfl Try.underlying78 info23 rfl (by decide) (by omega) v387 y386 t392 [.slice Ao36 t392.length co36] (fun k_ => k_ ≠ g) (fun k_ => ((fun k_ => k_ ≠ g)) k_ ∧ some k_ ≠ (v387 : Value).ownBlock) rfl rfl ?aP (fun _ hk => hk) ?aF ?aO (Below.refl _ _) ?aS ?aL ?_; (case aP => exact (Kd.dP (Kd.R_reads' (Kd.bn (ok' := (fun k_ => ((fun k_ => k_ ≠ g)) k_ ∧ some k_ ≠ (v387 : Value).ownBlock)) (ai.apart HI0.out (Kd.dV (HO394.out) (Kd.oM HO388.out) (by decide)) (by decide)) (fun k_ hk => ⟨hk.2, hk.1.2⟩))).2.1 (Kd.R_F (Kd.bn (ok' := (fun k_ => ((fun k_ => k_ ≠ g)) k_ ∧ some k_ ≠ (v387 : Value).ownBlock)) (ai.apart HI0.out (Kd.dV (HO394.out) (Kd.oM HO388.out) (by decide)) (by decide)) (fun k_ hk => ⟨hk.2, hk.1.2⟩))))); (case aF => exact (fun k_ hk => ai.fresh Z0 k_ hk)); (case aO => exact (by (with_reducible repeat (first | apply Kd.fG | apply Kd.fF | apply Kd.gQ)); exact Kd.fV HO388.out (fun _ hk => hk.1))); (case aS => exact (by exact aC (w := w) (g := g) (row := none) Z1)); (case aL => have := LMc23.out; omega); intro v398 w35 ho hb hg hat; rw [← Ny397.out] at ho; refine yA4 (ai.grown Z0 hg (ai.rV HI0.out HO388.out (by decide))) (eY Z2 HL.out hb) (ag.trans Z1 (ag.iq hg g) (Kd.rZ HO388.out)) (ho) ?_; clear HI0 HB HK HO388 HO394; intro HI0 HB HK HO399; clear ho hb hg hat; obtain ⟨Ao37, co37, rfl⟩ := Kd.jo HO399.out) | ((with_reducible refine gC 56 rfl ?_); refine gM 56 61 rfl Try.func56 (au.calls k 9 0 (⟨#[]⟩ : ByteArray) 0 (⟨#[]⟩ : ByteArray) _ _ y397 t400 _ (by repeat (first | exact (Kd.eG HO399.out).2.2 | (with_reducible refine Kd.C_alloc ?_ _) | (with_reducible refine Kd.C_drewN ?_ _) | (with_reducible refine Kd.C_drew ?_))) ((Kd.eG HO399.out).2.1) A24.out) ?_; rintro _ w38 ⟨v401, rfl, ho0, hb⟩; refine ⟨_, rfl, yA5 (Kd.iQ (by (with_reducible repeat (first | apply Kd.fG | apply Kd.fF | apply Kd.gQ)); exact HO399.out) (Kd.R_base ho0) hb) (Kd.R_lower ho0 (by exact aC (w := w) (g := g) (row := none) Z1)) (ai.below Z0 hb) (ag.trans Z1 (ag.of_below hb g none) (.inl rfl)) (below_step Z2 hb) ?_⟩; clear HO399 HI0 HK HB hb ho0; intro HO399 HO402 HI0 HK HB))
       go_ret
       exact ⟨_, Z4, by (with_reducible repeat (first | apply Kd.R_alloc | apply Kd.R_drewN | apply Kd.R_drew)); exact HO402.out, Z0, Z2, Z1⟩
      exact absurd H (by simp)
     replace H := yF H
     revert H
     refine yB1 fun t403 A39 H => ?_
     simp only [Option.some.injEq, Prod.mk.injEq] at H
     obtain ⟨rfl, rfl, rfl⟩ := H
     go_wp2_with (first | ((with_reducible refine gC 53 rfl ?_); refine gM 53 43 rfl Try.func53 (ax.calls g s0_0 t352 t353 t351 t370 t371 t372 w0 _ Z0 Z2 A16.out) ?_; rintro _ w40 ⟨rfl, hi, hb, hk⟩; refine ⟨_, rfl, yA3 (ag.trans Z1 hk (.inl rfl)) (hb) (hi) ?_⟩; clear HK HB HI0 hb; intro HK HB HI0) | ((with_reducible refine gC 77 rfl ?_); refine gM 77 45 rfl Try.func77 (fE.calls F HF k g s0_0 t371 t372 t373 t376 t377 w0 _ Z0 Z2 A17.out) ?_; rintro _ w41 ⟨v374, rfl, ho0, hi, hb, hk⟩; refine ⟨_, rfl, yA4 (Kd.R_lower ho0 (by exact aC (w := w) (g := g) (row := none) Z1)) (ag.trans Z1 hk (.inl rfl)) (hb) (hi) ?_⟩; clear HK HB HI0 hb ho0; intro HO375 HK HB HI0; obtain ⟨Ao42, co42, rfl⟩ := Kd.R_slice HO375.out) | ((with_reducible refine bJ (N := 46) rfl ?_); refine Kd.oh (Kd.slice 41 k41) _ 23 ?hg (N' := 46) ?hd (xs := ([t373] : List (List (S41)))) (inner := [.slice Ao42 t373.length co42]) (ok := (fun k_ => k_ ≠ g)) (okp := (fun k_ => k_ ≠ g)) ?hr ?hp (fun _ hk => hk) ((show ∀ k_, w41.heap.size ≤ k_ → (fun k_ => k_ ≠ g) k_ from fun k_ hk => ai.fresh Z0 k_ hk) _ (Nat.le_refl _)) (Below.refl _ _) (Nat.le_refl _) (by simp) ?_; (case hd => rfl); (case hg => rfl); (case hr => first | (go_simp; done) | (go_simp; rfl)); (case hp => exact (bT.one (show Kd.FK (Kd.slice 41 k41) _ _ t373 [.slice Ao42 t373.length co42] from (Kd.dP (Kd.R_reads' (Kd.bn (ok' := (fun k_ => k_ ≠ g)) (ai.apart HI0.out (HO375.out) (by decide)) (fun k_ hk => hk.2))).2.1 (Kd.R_F (Kd.bn (ok' := (fun k_ => k_ ≠ g)) (ai.apart HI0.out (HO375.out) (by decide)) (fun k_ hk => hk.2))))) (bT.none _ _))); intro v379 w43 ho44 hb hg_ hnew_; clear hg_ hnew_; (first | rw [← Ny378.out] at ho44 | (simp only [Int.reduceToNat] at ho44; rw [← Ny378.out] at ho44)); refine yA4 (Kd.jq ho44 (by exact aC (w := w) (g := g) (row := none) Z1)) (ai.below Z0 hb) (ag.trans Z1 (ag.of_below hb g none) (.inl rfl)) (below_step Z2 hb) ?_; clear HI0 HK HB HO375; intro HO380 HI0 HK HB; clear hb ho44) | ((with_reducible refine gC 74 rfl ?_); refine gM 74 49 rfl Try.func74 (iy.calls F HF k g s0_0 t376 t377 t381 t384 t385 w0 _ Z0 Z2 A18.out) ?_; rintro _ w45 ⟨v382, rfl, ho0, hi, hb, hk⟩; refine ⟨_, rfl, yA5 (Kd.fV (Kd.xu (Kd.xx (Kd.fV (ok := fun k_ => k_ ≠ g) (by (with_reducible repeat (first | apply Kd.fG | apply Kd.fF | apply Kd.gQ)); exact HO380.out) (fun k_ hk_ => (⟨hk_, hk_⟩ : _ ∧ k_ ≠ g))) hk) (Kd.R_base ho0)) (fun _ h_ => h_.1)) (Kd.R_lower ho0 (by exact aC (w := w) (g := g) (row := none) Z1)) (ag.trans Z1 hk (.inl rfl)) (hb) (hi) ?_⟩; clear HO380 HK HB HI0 hb ho0; intro HO380 HO383 HK HB HI0; obtain ⟨Ao47, co47, rfl⟩ := Kd.R_slice HO383.out) | ((with_reducible refine dB (b := .append) (xs := #[.tmp 47, .tmp 50]) rfl ?_); at_builtin; refine Kd.uA (Kd.slice 41 k41) w.heap.size rfl (.tmp 47) (.tmp 50) 78 23 (.slice none 0 0) 24 rfl Try.underlying78 info23 rfl (by decide) (by omega) v379 y378 t381 [.slice Ao47 t381.length co47] (fun k_ => k_ ≠ g) (fun k_ => ((fun k_ => k_ ≠ g)) k_ ∧ some k_ ≠ (v379 : Value).ownBlock) rfl rfl ?aP (fun _ hk => hk) ?aF ?aO (Below.refl _ _) ?aS ?aL ?_; (case aP => exact (Kd.dP (Kd.R_reads' (Kd.bn (ok' := (fun k_ => ((fun k_ => k_ ≠ g)) k_ ∧ some k_ ≠ (v379 : Value).ownBlock)) (ai.apart HI0.out (Kd.dV (HO383.out) (Kd.oM HO380.out) (by decide)) (by decide)) (fun k_ hk => ⟨hk.2, hk.1.2⟩))).2.1 (Kd.R_F (Kd.bn (ok' := (fun k_ => ((fun k_ => k_ ≠ g)) k_ ∧ some k_ ≠ (v379 : Value).ownBlock)) (ai.apart HI0.out (Kd.dV (HO383.out) (Kd.oM HO380.out) (by decide)) (by decide)) (fun k_ hk => ⟨hk.2, hk.1.2⟩))))); (case aF => exact (fun k_ hk => ai.fresh Z0 k_ hk)); (case aO => exact (by (with_reducible repeat (first | apply Kd.fG | apply Kd.fF | apply Kd.gQ)); exact Kd.fV HO380.out (fun _ hk => hk.1))); (case aS => exact (by exact aC (w := w) (g := g) (row := none) Z1)); (case aL => have := LMc19.out; omega); intro v387 w46 ho hb hg hat; rw [← Ny386.out] at ho; refine yA4 (ai.grown Z0 hg (ai.rV HI0.out HO380.out (by decide))) (eY Z2 HL.out hb) (ag.trans Z1 (ag.iq hg g) (Kd.rZ HO380.out)) (ho) ?_; clear HI0 HB HK HO380 HO383; intro HI0 HB HK HO388; clear ho hb hg hat) | ((with_reducible refine gC 53 rfl ?_); refine gM 53 53 rfl Try.func53 (ax.calls g s0_0 t384 t385 (⟨#[101, 108, 115, 101]⟩ : ByteArray) false t390 t391 w0 _ Z0 Z2 A20.out) ?_; rintro _ w48 ⟨rfl, hi, hb, hk⟩; refine ⟨_, rfl, yA4 (Kd.fV (Kd.xy (Kd.fV (ok := fun k_ => k_ ≠ g) Z69 (fun k_ hk_ => (⟨hk_, hk_⟩ : _ ∧ k_ ≠ g))) hk (fun _ h => h.2)) (fun _ h => h.1)) (ag.trans Z1 hk (.inl rfl)) (hb) (hi) ?_⟩; clear HO388 HK HB HI0 hb; intro HO388 HK HB HI0; obtain ⟨Ao49, co49, rfl⟩ := Kd.jo HO388.out) | ((with_reducible refine gC 56 rfl ?_); refine gM 56 61 rfl Try.func56 (au.calls k 9 0 (⟨#[]⟩ : ByteArray) 0 (⟨#[]⟩ : ByteArray) _ _ y386 t403 _ (by repeat (first | exact (Kd.eG HO388.out).2.2 | (with_reducible refine Kd.C_alloc ?_ _) | (with_reducible refine Kd.C_drewN ?_ _) | (with_reducible refine Kd.C_drew ?_))) ((Kd.eG HO388.out).2.1) A39.out) ?_; rintro _ w50 ⟨v404, rfl, ho0, hb⟩; refine ⟨_, rfl, yA5 (Kd.iQ Z69 (Kd.R_base ho0) hb) (Kd.R_lower ho0 (by exact aC (w := w) (g := g) (row := none) Z1)) (ai.below Z0 hb) (ag.trans Z1 (ag.of_below hb g none) (.inl rfl)) (below_step Z2 hb) ?_⟩; clear HO388 HI0 HK HB hb ho0; intro HO388 HO405 HI0 HK HB))
     go_ret
     exact ⟨_, Z4, by (with_reducible repeat (first | apply Kd.R_alloc | apply Kd.R_drewN | apply Kd.R_drew)); exact HO405.out, Z0, Z2, Z1⟩
    exact absurd H (by simp)
   revert H
   refine aJ (fun c51b0 c51b1 H => ?_) fun c51 c51b0 c51b1 H => ?_
   ·revert H
    refine yB3 fun t406 t407 t408 A52 H => ?_
    try dsimp only at H
    revert H
    refine yB3 fun t409 t412 t413 A53 H => ?_
    try dsimp only at H
    revert H
    refine yB3 fun t414 t417 t418 A54 H => ?_
    try dsimp only at H
    obtain ⟨y419, hy419⟩ : ∃ y_ : List (List (S41)), y_ = (([t409, t414] : List (List (S41)))) := ⟨_, rfl⟩
    replace H : ((au.f k 10 0 (⟨#[]⟩ : ByteArray) 0 (⟨#[]⟩ : ByteArray) y419).bind fun t422 => (some (t422, t417, t418))) = some (r1, r2, r3) := by first | (rw [hy419]; with_reducible exact H) | (have H2_ := (Option.bind_some _ _).symm.trans H; rw [hy419]; with_reducible exact H2_) | (have H2_ := (Option.bind_some _ _).symm.trans H; with_reducible exact H2_) | with_reducible exact H | (rw [hy419]; exact H) | exact H
    have Ny419 := Aside0.mk hy419
    clear hy419
    revert H
    refine yB1 fun t422 A55 H => ?_
    simp only [Option.some.injEq, Prod.mk.injEq] at H
    obtain ⟨rfl, rfl, rfl⟩ := H
    go_wp2_with (first | ((with_reducible refine gC 53 rfl ?_); refine gM 53 64 rfl Try.func53 (ax.calls g s0_0 t352 t353 t351 t406 t407 t408 w0 _ Z0 Z2 A52.out) ?_; rintro _ w56 ⟨rfl, hi, hb, hk⟩; refine ⟨_, rfl, yA3 (ag.trans Z1 hk (.inl rfl)) (hb) (hi) ?_⟩; clear HK HB HI0 hb; intro HK HB HI0) | ((with_reducible refine gC 77 rfl ?_); refine gM 77 66 rfl Try.func77 (fE.calls F HF k g s0_0 t407 t408 t409 t412 t413 w0 _ Z0 Z2 A53.out) ?_; rintro _ w57 ⟨v410, rfl, ho0, hi, hb, hk⟩; refine ⟨_, rfl, yA4 (Kd.R_lower ho0 (by exact aC (w := w) (g := g) (row := none) Z1)) (ag.trans Z1 hk (.inl rfl)) (hb) (hi) ?_⟩; clear HK HB HI0 hb ho0; intro HO411 HK HB HI0) | ((with_reducible refine gC 74 rfl ?_); refine gM 74 70 rfl Try.func74 (iy.calls F HF k g s0_0 t412 t413 t414 t417 t418 w0 _ Z0 Z2 A54.out) ?_; rintro _ w58 ⟨v415, rfl, ho0, hi, hb, hk⟩; refine ⟨_, rfl, yA5 (Kd.bn (Kd.qU (Kd.qV (ai.apart (show ai w0 _ g s0_0 t412 t413 from Z0) (by (with_reducible repeat (first | apply Kd.R_alloc | apply Kd.R_drewN | apply Kd.R_drew)); exact HO411.out) (by decide)) hk) (Kd.R_base ho0)) (fun _ h_ => h_.1)) (Kd.R_lower (Kd.R_new' ho0 (Kd.R_lt (by (with_reducible repeat (first | apply Kd.R_alloc | apply Kd.R_drewN | apply Kd.R_drew)); exact HO411.out))) (by exact aC (w := w) (g := g) (row := none) Z1)) (ag.trans Z1 hk (.inl rfl)) (hb) (hi) ?_⟩; clear HO411 HK HB HI0 hb ho0; intro HO411 HO416 HK HB HI0; obtain ⟨Ao59, co59, rfl⟩ := Kd.R_slice HO411.out; obtain ⟨Ao60, co60, rfl⟩ := Kd.R_slice HO416.out) | ((with_reducible refine bJ (N := 71) rfl ?_); refine Kd.oh (Kd.slice 41 k41) _ 23 ?hg (N' := 71) ?hd (xs := ([t409, t414] : List (List (S41)))) (inner := [.slice Ao59 t409.length co59, .slice Ao60 t414.length co60]) (ok := (fun k_ => k_ ≠ g)) (okp := (fun k_ => k_ ≠ g)) ?hr ?hp (fun _ hk => hk) ((show ∀ k_, w58.heap.size ≤ k_ → (fun k_ => k_ ≠ g) k_ from fun k_ hk => ai.fresh Z0 k_ hk) _ (Nat.le_refl _)) (Below.refl _ _) (Nat.le_refl _) (by simp) ?_; (case hd => rfl); (case hg => rfl); (case hr => first | (go_simp; done) | (go_simp; rfl)); (case hp => exact (bT.one (show Kd.FK (Kd.slice 41 k41) _ _ t409 [.slice Ao59 t409.length co59] from (Kd.dP (Kd.R_reads' (Kd.bn (ok' := (fun k_ => k_ ≠ g)) (ai.apart HI0.out (HO411.out) (by decide)) (fun k_ hk => hk.2))).2.1 (Kd.R_F (Kd.bn (ok' := (fun k_ => k_ ≠ g)) (ai.apart HI0.out (HO411.out) (by decide)) (fun k_ hk => hk.2))))) (bT.one (show Kd.FK (Kd.slice 41 k41) _ _ t414 [.slice Ao60 t414.length co60] from (Kd.dP (Kd.R_reads' (Kd.bn (ok' := (fun k_ => k_ ≠ g)) (ai.apart HI0.out (HO416.out) (by decide)) (fun k_ hk => hk.2))).2.1 (Kd.R_F (Kd.bn (ok' := (fun k_ => k_ ≠ g)) (ai.apart HI0.out (HO416.out) (by decide)) (fun k_ hk => hk.2))))) (bT.none _ _)))); intro v420 w61 ho62 hb hg_ hnew_; clear hg_ hnew_; (first | rw [← Ny419.out] at ho62 | (simp only [Int.reduceToNat] at ho62; rw [← Ny419.out] at ho62)); refine yA4 (Kd.jq ho62 (by exact aC (w := w) (g := g) (row := none) Z1)) (ai.below Z0 hb) (ag.trans Z1 (ag.of_below hb g none) (.inl rfl)) (below_step Z2 hb) ?_; clear HI0 HK HB HO411 HO416; intro HO421 HI0 HK HB; clear hb ho62; obtain ⟨Ao63, co63, rfl⟩ := Kd.jo HO421.out) | ((with_reducible refine gC 56 rfl ?_); refine gM 56 72 rfl Try.func56 (au.calls k 10 0 (⟨#[]⟩ : ByteArray) 0 (⟨#[]⟩ : ByteArray) _ _ y419 t422 _ (by repeat (first | exact (Kd.eG HO421.out).2.2 | (with_reducible refine Kd.C_alloc ?_ _) | (with_reducible refine Kd.C_drewN ?_ _) | (with_reducible refine Kd.C_drew ?_))) ((Kd.eG HO421.out).2.1) A55.out) ?_; rintro _ w64 ⟨v423, rfl, ho0, hb⟩; refine ⟨_, rfl, yA5 (Kd.iQ (by (with_reducible repeat (first | apply Kd.fG | apply Kd.fF | apply Kd.gQ)); exact HO421.out) (Kd.R_base ho0) hb) (Kd.R_lower ho0 (by exact aC (w := w) (g := g) (row := none) Z1)) (ai.below Z0 hb) (ag.trans Z1 (ag.of_below hb g none) (.inl rfl)) (below_step Z2 hb) ?_⟩; clear HO421 HI0 HK HB hb ho0; intro HO421 HO424 HI0 HK HB))
    go_ret
    exact ⟨_, Z4, by (with_reducible repeat (first | apply Kd.R_alloc | apply Kd.R_drewN | apply Kd.R_drew)); exact HO424.out, Z0, Z2, Z1⟩
   revert H
   refine aJ (fun c65b0 c65b1 H => ?_) fun c65 c65b0 c65b1 H => ?_
   ·by_cases c66 : 11 = 0
    ·exact absurd c66 (by decide)
    rw [if_neg c66] at H
    have c66b0 : (11 == 0) = false := beq_eq_false_iff_ne.mpr c66
    have c66b1 : (11 != 0) = true := bne_iff_ne.mpr c66
    have H' := Aside0.mk H
    clear H
    go_wp2
    go_meet
    case rel => exact ⟨_, (11), (t352), (t353), Z6, H', ⟨Z38⟩, ⟨Z0⟩, ⟨Z1⟩, ⟨Z2⟩⟩
   revert H
   refine aJ (fun c67b0 c67b1 H => ?_) fun c67 c67b0 c67b1 H => ?_
   ·by_cases c68 : 0 = 0
    ·rw [if_pos c68] at H
     have c68b0 : (0 == 0) = true := beq_iff_eq.mpr c68
     have c68b1 : (0 != 0) = false := bne_eq_false_iff_eq.mpr c68
     clear c68
     have H' := Aside0.mk H
     clear H
     go_wp2
     go_meet
     case rel => exact ⟨_, (12), (t352), (t353), Z6, H', ⟨Z38⟩, ⟨Z0⟩, ⟨Z1⟩, ⟨Z2⟩⟩
    exact absurd rfl c68
   revert H
   refine aJ (fun c69b0 c69b1 H => ?_) fun c69 c69b0 c69b1 H => ?_
   ·have H' := Aside0.mk H
    clear H
    go_wp2
    go_meet
    case rel => exact ⟨_, (0), (t352), (t353), Z6, H', ⟨Z38⟩, ⟨Z0⟩, ⟨Z1⟩, ⟨Z2⟩⟩
   revert H
   refine aJ (fun c70b0 c70b1 H => ?_) fun c70 c70b0 c70b1 H => ?_
   ·have H' := Aside0.mk H
    clear H
    go_wp2
    go_meet
    case rel => exact ⟨_, (13), (t352), (t353), Z6, H', ⟨Z38⟩, ⟨Z0⟩, ⟨Z1⟩, ⟨Z2⟩⟩
   revert H
   refine aJ (fun c71b0 c71b1 H => ?_) fun c71 c71b0 c71b1 H => ?_
   ·have H' := Aside0.mk H
    clear H
    go_wp2
    go_meet
    case rel => exact ⟨_, (14), (t352), (t353), Z6, H', ⟨Z38⟩, ⟨Z0⟩, ⟨Z1⟩, ⟨Z2⟩⟩
   revert H
   refine aJ (fun c72b0 c72b1 H => ?_) fun c72 c72b0 c72b1 H => ?_
   ·have H' := Aside0.mk H
    clear H
    go_wp2
    go_meet
    case rel => exact ⟨_, (15), (t352), (t353), Z6, H', ⟨Z38⟩, ⟨Z0⟩, ⟨Z1⟩, ⟨Z2⟩⟩
   have H' := Aside0.mk H
   clear H
   go_wp2
   go_meet
   case rel => exact ⟨_, (0), (t352), (t353), Z6, H', ⟨Z38⟩, ⟨Z0⟩, ⟨Z1⟩, ⟨Z2⟩⟩
  case rest =>
   clear HC5
   try clear c1
   try clear c2
   try clear p2
   try clear c5
   try clear c6
   try clear c6b0
   try clear c6b1
   try clear c7
   try clear c8
   try clear c15
   try clear c15b0
   try clear c15b1
   try clear c19
   try clear c21
   try clear c23
   try clear c51
   try clear c51b0
   try clear c51b1
   try clear c52
   try clear c53
   try clear c56
   try clear c65
   try clear c65b0
   try clear c65b1
   try clear c66
   try clear c66b0
   try clear c66b1
   try clear c67
   try clear c67b0
   try clear c67b1
   try clear c68
   try clear c68b0
   try clear c68b1
   try clear c69
   try clear c69b0
   try clear c69b1
   try clear c70
   try clear c70b0
   try clear c70b1
   try clear c71
   try clear c71b0
   try clear c71b1
   try clear c72
   try clear c72b0
   try clear c72b1
   obtain ⟨kq, x4_4, x1001_4, x1002_4, rfl, HA, HJ4, HI0, HK, HB⟩ := hcut
   cases kq with
   | zero => exact absurd HA.out (by simp [aN.j0])
   | succ kj4 =>
    have H := HA.out
    clear HA
    simp only [aN.j0] at H
    revert H
    refine aJ (fun c73b0 c73b1 H => ?_) fun c73 c73b0 c73b1 H => ?_
    ·revert H
     refine yB3 fun t425 t426 t427 A74 H => ?_
     try dsimp only at H
     revert H
     refine yB3 fun t428 t431 t432 A75 H => ?_
     try dsimp only at H
     simp only [Option.some.injEq, Prod.mk.injEq] at H
     obtain ⟨rfl, rfl, rfl⟩ := H
     go_wp2_with (first | ((with_reducible refine gC 53 rfl ?_); refine gM 53 79 rfl Try.func53 (ax.calls g s0_0 x1001_4 x1002_4 t351 t425 t426 t427 w0 _ Z0 Z2 A74.out) ?_; rintro _ w76 ⟨rfl, hi, hb, hk⟩; refine ⟨_, rfl, yA3 (ag.trans Z1 hk (.inl rfl)) (hb) (hi) ?_⟩; clear HK HB HI0 hb; intro HK HB HI0) | ((with_reducible refine gC 78 rfl ?_); refine gM 78 82 rfl Try.func78 (dm.calls kj4 g s0_0 t426 t427 16 t428 t431 t432 w0 _ Z0 Z2 A75.out) ?_; rintro _ w77 ⟨v429, rfl, ho0, hi, hb, hk⟩; refine ⟨_, rfl, yA4 (Kd.R_lower ho0 (by exact aC (w := w) (g := g) (row := none) Z1)) (ag.trans Z1 hk (.inl rfl)) (hb) (hi) ?_⟩; clear HK HB HI0 hb ho0; intro HO430 HK HB HI0))
     go_ret
     exact ⟨_, Z4, by (with_reducible repeat (first | apply Kd.R_alloc | apply Kd.R_drewN | apply Kd.R_drew)); exact HO430.out, Z0, Z2, Z1⟩
    revert H
    refine yB3 fun t433 t434 t435 A78 H => ?_
    try dsimp only at H
    revert H
    refine yB3 fun t436 t439 t440 A79 H => ?_
    try dsimp only at H
    simp only [Option.some.injEq, Prod.mk.injEq] at H
    obtain ⟨rfl, rfl, rfl⟩ := H
    go_wp2_with (first | ((with_reducible refine gC 53 rfl ?_); refine gM 53 79 rfl Try.func53 (ax.calls g s0_0 x1001_4 x1002_4 t351 t433 t434 t435 w0 _ Z0 Z2 A78.out) ?_; rintro _ w80 ⟨rfl, hi, hb, hk⟩; refine ⟨_, rfl, yA3 (ag.trans Z1 hk (.inl rfl)) (hb) (hi) ?_⟩; clear HK HB HI0 hb; intro HK HB HI0) | ((with_reducible refine gC 78 rfl ?_); refine gM 78 82 rfl Try.func78 (dm.calls kj4 g s0_0 t434 t435 x4_4 t436 t439 t440 w0 _ Z0 Z2 A79.out) ?_; rintro _ w81 ⟨v437, rfl, ho0, hi, hb, hk⟩; refine ⟨_, rfl, yA4 (Kd.R_lower ho0 (by exact aC (w := w) (g := g) (row := none) Z1)) (ag.trans Z1 hk (.inl rfl)) (hb) (hi) ?_⟩; clear HK HB HI0 hb ho0; intro HO438 HK HB HI0))
    go_ret
    exact ⟨_, Z4, by (with_reducible repeat (first | apply Kd.R_alloc | apply Kd.R_drewN | apply Kd.R_drew)); exact HO438.out, Z0, Z2, Z1⟩
 case rest =>
  clear HC3
  try clear c1
  try clear c2
  try clear p2
  try clear c5
  try clear c6
  try clear c6b0
  try clear c6b1
  try clear c7
  try clear c8
  try clear c15
  try clear c15b0
  try clear c15b1
  try clear c19
  try clear c21
  try clear c23
  try clear c51
  try clear c51b0
  try clear c51b1
  try clear c52
  try clear c53
  try clear c56
  try clear c65
  try clear c65b0
  try clear c65b1
  try clear c66
  try clear c66b0
  try clear c66b1
  try clear c67
  try clear c67b0
  try clear c67b1
  try clear c68
  try clear c68b0
  try clear c68b1
  try clear c69
  try clear c69b0
  try clear c69b1
  try clear c70
  try clear c70b0
  try clear c70b1
  try clear c71
  try clear c71b0
  try clear c71b1
  try clear c72
  try clear c72b0
  try clear c72b1
  try clear c73
  try clear c73b0
  try clear c73b1
  try clear c75
  try clear c76
  try clear c78
  try clear p2
  obtain ⟨kq, x4_2, x1001_2, x1002_2, rfl, HA, HJ2, HI0, HK, HB⟩ := hcut
  cases kq with
  | zero => exact absurd HA.out (by simp [aN.j1])
  | succ kj2 =>
   have H := HA.out
   clear HA
   simp only [aN.j1] at H
   revert H
   refine aJ (fun c82b0 c82b1 H => ?_) fun c82 c82b0 c82b1 H => ?_
   ·revert H
    refine yB3 fun t441 t444 t445 A83 H => ?_
    try dsimp only at H
    simp only [Option.some.injEq, Prod.mk.injEq] at H
    obtain ⟨rfl, rfl, rfl⟩ := H
    go_wp2_with (first | ((with_reducible refine gC 79 rfl ?_); refine gM 79 86 rfl Try.func79 (aT.calls F HF kj2 g s0_0 x1001_2 x1002_2 t441 t444 t445 w0 _ Z0 Z2 A83.out) ?_; rintro _ w84 ⟨v442, rfl, ho0, hi, hb, hk⟩; refine ⟨_, rfl, yA4 (Kd.R_lower ho0 (by exact aC (w := w) (g := g) (row := none) Z1)) (ag.trans Z1 hk (.inl rfl)) (hb) (hi) ?_⟩; clear HK HB HI0 hb ho0; intro HO443 HK HB HI0))
    go_ret
    exact ⟨_, Z4, by (with_reducible repeat (first | apply Kd.R_alloc | apply Kd.R_drewN | apply Kd.R_drew)); exact HO443.out, Z0, Z2, Z1⟩
   revert H
   refine yB3 fun t446 t447 t448 A85 H => ?_
   try dsimp only at H
   revert H
   refine yB3 fun t449 t452 t453 A86 H => ?_
   try dsimp only at H
   simp only [Option.some.injEq, Prod.mk.injEq] at H
   obtain ⟨rfl, rfl, rfl⟩ := H
   go_wp2_with (first | ((with_reducible refine gC 53 rfl ?_); refine gM 53 89 rfl Try.func53 (ax.calls g s0_0 x1001_2 x1002_2 t351 t446 t447 t448 w0 _ Z0 Z2 A85.out) ?_; rintro _ w87 ⟨rfl, hi, hb, hk⟩; refine ⟨_, rfl, yA3 (ag.trans Z1 hk (.inl rfl)) (hb) (hi) ?_⟩; clear HK HB HI0 hb; intro HK HB HI0) | ((with_reducible refine gC 76 rfl ?_); refine gM 76 93 rfl Try.func76 (bC.calls F HF kj2 g s0_0 t447 t448 x4_2 0 (⟨#[]⟩ : ByteArray) 0 (⟨#[]⟩ : ByteArray) t449 t452 t453 w0 _ Z0 Z2 A86.out) ?_; rintro _ w88 ⟨v450, rfl, ho0, hi, hb, hk⟩; refine ⟨_, rfl, yA4 (Kd.R_lower ho0 (by exact aC (w := w) (g := g) (row := none) Z1)) (ag.trans Z1 hk (.inl rfl)) (hb) (hi) ?_⟩; clear HK HB HI0 hb ho0; intro HO451 HK HB HI0))
   go_ret
   exact ⟨_, Z4, by (with_reducible repeat (first | apply Kd.R_alloc | apply Kd.R_drewN | apply Kd.R_drew)); exact HO451.out, Z0, Z2, Z1⟩
end Go.Proofs.Ytendgafpkeadhaa.Q
end
section
namespace Go.Proofs.Ytendgafpkeadhaa.Q
open Go.RowKit Go.Proofs.YtendgafpkeadhaaW.PrintWords Go.Proofs.YtendgafpkeadhaaW.PrintLast Go.Proofs.YtendgafpkeadhaaW.PrintMore
attribute [local go_sem] iY iW iV iU max2_int min2_int max_two min_two max_three min_three max_four min_four
set_option linter.unusedVariables false
set_option linter.unusedSimpArgs false
/-! ### aX: function 74 -/
def aX.l0 (F : Fam) : Nat → List (List (S41)) → List (S38) → Int → Bool → Option ((List (S41)) × Int × Bool)
 | 0, _, _, _, _ => none
 | k + 1, x3, x1000, x1001, x1002 => if x1002 = true then ((aG.f x1000 x1001 x1002 (⟨#[125]⟩ : ByteArray)).bind fun bt456 => ((au.f k 5 0 (⟨#[]⟩ : ByteArray) 0 (⟨#[]⟩ : ByteArray) x3).bind fun t458 => (some (t458, bt456.1, bt456.2)))) else ((aZ.f x1000 x1001 x1002).bind fun bt461 => (if bt461.1.toList = ([125] : List UInt8) then ((aG.f x1000 bt461.2.1 bt461.2.2 (⟨#[125]⟩ : ByteArray)).bind fun bt464 => ((au.f k 5 0 (⟨#[]⟩ : ByteArray) 0 (⟨#[]⟩ : ByteArray) x3).bind fun t466 => (some (t466, bt464.1, bt464.2)))) else ((aN.f F k x1000 bt461.2.1 bt461.2.2).bind fun bt469 => (if x3.length < 5864062014805 then (aX.l0 F k (x3 ++ [bt469.1]) x1000 bt469.2.1 bt469.2.2) else (none)))))
def aX.f (F : Fam) (k : Nat) (s0_0 : List (S38)) (s0_1 : Int) (s0_2 : Bool) : Option ((List (S41)) × Int × Bool) := (aG.f s0_0 s0_1 s0_2 (⟨#[123]⟩ : ByteArray)).bind fun bt454 => (aX.l0 F k ([] : List (List (S41))) s0_0 bt454.1 bt454.2)
theorem aX.mono_l {F F' : Fam} (HLE : ji F F') : ∀ k, (∀ y0 y1 y2 y3, LeO (aX.l0 F k y0 y1 y2 y3) (aX.l0 F' (k + 1) y0 y1 y2 y3))
 | 0 => fun _ _ _ _ r h => by simp [aX.l0] at h
 | k + 1 => by
  have ih0 := aX.mono_l HLE k
  intro y0 y1 y2 y3
  unfold aX.l0
  have m0 := au.mono
  have m1 := (aN.mono HLE)
  exact yL
theorem aX.mono {F F' : Fam} (HLE : ji F F') : ∀ a0 a1 a2 k, LeO (aX.f F k a0 a1 a2) (aX.f F' (k + 1) a0 a1 a2) := by
 intro a0 a1 a2 k
 have ih0 := aX.mono_l HLE k
 unfold aX.f
 have m0 := au.mono
 have m1 := (aN.mono HLE)
 exact yL
set_option maxHeartbeats 8000000 in
set_option maxRecDepth 100000 in
theorem aX.calls (F : Fam) (HF : kL F) (k : Nat) (g : Nat) (s0_0 : List (S38)) (s0_1 : Int) (s0_2 : Bool) (r1 : List (S41)) (r2 : Int) (r3 : Bool) (w0 w : World) (hI : ai w0 w g s0_0 s0_1 s0_2) (hB : Below w0.heap.size w0 w) (h : aX.f F k s0_0 s0_1 s0_2 = some (r1, r2, r3)) :
 Calls Try.prog 74 #[.pointer (some ⟨g, 0, none⟩)] w fun e w' => ∃ v0_ : Value, e = .returned (v0_) ∧ Kd.R k41 41 w' w.heap.size (fun _ => True) v0_ r1 ∧ ai w0 w' g s0_0 r2 r3 ∧ Below w0.heap.size w0 w' ∧ ag w w' g none := by
 have hu41 := Try.underlying41
 have HI0 := Aside0.mk hI
 have HK := Aside0.mk (ag.refl w g none)
 have HL := Aside0.mk hB.size
 clear hI
 have HW0 := Aside0.mk hB.size
 have HB := Aside0.mk hB
 clear hB
 have H := h
 clear h
 unfold aX.f at H
 revert H
 refine yB2 fun t454 t455 A2 H => ?_
 try dsimp only at H
 have H' := Aside0.mk H
 clear H
 go_enter Try.func74, Try.ntmps74
 go_wp2_with (first | ((with_reducible refine gC 51 rfl ?_); refine gM 51 5 rfl Try.func51 (aG.calls g s0_0 s0_1 s0_2 (⟨#[123]⟩ : ByteArray) t454 t455 w0 _ Z0 Z2 A2.out) ?_; rintro _ w3 ⟨rfl, hi, hb, hk⟩; refine ⟨_, rfl, yA3 (ag.trans Z1 hk (.inl rfl)) (hb) (hi) ?_⟩; clear HK HB HI0 hb; intro HK HB HI0))
 (try simp only [Act.put, List.setIfInBounds_toArray, List.set_cons_zero, List.set_cons_succ])
 go_loopg [3] k (fun kq v3 w' => ∃ (x3_1 : List (List (S41))) (x1001_1 : Int) (x1002_1 : Bool), Aside0 (aX.l0 F kq x3_1 s0_0 x1001_1 x1002_1 = some (r1, r2, r3)) ∧ Aside0 (kq ≤ k) ∧ Aside0 (Kd.S (Kd.slice 41 k41) 23 w' w.heap.size (fun _ => True) v3 x3_1) ∧ Aside0 (ai w0 w' g s0_0 x1001_1 x1002_1) ∧ Aside0 (ag w w' g none) ∧ Aside0 (Below w0.heap.size w0 w'))
 case atStart => exact ⟨(([] : List (List (S41)))), (t454), (t455), H', ⟨Nat.le_refl _⟩, ⟨Z66⟩, ⟨Z0⟩, ⟨Z1⟩, ⟨Z2⟩⟩
 case round =>
  clear H'
  try clear p2
  obtain ⟨x3_1, x1001_1, x1002_1, HA, HK1, HO_3, HI0, HK, HB⟩ := hrel
  cases gk with
  | zero => exact absurd HA.out (by simp [aX.l0])
  | succ k1 =>
   have H := HA.out
   clear HA
   simp only [aX.l0] at H
   cases x1002_1
   rotate_left
   ·replace H := yT H
    revert H
    refine yB2 fun t456 t457 A5 H => ?_
    try dsimp only at H
    revert H
    refine yB1 fun t458 A6 H => ?_
    simp only [Option.some.injEq, Prod.mk.injEq] at H
    obtain ⟨rfl, rfl, rfl⟩ := H
    obtain ⟨ASz7_0, cSz7_0, HGz7, hgz7, HSz7_0⟩ := HI0.out
    have hcz7_0 := dH HGz7
    have hcz7_1 := dG HGz7
    have hcz7_2 := dF HGz7
    have hfz7_1 := ae HGz7 1
    have hfz7_2 := ae HGz7 2
    clear HGz7 hgz7
    go_wp2_with (first | ((with_reducible refine gC 51 rfl ?_); refine gM 51 22 rfl Try.func51 (aG.calls g s0_0 x1001_1 true (⟨#[125]⟩ : ByteArray) t456 t457 w0 _ Z0 Z2 A5.out) ?_; rintro _ w8 ⟨rfl, hi, hb, hk⟩; refine ⟨_, rfl, yA4 (Kd.eX (Kd.jG (ai.gK (show ai w0 _ g s0_0 x1001_1 true from Z0) Z59 (by decide)) hk (fun _ h => h.2)) (fun _ h => h.1)) (ag.trans Z1 hk (.inl rfl)) (hb) (hi) ?_⟩; clear HO_3 HK HB HI0 hb; intro HO_3 HK HB HI0; obtain ⟨Ao9, co9, rfl⟩ := Kd.kW HO_3.out) | ((with_reducible refine gC 56 rfl ?_); refine gM 56 25 rfl Try.func56 (au.calls k1 5 0 (⟨#[]⟩ : ByteArray) 0 (⟨#[]⟩ : ByteArray) _ _ x3_1 t458 _ (by repeat (first | exact (Kd.jJ HO_3.out).2.2 | (with_reducible refine Kd.C_alloc ?_ _) | (with_reducible refine Kd.C_drewN ?_ _) | (with_reducible refine Kd.C_drew ?_))) ((Kd.jJ HO_3.out).2.1) A6.out) ?_; rintro _ w10 ⟨v459, rfl, ho0, hb⟩; refine ⟨_, rfl, yA5 (Kd.nZ Z59 (Kd.R_base ho0) hb) (Kd.R_lower ho0 (by exact aC (w := w) (g := g) (row := none) Z1)) (ai.below Z0 hb) (ag.trans Z1 (ag.of_below hb g none) (.inl rfl)) (below_step Z2 hb) ?_⟩; clear HO_3 HI0 HK HB hb ho0; intro HO_3 HO460 HI0 HK HB))
    go_ret
    exact ⟨_, Z4, by (with_reducible repeat (first | apply Kd.R_alloc | apply Kd.R_drewN | apply Kd.R_drew)); exact HO460.out, Z0, Z2, Z1⟩
   replace H := yF H
   revert H
   refine yB3 fun t461 t462 t463 A11 H => ?_
   try dsimp only at H
   revert H
   refine aJ (fun c12b0 c12b1 H => ?_) fun c12 c12b0 c12b1 H => ?_
   ·revert H
    refine yB2 fun t464 t465 A13 H => ?_
    try dsimp only at H
    revert H
    refine yB1 fun t466 A14 H => ?_
    simp only [Option.some.injEq, Prod.mk.injEq] at H
    obtain ⟨rfl, rfl, rfl⟩ := H
    obtain ⟨ASz15_0, cSz15_0, HGz15, hgz15, HSz15_0⟩ := HI0.out
    have hcz15_0 := dH HGz15
    have hcz15_1 := dG HGz15
    have hcz15_2 := dF HGz15
    have hfz15_1 := ae HGz15 1
    have hfz15_2 := ae HGz15 2
    clear HGz15 hgz15
    go_wp2_with (first | (go_at_call 71; (with_reducible refine (aZ.calls g s0_0 x1001_1 false t461 t462 t463 w0 _ ?side1 ?side2 A11.out).mono ?_); (case side1 => exact Z0); (case side2 => exact Z2); rintro e w16 ⟨rfl, hi, hb, hk⟩; refine yA4 (Kd.eX (Kd.jG (ai.gK (show ai w0 _ g s0_0 x1001_1 false from Z0) Z59 (by decide)) hk (fun _ h => h.2)) (fun _ h => h.1)) (ag.trans Z1 hk (.inl rfl)) (hb) (hi) ?_; clear HO_3 HK HB HI0; intro HO_3 HK HB HI0; (try clear hb)) | ((with_reducible refine gC 51 rfl ?_); refine gM 51 22 rfl Try.func51 (aG.calls g s0_0 t462 t463 (⟨#[125]⟩ : ByteArray) t464 t465 w0 _ Z0 Z2 A13.out) ?_; rintro _ w17 ⟨rfl, hi, hb, hk⟩; refine ⟨_, rfl, yA4 (Kd.eX (Kd.jG (ai.gK (show ai w0 _ g s0_0 t462 t463 from Z0) Z59 (by decide)) hk (fun _ h => h.2)) (fun _ h => h.1)) (ag.trans Z1 hk (.inl rfl)) (hb) (hi) ?_⟩; clear HO_3 HK HB HI0 hb; intro HO_3 HK HB HI0; obtain ⟨Ao18, co18, rfl⟩ := Kd.kW HO_3.out) | ((with_reducible refine gC 56 rfl ?_); refine gM 56 25 rfl Try.func56 (au.calls k1 5 0 (⟨#[]⟩ : ByteArray) 0 (⟨#[]⟩ : ByteArray) _ _ x3_1 t466 _ (by repeat (first | exact (Kd.jJ HO_3.out).2.2 | (with_reducible refine Kd.C_alloc ?_ _) | (with_reducible refine Kd.C_drewN ?_ _) | (with_reducible refine Kd.C_drew ?_))) ((Kd.jJ HO_3.out).2.1) A14.out) ?_; rintro _ w19 ⟨v467, rfl, ho0, hb⟩; refine ⟨_, rfl, yA5 (Kd.nZ Z59 (Kd.R_base ho0) hb) (Kd.R_lower ho0 (by exact aC (w := w) (g := g) (row := none) Z1)) (ai.below Z0 hb) (ag.trans Z1 (ag.of_below hb g none) (.inl rfl)) (below_step Z2 hb) ?_⟩; clear HO_3 HI0 HK HB hb ho0; intro HO_3 HO468 HI0 HK HB))
    go_ret
    exact ⟨_, Z4, by (with_reducible repeat (first | apply Kd.R_alloc | apply Kd.R_drewN | apply Kd.R_drew)); exact HO468.out, Z0, Z2, Z1⟩
   revert H
   refine yB3 fun t469 t472 t473 A20 H => ?_
   try dsimp only at H
   revert H
   refine dX (fun c21 H => ?_) fun c21 H => ?_
   ·have LMc21 := Aside0.mk c21
    clear c21
    obtain ⟨y474, hy474⟩ : ∃ y_ : List (List (S41)), y_ = (x3_1 ++ [t469]) := ⟨_, rfl⟩
    replace H : (aX.l0 F k1 y474 s0_0 t472 t473) = some (r1, r2, r3) := by first | (rw [hy474]; with_reducible exact H) | (have H2_ := (Option.bind_some _ _).symm.trans H; rw [hy474]; with_reducible exact H2_) | (have H2_ := (Option.bind_some _ _).symm.trans H; with_reducible exact H2_) | with_reducible exact H | (rw [hy474]; exact H) | exact H
    have Ny474 := Aside0.mk hy474
    clear hy474
    have H' := Aside0.mk H
    clear H
    obtain ⟨ASz22_0, cSz22_0, HGz22, hgz22, HSz22_0⟩ := HI0.out
    have hcz22_0 := dH HGz22
    have hcz22_1 := dG HGz22
    have hcz22_2 := dF HGz22
    have hfz22_1 := ae HGz22 1
    have hfz22_2 := ae HGz22 2
    clear HGz22 hgz22
    go_wp2_with (first | (go_at_call 71; (with_reducible refine (aZ.calls g s0_0 x1001_1 false t461 t462 t463 w0 _ ?side1 ?side2 A11.out).mono ?_); (case side1 => exact Z0); (case side2 => exact Z2); rintro e w23 ⟨rfl, hi, hb, hk⟩; refine yA4 (Kd.eX (Kd.jG (ai.gK (show ai w0 _ g s0_0 x1001_1 false from Z0) Z59 (by decide)) hk (fun _ h => h.2)) (fun _ h => h.1)) (ag.trans Z1 hk (.inl rfl)) (hb) (hi) ?_; clear HO_3 HK HB HI0; intro HO_3 HK HB HI0; (try clear hb)) | ((with_reducible refine gC 75 rfl ?_); refine gM 75 18 rfl Try.func75 (aN.calls F HF k1 g s0_0 t462 t463 t469 t472 t473 w0 _ Z0 Z2 A20.out) ?_; rintro _ w24 ⟨v470, rfl, ho0, hi, hb, hk⟩; refine ⟨_, rfl, yA5 (Kd.eX (Kd.nX (Kd.nY (ai.gK (show ai w0 _ g s0_0 t462 t463 from Z0) Z59 (by decide)) hk) (Kd.R_base ho0)) (fun _ h_ => h_.1)) (Kd.R_lower ho0 (by exact aC (w := w) (g := g) (row := none) Z1)) (ag.trans Z1 hk (.inl rfl)) (hb) (hi) ?_⟩; clear HO_3 HK HB HI0 hb ho0; intro HO_3 HO471 HK HB HI0; obtain ⟨Ao26, co26, rfl⟩ := Kd.R_slice HO471.out) | ((with_reducible refine dB (b := .append) (xs := #[.tmp 16, .tmp 19]) rfl ?_); at_builtin; refine Kd.lG (Kd.slice 41 k41) w.heap.size rfl (.tmp 16) (.tmp 19) 78 23 (.slice none 0 0) 24 rfl Try.underlying78 info23 rfl (by decide) (by omega) u3 x3_1 t469 [.slice Ao26 t469.length co26] (fun _ => True) (fun k_ => some k_ = (.slice Ao26 t469.length co26 : Value).ownBlock) rfl rfl ?aP (fun k_ hk_ => ((Kd.bn (ok' := fun k_ => ((fun _ => True)) k_ ∧ some k_ ≠ (u3 : Value).ownBlock) (Kd.dV (HO471.out) (Kd.iI HO_3.out) (by decide)) (fun k_ hk => ⟨trivial, hk.2⟩))).1 k_ hk_.symm) ?aF ?aO (Below.refl _ _) ?aS ?aL ?_; (case aP => exact Kd.rF (Kd.bn (Kd.kX rfl (Kd.bn (ok' := fun k_ => ((fun _ => True)) k_ ∧ some k_ ≠ (u3 : Value).ownBlock) (Kd.dV (HO471.out) (Kd.iI HO_3.out) (by decide)) (fun k_ hk => ⟨trivial, hk.2⟩))) (fun _ h_ => h_))); (case aF => exact (fun _ _ => trivial)); (case aO => exact (by (with_reducible repeat (first | apply Kd.gX | apply Kd.gW | apply Kd.ja)); exact Kd.eX HO_3.out (fun k_ hk => ⟨trivial, fun e_ => hk.2 e_⟩))); (case aS => exact (by exact aC (w := w) (g := g) (row := none) Z1)); (case aL => have := LMc21.out; omega); intro v475 w25 ho hb hg hat; rw [← Ny474.out] at ho; refine yA4 (ai.grown Z0 hg (ai.lQ HI0.out HO_3.out (by decide))) (eY Z2 HL.out hb) (ag.trans Z1 (ag.iq hg g) (Kd.lV HO_3.out)) (ho) ?_; clear HI0 HB HK HO_3 HO471; intro HI0 HB HK HO476; clear ho hb hg hat))
    go_roundg k1
    case measure => have := HK1.out; omega
    case rel => exact ⟨(y474), (t472), (t473), H', ⟨by have := HK1.out; omega⟩, ⟨by (with_reducible repeat (first | apply Kd.gX | apply Kd.gW | apply Kd.ja)); exact HO476.out⟩, ⟨Z0⟩, ⟨Z1⟩, ⟨Z2⟩⟩
   exact absurd H (by simp)
/-! ### cu: function 73 -/
def cu.f (k : Nat) (s0_0 : List (S38)) (s0_1 : Int) (s0_2 : Bool) : Option ((List (S41)) × Int × Bool) := (bu.f s0_0 s0_1 s0_2 1).bind fun bt477 => ((au.f k 4 0 bt477.2.1 0 (⟨#[]⟩ : ByteArray) ([] : List (List (S41)))).bind fun t483 => (some (t483, bt477.2.2.2.2.1, bt477.2.2.2.2.2)))
theorem cu.mono : ∀ a0 a1 a2 k, LeO (cu.f k a0 a1 a2) (cu.f (k + 1) a0 a1 a2) := by
 intro a0 a1 a2 k
 unfold cu.f
 have m0 := au.mono
 exact yL
set_option maxHeartbeats 8000000 in
set_option maxRecDepth 100000 in
theorem cu.calls (k : Nat) (g : Nat) (s0_0 : List (S38)) (s0_1 : Int) (s0_2 : Bool) (r1 : List (S41)) (r2 : Int) (r3 : Bool) (w0 w : World) (hI : ai w0 w g s0_0 s0_1 s0_2) (hB : Below w0.heap.size w0 w) (h : cu.f k s0_0 s0_1 s0_2 = some (r1, r2, r3)) :
 Calls Try.prog 73 #[.pointer (some ⟨g, 0, none⟩)] w fun e w' => ∃ v0_ : Value, e = .returned (v0_) ∧ Kd.R k41 41 w' w.heap.size (fun _ => True) v0_ r1 ∧ ai w0 w' g s0_0 r2 r3 ∧ Below w0.heap.size w0 w' ∧ ag w w' g none := by
 have hu41 := Try.underlying41
 have HI0 := Aside0.mk hI
 have HK := Aside0.mk (ag.refl w g none)
 have HL := Aside0.mk hB.size
 clear hI
 have HW0 := Aside0.mk hB.size
 have HB := Aside0.mk hB
 clear hB
 have H := h
 clear h
 unfold cu.f at H
 revert H
 refine yB6 fun t477 t478 t479 t480 t481 t482 A2 H => ?_
 try dsimp only at H
 revert H
 refine yB1 fun t483 A3 H => ?_
 simp only [Option.some.injEq, Prod.mk.injEq] at H
 obtain ⟨rfl, rfl, rfl⟩ := H
 go_enter Try.func73, Try.ntmps73
 go_wp2_with (first | ((with_reducible refine gC 52 rfl ?_); refine gM 52 4 rfl Try.func52 (bu.calls g s0_0 s0_1 s0_2 1 t477 t478 t479 t480 t481 t482 w0 _ Z0 Z2 A2.out) ?_; rintro _ w4 ⟨rfl, hi, hb, hk⟩; refine ⟨_, rfl, yA3 (ag.trans Z1 hk (.inl rfl)) (hb) (hi) ?_⟩; clear HK HB HI0 hb; intro HK HB HI0) | ((with_reducible refine gC 56 rfl ?_); refine gM 56 7 rfl Try.func56 (au.calls k 4 0 t478 0 (⟨#[]⟩ : ByteArray) _ _ ([] : List (List (S41))) t483 _ (Kd.pI _ _) (Nat.le_refl _) A3.out) ?_; rintro _ w5 ⟨v484, rfl, ho0, hb⟩; refine ⟨_, rfl, yA4 (Kd.R_lower ho0 (by exact aC (w := w) (g := g) (row := none) Z1)) (ai.below Z0 hb) (ag.trans Z1 (ag.of_below hb g none) (.inl rfl)) (below_step Z2 hb) ?_⟩; clear HI0 HK HB hb ho0; intro HO485 HI0 HK HB))
 go_ret
 exact ⟨_, Z4, by (with_reducible repeat (first | apply Kd.R_alloc | apply Kd.R_drewN | apply Kd.R_drew)); exact HO485.out, Z0, Z2, Z1⟩
end Go.Proofs.Ytendgafpkeadhaa.Q
end
