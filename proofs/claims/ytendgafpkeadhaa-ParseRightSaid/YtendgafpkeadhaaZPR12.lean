/- Walks over functions of the program, words for them, and what the functions come to; of each text only what this claim uses; no condition. -/
import Derived.Test.YtendgafpkeadhaaZPR0
import Derived.Test.YtendgafpkeadhaaZPR3
import Derived.Test.YtendgafpkeadhaaZPR7
import Derived.Test.YtendgafpkeadhaaZPR9
import Derived.Test.YtendgafpkeadhaaZPR10
import Derived.Test.YtendgafpkeadhaaZPR11
namespace Go.Proofs.Ytendgafpkeadhaa.Q
open Go.RowKit Go.Proofs.YtendgafpkeadhaaW.PrintWords Go.Proofs.YtendgafpkeadhaaW.PrintLast Go.Proofs.YtendgafpkeadhaaW.PrintMore
attribute [local go_sem] ik ig gZ gY max2_int min2_int max_two min_two max_three min_three max_four min_four
set_option linter.unusedVariables false
set_option linter.unusedSimpArgs false
/-! ### aI: function 75 -/
mutual
def aI.j1 (F : Fam) : Nat → ByteArray → Int → List (S38) → Int → Bool → Option ((List (S41)) × Int × Bool)
 | 0, _, _, _, _, _ => none
 | k + 1, x3, x4, x1000, x1001, x1002 => if x4 = 0 then ((aK.f F k x1000 x1001 x1002).bind fun bt441 => (some (bt441.1, bt441.2.1, bt441.2.2))) else ((au.f x1000 x1001 x1002 x3).bind fun bt446 => ((aY.f F k x1000 bt446.2.1 bt446.2.2 x4 0 (⟨#[]⟩ : ByteArray) 0 (⟨#[]⟩ : ByteArray)).bind fun bt449 => (some (bt449.1, bt449.2.1, bt449.2.2))))
def aI.j0 (F : Fam) : Nat → ByteArray → Int → List (S38) → Int → Bool → Option ((List (S41)) × Int × Bool)
 | 0, _, _, _, _, _ => none
 | k + 1, x3, x4, x1000, x1001, x1002 => if x4 = 0 then ((au.f x1000 x1001 x1002 x3).bind fun bt425 => ((bM.f k x1000 bt425.2.1 bt425.2.2 16).bind fun bt428 => (some (bt428.1, bt428.2.1, bt428.2.2)))) else ((au.f x1000 x1001 x1002 x3).bind fun bt433 => ((bM.f k x1000 bt433.2.1 bt433.2.2 x4).bind fun bt436 => (some (bt436.1, bt436.2.1, bt436.2.2))))
end
def aI.f (F : Fam) (k : Nat) (s0_0 : List (S38)) (s0_1 : Int) (s0_2 : Bool) : Option ((List (S41)) × Int × Bool) := (aV.f s0_0 s0_1 s0_2).bind fun bt351 => (if bt351.1.toList = ([108, 101, 116] : List UInt8) then ((au.f s0_0 bt351.2.1 bt351.2.2 bt351.1).bind fun bt354 => ((aX.f s0_0 bt354.2.1 bt354.2.2 1).bind fun bt357 => ((ak.f s0_0 bt357.2.2.2.2.1 bt357.2.2.2.2.2 (⟨#[61]⟩ : ByteArray)).bind fun bt363 => ((aY.f F k s0_0 bt363.1 bt363.2 6 0 bt357.2.1 0 (⟨#[]⟩ : ByteArray)).bind fun bt365 => (some (bt365.1, bt365.2.1, bt365.2.2)))))) else (if bt351.1.toList = ([105, 102] : List UInt8) then ((au.f s0_0 bt351.2.1 bt351.2.2 bt351.1).bind fun bt370 => ((dI.f F k s0_0 bt370.2.1 bt370.2.2).bind fun bt373 => ((some (([bt373.1] : List (List (S41))) : List (List (S41)))).bind fun y378 => ((eQ.f F k s0_0 bt373.2.1 bt373.2.2).bind fun bt381 => (if y378.length < 5864062014805 then ((some (y378 ++ [bt381.1] : List (List (S41)))).bind fun y386 => ((au.f s0_0 bt381.2.1 bt381.2.2 (⟨#[101, 108, 115, 101]⟩ : ByteArray)).bind fun bt389 => (if bt389.1 = true then ((eQ.f F k s0_0 bt389.2.1 bt389.2.2).bind fun bt392 => (if y386.length < 5864062014805 then ((aj.f k 9 0 (⟨#[]⟩ : ByteArray) 0 (⟨#[]⟩ : ByteArray) (y386 ++ [bt392.1])).bind fun t400 => (some (t400, bt392.2.1, bt392.2.2))) else (none))) else ((aj.f k 9 0 (⟨#[]⟩ : ByteArray) 0 (⟨#[]⟩ : ByteArray) y386).bind fun t403 => (some (t403, bt389.2.1, bt389.2.2)))))) else (none)))))) else (if bt351.1.toList = ([119, 104, 105, 108, 101] : List UInt8) then ((au.f s0_0 bt351.2.1 bt351.2.2 bt351.1).bind fun bt406 => ((dI.f F k s0_0 bt406.2.1 bt406.2.2).bind fun bt409 => ((eQ.f F k s0_0 bt409.2.1 bt409.2.2).bind fun bt414 => ((aj.f k 10 0 (⟨#[]⟩ : ByteArray) 0 (⟨#[]⟩ : ByteArray) (([bt409.1, bt414.1] : List (List (S41))))).bind fun t422 => (some (t422, bt414.2.1, bt414.2.2)))))) else (if bt351.1.toList = ([98, 114, 101, 97, 107] : List UInt8) then (if 11 = 0 then (aI.j0 F k bt351.1 12 s0_0 bt351.2.1 bt351.2.2) else (aI.j0 F k bt351.1 11 s0_0 bt351.2.1 bt351.2.2)) else (if bt351.1.toList = ([99, 111, 110, 116, 105, 110, 117, 101] : List UInt8) then (if 0 = 0 then (aI.j0 F k bt351.1 12 s0_0 bt351.2.1 bt351.2.2) else (aI.j0 F k bt351.1 0 s0_0 bt351.2.1 bt351.2.2)) else (if bt351.1.toList = ([121, 105, 101, 108, 100] : List UInt8) then (aI.j0 F k bt351.1 0 s0_0 bt351.2.1 bt351.2.2) else (if bt351.1.toList = ([114, 101, 116, 117, 114, 110] : List UInt8) then (aI.j1 F k bt351.1 13 s0_0 bt351.2.1 bt351.2.2) else (if bt351.1.toList = ([112, 117, 116] : List UInt8) then (aI.j1 F k bt351.1 14 s0_0 bt351.2.1 bt351.2.2) else (if bt351.1.toList = ([101, 109, 105, 116] : List UInt8) then (aI.j1 F k bt351.1 15 s0_0 bt351.2.1 bt351.2.2) else (aI.j1 F k bt351.1 0 s0_0 bt351.2.1 bt351.2.2))))))))))
theorem aI.mono_l {F F' : Fam} (HLE : iG F F') : ∀ k, (∀ y0 y1 y2 y3 y4, LeO (aI.j1 F k y0 y1 y2 y3 y4) (aI.j1 F' (k + 1) y0 y1 y2 y3 y4)) ∧ (∀ y0 y1 y2 y3 y4, LeO (aI.j0 F k y0 y1 y2 y3 y4) (aI.j0 F' (k + 1) y0 y1 y2 y3 y4))
 | 0 => ⟨fun _ _ _ _ _ r h => by simp [aI.j1] at h, fun _ _ _ _ _ r h => by simp [aI.j0] at h⟩
 | k + 1 => by
  obtain ⟨ih0, ih1⟩ := aI.mono_l HLE k
  refine ⟨?_, ?_⟩
  ·intro y0 y1 y2 y3 y4
   unfold aI.j1
   repeat' first
   | (with_reducible exact ih0 _ _ _ _ _)
   | (with_reducible exact ih1 _ _ _ _ _)
   | (with_reducible exact aj.mono _ _ _ _ _ _ _)
   | (with_reducible exact bM.mono _ _ _ _ _)
   | (with_reducible exact aY.mono HLE _ _ _ _ _ _ _ _ _)
   | (with_reducible exact aK.mono HLE _ _ _ _)
   | (with_reducible exact eQ.mono HLE _ _ _ _)
   | (with_reducible exact dI.mono HLE _ _ _ _)
   | (with_reducible exact LeO.refl _)
   | (with_reducible exact LeO.none _)
   | (with_reducible refine LeO.ite ?_ ?_)
   | (with_reducible refine LeO.bind ?_ (fun _ => ?_))
   | exact ih0 _ _ _ _ _
   | exact ih1 _ _ _ _ _
   | exact aj.mono _ _ _ _ _ _ _
   | exact bM.mono _ _ _ _ _
   | exact aY.mono HLE _ _ _ _ _ _ _ _ _
   | exact aK.mono HLE _ _ _ _
   | exact eQ.mono HLE _ _ _ _
   | exact dI.mono HLE _ _ _ _
   | exact LeO.none _
   | refine LeO.ite ?_ ?_
   | refine LeO.bind ?_ (fun _ => ?_)
  intro y0 y1 y2 y3 y4
  unfold aI.j0
  repeat' first
  | (with_reducible exact ih0 _ _ _ _ _)
  | (with_reducible exact ih1 _ _ _ _ _)
  | (with_reducible exact aj.mono _ _ _ _ _ _ _)
  | (with_reducible exact bM.mono _ _ _ _ _)
  | (with_reducible exact aY.mono HLE _ _ _ _ _ _ _ _ _)
  | (with_reducible exact aK.mono HLE _ _ _ _)
  | (with_reducible exact eQ.mono HLE _ _ _ _)
  | (with_reducible exact dI.mono HLE _ _ _ _)
  | (with_reducible exact LeO.refl _)
  | (with_reducible exact LeO.none _)
  | (with_reducible refine LeO.ite ?_ ?_)
  | (with_reducible refine LeO.bind ?_ (fun _ => ?_))
  | exact ih0 _ _ _ _ _
  | exact ih1 _ _ _ _ _
  | exact aj.mono _ _ _ _ _ _ _
  | exact bM.mono _ _ _ _ _
  | exact aY.mono HLE _ _ _ _ _ _ _ _ _
  | exact aK.mono HLE _ _ _ _
  | exact eQ.mono HLE _ _ _ _
  | exact dI.mono HLE _ _ _ _
  | exact LeO.none _
  | refine LeO.ite ?_ ?_
  | refine LeO.bind ?_ (fun _ => ?_)
theorem aI.mono {F F' : Fam} (HLE : iG F F') : ∀ a0 a1 a2 k, LeO (aI.f F k a0 a1 a2) (aI.f F' (k + 1) a0 a1 a2) := by
 intro a0 a1 a2 k
 obtain ⟨ih0, ih1⟩ := aI.mono_l HLE k
 unfold aI.f
 repeat' first
  | (with_reducible exact ih0 _ _ _ _ _)
  | (with_reducible exact ih1 _ _ _ _ _)
  | (with_reducible exact aj.mono _ _ _ _ _ _ _)
  | (with_reducible exact bM.mono _ _ _ _ _)
  | (with_reducible exact aY.mono HLE _ _ _ _ _ _ _ _ _)
  | (with_reducible exact aK.mono HLE _ _ _ _)
  | (with_reducible exact eQ.mono HLE _ _ _ _)
  | (with_reducible exact dI.mono HLE _ _ _ _)
  | (with_reducible exact LeO.refl _)
  | (with_reducible exact LeO.none _)
  | (with_reducible refine LeO.ite ?_ ?_)
  | (with_reducible refine LeO.bind ?_ (fun _ => ?_))
  | exact ih0 _ _ _ _ _
  | exact ih1 _ _ _ _ _
  | exact aj.mono _ _ _ _ _ _ _
  | exact bM.mono _ _ _ _ _
  | exact aY.mono HLE _ _ _ _ _ _ _ _ _
  | exact aK.mono HLE _ _ _ _
  | exact eQ.mono HLE _ _ _ _
  | exact dI.mono HLE _ _ _ _
  | exact LeO.none _
  | refine LeO.ite ?_ ?_
  | refine LeO.bind ?_ (fun _ => ?_)
set_option maxHeartbeats 8000000 in
set_option maxRecDepth 100000 in
theorem aI.calls (F : Fam) (HF : jL F) (k : Nat) (g : Nat) (s0_0 : List (S38)) (s0_1 : Int) (s0_2 : Bool) (r1 : List (S41)) (r2 : Int) (r3 : Bool) (w0 w : World) (hI : ah w0 w g s0_0 s0_1 s0_2) (hB : Below w0.heap.size w0 w) (h : aI.f F k s0_0 s0_1 s0_2 = some (r1, r2, r3)) :
 Calls Try.prog 75 #[.pointer (some ⟨g, 0, none⟩)] w fun e w' => ∃ v0_ : Value, e = .returned (v0_) ∧ Kd.R k41 41 w' w.heap.size (fun _ => True) v0_ r1 ∧ ah w0 w' g s0_0 r2 r3 ∧ Below w0.heap.size w0 w' ∧ af w w' g none := by
 have hu41 := Try.underlying41
 have HI0 := Aside0.mk hI
 have HK := Aside0.mk (af.refl w g none)
 have HL := Aside0.mk hB.size
 clear hI
 have HW0 := Aside0.mk hB.size
 have HB := Aside0.mk hB
 clear hB
 have H : ((aV.f s0_0 s0_1 s0_2).bind fun bt351 => (if bt351.1.toList = ([108, 101, 116] : List UInt8) then ((au.f s0_0 bt351.2.1 bt351.2.2 bt351.1).bind fun bt354 => ((aX.f s0_0 bt354.2.1 bt354.2.2 1).bind fun bt357 => ((ak.f s0_0 bt357.2.2.2.2.1 bt357.2.2.2.2.2 (⟨#[61]⟩ : ByteArray)).bind fun bt363 => ((aY.f F k s0_0 bt363.1 bt363.2 6 0 bt357.2.1 0 (⟨#[]⟩ : ByteArray)).bind fun bt365 => (some (bt365.1, bt365.2.1, bt365.2.2)))))) else (if bt351.1.toList = ([105, 102] : List UInt8) then ((au.f s0_0 bt351.2.1 bt351.2.2 bt351.1).bind fun bt370 => ((dI.f F k s0_0 bt370.2.1 bt370.2.2).bind fun bt373 => ((some (([bt373.1] : List (List (S41))) : List (List (S41)))).bind fun y378 => ((eQ.f F k s0_0 bt373.2.1 bt373.2.2).bind fun bt381 => (if y378.length < 5864062014805 then ((some (y378 ++ [bt381.1] : List (List (S41)))).bind fun y386 => ((au.f s0_0 bt381.2.1 bt381.2.2 (⟨#[101, 108, 115, 101]⟩ : ByteArray)).bind fun bt389 => (if bt389.1 = true then ((eQ.f F k s0_0 bt389.2.1 bt389.2.2).bind fun bt392 => (if y386.length < 5864062014805 then ((aj.f k 9 0 (⟨#[]⟩ : ByteArray) 0 (⟨#[]⟩ : ByteArray) (y386 ++ [bt392.1])).bind fun t400 => (some (t400, bt392.2.1, bt392.2.2))) else (none))) else ((aj.f k 9 0 (⟨#[]⟩ : ByteArray) 0 (⟨#[]⟩ : ByteArray) y386).bind fun t403 => (some (t403, bt389.2.1, bt389.2.2)))))) else (none)))))) else (if bt351.1.toList = ([119, 104, 105, 108, 101] : List UInt8) then ((au.f s0_0 bt351.2.1 bt351.2.2 bt351.1).bind fun bt406 => ((dI.f F k s0_0 bt406.2.1 bt406.2.2).bind fun bt409 => ((eQ.f F k s0_0 bt409.2.1 bt409.2.2).bind fun bt414 => ((aj.f k 10 0 (⟨#[]⟩ : ByteArray) 0 (⟨#[]⟩ : ByteArray) (([bt409.1, bt414.1] : List (List (S41))))).bind fun t422 => (some (t422, bt414.2.1, bt414.2.2)))))) else (if bt351.1.toList = ([98, 114, 101, 97, 107] : List UInt8) then (if 11 = 0 then (aI.j0 F k bt351.1 12 s0_0 bt351.2.1 bt351.2.2) else (aI.j0 F k bt351.1 11 s0_0 bt351.2.1 bt351.2.2)) else (if bt351.1.toList = ([99, 111, 110, 116, 105, 110, 117, 101] : List UInt8) then (if 0 = 0 then (aI.j0 F k bt351.1 12 s0_0 bt351.2.1 bt351.2.2) else (aI.j0 F k bt351.1 0 s0_0 bt351.2.1 bt351.2.2)) else (if bt351.1.toList = ([121, 105, 101, 108, 100] : List UInt8) then (aI.j0 F k bt351.1 0 s0_0 bt351.2.1 bt351.2.2) else (if bt351.1.toList = ([114, 101, 116, 117, 114, 110] : List UInt8) then (aI.j1 F k bt351.1 13 s0_0 bt351.2.1 bt351.2.2) else (if bt351.1.toList = ([112, 117, 116] : List UInt8) then (aI.j1 F k bt351.1 14 s0_0 bt351.2.1 bt351.2.2) else (if bt351.1.toList = ([101, 109, 105, 116] : List UInt8) then (aI.j1 F k bt351.1 15 s0_0 bt351.2.1 bt351.2.2) else (aI.j1 F k bt351.1 0 s0_0 bt351.2.1 bt351.2.2))))))))))) = some (r1, r2, r3) := h
 clear h
 replace H := Option.bind_eq_some_iff.mp H
 obtain ⟨⟨t351, t352, t353⟩, A20, H⟩ := H
 try dsimp only at H
 have A2 := Aside0.mk A20
 clear A20
 have HC3 := Aside0.mk H
 clear H
 go_enter Try.func75, Try.ntmps75
 go_upto_block 0 with (first | ((with_reducible refine gate_callee (f := 71) rfl ?_); refine goesL_ (some 9) rfl rfl Try.func71 (by kernel_rfl) rfl #[.pointer (some ⟨g, 0, none⟩)] rfl Z3 ?_; (with_reducible refine (aV.calls g s0_0 s0_1 s0_2 t351 t352 t353 w0 _ ?side1 ?side2 A2.out).mono ?_); (case side1 => exact Z0); (case side2 => exact Z2); rintro e w4 ⟨rfl, hi, hb, hk⟩; refine ⟨_, rfl, ?_⟩; have n0_ := Aside0.mk (af.trans Z1 hk (.inl rfl)); have n1_ := Aside0.mk (hb); have n2_ := Aside0.mk (hi); clear HK; clear HB; clear HI0; have HK := n0_; have HB := n1_; have HI0 := n2_; clear n0_ n1_ n2_; (try clear hb)))
 (try simp only [Act.put, List.setIfInBounds_toArray, List.set_cons_zero, List.set_cons_succ])
 go_cut [4] (fun v4 wc => ∃ (kq : Nat) (x4_2 : Int) (x1001_2 : Int) (x1002_2 : Bool), v4 = .int .i64 x4_2 ∧ Aside0 (aI.j1 F kq t351 x4_2 s0_0 x1001_2 x1002_2 = some (r1, r2, r3)) ∧ Aside0 (kq ≤ k) ∧ Aside0 (ah w0 wc g s0_0 x1001_2 x1002_2) ∧ Aside0 (af w wc g none) ∧ Aside0 (Below w0.heap.size w0 wc))
 case first =>
  have H := HC3.out
  clear HC3
  have HC5 := Aside0.mk H
  clear H
  go_upto_block 6 with (fail)
  go_cut [4] (fun v4 wc => ∃ (kq : Nat) (x4_4 : Int) (x1001_4 : Int) (x1002_4 : Bool), v4 = .int .i64 x4_4 ∧ Aside0 (aI.j0 F kq t351 x4_4 s0_0 x1001_4 x1002_4 = some (r1, r2, r3)) ∧ Aside0 (kq ≤ k) ∧ Aside0 (ah w0 wc g s0_0 x1001_4 x1002_4) ∧ Aside0 (af w wc g none) ∧ Aside0 (Below w0.heap.size w0 wc))
  case first =>
   have H := HC5.out
   clear HC5
   by_cases c6 : t351.toList = ([108, 101, 116] : List UInt8)
   ·rw [if_pos c6] at H
    have c6b0 : (t351.toList == ([108, 101, 116] : List UInt8)) = true := beq_iff_eq.mpr c6
    have c6b1 : (t351.toList != ([108, 101, 116] : List UInt8)) = false := bne_eq_false_iff_eq.mpr c6
    clear c6
    (first | rw [c6b0] | (simp only [aC, aG]; rw [c6b0]) | skip)
    replace H := Option.bind_eq_some_iff.mp H
    obtain ⟨⟨t354, t355, t356⟩, A70, H⟩ := H
    try dsimp only at H
    have A7 := Aside0.mk A70
    clear A70
    replace H := Option.bind_eq_some_iff.mp H
    obtain ⟨⟨t357, t358, t359, t360, t361, t362⟩, A80, H⟩ := H
    try dsimp only at H
    have A8 := Aside0.mk A80
    clear A80
    replace H := Option.bind_eq_some_iff.mp H
    obtain ⟨⟨t363, t364⟩, A90, H⟩ := H
    replace H : ((aY.f F k s0_0 t363 t364 6 0 t358 0 (⟨#[]⟩ : ByteArray)).bind fun bt365 => (some (bt365.1, bt365.2.1, bt365.2.2))) = some (r1, r2, r3) := H
    have A9 := Aside0.mk A90
    clear A90
    replace H := Option.bind_eq_some_iff.mp H
    obtain ⟨⟨t365, t368, t369⟩, A100, H⟩ := H
    replace H : (some (t365, t368, t369)) = some (r1, r2, r3) := H
    have A10 := Aside0.mk A100
    clear A100
    simp only [Option.some.injEq, Prod.mk.injEq] at H
    obtain ⟨rfl, rfl, rfl⟩ := H
    go_wp2_with (first | ((with_reducible refine gate_callee (f := 53) rfl ?_); refine goesL_ (some 31) rfl rfl Try.func53 (by kernel_rfl) rfl #[.pointer (some ⟨g, 0, none⟩), .string t351] rfl Z3 ?_; (with_reducible refine (au.calls g s0_0 t352 t353 t351 t354 t355 t356 w0 _ ?side1 ?side2 A7.out).mono ?_); (case side1 => exact Z0); (case side2 => exact Z2); rintro e w11 ⟨rfl, hi, hb, hk⟩; refine ⟨_, rfl, ?_⟩; have n0_ := Aside0.mk (af.trans Z1 hk (.inl rfl)); have n1_ := Aside0.mk (hb); have n2_ := Aside0.mk (hi); clear HK; clear HB; clear HI0; have HK := n0_; have HB := n1_; have HI0 := n2_; clear n0_ n1_ n2_; (try clear hb)) | ((with_reducible refine gate_callee (f := 52) rfl ?_); refine goesL_ (some 33) rfl rfl Try.func52 (by kernel_rfl) rfl #[.pointer (some ⟨g, 0, none⟩), .int .i64 1] rfl Z3 ?_; (with_reducible refine (aX.calls g s0_0 t355 t356 1 t357 t358 t359 t360 t361 t362 w0 _ ?side1 ?side2 A8.out).mono ?_); (case side1 => exact Z0); (case side2 => exact Z2); rintro e w12 ⟨rfl, hi, hb, hk⟩; refine ⟨_, rfl, ?_⟩; have n0_ := Aside0.mk (af.trans Z1 hk (.inl rfl)); have n1_ := Aside0.mk (hb); have n2_ := Aside0.mk (hi); clear HK; clear HB; clear HI0; have HK := n0_; have HB := n1_; have HI0 := n2_; clear n0_ n1_ n2_; (try clear hb)) | ((with_reducible refine gate_callee (f := 51) rfl ?_); refine goesL_ (some 36) rfl rfl Try.func51 (by kernel_rfl) rfl #[.pointer (some ⟨g, 0, none⟩), .string (⟨#[61]⟩ : ByteArray)] rfl Z3 ?_; (with_reducible refine (ak.calls g s0_0 t361 t362 (⟨#[61]⟩ : ByteArray) t363 t364 w0 _ ?side1 ?side2 A9.out).mono ?_); (case side1 => exact Z0); (case side2 => exact Z2); rintro e w13 ⟨rfl, hi, hb, hk⟩; refine ⟨_, rfl, ?_⟩; have n0_ := Aside0.mk (af.trans Z1 hk (.inl rfl)); have n1_ := Aside0.mk (hb); have n2_ := Aside0.mk (hi); clear HK; clear HB; clear HI0; have HK := n0_; have HB := n1_; have HI0 := n2_; clear n0_ n1_ n2_; (try clear hb)) | ((with_reducible refine gate_callee (f := 76) rfl ?_); refine goesL_ (some 40) rfl rfl Try.func76 (by kernel_rfl) rfl #[.pointer (some ⟨g, 0, none⟩), .agg #[.int .i64 6, .int .i64 0, .string t358, .int .i64 0, .string (⟨#[]⟩ : ByteArray)]] rfl Z3 ?_; (with_reducible refine (aY.calls F HF k g s0_0 t363 t364 6 0 t358 0 (⟨#[]⟩ : ByteArray) t365 t368 t369 w0 _ ?side1 ?side2 A10.out).mono ?_); (case side1 => exact Z0); (case side2 => exact Z2); rintro e w14 ⟨v366, rfl, ho0, hi, hb, hk⟩; refine ⟨_, rfl, ?_⟩; have n0_ := Aside0.mk (Kd.R_lower ho0 (aH (w := w) (g := g) (row := none) Z1)); have n1_ := Aside0.mk (af.trans Z1 hk (.inl rfl)); have n2_ := Aside0.mk (hb); have n3_ := Aside0.mk (hi); clear HK; clear HB; clear HI0; have HO367 := n0_; have HK := n1_; have HB := n2_; have HI0 := n3_; clear n0_ n1_ n2_ n3_; (try clear hb); (try clear ho0)))
    go_ret
    exact ⟨_, Z5, by (with_reducible repeat (first | apply Kd.R_alloc | apply Kd.R_drewN | apply Kd.R_drew)); exact HO367.out, Z0, Z2, Z1⟩
   rw [if_neg c6] at H
   have c6b0 : (t351.toList == ([108, 101, 116] : List UInt8)) = false := beq_eq_false_iff_ne.mpr c6
   have c6b1 : (t351.toList != ([108, 101, 116] : List UInt8)) = true := bne_iff_ne.mpr c6
   (first | rw [c6b0] | (simp only [aC, aG]; rw [c6b0]) | skip)
   by_cases c15 : t351.toList = ([105, 102] : List UInt8)
   ·rw [if_pos c15] at H
    have c15b0 : (t351.toList == ([105, 102] : List UInt8)) = true := beq_iff_eq.mpr c15
    have c15b1 : (t351.toList != ([105, 102] : List UInt8)) = false := bne_eq_false_iff_eq.mpr c15
    clear c15
    replace H := Option.bind_eq_some_iff.mp H
    obtain ⟨⟨t370, t371, t372⟩, A160, H⟩ := H
    try dsimp only at H
    have A16 := Aside0.mk A160
    clear A160
    replace H := Option.bind_eq_some_iff.mp H
    obtain ⟨⟨t373, t376, t377⟩, A170, H⟩ := H
    try dsimp only at H
    have A17 := Aside0.mk A170
    clear A170
    obtain ⟨y378, hy378⟩ : ∃ y_ : List (List (S41)), y_ = (([t373] : List (List (S41)))) := ⟨_, rfl⟩
    replace H : ((eQ.f F k s0_0 t376 t377).bind fun bt381 => (if y378.length < 5864062014805 then ((some (y378 ++ [bt381.1] : List (List (S41)))).bind fun y386 => ((au.f s0_0 bt381.2.1 bt381.2.2 (⟨#[101, 108, 115, 101]⟩ : ByteArray)).bind fun bt389 => (if bt389.1 = true then ((eQ.f F k s0_0 bt389.2.1 bt389.2.2).bind fun bt392 => (if y386.length < 5864062014805 then ((aj.f k 9 0 (⟨#[]⟩ : ByteArray) 0 (⟨#[]⟩ : ByteArray) (y386 ++ [bt392.1])).bind fun t400 => (some (t400, bt392.2.1, bt392.2.2))) else (none))) else ((aj.f k 9 0 (⟨#[]⟩ : ByteArray) 0 (⟨#[]⟩ : ByteArray) y386).bind fun t403 => (some (t403, bt389.2.1, bt389.2.2)))))) else (none))) = some (r1, r2, r3) := by first | (rw [hy378]; with_reducible exact H) | (have H2_ := (Option.bind_some _ _).symm.trans H; rw [hy378]; with_reducible exact H2_) | (have H2_ := (Option.bind_some _ _).symm.trans H; with_reducible exact H2_) | with_reducible exact H | (rw [hy378]; exact H) | exact H
    have Ny378 := Aside0.mk hy378
    clear hy378
    replace H := Option.bind_eq_some_iff.mp H
    obtain ⟨⟨t381, t384, t385⟩, A180, H⟩ := H
    try dsimp only at H
    have A18 := Aside0.mk A180
    clear A180
    by_cases c19 : y378.length < 5864062014805
    ·rw [if_pos c19] at H
     have LMc19 := Aside0.mk c19
     clear c19
     obtain ⟨y386, hy386⟩ : ∃ y_ : List (List (S41)), y_ = (y378 ++ [t381]) := ⟨_, rfl⟩
     replace H : ((au.f s0_0 t384 t385 (⟨#[101, 108, 115, 101]⟩ : ByteArray)).bind fun bt389 => (if bt389.1 = true then ((eQ.f F k s0_0 bt389.2.1 bt389.2.2).bind fun bt392 => (if y386.length < 5864062014805 then ((aj.f k 9 0 (⟨#[]⟩ : ByteArray) 0 (⟨#[]⟩ : ByteArray) (y386 ++ [bt392.1])).bind fun t400 => (some (t400, bt392.2.1, bt392.2.2))) else (none))) else ((aj.f k 9 0 (⟨#[]⟩ : ByteArray) 0 (⟨#[]⟩ : ByteArray) y386).bind fun t403 => (some (t403, bt389.2.1, bt389.2.2))))) = some (r1, r2, r3) := by first | (rw [hy386]; with_reducible exact H) | (have H2_ := (Option.bind_some _ _).symm.trans H; rw [hy386]; with_reducible exact H2_) | (have H2_ := (Option.bind_some _ _).symm.trans H; with_reducible exact H2_) | with_reducible exact H | (rw [hy386]; exact H) | exact H
     have Ny386 := Aside0.mk hy386
     clear hy386
     replace H := Option.bind_eq_some_iff.mp H
     obtain ⟨⟨t389, t390, t391⟩, A200, H⟩ := H
     try dsimp only at H
     have A20 := Aside0.mk A200
     clear A200
     by_cases c21 : t389 = true
     ·subst c21
      rw [if_pos rfl] at H
      have H1 := H
      clear H
      have H := H1
      clear H1
      replace H := Option.bind_eq_some_iff.mp H
      obtain ⟨⟨t392, t395, t396⟩, A220, H⟩ := H
      try dsimp only at H
      have A22 := Aside0.mk A220
      clear A220
      by_cases c23 : y386.length < 5864062014805
      ·rw [if_pos c23] at H
       have LMc23 := Aside0.mk c23
       clear c23
       obtain ⟨y397, hy397⟩ : ∃ y_ : List (List (S41)), y_ = (y386 ++ [t392]) := ⟨_, rfl⟩
       replace H : ((aj.f k 9 0 (⟨#[]⟩ : ByteArray) 0 (⟨#[]⟩ : ByteArray) y397).bind fun t400 => (some (t400, t395, t396))) = some (r1, r2, r3) := by first | (rw [hy397]; with_reducible exact H) | (have H2_ := (Option.bind_some _ _).symm.trans H; rw [hy397]; with_reducible exact H2_) | (have H2_ := (Option.bind_some _ _).symm.trans H; with_reducible exact H2_) | with_reducible exact H | (rw [hy397]; exact H) | exact H
       have Ny397 := Aside0.mk hy397
       clear hy397
       replace H := Option.bind_eq_some_iff.mp H
       obtain ⟨t400, A240, H⟩ := H
       replace H : (some (t400, t395, t396)) = some (r1, r2, r3) := H
       have A24 := Aside0.mk A240
       clear A240
       simp only [Option.some.injEq, Prod.mk.injEq] at H
       obtain ⟨rfl, rfl, rfl⟩ := H
       go_wp2_with (first | ((with_reducible refine gate_callee (f := 53) rfl ?_); refine goesL_ (some 43) rfl rfl Try.func53 (by kernel_rfl) rfl #[.pointer (some ⟨g, 0, none⟩), .string t351] rfl Z3 ?_; (with_reducible refine (au.calls g s0_0 t352 t353 t351 t370 t371 t372 w0 _ ?side1 ?side2 A16.out).mono ?_); (case side1 => exact Z0); (case side2 => exact Z2); rintro e w25 ⟨rfl, hi, hb, hk⟩; refine ⟨_, rfl, ?_⟩; have n0_ := Aside0.mk (af.trans Z1 hk (.inl rfl)); have n1_ := Aside0.mk (hb); have n2_ := Aside0.mk (hi); clear HK; clear HB; clear HI0; have HK := n0_; have HB := n1_; have HI0 := n2_; clear n0_ n1_ n2_; (try clear hb)) | ((with_reducible refine gate_callee (f := 77) rfl ?_); refine goesL_ (some 45) rfl rfl Try.func77 (by kernel_rfl) rfl #[.pointer (some ⟨g, 0, none⟩)] rfl Z3 ?_; (with_reducible refine (dI.calls F HF k g s0_0 t371 t372 t373 t376 t377 w0 _ ?side1 ?side2 A17.out).mono ?_); (case side1 => exact Z0); (case side2 => exact Z2); rintro e w26 ⟨v374, rfl, ho0, hi, hb, hk⟩; refine ⟨_, rfl, ?_⟩; have n0_ := Aside0.mk (Kd.R_lower ho0 (aH (w := w) (g := g) (row := none) Z1)); have n1_ := Aside0.mk (af.trans Z1 hk (.inl rfl)); have n2_ := Aside0.mk (hb); have n3_ := Aside0.mk (hi); clear HK; clear HB; clear HI0; have HO375 := n0_; have HK := n1_; have HB := n2_; have HI0 := n3_; clear n0_ n1_ n2_ n3_; (try clear hb); (try clear ho0); obtain ⟨Ao27, co27, eo27⟩ := Kd.R_slice HO375.out; subst eo27) | ((with_reducible refine bP (N := 46) rfl ?_); refine Kd.lU (Kd.slice 41 k41) _ 23 ?hg (N' := 46) ?hd (xs := ([t373] : List (List (S41)))) (inner := [.slice Ao27 t373.length co27]) (ok := (fun k_ => k_ ≠ g)) (okp := (fun k_ => k_ ≠ g)) ?hr ?hp (fun _ hk => hk) ((show ∀ k_, w26.heap.size ≤ k_ → (fun k_ => k_ ≠ g) k_ from fun k_ hk => ah.fresh Z0 k_ hk) _ (Nat.le_refl _)) (Below.refl _ _) (Nat.le_refl _) (by simp) ?_; (case hd => rfl); (case hg => rfl); (case hr => first | (go_simp; done) | (go_simp; rfl)); (case hp => exact (dw.one (show Kd.FK (Kd.slice 41 k41) _ _ t373 [.slice Ao27 t373.length co27] from (Kd.dF (Kd.R_reads' (Kd.bi (ok' := (fun k_ => k_ ≠ g)) (ah.apart HI0.out (HO375.out) (by decide)) (fun k_ hk => hk.2))).2.1 (Kd.R_F (Kd.bi (ok' := (fun k_ => k_ ≠ g)) (ah.apart HI0.out (HO375.out) (by decide)) (fun k_ hk => hk.2))))) (dw.none _ _))); intro v379 w28 ho29 hb hg_ hnew_; clear hg_ hnew_; (first | rw [← Ny378.out] at ho29 | (simp only [Int.reduceToNat] at ho29; rw [← Ny378.out] at ho29)); have n0_ := Aside0.mk (Kd.iL ho29 (aH (w := w) (g := g) (row := none) Z1)); have n1_ := Aside0.mk (ah.below Z0 hb); have n2_ := Aside0.mk (af.trans Z1 (af.of_below hb g none) (.inl rfl)); have n3_ := Aside0.mk (below_step Z2 hb); clear HI0; clear HK; clear HB; clear HO375; have HO380 := n0_; have HI0 := n1_; have HK := n2_; have HB := n3_; clear n0_ n1_ n2_ n3_; clear hb ho29) | ((with_reducible refine gate_callee (f := 74) rfl ?_); refine goesL_ (some 49) rfl rfl Try.func74 (by kernel_rfl) rfl #[.pointer (some ⟨g, 0, none⟩)] rfl Z3 ?_; (with_reducible refine (eQ.calls F HF k g s0_0 t376 t377 t381 t384 t385 w0 _ ?side1 ?side2 A18.out).mono ?_); (case side1 => exact Z0); (case side2 => exact Z2); rintro e w30 ⟨v382, rfl, ho0, hi, hb, hk⟩; refine ⟨_, rfl, ?_⟩; have n0_ := Aside0.mk (Kd.fB (Kd.ui (Kd.uk (Kd.fB (ok := fun k_ => k_ ≠ g) (by (with_reducible repeat (first | apply Kd.eH | apply Kd.eG | apply Kd.fK)); exact HO380.out) (fun k_ hk_ => (⟨hk_, hk_⟩ : _ ∧ k_ ≠ g))) hk) (Kd.dH ho0)) (fun _ h_ => h_.1)); have n1_ := Aside0.mk (Kd.R_lower ho0 (aH (w := w) (g := g) (row := none) Z1)); have n2_ := Aside0.mk (af.trans Z1 hk (.inl rfl)); have n3_ := Aside0.mk (hb); have n4_ := Aside0.mk (hi); clear HO380; clear HK; clear HB; clear HI0; have HO380 := n0_; have HO383 := n1_; have HK := n2_; have HB := n3_; have HI0 := n4_; clear n0_ n1_ n2_ n3_ n4_; (try clear hb); (try clear ho0); obtain ⟨Ao32, co32, eo32⟩ := Kd.R_slice HO383.out; subst eo32) | ((with_reducible refine dD (b := .append) (xs := #[.tmp 47, .tmp 50]) rfl ?_); at_builtin; refine Kd.qO (Kd.slice 41 k41) w.heap.size rfl (.tmp 47) (.tmp 50) 78 23 (.slice none 0 0) 24 rfl Try.underlying78 info23 rfl (by decide) (by omega) v379 y378 t381 [.slice Ao32 t381.length co32] (fun k_ => k_ ≠ g) (fun k_ => ((fun k_ => k_ ≠ g)) k_ ∧ some k_ ≠ (v379 : Value).ownBlock) rfl rfl ?aP (fun _ hk => hk) ?aF ?aO (Below.refl _ _) ?aS ?aL ?_; (case aP => exact (Kd.dF (Kd.R_reads' (Kd.bi (ok' := (fun k_ => ((fun k_ => k_ ≠ g)) k_ ∧ some k_ ≠ (v379 : Value).ownBlock)) (ah.apart HI0.out (Kd.dJ (HO383.out) (Kd.mg HO380.out) (by decide)) (by decide)) (fun k_ hk => ⟨hk.2, hk.1.2⟩))).2.1 (Kd.R_F (Kd.bi (ok' := (fun k_ => ((fun k_ => k_ ≠ g)) k_ ∧ some k_ ≠ (v379 : Value).ownBlock)) (ah.apart HI0.out (Kd.dJ (HO383.out) (Kd.mg HO380.out) (by decide)) (by decide)) (fun k_ hk => ⟨hk.2, hk.1.2⟩))))); (case aF => exact (fun k_ hk => ah.fresh Z0 k_ hk)); (case aO => exact (by (with_reducible repeat (first | apply Kd.eH | apply Kd.eG | apply Kd.fK)); exact Kd.fB HO380.out (fun _ hk => hk.1))); (case aS => exact (aH (w := w) (g := g) (row := none) Z1)); (case aL => have := LMc19.out; omega); intro v387 w31 ho hb hg hat; rw [← Ny386.out] at ho; have n0_ := Aside0.mk (ah.grown Z0 hg (ah.oW HI0.out HO380.out (by decide))); have n1_ := Aside0.mk (dW Z2 HL.out hb); have n2_ := Aside0.mk (af.trans Z1 (af.gp hg g) (Kd.pG HO380.out)); have n3_ := Aside0.mk (ho); clear HI0; clear HB; clear HK; clear HO380; clear HO383; have HI0 := n0_; have HB := n1_; have HK := n2_; have HO388 := n3_; clear n0_ n1_ n2_ n3_; clear ho hb hg hat) | ((with_reducible refine gate_callee (f := 53) rfl ?_); refine goesL_ (some 53) rfl rfl Try.func53 (by kernel_rfl) rfl #[.pointer (some ⟨g, 0, none⟩), .string (⟨#[101, 108, 115, 101]⟩ : ByteArray)] rfl Z3 ?_; (with_reducible refine (au.calls g s0_0 t384 t385 (⟨#[101, 108, 115, 101]⟩ : ByteArray) true t390 t391 w0 _ ?side1 ?side2 A20.out).mono ?_); (case side1 => exact Z0); (case side2 => exact Z2); rintro e w33 ⟨rfl, hi, hb, hk⟩; refine ⟨_, rfl, ?_⟩; have n0_ := Aside0.mk (Kd.fB (Kd.ul (Kd.fB (ok := fun k_ => k_ ≠ g) Z60 (fun k_ hk_ => (⟨hk_, hk_⟩ : _ ∧ k_ ≠ g))) hk (fun _ h => h.2)) (fun _ h => h.1)); have n1_ := Aside0.mk (af.trans Z1 hk (.inl rfl)); have n2_ := Aside0.mk (hb); have n3_ := Aside0.mk (hi); clear HO388; clear HK; clear HB; clear HI0; have HO388 := n0_; have HK := n1_; have HB := n2_; have HI0 := n3_; clear n0_ n1_ n2_ n3_; (try clear hb)) | ((with_reducible refine gate_callee (f := 74) rfl ?_); refine goesL_ (some 56) rfl rfl Try.func74 (by kernel_rfl) rfl #[.pointer (some ⟨g, 0, none⟩)] rfl Z3 ?_; (with_reducible refine (eQ.calls F HF k g s0_0 t390 t391 t392 t395 t396 w0 _ ?side1 ?side2 A22.out).mono ?_); (case side1 => exact Z0); (case side2 => exact Z2); rintro e w34 ⟨v393, rfl, ho0, hi, hb, hk⟩; refine ⟨_, rfl, ?_⟩; have n0_ := Aside0.mk (Kd.fB (Kd.ui (Kd.uk (Kd.fB (ok := fun k_ => k_ ≠ g) Z60 (fun k_ hk_ => (⟨hk_, hk_⟩ : _ ∧ k_ ≠ g))) hk) (Kd.dH ho0)) (fun _ h_ => h_.1)); have n1_ := Aside0.mk (Kd.R_lower ho0 (aH (w := w) (g := g) (row := none) Z1)); have n2_ := Aside0.mk (af.trans Z1 hk (.inl rfl)); have n3_ := Aside0.mk (hb); have n4_ := Aside0.mk (hi); clear HO388; clear HK; clear HB; clear HI0; have HO388 := n0_; have HO394 := n1_; have HK := n2_; have HB := n3_; have HI0 := n4_; clear n0_ n1_ n2_ n3_ n4_; (try clear hb); (try clear ho0); obtain ⟨Ao36, co36, eo36⟩ := Kd.R_slice HO394.out; subst eo36) | ((with_reducible refine dD (b := .append) (xs := #[.tmp 54, .tmp 57]) rfl ?_); at_builtin; refine Kd.qO (Kd.slice 41 k41) w.heap.size rfl (.tmp 54) (.tmp 57) 78 23 (.slice none 0 0) 24 rfl Try.underlying78 info23 rfl (by decide) (by omega) v387 y386 t392 [.slice Ao36 t392.length co36] (fun k_ => k_ ≠ g) (fun k_ => ((fun k_ => k_ ≠ g)) k_ ∧ some k_ ≠ (v387 : Value).ownBlock) rfl rfl ?aP (fun _ hk => hk) ?aF ?aO (Below.refl _ _) ?aS ?aL ?_; (case aP => exact (Kd.dF (Kd.R_reads' (Kd.bi (ok' := (fun k_ => ((fun k_ => k_ ≠ g)) k_ ∧ some k_ ≠ (v387 : Value).ownBlock)) (ah.apart HI0.out (Kd.dJ (HO394.out) (Kd.mg HO388.out) (by decide)) (by decide)) (fun k_ hk => ⟨hk.2, hk.1.2⟩))).2.1 (Kd.R_F (Kd.bi (ok' := (fun k_ => ((fun k_ => k_ ≠ g)) k_ ∧ some k_ ≠ (v387 : Value).ownBlock)) (ah.apart HI0.out (Kd.dJ (HO394.out) (Kd.mg HO388.out) (by decide)) (by decide)) (fun k_ hk => ⟨hk.2, hk.1.2⟩))))); (case aF => exact (fun k_ hk => ah.fresh Z0 k_ hk)); (case aO => exact (by (with_reducible repeat (first | apply Kd.eH | apply Kd.eG | apply Kd.fK)); exact Kd.fB HO388.out (fun _ hk => hk.1))); (case aS => exact (aH (w := w) (g := g) (row := none) Z1)); (case aL => have := LMc23.out; omega); intro v398 w35 ho hb hg hat; rw [← Ny397.out] at ho; have n0_ := Aside0.mk (ah.grown Z0 hg (ah.oW HI0.out HO388.out (by decide))); have n1_ := Aside0.mk (dW Z2 HL.out hb); have n2_ := Aside0.mk (af.trans Z1 (af.gp hg g) (Kd.pG HO388.out)); have n3_ := Aside0.mk (ho); clear HI0; clear HB; clear HK; clear HO388; clear HO394; have HI0 := n0_; have HB := n1_; have HK := n2_; have HO399 := n3_; clear n0_ n1_ n2_ n3_; clear ho hb hg hat; obtain ⟨Ao37, co37, eo37⟩ := Kd.iK HO399.out; subst eo37) | ((with_reducible refine gate_callee (f := 56) rfl ?_); refine goesL_ (some 61) rfl rfl Try.func56 (by kernel_rfl) rfl #[.agg #[.int .i64 9, .int .i64 0, .string (⟨#[]⟩ : ByteArray), .int .i64 0, .string (⟨#[]⟩ : ByteArray)], .slice Ao37 y397.length co37] rfl Z3 ?_; (with_reducible refine (aj.calls k 9 0 (⟨#[]⟩ : ByteArray) 0 (⟨#[]⟩ : ByteArray) _ _ y397 t400 _ ?side1 ?side2 A24.out).mono ?_); (case side1 => repeat (first | exact (Kd.dQ HO399.out).2.2 | (with_reducible refine Kd.C_alloc ?_ _) | (with_reducible refine Kd.C_drewN ?_ _) | (with_reducible refine Kd.C_drew ?_))); (case side2 => exact (Kd.dQ HO399.out).2.1); rintro e w38 ⟨v401, rfl, ho0, hb⟩; refine ⟨_, rfl, ?_⟩; have n0_ := Aside0.mk (Kd.gW (by (with_reducible repeat (first | apply Kd.eH | apply Kd.eG | apply Kd.fK)); exact HO399.out) (Kd.dH ho0) hb); have n1_ := Aside0.mk (Kd.R_lower ho0 (aH (w := w) (g := g) (row := none) Z1)); have n2_ := Aside0.mk (ah.below Z0 hb); have n3_ := Aside0.mk (af.trans Z1 (af.of_below hb g none) (.inl rfl)); have n4_ := Aside0.mk (below_step Z2 hb); clear HO399; clear HI0; clear HK; clear HB; have HO399 := n0_; have HO402 := n1_; have HI0 := n2_; have HK := n3_; have HB := n4_; clear n0_ n1_ n2_ n3_ n4_; (try clear hb); (try clear ho0)))
       go_ret
       exact ⟨_, Z5, by (with_reducible repeat (first | apply Kd.R_alloc | apply Kd.R_drewN | apply Kd.R_drew)); exact HO402.out, Z0, Z2, Z1⟩
      rw [if_neg c23] at H
      exact absurd H (by simp)
     replace c21 := Bool.eq_false_iff.mpr c21
     subst c21
     have H1 : ((aj.f k 9 0 (⟨#[]⟩ : ByteArray) 0 (⟨#[]⟩ : ByteArray) y386).bind fun t403 => (some (t403, t390, t391))) = some (r1, r2, r3) := by rw [if_neg (show ¬ (false = true) by decide)] at H; exact H
     clear H
     have H := H1
     clear H1
     replace H := Option.bind_eq_some_iff.mp H
     obtain ⟨t403, A390, H⟩ := H
     replace H : (some (t403, t390, t391)) = some (r1, r2, r3) := H
     have A39 := Aside0.mk A390
     clear A390
     simp only [Option.some.injEq, Prod.mk.injEq] at H
     obtain ⟨rfl, rfl, rfl⟩ := H
     go_wp2_with (first | ((with_reducible refine gate_callee (f := 53) rfl ?_); refine goesL_ (some 43) rfl rfl Try.func53 (by kernel_rfl) rfl #[.pointer (some ⟨g, 0, none⟩), .string t351] rfl Z3 ?_; (with_reducible refine (au.calls g s0_0 t352 t353 t351 t370 t371 t372 w0 _ ?side1 ?side2 A16.out).mono ?_); (case side1 => exact Z0); (case side2 => exact Z2); rintro e w40 ⟨rfl, hi, hb, hk⟩; refine ⟨_, rfl, ?_⟩; have n0_ := Aside0.mk (af.trans Z1 hk (.inl rfl)); have n1_ := Aside0.mk (hb); have n2_ := Aside0.mk (hi); clear HK; clear HB; clear HI0; have HK := n0_; have HB := n1_; have HI0 := n2_; clear n0_ n1_ n2_; (try clear hb)) | ((with_reducible refine gate_callee (f := 77) rfl ?_); refine goesL_ (some 45) rfl rfl Try.func77 (by kernel_rfl) rfl #[.pointer (some ⟨g, 0, none⟩)] rfl Z3 ?_; (with_reducible refine (dI.calls F HF k g s0_0 t371 t372 t373 t376 t377 w0 _ ?side1 ?side2 A17.out).mono ?_); (case side1 => exact Z0); (case side2 => exact Z2); rintro e w41 ⟨v374, rfl, ho0, hi, hb, hk⟩; refine ⟨_, rfl, ?_⟩; have n0_ := Aside0.mk (Kd.R_lower ho0 (aH (w := w) (g := g) (row := none) Z1)); have n1_ := Aside0.mk (af.trans Z1 hk (.inl rfl)); have n2_ := Aside0.mk (hb); have n3_ := Aside0.mk (hi); clear HK; clear HB; clear HI0; have HO375 := n0_; have HK := n1_; have HB := n2_; have HI0 := n3_; clear n0_ n1_ n2_ n3_; (try clear hb); (try clear ho0); obtain ⟨Ao42, co42, eo42⟩ := Kd.R_slice HO375.out; subst eo42) | ((with_reducible refine bP (N := 46) rfl ?_); refine Kd.lU (Kd.slice 41 k41) _ 23 ?hg (N' := 46) ?hd (xs := ([t373] : List (List (S41)))) (inner := [.slice Ao42 t373.length co42]) (ok := (fun k_ => k_ ≠ g)) (okp := (fun k_ => k_ ≠ g)) ?hr ?hp (fun _ hk => hk) ((show ∀ k_, w41.heap.size ≤ k_ → (fun k_ => k_ ≠ g) k_ from fun k_ hk => ah.fresh Z0 k_ hk) _ (Nat.le_refl _)) (Below.refl _ _) (Nat.le_refl _) (by simp) ?_; (case hd => rfl); (case hg => rfl); (case hr => first | (go_simp; done) | (go_simp; rfl)); (case hp => exact (dw.one (show Kd.FK (Kd.slice 41 k41) _ _ t373 [.slice Ao42 t373.length co42] from (Kd.dF (Kd.R_reads' (Kd.bi (ok' := (fun k_ => k_ ≠ g)) (ah.apart HI0.out (HO375.out) (by decide)) (fun k_ hk => hk.2))).2.1 (Kd.R_F (Kd.bi (ok' := (fun k_ => k_ ≠ g)) (ah.apart HI0.out (HO375.out) (by decide)) (fun k_ hk => hk.2))))) (dw.none _ _))); intro v379 w43 ho44 hb hg_ hnew_; clear hg_ hnew_; (first | rw [← Ny378.out] at ho44 | (simp only [Int.reduceToNat] at ho44; rw [← Ny378.out] at ho44)); have n0_ := Aside0.mk (Kd.iL ho44 (aH (w := w) (g := g) (row := none) Z1)); have n1_ := Aside0.mk (ah.below Z0 hb); have n2_ := Aside0.mk (af.trans Z1 (af.of_below hb g none) (.inl rfl)); have n3_ := Aside0.mk (below_step Z2 hb); clear HI0; clear HK; clear HB; clear HO375; have HO380 := n0_; have HI0 := n1_; have HK := n2_; have HB := n3_; clear n0_ n1_ n2_ n3_; clear hb ho44) | ((with_reducible refine gate_callee (f := 74) rfl ?_); refine goesL_ (some 49) rfl rfl Try.func74 (by kernel_rfl) rfl #[.pointer (some ⟨g, 0, none⟩)] rfl Z3 ?_; (with_reducible refine (eQ.calls F HF k g s0_0 t376 t377 t381 t384 t385 w0 _ ?side1 ?side2 A18.out).mono ?_); (case side1 => exact Z0); (case side2 => exact Z2); rintro e w45 ⟨v382, rfl, ho0, hi, hb, hk⟩; refine ⟨_, rfl, ?_⟩; have n0_ := Aside0.mk (Kd.fB (Kd.ui (Kd.uk (Kd.fB (ok := fun k_ => k_ ≠ g) (by (with_reducible repeat (first | apply Kd.eH | apply Kd.eG | apply Kd.fK)); exact HO380.out) (fun k_ hk_ => (⟨hk_, hk_⟩ : _ ∧ k_ ≠ g))) hk) (Kd.dH ho0)) (fun _ h_ => h_.1)); have n1_ := Aside0.mk (Kd.R_lower ho0 (aH (w := w) (g := g) (row := none) Z1)); have n2_ := Aside0.mk (af.trans Z1 hk (.inl rfl)); have n3_ := Aside0.mk (hb); have n4_ := Aside0.mk (hi); clear HO380; clear HK; clear HB; clear HI0; have HO380 := n0_; have HO383 := n1_; have HK := n2_; have HB := n3_; have HI0 := n4_; clear n0_ n1_ n2_ n3_ n4_; (try clear hb); (try clear ho0); obtain ⟨Ao47, co47, eo47⟩ := Kd.R_slice HO383.out; subst eo47) | ((with_reducible refine dD (b := .append) (xs := #[.tmp 47, .tmp 50]) rfl ?_); at_builtin; refine Kd.qO (Kd.slice 41 k41) w.heap.size rfl (.tmp 47) (.tmp 50) 78 23 (.slice none 0 0) 24 rfl Try.underlying78 info23 rfl (by decide) (by omega) v379 y378 t381 [.slice Ao47 t381.length co47] (fun k_ => k_ ≠ g) (fun k_ => ((fun k_ => k_ ≠ g)) k_ ∧ some k_ ≠ (v379 : Value).ownBlock) rfl rfl ?aP (fun _ hk => hk) ?aF ?aO (Below.refl _ _) ?aS ?aL ?_; (case aP => exact (Kd.dF (Kd.R_reads' (Kd.bi (ok' := (fun k_ => ((fun k_ => k_ ≠ g)) k_ ∧ some k_ ≠ (v379 : Value).ownBlock)) (ah.apart HI0.out (Kd.dJ (HO383.out) (Kd.mg HO380.out) (by decide)) (by decide)) (fun k_ hk => ⟨hk.2, hk.1.2⟩))).2.1 (Kd.R_F (Kd.bi (ok' := (fun k_ => ((fun k_ => k_ ≠ g)) k_ ∧ some k_ ≠ (v379 : Value).ownBlock)) (ah.apart HI0.out (Kd.dJ (HO383.out) (Kd.mg HO380.out) (by decide)) (by decide)) (fun k_ hk => ⟨hk.2, hk.1.2⟩))))); (case aF => exact (fun k_ hk => ah.fresh Z0 k_ hk)); (case aO => exact (by (with_reducible repeat (first | apply Kd.eH | apply Kd.eG | apply Kd.fK)); exact Kd.fB HO380.out (fun _ hk => hk.1))); (case aS => exact (aH (w := w) (g := g) (row := none) Z1)); (case aL => have := LMc19.out; omega); intro v387 w46 ho hb hg hat; rw [← Ny386.out] at ho; have n0_ := Aside0.mk (ah.grown Z0 hg (ah.oW HI0.out HO380.out (by decide))); have n1_ := Aside0.mk (dW Z2 HL.out hb); have n2_ := Aside0.mk (af.trans Z1 (af.gp hg g) (Kd.pG HO380.out)); have n3_ := Aside0.mk (ho); clear HI0; clear HB; clear HK; clear HO380; clear HO383; have HI0 := n0_; have HB := n1_; have HK := n2_; have HO388 := n3_; clear n0_ n1_ n2_ n3_; clear ho hb hg hat) | ((with_reducible refine gate_callee (f := 53) rfl ?_); refine goesL_ (some 53) rfl rfl Try.func53 (by kernel_rfl) rfl #[.pointer (some ⟨g, 0, none⟩), .string (⟨#[101, 108, 115, 101]⟩ : ByteArray)] rfl Z3 ?_; (with_reducible refine (au.calls g s0_0 t384 t385 (⟨#[101, 108, 115, 101]⟩ : ByteArray) false t390 t391 w0 _ ?side1 ?side2 A20.out).mono ?_); (case side1 => exact Z0); (case side2 => exact Z2); rintro e w48 ⟨rfl, hi, hb, hk⟩; refine ⟨_, rfl, ?_⟩; have n0_ := Aside0.mk (Kd.fB (Kd.ul (Kd.fB (ok := fun k_ => k_ ≠ g) Z60 (fun k_ hk_ => (⟨hk_, hk_⟩ : _ ∧ k_ ≠ g))) hk (fun _ h => h.2)) (fun _ h => h.1)); have n1_ := Aside0.mk (af.trans Z1 hk (.inl rfl)); have n2_ := Aside0.mk (hb); have n3_ := Aside0.mk (hi); clear HO388; clear HK; clear HB; clear HI0; have HO388 := n0_; have HK := n1_; have HB := n2_; have HI0 := n3_; clear n0_ n1_ n2_ n3_; (try clear hb); obtain ⟨Ao49, co49, eo49⟩ := Kd.iK HO388.out; subst eo49) | ((with_reducible refine gate_callee (f := 56) rfl ?_); refine goesL_ (some 61) rfl rfl Try.func56 (by kernel_rfl) rfl #[.agg #[.int .i64 9, .int .i64 0, .string (⟨#[]⟩ : ByteArray), .int .i64 0, .string (⟨#[]⟩ : ByteArray)], .slice Ao49 y386.length co49] rfl Z3 ?_; (with_reducible refine (aj.calls k 9 0 (⟨#[]⟩ : ByteArray) 0 (⟨#[]⟩ : ByteArray) _ _ y386 t403 _ ?side1 ?side2 A39.out).mono ?_); (case side1 => repeat (first | exact (Kd.dQ HO388.out).2.2 | (with_reducible refine Kd.C_alloc ?_ _) | (with_reducible refine Kd.C_drewN ?_ _) | (with_reducible refine Kd.C_drew ?_))); (case side2 => exact (Kd.dQ HO388.out).2.1); rintro e w50 ⟨v404, rfl, ho0, hb⟩; refine ⟨_, rfl, ?_⟩; have n0_ := Aside0.mk (Kd.gW Z60 (Kd.dH ho0) hb); have n1_ := Aside0.mk (Kd.R_lower ho0 (aH (w := w) (g := g) (row := none) Z1)); have n2_ := Aside0.mk (ah.below Z0 hb); have n3_ := Aside0.mk (af.trans Z1 (af.of_below hb g none) (.inl rfl)); have n4_ := Aside0.mk (below_step Z2 hb); clear HO388; clear HI0; clear HK; clear HB; have HO388 := n0_; have HO405 := n1_; have HI0 := n2_; have HK := n3_; have HB := n4_; clear n0_ n1_ n2_ n3_ n4_; (try clear hb); (try clear ho0)))
     go_ret
     exact ⟨_, Z5, by (with_reducible repeat (first | apply Kd.R_alloc | apply Kd.R_drewN | apply Kd.R_drew)); exact HO405.out, Z0, Z2, Z1⟩
    rw [if_neg c19] at H
    exact absurd H (by simp)
   rw [if_neg c15] at H
   have c15b0 : (t351.toList == ([105, 102] : List UInt8)) = false := beq_eq_false_iff_ne.mpr c15
   have c15b1 : (t351.toList != ([105, 102] : List UInt8)) = true := bne_iff_ne.mpr c15
   by_cases c51 : t351.toList = ([119, 104, 105, 108, 101] : List UInt8)
   ·rw [if_pos c51] at H
    have c51b0 : (t351.toList == ([119, 104, 105, 108, 101] : List UInt8)) = true := beq_iff_eq.mpr c51
    have c51b1 : (t351.toList != ([119, 104, 105, 108, 101] : List UInt8)) = false := bne_eq_false_iff_eq.mpr c51
    clear c51
    replace H := Option.bind_eq_some_iff.mp H
    obtain ⟨⟨t406, t407, t408⟩, A520, H⟩ := H
    try dsimp only at H
    have A52 := Aside0.mk A520
    clear A520
    replace H := Option.bind_eq_some_iff.mp H
    obtain ⟨⟨t409, t412, t413⟩, A530, H⟩ := H
    try dsimp only at H
    have A53 := Aside0.mk A530
    clear A530
    replace H := Option.bind_eq_some_iff.mp H
    obtain ⟨⟨t414, t417, t418⟩, A540, H⟩ := H
    try dsimp only at H
    have A54 := Aside0.mk A540
    clear A540
    obtain ⟨y419, hy419⟩ : ∃ y_ : List (List (S41)), y_ = (([t409, t414] : List (List (S41)))) := ⟨_, rfl⟩
    replace H : ((aj.f k 10 0 (⟨#[]⟩ : ByteArray) 0 (⟨#[]⟩ : ByteArray) y419).bind fun t422 => (some (t422, t417, t418))) = some (r1, r2, r3) := by first | (rw [hy419]; with_reducible exact H) | (have H2_ := (Option.bind_some _ _).symm.trans H; rw [hy419]; with_reducible exact H2_) | (have H2_ := (Option.bind_some _ _).symm.trans H; with_reducible exact H2_) | with_reducible exact H | (rw [hy419]; exact H) | exact H
    have Ny419 := Aside0.mk hy419
    clear hy419
    replace H := Option.bind_eq_some_iff.mp H
    obtain ⟨t422, A550, H⟩ := H
    replace H : (some (t422, t417, t418)) = some (r1, r2, r3) := H
    have A55 := Aside0.mk A550
    clear A550
    simp only [Option.some.injEq, Prod.mk.injEq] at H
    obtain ⟨rfl, rfl, rfl⟩ := H
    go_wp2_with (first | ((with_reducible refine gate_callee (f := 53) rfl ?_); refine goesL_ (some 64) rfl rfl Try.func53 (by kernel_rfl) rfl #[.pointer (some ⟨g, 0, none⟩), .string t351] rfl Z3 ?_; (with_reducible refine (au.calls g s0_0 t352 t353 t351 t406 t407 t408 w0 _ ?side1 ?side2 A52.out).mono ?_); (case side1 => exact Z0); (case side2 => exact Z2); rintro e w56 ⟨rfl, hi, hb, hk⟩; refine ⟨_, rfl, ?_⟩; have n0_ := Aside0.mk (af.trans Z1 hk (.inl rfl)); have n1_ := Aside0.mk (hb); have n2_ := Aside0.mk (hi); clear HK; clear HB; clear HI0; have HK := n0_; have HB := n1_; have HI0 := n2_; clear n0_ n1_ n2_; (try clear hb)) | ((with_reducible refine gate_callee (f := 77) rfl ?_); refine goesL_ (some 66) rfl rfl Try.func77 (by kernel_rfl) rfl #[.pointer (some ⟨g, 0, none⟩)] rfl Z3 ?_; (with_reducible refine (dI.calls F HF k g s0_0 t407 t408 t409 t412 t413 w0 _ ?side1 ?side2 A53.out).mono ?_); (case side1 => exact Z0); (case side2 => exact Z2); rintro e w57 ⟨v410, rfl, ho0, hi, hb, hk⟩; refine ⟨_, rfl, ?_⟩; have n0_ := Aside0.mk (Kd.R_lower ho0 (aH (w := w) (g := g) (row := none) Z1)); have n1_ := Aside0.mk (af.trans Z1 hk (.inl rfl)); have n2_ := Aside0.mk (hb); have n3_ := Aside0.mk (hi); clear HK; clear HB; clear HI0; have HO411 := n0_; have HK := n1_; have HB := n2_; have HI0 := n3_; clear n0_ n1_ n2_ n3_; (try clear hb); (try clear ho0)) | ((with_reducible refine gate_callee (f := 74) rfl ?_); refine goesL_ (some 70) rfl rfl Try.func74 (by kernel_rfl) rfl #[.pointer (some ⟨g, 0, none⟩)] rfl Z3 ?_; (with_reducible refine (eQ.calls F HF k g s0_0 t412 t413 t414 t417 t418 w0 _ ?side1 ?side2 A54.out).mono ?_); (case side1 => exact Z0); (case side2 => exact Z2); rintro e w58 ⟨v415, rfl, ho0, hi, hb, hk⟩; refine ⟨_, rfl, ?_⟩; have n0_ := Aside0.mk (Kd.bi (Kd.o6 (Kd.o7 (ah.apart (show ah w0 _ g s0_0 t412 t413 from Z0) (by (with_reducible repeat (first | apply Kd.R_alloc | apply Kd.R_drewN | apply Kd.R_drew)); exact HO411.out) (by decide)) hk) (Kd.dH ho0)) (fun _ h_ => h_.1)); have n1_ := Aside0.mk (Kd.R_lower (Kd.jB ho0 (Kd.lT (by (with_reducible repeat (first | apply Kd.R_alloc | apply Kd.R_drewN | apply Kd.R_drew)); exact HO411.out))) (aH (w := w) (g := g) (row := none) Z1)); have n2_ := Aside0.mk (af.trans Z1 hk (.inl rfl)); have n3_ := Aside0.mk (hb); have n4_ := Aside0.mk (hi); clear HO411; clear HK; clear HB; clear HI0; have HO411 := n0_; have HO416 := n1_; have HK := n2_; have HB := n3_; have HI0 := n4_; clear n0_ n1_ n2_ n3_ n4_; (try clear hb); (try clear ho0); obtain ⟨Ao59, co59, eo59⟩ := Kd.R_slice HO411.out; subst eo59; obtain ⟨Ao60, co60, eo60⟩ := Kd.R_slice HO416.out; subst eo60) | ((with_reducible refine bP (N := 71) rfl ?_); refine Kd.lU (Kd.slice 41 k41) _ 23 ?hg (N' := 71) ?hd (xs := ([t409, t414] : List (List (S41)))) (inner := [.slice Ao59 t409.length co59, .slice Ao60 t414.length co60]) (ok := (fun k_ => k_ ≠ g)) (okp := (fun k_ => k_ ≠ g)) ?hr ?hp (fun _ hk => hk) ((show ∀ k_, w58.heap.size ≤ k_ → (fun k_ => k_ ≠ g) k_ from fun k_ hk => ah.fresh Z0 k_ hk) _ (Nat.le_refl _)) (Below.refl _ _) (Nat.le_refl _) (by simp) ?_; (case hd => rfl); (case hg => rfl); (case hr => first | (go_simp; done) | (go_simp; rfl)); (case hp => exact (dw.one (show Kd.FK (Kd.slice 41 k41) _ _ t409 [.slice Ao59 t409.length co59] from (Kd.dF (Kd.R_reads' (Kd.bi (ok' := (fun k_ => k_ ≠ g)) (ah.apart HI0.out (HO411.out) (by decide)) (fun k_ hk => hk.2))).2.1 (Kd.R_F (Kd.bi (ok' := (fun k_ => k_ ≠ g)) (ah.apart HI0.out (HO411.out) (by decide)) (fun k_ hk => hk.2))))) (dw.one (show Kd.FK (Kd.slice 41 k41) _ _ t414 [.slice Ao60 t414.length co60] from (Kd.dF (Kd.R_reads' (Kd.bi (ok' := (fun k_ => k_ ≠ g)) (ah.apart HI0.out (HO416.out) (by decide)) (fun k_ hk => hk.2))).2.1 (Kd.R_F (Kd.bi (ok' := (fun k_ => k_ ≠ g)) (ah.apart HI0.out (HO416.out) (by decide)) (fun k_ hk => hk.2))))) (dw.none _ _)))); intro v420 w61 ho62 hb hg_ hnew_; clear hg_ hnew_; (first | rw [← Ny419.out] at ho62 | (simp only [Int.reduceToNat] at ho62; rw [← Ny419.out] at ho62)); have n0_ := Aside0.mk (Kd.iL ho62 (aH (w := w) (g := g) (row := none) Z1)); have n1_ := Aside0.mk (ah.below Z0 hb); have n2_ := Aside0.mk (af.trans Z1 (af.of_below hb g none) (.inl rfl)); have n3_ := Aside0.mk (below_step Z2 hb); clear HI0; clear HK; clear HB; clear HO411; clear HO416; have HO421 := n0_; have HI0 := n1_; have HK := n2_; have HB := n3_; clear n0_ n1_ n2_ n3_; clear hb ho62; obtain ⟨Ao63, co63, eo63⟩ := Kd.iK HO421.out; subst eo63) | ((with_reducible refine gate_callee (f := 56) rfl ?_); refine goesL_ (some 72) rfl rfl Try.func56 (by kernel_rfl) rfl #[.agg #[.int .i64 10, .int .i64 0, .string (⟨#[]⟩ : ByteArray), .int .i64 0, .string (⟨#[]⟩ : ByteArray)], .slice Ao63 y419.length co63] rfl Z3 ?_; (with_reducible refine (aj.calls k 10 0 (⟨#[]⟩ : ByteArray) 0 (⟨#[]⟩ : ByteArray) _ _ y419 t422 _ ?side1 ?side2 A55.out).mono ?_); (case side1 => repeat (first | exact (Kd.dQ HO421.out).2.2 | (with_reducible refine Kd.C_alloc ?_ _) | (with_reducible refine Kd.C_drewN ?_ _) | (with_reducible refine Kd.C_drew ?_))); (case side2 => exact (Kd.dQ HO421.out).2.1); rintro e w64 ⟨v423, rfl, ho0, hb⟩; refine ⟨_, rfl, ?_⟩; have n0_ := Aside0.mk (Kd.gW (by (with_reducible repeat (first | apply Kd.eH | apply Kd.eG | apply Kd.fK)); exact HO421.out) (Kd.dH ho0) hb); have n1_ := Aside0.mk (Kd.R_lower ho0 (aH (w := w) (g := g) (row := none) Z1)); have n2_ := Aside0.mk (ah.below Z0 hb); have n3_ := Aside0.mk (af.trans Z1 (af.of_below hb g none) (.inl rfl)); have n4_ := Aside0.mk (below_step Z2 hb); clear HO421; clear HI0; clear HK; clear HB; have HO421 := n0_; have HO424 := n1_; have HI0 := n2_; have HK := n3_; have HB := n4_; clear n0_ n1_ n2_ n3_ n4_; (try clear hb); (try clear ho0)))
    go_ret
    exact ⟨_, Z5, by (with_reducible repeat (first | apply Kd.R_alloc | apply Kd.R_drewN | apply Kd.R_drew)); exact HO424.out, Z0, Z2, Z1⟩
   rw [if_neg c51] at H
   have c51b0 : (t351.toList == ([119, 104, 105, 108, 101] : List UInt8)) = false := beq_eq_false_iff_ne.mpr c51
   have c51b1 : (t351.toList != ([119, 104, 105, 108, 101] : List UInt8)) = true := bne_iff_ne.mpr c51
   by_cases c65 : t351.toList = ([98, 114, 101, 97, 107] : List UInt8)
   ·rw [if_pos c65] at H
    have c65b0 : (t351.toList == ([98, 114, 101, 97, 107] : List UInt8)) = true := beq_iff_eq.mpr c65
    have c65b1 : (t351.toList != ([98, 114, 101, 97, 107] : List UInt8)) = false := bne_eq_false_iff_eq.mpr c65
    clear c65
    by_cases c66 : 11 = 0
    ·exact absurd c66 (by decide)
    rw [if_neg c66] at H
    have c66b0 : (11 == 0) = false := beq_eq_false_iff_ne.mpr c66
    have c66b1 : (11 != 0) = true := bne_iff_ne.mpr c66
    have H' := Aside0.mk H
    clear H
    go_wp2
    go_meet
    case rel => exact ⟨_, (11), (t352), (t353), Z7, H', ⟨Z35⟩, ⟨Z0⟩, ⟨Z1⟩, ⟨Z2⟩⟩
   rw [if_neg c65] at H
   have c65b0 : (t351.toList == ([98, 114, 101, 97, 107] : List UInt8)) = false := beq_eq_false_iff_ne.mpr c65
   have c65b1 : (t351.toList != ([98, 114, 101, 97, 107] : List UInt8)) = true := bne_iff_ne.mpr c65
   by_cases c67 : t351.toList = ([99, 111, 110, 116, 105, 110, 117, 101] : List UInt8)
   ·rw [if_pos c67] at H
    have c67b0 : (t351.toList == ([99, 111, 110, 116, 105, 110, 117, 101] : List UInt8)) = true := beq_iff_eq.mpr c67
    have c67b1 : (t351.toList != ([99, 111, 110, 116, 105, 110, 117, 101] : List UInt8)) = false := bne_eq_false_iff_eq.mpr c67
    clear c67
    by_cases c68 : 0 = 0
    ·rw [if_pos c68] at H
     have c68b0 : (0 == 0) = true := beq_iff_eq.mpr c68
     have c68b1 : (0 != 0) = false := bne_eq_false_iff_eq.mpr c68
     clear c68
     have H' := Aside0.mk H
     clear H
     go_wp2
     go_meet
     case rel => exact ⟨_, (12), (t352), (t353), Z7, H', ⟨Z35⟩, ⟨Z0⟩, ⟨Z1⟩, ⟨Z2⟩⟩
    exact absurd rfl c68
   rw [if_neg c67] at H
   have c67b0 : (t351.toList == ([99, 111, 110, 116, 105, 110, 117, 101] : List UInt8)) = false := beq_eq_false_iff_ne.mpr c67
   have c67b1 : (t351.toList != ([99, 111, 110, 116, 105, 110, 117, 101] : List UInt8)) = true := bne_iff_ne.mpr c67
   by_cases c69 : t351.toList = ([121, 105, 101, 108, 100] : List UInt8)
   ·rw [if_pos c69] at H
    have c69b0 : (t351.toList == ([121, 105, 101, 108, 100] : List UInt8)) = true := beq_iff_eq.mpr c69
    have c69b1 : (t351.toList != ([121, 105, 101, 108, 100] : List UInt8)) = false := bne_eq_false_iff_eq.mpr c69
    clear c69
    have H' := Aside0.mk H
    clear H
    go_wp2
    go_meet
    case rel => exact ⟨_, (0), (t352), (t353), Z7, H', ⟨Z35⟩, ⟨Z0⟩, ⟨Z1⟩, ⟨Z2⟩⟩
   rw [if_neg c69] at H
   have c69b0 : (t351.toList == ([121, 105, 101, 108, 100] : List UInt8)) = false := beq_eq_false_iff_ne.mpr c69
   have c69b1 : (t351.toList != ([121, 105, 101, 108, 100] : List UInt8)) = true := bne_iff_ne.mpr c69
   by_cases c70 : t351.toList = ([114, 101, 116, 117, 114, 110] : List UInt8)
   ·rw [if_pos c70] at H
    have c70b0 : (t351.toList == ([114, 101, 116, 117, 114, 110] : List UInt8)) = true := beq_iff_eq.mpr c70
    have c70b1 : (t351.toList != ([114, 101, 116, 117, 114, 110] : List UInt8)) = false := bne_eq_false_iff_eq.mpr c70
    clear c70
    have H' := Aside0.mk H
    clear H
    go_wp2
    go_meet
    case rel => exact ⟨_, (13), (t352), (t353), Z7, H', ⟨Z35⟩, ⟨Z0⟩, ⟨Z1⟩, ⟨Z2⟩⟩
   rw [if_neg c70] at H
   have c70b0 : (t351.toList == ([114, 101, 116, 117, 114, 110] : List UInt8)) = false := beq_eq_false_iff_ne.mpr c70
   have c70b1 : (t351.toList != ([114, 101, 116, 117, 114, 110] : List UInt8)) = true := bne_iff_ne.mpr c70
   by_cases c71 : t351.toList = ([112, 117, 116] : List UInt8)
   ·rw [if_pos c71] at H
    have c71b0 : (t351.toList == ([112, 117, 116] : List UInt8)) = true := beq_iff_eq.mpr c71
    have c71b1 : (t351.toList != ([112, 117, 116] : List UInt8)) = false := bne_eq_false_iff_eq.mpr c71
    clear c71
    have H' := Aside0.mk H
    clear H
    go_wp2
    go_meet
    case rel => exact ⟨_, (14), (t352), (t353), Z7, H', ⟨Z35⟩, ⟨Z0⟩, ⟨Z1⟩, ⟨Z2⟩⟩
   rw [if_neg c71] at H
   have c71b0 : (t351.toList == ([112, 117, 116] : List UInt8)) = false := beq_eq_false_iff_ne.mpr c71
   have c71b1 : (t351.toList != ([112, 117, 116] : List UInt8)) = true := bne_iff_ne.mpr c71
   by_cases c72 : t351.toList = ([101, 109, 105, 116] : List UInt8)
   ·rw [if_pos c72] at H
    have c72b0 : (t351.toList == ([101, 109, 105, 116] : List UInt8)) = true := beq_iff_eq.mpr c72
    have c72b1 : (t351.toList != ([101, 109, 105, 116] : List UInt8)) = false := bne_eq_false_iff_eq.mpr c72
    clear c72
    have H' := Aside0.mk H
    clear H
    go_wp2
    go_meet
    case rel => exact ⟨_, (15), (t352), (t353), Z7, H', ⟨Z35⟩, ⟨Z0⟩, ⟨Z1⟩, ⟨Z2⟩⟩
   rw [if_neg c72] at H
   have c72b0 : (t351.toList == ([101, 109, 105, 116] : List UInt8)) = false := beq_eq_false_iff_ne.mpr c72
   have c72b1 : (t351.toList != ([101, 109, 105, 116] : List UInt8)) = true := bne_iff_ne.mpr c72
   have H' := Aside0.mk H
   clear H
   go_wp2
   go_meet
   case rel => exact ⟨_, (0), (t352), (t353), Z7, H', ⟨Z35⟩, ⟨Z0⟩, ⟨Z1⟩, ⟨Z2⟩⟩
  case rest =>
   clear HC5
   try clear c1
   try clear c2
   try clear p2
   try clear c5
   try clear c6
   try clear c6b0
   try clear c6b1
   try clear c7
   try clear c8
   try clear c15
   try clear c15b0
   try clear c15b1
   try clear c19
   try clear c21
   try clear c23
   try clear c51
   try clear c51b0
   try clear c51b1
   try clear c52
   try clear c53
   try clear c56
   try clear c65
   try clear c65b0
   try clear c65b1
   try clear c66
   try clear c66b0
   try clear c66b1
   try clear c67
   try clear c67b0
   try clear c67b1
   try clear c68
   try clear c68b0
   try clear c68b1
   try clear c69
   try clear c69b0
   try clear c69b1
   try clear c70
   try clear c70b0
   try clear c70b1
   try clear c71
   try clear c71b0
   try clear c71b1
   try clear c72
   try clear c72b0
   try clear c72b1
   obtain ⟨kq, x4_4, x1001_4, x1002_4, rfl, HA, HJ4, HI0, HK, HB⟩ := hcut
   cases kq with
   | zero => exact absurd HA.out (by simp [aI.j0])
   | succ kj4 =>
    have H := HA.out
    clear HA
    simp only [aI.j0] at H
    by_cases c73 : x4_4 = 0
    ·rw [if_pos c73] at H
     have c73b0 : (x4_4 == 0) = true := beq_iff_eq.mpr c73
     have c73b1 : (x4_4 != 0) = false := bne_eq_false_iff_eq.mpr c73
     clear c73
     replace H := Option.bind_eq_some_iff.mp H
     obtain ⟨⟨t425, t426, t427⟩, A740, H⟩ := H
     replace H : ((bM.f kj4 s0_0 t426 t427 16).bind fun bt428 => (some (bt428.1, bt428.2.1, bt428.2.2))) = some (r1, r2, r3) := H
     have A74 := Aside0.mk A740
     clear A740
     replace H := Option.bind_eq_some_iff.mp H
     obtain ⟨⟨t428, t431, t432⟩, A750, H⟩ := H
     replace H : (some (t428, t431, t432)) = some (r1, r2, r3) := H
     have A75 := Aside0.mk A750
     clear A750
     simp only [Option.some.injEq, Prod.mk.injEq] at H
     obtain ⟨rfl, rfl, rfl⟩ := H
     go_wp2_with (first | ((with_reducible refine gate_callee (f := 53) rfl ?_); refine goesL_ (some 79) rfl rfl Try.func53 (by kernel_rfl) rfl #[.pointer (some ⟨g, 0, none⟩), .string t351] rfl Z3 ?_; (with_reducible refine (au.calls g s0_0 x1001_4 x1002_4 t351 t425 t426 t427 w0 _ ?side1 ?side2 A74.out).mono ?_); (case side1 => exact Z0); (case side2 => exact Z2); rintro e w76 ⟨rfl, hi, hb, hk⟩; refine ⟨_, rfl, ?_⟩; have n0_ := Aside0.mk (af.trans Z1 hk (.inl rfl)); have n1_ := Aside0.mk (hb); have n2_ := Aside0.mk (hi); clear HK; clear HB; clear HI0; have HK := n0_; have HB := n1_; have HI0 := n2_; clear n0_ n1_ n2_; (try clear hb)) | ((with_reducible refine gate_callee (f := 78) rfl ?_); refine goesL_ (some 82) rfl rfl Try.func78 (by kernel_rfl) rfl #[.pointer (some ⟨g, 0, none⟩), .int .i64 16] rfl Z3 ?_; (with_reducible refine (bM.calls kj4 g s0_0 t426 t427 16 t428 t431 t432 w0 _ ?side1 ?side2 A75.out).mono ?_); (case side1 => exact Z0); (case side2 => exact Z2); rintro e w77 ⟨v429, rfl, ho0, hi, hb, hk⟩; refine ⟨_, rfl, ?_⟩; have n0_ := Aside0.mk (Kd.R_lower ho0 (aH (w := w) (g := g) (row := none) Z1)); have n1_ := Aside0.mk (af.trans Z1 hk (.inl rfl)); have n2_ := Aside0.mk (hb); have n3_ := Aside0.mk (hi); clear HK; clear HB; clear HI0; have HO430 := n0_; have HK := n1_; have HB := n2_; have HI0 := n3_; clear n0_ n1_ n2_ n3_; (try clear hb); (try clear ho0)))
     go_ret
     exact ⟨_, Z5, by (with_reducible repeat (first | apply Kd.R_alloc | apply Kd.R_drewN | apply Kd.R_drew)); exact HO430.out, Z0, Z2, Z1⟩
    rw [if_neg c73] at H
    have c73b0 : (x4_4 == 0) = false := beq_eq_false_iff_ne.mpr c73
    have c73b1 : (x4_4 != 0) = true := bne_iff_ne.mpr c73
    replace H := Option.bind_eq_some_iff.mp H
    obtain ⟨⟨t433, t434, t435⟩, A780, H⟩ := H
    replace H : ((bM.f kj4 s0_0 t434 t435 x4_4).bind fun bt436 => (some (bt436.1, bt436.2.1, bt436.2.2))) = some (r1, r2, r3) := H
    have A78 := Aside0.mk A780
    clear A780
    replace H := Option.bind_eq_some_iff.mp H
    obtain ⟨⟨t436, t439, t440⟩, A790, H⟩ := H
    replace H : (some (t436, t439, t440)) = some (r1, r2, r3) := H
    have A79 := Aside0.mk A790
    clear A790
    simp only [Option.some.injEq, Prod.mk.injEq] at H
    obtain ⟨rfl, rfl, rfl⟩ := H
    go_wp2_with (first | ((with_reducible refine gate_callee (f := 53) rfl ?_); refine goesL_ (some 79) rfl rfl Try.func53 (by kernel_rfl) rfl #[.pointer (some ⟨g, 0, none⟩), .string t351] rfl Z3 ?_; (with_reducible refine (au.calls g s0_0 x1001_4 x1002_4 t351 t433 t434 t435 w0 _ ?side1 ?side2 A78.out).mono ?_); (case side1 => exact Z0); (case side2 => exact Z2); rintro e w80 ⟨rfl, hi, hb, hk⟩; refine ⟨_, rfl, ?_⟩; have n0_ := Aside0.mk (af.trans Z1 hk (.inl rfl)); have n1_ := Aside0.mk (hb); have n2_ := Aside0.mk (hi); clear HK; clear HB; clear HI0; have HK := n0_; have HB := n1_; have HI0 := n2_; clear n0_ n1_ n2_; (try clear hb)) | ((with_reducible refine gate_callee (f := 78) rfl ?_); refine goesL_ (some 82) rfl rfl Try.func78 (by kernel_rfl) rfl #[.pointer (some ⟨g, 0, none⟩), .int .i64 x4_4] rfl Z3 ?_; (with_reducible refine (bM.calls kj4 g s0_0 t434 t435 x4_4 t436 t439 t440 w0 _ ?side1 ?side2 A79.out).mono ?_); (case side1 => exact Z0); (case side2 => exact Z2); rintro e w81 ⟨v437, rfl, ho0, hi, hb, hk⟩; refine ⟨_, rfl, ?_⟩; have n0_ := Aside0.mk (Kd.R_lower ho0 (aH (w := w) (g := g) (row := none) Z1)); have n1_ := Aside0.mk (af.trans Z1 hk (.inl rfl)); have n2_ := Aside0.mk (hb); have n3_ := Aside0.mk (hi); clear HK; clear HB; clear HI0; have HO438 := n0_; have HK := n1_; have HB := n2_; have HI0 := n3_; clear n0_ n1_ n2_ n3_; (try clear hb); (try clear ho0)))
    go_ret
    exact ⟨_, Z5, by (with_reducible repeat (first | apply Kd.R_alloc | apply Kd.R_drewN | apply Kd.R_drew)); exact HO438.out, Z0, Z2, Z1⟩
 case rest =>
  clear HC3
  try clear c1
  try clear c2
  try clear p2
  try clear c5
  try clear c6
  try clear c6b0
  try clear c6b1
  try clear c7
  try clear c8
  try clear c15
  try clear c15b0
  try clear c15b1
  try clear c19
  try clear c21
  try clear c23
  try clear c51
  try clear c51b0
  try clear c51b1
  try clear c52
  try clear c53
  try clear c56
  try clear c65
  try clear c65b0
  try clear c65b1
  try clear c66
  try clear c66b0
  try clear c66b1
  try clear c67
  try clear c67b0
  try clear c67b1
  try clear c68
  try clear c68b0
  try clear c68b1
  try clear c69
  try clear c69b0
  try clear c69b1
  try clear c70
  try clear c70b0
  try clear c70b1
  try clear c71
  try clear c71b0
  try clear c71b1
  try clear c72
  try clear c72b0
  try clear c72b1
  try clear c73
  try clear c73b0
  try clear c73b1
  try clear c75
  try clear c76
  try clear c78
  try clear p2
  obtain ⟨kq, x4_2, x1001_2, x1002_2, rfl, HA, HJ2, HI0, HK, HB⟩ := hcut
  cases kq with
  | zero => exact absurd HA.out (by simp [aI.j1])
  | succ kj2 =>
   have H := HA.out
   clear HA
   simp only [aI.j1] at H
   by_cases c82 : x4_2 = 0
   ·rw [if_pos c82] at H
    have c82b0 : (x4_2 == 0) = true := beq_iff_eq.mpr c82
    have c82b1 : (x4_2 != 0) = false := bne_eq_false_iff_eq.mpr c82
    clear c82
    replace H := Option.bind_eq_some_iff.mp H
    obtain ⟨⟨t441, t444, t445⟩, A830, H⟩ := H
    replace H : (some (t441, t444, t445)) = some (r1, r2, r3) := H
    have A83 := Aside0.mk A830
    clear A830
    simp only [Option.some.injEq, Prod.mk.injEq] at H
    obtain ⟨rfl, rfl, rfl⟩ := H
    go_wp2_with (first | ((with_reducible refine gate_callee (f := 79) rfl ?_); refine goesL_ (some 86) rfl rfl Try.func79 (by kernel_rfl) rfl #[.pointer (some ⟨g, 0, none⟩)] rfl Z3 ?_; (with_reducible refine (aK.calls F HF kj2 g s0_0 x1001_2 x1002_2 t441 t444 t445 w0 _ ?side1 ?side2 A83.out).mono ?_); (case side1 => exact Z0); (case side2 => exact Z2); rintro e w84 ⟨v442, rfl, ho0, hi, hb, hk⟩; refine ⟨_, rfl, ?_⟩; have n0_ := Aside0.mk (Kd.R_lower ho0 (aH (w := w) (g := g) (row := none) Z1)); have n1_ := Aside0.mk (af.trans Z1 hk (.inl rfl)); have n2_ := Aside0.mk (hb); have n3_ := Aside0.mk (hi); clear HK; clear HB; clear HI0; have HO443 := n0_; have HK := n1_; have HB := n2_; have HI0 := n3_; clear n0_ n1_ n2_ n3_; (try clear hb); (try clear ho0)))
    go_ret
    exact ⟨_, Z5, by (with_reducible repeat (first | apply Kd.R_alloc | apply Kd.R_drewN | apply Kd.R_drew)); exact HO443.out, Z0, Z2, Z1⟩
   rw [if_neg c82] at H
   have c82b0 : (x4_2 == 0) = false := beq_eq_false_iff_ne.mpr c82
   have c82b1 : (x4_2 != 0) = true := bne_iff_ne.mpr c82
   replace H := Option.bind_eq_some_iff.mp H
   obtain ⟨⟨t446, t447, t448⟩, A850, H⟩ := H
   try dsimp only at H
   have A85 := Aside0.mk A850
   clear A850
   replace H := Option.bind_eq_some_iff.mp H
   obtain ⟨⟨t449, t452, t453⟩, A860, H⟩ := H
   replace H : (some (t449, t452, t453)) = some (r1, r2, r3) := H
   have A86 := Aside0.mk A860
   clear A860
   simp only [Option.some.injEq, Prod.mk.injEq] at H
   obtain ⟨rfl, rfl, rfl⟩ := H
   go_wp2_with (first | ((with_reducible refine gate_callee (f := 53) rfl ?_); refine goesL_ (some 89) rfl rfl Try.func53 (by kernel_rfl) rfl #[.pointer (some ⟨g, 0, none⟩), .string t351] rfl Z3 ?_; (with_reducible refine (au.calls g s0_0 x1001_2 x1002_2 t351 t446 t447 t448 w0 _ ?side1 ?side2 A85.out).mono ?_); (case side1 => exact Z0); (case side2 => exact Z2); rintro e w87 ⟨rfl, hi, hb, hk⟩; refine ⟨_, rfl, ?_⟩; have n0_ := Aside0.mk (af.trans Z1 hk (.inl rfl)); have n1_ := Aside0.mk (hb); have n2_ := Aside0.mk (hi); clear HK; clear HB; clear HI0; have HK := n0_; have HB := n1_; have HI0 := n2_; clear n0_ n1_ n2_; (try clear hb)) | ((with_reducible refine gate_callee (f := 76) rfl ?_); refine goesL_ (some 93) rfl rfl Try.func76 (by kernel_rfl) rfl #[.pointer (some ⟨g, 0, none⟩), .agg #[.int .i64 x4_2, .int .i64 0, .string (⟨#[]⟩ : ByteArray), .int .i64 0, .string (⟨#[]⟩ : ByteArray)]] rfl Z3 ?_; (with_reducible refine (aY.calls F HF kj2 g s0_0 t447 t448 x4_2 0 (⟨#[]⟩ : ByteArray) 0 (⟨#[]⟩ : ByteArray) t449 t452 t453 w0 _ ?side1 ?side2 A86.out).mono ?_); (case side1 => exact Z0); (case side2 => exact Z2); rintro e w88 ⟨v450, rfl, ho0, hi, hb, hk⟩; refine ⟨_, rfl, ?_⟩; have n0_ := Aside0.mk (Kd.R_lower ho0 (aH (w := w) (g := g) (row := none) Z1)); have n1_ := Aside0.mk (af.trans Z1 hk (.inl rfl)); have n2_ := Aside0.mk (hb); have n3_ := Aside0.mk (hi); clear HK; clear HB; clear HI0; have HO451 := n0_; have HK := n1_; have HB := n2_; have HI0 := n3_; clear n0_ n1_ n2_ n3_; (try clear hb); (try clear ho0)))
   go_ret
   exact ⟨_, Z5, by (with_reducible repeat (first | apply Kd.R_alloc | apply Kd.R_drewN | apply Kd.R_drew)); exact HO451.out, Z0, Z2, Z1⟩
end Go.Proofs.Ytendgafpkeadhaa.Q
