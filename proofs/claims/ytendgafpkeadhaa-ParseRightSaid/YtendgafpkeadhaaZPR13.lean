/- Walks over functions of the program, words for them, and what the functions come to; of each text only what this claim uses; no condition. -/
import Derived.Test.YtendgafpkeadhaaZPR0
import Derived.Test.YtendgafpkeadhaaZPR3
import Derived.Test.YtendgafpkeadhaaZPR7
import Derived.Test.YtendgafpkeadhaaZPR9
import Derived.Test.YtendgafpkeadhaaZPR12
section
namespace Go.Proofs.Ytendgafpkeadhaa.Q
open Go.RowKit Go.Proofs.YtendgafpkeadhaaW.PrintWords Go.Proofs.YtendgafpkeadhaaW.PrintLast Go.Proofs.YtendgafpkeadhaaW.PrintMore
attribute [local go_sem] ik ig gZ gY max2_int min2_int max_two min_two max_three min_three max_four min_four
set_option linter.unusedVariables false
set_option linter.unusedSimpArgs false
/-! ### aT: function 74 -/
def aT.l0 (F : Fam) : Nat → List (List (S41)) → List (S38) → Int → Bool → Option ((List (S41)) × Int × Bool)
 | 0, _, _, _, _ => none
 | k + 1, x3, x1000, x1001, x1002 => if x1002 = true then ((ak.f x1000 x1001 x1002 (⟨#[125]⟩ : ByteArray)).bind fun bt456 => ((aj.f k 5 0 (⟨#[]⟩ : ByteArray) 0 (⟨#[]⟩ : ByteArray) x3).bind fun t458 => (some (t458, bt456.1, bt456.2)))) else ((aV.f x1000 x1001 x1002).bind fun bt461 => (if bt461.1.toList = ([125] : List UInt8) then ((ak.f x1000 bt461.2.1 bt461.2.2 (⟨#[125]⟩ : ByteArray)).bind fun bt464 => ((aj.f k 5 0 (⟨#[]⟩ : ByteArray) 0 (⟨#[]⟩ : ByteArray) x3).bind fun t466 => (some (t466, bt464.1, bt464.2)))) else ((aI.f F k x1000 bt461.2.1 bt461.2.2).bind fun bt469 => (if x3.length < 5864062014805 then (aT.l0 F k (x3 ++ [bt469.1]) x1000 bt469.2.1 bt469.2.2) else (none)))))
def aT.f (F : Fam) (k : Nat) (s0_0 : List (S38)) (s0_1 : Int) (s0_2 : Bool) : Option ((List (S41)) × Int × Bool) := (ak.f s0_0 s0_1 s0_2 (⟨#[123]⟩ : ByteArray)).bind fun bt454 => (aT.l0 F k ([] : List (List (S41))) s0_0 bt454.1 bt454.2)
theorem aT.mono_l {F F' : Fam} (HLE : iG F F') : ∀ k, (∀ y0 y1 y2 y3, LeO (aT.l0 F k y0 y1 y2 y3) (aT.l0 F' (k + 1) y0 y1 y2 y3))
 | 0 => fun _ _ _ _ r h => by simp [aT.l0] at h
 | k + 1 => by
  have ih0 := aT.mono_l HLE k
  intro y0 y1 y2 y3
  unfold aT.l0
  repeat' first
  | (with_reducible exact ih0 _ _ _ _)
  | (with_reducible exact aj.mono _ _ _ _ _ _ _)
  | (with_reducible exact aI.mono HLE _ _ _ _)
  | (with_reducible exact LeO.refl _)
  | (with_reducible exact LeO.none _)
  | (with_reducible refine LeO.ite ?_ ?_)
  | (with_reducible refine LeO.bind ?_ (fun _ => ?_))
  | exact ih0 _ _ _ _
  | exact aj.mono _ _ _ _ _ _ _
  | exact aI.mono HLE _ _ _ _
  | exact LeO.none _
  | refine LeO.ite ?_ ?_
  | refine LeO.bind ?_ (fun _ => ?_)
theorem aT.mono {F F' : Fam} (HLE : iG F F') : ∀ a0 a1 a2 k, LeO (aT.f F k a0 a1 a2) (aT.f F' (k + 1) a0 a1 a2) := by
 intro a0 a1 a2 k
 have ih0 := aT.mono_l HLE k
 unfold aT.f
 repeat' first
  | (with_reducible exact ih0 _ _ _ _)
  | (with_reducible exact aj.mono _ _ _ _ _ _ _)
  | (with_reducible exact aI.mono HLE _ _ _ _)
  | (with_reducible exact LeO.refl _)
  | (with_reducible exact LeO.none _)
  | (with_reducible refine LeO.ite ?_ ?_)
  | (with_reducible refine LeO.bind ?_ (fun _ => ?_))
  | exact ih0 _ _ _ _
  | exact aj.mono _ _ _ _ _ _ _
  | exact aI.mono HLE _ _ _ _
  | exact LeO.none _
  | refine LeO.ite ?_ ?_
  | refine LeO.bind ?_ (fun _ => ?_)
set_option maxHeartbeats 8000000 in
set_option maxRecDepth 100000 in
theorem aT.calls (F : Fam) (HF : jL F) (k : Nat) (g : Nat) (s0_0 : List (S38)) (s0_1 : Int) (s0_2 : Bool) (r1 : List (S41)) (r2 : Int) (r3 : Bool) (w0 w : World) (hI : ah w0 w g s0_0 s0_1 s0_2) (hB : Below w0.heap.size w0 w) (h : aT.f F k s0_0 s0_1 s0_2 = some (r1, r2, r3)) :
 Calls Try.prog 74 #[.pointer (some ⟨g, 0, none⟩)] w fun e w' => ∃ v0_ : Value, e = .returned (v0_) ∧ Kd.R k41 41 w' w.heap.size (fun _ => True) v0_ r1 ∧ ah w0 w' g s0_0 r2 r3 ∧ Below w0.heap.size w0 w' ∧ af w w' g none := by
 have hu41 := Try.underlying41
 have HI0 := Aside0.mk hI
 have HK := Aside0.mk (af.refl w g none)
 have HL := Aside0.mk hB.size
 clear hI
 have HW0 := Aside0.mk hB.size
 have HB := Aside0.mk hB
 clear hB
 have H : ((ak.f s0_0 s0_1 s0_2 (⟨#[123]⟩ : ByteArray)).bind fun bt454 => (aT.l0 F k ([] : List (List (S41))) s0_0 bt454.1 bt454.2)) = some (r1, r2, r3) := h
 clear h
 replace H := Option.bind_eq_some_iff.mp H
 obtain ⟨⟨t454, t455⟩, A20, H⟩ := H
 replace H : (aT.l0 F k ([] : List (List (S41))) s0_0 t454 t455) = some (r1, r2, r3) := H
 have A2 := Aside0.mk A20
 clear A20
 have H' := Aside0.mk H
 clear H
 go_enter Try.func74, Try.ntmps74
 go_wp2_with (first | ((with_reducible refine gate_callee (f := 51) rfl ?_); refine goesL_ (some 5) rfl rfl Try.func51 (by kernel_rfl) rfl #[.pointer (some ⟨g, 0, none⟩), .string (⟨#[123]⟩ : ByteArray)] rfl Z3 ?_; (with_reducible refine (ak.calls g s0_0 s0_1 s0_2 (⟨#[123]⟩ : ByteArray) t454 t455 w0 _ ?side1 ?side2 A2.out).mono ?_); (case side1 => exact Z0); (case side2 => exact Z2); rintro e w3 ⟨rfl, hi, hb, hk⟩; refine ⟨_, rfl, ?_⟩; have n0_ := Aside0.mk (af.trans Z1 hk (.inl rfl)); have n1_ := Aside0.mk (hb); have n2_ := Aside0.mk (hi); clear HK; clear HB; clear HI0; have HK := n0_; have HB := n1_; have HI0 := n2_; clear n0_ n1_ n2_; (try clear hb)))
 (try simp only [Act.put, List.setIfInBounds_toArray, List.set_cons_zero, List.set_cons_succ])
 go_loopg [3] k (fun kq v3 w' => ∃ (x3_1 : List (List (S41))) (x1001_1 : Int) (x1002_1 : Bool), Aside0 (aT.l0 F kq x3_1 s0_0 x1001_1 x1002_1 = some (r1, r2, r3)) ∧ Aside0 (kq ≤ k) ∧ Aside0 (Kd.S (Kd.slice 41 k41) 23 w' w.heap.size (fun _ => True) v3 x3_1) ∧ Aside0 (ah w0 w' g s0_0 x1001_1 x1002_1) ∧ Aside0 (af w w' g none) ∧ Aside0 (Below w0.heap.size w0 w'))
 case atStart => exact ⟨(([] : List (List (S41)))), (t454), (t455), H', ⟨Nat.le_refl _⟩, ⟨Z58⟩, ⟨Z0⟩, ⟨Z1⟩, ⟨Z2⟩⟩
 case round =>
  clear H'
  try clear p2
  obtain ⟨x3_1, x1001_1, x1002_1, HA, HK1, HO_3, HI0, HK, HB⟩ := hrel
  cases gk with
  | zero => exact absurd HA.out (by simp [aT.l0])
  | succ k1 =>
   have H := HA.out
   clear HA
   simp only [aT.l0] at H
   by_cases c4 : x1002_1 = true
   ·subst c4
    rw [if_pos rfl] at H
    have H1 := H
    clear H
    have H := H1
    clear H1
    replace H := Option.bind_eq_some_iff.mp H
    obtain ⟨⟨t456, t457⟩, A50, H⟩ := H
    replace H : ((aj.f k1 5 0 (⟨#[]⟩ : ByteArray) 0 (⟨#[]⟩ : ByteArray) x3_1).bind fun t458 => (some (t458, t456, t457))) = some (r1, r2, r3) := H
    have A5 := Aside0.mk A50
    clear A50
    replace H := Option.bind_eq_some_iff.mp H
    obtain ⟨t458, A60, H⟩ := H
    replace H : (some (t458, t456, t457)) = some (r1, r2, r3) := H
    have A6 := Aside0.mk A60
    clear A60
    simp only [Option.some.injEq, Prod.mk.injEq] at H
    obtain ⟨rfl, rfl, rfl⟩ := H
    obtain ⟨ASz7_0, cSz7_0, HGz7, hgz7, HSz7_0⟩ := HI0.out
    have hcz7_0 := df HGz7
    have hcz7_1 := cZ HGz7
    have hcz7_2 := cO HGz7
    have hfz7_1 := ae HGz7 1
    have hfz7_2 := ae HGz7 2
    clear HGz7 hgz7
    go_wp2_with (first | ((with_reducible refine gate_callee (f := 51) rfl ?_); refine goesL_ (some 22) rfl rfl Try.func51 (by kernel_rfl) rfl #[.pointer (some ⟨g, 0, none⟩), .string (⟨#[125]⟩ : ByteArray)] rfl Z3 ?_; (with_reducible refine (ak.calls g s0_0 x1001_1 true (⟨#[125]⟩ : ByteArray) t456 t457 w0 _ ?side1 ?side2 A5.out).mono ?_); (case side1 => exact Z0); (case side2 => exact Z2); rintro e w8 ⟨rfl, hi, hb, hk⟩; refine ⟨_, rfl, ?_⟩; have n0_ := Aside0.mk (Kd.dV (Kd.iT (ah.fJ (show ah w0 _ g s0_0 x1001_1 true from Z0) Z51 (by decide)) hk (fun _ h => h.2)) (fun _ h => h.1)); have n1_ := Aside0.mk (af.trans Z1 hk (.inl rfl)); have n2_ := Aside0.mk (hb); have n3_ := Aside0.mk (hi); clear HO_3; clear HK; clear HB; clear HI0; have HO_3 := n0_; have HK := n1_; have HB := n2_; have HI0 := n3_; clear n0_ n1_ n2_ n3_; (try clear hb); obtain ⟨Ao9, co9, eo9⟩ := Kd.jT HO_3.out; subst eo9) | ((with_reducible refine gate_callee (f := 56) rfl ?_); refine goesL_ (some 25) rfl rfl Try.func56 (by kernel_rfl) rfl #[.agg #[.int .i64 5, .int .i64 0, .string (⟨#[]⟩ : ByteArray), .int .i64 0, .string (⟨#[]⟩ : ByteArray)], .slice Ao9 x3_1.length co9] rfl Z3 ?_; (with_reducible refine (aj.calls k1 5 0 (⟨#[]⟩ : ByteArray) 0 (⟨#[]⟩ : ByteArray) _ _ x3_1 t458 _ ?side1 ?side2 A6.out).mono ?_); (case side1 => repeat (first | exact (Kd.iY HO_3.out).2.2 | (with_reducible refine Kd.C_alloc ?_ _) | (with_reducible refine Kd.C_drewN ?_ _) | (with_reducible refine Kd.C_drew ?_))); (case side2 => exact (Kd.iY HO_3.out).2.1); rintro e w10 ⟨v459, rfl, ho0, hb⟩; refine ⟨_, rfl, ?_⟩; have n0_ := Aside0.mk (Kd.lS Z51 (Kd.dH ho0) hb); have n1_ := Aside0.mk (Kd.R_lower ho0 (aH (w := w) (g := g) (row := none) Z1)); have n2_ := Aside0.mk (ah.below Z0 hb); have n3_ := Aside0.mk (af.trans Z1 (af.of_below hb g none) (.inl rfl)); have n4_ := Aside0.mk (below_step Z2 hb); clear HO_3; clear HI0; clear HK; clear HB; have HO_3 := n0_; have HO460 := n1_; have HI0 := n2_; have HK := n3_; have HB := n4_; clear n0_ n1_ n2_ n3_ n4_; (try clear hb); (try clear ho0)))
    go_ret
    exact ⟨_, Z5, by (with_reducible repeat (first | apply Kd.R_alloc | apply Kd.R_drewN | apply Kd.R_drew)); exact HO460.out, Z0, Z2, Z1⟩
   replace c4 := Bool.eq_false_iff.mpr c4
   subst c4
   rw [if_neg (show ¬ (false = true) by decide)] at H
   have H1 := H
   clear H
   have H := H1
   clear H1
   replace H := Option.bind_eq_some_iff.mp H
   obtain ⟨⟨t461, t462, t463⟩, A110, H⟩ := H
   try dsimp only at H
   have A11 := Aside0.mk A110
   clear A110
   by_cases c12 : t461.toList = ([125] : List UInt8)
   ·rw [if_pos c12] at H
    have c12b0 : (t461.toList == ([125] : List UInt8)) = true := beq_iff_eq.mpr c12
    have c12b1 : (t461.toList != ([125] : List UInt8)) = false := bne_eq_false_iff_eq.mpr c12
    clear c12
    replace H := Option.bind_eq_some_iff.mp H
    obtain ⟨⟨t464, t465⟩, A130, H⟩ := H
    replace H : ((aj.f k1 5 0 (⟨#[]⟩ : ByteArray) 0 (⟨#[]⟩ : ByteArray) x3_1).bind fun t466 => (some (t466, t464, t465))) = some (r1, r2, r3) := H
    have A13 := Aside0.mk A130
    clear A130
    replace H := Option.bind_eq_some_iff.mp H
    obtain ⟨t466, A140, H⟩ := H
    replace H : (some (t466, t464, t465)) = some (r1, r2, r3) := H
    have A14 := Aside0.mk A140
    clear A140
    simp only [Option.some.injEq, Prod.mk.injEq] at H
    obtain ⟨rfl, rfl, rfl⟩ := H
    obtain ⟨ASz15_0, cSz15_0, HGz15, hgz15, HSz15_0⟩ := HI0.out
    have hcz15_0 := df HGz15
    have hcz15_1 := cZ HGz15
    have hcz15_2 := cO HGz15
    have hfz15_1 := ae HGz15 1
    have hfz15_2 := ae HGz15 2
    clear HGz15 hgz15
    go_wp2_with (first | (go_at_call 71; (with_reducible refine (aV.calls g s0_0 x1001_1 false t461 t462 t463 w0 _ ?side1 ?side2 A11.out).mono ?_); (case side1 => exact Z0); (case side2 => exact Z2); rintro e w16 ⟨rfl, hi, hb, hk⟩; have n0_ := Aside0.mk (Kd.dV (Kd.iT (ah.fJ (show ah w0 _ g s0_0 x1001_1 false from Z0) Z51 (by decide)) hk (fun _ h => h.2)) (fun _ h => h.1)); have n1_ := Aside0.mk (af.trans Z1 hk (.inl rfl)); have n2_ := Aside0.mk (hb); have n3_ := Aside0.mk (hi); clear HO_3; clear HK; clear HB; clear HI0; have HO_3 := n0_; have HK := n1_; have HB := n2_; have HI0 := n3_; clear n0_ n1_ n2_ n3_; (try clear hb)) | ((with_reducible refine gate_callee (f := 51) rfl ?_); refine goesL_ (some 22) rfl rfl Try.func51 (by kernel_rfl) rfl #[.pointer (some ⟨g, 0, none⟩), .string (⟨#[125]⟩ : ByteArray)] rfl Z3 ?_; (with_reducible refine (ak.calls g s0_0 t462 t463 (⟨#[125]⟩ : ByteArray) t464 t465 w0 _ ?side1 ?side2 A13.out).mono ?_); (case side1 => exact Z0); (case side2 => exact Z2); rintro e w17 ⟨rfl, hi, hb, hk⟩; refine ⟨_, rfl, ?_⟩; have n0_ := Aside0.mk (Kd.dV (Kd.iT (ah.fJ (show ah w0 _ g s0_0 t462 t463 from Z0) Z51 (by decide)) hk (fun _ h => h.2)) (fun _ h => h.1)); have n1_ := Aside0.mk (af.trans Z1 hk (.inl rfl)); have n2_ := Aside0.mk (hb); have n3_ := Aside0.mk (hi); clear HO_3; clear HK; clear HB; clear HI0; have HO_3 := n0_; have HK := n1_; have HB := n2_; have HI0 := n3_; clear n0_ n1_ n2_ n3_; (try clear hb); obtain ⟨Ao18, co18, eo18⟩ := Kd.jT HO_3.out; subst eo18) | ((with_reducible refine gate_callee (f := 56) rfl ?_); refine goesL_ (some 25) rfl rfl Try.func56 (by kernel_rfl) rfl #[.agg #[.int .i64 5, .int .i64 0, .string (⟨#[]⟩ : ByteArray), .int .i64 0, .string (⟨#[]⟩ : ByteArray)], .slice Ao18 x3_1.length co18] rfl Z3 ?_; (with_reducible refine (aj.calls k1 5 0 (⟨#[]⟩ : ByteArray) 0 (⟨#[]⟩ : ByteArray) _ _ x3_1 t466 _ ?side1 ?side2 A14.out).mono ?_); (case side1 => repeat (first | exact (Kd.iY HO_3.out).2.2 | (with_reducible refine Kd.C_alloc ?_ _) | (with_reducible refine Kd.C_drewN ?_ _) | (with_reducible refine Kd.C_drew ?_))); (case side2 => exact (Kd.iY HO_3.out).2.1); rintro e w19 ⟨v467, rfl, ho0, hb⟩; refine ⟨_, rfl, ?_⟩; have n0_ := Aside0.mk (Kd.lS Z51 (Kd.dH ho0) hb); have n1_ := Aside0.mk (Kd.R_lower ho0 (aH (w := w) (g := g) (row := none) Z1)); have n2_ := Aside0.mk (ah.below Z0 hb); have n3_ := Aside0.mk (af.trans Z1 (af.of_below hb g none) (.inl rfl)); have n4_ := Aside0.mk (below_step Z2 hb); clear HO_3; clear HI0; clear HK; clear HB; have HO_3 := n0_; have HO468 := n1_; have HI0 := n2_; have HK := n3_; have HB := n4_; clear n0_ n1_ n2_ n3_ n4_; (try clear hb); (try clear ho0)))
    go_ret
    exact ⟨_, Z5, by (with_reducible repeat (first | apply Kd.R_alloc | apply Kd.R_drewN | apply Kd.R_drew)); exact HO468.out, Z0, Z2, Z1⟩
   rw [if_neg c12] at H
   have c12b0 : (t461.toList == ([125] : List UInt8)) = false := beq_eq_false_iff_ne.mpr c12
   have c12b1 : (t461.toList != ([125] : List UInt8)) = true := bne_iff_ne.mpr c12
   replace H := Option.bind_eq_some_iff.mp H
   obtain ⟨⟨t469, t472, t473⟩, A200, H⟩ := H
   replace H : (if x3_1.length < 5864062014805 then (aT.l0 F k1 (x3_1 ++ [t469]) s0_0 t472 t473) else (none)) = some (r1, r2, r3) := H
   have A20 := Aside0.mk A200
   clear A200
   by_cases c21 : x3_1.length < 5864062014805
   ·rw [if_pos c21] at H
    have LMc21 := Aside0.mk c21
    clear c21
    obtain ⟨y474, hy474⟩ : ∃ y_ : List (List (S41)), y_ = (x3_1 ++ [t469]) := ⟨_, rfl⟩
    replace H : (aT.l0 F k1 y474 s0_0 t472 t473) = some (r1, r2, r3) := by first | (rw [hy474]; with_reducible exact H) | (have H2_ := (Option.bind_some _ _).symm.trans H; rw [hy474]; with_reducible exact H2_) | (have H2_ := (Option.bind_some _ _).symm.trans H; with_reducible exact H2_) | with_reducible exact H | (rw [hy474]; exact H) | exact H
    have Ny474 := Aside0.mk hy474
    clear hy474
    have H' := Aside0.mk H
    clear H
    obtain ⟨ASz22_0, cSz22_0, HGz22, hgz22, HSz22_0⟩ := HI0.out
    have hcz22_0 := df HGz22
    have hcz22_1 := cZ HGz22
    have hcz22_2 := cO HGz22
    have hfz22_1 := ae HGz22 1
    have hfz22_2 := ae HGz22 2
    clear HGz22 hgz22
    go_wp2_with (first | (go_at_call 71; (with_reducible refine (aV.calls g s0_0 x1001_1 false t461 t462 t463 w0 _ ?side1 ?side2 A11.out).mono ?_); (case side1 => exact Z0); (case side2 => exact Z2); rintro e w23 ⟨rfl, hi, hb, hk⟩; have n0_ := Aside0.mk (Kd.dV (Kd.iT (ah.fJ (show ah w0 _ g s0_0 x1001_1 false from Z0) Z51 (by decide)) hk (fun _ h => h.2)) (fun _ h => h.1)); have n1_ := Aside0.mk (af.trans Z1 hk (.inl rfl)); have n2_ := Aside0.mk (hb); have n3_ := Aside0.mk (hi); clear HO_3; clear HK; clear HB; clear HI0; have HO_3 := n0_; have HK := n1_; have HB := n2_; have HI0 := n3_; clear n0_ n1_ n2_ n3_; (try clear hb)) | ((with_reducible refine gate_callee (f := 75) rfl ?_); refine goesL_ (some 18) rfl rfl Try.func75 (by kernel_rfl) rfl #[.pointer (some ⟨g, 0, none⟩)] rfl Z3 ?_; (with_reducible refine (aI.calls F HF k1 g s0_0 t462 t463 t469 t472 t473 w0 _ ?side1 ?side2 A20.out).mono ?_); (case side1 => exact Z0); (case side2 => exact Z2); rintro e w24 ⟨v470, rfl, ho0, hi, hb, hk⟩; refine ⟨_, rfl, ?_⟩; have n0_ := Aside0.mk (Kd.dV (Kd.lN (Kd.lQ (ah.fJ (show ah w0 _ g s0_0 t462 t463 from Z0) Z51 (by decide)) hk) (Kd.dH ho0)) (fun _ h_ => h_.1)); have n1_ := Aside0.mk (Kd.R_lower ho0 (aH (w := w) (g := g) (row := none) Z1)); have n2_ := Aside0.mk (af.trans Z1 hk (.inl rfl)); have n3_ := Aside0.mk (hb); have n4_ := Aside0.mk (hi); clear HO_3; clear HK; clear HB; clear HI0; have HO_3 := n0_; have HO471 := n1_; have HK := n2_; have HB := n3_; have HI0 := n4_; clear n0_ n1_ n2_ n3_ n4_; (try clear hb); (try clear ho0); obtain ⟨Ao26, co26, eo26⟩ := Kd.R_slice HO471.out; subst eo26) | ((with_reducible refine dD (b := .append) (xs := #[.tmp 16, .tmp 19]) rfl ?_); at_builtin; refine Kd.kE (Kd.slice 41 k41) w.heap.size rfl (.tmp 16) (.tmp 19) 78 23 (.slice none 0 0) 24 rfl Try.underlying78 info23 rfl (by decide) (by omega) u3 x3_1 t469 [.slice Ao26 t469.length co26] (fun _ => True) (fun k_ => some k_ = (.slice Ao26 t469.length co26 : Value).ownBlock) rfl rfl ?aP (fun k_ hk_ => ((Kd.bi (ok' := fun k_ => ((fun _ => True)) k_ ∧ some k_ ≠ (u3 : Value).ownBlock) (Kd.dJ (HO471.out) (Kd.gI HO_3.out) (by decide)) (fun k_ hk => ⟨trivial, hk.2⟩))).1 k_ hk_.symm) ?aF ?aO (Below.refl _ _) ?aS ?aL ?_; (case aP => exact Kd.oL (Kd.bi (Kd.jU rfl (Kd.bi (ok' := fun k_ => ((fun _ => True)) k_ ∧ some k_ ≠ (u3 : Value).ownBlock) (Kd.dJ (HO471.out) (Kd.gI HO_3.out) (by decide)) (fun k_ hk => ⟨trivial, hk.2⟩))) (fun _ h_ => h_))); (case aF => exact (fun _ _ => trivial)); (case aO => exact (by (with_reducible repeat (first | apply Kd.fP | apply Kd.fO | apply Kd.iw)); exact Kd.dV HO_3.out (fun k_ hk => ⟨trivial, fun e_ => hk.2 e_⟩))); (case aS => exact (aH (w := w) (g := g) (row := none) Z1)); (case aL => have := LMc21.out; omega); intro v475 w25 ho hb hg hat; rw [← Ny474.out] at ho; have n0_ := Aside0.mk (ah.grown Z0 hg (ah.kN HI0.out HO_3.out (by decide))); have n1_ := Aside0.mk (dW Z2 HL.out hb); have n2_ := Aside0.mk (af.trans Z1 (af.gp hg g) (Kd.kQ HO_3.out)); have n3_ := Aside0.mk (ho); clear HI0; clear HB; clear HK; clear HO_3; clear HO471; have HI0 := n0_; have HB := n1_; have HK := n2_; have HO476 := n3_; clear n0_ n1_ n2_ n3_; clear ho hb hg hat))
    go_roundg k1
    case measure => have := HK1.out; omega
    case rel => exact ⟨(y474), (t472), (t473), H', ⟨by have := HK1.out; omega⟩, ⟨by (with_reducible repeat (first | apply Kd.fP | apply Kd.fO | apply Kd.iw)); exact HO476.out⟩, ⟨Z0⟩, ⟨Z1⟩, ⟨Z2⟩⟩
   rw [if_neg c21] at H
   exact absurd H (by simp)
/-! ### bI: function 73 -/
def bI.f (k : Nat) (s0_0 : List (S38)) (s0_1 : Int) (s0_2 : Bool) : Option ((List (S41)) × Int × Bool) := (aX.f s0_0 s0_1 s0_2 1).bind fun bt477 => ((aj.f k 4 0 bt477.2.1 0 (⟨#[]⟩ : ByteArray) ([] : List (List (S41)))).bind fun t483 => (some (t483, bt477.2.2.2.2.1, bt477.2.2.2.2.2)))
theorem bI.mono : ∀ a0 a1 a2 k, LeO (bI.f k a0 a1 a2) (bI.f (k + 1) a0 a1 a2) := by
 intro a0 a1 a2 k
 unfold bI.f
 repeat' first
  | (with_reducible exact aj.mono _ _ _ _ _ _ _)
  | (with_reducible exact LeO.refl _)
  | (with_reducible exact LeO.none _)
  | (with_reducible refine LeO.ite ?_ ?_)
  | (with_reducible refine LeO.bind ?_ (fun _ => ?_))
  | exact aj.mono _ _ _ _ _ _ _
  | exact LeO.none _
  | refine LeO.ite ?_ ?_
  | refine LeO.bind ?_ (fun _ => ?_)
set_option maxHeartbeats 8000000 in
set_option maxRecDepth 100000 in
theorem bI.calls (k : Nat) (g : Nat) (s0_0 : List (S38)) (s0_1 : Int) (s0_2 : Bool) (r1 : List (S41)) (r2 : Int) (r3 : Bool) (w0 w : World) (hI : ah w0 w g s0_0 s0_1 s0_2) (hB : Below w0.heap.size w0 w) (h : bI.f k s0_0 s0_1 s0_2 = some (r1, r2, r3)) :
 Calls Try.prog 73 #[.pointer (some ⟨g, 0, none⟩)] w fun e w' => ∃ v0_ : Value, e = .returned (v0_) ∧ Kd.R k41 41 w' w.heap.size (fun _ => True) v0_ r1 ∧ ah w0 w' g s0_0 r2 r3 ∧ Below w0.heap.size w0 w' ∧ af w w' g none := by
 have hu41 := Try.underlying41
 have HI0 := Aside0.mk hI
 have HK := Aside0.mk (af.refl w g none)
 have HL := Aside0.mk hB.size
 clear hI
 have HW0 := Aside0.mk hB.size
 have HB := Aside0.mk hB
 clear hB
 have H : ((aX.f s0_0 s0_1 s0_2 1).bind fun bt477 => ((aj.f k 4 0 bt477.2.1 0 (⟨#[]⟩ : ByteArray) ([] : List (List (S41)))).bind fun t483 => (some (t483, bt477.2.2.2.2.1, bt477.2.2.2.2.2)))) = some (r1, r2, r3) := h
 clear h
 replace H := Option.bind_eq_some_iff.mp H
 obtain ⟨⟨t477, t478, t479, t480, t481, t482⟩, A20, H⟩ := H
 replace H : ((aj.f k 4 0 t478 0 (⟨#[]⟩ : ByteArray) ([] : List (List (S41)))).bind fun t483 => (some (t483, t481, t482))) = some (r1, r2, r3) := H
 have A2 := Aside0.mk A20
 clear A20
 replace H := Option.bind_eq_some_iff.mp H
 obtain ⟨t483, A30, H⟩ := H
 replace H : (some (t483, t481, t482)) = some (r1, r2, r3) := H
 have A3 := Aside0.mk A30
 clear A30
 simp only [Option.some.injEq, Prod.mk.injEq] at H
 obtain ⟨rfl, rfl, rfl⟩ := H
 go_enter Try.func73, Try.ntmps73
 go_wp2_with (first | ((with_reducible refine gate_callee (f := 52) rfl ?_); refine goesL_ (some 4) rfl rfl Try.func52 (by kernel_rfl) rfl #[.pointer (some ⟨g, 0, none⟩), .int .i64 1] rfl Z3 ?_; (with_reducible refine (aX.calls g s0_0 s0_1 s0_2 1 t477 t478 t479 t480 t481 t482 w0 _ ?side1 ?side2 A2.out).mono ?_); (case side1 => exact Z0); (case side2 => exact Z2); rintro e w4 ⟨rfl, hi, hb, hk⟩; refine ⟨_, rfl, ?_⟩; have n0_ := Aside0.mk (af.trans Z1 hk (.inl rfl)); have n1_ := Aside0.mk (hb); have n2_ := Aside0.mk (hi); clear HK; clear HB; clear HI0; have HK := n0_; have HB := n1_; have HI0 := n2_; clear n0_ n1_ n2_; (try clear hb)) | ((with_reducible refine gate_callee (f := 56) rfl ?_); refine goesL_ (some 7) rfl rfl Try.func56 (by kernel_rfl) rfl #[.agg #[.int .i64 4, .int .i64 0, .string t478, .int .i64 0, .string (⟨#[]⟩ : ByteArray)], .slice none 0 0] rfl Z3 ?_; (refine (aj.calls k 4 0 t478 0 (⟨#[]⟩ : ByteArray) _ _ ([] : List (List (S41))) t483 _ ?side1 ?side2 A3.out).mono ?_); (case side1 => exact Kd.mP _ _); (case side2 => exact Nat.le_refl _); rintro e w5 ⟨v484, rfl, ho0, hb⟩; refine ⟨_, rfl, ?_⟩; have n0_ := Aside0.mk (Kd.R_lower ho0 (aH (w := w) (g := g) (row := none) Z1)); have n1_ := Aside0.mk (ah.below Z0 hb); have n2_ := Aside0.mk (af.trans Z1 (af.of_below hb g none) (.inl rfl)); have n3_ := Aside0.mk (below_step Z2 hb); clear HI0; clear HK; clear HB; have HO485 := n0_; have HI0 := n1_; have HK := n2_; have HB := n3_; clear n0_ n1_ n2_ n3_; (try clear hb); (try clear ho0)))
 go_ret
 exact ⟨_, Z5, by (with_reducible repeat (first | apply Kd.R_alloc | apply Kd.R_drewN | apply Kd.R_drew)); exact HO485.out, Z0, Z2, Z1⟩
end Go.Proofs.Ytendgafpkeadhaa.Q
end
section
namespace Go.Proofs.Ytendgafpkeadhaa.Q
open Go.RowKit Go.Proofs.YtendgafpkeadhaaW.PrintWords Go.Proofs.YtendgafpkeadhaaW.PrintLast Go.Proofs.YtendgafpkeadhaaW.PrintMore
attribute [local go_sem] ik ig gZ gY max2_int min2_int max_two min_two max_three min_three max_four min_four
set_option linter.unusedVariables false
set_option linter.unusedSimpArgs false
/-! ### dB: function 90 -/
mutual
def dB.l0 : Nat → List (List (S41)) → List (S38) → Int → Bool → Option ((List (List (S41))) × Int × Bool)
 | 0, _, _, _, _ => none
 | k + 1, x5, x1000, x1001, x1002 => if x1002 = true then (dB.j1 k x5 false x1000 x1001 x1002) else ((aV.f x1000 x1001 x1002).bind fun bt488 => (dB.j1 k x5 (bt488.1.toList != ([41] : List UInt8)) x1000 bt488.2.1 bt488.2.2))
def dB.j1 : Nat → List (List (S41)) → Bool → List (S38) → Int → Bool → Option ((List (List (S41))) × Int × Bool)
 | 0, _, _, _, _, _ => none
 | k + 1, x5, x17, x1000, x1001, x1002 => if x17 = true then (if (x5.length : Int) > 0 then ((ak.f x1000 x1001 x1002 (⟨#[44]⟩ : ByteArray)).bind fun bt493 => ((bI.f k x1000 bt493.1 bt493.2).bind fun bt495 => (if x5.length < 5864062014805 then (dB.l0 k (x5 ++ [bt495.1]) x1000 bt495.2.1 bt495.2.2) else (none)))) else ((bI.f k x1000 x1001 x1002).bind fun bt503 => (if x5.length < 5864062014805 then (dB.l0 k (x5 ++ [bt503.1]) x1000 bt503.2.1 bt503.2.2) else (none)))) else ((ak.f x1000 x1001 x1002 (⟨#[41]⟩ : ByteArray)).bind fun bt491 => (some (x5, bt491.1, bt491.2)))
end
def dB.f (k : Nat) (s0_0 : List (S38)) (s0_1 : Int) (s0_2 : Bool) : Option ((List (List (S41))) × Int × Bool) := (ak.f s0_0 s0_1 s0_2 (⟨#[40]⟩ : ByteArray)).bind fun bt486 => (dB.l0 k ([] : List (List (S41))) s0_0 bt486.1 bt486.2)
theorem dB.mono_l : ∀ k, (∀ y0 y1 y2 y3, LeO (dB.l0 k y0 y1 y2 y3) (dB.l0 (k + 1) y0 y1 y2 y3)) ∧ (∀ y0 y1 y2 y3 y4, LeO (dB.j1 k y0 y1 y2 y3 y4) (dB.j1 (k + 1) y0 y1 y2 y3 y4))
 | 0 => ⟨fun _ _ _ _ r h => by simp [dB.l0] at h, fun _ _ _ _ _ r h => by simp [dB.j1] at h⟩
 | k + 1 => by
  obtain ⟨ih0, ih1⟩ := dB.mono_l k
  refine ⟨?_, ?_⟩
  ·intro y0 y1 y2 y3
   unfold dB.l0
   repeat' first
   | (with_reducible exact ih0 _ _ _ _)
   | (with_reducible exact ih1 _ _ _ _ _)
   | (with_reducible exact bI.mono _ _ _ _)
   | (with_reducible exact LeO.refl _)
   | (with_reducible exact LeO.none _)
   | (with_reducible refine LeO.ite ?_ ?_)
   | (with_reducible refine LeO.bind ?_ (fun _ => ?_))
   | exact ih0 _ _ _ _
   | exact ih1 _ _ _ _ _
   | exact bI.mono _ _ _ _
   | exact LeO.none _
   | refine LeO.ite ?_ ?_
   | refine LeO.bind ?_ (fun _ => ?_)
  intro y0 y1 y2 y3 y4
  unfold dB.j1
  repeat' first
  | (with_reducible exact ih0 _ _ _ _)
  | (with_reducible exact ih1 _ _ _ _ _)
  | (with_reducible exact bI.mono _ _ _ _)
  | (with_reducible exact LeO.refl _)
  | (with_reducible exact LeO.none _)
  | (with_reducible refine LeO.ite ?_ ?_)
  | (with_reducible refine LeO.bind ?_ (fun _ => ?_))
  | exact ih0 _ _ _ _
  | exact ih1 _ _ _ _ _
  | exact bI.mono _ _ _ _
  | exact LeO.none _
  | refine LeO.ite ?_ ?_
  | refine LeO.bind ?_ (fun _ => ?_)
theorem dB.mono : ∀ a0 a1 a2 k, LeO (dB.f k a0 a1 a2) (dB.f (k + 1) a0 a1 a2) := by
 intro a0 a1 a2 k
 obtain ⟨ih0, ih1⟩ := dB.mono_l k
 unfold dB.f
 repeat' first
  | (with_reducible exact ih0 _ _ _ _)
  | (with_reducible exact ih1 _ _ _ _ _)
  | (with_reducible exact bI.mono _ _ _ _)
  | (with_reducible exact LeO.refl _)
  | (with_reducible exact LeO.none _)
  | (with_reducible refine LeO.ite ?_ ?_)
  | (with_reducible refine LeO.bind ?_ (fun _ => ?_))
  | exact ih0 _ _ _ _
  | exact ih1 _ _ _ _ _
  | exact bI.mono _ _ _ _
  | exact LeO.none _
  | refine LeO.ite ?_ ?_
  | refine LeO.bind ?_ (fun _ => ?_)
set_option maxHeartbeats 8000000 in
set_option maxRecDepth 100000 in
theorem dB.calls (k : Nat) (g : Nat) (s0_0 : List (S38)) (s0_1 : Int) (s0_2 : Bool) (r1 : List (List (S41))) (r2 : Int) (r3 : Bool) (w0 w : World) (hI : ah w0 w g s0_0 s0_1 s0_2) (hB : Below w0.heap.size w0 w) (h : dB.f k s0_0 s0_1 s0_2 = some (r1, r2, r3)) :
 Calls Try.prog 72 #[.pointer (some ⟨g, 0, none⟩), .func (.func 73) #[.pointer (some ⟨g, 0, none⟩)] #[]] w fun e w' => ∃ v0_ : Value, e = .returned (v0_) ∧ Kd.S (Kd.slice 41 k41) 23 w' w.heap.size (fun _ => True) v0_ r1 ∧ ah w0 w' g s0_0 r2 r3 ∧ Below w0.heap.size w0 w' ∧ af w w' g none := by
 have HI0 := Aside0.mk hI
 have HK := Aside0.mk (af.refl w g none)
 have HL := Aside0.mk hB.size
 clear hI
 have HW0 := Aside0.mk hB.size
 have HB := Aside0.mk hB
 clear hB
 have H : ((ak.f s0_0 s0_1 s0_2 (⟨#[40]⟩ : ByteArray)).bind fun bt486 => (dB.l0 k ([] : List (List (S41))) s0_0 bt486.1 bt486.2)) = some (r1, r2, r3) := h
 clear h
 replace H := Option.bind_eq_some_iff.mp H
 obtain ⟨⟨t486, t487⟩, A20, H⟩ := H
 replace H : (dB.l0 k ([] : List (List (S41))) s0_0 t486 t487) = some (r1, r2, r3) := H
 have A2 := Aside0.mk A20
 clear A20
 have H' := Aside0.mk H
 clear H
 go_enter Try.func72, Try.ntmps72
 go_wp2_with (first | ((with_reducible refine gate_callee (f := 51) rfl ?_); refine goesL_ (some 7) rfl rfl Try.func51 (by kernel_rfl) rfl #[.pointer (some ⟨g, 0, none⟩), .string (⟨#[40]⟩ : ByteArray)] rfl Z3 ?_; (with_reducible refine (ak.calls g s0_0 s0_1 s0_2 (⟨#[40]⟩ : ByteArray) t486 t487 w0 _ ?side1 ?side2 A2.out).mono ?_); (case side1 => exact Z0); (case side2 => exact Z2); rintro e w3 ⟨rfl, hi, hb, hk⟩; refine ⟨_, rfl, ?_⟩; have n0_ := Aside0.mk (af.trans Z1 hk (.inl rfl)); have n1_ := Aside0.mk (hb); have n2_ := Aside0.mk (hi); clear HK; clear HB; clear HI0; have HK := n0_; have HB := n1_; have HI0 := n2_; clear n0_ n1_ n2_; (try clear hb)))
 (try simp only [Act.put, List.setIfInBounds_toArray, List.set_cons_zero, List.set_cons_succ])
 go_loopg [5] k (fun kq v5 w' => ∃ (x5_1 : List (List (S41))) (x1001_1 : Int) (x1002_1 : Bool), Aside0 (dB.l0 kq x5_1 s0_0 x1001_1 x1002_1 = some (r1, r2, r3)) ∧ Aside0 (kq ≤ k) ∧ Aside0 (Kd.S (Kd.slice 41 k41) 23 w' w.heap.size (fun _ => True) v5 x5_1) ∧ Aside0 (ah w0 w' g s0_0 x1001_1 x1002_1) ∧ Aside0 (af w w' g none) ∧ Aside0 (Below w0.heap.size w0 w'))
 case atStart => exact ⟨(([] : List (List (S41)))), (t486), (t487), H', ⟨Nat.le_refl _⟩, ⟨Z58⟩, ⟨Z0⟩, ⟨Z1⟩, ⟨Z2⟩⟩
 case round =>
  clear H'
  try clear p2
  obtain ⟨x5_1, x1001_1, x1002_1, HA, HK1, HO_5, HI0, HK, HB⟩ := hrel
  cases gk with
  | zero => exact absurd HA.out (by simp [dB.l0])
  | succ k1 =>
   have H := HA.out
   clear HA
   simp only [dB.l0] at H
   have HC4 := Aside0.mk H
   clear H
   go_upto_region 3 with (fail)
   go_cut [17] (fun v17 wc => ∃ (kq : Nat) (x17_3 : Bool) (x1001_3 : Int) (x1002_3 : Bool), v17 = .bool x17_3 ∧ Aside0 (dB.j1 kq x5_1 x17_3 s0_0 x1001_3 x1002_3 = some (r1, r2, r3)) ∧ Aside0 (kq ≤ k1) ∧ Aside0 (Kd.S (Kd.slice 41 k41) 23 wc w.heap.size (fun _ => True) u5 x5_1) ∧ Aside0 (ah w0 wc g s0_0 x1001_3 x1002_3) ∧ Aside0 (af w wc g none) ∧ Aside0 (Below w0.heap.size w0 wc))
   case first =>
    have H := HC4.out
    clear HC4
    by_cases c5 : x1002_1 = true
    ·subst c5
     have H1 : (dB.j1 k1 x5_1 false s0_0 x1001_1 true) = some (r1, r2, r3) := by rw [if_pos rfl] at H; exact H
     clear H
     have H := H1
     clear H1
     have H' := Aside0.mk H
     clear H
     obtain ⟨ASz6_0, cSz6_0, HGz6, hgz6, HSz6_0⟩ := HI0.out
     have hcz6_0 := df HGz6
     have hcz6_1 := cZ HGz6
     have hcz6_2 := cO HGz6
     have hfz6_1 := ae HGz6 1
     have hfz6_2 := ae HGz6 2
     clear HGz6 hgz6
     go_wp2
     go_meet
     case rel => exact ⟨_, (false), (x1001_1), (true), Z7, H', ⟨by have := HK1.out; first | omega | exact Nat.le_refl _⟩, ⟨Z24⟩, ⟨Z0⟩, ⟨Z1⟩, ⟨Z2⟩⟩
    replace c5 := Bool.eq_false_iff.mpr c5
    subst c5
    rw [if_neg (show ¬ (false = true) by decide)] at H
    have H1 := H
    clear H
    have H := H1
    clear H1
    replace H := Option.bind_eq_some_iff.mp H
    obtain ⟨⟨t488, t489, t490⟩, A70, H⟩ := H
    replace H : (dB.j1 k1 x5_1 (t488.toList != ([41] : List UInt8)) s0_0 t489 t490) = some (r1, r2, r3) := H
    have A7 := Aside0.mk A70
    clear A70
    have H' := Aside0.mk H
    clear H
    obtain ⟨ASz8_0, cSz8_0, HGz8, hgz8, HSz8_0⟩ := HI0.out
    have hcz8_0 := df HGz8
    have hcz8_1 := cZ HGz8
    have hcz8_2 := cO HGz8
    have hfz8_1 := ae HGz8 1
    have hfz8_2 := ae HGz8 2
    clear HGz8 hgz8
    go_wp2_with (first | (go_at_call 71; (with_reducible refine (aV.calls g s0_0 x1001_1 false t488 t489 t490 w0 _ ?side1 ?side2 A7.out).mono ?_); (case side1 => exact Z0); (case side2 => exact Z2); rintro e w9 ⟨rfl, hi, hb, hk⟩; have n0_ := Aside0.mk (Kd.dV (Kd.iT (ah.fJ (show ah w0 _ g s0_0 x1001_1 false from Z0) Z24 (by decide)) hk (fun _ h => h.2)) (fun _ h => h.1)); have n1_ := Aside0.mk (af.trans Z1 hk (.inl rfl)); have n2_ := Aside0.mk (hb); have n3_ := Aside0.mk (hi); clear HO_5; clear HK; clear HB; clear HI0; have HO_5 := n0_; have HK := n1_; have HB := n2_; have HI0 := n3_; clear n0_ n1_ n2_ n3_; (try clear hb)))
    go_meet
    case rel => exact ⟨_, ((t488.toList != ([41] : List UInt8))), (t489), (t490), Z7, H', ⟨by have := HK1.out; first | omega | exact Nat.le_refl _⟩, ⟨Z24⟩, ⟨Z0⟩, ⟨Z1⟩, ⟨Z2⟩⟩
   case rest =>
    clear HC4
    try clear p2
    try clear c5
    try clear c9
    try clear hcz6_0
    try clear hcz6_1
    try clear hcz6_2
    try clear hcz8_0
    try clear hcz8_1
    try clear hcz8_2
    try clear hfz6_1
    try clear hfz6_2
    try clear hfz8_1
    try clear hfz8_2
    try clear p2
    obtain ⟨kq, x17_3, x1001_3, x1002_3, rfl, HA, HJ3, HO_5, HI0, HK, HB⟩ := hcut
    cases kq with
    | zero => exact absurd HA.out (by simp [dB.j1])
    | succ kj3 =>
     have H := HA.out
     clear HA
     simp only [dB.j1] at H
     by_cases c10 : x17_3 = true
     ·subst c10
      rw [if_pos rfl] at H
      have H1 := H
      clear H
      have H := H1
      clear H1
      by_cases c11 : (x5_1.length : Int) > 0
      ·rw [if_pos c11] at H
       have c11b0 : decide (0 < (x5_1.length : Int)) = true := decide_eq_true c11
       have c11b1 : decide (0 < x5_1.length) = true := decide_eq_true (by omega)
       clear c11
       replace H := Option.bind_eq_some_iff.mp H
       obtain ⟨⟨t493, t494⟩, A120, H⟩ := H
       try dsimp only at H
       have A12 := Aside0.mk A120
       clear A120
       replace H := Option.bind_eq_some_iff.mp H
       obtain ⟨⟨t495, t498, t499⟩, A130, H⟩ := H
       replace H : (if x5_1.length < 5864062014805 then (dB.l0 kj3 (x5_1 ++ [t495]) s0_0 t498 t499) else (none)) = some (r1, r2, r3) := H
       have A13 := Aside0.mk A130
       clear A130
       by_cases c14 : x5_1.length < 5864062014805
       ·rw [if_pos c14] at H
        have LMc14 := Aside0.mk c14
        clear c14
        obtain ⟨y500, hy500⟩ : ∃ y_ : List (List (S41)), y_ = (x5_1 ++ [t495]) := ⟨_, rfl⟩
        replace H : (dB.l0 kj3 y500 s0_0 t498 t499) = some (r1, r2, r3) := by first | (rw [hy500]; with_reducible exact H) | (have H2_ := (Option.bind_some _ _).symm.trans H; rw [hy500]; with_reducible exact H2_) | (have H2_ := (Option.bind_some _ _).symm.trans H; with_reducible exact H2_) | with_reducible exact H | (rw [hy500]; exact H) | exact H
        have Ny500 := Aside0.mk hy500
        clear hy500
        have H' := Aside0.mk H
        clear H
        obtain ⟨Ao15, co15, eo15⟩ := Kd.jT HO_5.out
        subst eo15
        go_wp2_with (first | ((with_reducible refine gate_callee (f := 51) rfl ?_); refine goesL_ (some 22) rfl rfl Try.func51 (by kernel_rfl) rfl #[.pointer (some ⟨g, 0, none⟩), .string (⟨#[44]⟩ : ByteArray)] rfl Z3 ?_; (with_reducible refine (ak.calls g s0_0 x1001_3 x1002_3 (⟨#[44]⟩ : ByteArray) t493 t494 w0 _ ?side1 ?side2 A12.out).mono ?_); (case side1 => exact Z0); (case side2 => exact Z2); rintro e w16 ⟨rfl, hi, hb, hk⟩; refine ⟨_, rfl, ?_⟩; have n0_ := Aside0.mk (Kd.dV (Kd.iT (ah.fJ (show ah w0 _ g s0_0 x1001_3 x1002_3 from Z0) Z24 (by decide)) hk (fun _ h => h.2)) (fun _ h => h.1)); have n1_ := Aside0.mk (af.trans Z1 hk (.inl rfl)); have n2_ := Aside0.mk (hb); have n3_ := Aside0.mk (hi); clear HO_5; clear HK; clear HB; clear HI0; have HO_5 := n0_; have HK := n1_; have HB := n2_; have HI0 := n3_; clear n0_ n1_ n2_ n3_; (try clear hb)) | ((with_reducible refine (bI.calls kj3 g s0_0 t493 t494 t495 t498 t499 w0 _ ?side1 ?side2 A13.out).mono ?_); (case side1 => exact Z0); (case side2 => exact Z2); rintro e w17 ⟨v496, rfl, ho0, hi, hb, hk⟩; have n0_ := Aside0.mk (Kd.dV (Kd.lN (Kd.lQ (ah.fJ (show ah w0 _ g s0_0 t493 t494 from Z0) Z24 (by decide)) hk) (Kd.dH ho0)) (fun _ h_ => h_.1)); have n1_ := Aside0.mk (Kd.R_lower ho0 (aH (w := w) (g := g) (row := none) Z1)); have n2_ := Aside0.mk (af.trans Z1 hk (.inl rfl)); have n3_ := Aside0.mk (hb); have n4_ := Aside0.mk (hi); clear HO_5; clear HK; clear HB; clear HI0; have HO_5 := n0_; have HO497 := n1_; have HK := n2_; have HB := n3_; have HI0 := n4_; clear n0_ n1_ n2_ n3_ n4_; (try clear hb); (try clear ho0); obtain ⟨Ao19, co19, eo19⟩ := Kd.R_slice HO497.out; subst eo19) | ((with_reducible refine dD (b := .append) (xs := #[.tmp 23, .tmp 26]) rfl ?_); at_builtin; refine Kd.kE (Kd.slice 41 k41) w.heap.size rfl (.tmp 23) (.tmp 26) 78 23 (.slice none 0 0) 24 rfl Try.underlying78 info23 rfl (by decide) (by omega) (.slice Ao15 x5_1.length co15) x5_1 t495 [.slice Ao19 t495.length co19] (fun _ => True) (fun k_ => some k_ = (.slice Ao19 t495.length co19 : Value).ownBlock) rfl rfl ?aP (fun k_ hk_ => ((Kd.bi (ok' := fun k_ => ((fun _ => True)) k_ ∧ some k_ ≠ (.slice Ao15 x5_1.length co15 : Value).ownBlock) (Kd.dJ (HO497.out) (Kd.gI HO_5.out) (by decide)) (fun k_ hk => ⟨trivial, hk.2⟩))).1 k_ hk_.symm) ?aF ?aO (Below.refl _ _) ?aS ?aL ?_; (case aP => exact Kd.oL (Kd.bi (Kd.jU rfl (Kd.bi (ok' := fun k_ => ((fun _ => True)) k_ ∧ some k_ ≠ (.slice Ao15 x5_1.length co15 : Value).ownBlock) (Kd.dJ (HO497.out) (Kd.gI HO_5.out) (by decide)) (fun k_ hk => ⟨trivial, hk.2⟩))) (fun _ h_ => h_))); (case aF => exact (fun _ _ => trivial)); (case aO => exact Z55); (case aS => exact (aH (w := w) (g := g) (row := none) Z1)); (case aL => have := LMc14.out; omega); intro v501 w18 ho hb hg hat; rw [← Ny500.out] at ho; have n0_ := Aside0.mk (ah.grown Z0 hg (ah.kN HI0.out HO_5.out (by decide))); have n1_ := Aside0.mk (dW Z2 HL.out hb); have n2_ := Aside0.mk (af.trans Z1 (af.gp hg g) (Kd.kQ HO_5.out)); have n3_ := Aside0.mk (ho); clear HI0; clear HB; clear HK; clear HO_5; clear HO497; have HI0 := n0_; have HB := n1_; have HK := n2_; have HO502 := n3_; clear n0_ n1_ n2_ n3_; clear ho hb hg hat))
        go_roundg kj3
        case measure => have := HK1.out; have := HJ3.out; omega
        case rel => exact ⟨(y500), (t498), (t499), H', ⟨by have := HK1.out; have := HJ3.out; omega⟩, ⟨by (with_reducible repeat (first | apply Kd.fP | apply Kd.fO | apply Kd.iw)); exact HO502.out⟩, ⟨Z0⟩, ⟨Z1⟩, ⟨Z2⟩⟩
       rw [if_neg c14] at H
       exact absurd H (by simp)
      rw [if_neg c11] at H
      have c11b0 : decide (0 < (x5_1.length : Int)) = false := decide_eq_false c11
      have c11b1 : decide (0 < x5_1.length) = false := decide_eq_false (by omega)
      clear c11
      replace H := Option.bind_eq_some_iff.mp H
      obtain ⟨⟨t503, t506, t507⟩, A200, H⟩ := H
      replace H : (if x5_1.length < 5864062014805 then (dB.l0 kj3 (x5_1 ++ [t503]) s0_0 t506 t507) else (none)) = some (r1, r2, r3) := H
      have A20 := Aside0.mk A200
      clear A200
      by_cases c21 : x5_1.length < 5864062014805
      ·rw [if_pos c21] at H
       have LMc21 := Aside0.mk c21
       clear c21
       obtain ⟨y508, hy508⟩ : ∃ y_ : List (List (S41)), y_ = (x5_1 ++ [t503]) := ⟨_, rfl⟩
       replace H : (dB.l0 kj3 y508 s0_0 t506 t507) = some (r1, r2, r3) := by first | (rw [hy508]; with_reducible exact H) | (have H2_ := (Option.bind_some _ _).symm.trans H; rw [hy508]; with_reducible exact H2_) | (have H2_ := (Option.bind_some _ _).symm.trans H; with_reducible exact H2_) | with_reducible exact H | (rw [hy508]; exact H) | exact H
       have Ny508 := Aside0.mk hy508
       clear hy508
       have H' := Aside0.mk H
       clear H
       obtain ⟨Ao22, co22, eo22⟩ := Kd.jT HO_5.out
       subst eo22
       go_wp2_with (first | ((with_reducible refine (bI.calls kj3 g s0_0 x1001_3 x1002_3 t503 t506 t507 w0 _ ?side1 ?side2 A20.out).mono ?_); (case side1 => exact Z0); (case side2 => exact Z2); rintro e w23 ⟨v504, rfl, ho0, hi, hb, hk⟩; have n0_ := Aside0.mk (Kd.dV (Kd.lN (Kd.lQ (ah.fJ (show ah w0 _ g s0_0 x1001_3 x1002_3 from Z0) Z24 (by decide)) hk) (Kd.dH ho0)) (fun _ h_ => h_.1)); have n1_ := Aside0.mk (Kd.R_lower ho0 (aH (w := w) (g := g) (row := none) Z1)); have n2_ := Aside0.mk (af.trans Z1 hk (.inl rfl)); have n3_ := Aside0.mk (hb); have n4_ := Aside0.mk (hi); clear HO_5; clear HK; clear HB; clear HI0; have HO_5 := n0_; have HO505 := n1_; have HK := n2_; have HB := n3_; have HI0 := n4_; clear n0_ n1_ n2_ n3_ n4_; (try clear hb); (try clear ho0); obtain ⟨Ao25, co25, eo25⟩ := Kd.R_slice HO505.out; subst eo25) | ((with_reducible refine dD (b := .append) (xs := #[.tmp 23, .tmp 26]) rfl ?_); at_builtin; refine Kd.kE (Kd.slice 41 k41) w.heap.size rfl (.tmp 23) (.tmp 26) 78 23 (.slice none 0 0) 24 rfl Try.underlying78 info23 rfl (by decide) (by omega) (.slice Ao22 x5_1.length co22) x5_1 t503 [.slice Ao25 t503.length co25] (fun _ => True) (fun k_ => some k_ = (.slice Ao25 t503.length co25 : Value).ownBlock) rfl rfl ?aP (fun k_ hk_ => ((Kd.bi (ok' := fun k_ => ((fun _ => True)) k_ ∧ some k_ ≠ (.slice Ao22 x5_1.length co22 : Value).ownBlock) (Kd.dJ (HO505.out) (Kd.gI HO_5.out) (by decide)) (fun k_ hk => ⟨trivial, hk.2⟩))).1 k_ hk_.symm) ?aF ?aO (Below.refl _ _) ?aS ?aL ?_; (case aP => exact Kd.oL (Kd.bi (Kd.jU rfl (Kd.bi (ok' := fun k_ => ((fun _ => True)) k_ ∧ some k_ ≠ (.slice Ao22 x5_1.length co22 : Value).ownBlock) (Kd.dJ (HO505.out) (Kd.gI HO_5.out) (by decide)) (fun k_ hk => ⟨trivial, hk.2⟩))) (fun _ h_ => h_))); (case aF => exact (fun _ _ => trivial)); (case aO => exact Z55); (case aS => exact (aH (w := w) (g := g) (row := none) Z1)); (case aL => have := LMc21.out; omega); intro v509 w24 ho hb hg hat; rw [← Ny508.out] at ho; have n0_ := Aside0.mk (ah.grown Z0 hg (ah.kN HI0.out HO_5.out (by decide))); have n1_ := Aside0.mk (dW Z2 HL.out hb); have n2_ := Aside0.mk (af.trans Z1 (af.gp hg g) (Kd.kQ HO_5.out)); have n3_ := Aside0.mk (ho); clear HI0; clear HB; clear HK; clear HO_5; clear HO505; have HI0 := n0_; have HB := n1_; have HK := n2_; have HO510 := n3_; clear n0_ n1_ n2_ n3_; clear ho hb hg hat))
       go_roundg kj3
       case measure => have := HK1.out; have := HJ3.out; omega
       case rel => exact ⟨(y508), (t506), (t507), H', ⟨by have := HK1.out; have := HJ3.out; omega⟩, ⟨by (with_reducible repeat (first | apply Kd.fP | apply Kd.fO | apply Kd.iw)); exact HO510.out⟩, ⟨Z0⟩, ⟨Z1⟩, ⟨Z2⟩⟩
      rw [if_neg c21] at H
      exact absurd H (by simp)
     replace c10 := Bool.eq_false_iff.mpr c10
     subst c10
     have H1 : ((ak.f s0_0 x1001_3 x1002_3 (⟨#[41]⟩ : ByteArray)).bind fun bt491 => (some (x5_1, bt491.1, bt491.2))) = some (r1, r2, r3) := by rw [if_neg (show ¬ (false = true) by decide)] at H; exact H
     clear H
     have H := H1
     clear H1
     replace H := Option.bind_eq_some_iff.mp H
     obtain ⟨⟨t491, t492⟩, A260, H⟩ := H
     replace H : (some (x5_1, t491, t492)) = some (r1, r2, r3) := H
     have A26 := Aside0.mk A260
     clear A260
     simp only [Option.some.injEq, Prod.mk.injEq] at H
     obtain ⟨rfl, rfl, rfl⟩ := H
     go_wp2_with (first | ((with_reducible refine gate_callee (f := 51) rfl ?_); refine goesL_ (some 29) rfl rfl Try.func51 (by kernel_rfl) rfl #[.pointer (some ⟨g, 0, none⟩), .string (⟨#[41]⟩ : ByteArray)] rfl Z3 ?_; (with_reducible refine (ak.calls g s0_0 x1001_3 x1002_3 (⟨#[41]⟩ : ByteArray) t491 t492 w0 _ ?side1 ?side2 A26.out).mono ?_); (case side1 => exact Z0); (case side2 => exact Z2); rintro e w27 ⟨rfl, hi, hb, hk⟩; refine ⟨_, rfl, ?_⟩; have n0_ := Aside0.mk (Kd.dV (Kd.iT (ah.fJ (show ah w0 _ g s0_0 x1001_3 x1002_3 from Z0) Z24 (by decide)) hk (fun _ h => h.2)) (fun _ h => h.1)); have n1_ := Aside0.mk (af.trans Z1 hk (.inl rfl)); have n2_ := Aside0.mk (hb); have n3_ := Aside0.mk (hi); clear HO_5; clear HK; clear HB; clear HI0; have HO_5 := n0_; have HK := n1_; have HB := n2_; have HI0 := n3_; clear n0_ n1_ n2_ n3_; (try clear hb)))
     go_ret
     exact ⟨_, Z5, Z24, Z0, Z2, Z1⟩
end Go.Proofs.Ytendgafpkeadhaa.Q
end
section
namespace Go.Proofs.Ytendgafpkeadhaa.Q
open Go.RowKit Go.Proofs.YtendgafpkeadhaaW.PrintWords Go.Proofs.YtendgafpkeadhaaW.PrintLast Go.Proofs.YtendgafpkeadhaaW.PrintMore
attribute [local go_sem] ik ig gZ gY max2_int min2_int max_two min_two max_three min_three max_four min_four
set_option linter.unusedVariables false
set_option linter.unusedSimpArgs false
/-! ### aU: function 55 -/
def aU.f (F : Fam) (k : Nat) (s0_0 : List (S38)) (s0_1 : Int) (s0_2 : Bool) (a1_0 : Int) (a1_1 : Int) (a1_2 : ByteArray) (a1_3 : Int) (a1_4 : ByteArray) : Option ((List (S41)) × Int × Bool) := (dB.f k s0_0 s0_1 s0_2).bind fun bt512 => ((aT.f F k s0_0 bt512.2.1 bt512.2.2).bind fun bt517 => (if bt512.1.length < 5864062014805 then ((aj.f k a1_0 a1_1 a1_2 a1_3 a1_4 (bt512.1 ++ [bt517.1])).bind fun t525 => (some (t525, bt517.2.1, bt517.2.2))) else (none)))
theorem aU.mono {F F' : Fam} (HLE : iG F F') : ∀ a0 a1 a2 a3 a4 a5 a6 a7 k, LeO (aU.f F k a0 a1 a2 a3 a4 a5 a6 a7) (aU.f F' (k + 1) a0 a1 a2 a3 a4 a5 a6 a7) := by
 intro a0 a1 a2 a3 a4 a5 a6 a7 k
 unfold aU.f
 repeat' first
  | (with_reducible exact aj.mono _ _ _ _ _ _ _)
  | (with_reducible exact aT.mono HLE _ _ _ _)
  | (with_reducible exact dB.mono _ _ _ _)
  | (with_reducible exact LeO.refl _)
  | (with_reducible exact LeO.none _)
  | (with_reducible refine LeO.ite ?_ ?_)
  | (with_reducible refine LeO.bind ?_ (fun _ => ?_))
  | exact aj.mono _ _ _ _ _ _ _
  | exact aT.mono HLE _ _ _ _
  | exact dB.mono _ _ _ _
  | exact LeO.none _
  | refine LeO.ite ?_ ?_
  | refine LeO.bind ?_ (fun _ => ?_)
def aU.T2 : Bool × List (List Nat × List Nat) := (true, [([], []), ([], []), ([], []), ([2], [2]), ([3], [3]), ([1, 4, 3], [1, 4]), ([0, 5, 5], [0, 5]), ([6, 6, 0, 1, 2, 3, 4, 5, 6], [6])])
def aU.B2 : List Nat := [0, 0, 0, 4, 12, 30, 63, 127]
theorem aU.xM : jR .any (opsOf Try.f55 2) = aU.T2 := by kernel_rfl
theorem aU.sD : kJ aU.T2.2 aU.B2 = true := by kernel_rfl
set_option maxHeartbeats 8000000 in
set_option maxRecDepth 100000 in
theorem aU.calls (F : Fam) (HF : jL F) (k : Nat) (g : Nat) (s0_0 : List (S38)) (s0_1 : Int) (s0_2 : Bool) (a1_0 : Int) (a1_1 : Int) (a1_2 : ByteArray) (a1_3 : Int) (a1_4 : ByteArray) (r1 : List (S41)) (r2 : Int) (r3 : Bool) (w0 w : World) (hI : ah w0 w g s0_0 s0_1 s0_2) (hB : Below w0.heap.size w0 w) (h : aU.f F k s0_0 s0_1 s0_2 a1_0 a1_1 a1_2 a1_3 a1_4 = some (r1, r2, r3)) :
 Calls Try.prog 55 #[.pointer (some ⟨g, 0, none⟩), .agg #[.int .i64 a1_0, .int .i64 a1_1, .string a1_2, .int .i64 a1_3, .string a1_4]] w fun e w' => ∃ v0_ : Value, e = .returned (v0_) ∧ Kd.R k41 41 w' w.heap.size (fun _ => True) v0_ r1 ∧ ah w0 w' g s0_0 r2 r3 ∧ Below w0.heap.size w0 w' ∧ af w w' g none := by
 have hu41 := Try.underlying41
 have HI0 := Aside0.mk hI
 have HK := Aside0.mk (af.refl w g none)
 have HL := Aside0.mk hB.size
 clear hI
 have HW0 := Aside0.mk hB.size
 have HB := Aside0.mk hB
 clear hB
 have H : ((dB.f k s0_0 s0_1 s0_2).bind fun bt512 => ((aT.f F k s0_0 bt512.2.1 bt512.2.2).bind fun bt517 => (if bt512.1.length < 5864062014805 then ((aj.f k a1_0 a1_1 a1_2 a1_3 a1_4 (bt512.1 ++ [bt517.1])).bind fun t525 => (some (t525, bt517.2.1, bt517.2.2))) else (none)))) = some (r1, r2, r3) := h
 clear h
 replace H := Option.bind_eq_some_iff.mp H
 obtain ⟨⟨t512, t515, t516⟩, A30, H⟩ := H
 try dsimp only at H
 have A3 := Aside0.mk A30
 clear A30
 replace H := Option.bind_eq_some_iff.mp H
 obtain ⟨⟨t517, t520, t521⟩, A40, H⟩ := H
 try dsimp only at H
 have A4 := Aside0.mk A40
 clear A40
 by_cases c5 : t512.length < 5864062014805
 ·rw [if_pos c5] at H
  have LMc5 := Aside0.mk c5
  clear c5
  obtain ⟨y522, hy522⟩ : ∃ y_ : List (List (S41)), y_ = (t512 ++ [t517]) := ⟨_, rfl⟩
  replace H : ((aj.f k a1_0 a1_1 a1_2 a1_3 a1_4 y522).bind fun t525 => (some (t525, t520, t521))) = some (r1, r2, r3) := by first | (rw [hy522]; with_reducible exact H) | (have H2_ := (Option.bind_some _ _).symm.trans H; rw [hy522]; with_reducible exact H2_) | (have H2_ := (Option.bind_some _ _).symm.trans H; with_reducible exact H2_) | with_reducible exact H | (rw [hy522]; exact H) | exact H
  have Ny522 := Aside0.mk hy522
  clear hy522
  replace H := Option.bind_eq_some_iff.mp H
  obtain ⟨t525, A60, H⟩ := H
  replace H : (some (t525, t520, t521)) = some (r1, r2, r3) := H
  have A6 := Aside0.mk A60
  clear A60
  simp only [Option.some.injEq, Prod.mk.injEq] at H
  obtain ⟨rfl, rfl, rfl⟩ := H
  go_enter Try.func55, Try.ntmps55
  try go_wp2_with (first | ((with_reducible refine bP (N := 3) rfl ?_); refine bT ?hg (N := 3) ?hd (cs := #[.int .i64 a1_0, .int .i64 a1_1, .string a1_2, .int .i64 a1_3, .string a1_4]) (t := 41) ?hr ?_; (case hd => rfl); (case hg => rfl); (case hr => first | (go_simp; done) | (go_simp; rfl)); intro gb511 hg w7 hbox hb; have n0_ := Aside0.mk (ah.below Z0 hb); have n1_ := Aside0.mk (af.trans Z1 (af.of_below hb g none) (.inl rfl)); have n2_ := Aside0.mk (below_step Z2 hb); have n3_ := Aside0.mk (hbox); have n4_ := Aside0.mk ((by rw [hg]; exact (aH (w := w) (g := g) (row := none) Z1) : w.heap.size ≤ gb511)); have n5_ := Aside0.mk ((Nat.le_trans HW0.out (by rw [hg]; exact (aH (w := w) (g := g) (row := none) Z1) : w.heap.size ≤ gb511) : w0.heap.size ≤ gb511)); have n6_ := Aside0.mk ((by rw [hg]; exact Nat.ne_of_lt (ah.lt (show ah w0 _ g s0_0 s0_1 s0_2 from Z0)) : g ≠ gb511)); have n7_ := Aside0.mk ((by rw [hg]; exact Nat.ne_of_gt (ah.lt (show ah w0 _ g s0_0 s0_1 s0_2 from Z0)) : gb511 ≠ g)); clear HI0; clear HK; clear HB; have HI0 := n0_; have HK := n1_; have HB := n2_; have BK511 := n3_; have GW511 := n4_; have GE511 := n5_; have NB0_511 := n6_; have NB511_0 := n7_; clear n0_ n1_ n2_ n3_ n4_ n5_ n6_ n7_; clear hb hbox hg) | ((with_reducible refine gate_callee (f := 72) rfl ?_); refine goesL_ (some 9) rfl rfl Try.func72 (by kernel_rfl) rfl #[.pointer (some ⟨g, 0, none⟩), .func (.func 73) #[.pointer (some ⟨g, 0, none⟩)] #[]] rfl Z3 ?_; (with_reducible refine (dB.calls k g s0_0 s0_1 s0_2 t512 t515 t516 w0 _ ?side1 ?side2 A3.out).mono ?_); (case side1 => exact Z37); (case side2 => exact Z46); rintro e w8 ⟨v513, rfl, ho0, hi, hb, hk⟩; refine ⟨_, rfl, ?_⟩; have n0_ := Aside0.mk (af.blk hk (g' := gb511) (o := .cells #[.int .i64 a1_0, .int .i64 a1_1, .string a1_2, .int .i64 a1_3, .string a1_4] 41 (0, 0)) (by exact BK511.out) NB511_0.out (by simp)); have n1_ := Aside0.mk (Kd.xE (Kd.Dq ho0 (g := gb511) (o := .cells #[.int .i64 a1_0, .int .i64 a1_1, .string a1_2, .int .i64 a1_3, .string a1_4] 41 (0, 0)) (by exact BK511.out)) (aH (w := w) (g := g) (row := none) Z25)); have n2_ := Aside0.mk (af.trans Z25 hk (.inl rfl)); have n3_ := Aside0.mk (hb); have n4_ := Aside0.mk (hi); clear BK511; clear HK; clear HB; clear HI0; have BK511 := n0_; have HO514 := n1_; have HK := n2_; have HB := n3_; have HI0 := n4_; clear n0_ n1_ n2_ n3_ n4_; (try clear hb); (try clear ho0)))
  have n0_ := Aside0.mk (Kd.iw HO514.out)
  have n1_ := Aside0.mk (kD BK511.out)
  have n2_ := Aside0.mk (ah.drew HI0.out)
  have n3_ := Aside0.mk (gK HK.out)
  have n4_ := Aside0.mk (below_drew1 HB.out)
  clear HO514
  clear BK511
  clear HI0
  clear HK
  clear HB
  have HO514 := n0_
  have BK511 := n1_
  have HI0 := n2_
  have HK := n3_
  have HB := n4_
  clear n0_ n1_ n2_ n3_ n4_
  refine iQ (n := 8) (S := fun w' => w'.cell? ⟨gb511, 0, none⟩ = some (.int .i64 a1_0) ∧ w'.cell? ⟨gb511, 1, none⟩ = some (.int .i64 a1_1) ∧ w'.cell? ⟨gb511, 2, none⟩ = some (.string a1_2) ∧ w'.cell? ⟨gb511, 3, none⟩ = some (.int .i64 a1_3) ∧ w'.cell? ⟨gb511, 4, none⟩ = some (.string a1_4)) (ds := []) #[false, false, false, false, false, false, false, false] (by kernel_rfl) rfl rfl ⟨(ag BK511.out 0).trans rfl, (ag BK511.out 1).trans rfl, (ag BK511.out 2).trans rfl, (ag BK511.out 3).trans rfl, (ag BK511.out 4).trans rfl⟩ (fun hHeld => ?_); refine fA aU.xM aU.sD (fun HT_ HW_ => ?_)
  generalize w8.drew = w9 at HO514 BK511 HI0 HK HB hHeld ⊢
  refine aN (i := 1) (N := some 11) (v := ?_) (a' := ?_) #[false, true, false, false, false, false, false, false] rfl rfl (aA HT_.out (by kernel_rfl)) (fun _ _ _ h => h) (Or.inl ⟨by rfl, ?_⟩) ?_ ?_
  rotate_left
  ·intro w'
   go_simp
   with_reducible rfl
  rotate_left
  ·simp only [Act.put, List.setIfInBounds_toArray, List.set_cons_zero, List.set_cons_succ, aC, aG]
   rfl
  refine aN (i := 2) (N := some 12) (v := ?_) (a' := ?_) #[false, true, true, false, false, false, false, false] rfl rfl (aA HT_.out (by kernel_rfl)) (fun _ _ _ h => h) (Or.inl ⟨by rfl, ?_⟩) ?_ ?_
  rotate_left
  ·intro w'
   go_simp
   with_reducible rfl
  rotate_left
  ·simp only [Act.put, List.setIfInBounds_toArray, List.set_cons_zero, List.set_cons_succ, aC, aG]
   rfl
  refine lC (i := 0) (N := some 10) (v := ?_) (a' := ?_) #[true, true, true, false, false, false, false, false] rfl rfl (jk HT_.out HW_.out (by kernel_rfl)) (fun _ _ _ h => h) (Or.inl ⟨by rfl, ?_⟩) hHeld ?_ ?_
  rotate_left
  ·rintro w' ⟨s0, s1, s2, s3, s4⟩
   go_simp
   with_reducible rfl
  rotate_left
  ·simp only [Act.put, List.setIfInBounds_toArray, List.set_cons_zero, List.set_cons_succ, aC, aG]
   rfl
  refine kH (i := 3) (N := some 13) #[true, true, true, true, false, false, false, false] rfl rfl (iE HT_.out (by kernel_rfl)) (by decide) (fun K hK => ?_)
  refine jq Try.func74 (by kernel_rfl) rfl #[.pointer (some ⟨g, 0, none⟩)] (by rfl) rfl rfl Z3 ?_
  with_reducible refine (aT.calls F HF k g s0_0 t515 t516 t517 t520 t521 w0 _ ?side1 ?side2 A4.out).mono ?_
  (case side1 => repeat (first | (with_reducible first | exact HI0.out | apply ah.alloc | apply ah.drewN | apply ah.drew | apply ah.mG | apply ah.mF | apply ah.qY (hne := NB0_511.out)) | exact HI0.out))
  (case side2 => repeat (first | (with_reducible first | exact HB.out | apply below_alloc | apply pw_below_drewN | apply below_drew1 | refine dn ?_ (ah.ge HI0.out) | refine dn ?_ GE511.out) | exact HB.out))
  rintro e w10 ⟨v518, rfl, ho0, hi, hb, hk⟩
  refine ⟨_, rfl, ?_⟩
  have n0_ := Aside0.mk (af.blk hk (g' := gb511) (o := .cells #[.int .i64 a1_0, .int .i64 a1_1, .string a1_2, .int .i64 a1_3, .string a1_4] 41 (0, 0)) (by exact BK511.out) NB511_0.out (by simp))
  have n1_ := Aside0.mk (Kd.dV (Kd.lN (Kd.lQ (ah.fJ (show ah w0 _ g s0_0 t515 t516 from Z37) (by (with_reducible repeat (first | apply Kd.fP | apply Kd.fO | apply Kd.iw)); exact HO514.out) (by decide)) hk) (Kd.dH ho0)) (fun _ h_ => h_.1))
  have n2_ := Aside0.mk (Kd.R_lower (Kd.lw ho0 (g := gb511) (o := .cells #[.int .i64 a1_0, .int .i64 a1_1, .string a1_2, .int .i64 a1_3, .string a1_4] 41 (0, 0)) (by exact BK511.out)) (aH (w := w) (g := g) (row := none) Z25))
  have n3_ := Aside0.mk (af.trans Z25 hk (.inl rfl))
  have n4_ := Aside0.mk (hb)
  have n5_ := Aside0.mk (hi)
  clear BK511
  clear HO514
  clear HK
  clear HB
  clear HI0
  have BK511 := n0_
  have HO514 := n1_
  have HO519 := n2_
  have HK := n3_
  have HB := n4_
  have HI0 := n5_
  clear n0_ n1_ n2_ n3_ n4_ n5_
  (try clear hb)
  (try clear hb2)
  (try clear hk)
  (try clear hi)
  (try clear ho0)
  obtain ⟨Ao12, co12, eo12⟩ := Kd.R_slice HO519.out
  (first | subst eo12 | (injection eo12 with f1_ f2_ f3_; have f4_ := f1_.symm; have f5_ := f3_.symm; clear f1_ f2_ f3_; subst f4_; subst f5_))
  refine hK.out _ _ ⟨(ag BK511.out 0).trans rfl, (ag BK511.out 1).trans rfl, (ag BK511.out 2).trans rfl, (ag BK511.out 3).trans rfl, (ag BK511.out 4).trans rfl⟩ (fun hHeld => ?_)
  clear hK K
  refine iM (a' := ?_) ?_ ?_
  rotate_left
  ·show Act.put _ (some 13) _ = _
   simp only [Act.put, List.setIfInBounds_toArray, List.set_cons_zero, List.set_cons_succ, aC, aG]
   rfl
  refine kH (i := 4) (N := some 14) #[true, true, true, true, true, false, false, false] rfl rfl (iE HT_.out (by kernel_rfl)) (by decide) (fun K hK => ?_)
  refine Cc (w1 := ?_) (v := ?_) (by rfl) rfl ?_ ?_
  rotate_left 2
  ·go_simp
   constructor
   ·rfl
   rfl
  refine hK.out _ _ ⟨(ag (lg BK511.out _) 0).trans rfl, (ag (lg BK511.out _) 1).trans rfl, (ag (lg BK511.out _) 2).trans rfl, (ag (lg BK511.out _) 3).trans rfl, (ag (lg BK511.out _) 4).trans rfl⟩ (fun hHeld => ?_)
  clear hK K
  refine iM (a' := ?_) ?_ ?_
  rotate_left
  ·show Act.put _ (some 14) _ = _
   simp only [Act.put, List.setIfInBounds_toArray, List.set_cons_zero, List.set_cons_succ, aC, aG]
   rfl
  refine kH (i := 5) (N := some 15) #[true, true, true, true, true, true, false, false] rfl rfl (iE HT_.out (by kernel_rfl)) (by decide) (fun K hK => ?_)
  refine Kd.rf (Kd.slice 41 k41) w.heap.size (by rfl) (.tmp 11) (.tmp 14) 78 23 (.slice none 0 0) 24 rfl Try.underlying78 info23 rfl (by decide) (by omega) v513 t512 t517 [.slice Ao12 t517.length co12] (fun k_ => k_ ≠ gb511) (fun k_ => some k_ = (.slice Ao12 t517.length co12 : Value).ownBlock) rfl rfl ?aP (fun k_ hk_ => ((Kd.bi (ok' := fun k_ => ((fun k_ => k_ ≠ gb511)) k_ ∧ some k_ ≠ (v513 : Value).ownBlock) (Kd.dJ (HO519.out) (Kd.gI HO514.out) (by decide)) (fun k_ hk => ⟨hk.1.2, hk.2⟩))).1 k_ hk_.symm) ?aF ?aO (Below.refl _ _) ?aS ?aL ?_
  (case aP => exact Kd.oL (Kd.bi (Kd.jU rfl (Kd.bi (ok' := fun k_ => ((fun k_ => k_ ≠ gb511)) k_ ∧ some k_ ≠ (v513 : Value).ownBlock) (Kd.dJ (HO519.out) (Kd.gI HO514.out) (by decide)) (fun k_ hk => ⟨hk.1.2, hk.2⟩))) (fun _ h_ => h_)))
  (case aF => exact (fun k_ hk => Kd.ng (g := gb511) (o := .cells #[.int .i64 a1_0, .int .i64 a1_1, .string a1_2, .int .i64 a1_3, .string a1_4] 41 (0, 0)) (by exact BK511.out) k_ hk))
  (case aO => exact (by (with_reducible repeat (first | apply Kd.fP | apply Kd.fO | apply Kd.iw)); exact Kd.dV HO514.out (fun k_ hk => ⟨hk.1.2, fun e_ => hk.2 e_⟩)))
  (case aS => exact (aH (w := w) (g := g) (row := none) Z25))
  (case aL => have := LMc5.out; omega)
  intro v523 w11 ho hb hg hat
  rw [← Ny522.out] at ho
  have n0_ := Aside0.mk (ah.grown Z37 hg (ah.kN HI0.out HO514.out (by decide)))
  have n1_ := Aside0.mk (iJ (g := gb511) (o := .cells #[.int .i64 a1_0, .int .i64 a1_1, .string a1_2, .int .i64 a1_3, .string a1_4] 41 (0, 0)) (by exact BK511.out) hg (Kd.Bo HO514.out BK511.out (by decide)))
  have n2_ := Aside0.mk (dW Z46 HL.out hb)
  have n3_ := Aside0.mk (af.trans Z25 (af.gp hg g) (Kd.kQ HO514.out))
  have n4_ := Aside0.mk (ho)
  clear HI0
  clear BK511
  clear HB
  clear HK
  clear HO514
  clear HO519
  have HI0 := n0_
  have BK511 := n1_
  have HB := n2_
  have HK := n3_
  have HO524 := n4_
  clear n0_ n1_ n2_ n3_ n4_
  clear ho hb hg hat
  obtain ⟨Ao13, co13, eo13⟩ := Kd.jT HO524.out
  (first | subst eo13 | (injection eo13 with f1_ f2_ f3_; have f4_ := f1_.symm; have f5_ := f3_.symm; clear f1_ f2_ f3_; subst f4_; subst f5_))
  refine hK.out _ _ ⟨(ag BK511.out 0).trans rfl, (ag BK511.out 1).trans rfl, (ag BK511.out 2).trans rfl, (ag BK511.out 3).trans rfl, (ag BK511.out 4).trans rfl⟩ (fun hHeld => ?_)
  clear hK K
  refine iM (a' := ?_) ?_ ?_
  rotate_left
  ·show Act.put _ (some 15) _ = _
   simp only [Act.put, List.setIfInBounds_toArray, List.set_cons_zero, List.set_cons_succ, aC, aG]
   rfl
  refine kH (i := 6) (N := some 16) #[true, true, true, true, true, true, true, false] rfl rfl (iE HT_.out (by kernel_rfl)) (by decide) (fun K hK => ?_)
  refine jq Try.func56 (by kernel_rfl) rfl #[.agg #[.int .i64 a1_0, .int .i64 a1_1, .string a1_2, .int .i64 a1_3, .string a1_4], .slice Ao13 y522.length co13] (by rfl) rfl rfl Z3 ?_
  with_reducible refine (aj.calls k a1_0 a1_1 a1_2 a1_3 a1_4 _ _ y522 t525 _ ?side1 ?side2 A6.out).mono ?_
  (case side1 => repeat (first | exact (Kd.iY HO524.out).2.2 | (with_reducible refine Kd.C_alloc ?_ _) | (with_reducible refine Kd.C_drewN ?_ _) | (with_reducible refine Kd.C_drew ?_)))
  (case side2 => exact (Kd.iY HO524.out).2.1)
  rintro e w14 ⟨v526, rfl, ho0, hb⟩
  refine ⟨_, rfl, ?_⟩
  have n0_ := Aside0.mk (Kd.lS (by (with_reducible repeat (first | apply Kd.fP | apply Kd.fO | apply Kd.iw)); exact HO524.out) (Kd.dH ho0) hb)
  have n1_ := Aside0.mk (Kd.R_lower (Kd.lw ho0 (g := gb511) (o := .cells #[.int .i64 a1_0, .int .i64 a1_1, .string a1_2, .int .i64 a1_3, .string a1_4] 41 (0, 0)) (by exact BK511.out)) (aH (w := w) (g := g) (row := none) Z25))
  have n2_ := Aside0.mk (ah.below Z37 hb)
  have n3_ := Aside0.mk (bU (g := gb511) (o := .cells #[.int .i64 a1_0, .int .i64 a1_1, .string a1_2, .int .i64 a1_3, .string a1_4] 41 (0, 0)) (by exact BK511.out) hb)
  have n4_ := Aside0.mk (af.trans Z25 (af.of_below hb g none) (.inl rfl))
  have n5_ := Aside0.mk (below_step Z46 hb)
  clear HO524
  clear HI0
  clear BK511
  clear HK
  clear HB
  have HO524 := n0_
  have HO527 := n1_
  have HI0 := n2_
  have BK511 := n3_
  have HK := n4_
  have HB := n5_
  clear n0_ n1_ n2_ n3_ n4_ n5_
  (try clear hb)
  (try clear hb2)
  (try clear hk)
  (try clear hi)
  (try clear ho0)
  refine hK.out _ _ ⟨(ag BK511.out 0).trans rfl, (ag BK511.out 1).trans rfl, (ag BK511.out 2).trans rfl, (ag BK511.out 3).trans rfl, (ag BK511.out 4).trans rfl⟩ (fun hHeld => ?_)
  clear hK K
  refine iM (a' := ?_) ?_ ?_
  rotate_left
  ·show Act.put _ (some 16) _ = _
   simp only [Act.put, List.setIfInBounds_toArray, List.set_cons_zero, List.set_cons_succ, aC, aG]
   rfl
  refine aN (i := 7) (N := some 4) (v := ?_) (a' := ?_) #[true, true, true, true, true, true, true, true] rfl rfl (aA HT_.out (by kernel_rfl)) (fun _ _ _ h => h) (Or.inl ⟨by rfl, ?_⟩) ?_ ?_
  rotate_left
  ·intro w'
   go_simp
   with_reducible rfl
  rotate_left
  ·simp only [Act.put, List.setIfInBounds_toArray, List.set_cons_zero, List.set_cons_succ, aC, aG]
   rfl
  refine jQ (iF HT_.out (by kernel_rfl)) ?_
  try go_wp2
  go_ret
  exact ⟨_, Z5, by (with_reducible repeat (first | apply Kd.R_alloc | apply Kd.R_drewN | apply Kd.R_drew)); exact Kd.bi HO527.out (fun _ hk => trivial), Z37, Z46, Z25⟩
 rw [if_neg c5] at H
 exact absurd H (by simp)
end Go.Proofs.Ytendgafpkeadhaa.Q
end
