/- Walks over functions of the program, words for them, and what the functions come to; of each text only what this claim uses; no condition. -/
import Derived.Test.YtendgafpkeadhaaZPR0
import Derived.Test.YtendgafpkeadhaaZPR3
import Derived.Test.YtendgafpkeadhaaZPR7
import Derived.Test.YtendgafpkeadhaaZPR9
section
namespace Go.Proofs.Ytendgafpkeadhaa.Q
open Go.RowKit Go.Proofs.YtendgafpkeadhaaW.PrintWords Go.Proofs.YtendgafpkeadhaaW.PrintLast Go.Proofs.YtendgafpkeadhaaW.PrintMore
attribute [local go_sem] ik ig gZ gY max2_int min2_int max_two min_two max_three min_three max_four min_four
set_option linter.unusedVariables false
set_option linter.unusedSimpArgs false
/-! ### dC: function 91 -/
mutual
def dC.l0 (F : Fam) : Nat → List (List (S41)) → List (S38) → Int → Bool → Option ((List (List (S41))) × Int × Bool)
 | 0, _, _, _, _ => none
 | k + 1, x5, x1000, x1001, x1002 => if x1002 = true then (dC.j1 F k x5 false x1000 x1001 x1002) else ((aV.f x1000 x1001 x1002).bind fun bt580 => (dC.j1 F k x5 (bt580.1.toList != ([41] : List UInt8)) x1000 bt580.2.1 bt580.2.2))
def dC.j1 (F : Fam) : Nat → List (List (S41)) → Bool → List (S38) → Int → Bool → Option ((List (List (S41))) × Int × Bool)
 | 0, _, _, _, _, _ => none
 | k + 1, x5, x17, x1000, x1001, x1002 => if x17 = true then (if (x5.length : Int) > 0 then ((ak.f x1000 x1001 x1002 (⟨#[44]⟩ : ByteArray)).bind fun bt585 => ((dI.f F k x1000 bt585.1 bt585.2).bind fun bt587 => (if x5.length < 5864062014805 then (dC.l0 F k (x5 ++ [bt587.1]) x1000 bt587.2.1 bt587.2.2) else (none)))) else ((dI.f F k x1000 x1001 x1002).bind fun bt595 => (if x5.length < 5864062014805 then (dC.l0 F k (x5 ++ [bt595.1]) x1000 bt595.2.1 bt595.2.2) else (none)))) else ((ak.f x1000 x1001 x1002 (⟨#[41]⟩ : ByteArray)).bind fun bt583 => (some (x5, bt583.1, bt583.2)))
end
def dC.f (F : Fam) (k : Nat) (s0_0 : List (S38)) (s0_1 : Int) (s0_2 : Bool) : Option ((List (List (S41))) × Int × Bool) := (ak.f s0_0 s0_1 s0_2 (⟨#[40]⟩ : ByteArray)).bind fun bt578 => (dC.l0 F k ([] : List (List (S41))) s0_0 bt578.1 bt578.2)
theorem dC.mono_l {F F' : Fam} (HLE : iG F F') : ∀ k, (∀ y0 y1 y2 y3, LeO (dC.l0 F k y0 y1 y2 y3) (dC.l0 F' (k + 1) y0 y1 y2 y3)) ∧ (∀ y0 y1 y2 y3 y4, LeO (dC.j1 F k y0 y1 y2 y3 y4) (dC.j1 F' (k + 1) y0 y1 y2 y3 y4))
 | 0 => ⟨fun _ _ _ _ r h => by simp [dC.l0] at h, fun _ _ _ _ _ r h => by simp [dC.j1] at h⟩
 | k + 1 => by
  obtain ⟨ih0, ih1⟩ := dC.mono_l HLE k
  refine ⟨?_, ?_⟩
  ·intro y0 y1 y2 y3
   unfold dC.l0
   repeat' first
   | (with_reducible exact ih0 _ _ _ _)
   | (with_reducible exact ih1 _ _ _ _ _)
   | (with_reducible exact dI.mono HLE _ _ _ _)
   | (with_reducible exact LeO.refl _)
   | (with_reducible exact LeO.none _)
   | (with_reducible refine LeO.ite ?_ ?_)
   | (with_reducible refine LeO.bind ?_ (fun _ => ?_))
   | exact ih0 _ _ _ _
   | exact ih1 _ _ _ _ _
   | exact dI.mono HLE _ _ _ _
   | exact LeO.none _
   | refine LeO.ite ?_ ?_
   | refine LeO.bind ?_ (fun _ => ?_)
  intro y0 y1 y2 y3 y4
  unfold dC.j1
  repeat' first
  | (with_reducible exact ih0 _ _ _ _)
  | (with_reducible exact ih1 _ _ _ _ _)
  | (with_reducible exact dI.mono HLE _ _ _ _)
  | (with_reducible exact LeO.refl _)
  | (with_reducible exact LeO.none _)
  | (with_reducible refine LeO.ite ?_ ?_)
  | (with_reducible refine LeO.bind ?_ (fun _ => ?_))
  | exact ih0 _ _ _ _
  | exact ih1 _ _ _ _ _
  | exact dI.mono HLE _ _ _ _
  | exact LeO.none _
  | refine LeO.ite ?_ ?_
  | refine LeO.bind ?_ (fun _ => ?_)
theorem dC.mono {F F' : Fam} (HLE : iG F F') : ∀ a0 a1 a2 k, LeO (dC.f F k a0 a1 a2) (dC.f F' (k + 1) a0 a1 a2) := by
 intro a0 a1 a2 k
 obtain ⟨ih0, ih1⟩ := dC.mono_l HLE k
 unfold dC.f
 repeat' first
  | (with_reducible exact ih0 _ _ _ _)
  | (with_reducible exact ih1 _ _ _ _ _)
  | (with_reducible exact dI.mono HLE _ _ _ _)
  | (with_reducible exact LeO.refl _)
  | (with_reducible exact LeO.none _)
  | (with_reducible refine LeO.ite ?_ ?_)
  | (with_reducible refine LeO.bind ?_ (fun _ => ?_))
  | exact ih0 _ _ _ _
  | exact ih1 _ _ _ _ _
  | exact dI.mono HLE _ _ _ _
  | exact LeO.none _
  | refine LeO.ite ?_ ?_
  | refine LeO.bind ?_ (fun _ => ?_)
set_option maxHeartbeats 8000000 in
set_option maxRecDepth 100000 in
theorem dC.calls (F : Fam) (HF : jL F) (k : Nat) (g : Nat) (s0_0 : List (S38)) (s0_1 : Int) (s0_2 : Bool) (r1 : List (List (S41))) (r2 : Int) (r3 : Bool) (w0 w : World) (hI : ah w0 w g s0_0 s0_1 s0_2) (hB : Below w0.heap.size w0 w) (h : dC.f F k s0_0 s0_1 s0_2 = some (r1, r2, r3)) :
 Calls Try.prog 72 #[.pointer (some ⟨g, 0, none⟩), .func (.func 77) #[.pointer (some ⟨g, 0, none⟩)] #[]] w fun e w' => ∃ v0_ : Value, e = .returned (v0_) ∧ Kd.S (Kd.slice 41 k41) 23 w' w.heap.size (fun _ => True) v0_ r1 ∧ ah w0 w' g s0_0 r2 r3 ∧ Below w0.heap.size w0 w' ∧ af w w' g none := by
 have HI0 := Aside0.mk hI
 have HK := Aside0.mk (af.refl w g none)
 have HL := Aside0.mk hB.size
 clear hI
 have HW0 := Aside0.mk hB.size
 have HB := Aside0.mk hB
 clear hB
 have H : ((ak.f s0_0 s0_1 s0_2 (⟨#[40]⟩ : ByteArray)).bind fun bt578 => (dC.l0 F k ([] : List (List (S41))) s0_0 bt578.1 bt578.2)) = some (r1, r2, r3) := h
 clear h
 replace H := Option.bind_eq_some_iff.mp H
 obtain ⟨⟨t578, t579⟩, A20, H⟩ := H
 replace H : (dC.l0 F k ([] : List (List (S41))) s0_0 t578 t579) = some (r1, r2, r3) := H
 have A2 := Aside0.mk A20
 clear A20
 have H' := Aside0.mk H
 clear H
 go_enter Try.func72, Try.ntmps72
 go_wp2_with (first | ((with_reducible refine gate_callee (f := 51) rfl ?_); refine goesL_ (some 7) rfl rfl Try.func51 (by kernel_rfl) rfl #[.pointer (some ⟨g, 0, none⟩), .string (⟨#[40]⟩ : ByteArray)] rfl Z3 ?_; (with_reducible refine (ak.calls g s0_0 s0_1 s0_2 (⟨#[40]⟩ : ByteArray) t578 t579 w0 _ ?side1 ?side2 A2.out).mono ?_); (case side1 => exact Z0); (case side2 => exact Z2); rintro e w3 ⟨rfl, hi, hb, hk⟩; refine ⟨_, rfl, ?_⟩; have n0_ := Aside0.mk (af.trans Z1 hk (.inl rfl)); have n1_ := Aside0.mk (hb); have n2_ := Aside0.mk (hi); clear HK; clear HB; clear HI0; have HK := n0_; have HB := n1_; have HI0 := n2_; clear n0_ n1_ n2_; (try clear hb)))
 (try simp only [Act.put, List.setIfInBounds_toArray, List.set_cons_zero, List.set_cons_succ])
 go_loopg [5] k (fun kq v5 w' => ∃ (x5_1 : List (List (S41))) (x1001_1 : Int) (x1002_1 : Bool), Aside0 (dC.l0 F kq x5_1 s0_0 x1001_1 x1002_1 = some (r1, r2, r3)) ∧ Aside0 (kq ≤ k) ∧ Aside0 (Kd.S (Kd.slice 41 k41) 23 w' w.heap.size (fun _ => True) v5 x5_1) ∧ Aside0 (ah w0 w' g s0_0 x1001_1 x1002_1) ∧ Aside0 (af w w' g none) ∧ Aside0 (Below w0.heap.size w0 w'))
 case atStart => exact ⟨(([] : List (List (S41)))), (t578), (t579), H', ⟨Nat.le_refl _⟩, ⟨Z58⟩, ⟨Z0⟩, ⟨Z1⟩, ⟨Z2⟩⟩
 case round =>
  clear H'
  try clear p2
  obtain ⟨x5_1, x1001_1, x1002_1, HA, HK1, HO_5, HI0, HK, HB⟩ := hrel
  cases gk with
  | zero => exact absurd HA.out (by simp [dC.l0])
  | succ k1 =>
   have H := HA.out
   clear HA
   simp only [dC.l0] at H
   have HC4 := Aside0.mk H
   clear H
   go_upto_region 3 with (fail)
   go_cut [17] (fun v17 wc => ∃ (kq : Nat) (x17_3 : Bool) (x1001_3 : Int) (x1002_3 : Bool), v17 = .bool x17_3 ∧ Aside0 (dC.j1 F kq x5_1 x17_3 s0_0 x1001_3 x1002_3 = some (r1, r2, r3)) ∧ Aside0 (kq ≤ k1) ∧ Aside0 (Kd.S (Kd.slice 41 k41) 23 wc w.heap.size (fun _ => True) u5 x5_1) ∧ Aside0 (ah w0 wc g s0_0 x1001_3 x1002_3) ∧ Aside0 (af w wc g none) ∧ Aside0 (Below w0.heap.size w0 wc))
   case first =>
    have H := HC4.out
    clear HC4
    by_cases c5 : x1002_1 = true
    ·subst c5
     have H1 : (dC.j1 F k1 x5_1 false s0_0 x1001_1 true) = some (r1, r2, r3) := by rw [if_pos rfl] at H; exact H
     clear H
     have H := H1
     clear H1
     have H' := Aside0.mk H
     clear H
     obtain ⟨ASz6_0, cSz6_0, HGz6, hgz6, HSz6_0⟩ := HI0.out
     have hcz6_0 := df HGz6
     have hcz6_1 := cZ HGz6
     have hcz6_2 := cO HGz6
     have hfz6_1 := ae HGz6 1
     have hfz6_2 := ae HGz6 2
     clear HGz6 hgz6
     go_wp2
     go_meet
     case rel => exact ⟨_, (false), (x1001_1), (true), Z7, H', ⟨by have := HK1.out; first | omega | exact Nat.le_refl _⟩, ⟨Z24⟩, ⟨Z0⟩, ⟨Z1⟩, ⟨Z2⟩⟩
    replace c5 := Bool.eq_false_iff.mpr c5
    subst c5
    rw [if_neg (show ¬ (false = true) by decide)] at H
    have H1 := H
    clear H
    have H := H1
    clear H1
    replace H := Option.bind_eq_some_iff.mp H
    obtain ⟨⟨t580, t581, t582⟩, A70, H⟩ := H
    replace H : (dC.j1 F k1 x5_1 (t580.toList != ([41] : List UInt8)) s0_0 t581 t582) = some (r1, r2, r3) := H
    have A7 := Aside0.mk A70
    clear A70
    have H' := Aside0.mk H
    clear H
    obtain ⟨ASz8_0, cSz8_0, HGz8, hgz8, HSz8_0⟩ := HI0.out
    have hcz8_0 := df HGz8
    have hcz8_1 := cZ HGz8
    have hcz8_2 := cO HGz8
    have hfz8_1 := ae HGz8 1
    have hfz8_2 := ae HGz8 2
    clear HGz8 hgz8
    go_wp2_with (first | (go_at_call 71; (with_reducible refine (aV.calls g s0_0 x1001_1 false t580 t581 t582 w0 _ ?side1 ?side2 A7.out).mono ?_); (case side1 => exact Z0); (case side2 => exact Z2); rintro e w9 ⟨rfl, hi, hb, hk⟩; have n0_ := Aside0.mk (Kd.dV (Kd.iT (ah.fJ (show ah w0 _ g s0_0 x1001_1 false from Z0) Z24 (by decide)) hk (fun _ h => h.2)) (fun _ h => h.1)); have n1_ := Aside0.mk (af.trans Z1 hk (.inl rfl)); have n2_ := Aside0.mk (hb); have n3_ := Aside0.mk (hi); clear HO_5; clear HK; clear HB; clear HI0; have HO_5 := n0_; have HK := n1_; have HB := n2_; have HI0 := n3_; clear n0_ n1_ n2_ n3_; (try clear hb)))
    go_meet
    case rel => exact ⟨_, ((t580.toList != ([41] : List UInt8))), (t581), (t582), Z7, H', ⟨by have := HK1.out; first | omega | exact Nat.le_refl _⟩, ⟨Z24⟩, ⟨Z0⟩, ⟨Z1⟩, ⟨Z2⟩⟩
   case rest =>
    clear HC4
    try clear p2
    try clear c5
    try clear c9
    try clear hcz6_0
    try clear hcz6_1
    try clear hcz6_2
    try clear hcz8_0
    try clear hcz8_1
    try clear hcz8_2
    try clear hfz6_1
    try clear hfz6_2
    try clear hfz8_1
    try clear hfz8_2
    try clear p2
    obtain ⟨kq, x17_3, x1001_3, x1002_3, rfl, HA, HJ3, HO_5, HI0, HK, HB⟩ := hcut
    cases kq with
    | zero => exact absurd HA.out (by simp [dC.j1])
    | succ kj3 =>
     have H := HA.out
     clear HA
     simp only [dC.j1] at H
     by_cases c10 : x17_3 = true
     ·subst c10
      rw [if_pos rfl] at H
      have H1 := H
      clear H
      have H := H1
      clear H1
      by_cases c11 : (x5_1.length : Int) > 0
      ·rw [if_pos c11] at H
       have c11b0 : decide (0 < (x5_1.length : Int)) = true := decide_eq_true c11
       have c11b1 : decide (0 < x5_1.length) = true := decide_eq_true (by omega)
       clear c11
       replace H := Option.bind_eq_some_iff.mp H
       obtain ⟨⟨t585, t586⟩, A120, H⟩ := H
       try dsimp only at H
       have A12 := Aside0.mk A120
       clear A120
       replace H := Option.bind_eq_some_iff.mp H
       obtain ⟨⟨t587, t590, t591⟩, A130, H⟩ := H
       replace H : (if x5_1.length < 5864062014805 then (dC.l0 F kj3 (x5_1 ++ [t587]) s0_0 t590 t591) else (none)) = some (r1, r2, r3) := H
       have A13 := Aside0.mk A130
       clear A130
       by_cases c14 : x5_1.length < 5864062014805
       ·rw [if_pos c14] at H
        have LMc14 := Aside0.mk c14
        clear c14
        obtain ⟨y592, hy592⟩ : ∃ y_ : List (List (S41)), y_ = (x5_1 ++ [t587]) := ⟨_, rfl⟩
        replace H : (dC.l0 F kj3 y592 s0_0 t590 t591) = some (r1, r2, r3) := by first | (rw [hy592]; with_reducible exact H) | (have H2_ := (Option.bind_some _ _).symm.trans H; rw [hy592]; with_reducible exact H2_) | (have H2_ := (Option.bind_some _ _).symm.trans H; with_reducible exact H2_) | with_reducible exact H | (rw [hy592]; exact H) | exact H
        have Ny592 := Aside0.mk hy592
        clear hy592
        have H' := Aside0.mk H
        clear H
        obtain ⟨Ao15, co15, eo15⟩ := Kd.jT HO_5.out
        subst eo15
        go_wp2_with (first | ((with_reducible refine gate_callee (f := 51) rfl ?_); refine goesL_ (some 22) rfl rfl Try.func51 (by kernel_rfl) rfl #[.pointer (some ⟨g, 0, none⟩), .string (⟨#[44]⟩ : ByteArray)] rfl Z3 ?_; (with_reducible refine (ak.calls g s0_0 x1001_3 x1002_3 (⟨#[44]⟩ : ByteArray) t585 t586 w0 _ ?side1 ?side2 A12.out).mono ?_); (case side1 => exact Z0); (case side2 => exact Z2); rintro e w16 ⟨rfl, hi, hb, hk⟩; refine ⟨_, rfl, ?_⟩; have n0_ := Aside0.mk (Kd.dV (Kd.iT (ah.fJ (show ah w0 _ g s0_0 x1001_3 x1002_3 from Z0) Z24 (by decide)) hk (fun _ h => h.2)) (fun _ h => h.1)); have n1_ := Aside0.mk (af.trans Z1 hk (.inl rfl)); have n2_ := Aside0.mk (hb); have n3_ := Aside0.mk (hi); clear HO_5; clear HK; clear HB; clear HI0; have HO_5 := n0_; have HK := n1_; have HB := n2_; have HI0 := n3_; clear n0_ n1_ n2_ n3_; (try clear hb)) | ((with_reducible refine (dI.calls F HF kj3 g s0_0 t585 t586 t587 t590 t591 w0 _ ?side1 ?side2 A13.out).mono ?_); (case side1 => exact Z0); (case side2 => exact Z2); rintro e w17 ⟨v588, rfl, ho0, hi, hb, hk⟩; have n0_ := Aside0.mk (Kd.dV (Kd.lN (Kd.lQ (ah.fJ (show ah w0 _ g s0_0 t585 t586 from Z0) Z24 (by decide)) hk) (Kd.dH ho0)) (fun _ h_ => h_.1)); have n1_ := Aside0.mk (Kd.R_lower ho0 (aH (w := w) (g := g) (row := none) Z1)); have n2_ := Aside0.mk (af.trans Z1 hk (.inl rfl)); have n3_ := Aside0.mk (hb); have n4_ := Aside0.mk (hi); clear HO_5; clear HK; clear HB; clear HI0; have HO_5 := n0_; have HO589 := n1_; have HK := n2_; have HB := n3_; have HI0 := n4_; clear n0_ n1_ n2_ n3_ n4_; (try clear hb); (try clear ho0); obtain ⟨Ao19, co19, eo19⟩ := Kd.R_slice HO589.out; subst eo19) | ((with_reducible refine dD (b := .append) (xs := #[.tmp 23, .tmp 26]) rfl ?_); at_builtin; refine Kd.kE (Kd.slice 41 k41) w.heap.size rfl (.tmp 23) (.tmp 26) 78 23 (.slice none 0 0) 24 rfl Try.underlying78 info23 rfl (by decide) (by omega) (.slice Ao15 x5_1.length co15) x5_1 t587 [.slice Ao19 t587.length co19] (fun _ => True) (fun k_ => some k_ = (.slice Ao19 t587.length co19 : Value).ownBlock) rfl rfl ?aP (fun k_ hk_ => ((Kd.bi (ok' := fun k_ => ((fun _ => True)) k_ ∧ some k_ ≠ (.slice Ao15 x5_1.length co15 : Value).ownBlock) (Kd.dJ (HO589.out) (Kd.gI HO_5.out) (by decide)) (fun k_ hk => ⟨trivial, hk.2⟩))).1 k_ hk_.symm) ?aF ?aO (Below.refl _ _) ?aS ?aL ?_; (case aP => exact Kd.oL (Kd.bi (Kd.jU rfl (Kd.bi (ok' := fun k_ => ((fun _ => True)) k_ ∧ some k_ ≠ (.slice Ao15 x5_1.length co15 : Value).ownBlock) (Kd.dJ (HO589.out) (Kd.gI HO_5.out) (by decide)) (fun k_ hk => ⟨trivial, hk.2⟩))) (fun _ h_ => h_))); (case aF => exact (fun _ _ => trivial)); (case aO => exact Z55); (case aS => exact (aH (w := w) (g := g) (row := none) Z1)); (case aL => have := LMc14.out; omega); intro v593 w18 ho hb hg hat; rw [← Ny592.out] at ho; have n0_ := Aside0.mk (ah.grown Z0 hg (ah.kN HI0.out HO_5.out (by decide))); have n1_ := Aside0.mk (dW Z2 HL.out hb); have n2_ := Aside0.mk (af.trans Z1 (af.gp hg g) (Kd.kQ HO_5.out)); have n3_ := Aside0.mk (ho); clear HI0; clear HB; clear HK; clear HO_5; clear HO589; have HI0 := n0_; have HB := n1_; have HK := n2_; have HO594 := n3_; clear n0_ n1_ n2_ n3_; clear ho hb hg hat))
        go_roundg kj3
        case measure => have := HK1.out; have := HJ3.out; omega
        case rel => exact ⟨(y592), (t590), (t591), H', ⟨by have := HK1.out; have := HJ3.out; omega⟩, ⟨by (with_reducible repeat (first | apply Kd.fP | apply Kd.fO | apply Kd.iw)); exact HO594.out⟩, ⟨Z0⟩, ⟨Z1⟩, ⟨Z2⟩⟩
       rw [if_neg c14] at H
       exact absurd H (by simp)
      rw [if_neg c11] at H
      have c11b0 : decide (0 < (x5_1.length : Int)) = false := decide_eq_false c11
      have c11b1 : decide (0 < x5_1.length) = false := decide_eq_false (by omega)
      clear c11
      replace H := Option.bind_eq_some_iff.mp H
      obtain ⟨⟨t595, t598, t599⟩, A200, H⟩ := H
      replace H : (if x5_1.length < 5864062014805 then (dC.l0 F kj3 (x5_1 ++ [t595]) s0_0 t598 t599) else (none)) = some (r1, r2, r3) := H
      have A20 := Aside0.mk A200
      clear A200
      by_cases c21 : x5_1.length < 5864062014805
      ·rw [if_pos c21] at H
       have LMc21 := Aside0.mk c21
       clear c21
       obtain ⟨y600, hy600⟩ : ∃ y_ : List (List (S41)), y_ = (x5_1 ++ [t595]) := ⟨_, rfl⟩
       replace H : (dC.l0 F kj3 y600 s0_0 t598 t599) = some (r1, r2, r3) := by first | (rw [hy600]; with_reducible exact H) | (have H2_ := (Option.bind_some _ _).symm.trans H; rw [hy600]; with_reducible exact H2_) | (have H2_ := (Option.bind_some _ _).symm.trans H; with_reducible exact H2_) | with_reducible exact H | (rw [hy600]; exact H) | exact H
       have Ny600 := Aside0.mk hy600
       clear hy600
       have H' := Aside0.mk H
       clear H
       obtain ⟨Ao22, co22, eo22⟩ := Kd.jT HO_5.out
       subst eo22
       go_wp2_with (first | ((with_reducible refine (dI.calls F HF kj3 g s0_0 x1001_3 x1002_3 t595 t598 t599 w0 _ ?side1 ?side2 A20.out).mono ?_); (case side1 => exact Z0); (case side2 => exact Z2); rintro e w23 ⟨v596, rfl, ho0, hi, hb, hk⟩; have n0_ := Aside0.mk (Kd.dV (Kd.lN (Kd.lQ (ah.fJ (show ah w0 _ g s0_0 x1001_3 x1002_3 from Z0) Z24 (by decide)) hk) (Kd.dH ho0)) (fun _ h_ => h_.1)); have n1_ := Aside0.mk (Kd.R_lower ho0 (aH (w := w) (g := g) (row := none) Z1)); have n2_ := Aside0.mk (af.trans Z1 hk (.inl rfl)); have n3_ := Aside0.mk (hb); have n4_ := Aside0.mk (hi); clear HO_5; clear HK; clear HB; clear HI0; have HO_5 := n0_; have HO597 := n1_; have HK := n2_; have HB := n3_; have HI0 := n4_; clear n0_ n1_ n2_ n3_ n4_; (try clear hb); (try clear ho0); obtain ⟨Ao25, co25, eo25⟩ := Kd.R_slice HO597.out; subst eo25) | ((with_reducible refine dD (b := .append) (xs := #[.tmp 23, .tmp 26]) rfl ?_); at_builtin; refine Kd.kE (Kd.slice 41 k41) w.heap.size rfl (.tmp 23) (.tmp 26) 78 23 (.slice none 0 0) 24 rfl Try.underlying78 info23 rfl (by decide) (by omega) (.slice Ao22 x5_1.length co22) x5_1 t595 [.slice Ao25 t595.length co25] (fun _ => True) (fun k_ => some k_ = (.slice Ao25 t595.length co25 : Value).ownBlock) rfl rfl ?aP (fun k_ hk_ => ((Kd.bi (ok' := fun k_ => ((fun _ => True)) k_ ∧ some k_ ≠ (.slice Ao22 x5_1.length co22 : Value).ownBlock) (Kd.dJ (HO597.out) (Kd.gI HO_5.out) (by decide)) (fun k_ hk => ⟨trivial, hk.2⟩))).1 k_ hk_.symm) ?aF ?aO (Below.refl _ _) ?aS ?aL ?_; (case aP => exact Kd.oL (Kd.bi (Kd.jU rfl (Kd.bi (ok' := fun k_ => ((fun _ => True)) k_ ∧ some k_ ≠ (.slice Ao22 x5_1.length co22 : Value).ownBlock) (Kd.dJ (HO597.out) (Kd.gI HO_5.out) (by decide)) (fun k_ hk => ⟨trivial, hk.2⟩))) (fun _ h_ => h_))); (case aF => exact (fun _ _ => trivial)); (case aO => exact Z55); (case aS => exact (aH (w := w) (g := g) (row := none) Z1)); (case aL => have := LMc21.out; omega); intro v601 w24 ho hb hg hat; rw [← Ny600.out] at ho; have n0_ := Aside0.mk (ah.grown Z0 hg (ah.kN HI0.out HO_5.out (by decide))); have n1_ := Aside0.mk (dW Z2 HL.out hb); have n2_ := Aside0.mk (af.trans Z1 (af.gp hg g) (Kd.kQ HO_5.out)); have n3_ := Aside0.mk (ho); clear HI0; clear HB; clear HK; clear HO_5; clear HO597; have HI0 := n0_; have HB := n1_; have HK := n2_; have HO602 := n3_; clear n0_ n1_ n2_ n3_; clear ho hb hg hat))
       go_roundg kj3
       case measure => have := HK1.out; have := HJ3.out; omega
       case rel => exact ⟨(y600), (t598), (t599), H', ⟨by have := HK1.out; have := HJ3.out; omega⟩, ⟨by (with_reducible repeat (first | apply Kd.fP | apply Kd.fO | apply Kd.iw)); exact HO602.out⟩, ⟨Z0⟩, ⟨Z1⟩, ⟨Z2⟩⟩
      rw [if_neg c21] at H
      exact absurd H (by simp)
     replace c10 := Bool.eq_false_iff.mpr c10
     subst c10
     have H1 : ((ak.f s0_0 x1001_3 x1002_3 (⟨#[41]⟩ : ByteArray)).bind fun bt583 => (some (x5_1, bt583.1, bt583.2))) = some (r1, r2, r3) := by rw [if_neg (show ¬ (false = true) by decide)] at H; exact H
     clear H
     have H := H1
     clear H1
     replace H := Option.bind_eq_some_iff.mp H
     obtain ⟨⟨t583, t584⟩, A260, H⟩ := H
     replace H : (some (x5_1, t583, t584)) = some (r1, r2, r3) := H
     have A26 := Aside0.mk A260
     clear A260
     simp only [Option.some.injEq, Prod.mk.injEq] at H
     obtain ⟨rfl, rfl, rfl⟩ := H
     go_wp2_with (first | ((with_reducible refine gate_callee (f := 51) rfl ?_); refine goesL_ (some 29) rfl rfl Try.func51 (by kernel_rfl) rfl #[.pointer (some ⟨g, 0, none⟩), .string (⟨#[41]⟩ : ByteArray)] rfl Z3 ?_; (with_reducible refine (ak.calls g s0_0 x1001_3 x1002_3 (⟨#[41]⟩ : ByteArray) t583 t584 w0 _ ?side1 ?side2 A26.out).mono ?_); (case side1 => exact Z0); (case side2 => exact Z2); rintro e w27 ⟨rfl, hi, hb, hk⟩; refine ⟨_, rfl, ?_⟩; have n0_ := Aside0.mk (Kd.dV (Kd.iT (ah.fJ (show ah w0 _ g s0_0 x1001_3 x1002_3 from Z0) Z24 (by decide)) hk (fun _ h => h.2)) (fun _ h => h.1)); have n1_ := Aside0.mk (af.trans Z1 hk (.inl rfl)); have n2_ := Aside0.mk (hb); have n3_ := Aside0.mk (hi); clear HO_5; clear HK; clear HB; clear HI0; have HO_5 := n0_; have HK := n1_; have HB := n2_; have HI0 := n3_; clear n0_ n1_ n2_ n3_; (try clear hb)))
     go_ret
     exact ⟨_, Z5, Z24, Z0, Z2, Z1⟩
end Go.Proofs.Ytendgafpkeadhaa.Q
end
section
namespace Go.Proofs.Ytendgafpkeadhaa.Q
open Go.RowKit Go.Proofs.YtendgafpkeadhaaW.PrintWords Go.Proofs.YtendgafpkeadhaaW.PrintLast Go.Proofs.YtendgafpkeadhaaW.PrintMore
attribute [local go_sem] ik ig gZ gY max2_int min2_int max_two min_two max_three min_three max_four min_four
set_option linter.unusedVariables false
set_option linter.unusedSimpArgs false
/-! ### bZ: function 54 -/
def bZ.f (k : Nat) (s0_0 : List (S38)) (s0_1 : Int) (s0_2 : Bool) : Option ((List (S41)) × Int × Bool) := (aX.f s0_0 s0_1 s0_2 1).bind fun bt244 => ((ak.f s0_0 bt244.2.2.2.2.1 bt244.2.2.2.2.2 (⟨#[46]⟩ : ByteArray)).bind fun bt251 => ((aX.f s0_0 bt251.1 bt251.2 1).bind fun bt253 => ((ak.f s0_0 bt253.2.2.2.2.1 bt253.2.2.2.2.2 (⟨#[47]⟩ : ByteArray)).bind fun bt259 => ((aX.f s0_0 bt259.1 bt259.2 2).bind fun bt261 => ((ak.f s0_0 bt261.2.2.2.2.1 bt261.2.2.2.2.2 (⟨#[59]⟩ : ByteArray)).bind fun bt267 => ((aj.f k 2 0 bt244.2.1 bt261.2.2.1 bt253.2.1 ([] : List (List (S41)))).bind fun t269 => (some (t269, bt267.1, bt267.2))))))))
theorem bZ.mono : ∀ a0 a1 a2 k, LeO (bZ.f k a0 a1 a2) (bZ.f (k + 1) a0 a1 a2) := by
 intro a0 a1 a2 k
 unfold bZ.f
 repeat' first
  | (with_reducible exact aj.mono _ _ _ _ _ _ _)
  | (with_reducible exact LeO.refl _)
  | (with_reducible exact LeO.none _)
  | (with_reducible refine LeO.ite ?_ ?_)
  | (with_reducible refine LeO.bind ?_ (fun _ => ?_))
  | exact aj.mono _ _ _ _ _ _ _
  | exact LeO.none _
  | refine LeO.ite ?_ ?_
  | refine LeO.bind ?_ (fun _ => ?_)
set_option maxHeartbeats 8000000 in
set_option maxRecDepth 100000 in
theorem bZ.calls (k : Nat) (g : Nat) (s0_0 : List (S38)) (s0_1 : Int) (s0_2 : Bool) (r1 : List (S41)) (r2 : Int) (r3 : Bool) (w0 w : World) (hI : ah w0 w g s0_0 s0_1 s0_2) (hB : Below w0.heap.size w0 w) (h : bZ.f k s0_0 s0_1 s0_2 = some (r1, r2, r3)) :
 Calls Try.prog 54 #[.pointer (some ⟨g, 0, none⟩)] w fun e w' => ∃ v0_ : Value, e = .returned (v0_) ∧ Kd.R k41 41 w' w.heap.size (fun _ => True) v0_ r1 ∧ ah w0 w' g s0_0 r2 r3 ∧ Below w0.heap.size w0 w' ∧ af w w' g none := by
 have hu41 := Try.underlying41
 have HI0 := Aside0.mk hI
 have HK := Aside0.mk (af.refl w g none)
 have HL := Aside0.mk hB.size
 clear hI
 have HW0 := Aside0.mk hB.size
 have HB := Aside0.mk hB
 clear hB
 have H : ((aX.f s0_0 s0_1 s0_2 1).bind fun bt244 => ((ak.f s0_0 bt244.2.2.2.2.1 bt244.2.2.2.2.2 (⟨#[46]⟩ : ByteArray)).bind fun bt251 => ((aX.f s0_0 bt251.1 bt251.2 1).bind fun bt253 => ((ak.f s0_0 bt253.2.2.2.2.1 bt253.2.2.2.2.2 (⟨#[47]⟩ : ByteArray)).bind fun bt259 => ((aX.f s0_0 bt259.1 bt259.2 2).bind fun bt261 => ((ak.f s0_0 bt261.2.2.2.2.1 bt261.2.2.2.2.2 (⟨#[59]⟩ : ByteArray)).bind fun bt267 => ((aj.f k 2 0 bt244.2.1 bt261.2.2.1 bt253.2.1 ([] : List (List (S41)))).bind fun t269 => (some (t269, bt267.1, bt267.2))))))))) = some (r1, r2, r3) := h
 clear h
 replace H := Option.bind_eq_some_iff.mp H
 obtain ⟨⟨t244, t245, t246, t247, t248, t249⟩, A20, H⟩ := H
 try dsimp only at H
 have A2 := Aside0.mk A20
 clear A20
 replace H := Option.bind_eq_some_iff.mp H
 obtain ⟨⟨t251, t252⟩, A30, H⟩ := H
 try dsimp only at H
 have A3 := Aside0.mk A30
 clear A30
 replace H := Option.bind_eq_some_iff.mp H
 obtain ⟨⟨t253, t254, t255, t256, t257, t258⟩, A40, H⟩ := H
 try dsimp only at H
 have A4 := Aside0.mk A40
 clear A40
 replace H := Option.bind_eq_some_iff.mp H
 obtain ⟨⟨t259, t260⟩, A50, H⟩ := H
 try dsimp only at H
 have A5 := Aside0.mk A50
 clear A50
 replace H := Option.bind_eq_some_iff.mp H
 obtain ⟨⟨t261, t262, t263, t264, t265, t266⟩, A60, H⟩ := H
 try dsimp only at H
 have A6 := Aside0.mk A60
 clear A60
 replace H := Option.bind_eq_some_iff.mp H
 obtain ⟨⟨t267, t268⟩, A70, H⟩ := H
 replace H : ((aj.f k 2 0 t245 t263 t254 ([] : List (List (S41)))).bind fun t269 => (some (t269, t267, t268))) = some (r1, r2, r3) := H
 have A7 := Aside0.mk A70
 clear A70
 replace H := Option.bind_eq_some_iff.mp H
 obtain ⟨t269, A80, H⟩ := H
 replace H : (some (t269, t267, t268)) = some (r1, r2, r3) := H
 have A8 := Aside0.mk A80
 clear A80
 simp only [Option.some.injEq, Prod.mk.injEq] at H
 obtain ⟨rfl, rfl, rfl⟩ := H
 go_enter Try.func54, Try.ntmps54
 go_wp2_with (first | ((with_reducible refine gate_callee (f := 52) rfl ?_); refine goesL_ (some 5) rfl rfl Try.func52 (by kernel_rfl) rfl #[.pointer (some ⟨g, 0, none⟩), .int .i64 1] rfl Z3 ?_; (with_reducible refine (aX.calls g s0_0 s0_1 s0_2 1 t244 t245 t246 t247 t248 t249 w0 _ ?side1 ?side2 A2.out).mono ?_); (case side1 => exact Z0); (case side2 => exact Z2); rintro e w9 ⟨rfl, hi, hb, hk⟩; refine ⟨_, rfl, ?_⟩; have n0_ := Aside0.mk (af.trans Z1 hk (.inl rfl)); have n1_ := Aside0.mk (hb); have n2_ := Aside0.mk (hi); clear HK; clear HB; clear HI0; have HK := n0_; have HB := n1_; have HI0 := n2_; clear n0_ n1_ n2_; (try clear hb)) | ((with_reducible refine bP (N := 3) rfl ?_); refine bT ?hg (N := 3) ?hd (cs := #[.int .i64 0, .int .i64 0, .string (⟨#[]⟩ : ByteArray), .int .i64 0, .string (⟨#[]⟩ : ByteArray)]) (t := 41) ?hr ?_; (case hd => rfl); (case hg => rfl); (case hr => first | (go_simp; done) | (go_simp; rfl)); intro gb250 hg w10 hbox hb; have n0_ := Aside0.mk (ah.below Z0 hb); have n1_ := Aside0.mk (af.trans Z1 (af.of_below hb g none) (.inl rfl)); have n2_ := Aside0.mk (below_step Z2 hb); have n3_ := Aside0.mk (hbox); have n4_ := Aside0.mk ((by rw [hg]; exact (aH (w := w) (g := g) (row := none) Z1) : w.heap.size ≤ gb250)); have n5_ := Aside0.mk ((Nat.le_trans HW0.out (by rw [hg]; exact (aH (w := w) (g := g) (row := none) Z1) : w.heap.size ≤ gb250) : w0.heap.size ≤ gb250)); have n6_ := Aside0.mk ((by rw [hg]; exact Nat.ne_of_lt (ah.lt (show ah w0 _ g s0_0 t248 t249 from Z0)) : g ≠ gb250)); have n7_ := Aside0.mk ((by rw [hg]; exact Nat.ne_of_gt (ah.lt (show ah w0 _ g s0_0 t248 t249 from Z0)) : gb250 ≠ g)); clear HI0; clear HK; clear HB; have HI0 := n0_; have HK := n1_; have HB := n2_; have BK250 := n3_; have GW250 := n4_; have GE250 := n5_; have NB0_250 := n6_; have NB250_0 := n7_; clear n0_ n1_ n2_ n3_ n4_ n5_ n6_ n7_; clear hb hbox hg; have hnb11 := NB250_0.out; have hnc11 := NB0_250.out; have hcz12_0 : w10.cell? ⟨gb250, 0, none⟩ = some (.int .i64 0) := (ag BK250.out 0).trans rfl; have hcz12_1 : w10.cell? ⟨gb250, 1, none⟩ = some (.int .i64 0) := (ag BK250.out 1).trans rfl; have hcz12_2 : w10.cell? ⟨gb250, 2, none⟩ = some (.string (⟨#[]⟩ : ByteArray)) := (ag BK250.out 2).trans rfl; have hcz12_3 : w10.cell? ⟨gb250, 3, none⟩ = some (.int .i64 0) := (ag BK250.out 3).trans rfl; have hcz12_4 : w10.cell? ⟨gb250, 4, none⟩ = some (.string (⟨#[]⟩ : ByteArray)) := (ag BK250.out 4).trans rfl; have hfz12_0 := ae BK250.out 0; have hfz12_1 := ae BK250.out 1; have hfz12_2 := ae BK250.out 2; have hfz12_3 := ae BK250.out 3; have hfz12_4 := ae BK250.out 4) | ((with_reducible refine gate_callee (f := 51) rfl ?_); refine goesL_ (some 9) rfl rfl Try.func51 (by kernel_rfl) rfl #[.pointer (some ⟨g, 0, none⟩), .string (⟨#[46]⟩ : ByteArray)] rfl Z3 ?_; (with_reducible refine (ak.calls g s0_0 t248 t249 (⟨#[46]⟩ : ByteArray) t251 t252 w0 _ ?side1 ?side2 A3.out).mono ?_); (case side1 => exact Z27); (case side2 => exact Z30); rintro e w13 ⟨rfl, hi, hb, hk⟩; refine ⟨_, rfl, ?_⟩; have n0_ := Aside0.mk (af.blk hk (g' := gb250) (o := .cells #[.int .i64 2, .int .i64 0, .string t245, .int .i64 0, .string (⟨#[]⟩ : ByteArray)] 41 (0, 0)) (by refine aZ (cs := #[.int .i64 2, .int .i64 0, .string t245, .int .i64 0, .string (⟨#[]⟩ : ByteArray)]) ?_ 4 _ rfl; refine aZ (cs := #[.int .i64 2, .int .i64 0, .string t245, .int .i64 0, .string (⟨#[]⟩ : ByteArray)]) ?_ 3 _ rfl; refine aZ (cs := #[.int .i64 2, .int .i64 0, .string (⟨#[]⟩ : ByteArray), .int .i64 0, .string (⟨#[]⟩ : ByteArray)]) ?_ 2 _ rfl; refine aZ (cs := #[.int .i64 2, .int .i64 0, .string (⟨#[]⟩ : ByteArray), .int .i64 0, .string (⟨#[]⟩ : ByteArray)]) ?_ 1 _ rfl; refine aZ (cs := #[.int .i64 0, .int .i64 0, .string (⟨#[]⟩ : ByteArray), .int .i64 0, .string (⟨#[]⟩ : ByteArray)]) ?_ 0 _ rfl; exact BK250.out) NB250_0.out (by simp)); have n1_ := Aside0.mk (af.trans Z31 hk (.inl rfl)); have n2_ := Aside0.mk (hb); have n3_ := Aside0.mk (hi); clear BK250; clear HK; clear HB; clear HI0; have BK250 := n0_; have HK := n1_; have HB := n2_; have HI0 := n3_; clear n0_ n1_ n2_ n3_; (try clear hb)) | ((with_reducible refine gate_callee (f := 52) rfl ?_); refine goesL_ (some 11) rfl rfl Try.func52 (by kernel_rfl) rfl #[.pointer (some ⟨g, 0, none⟩), .int .i64 1] rfl Z3 ?_; (with_reducible refine (aX.calls g s0_0 t251 t252 1 t253 t254 t255 t256 t257 t258 w0 _ ?side1 ?side2 A4.out).mono ?_); (case side1 => exact Z27); (case side2 => exact Z30); rintro e w14 ⟨rfl, hi, hb, hk⟩; refine ⟨_, rfl, ?_⟩; have n0_ := Aside0.mk (af.blk hk (g' := gb250) (o := .cells #[.int .i64 2, .int .i64 0, .string t245, .int .i64 0, .string (⟨#[]⟩ : ByteArray)] 41 (0, 0)) (by exact BK250.out) NB250_0.out (by simp)); have n1_ := Aside0.mk (af.trans Z31 hk (.inl rfl)); have n2_ := Aside0.mk (hb); have n3_ := Aside0.mk (hi); clear BK250; clear HK; clear HB; clear HI0; have BK250 := n0_; have HK := n1_; have HB := n2_; have HI0 := n3_; clear n0_ n1_ n2_ n3_; (try clear hb); have hcz15_0 : w14.cell? ⟨gb250, 0, none⟩ = some (.int .i64 2) := (ag BK250.out 0).trans rfl; have hcz15_1 : w14.cell? ⟨gb250, 1, none⟩ = some (.int .i64 0) := (ag BK250.out 1).trans rfl; have hcz15_2 : w14.cell? ⟨gb250, 2, none⟩ = some (.string t245) := (ag BK250.out 2).trans rfl; have hcz15_3 : w14.cell? ⟨gb250, 3, none⟩ = some (.int .i64 0) := (ag BK250.out 3).trans rfl; have hcz15_4 : w14.cell? ⟨gb250, 4, none⟩ = some (.string (⟨#[]⟩ : ByteArray)) := (ag BK250.out 4).trans rfl; have hfz15_0 := ae BK250.out 0; have hfz15_1 := ae BK250.out 1; have hfz15_2 := ae BK250.out 2; have hfz15_3 := ae BK250.out 3; have hfz15_4 := ae BK250.out 4) | ((with_reducible refine gate_callee (f := 51) rfl ?_); refine goesL_ (some 15) rfl rfl Try.func51 (by kernel_rfl) rfl #[.pointer (some ⟨g, 0, none⟩), .string (⟨#[47]⟩ : ByteArray)] rfl Z3 ?_; (with_reducible refine (ak.calls g s0_0 t257 t258 (⟨#[47]⟩ : ByteArray) t259 t260 w0 _ ?side1 ?side2 A5.out).mono ?_); (case side1 => exact Z27); (case side2 => exact Z30); rintro e w16 ⟨rfl, hi, hb, hk⟩; refine ⟨_, rfl, ?_⟩; have n0_ := Aside0.mk (af.blk hk (g' := gb250) (o := .cells #[.int .i64 2, .int .i64 0, .string t245, .int .i64 0, .string t254] 41 (0, 0)) (by refine aZ (cs := #[.int .i64 2, .int .i64 0, .string t245, .int .i64 0, .string (⟨#[]⟩ : ByteArray)]) ?_ 4 _ rfl; exact BK250.out) NB250_0.out (by simp)); have n1_ := Aside0.mk (af.trans Z31 hk (.inl rfl)); have n2_ := Aside0.mk (hb); have n3_ := Aside0.mk (hi); clear BK250; clear HK; clear HB; clear HI0; have BK250 := n0_; have HK := n1_; have HB := n2_; have HI0 := n3_; clear n0_ n1_ n2_ n3_; (try clear hb)) | ((with_reducible refine gate_callee (f := 52) rfl ?_); refine goesL_ (some 17) rfl rfl Try.func52 (by kernel_rfl) rfl #[.pointer (some ⟨g, 0, none⟩), .int .i64 2] rfl Z3 ?_; (with_reducible refine (aX.calls g s0_0 t259 t260 2 t261 t262 t263 t264 t265 t266 w0 _ ?side1 ?side2 A6.out).mono ?_); (case side1 => exact Z27); (case side2 => exact Z30); rintro e w17 ⟨rfl, hi, hb, hk⟩; refine ⟨_, rfl, ?_⟩; have n0_ := Aside0.mk (af.blk hk (g' := gb250) (o := .cells #[.int .i64 2, .int .i64 0, .string t245, .int .i64 0, .string t254] 41 (0, 0)) (by exact BK250.out) NB250_0.out (by simp)); have n1_ := Aside0.mk (af.trans Z31 hk (.inl rfl)); have n2_ := Aside0.mk (hb); have n3_ := Aside0.mk (hi); clear BK250; clear HK; clear HB; clear HI0; have BK250 := n0_; have HK := n1_; have HB := n2_; have HI0 := n3_; clear n0_ n1_ n2_ n3_; (try clear hb); have hcz18_0 : w17.cell? ⟨gb250, 0, none⟩ = some (.int .i64 2) := (ag BK250.out 0).trans rfl; have hcz18_1 : w17.cell? ⟨gb250, 1, none⟩ = some (.int .i64 0) := (ag BK250.out 1).trans rfl; have hcz18_2 : w17.cell? ⟨gb250, 2, none⟩ = some (.string t245) := (ag BK250.out 2).trans rfl; have hcz18_3 : w17.cell? ⟨gb250, 3, none⟩ = some (.int .i64 0) := (ag BK250.out 3).trans rfl; have hcz18_4 : w17.cell? ⟨gb250, 4, none⟩ = some (.string t254) := (ag BK250.out 4).trans rfl; have hfz18_0 := ae BK250.out 0; have hfz18_1 := ae BK250.out 1; have hfz18_2 := ae BK250.out 2; have hfz18_3 := ae BK250.out 3; have hfz18_4 := ae BK250.out 4) | ((with_reducible refine gate_callee (f := 51) rfl ?_); refine goesL_ (some 21) rfl rfl Try.func51 (by kernel_rfl) rfl #[.pointer (some ⟨g, 0, none⟩), .string (⟨#[59]⟩ : ByteArray)] rfl Z3 ?_; (with_reducible refine (ak.calls g s0_0 t265 t266 (⟨#[59]⟩ : ByteArray) t267 t268 w0 _ ?side1 ?side2 A7.out).mono ?_); (case side1 => exact Z27); (case side2 => exact Z30); rintro e w19 ⟨rfl, hi, hb, hk⟩; refine ⟨_, rfl, ?_⟩; have n0_ := Aside0.mk (af.blk hk (g' := gb250) (o := .cells #[.int .i64 2, .int .i64 0, .string t245, .int .i64 t263, .string t254] 41 (0, 0)) (by refine aZ (cs := #[.int .i64 2, .int .i64 0, .string t245, .int .i64 0, .string t254]) ?_ 3 _ rfl; exact BK250.out) NB250_0.out (by simp)); have n1_ := Aside0.mk (af.trans Z31 hk (.inl rfl)); have n2_ := Aside0.mk (hb); have n3_ := Aside0.mk (hi); clear BK250; clear HK; clear HB; clear HI0; have BK250 := n0_; have HK := n1_; have HB := n2_; have HI0 := n3_; clear n0_ n1_ n2_ n3_; (try clear hb); have hcz20_0 : w19.cell? ⟨gb250, 0, none⟩ = some (.int .i64 2) := (ag BK250.out 0).trans rfl; have hcz20_1 : w19.cell? ⟨gb250, 1, none⟩ = some (.int .i64 0) := (ag BK250.out 1).trans rfl; have hcz20_2 : w19.cell? ⟨gb250, 2, none⟩ = some (.string t245) := (ag BK250.out 2).trans rfl; have hcz20_3 : w19.cell? ⟨gb250, 3, none⟩ = some (.int .i64 t263) := (ag BK250.out 3).trans rfl; have hcz20_4 : w19.cell? ⟨gb250, 4, none⟩ = some (.string t254) := (ag BK250.out 4).trans rfl; have hfz20_0 := ae BK250.out 0; have hfz20_1 := ae BK250.out 1; have hfz20_2 := ae BK250.out 2; have hfz20_3 := ae BK250.out 3; have hfz20_4 := ae BK250.out 4) | ((with_reducible refine gate_callee (f := 56) rfl ?_); refine goesL_ (some 23) rfl rfl Try.func56 (by kernel_rfl) rfl #[.agg #[.int .i64 2, .int .i64 0, .string t245, .int .i64 t263, .string t254], .slice none 0 0] rfl Z3 ?_; (refine (aj.calls k 2 0 t245 t263 t254 _ _ ([] : List (List (S41))) t269 _ ?side1 ?side2 A8.out).mono ?_); (case side1 => exact Kd.mP _ _); (case side2 => exact Nat.le_refl _); rintro e w21 ⟨v270, rfl, ho0, hb⟩; refine ⟨_, rfl, ?_⟩; have n0_ := Aside0.mk (Kd.R_lower (Kd.lw ho0 (g := gb250) (o := .cells #[.int .i64 2, .int .i64 0, .string t245, .int .i64 t263, .string t254] 41 (0, 0)) (by exact BK250.out)) (aH (w := w) (g := g) (row := none) Z31)); have n1_ := Aside0.mk (ah.below Z27 hb); have n2_ := Aside0.mk (bU (g := gb250) (o := .cells #[.int .i64 2, .int .i64 0, .string t245, .int .i64 t263, .string t254] 41 (0, 0)) (by exact BK250.out) hb); have n3_ := Aside0.mk (af.trans Z31 (af.of_below hb g none) (.inl rfl)); have n4_ := Aside0.mk (below_step Z30 hb); clear HI0; clear BK250; clear HK; clear HB; have HO271 := n0_; have HI0 := n1_; have BK250 := n2_; have HK := n3_; have HB := n4_; clear n0_ n1_ n2_ n3_ n4_; (try clear hb); (try clear ho0)))
 go_ret
 exact ⟨_, Z5, by (with_reducible repeat (first | apply Kd.R_alloc | apply Kd.R_drewN | apply Kd.R_drew)); exact Kd.bi HO271.out (fun _ hk => trivial), Z27, Z30, Z31⟩
-- BY HAND: function 86 (runtime_boundsError_Error)
/-! ### aY: function 76 -/
def aY.f (F : Fam) (k : Nat) (s0_0 : List (S38)) (s0_1 : Int) (s0_2 : Bool) (a1_0 : Int) (a1_1 : Int) (a1_2 : ByteArray) (a1_3 : Int) (a1_4 : ByteArray) : Option ((List (S41)) × Int × Bool) := (dI.f F k s0_0 s0_1 s0_2).bind fun bt273 => ((ak.f s0_0 bt273.2.1 bt273.2.2 (⟨#[59]⟩ : ByteArray)).bind fun bt278 => ((aj.f k a1_0 a1_1 a1_2 a1_3 a1_4 (([bt273.1] : List (List (S41))))).bind fun t283 => (some (t283, bt278.1, bt278.2))))
theorem aY.mono {F F' : Fam} (HLE : iG F F') : ∀ a0 a1 a2 a3 a4 a5 a6 a7 k, LeO (aY.f F k a0 a1 a2 a3 a4 a5 a6 a7) (aY.f F' (k + 1) a0 a1 a2 a3 a4 a5 a6 a7) := by
 intro a0 a1 a2 a3 a4 a5 a6 a7 k
 unfold aY.f
 repeat' first
  | (with_reducible exact aj.mono _ _ _ _ _ _ _)
  | (with_reducible exact dI.mono HLE _ _ _ _)
  | (with_reducible exact LeO.refl _)
  | (with_reducible exact LeO.none _)
  | (with_reducible refine LeO.ite ?_ ?_)
  | (with_reducible refine LeO.bind ?_ (fun _ => ?_))
  | exact aj.mono _ _ _ _ _ _ _
  | exact dI.mono HLE _ _ _ _
  | exact LeO.none _
  | refine LeO.ite ?_ ?_
  | refine LeO.bind ?_ (fun _ => ?_)
set_option maxHeartbeats 8000000 in
set_option maxRecDepth 100000 in
theorem aY.calls (F : Fam) (HF : jL F) (k : Nat) (g : Nat) (s0_0 : List (S38)) (s0_1 : Int) (s0_2 : Bool) (a1_0 : Int) (a1_1 : Int) (a1_2 : ByteArray) (a1_3 : Int) (a1_4 : ByteArray) (r1 : List (S41)) (r2 : Int) (r3 : Bool) (w0 w : World) (hI : ah w0 w g s0_0 s0_1 s0_2) (hB : Below w0.heap.size w0 w) (h : aY.f F k s0_0 s0_1 s0_2 a1_0 a1_1 a1_2 a1_3 a1_4 = some (r1, r2, r3)) :
 Calls Try.prog 76 #[.pointer (some ⟨g, 0, none⟩), .agg #[.int .i64 a1_0, .int .i64 a1_1, .string a1_2, .int .i64 a1_3, .string a1_4]] w fun e w' => ∃ v0_ : Value, e = .returned (v0_) ∧ Kd.R k41 41 w' w.heap.size (fun _ => True) v0_ r1 ∧ ah w0 w' g s0_0 r2 r3 ∧ Below w0.heap.size w0 w' ∧ af w w' g none := by
 have hu41 := Try.underlying41
 have HI0 := Aside0.mk hI
 have HK := Aside0.mk (af.refl w g none)
 have HL := Aside0.mk hB.size
 clear hI
 have HW0 := Aside0.mk hB.size
 have HB := Aside0.mk hB
 clear hB
 have H : ((dI.f F k s0_0 s0_1 s0_2).bind fun bt273 => ((ak.f s0_0 bt273.2.1 bt273.2.2 (⟨#[59]⟩ : ByteArray)).bind fun bt278 => ((aj.f k a1_0 a1_1 a1_2 a1_3 a1_4 (([bt273.1] : List (List (S41))))).bind fun t283 => (some (t283, bt278.1, bt278.2))))) = some (r1, r2, r3) := h
 clear h
 replace H := Option.bind_eq_some_iff.mp H
 obtain ⟨⟨t273, t276, t277⟩, A30, H⟩ := H
 try dsimp only at H
 have A3 := Aside0.mk A30
 clear A30
 replace H := Option.bind_eq_some_iff.mp H
 obtain ⟨⟨t278, t279⟩, A40, H⟩ := H
 replace H : ((aj.f k a1_0 a1_1 a1_2 a1_3 a1_4 (([t273] : List (List (S41))))).bind fun t283 => (some (t283, t278, t279))) = some (r1, r2, r3) := H
 have A4 := Aside0.mk A40
 clear A40
 obtain ⟨y280, hy280⟩ : ∃ y_ : List (List (S41)), y_ = (([t273] : List (List (S41)))) := ⟨_, rfl⟩
 replace H : ((aj.f k a1_0 a1_1 a1_2 a1_3 a1_4 y280).bind fun t283 => (some (t283, t278, t279))) = some (r1, r2, r3) := by first | (rw [hy280]; with_reducible exact H) | (have H2_ := (Option.bind_some _ _).symm.trans H; rw [hy280]; with_reducible exact H2_) | (have H2_ := (Option.bind_some _ _).symm.trans H; with_reducible exact H2_) | with_reducible exact H | (rw [hy280]; exact H) | exact H
 have Ny280 := Aside0.mk hy280
 clear hy280
 replace H := Option.bind_eq_some_iff.mp H
 obtain ⟨t283, A50, H⟩ := H
 replace H : (some (t283, t278, t279)) = some (r1, r2, r3) := H
 have A5 := Aside0.mk A50
 clear A50
 simp only [Option.some.injEq, Prod.mk.injEq] at H
 obtain ⟨rfl, rfl, rfl⟩ := H
 go_enter Try.func76, Try.ntmps76
 go_wp2_with (first | ((with_reducible refine bP (N := 3) rfl ?_); refine bT ?hg (N := 3) ?hd (cs := #[.int .i64 a1_0, .int .i64 a1_1, .string a1_2, .int .i64 a1_3, .string a1_4]) (t := 41) ?hr ?_; (case hd => rfl); (case hg => rfl); (case hr => first | (go_simp; done) | (go_simp; rfl)); intro gb272 hg w6 hbox hb; have n0_ := Aside0.mk (ah.below Z0 hb); have n1_ := Aside0.mk (af.trans Z1 (af.of_below hb g none) (.inl rfl)); have n2_ := Aside0.mk (below_step Z2 hb); have n3_ := Aside0.mk (hbox); have n4_ := Aside0.mk ((by rw [hg]; exact (aH (w := w) (g := g) (row := none) Z1) : w.heap.size ≤ gb272)); have n5_ := Aside0.mk ((Nat.le_trans HW0.out (by rw [hg]; exact (aH (w := w) (g := g) (row := none) Z1) : w.heap.size ≤ gb272) : w0.heap.size ≤ gb272)); have n6_ := Aside0.mk ((by rw [hg]; exact Nat.ne_of_lt (ah.lt (show ah w0 _ g s0_0 s0_1 s0_2 from Z0)) : g ≠ gb272)); have n7_ := Aside0.mk ((by rw [hg]; exact Nat.ne_of_gt (ah.lt (show ah w0 _ g s0_0 s0_1 s0_2 from Z0)) : gb272 ≠ g)); clear HI0; clear HK; clear HB; have HI0 := n0_; have HK := n1_; have HB := n2_; have BK272 := n3_; have GW272 := n4_; have GE272 := n5_; have NB0_272 := n6_; have NB272_0 := n7_; clear n0_ n1_ n2_ n3_ n4_ n5_ n6_ n7_; clear hb hbox hg) | ((with_reducible refine gate_callee (f := 77) rfl ?_); refine goesL_ (some 7) rfl rfl Try.func77 (by kernel_rfl) rfl #[.pointer (some ⟨g, 0, none⟩)] rfl Z3 ?_; (with_reducible refine (dI.calls F HF k g s0_0 s0_1 s0_2 t273 t276 t277 w0 _ ?side1 ?side2 A3.out).mono ?_); (case side1 => exact Z28); (case side2 => exact Z38); rintro e w7 ⟨v274, rfl, ho0, hi, hb, hk⟩; refine ⟨_, rfl, ?_⟩; have n0_ := Aside0.mk (af.blk hk (g' := gb272) (o := .cells #[.int .i64 a1_0, .int .i64 a1_1, .string a1_2, .int .i64 a1_3, .string a1_4] 41 (0, 0)) (by exact BK272.out) NB272_0.out (by simp)); have n1_ := Aside0.mk (Kd.R_lower (Kd.lw ho0 (g := gb272) (o := .cells #[.int .i64 a1_0, .int .i64 a1_1, .string a1_2, .int .i64 a1_3, .string a1_4] 41 (0, 0)) (by exact BK272.out)) (aH (w := w) (g := g) (row := none) Z32)); have n2_ := Aside0.mk (af.trans Z32 hk (.inl rfl)); have n3_ := Aside0.mk (hb); have n4_ := Aside0.mk (hi); clear BK272; clear HK; clear HB; clear HI0; have BK272 := n0_; have HO275 := n1_; have HK := n2_; have HB := n3_; have HI0 := n4_; clear n0_ n1_ n2_ n3_ n4_; (try clear hb); (try clear ho0)) | ((with_reducible refine gate_callee (f := 51) rfl ?_); refine goesL_ (some 9) rfl rfl Try.func51 (by kernel_rfl) rfl #[.pointer (some ⟨g, 0, none⟩), .string (⟨#[59]⟩ : ByteArray)] rfl Z3 ?_; (with_reducible refine (ak.calls g s0_0 t276 t277 (⟨#[59]⟩ : ByteArray) t278 t279 w0 _ ?side1 ?side2 A4.out).mono ?_); (case side1 => exact Z28); (case side2 => exact Z38); rintro e w8 ⟨rfl, hi, hb, hk⟩; refine ⟨_, rfl, ?_⟩; have n0_ := Aside0.mk (af.blk hk (g' := gb272) (o := .cells #[.int .i64 a1_0, .int .i64 a1_1, .string a1_2, .int .i64 a1_3, .string a1_4] 41 (0, 0)) (by exact BK272.out) NB272_0.out (by simp)); have n1_ := Aside0.mk (Kd.bi (Kd.gz (ah.apart (show ah w0 _ g s0_0 t276 t277 from Z28) (by (with_reducible repeat (first | apply Kd.R_alloc | apply Kd.R_drewN | apply Kd.R_drew)); exact HO275.out) (by decide)) hk (fun _ h => h.2)) (fun _ h => h.1)); have n2_ := Aside0.mk (af.trans Z32 hk (.inl rfl)); have n3_ := Aside0.mk (hb); have n4_ := Aside0.mk (hi); clear BK272; clear HO275; clear HK; clear HB; clear HI0; have BK272 := n0_; have HO275 := n1_; have HK := n2_; have HB := n3_; have HI0 := n4_; clear n0_ n1_ n2_ n3_ n4_; (try clear hb); have hnb9 := NB272_0.out; have hnc9 := NB0_272.out; have hcz10_0 : w8.cell? ⟨gb272, 0, none⟩ = some (.int .i64 a1_0) := (ag BK272.out 0).trans rfl; have hcz10_1 : w8.cell? ⟨gb272, 1, none⟩ = some (.int .i64 a1_1) := (ag BK272.out 1).trans rfl; have hcz10_2 : w8.cell? ⟨gb272, 2, none⟩ = some (.string a1_2) := (ag BK272.out 2).trans rfl; have hcz10_3 : w8.cell? ⟨gb272, 3, none⟩ = some (.int .i64 a1_3) := (ag BK272.out 3).trans rfl; have hcz10_4 : w8.cell? ⟨gb272, 4, none⟩ = some (.string a1_4) := (ag BK272.out 4).trans rfl; have hfz10_0 := ae BK272.out 0; have hfz10_1 := ae BK272.out 1; have hfz10_2 := ae BK272.out 2; have hfz10_3 := ae BK272.out 3; have hfz10_4 := ae BK272.out 4; obtain ⟨Ao11, co11, eo11⟩ := Kd.R_slice HO275.out; subst eo11) | ((with_reducible refine bP (N := 12) rfl ?_); refine Kd.lU (Kd.slice 41 k41) _ 23 ?hg (N' := 12) ?hd (xs := ([t273] : List (List (S41)))) (inner := [.slice Ao11 t273.length co11]) (ok := (fun k_ => k_ ≠ gb272 ∧ k_ ≠ g)) (okp := (fun k_ => k_ ≠ gb272 ∧ k_ ≠ g)) ?hr ?hp (fun _ hk => hk) ((show ∀ k_, w8.heap.size ≤ k_ → (fun k_ => k_ ≠ gb272 ∧ k_ ≠ g) k_ from fun k_ hk => ⟨Kd.ng (g := gb272) (o := .cells #[.int .i64 a1_0, .int .i64 a1_1, .string a1_2, .int .i64 a1_3, .string a1_4] 41 (0, 0)) (by exact BK272.out) k_ hk, ah.fresh Z28 k_ hk⟩) _ (Nat.le_refl _)) (Below.refl _ _) (Nat.le_refl _) (by simp) ?_; (case hd => rfl); (case hg => rfl); (case hr => first | (go_simp; done) | (go_simp; rfl)); (case hp => exact (dw.one (show Kd.FK (Kd.slice 41 k41) _ _ t273 [.slice Ao11 t273.length co11] from (Kd.dF (Kd.R_reads' (Kd.bi (ok' := (fun k_ => k_ ≠ gb272 ∧ k_ ≠ g)) (ah.apart HI0.out (HO275.out) (by decide)) (fun k_ hk => ⟨hk.1.2, hk.2⟩))).2.1 (Kd.R_F (Kd.bi (ok' := (fun k_ => k_ ≠ gb272 ∧ k_ ≠ g)) (ah.apart HI0.out (HO275.out) (by decide)) (fun k_ hk => ⟨hk.1.2, hk.2⟩))))) (dw.none _ _))); intro v281 w12 ho13 hb hg_ hnew_; clear hg_ hnew_; (first | rw [← Ny280.out] at ho13 | (simp only [Int.reduceToNat] at ho13; rw [← Ny280.out] at ho13)); have n0_ := Aside0.mk (Kd.iL ho13 (aH (w := w) (g := g) (row := none) Z32)); have n1_ := Aside0.mk (ah.below Z28 hb); have n2_ := Aside0.mk (bU (g := gb272) (o := .cells #[.int .i64 a1_0, .int .i64 a1_1, .string a1_2, .int .i64 a1_3, .string a1_4] 41 (0, 0)) (by exact BK272.out) hb); have n3_ := Aside0.mk (af.trans Z32 (af.of_below hb g none) (.inl rfl)); have n4_ := Aside0.mk (below_step Z38 hb); clear HI0; clear BK272; clear HK; clear HB; clear HO275; have HO282 := n0_; have HI0 := n1_; have BK272 := n2_; have HK := n3_; have HB := n4_; clear n0_ n1_ n2_ n3_ n4_; clear hb ho13; obtain ⟨Ao14, co14, eo14⟩ := Kd.iK HO282.out; subst eo14) | ((with_reducible refine gate_callee (f := 56) rfl ?_); refine goesL_ (some 13) rfl rfl Try.func56 (by kernel_rfl) rfl #[.agg #[.int .i64 a1_0, .int .i64 a1_1, .string a1_2, .int .i64 a1_3, .string a1_4], .slice Ao14 y280.length co14] rfl Z3 ?_; (with_reducible refine (aj.calls k a1_0 a1_1 a1_2 a1_3 a1_4 _ _ y280 t283 _ ?side1 ?side2 A5.out).mono ?_); (case side1 => repeat (first | exact (Kd.dQ HO282.out).2.2 | (with_reducible refine Kd.C_alloc ?_ _) | (with_reducible refine Kd.C_drewN ?_ _) | (with_reducible refine Kd.C_drew ?_))); (case side2 => exact (Kd.dQ HO282.out).2.1); rintro e w15 ⟨v284, rfl, ho0, hb⟩; refine ⟨_, rfl, ?_⟩; have n0_ := Aside0.mk (Kd.gW (by (with_reducible repeat (first | apply Kd.eH | apply Kd.eG | apply Kd.fK)); exact HO282.out) (Kd.dH ho0) hb); have n1_ := Aside0.mk (Kd.R_lower (Kd.lw ho0 (g := gb272) (o := .cells #[.int .i64 a1_0, .int .i64 a1_1, .string a1_2, .int .i64 a1_3, .string a1_4] 41 (0, 0)) (by exact BK272.out)) (aH (w := w) (g := g) (row := none) Z32)); have n2_ := Aside0.mk (ah.below Z28 hb); have n3_ := Aside0.mk (bU (g := gb272) (o := .cells #[.int .i64 a1_0, .int .i64 a1_1, .string a1_2, .int .i64 a1_3, .string a1_4] 41 (0, 0)) (by exact BK272.out) hb); have n4_ := Aside0.mk (af.trans Z32 (af.of_below hb g none) (.inl rfl)); have n5_ := Aside0.mk (below_step Z38 hb); clear HO282; clear HI0; clear BK272; clear HK; clear HB; have HO282 := n0_; have HO285 := n1_; have HI0 := n2_; have BK272 := n3_; have HK := n4_; have HB := n5_; clear n0_ n1_ n2_ n3_ n4_ n5_; (try clear hb); (try clear ho0)))
 go_ret
 exact ⟨_, Z5, by (with_reducible repeat (first | apply Kd.R_alloc | apply Kd.R_drewN | apply Kd.R_drew)); exact Kd.bi HO285.out (fun _ hk => trivial), Z28, Z38, Z32⟩
/-! ### bM: function 78 -/
def bM.f (k : Nat) (s0_0 : List (S38)) (s0_1 : Int) (s0_2 : Bool) (a1 : Int) : Option ((List (S41)) × Int × Bool) := (ak.f s0_0 s0_1 s0_2 (⟨#[59]⟩ : ByteArray)).bind fun bt286 => ((aj.f k a1 0 (⟨#[]⟩ : ByteArray) 0 (⟨#[]⟩ : ByteArray) ([] : List (List (S41)))).bind fun t288 => (some (t288, bt286.1, bt286.2)))
theorem bM.mono : ∀ a0 a1 a2 a3 k, LeO (bM.f k a0 a1 a2 a3) (bM.f (k + 1) a0 a1 a2 a3) := by
 intro a0 a1 a2 a3 k
 unfold bM.f
 repeat' first
  | (with_reducible exact aj.mono _ _ _ _ _ _ _)
  | (with_reducible exact LeO.refl _)
  | (with_reducible exact LeO.none _)
  | (with_reducible refine LeO.ite ?_ ?_)
  | (with_reducible refine LeO.bind ?_ (fun _ => ?_))
  | exact aj.mono _ _ _ _ _ _ _
  | exact LeO.none _
  | refine LeO.ite ?_ ?_
  | refine LeO.bind ?_ (fun _ => ?_)
set_option maxHeartbeats 8000000 in
set_option maxRecDepth 100000 in
theorem bM.calls (k : Nat) (g : Nat) (s0_0 : List (S38)) (s0_1 : Int) (s0_2 : Bool) (a1 : Int) (r1 : List (S41)) (r2 : Int) (r3 : Bool) (w0 w : World) (hI : ah w0 w g s0_0 s0_1 s0_2) (hB : Below w0.heap.size w0 w) (h : bM.f k s0_0 s0_1 s0_2 a1 = some (r1, r2, r3)) :
 Calls Try.prog 78 #[.pointer (some ⟨g, 0, none⟩), .int .i64 a1] w fun e w' => ∃ v0_ : Value, e = .returned (v0_) ∧ Kd.R k41 41 w' w.heap.size (fun _ => True) v0_ r1 ∧ ah w0 w' g s0_0 r2 r3 ∧ Below w0.heap.size w0 w' ∧ af w w' g none := by
 have hu41 := Try.underlying41
 have HI0 := Aside0.mk hI
 have HK := Aside0.mk (af.refl w g none)
 have HL := Aside0.mk hB.size
 clear hI
 have HW0 := Aside0.mk hB.size
 have HB := Aside0.mk hB
 clear hB
 have H : ((ak.f s0_0 s0_1 s0_2 (⟨#[59]⟩ : ByteArray)).bind fun bt286 => ((aj.f k a1 0 (⟨#[]⟩ : ByteArray) 0 (⟨#[]⟩ : ByteArray) ([] : List (List (S41)))).bind fun t288 => (some (t288, bt286.1, bt286.2)))) = some (r1, r2, r3) := h
 clear h
 replace H := Option.bind_eq_some_iff.mp H
 obtain ⟨⟨t286, t287⟩, A30, H⟩ := H
 replace H : ((aj.f k a1 0 (⟨#[]⟩ : ByteArray) 0 (⟨#[]⟩ : ByteArray) ([] : List (List (S41)))).bind fun t288 => (some (t288, t286, t287))) = some (r1, r2, r3) := H
 have A3 := Aside0.mk A30
 clear A30
 replace H := Option.bind_eq_some_iff.mp H
 obtain ⟨t288, A40, H⟩ := H
 replace H : (some (t288, t286, t287)) = some (r1, r2, r3) := H
 have A4 := Aside0.mk A40
 clear A40
 simp only [Option.some.injEq, Prod.mk.injEq] at H
 obtain ⟨rfl, rfl, rfl⟩ := H
 go_enter Try.func78, Try.ntmps78
 go_wp2_with (first | ((with_reducible refine gate_callee (f := 51) rfl ?_); refine goesL_ (some 6) rfl rfl Try.func51 (by kernel_rfl) rfl #[.pointer (some ⟨g, 0, none⟩), .string (⟨#[59]⟩ : ByteArray)] rfl Z3 ?_; (with_reducible refine (ak.calls g s0_0 s0_1 s0_2 (⟨#[59]⟩ : ByteArray) t286 t287 w0 _ ?side1 ?side2 A3.out).mono ?_); (case side1 => exact Z0); (case side2 => exact Z2); rintro e w5 ⟨rfl, hi, hb, hk⟩; refine ⟨_, rfl, ?_⟩; have n0_ := Aside0.mk (af.trans Z1 hk (.inl rfl)); have n1_ := Aside0.mk (hb); have n2_ := Aside0.mk (hi); clear HK; clear HB; clear HI0; have HK := n0_; have HB := n1_; have HI0 := n2_; clear n0_ n1_ n2_; (try clear hb)) | ((with_reducible refine gate_callee (f := 56) rfl ?_); refine goesL_ (some 9) rfl rfl Try.func56 (by kernel_rfl) rfl #[.agg #[.int .i64 a1, .int .i64 0, .string (⟨#[]⟩ : ByteArray), .int .i64 0, .string (⟨#[]⟩ : ByteArray)], .slice none 0 0] rfl Z3 ?_; (refine (aj.calls k a1 0 (⟨#[]⟩ : ByteArray) 0 (⟨#[]⟩ : ByteArray) _ _ ([] : List (List (S41))) t288 _ ?side1 ?side2 A4.out).mono ?_); (case side1 => exact Kd.mP _ _); (case side2 => exact Nat.le_refl _); rintro e w6 ⟨v289, rfl, ho0, hb⟩; refine ⟨_, rfl, ?_⟩; have n0_ := Aside0.mk (Kd.R_lower ho0 (aH (w := w) (g := g) (row := none) Z1)); have n1_ := Aside0.mk (ah.below Z0 hb); have n2_ := Aside0.mk (af.trans Z1 (af.of_below hb g none) (.inl rfl)); have n3_ := Aside0.mk (below_step Z2 hb); clear HI0; clear HK; clear HB; have HO290 := n0_; have HI0 := n1_; have HK := n2_; have HB := n3_; clear n0_ n1_ n2_ n3_; (try clear hb); (try clear ho0)))
 go_ret
 exact ⟨_, Z5, by (with_reducible repeat (first | apply Kd.R_alloc | apply Kd.R_drewN | apply Kd.R_drew)); exact HO290.out, Z0, Z2, Z1⟩
/-! ### ed: function 81 -/
def ed.f (k : Nat) (l0 : List (S41)) (a1 : Int) : Option ((List (S41))) := (bC.f k l0 a1).bind fun t291 => (if t291 < 0 then (some ([] : List (S41))) else (if 0 ≤ a1 then (if a1 ≤ t291 then (if t291 ≤ (l0.length : Int) then ((some ((l0.take (t291 : Int).toNat).drop (a1 : Int).toNat : List (S41))).bind fun y292 => (if ([] : List (S41)).length + y292.length < 2513169434916 then (some (([] : List (S41)) ++ y292)) else (none))) else (none)) else (none)) else (none)))
theorem ed.mono : ∀ a0 a1 k, LeO (ed.f k a0 a1) (ed.f (k + 1) a0 a1) := by
 intro a0 a1 k
 unfold ed.f
 repeat' first
  | (with_reducible exact bC.mono _ _ _)
  | (with_reducible exact LeO.refl _)
  | (with_reducible exact LeO.none _)
  | (with_reducible refine LeO.ite ?_ ?_)
  | (with_reducible refine LeO.bind ?_ (fun _ => ?_))
  | exact bC.mono _ _ _
  | exact LeO.none _
  | refine LeO.ite ?_ ?_
  | refine LeO.bind ?_ (fun _ => ?_)
set_option maxHeartbeats 8000000 in
set_option maxRecDepth 100000 in
theorem ed.calls (k : Nat) (A0 : Option Addr) (c0 : Nat) (l0 : List (S41)) (a1 : Int) (r : List (S41)) (w : World) (hr0 : Kd.C k41 w A0 l0.length l0) (hc0 : l0.length ≤ c0) (h : ed.f k l0 a1 = some r) :
 Calls Try.prog 81 #[.slice A0 l0.length c0, .int .i64 a1] w fun e w' => ∃ v0_ : Value, e = .returned (v0_) ∧ Kd.R k41 41 w' w.heap.size (fun _ => True) v0_ r ∧ Below w.heap.size w w' := by
 have HR0 := Aside0.mk hr0
 have HC0 := Aside0.mk hc0
 clear hr0 hc0
 have HB := Aside0.mk (Below.refl w.heap.size w)
 have H : ((bC.f k l0 a1).bind fun t291 => (if t291 < 0 then (some ([] : List (S41))) else (if 0 ≤ a1 then (if a1 ≤ t291 then (if t291 ≤ (l0.length : Int) then ((some ((l0.take (t291 : Int).toNat).drop (a1 : Int).toNat : List (S41))).bind fun y292 => (if ([] : List (S41)).length + y292.length < 2513169434916 then (some (([] : List (S41)) ++ y292)) else (none))) else (none)) else (none)) else (none)))) = some r := h
 clear h
 replace H := Option.bind_eq_some_iff.mp H
 obtain ⟨t291, A30, H⟩ := H
 try dsimp only at H
 have A3 := Aside0.mk A30
 clear A30
 by_cases c4 : t291 < 0
 ·rw [if_pos c4] at H
  have c4b0 : decide (t291 < 0) = true := decide_eq_true c4
  clear c4
  obtain rfl := Option.some.inj H
  go_enter Try.func81, Try.ntmps81
  go_wp2_with (first | ((with_reducible refine gate_callee (f := 17) rfl ?_); refine goesL_ (some 8) rfl rfl Try.func17 (by kernel_rfl) rfl #[.slice A0 l0.length c0, .int .i64 a1] rfl Z3 ?_; (with_reducible refine (bC.calls k _ _ l0 a1 t291 _ ?side1 ?side2 A3.out).mono ?_); (case side1 => exact Z47); (case side2 => exact HC0.out); rintro e w' ⟨rfl, ⟨nd, rfl⟩⟩; refine ⟨_, rfl, ?_⟩))
  go_ret
  exact ⟨_, Z5, Z23, Z4⟩
 rw [if_neg c4] at H
 have c4b0 : decide (t291 < 0) = false := decide_eq_false c4
 clear c4
 by_cases c5 : 0 ≤ a1
 ·rw [if_pos c5] at H
  have c5b0 := eq_true c5
  have c5b1 : decide (0 ≤ a1) = true := decide_eq_true c5
  clear c5
  by_cases c6 : a1 ≤ t291
  ·rw [if_pos c6] at H
   have c6b0 := eq_true c6
   have c6b1 : decide (a1 ≤ t291) = true := decide_eq_true c6
   clear c6
   by_cases c7 : t291 ≤ (l0.length : Int)
   ·rw [if_pos c7] at H
    have c7b0 := eq_true c7
    have c7b1 : decide (t291 ≤ (l0.length : Int)) = true := decide_eq_true c7
    clear c7
    obtain ⟨y292, hy292⟩ : ∃ y_ : List (S41), y_ = ((l0.take (t291 : Int).toNat).drop (a1 : Int).toNat) := ⟨_, rfl⟩
    replace H : (if ([] : List (S41)).length + y292.length < 2513169434916 then (some (([] : List (S41)) ++ y292)) else (none)) = some r := by first | (rw [hy292]; with_reducible exact H) | (have H2_ := (Option.bind_some _ _).symm.trans H; rw [hy292]; with_reducible exact H2_) | (have H2_ := (Option.bind_some _ _).symm.trans H; with_reducible exact H2_) | with_reducible exact H | (rw [hy292]; exact H) | exact H
    have Ny292 := Aside0.mk hy292
    clear hy292
    by_cases c8 : ([] : List (S41)).length + y292.length < 2513169434916
    ·rw [if_pos c8] at H
     have LMc8 := Aside0.mk c8
     clear c8
     obtain ⟨y296, hy296⟩ : ∃ y_ : List (S41), y_ = (([] : List (S41)) ++ y292) := ⟨_, rfl⟩
     replace H : (some y296) = some r := by first | (rw [hy296]; with_reducible exact H) | (have H2_ := (Option.bind_some _ _).symm.trans H; rw [hy296]; with_reducible exact H2_) | (have H2_ := (Option.bind_some _ _).symm.trans H; with_reducible exact H2_) | with_reducible exact H | (rw [hy296]; exact H) | exact H
     have Ny296 := Aside0.mk hy296
     clear hy296
     obtain rfl := Option.some.inj H
     go_enter Try.func81, Try.ntmps81
     go_wp2_with (first | ((with_reducible refine gate_callee (f := 17) rfl ?_); refine goesL_ (some 8) rfl rfl Try.func17 (by kernel_rfl) rfl #[.slice A0 l0.length c0, .int .i64 a1] rfl Z3 ?_; (with_reducible refine (bC.calls k _ _ l0 a1 t291 _ ?side1 ?side2 A3.out).mono ?_); (case side1 => exact Z47); (case side2 => exact HC0.out); rintro e w' ⟨rfl, ⟨nd, rfl⟩⟩; refine ⟨_, rfl, ?_⟩; have q9 : (t291 : Int) ≤ ((l0.length : Int) : Int) := of_decide_eq_true Z8; obtain ⟨i09, hi09, _, hsz9, _⟩ := info_parts vW; have hroom9 : l0.length ≤ c0 := HC0.out; have hC9 : Kd.C k41 _ A0 l0.length l0 := HR0.out; have ql9 : (a1 : Int) ≤ (t291 : Int) := of_decide_eq_true Z8; have q09 : (0 : Int) ≤ (a1 : Int) := of_decide_eq_true Z8; have hcut9 := cut_mid (P := Try.prog) 23 41 .i64 .i64 Try.underlying23 hi09 5 hsz9 A0 l0.length c0 a1 t291 q09 ql9 q9 hroom9; have hr9 := Kd.C_mid (lo := (a1 : Int).toNat) (hi := (t291 : Int).toNat) (c := c0) hC9 (by omega) (by omega) hroom9; obtain ⟨A9, hA9⟩ : ∃ A1, A1 = (if c0 = (a1 : Int).toNat then A0 else (A0 : Option Addr).map (·.add ((a1 : Int).toNat * 5))) := ⟨_, rfl⟩; obtain ⟨c9, hc9⟩ : ∃ c1, c1 = c0 - (a1 : Int).toNat := ⟨_, rfl⟩; have hy9 : y292.length = (t291 : Int).toNat - (a1 : Int).toNat := (by rw [Ny292.out, List.length_drop, List.length_take] <;> omega); rw [show ((l0).take (t291 : Int).toNat).drop (a1 : Int).toNat = y292 from Ny292.out.symm] at hr9; replace hr9 : Kd.C k41 _ A9 y292.length y292 := (by rw [hA9]; exact hr9); rw [← hy9, ← hA9, ← hc9] at hcut9; have HR295 := Aside0.mk hr9; have HC295 := Aside0.mk (show y292.length ≤ c9 from by rw [hy9, hc9]; exact Nat.sub_le_sub_right (Nat.le_trans (by omega) hroom9) _); clear hr9 hC9 hroom9 hi09 hsz9 hc9; have KY9 := Aside0.mk hy9; have KA9 := Aside0.mk hA9; clear hy9 hA9; replace q9 := eq_true q9) | ((with_reducible refine dD (b := .append) (xs := #[.const (.slice none 0 0), .tmp 14]) rfl ?_); at_builtin; refine Kd.kU k41 (w0 := w) w.heap.size rfl (.const (.slice none 0 0)) (.tmp 14) 23 41 (.agg #[(.int .i64 0), (.int .i64 0), (.string ⟨#[]⟩), (.int .i64 0), (.string ⟨#[]⟩)]) 56 rfl Try.underlying23 vW rfl (by decide) (by omega) (.slice none 0 0) ([] : List (S41)) y292 _ _ _ (fun _ => True) (fun _ => False) rfl rfl ?aO ?aR (fun _ _ h => h) (fun _ h => h.elim) ?aF ?aB ?aS ?aL ?_; (case aR => repeat (first | exact HR295.out | (with_reducible refine Kd.C_alloc ?_ _) | (with_reducible refine Kd.C_drewN ?_ _) | (with_reducible refine Kd.C_drew ?_))); (case aB => exact Z4); (case aF => exact (fun _ _ => trivial)); (case aO => exact ((Kd.nT _ _ _ _ (fun _ => True)))); (case aS => exact (below_size Z4)); (case aL => have := LMc8.out; omega); intro v297 w10 ho hb hg hat; rw [← Ny296.out] at ho; have n0_ := Aside0.mk (hb); have n1_ := Aside0.mk (ho); clear HB; have HB := n0_; have HO298 := n1_; clear n0_ n1_; clear ho hb hg hat))
     go_ret
     exact ⟨_, Z5, by (with_reducible repeat (first | apply Kd.R_alloc | apply Kd.R_drewN | apply Kd.R_drew)); exact HO298.out, Z4⟩
    rw [if_neg c8] at H
    exact absurd H (by simp)
   rw [if_neg c7] at H
   exact absurd H (by simp)
  rw [if_neg c6] at H
  exact absurd H (by simp)
 rw [if_neg c5] at H
 exact absurd H (by simp)
end Go.Proofs.Ytendgafpkeadhaa.Q
end
