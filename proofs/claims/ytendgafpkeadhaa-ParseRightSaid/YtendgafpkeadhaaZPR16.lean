/- Walks over functions of the program, words for them, and what the functions come to; of each text only what this claim uses; no condition. -/
import Derived.Test.YtendgafpkeadhaaZPR0
import Derived.Test.YtendgafpkeadhaaZPR3
import Derived.Test.YtendgafpkeadhaaZPR7
import Derived.Test.YtendgafpkeadhaaZPR9
import Derived.Test.YtendgafpkeadhaaZPR10
import Derived.Test.YtendgafpkeadhaaZPR13
import Derived.Test.YtendgafpkeadhaaZPR15
section
namespace Go.Proofs.Ytendgafpkeadhaa.Q
open Go.RowKit Go.Proofs.YtendgafpkeadhaaW.PrintWords Go.Proofs.YtendgafpkeadhaaW.PrintLast Go.Proofs.YtendgafpkeadhaaW.PrintMore
attribute [local go_sem] ik ig gZ gY max2_int min2_int max_two min_two max_three min_three max_four min_four
set_option linter.unusedVariables false
set_option linter.unusedSimpArgs false
-- BY HAND: function 88 (runtime_errorString_Error)
/-! ### aQ: function 80 -/
def aQ.l0 (F : Fam) : Nat → Int → List (S41) → List (S38) → Int → Bool → Option ((List (S41)) × Int × Bool)
 | 0, _, _, _, _, _ => none
 | k + 1, x1, x5, x1000, x1001, x1002 => if x1002 = true then (some (x5, x1001, x1002)) else ((aV.f x1000 x1001 x1002).bind fun bt768 => ((bz.f k bt768.1).bind fun t771 => (if t771 = x1 then ((au.f x1000 bt768.2.1 bt768.2.2 bt768.1).bind fun bt772 => ((jc.f F k x1000 bt772.2.1 bt772.2.2 (wrap64 (x1 + 1))).bind fun bt775 => ((aj.f k 27 0 (⟨#[]⟩ : ByteArray) 0 bt768.1 (([x5, bt775.1] : List (List (S41))))).bind fun t783 => (if x1 = 3 then (some (t783, bt775.2.1, bt775.2.2)) else (aQ.l0 F k x1 t783 x1000 bt775.2.1 bt775.2.2))))) else (some (x5, bt768.2.1, bt768.2.2)))))
def aQ.f (F : Fam) (k : Nat) (s0_0 : List (S38)) (s0_1 : Int) (s0_2 : Bool) (a1 : Int) : Option ((List (S41)) × Int × Bool) := if a1 = 6 then ((ay.f F k s0_0 s0_1 s0_2).bind fun bt758 => (some (bt758.1, bt758.2.1, bt758.2.2))) else ((jc.f F k s0_0 s0_1 s0_2 (wrap64 (a1 + 1))).bind fun bt763 => (aQ.l0 F k a1 bt763.1 s0_0 bt763.2.1 bt763.2.2))
theorem aQ.mono_l {F F' : Fam} (HLE : iG F F') : ∀ k, (∀ y0 y1 y2 y3 y4, LeO (aQ.l0 F k y0 y1 y2 y3 y4) (aQ.l0 F' (k + 1) y0 y1 y2 y3 y4))
 | 0 => fun _ _ _ _ _ r h => by simp [aQ.l0] at h
 | k + 1 => by
  have ih0 := aQ.mono_l HLE k
  intro y0 y1 y2 y3 y4
  unfold aQ.l0
  repeat' first
  | (with_reducible exact ih0 _ _ _ _ _)
  | (with_reducible exact aj.mono _ _ _ _ _ _ _)
  | (with_reducible exact ay.mono HLE _ _ _ _)
  | (with_reducible exact bz.mono _ _)
  | (with_reducible exact jc.mono HLE _ _ _ _ _)
  | (with_reducible exact LeO.refl _)
  | (with_reducible exact LeO.none _)
  | (with_reducible refine LeO.ite ?_ ?_)
  | (with_reducible refine LeO.bind ?_ (fun _ => ?_))
  | exact ih0 _ _ _ _ _
  | exact aj.mono _ _ _ _ _ _ _
  | exact ay.mono HLE _ _ _ _
  | exact bz.mono _ _
  | exact jc.mono HLE _ _ _ _ _
  | exact LeO.none _
  | refine LeO.ite ?_ ?_
  | refine LeO.bind ?_ (fun _ => ?_)
theorem aQ.mono {F F' : Fam} (HLE : iG F F') : ∀ a0 a1 a2 a3 k, LeO (aQ.f F k a0 a1 a2 a3) (aQ.f F' (k + 1) a0 a1 a2 a3) := by
 intro a0 a1 a2 a3 k
 have ih0 := aQ.mono_l HLE k
 unfold aQ.f
 repeat' first
  | (with_reducible exact ih0 _ _ _ _ _)
  | (with_reducible exact aj.mono _ _ _ _ _ _ _)
  | (with_reducible exact ay.mono HLE _ _ _ _)
  | (with_reducible exact bz.mono _ _)
  | (with_reducible exact jc.mono HLE _ _ _ _ _)
  | (with_reducible exact LeO.refl _)
  | (with_reducible exact LeO.none _)
  | (with_reducible refine LeO.ite ?_ ?_)
  | (with_reducible refine LeO.bind ?_ (fun _ => ?_))
  | exact ih0 _ _ _ _ _
  | exact aj.mono _ _ _ _ _ _ _
  | exact ay.mono HLE _ _ _ _
  | exact bz.mono _ _
  | exact jc.mono HLE _ _ _ _ _
  | exact LeO.none _
  | refine LeO.ite ?_ ?_
  | refine LeO.bind ?_ (fun _ => ?_)
set_option maxHeartbeats 8000000 in
set_option maxRecDepth 100000 in
theorem aQ.calls (F : Fam) (HF : jL F) (k : Nat) (g : Nat) (s0_0 : List (S38)) (s0_1 : Int) (s0_2 : Bool) (a1 : Int) (r1 : List (S41)) (r2 : Int) (r3 : Bool) (w0 w : World) (hI : ah w0 w g s0_0 s0_1 s0_2) (hB : Below w0.heap.size w0 w) (h : aQ.f F k s0_0 s0_1 s0_2 a1 = some (r1, r2, r3)) :
 Calls Try.prog 80 #[.pointer (some ⟨g, 0, none⟩), .int .i64 a1] w fun e w' => ∃ v0_ : Value, e = .returned (v0_) ∧ Kd.R k41 41 w' w.heap.size (fun _ => True) v0_ r1 ∧ ah w0 w' g s0_0 r2 r3 ∧ Below w0.heap.size w0 w' ∧ af w w' g none := by
 have hu41 := Try.underlying41
 have HI0 := Aside0.mk hI
 have HK := Aside0.mk (af.refl w g none)
 have HL := Aside0.mk hB.size
 clear hI
 have HW0 := Aside0.mk hB.size
 have HB := Aside0.mk hB
 clear hB
 have H : (if a1 = 6 then ((ay.f F k s0_0 s0_1 s0_2).bind fun bt758 => (some (bt758.1, bt758.2.1, bt758.2.2))) else ((jc.f F k s0_0 s0_1 s0_2 (wrap64 (a1 + 1))).bind fun bt763 => (aQ.l0 F k a1 bt763.1 s0_0 bt763.2.1 bt763.2.2))) = some (r1, r2, r3) := h
 clear h
 by_cases c3 : a1 = 6
 ·rw [if_pos c3] at H
  have c3b0 : (a1 == 6) = true := beq_iff_eq.mpr c3
  have c3b1 : (a1 != 6) = false := bne_eq_false_iff_eq.mpr c3
  clear c3
  replace H := Option.bind_eq_some_iff.mp H
  obtain ⟨⟨t758, t761, t762⟩, A40, H⟩ := H
  replace H : (some (t758, t761, t762)) = some (r1, r2, r3) := H
  have A4 := Aside0.mk A40
  clear A40
  simp only [Option.some.injEq, Prod.mk.injEq] at H
  obtain ⟨rfl, rfl, rfl⟩ := H
  go_enter Try.func80, Try.ntmps80
  go_wp2_with (first | ((with_reducible refine gate_callee (f := 82) rfl ?_); refine goesL_ (some 10) rfl rfl Try.func82 (by kernel_rfl) rfl #[.pointer (some ⟨g, 0, none⟩)] rfl Z3 ?_; (with_reducible refine (ay.calls F HF k g s0_0 s0_1 s0_2 t758 t761 t762 w0 _ ?side1 ?side2 A4.out).mono ?_); (case side1 => exact Z0); (case side2 => exact Z2); rintro e w5 ⟨v759, rfl, ho0, hi, hb, hk⟩; refine ⟨_, rfl, ?_⟩; have n0_ := Aside0.mk (Kd.R_lower ho0 (aH (w := w) (g := g) (row := none) Z1)); have n1_ := Aside0.mk (af.trans Z1 hk (.inl rfl)); have n2_ := Aside0.mk (hb); have n3_ := Aside0.mk (hi); clear HK; clear HB; clear HI0; have HO760 := n0_; have HK := n1_; have HB := n2_; have HI0 := n3_; clear n0_ n1_ n2_ n3_; (try clear hb); (try clear ho0)))
  go_ret
  exact ⟨_, Z5, by (with_reducible repeat (first | apply Kd.R_alloc | apply Kd.R_drewN | apply Kd.R_drew)); exact HO760.out, Z0, Z2, Z1⟩
 rw [if_neg c3] at H
 have c3b0 : (a1 == 6) = false := beq_eq_false_iff_ne.mpr c3
 have c3b1 : (a1 != 6) = true := bne_iff_ne.mpr c3
 replace H := Option.bind_eq_some_iff.mp H
 obtain ⟨⟨t763, t766, t767⟩, A60, H⟩ := H
 replace H : (aQ.l0 F k a1 t763 s0_0 t766 t767) = some (r1, r2, r3) := H
 have A6 := Aside0.mk A60
 clear A60
 have H' := Aside0.mk H
 clear H
 go_enter Try.func80, Try.ntmps80
 go_wp2_with (first | ((with_reducible refine gate_callee (f := 80) rfl ?_); refine goesL_ (some 14) rfl rfl Try.func80 (by kernel_rfl) rfl #[.pointer (some ⟨g, 0, none⟩), .int .i64 (wrap64 (a1 + 1))] rfl Z3 ?_; (with_reducible refine (jc.calls F HF k g s0_0 s0_1 s0_2 (wrap64 (a1 + 1)) t763 t766 t767 w0 _ ?side1 ?side2 A6.out).mono ?_); (case side1 => exact Z0); (case side2 => exact Z2); rintro e w7 ⟨v764, rfl, ho0, hi, hb, hk⟩; refine ⟨_, rfl, ?_⟩; have n0_ := Aside0.mk (Kd.R_lower ho0 (aH (w := w) (g := g) (row := none) Z1)); have n1_ := Aside0.mk (af.trans Z1 hk (.inl rfl)); have n2_ := Aside0.mk (hb); have n3_ := Aside0.mk (hi); clear HK; clear HB; clear HI0; have HO765 := n0_; have HK := n1_; have HB := n2_; have HI0 := n3_; clear n0_ n1_ n2_ n3_; (try clear hb); (try clear ho0)))
 (try simp only [Act.put, List.setIfInBounds_toArray, List.set_cons_zero, List.set_cons_succ])
 go_loopg [5] k (fun kq v5 w' => ∃ (x5_1 : List (S41)) (x1001_1 : Int) (x1002_1 : Bool), Aside0 (aQ.l0 F kq a1 x5_1 s0_0 x1001_1 x1002_1 = some (r1, r2, r3)) ∧ Aside0 (kq ≤ k) ∧ Aside0 (Kd.R k41 41 w' w.heap.size (fun _ => True) v5 x5_1) ∧ Aside0 (ah w0 w' g s0_0 x1001_1 x1002_1) ∧ Aside0 (af w w' g none) ∧ Aside0 (Below w0.heap.size w0 w'))
 case atStart => exact ⟨(t763), (t766), (t767), H', ⟨Nat.le_refl _⟩, ⟨by (with_reducible repeat (first | apply Kd.R_alloc | apply Kd.R_drewN | apply Kd.R_drew)); exact HO765.out⟩, ⟨Z0⟩, ⟨Z1⟩, ⟨Z2⟩⟩
 case round =>
  clear H'
  try clear p2
  try clear c3
  try clear c3b0
  try clear c3b1
  try clear p6
  obtain ⟨x5_1, x1001_1, x1002_1, HA, HK1, HO_5, HI0, HK, HB⟩ := hrel
  cases gk with
  | zero => exact absurd HA.out (by simp [aQ.l0])
  | succ k1 =>
   have H := HA.out
   clear HA
   simp only [aQ.l0] at H
   by_cases c8 : x1002_1 = true
   ·subst c8
    have H1 : (some (x5_1, x1001_1, true)) = some (r1, r2, r3) := by rw [if_pos rfl] at H; exact H
    clear H
    have H := H1
    clear H1
    simp only [Option.some.injEq, Prod.mk.injEq] at H
    obtain ⟨rfl, rfl, rfl⟩ := H
    obtain ⟨ASz9_0, cSz9_0, HGz9, hgz9, HSz9_0⟩ := HI0.out
    have hcz9_0 := df HGz9
    have hcz9_1 := cZ HGz9
    have hcz9_2 := cO HGz9
    have hfz9_1 := ae HGz9 1
    have hfz9_2 := ae HGz9 2
    clear HGz9 hgz9
    go_wp2
    go_ret
    exact ⟨_, Z5, Z21, Z0, Z2, Z1⟩
   replace c8 := Bool.eq_false_iff.mpr c8
   subst c8
   rw [if_neg (show ¬ (false = true) by decide)] at H
   have H1 := H
   clear H
   have H := H1
   clear H1
   replace H := Option.bind_eq_some_iff.mp H
   obtain ⟨⟨t768, t769, t770⟩, A100, H⟩ := H
   try dsimp only at H
   have A10 := Aside0.mk A100
   clear A100
   replace H := Option.bind_eq_some_iff.mp H
   obtain ⟨t771, A110, H⟩ := H
   try dsimp only at H
   have A11 := Aside0.mk A110
   clear A110
   by_cases c12 : t771 = a1
   ·rw [if_pos c12] at H
    have c12b0 : (t771 == a1) = true := beq_iff_eq.mpr c12
    have c12b1 : (t771 != a1) = false := bne_eq_false_iff_eq.mpr c12
    clear c12
    replace H := Option.bind_eq_some_iff.mp H
    obtain ⟨⟨t772, t773, t774⟩, A130, H⟩ := H
    try dsimp only at H
    have A13 := Aside0.mk A130
    clear A130
    replace H := Option.bind_eq_some_iff.mp H
    obtain ⟨⟨t775, t778, t779⟩, A140, H⟩ := H
    try dsimp only at H
    have A14 := Aside0.mk A140
    clear A140
    obtain ⟨y780, hy780⟩ : ∃ y_ : List (List (S41)), y_ = (([x5_1, t775] : List (List (S41)))) := ⟨_, rfl⟩
    replace H : ((aj.f k1 27 0 (⟨#[]⟩ : ByteArray) 0 t768 y780).bind fun t783 => (if a1 = 3 then (some (t783, t778, t779)) else (aQ.l0 F k1 a1 t783 s0_0 t778 t779))) = some (r1, r2, r3) := by first | (rw [hy780]; with_reducible exact H) | (have H2_ := (Option.bind_some _ _).symm.trans H; rw [hy780]; with_reducible exact H2_) | (have H2_ := (Option.bind_some _ _).symm.trans H; with_reducible exact H2_) | with_reducible exact H | (rw [hy780]; exact H) | exact H
    have Ny780 := Aside0.mk hy780
    clear hy780
    replace H := Option.bind_eq_some_iff.mp H
    obtain ⟨t783, A150, H⟩ := H
    replace H : (if a1 = 3 then (some (t783, t778, t779)) else (aQ.l0 F k1 a1 t783 s0_0 t778 t779)) = some (r1, r2, r3) := H
    have A15 := Aside0.mk A150
    clear A150
    by_cases c16 : a1 = 3
    ·rw [if_pos c16] at H
     have c16b0 : (a1 == 3) = true := beq_iff_eq.mpr c16
     have c16b1 : (a1 != 3) = false := bne_eq_false_iff_eq.mpr c16
     clear c16
     simp only [Option.some.injEq, Prod.mk.injEq] at H
     obtain ⟨rfl, rfl, rfl⟩ := H
     obtain ⟨ASz17_0, cSz17_0, HGz17, hgz17, HSz17_0⟩ := HI0.out
     have hcz17_0 := df HGz17
     have hcz17_1 := cZ HGz17
     have hcz17_2 := cO HGz17
     have hfz17_1 := ae HGz17 1
     have hfz17_2 := ae HGz17 2
     clear HGz17 hgz17
     go_wp2_with (first | ((with_reducible refine gate_callee (f := 71) rfl ?_); refine goesL_ (some 21) rfl rfl Try.func71 (by kernel_rfl) rfl #[.pointer (some ⟨g, 0, none⟩)] rfl Z3 ?_; (with_reducible refine (aV.calls g s0_0 x1001_1 false t768 t769 t770 w0 _ ?side1 ?side2 A10.out).mono ?_); (case side1 => exact Z0); (case side2 => exact Z2); rintro e w18 ⟨rfl, hi, hb, hk⟩; refine ⟨_, rfl, ?_⟩; have n0_ := Aside0.mk (Kd.bi (Kd.gz (ah.apart (show ah w0 _ g s0_0 x1001_1 false from Z0) Z21 (by decide)) hk (fun _ h => h.2)) (fun _ h => h.1)); have n1_ := Aside0.mk (af.trans Z1 hk (.inl rfl)); have n2_ := Aside0.mk (hb); have n3_ := Aside0.mk (hi); clear HO_5; clear HK; clear HB; clear HI0; have HO_5 := n0_; have HK := n1_; have HB := n2_; have HI0 := n3_; clear n0_ n1_ n2_ n3_; (try clear hb)) | ((with_reducible refine gate_callee (f := 83) rfl ?_); refine goesL_ (some 23) rfl rfl Try.func83 (by kernel_rfl) rfl #[.string t768] rfl Z3 ?_; (with_reducible refine (bz.calls k1 t768 t771 _ A11.out).mono ?_); rintro e w' ⟨rfl, ⟨nd, rfl⟩⟩; refine ⟨_, rfl, ?_⟩) | ((with_reducible refine gate_callee (f := 53) rfl ?_); refine goesL_ (some 28) rfl rfl Try.func53 (by kernel_rfl) rfl #[.pointer (some ⟨g, 0, none⟩), .string t768] rfl Z3 ?_; (with_reducible refine (au.calls g s0_0 t769 t770 t768 t772 t773 t774 w0 _ ?side1 ?side2 A13.out).mono ?_); (case side1 => exact Z0); (case side2 => exact Z2); rintro e w19 ⟨rfl, hi, hb, hk⟩; refine ⟨_, rfl, ?_⟩; have n0_ := Aside0.mk (Kd.bi (Kd.gz (ah.apart (show ah w0 _ g s0_0 t769 t770 from Z0) Z21 (by decide)) hk (fun _ h => h.2)) (fun _ h => h.1)); have n1_ := Aside0.mk (af.trans Z1 hk (.inl rfl)); have n2_ := Aside0.mk (hb); have n3_ := Aside0.mk (hi); clear HO_5; clear HK; clear HB; clear HI0; have HO_5 := n0_; have HK := n1_; have HB := n2_; have HI0 := n3_; clear n0_ n1_ n2_ n3_; (try clear hb)) | ((with_reducible refine gate_callee (f := 80) rfl ?_); refine goesL_ (some 35) rfl rfl Try.func80 (by kernel_rfl) rfl #[.pointer (some ⟨g, 0, none⟩), .int .i64 (wrap64 (a1 + 1))] rfl Z3 ?_; (with_reducible refine (jc.calls F HF k1 g s0_0 t773 t774 (wrap64 (a1 + 1)) t775 t778 t779 w0 _ ?side1 ?side2 A14.out).mono ?_); (case side1 => exact Z0); (case side2 => exact Z2); rintro e w20 ⟨v776, rfl, ho0, hi, hb, hk⟩; refine ⟨_, rfl, ?_⟩; have n0_ := Aside0.mk (Kd.bi (Kd.o6 (Kd.o7 (ah.apart (show ah w0 _ g s0_0 t773 t774 from Z0) Z21 (by decide)) hk) (Kd.dH ho0)) (fun _ h_ => h_.1)); have n1_ := Aside0.mk (Kd.R_lower (Kd.jB ho0 (Kd.lT Z21)) (aH (w := w) (g := g) (row := none) Z1)); have n2_ := Aside0.mk (af.trans Z1 hk (.inl rfl)); have n3_ := Aside0.mk (hb); have n4_ := Aside0.mk (hi); clear HO_5; clear HK; clear HB; clear HI0; have HO_5 := n0_; have HO777 := n1_; have HK := n2_; have HB := n3_; have HI0 := n4_; clear n0_ n1_ n2_ n3_ n4_; (try clear hb); (try clear ho0); obtain ⟨Ao21, co21, eo21⟩ := Kd.R_slice HO_5.out; subst eo21; obtain ⟨Ao22, co22, eo22⟩ := Kd.R_slice HO777.out; subst eo22) | ((with_reducible refine bP (N := 36) rfl ?_); refine Kd.lU (Kd.slice 41 k41) _ 23 ?hg (N' := 36) ?hd (xs := ([x5_1, t775] : List (List (S41)))) (inner := [.slice Ao21 x5_1.length co21, .slice Ao22 t775.length co22]) (ok := (fun k_ => k_ ≠ g)) (okp := (fun k_ => k_ ≠ g)) ?hr ?hp (fun _ hk => hk) ((show ∀ k_, w20.heap.size ≤ k_ → (fun k_ => k_ ≠ g) k_ from fun k_ hk => ah.fresh Z0 k_ hk) _ (Nat.le_refl _)) (Below.refl _ _) (Nat.le_refl _) (by simp) ?_; (case hd => rfl); (case hg => rfl); (case hr => first | (go_simp; done) | (go_simp; rfl)); (case hp => exact (dw.one (show Kd.FK (Kd.slice 41 k41) _ _ x5_1 [.slice Ao21 x5_1.length co21] from (Kd.dF (Kd.R_reads' (Kd.bi (ok' := (fun k_ => k_ ≠ g)) (ah.apart HI0.out (HO_5.out) (by decide)) (fun k_ hk => hk.2))).2.1 (Kd.R_F (Kd.bi (ok' := (fun k_ => k_ ≠ g)) (ah.apart HI0.out (HO_5.out) (by decide)) (fun k_ hk => hk.2))))) (dw.one (show Kd.FK (Kd.slice 41 k41) _ _ t775 [.slice Ao22 t775.length co22] from (Kd.dF (Kd.R_reads' (Kd.bi (ok' := (fun k_ => k_ ≠ g)) (ah.apart HI0.out (HO777.out) (by decide)) (fun k_ hk => hk.2))).2.1 (Kd.R_F (Kd.bi (ok' := (fun k_ => k_ ≠ g)) (ah.apart HI0.out (HO777.out) (by decide)) (fun k_ hk => hk.2))))) (dw.none _ _)))); intro v781 w23 ho24 hb hg_ hnew_; clear hg_ hnew_; (first | rw [← Ny780.out] at ho24 | (simp only [Int.reduceToNat] at ho24; rw [← Ny780.out] at ho24)); have n0_ := Aside0.mk (Kd.iL ho24 (aH (w := w) (g := g) (row := none) Z1)); have n1_ := Aside0.mk (ah.below Z0 hb); have n2_ := Aside0.mk (af.trans Z1 (af.of_below hb g none) (.inl rfl)); have n3_ := Aside0.mk (below_step Z2 hb); clear HI0; clear HK; clear HB; clear HO777; clear HO_5; have HO782 := n0_; have HI0 := n1_; have HK := n2_; have HB := n3_; clear n0_ n1_ n2_ n3_; clear hb ho24; obtain ⟨Ao25, co25, eo25⟩ := Kd.iK HO782.out; subst eo25) | ((with_reducible refine gate_callee (f := 56) rfl ?_); refine goesL_ (some 37) rfl rfl Try.func56 (by kernel_rfl) rfl #[.agg #[.int .i64 27, .int .i64 0, .string (⟨#[]⟩ : ByteArray), .int .i64 0, .string t768], .slice Ao25 y780.length co25] rfl Z3 ?_; (with_reducible refine (aj.calls k1 27 0 (⟨#[]⟩ : ByteArray) 0 t768 _ _ y780 t783 _ ?side1 ?side2 A15.out).mono ?_); (case side1 => repeat (first | exact (Kd.dQ HO782.out).2.2 | (with_reducible refine Kd.C_alloc ?_ _) | (with_reducible refine Kd.C_drewN ?_ _) | (with_reducible refine Kd.C_drew ?_))); (case side2 => exact (Kd.dQ HO782.out).2.1); rintro e w26 ⟨v784, rfl, ho0, hb⟩; refine ⟨_, rfl, ?_⟩; have n0_ := Aside0.mk (Kd.gW (by (with_reducible repeat (first | apply Kd.eH | apply Kd.eG | apply Kd.fK)); exact HO782.out) (Kd.dH ho0) hb); have n1_ := Aside0.mk (Kd.R_lower ho0 (aH (w := w) (g := g) (row := none) Z1)); have n2_ := Aside0.mk (ah.below Z0 hb); have n3_ := Aside0.mk (af.trans Z1 (af.of_below hb g none) (.inl rfl)); have n4_ := Aside0.mk (below_step Z2 hb); clear HO782; clear HI0; clear HK; clear HB; have HO782 := n0_; have HO785 := n1_; have HI0 := n2_; have HK := n3_; have HB := n4_; clear n0_ n1_ n2_ n3_ n4_; (try clear hb); (try clear ho0)))
     go_ret
     exact ⟨_, Z5, by (with_reducible repeat (first | apply Kd.R_alloc | apply Kd.R_drewN | apply Kd.R_drew)); exact HO785.out, Z0, Z2, Z1⟩
    rw [if_neg c16] at H
    have c16b0 : (a1 == 3) = false := beq_eq_false_iff_ne.mpr c16
    have c16b1 : (a1 != 3) = true := bne_iff_ne.mpr c16
    have H' := Aside0.mk H
    clear H
    obtain ⟨ASz27_0, cSz27_0, HGz27, hgz27, HSz27_0⟩ := HI0.out
    have hcz27_0 := df HGz27
    have hcz27_1 := cZ HGz27
    have hcz27_2 := cO HGz27
    have hfz27_1 := ae HGz27 1
    have hfz27_2 := ae HGz27 2
    clear HGz27 hgz27
    go_wp2_with (first | ((with_reducible refine gate_callee (f := 71) rfl ?_); refine goesL_ (some 21) rfl rfl Try.func71 (by kernel_rfl) rfl #[.pointer (some ⟨g, 0, none⟩)] rfl Z3 ?_; (with_reducible refine (aV.calls g s0_0 x1001_1 false t768 t769 t770 w0 _ ?side1 ?side2 A10.out).mono ?_); (case side1 => exact Z0); (case side2 => exact Z2); rintro e w28 ⟨rfl, hi, hb, hk⟩; refine ⟨_, rfl, ?_⟩; have n0_ := Aside0.mk (Kd.bi (Kd.gz (ah.apart (show ah w0 _ g s0_0 x1001_1 false from Z0) Z21 (by decide)) hk (fun _ h => h.2)) (fun _ h => h.1)); have n1_ := Aside0.mk (af.trans Z1 hk (.inl rfl)); have n2_ := Aside0.mk (hb); have n3_ := Aside0.mk (hi); clear HO_5; clear HK; clear HB; clear HI0; have HO_5 := n0_; have HK := n1_; have HB := n2_; have HI0 := n3_; clear n0_ n1_ n2_ n3_; (try clear hb)) | ((with_reducible refine gate_callee (f := 83) rfl ?_); refine goesL_ (some 23) rfl rfl Try.func83 (by kernel_rfl) rfl #[.string t768] rfl Z3 ?_; (with_reducible refine (bz.calls k1 t768 t771 _ A11.out).mono ?_); rintro e w' ⟨rfl, ⟨nd, rfl⟩⟩; refine ⟨_, rfl, ?_⟩) | ((with_reducible refine gate_callee (f := 53) rfl ?_); refine goesL_ (some 28) rfl rfl Try.func53 (by kernel_rfl) rfl #[.pointer (some ⟨g, 0, none⟩), .string t768] rfl Z3 ?_; (with_reducible refine (au.calls g s0_0 t769 t770 t768 t772 t773 t774 w0 _ ?side1 ?side2 A13.out).mono ?_); (case side1 => exact Z0); (case side2 => exact Z2); rintro e w29 ⟨rfl, hi, hb, hk⟩; refine ⟨_, rfl, ?_⟩; have n0_ := Aside0.mk (Kd.bi (Kd.gz (ah.apart (show ah w0 _ g s0_0 t769 t770 from Z0) Z21 (by decide)) hk (fun _ h => h.2)) (fun _ h => h.1)); have n1_ := Aside0.mk (af.trans Z1 hk (.inl rfl)); have n2_ := Aside0.mk (hb); have n3_ := Aside0.mk (hi); clear HO_5; clear HK; clear HB; clear HI0; have HO_5 := n0_; have HK := n1_; have HB := n2_; have HI0 := n3_; clear n0_ n1_ n2_ n3_; (try clear hb)) | ((with_reducible refine gate_callee (f := 80) rfl ?_); refine goesL_ (some 35) rfl rfl Try.func80 (by kernel_rfl) rfl #[.pointer (some ⟨g, 0, none⟩), .int .i64 (wrap64 (a1 + 1))] rfl Z3 ?_; (with_reducible refine (jc.calls F HF k1 g s0_0 t773 t774 (wrap64 (a1 + 1)) t775 t778 t779 w0 _ ?side1 ?side2 A14.out).mono ?_); (case side1 => exact Z0); (case side2 => exact Z2); rintro e w30 ⟨v776, rfl, ho0, hi, hb, hk⟩; refine ⟨_, rfl, ?_⟩; have n0_ := Aside0.mk (Kd.bi (Kd.o6 (Kd.o7 (ah.apart (show ah w0 _ g s0_0 t773 t774 from Z0) Z21 (by decide)) hk) (Kd.dH ho0)) (fun _ h_ => h_.1)); have n1_ := Aside0.mk (Kd.R_lower (Kd.jB ho0 (Kd.lT Z21)) (aH (w := w) (g := g) (row := none) Z1)); have n2_ := Aside0.mk (af.trans Z1 hk (.inl rfl)); have n3_ := Aside0.mk (hb); have n4_ := Aside0.mk (hi); clear HO_5; clear HK; clear HB; clear HI0; have HO_5 := n0_; have HO777 := n1_; have HK := n2_; have HB := n3_; have HI0 := n4_; clear n0_ n1_ n2_ n3_ n4_; (try clear hb); (try clear ho0); obtain ⟨Ao31, co31, eo31⟩ := Kd.R_slice HO_5.out; subst eo31; obtain ⟨Ao32, co32, eo32⟩ := Kd.R_slice HO777.out; subst eo32) | ((with_reducible refine bP (N := 36) rfl ?_); refine Kd.lU (Kd.slice 41 k41) _ 23 ?hg (N' := 36) ?hd (xs := ([x5_1, t775] : List (List (S41)))) (inner := [.slice Ao31 x5_1.length co31, .slice Ao32 t775.length co32]) (ok := (fun k_ => k_ ≠ g)) (okp := (fun k_ => k_ ≠ g)) ?hr ?hp (fun _ hk => hk) ((show ∀ k_, w30.heap.size ≤ k_ → (fun k_ => k_ ≠ g) k_ from fun k_ hk => ah.fresh Z0 k_ hk) _ (Nat.le_refl _)) (Below.refl _ _) (Nat.le_refl _) (by simp) ?_; (case hd => rfl); (case hg => rfl); (case hr => first | (go_simp; done) | (go_simp; rfl)); (case hp => exact (dw.one (show Kd.FK (Kd.slice 41 k41) _ _ x5_1 [.slice Ao31 x5_1.length co31] from (Kd.dF (Kd.R_reads' (Kd.bi (ok' := (fun k_ => k_ ≠ g)) (ah.apart HI0.out (HO_5.out) (by decide)) (fun k_ hk => hk.2))).2.1 (Kd.R_F (Kd.bi (ok' := (fun k_ => k_ ≠ g)) (ah.apart HI0.out (HO_5.out) (by decide)) (fun k_ hk => hk.2))))) (dw.one (show Kd.FK (Kd.slice 41 k41) _ _ t775 [.slice Ao32 t775.length co32] from (Kd.dF (Kd.R_reads' (Kd.bi (ok' := (fun k_ => k_ ≠ g)) (ah.apart HI0.out (HO777.out) (by decide)) (fun k_ hk => hk.2))).2.1 (Kd.R_F (Kd.bi (ok' := (fun k_ => k_ ≠ g)) (ah.apart HI0.out (HO777.out) (by decide)) (fun k_ hk => hk.2))))) (dw.none _ _)))); intro v781 w33 ho34 hb hg_ hnew_; clear hg_ hnew_; (first | rw [← Ny780.out] at ho34 | (simp only [Int.reduceToNat] at ho34; rw [← Ny780.out] at ho34)); have n0_ := Aside0.mk (Kd.iL ho34 (aH (w := w) (g := g) (row := none) Z1)); have n1_ := Aside0.mk (ah.below Z0 hb); have n2_ := Aside0.mk (af.trans Z1 (af.of_below hb g none) (.inl rfl)); have n3_ := Aside0.mk (below_step Z2 hb); clear HI0; clear HK; clear HB; clear HO777; clear HO_5; have HO782 := n0_; have HI0 := n1_; have HK := n2_; have HB := n3_; clear n0_ n1_ n2_ n3_; clear hb ho34; obtain ⟨Ao35, co35, eo35⟩ := Kd.iK HO782.out; subst eo35) | ((with_reducible refine gate_callee (f := 56) rfl ?_); refine goesL_ (some 37) rfl rfl Try.func56 (by kernel_rfl) rfl #[.agg #[.int .i64 27, .int .i64 0, .string (⟨#[]⟩ : ByteArray), .int .i64 0, .string t768], .slice Ao35 y780.length co35] rfl Z3 ?_; (with_reducible refine (aj.calls k1 27 0 (⟨#[]⟩ : ByteArray) 0 t768 _ _ y780 t783 _ ?side1 ?side2 A15.out).mono ?_); (case side1 => repeat (first | exact (Kd.dQ HO782.out).2.2 | (with_reducible refine Kd.C_alloc ?_ _) | (with_reducible refine Kd.C_drewN ?_ _) | (with_reducible refine Kd.C_drew ?_))); (case side2 => exact (Kd.dQ HO782.out).2.1); rintro e w36 ⟨v784, rfl, ho0, hb⟩; refine ⟨_, rfl, ?_⟩; have n0_ := Aside0.mk (Kd.gW (by (with_reducible repeat (first | apply Kd.eH | apply Kd.eG | apply Kd.fK)); exact HO782.out) (Kd.dH ho0) hb); have n1_ := Aside0.mk (Kd.R_lower ho0 (aH (w := w) (g := g) (row := none) Z1)); have n2_ := Aside0.mk (ah.below Z0 hb); have n3_ := Aside0.mk (af.trans Z1 (af.of_below hb g none) (.inl rfl)); have n4_ := Aside0.mk (below_step Z2 hb); clear HO782; clear HI0; clear HK; clear HB; have HO782 := n0_; have HO785 := n1_; have HI0 := n2_; have HK := n3_; have HB := n4_; clear n0_ n1_ n2_ n3_ n4_; (try clear hb); (try clear ho0)))
    go_roundg k1
    case measure => have := HK1.out; omega
    case rel => exact ⟨(t783), (t778), (t779), H', ⟨by have := HK1.out; omega⟩, ⟨by (with_reducible repeat (first | apply Kd.R_alloc | apply Kd.R_drewN | apply Kd.R_drew)); exact HO785.out⟩, ⟨Z0⟩, ⟨Z1⟩, ⟨Z2⟩⟩
   rw [if_neg c12] at H
   have c12b0 : (t771 == a1) = false := beq_eq_false_iff_ne.mpr c12
   have c12b1 : (t771 != a1) = true := bne_iff_ne.mpr c12
   simp only [Option.some.injEq, Prod.mk.injEq] at H
   obtain ⟨rfl, rfl, rfl⟩ := H
   obtain ⟨ASz37_0, cSz37_0, HGz37, hgz37, HSz37_0⟩ := HI0.out
   have hcz37_0 := df HGz37
   have hcz37_1 := cZ HGz37
   have hcz37_2 := cO HGz37
   have hfz37_1 := ae HGz37 1
   have hfz37_2 := ae HGz37 2
   clear HGz37 hgz37
   go_wp2_with (first | ((with_reducible refine gate_callee (f := 71) rfl ?_); refine goesL_ (some 21) rfl rfl Try.func71 (by kernel_rfl) rfl #[.pointer (some ⟨g, 0, none⟩)] rfl Z3 ?_; (with_reducible refine (aV.calls g s0_0 x1001_1 false t768 t769 t770 w0 _ ?side1 ?side2 A10.out).mono ?_); (case side1 => exact Z0); (case side2 => exact Z2); rintro e w38 ⟨rfl, hi, hb, hk⟩; refine ⟨_, rfl, ?_⟩; have n0_ := Aside0.mk (Kd.bi (Kd.gz (ah.apart (show ah w0 _ g s0_0 x1001_1 false from Z0) Z21 (by decide)) hk (fun _ h => h.2)) (fun _ h => h.1)); have n1_ := Aside0.mk (af.trans Z1 hk (.inl rfl)); have n2_ := Aside0.mk (hb); have n3_ := Aside0.mk (hi); clear HO_5; clear HK; clear HB; clear HI0; have HO_5 := n0_; have HK := n1_; have HB := n2_; have HI0 := n3_; clear n0_ n1_ n2_ n3_; (try clear hb)) | ((with_reducible refine gate_callee (f := 83) rfl ?_); refine goesL_ (some 23) rfl rfl Try.func83 (by kernel_rfl) rfl #[.string t768] rfl Z3 ?_; (with_reducible refine (bz.calls k1 t768 t771 _ A11.out).mono ?_); rintro e w' ⟨rfl, ⟨nd, rfl⟩⟩; refine ⟨_, rfl, ?_⟩))
   go_ret
   exact ⟨_, Z5, Z21, Z0, Z2, Z1⟩
/-! ### dh: function 77 -/
def dh.f (F : Fam) (k : Nat) (s0_0 : List (S38)) (s0_1 : Int) (s0_2 : Bool) : Option ((List (S41)) × Int × Bool) := (aQ.f F k s0_0 s0_1 s0_2 1).bind fun bt786 => (some (bt786.1, bt786.2.1, bt786.2.2))
theorem dh.mono {F F' : Fam} (HLE : iG F F') : ∀ a0 a1 a2 k, LeO (dh.f F k a0 a1 a2) (dh.f F' (k + 1) a0 a1 a2) := by
 intro a0 a1 a2 k
 unfold dh.f
 repeat' first
  | (with_reducible exact aQ.mono HLE _ _ _ _ _)
  | (with_reducible exact LeO.refl _)
  | (with_reducible exact LeO.none _)
  | (with_reducible refine LeO.ite ?_ ?_)
  | (with_reducible refine LeO.bind ?_ (fun _ => ?_))
  | exact aQ.mono HLE _ _ _ _ _
  | exact LeO.none _
  | refine LeO.ite ?_ ?_
  | refine LeO.bind ?_ (fun _ => ?_)
set_option maxHeartbeats 8000000 in
set_option maxRecDepth 100000 in
theorem dh.calls (F : Fam) (HF : jL F) (k : Nat) (g : Nat) (s0_0 : List (S38)) (s0_1 : Int) (s0_2 : Bool) (r1 : List (S41)) (r2 : Int) (r3 : Bool) (w0 w : World) (hI : ah w0 w g s0_0 s0_1 s0_2) (hB : Below w0.heap.size w0 w) (h : dh.f F k s0_0 s0_1 s0_2 = some (r1, r2, r3)) :
 Calls Try.prog 77 #[.pointer (some ⟨g, 0, none⟩)] w fun e w' => ∃ v0_ : Value, e = .returned (v0_) ∧ Kd.R k41 41 w' w.heap.size (fun _ => True) v0_ r1 ∧ ah w0 w' g s0_0 r2 r3 ∧ Below w0.heap.size w0 w' ∧ af w w' g none := by
 have HI0 := Aside0.mk hI
 have HK := Aside0.mk (af.refl w g none)
 have HL := Aside0.mk hB.size
 clear hI
 have HW0 := Aside0.mk hB.size
 have HB := Aside0.mk hB
 clear hB
 have H : ((aQ.f F k s0_0 s0_1 s0_2 1).bind fun bt786 => (some (bt786.1, bt786.2.1, bt786.2.2))) = some (r1, r2, r3) := h
 clear h
 replace H := Option.bind_eq_some_iff.mp H
 obtain ⟨⟨t786, t789, t790⟩, A20, H⟩ := H
 replace H : (some (t786, t789, t790)) = some (r1, r2, r3) := H
 have A2 := Aside0.mk A20
 clear A20
 simp only [Option.some.injEq, Prod.mk.injEq] at H
 obtain ⟨rfl, rfl, rfl⟩ := H
 go_enter Try.func77, Try.ntmps77
 go_wp2_with (first | ((with_reducible refine gate_callee (f := 80) rfl ?_); refine goesL_ (some 4) rfl rfl Try.func80 (by kernel_rfl) rfl #[.pointer (some ⟨g, 0, none⟩), .int .i64 1] rfl Z3 ?_; (with_reducible refine (aQ.calls F HF k g s0_0 s0_1 s0_2 1 t786 t789 t790 w0 _ ?side1 ?side2 A2.out).mono ?_); (case side1 => exact Z0); (case side2 => exact Z2); rintro e w3 ⟨v787, rfl, ho0, hi, hb, hk⟩; refine ⟨_, rfl, ?_⟩; have n0_ := Aside0.mk (Kd.R_lower ho0 (aH (w := w) (g := g) (row := none) Z1)); have n1_ := Aside0.mk (af.trans Z1 hk (.inl rfl)); have n2_ := Aside0.mk (hb); have n3_ := Aside0.mk (hi); clear HK; clear HB; clear HI0; have HO788 := n0_; have HK := n1_; have HB := n2_; have HI0 := n3_; clear n0_ n1_ n2_ n3_; (try clear hb); (try clear ho0)))
 go_ret
 exact ⟨_, Z5, by (with_reducible repeat (first | apply Kd.R_alloc | apply Kd.R_drewN | apply Kd.R_drew)); exact HO788.out, Z0, Z2, Z1⟩
end Go.Proofs.Ytendgafpkeadhaa.Q
end
section
namespace Go.Proofs.Ytendgafpkeadhaa.Q
open Go.RowKit Go.Proofs.YtendgafpkeadhaaW.PrintWords Go.Proofs.YtendgafpkeadhaaW.PrintLast Go.Proofs.YtendgafpkeadhaaW.PrintMore
attribute [local go_sem] ik ig gZ gY max2_int min2_int max_two min_two max_three min_three max_four min_four
set_option linter.unusedVariables false
set_option linter.unusedSimpArgs false
/-! ### aJ: function 25 -/
mutual
def aJ.l0 (F : Fam) : Nat → List (List (S41)) → List (S38) → Int → Bool → Int → Int → ByteArray → Int → ByteArray → Option ((List (S41)) × Int × Bool)
 | 0, _, _, _, _, _, _, _, _, _ => none
 | k + 1, x4, x1000, x1001, x1002, x537000, x537001, x537002, x537003, x537004 => (au.f x1000 x1001 x1002 (⟨#[117, 115, 101]⟩ : ByteArray)).bind fun bt545 => (if bt545.1 = true then ((bZ.f k x1000 bt545.2.1 bt545.2.2).bind fun bt548 => (if x4.length < 5864062014805 then (aJ.l0 F k (x4 ++ [bt548.1]) x1000 bt548.2.1 bt548.2.2 x537000 x537001 x537002 x537003 x537004) else (none))) else (aJ.l1 F k x4 x1000 bt545.2.1 bt545.2.2 x537000 x537001 x537002 x537003 x537004))
def aJ.l1 (F : Fam) : Nat → List (List (S41)) → List (S38) → Int → Bool → Int → Int → ByteArray → Int → ByteArray → Option ((List (S41)) × Int × Bool)
 | 0, _, _, _, _, _, _, _, _, _ => none
 | k + 1, x4, x1000, x1001, x1002, x537000, x537001, x537002, x537003, x537004 => (au.f x1000 x1001 x1002 (⟨#[102, 110]⟩ : ByteArray)).bind fun bt556 => (if bt556.1 = true then ((aX.f x1000 bt556.2.1 bt556.2.2 1).bind fun bt559 => ((aU.f F k x1000 bt559.2.2.2.2.1 bt559.2.2.2.2.2 3 0 bt559.2.1 0 (⟨#[]⟩ : ByteArray)).bind fun bt565 => (if x4.length < 5864062014805 then (aJ.l1 F k (x4 ++ [bt565.1]) x1000 bt565.2.1 bt565.2.2 x537000 x537001 x537002 x537003 x537004) else (none)))) else ((aj.f k x537000 x537001 x537002 x537003 x537004 x4).bind fun t573 => (some (t573, bt556.2.1, bt556.2.2))))
end
def aJ.f (F : Fam) (k : Nat) (s0_0 : List (S38)) (s0_1 : Int) (s0_2 : Bool) : Option ((List (S41)) × Int × Bool) := (ak.f s0_0 s0_1 s0_2 (⟨#[109, 111, 100, 117, 108, 101]⟩ : ByteArray)).bind fun bt528 => ((aX.f s0_0 bt528.1 bt528.2 1).bind fun bt530 => ((aX.f s0_0 bt530.2.2.2.2.1 bt530.2.2.2.2.2 2).bind fun bt537 => ((ak.f s0_0 bt537.2.2.2.2.1 bt537.2.2.2.2.2 (⟨#[59]⟩ : ByteArray)).bind fun bt543 => (aJ.l0 F k ([] : List (List (S41))) s0_0 bt543.1 bt543.2 1 0 bt530.2.1 bt537.2.2.1 (⟨#[]⟩ : ByteArray)))))
theorem aJ.mono_l {F F' : Fam} (HLE : iG F F') : ∀ k, (∀ y0 y1 y2 y3 y4 y5 y6 y7 y8, LeO (aJ.l0 F k y0 y1 y2 y3 y4 y5 y6 y7 y8) (aJ.l0 F' (k + 1) y0 y1 y2 y3 y4 y5 y6 y7 y8)) ∧ (∀ y0 y1 y2 y3 y4 y5 y6 y7 y8, LeO (aJ.l1 F k y0 y1 y2 y3 y4 y5 y6 y7 y8) (aJ.l1 F' (k + 1) y0 y1 y2 y3 y4 y5 y6 y7 y8))
 | 0 => ⟨fun _ _ _ _ _ _ _ _ _ r h => by simp [aJ.l0] at h, fun _ _ _ _ _ _ _ _ _ r h => by simp [aJ.l1] at h⟩
 | k + 1 => by
  obtain ⟨ih0, ih1⟩ := aJ.mono_l HLE k
  refine ⟨?_, ?_⟩
  ·intro y0 y1 y2 y3 y4 y5 y6 y7 y8
   unfold aJ.l0
   repeat' first
   | (with_reducible exact ih0 _ _ _ _ _ _ _ _ _)
   | (with_reducible exact ih1 _ _ _ _ _ _ _ _ _)
   | (with_reducible exact aj.mono _ _ _ _ _ _ _)
   | (with_reducible exact aU.mono HLE _ _ _ _ _ _ _ _ _)
   | (with_reducible exact bZ.mono _ _ _ _)
   | (with_reducible exact LeO.refl _)
   | (with_reducible exact LeO.none _)
   | (with_reducible refine LeO.ite ?_ ?_)
   | (with_reducible refine LeO.bind ?_ (fun _ => ?_))
   | exact ih0 _ _ _ _ _ _ _ _ _
   | exact ih1 _ _ _ _ _ _ _ _ _
   | exact aj.mono _ _ _ _ _ _ _
   | exact aU.mono HLE _ _ _ _ _ _ _ _ _
   | exact bZ.mono _ _ _ _
   | exact LeO.none _
   | refine LeO.ite ?_ ?_
   | refine LeO.bind ?_ (fun _ => ?_)
  intro y0 y1 y2 y3 y4 y5 y6 y7 y8
  unfold aJ.l1
  repeat' first
  | (with_reducible exact ih0 _ _ _ _ _ _ _ _ _)
  | (with_reducible exact ih1 _ _ _ _ _ _ _ _ _)
  | (with_reducible exact aj.mono _ _ _ _ _ _ _)
  | (with_reducible exact aU.mono HLE _ _ _ _ _ _ _ _ _)
  | (with_reducible exact bZ.mono _ _ _ _)
  | (with_reducible exact LeO.refl _)
  | (with_reducible exact LeO.none _)
  | (with_reducible refine LeO.ite ?_ ?_)
  | (with_reducible refine LeO.bind ?_ (fun _ => ?_))
  | exact ih0 _ _ _ _ _ _ _ _ _
  | exact ih1 _ _ _ _ _ _ _ _ _
  | exact aj.mono _ _ _ _ _ _ _
  | exact aU.mono HLE _ _ _ _ _ _ _ _ _
  | exact bZ.mono _ _ _ _
  | exact LeO.none _
  | refine LeO.ite ?_ ?_
  | refine LeO.bind ?_ (fun _ => ?_)
theorem aJ.mono {F F' : Fam} (HLE : iG F F') : ∀ a0 a1 a2 k, LeO (aJ.f F k a0 a1 a2) (aJ.f F' (k + 1) a0 a1 a2) := by
 intro a0 a1 a2 k
 obtain ⟨ih0, ih1⟩ := aJ.mono_l HLE k
 unfold aJ.f
 repeat' first
  | (with_reducible exact ih0 _ _ _ _ _ _ _ _ _)
  | (with_reducible exact ih1 _ _ _ _ _ _ _ _ _)
  | (with_reducible exact aj.mono _ _ _ _ _ _ _)
  | (with_reducible exact aU.mono HLE _ _ _ _ _ _ _ _ _)
  | (with_reducible exact bZ.mono _ _ _ _)
  | (with_reducible exact LeO.refl _)
  | (with_reducible exact LeO.none _)
  | (with_reducible refine LeO.ite ?_ ?_)
  | (with_reducible refine LeO.bind ?_ (fun _ => ?_))
  | exact ih0 _ _ _ _ _ _ _ _ _
  | exact ih1 _ _ _ _ _ _ _ _ _
  | exact aj.mono _ _ _ _ _ _ _
  | exact aU.mono HLE _ _ _ _ _ _ _ _ _
  | exact bZ.mono _ _ _ _
  | exact LeO.none _
  | refine LeO.ite ?_ ?_
  | refine LeO.bind ?_ (fun _ => ?_)
set_option maxHeartbeats 8000000 in
set_option maxRecDepth 100000 in
theorem aJ.calls (F : Fam) (HF : jL F) (k : Nat) (g : Nat) (s0_0 : List (S38)) (s0_1 : Int) (s0_2 : Bool) (r1 : List (S41)) (r2 : Int) (r3 : Bool) (w0 w : World) (hI : ah w0 w g s0_0 s0_1 s0_2) (hB : Below w0.heap.size w0 w) (h : aJ.f F k s0_0 s0_1 s0_2 = some (r1, r2, r3)) :
 Calls Try.prog 25 #[.pointer (some ⟨g, 0, none⟩)] w fun e w' => ∃ v0_ : Value, e = .returned (v0_) ∧ Kd.R k41 41 w' w.heap.size (fun _ => True) v0_ r1 ∧ ah w0 w' g s0_0 r2 r3 ∧ Below w0.heap.size w0 w' ∧ af w w' g none := by
 have hu41 := Try.underlying41
 have HI0 := Aside0.mk hI
 have HK := Aside0.mk (af.refl w g none)
 have HL := Aside0.mk hB.size
 clear hI
 have HW0 := Aside0.mk hB.size
 have HB := Aside0.mk hB
 clear hB
 have H : ((ak.f s0_0 s0_1 s0_2 (⟨#[109, 111, 100, 117, 108, 101]⟩ : ByteArray)).bind fun bt528 => ((aX.f s0_0 bt528.1 bt528.2 1).bind fun bt530 => ((aX.f s0_0 bt530.2.2.2.2.1 bt530.2.2.2.2.2 2).bind fun bt537 => ((ak.f s0_0 bt537.2.2.2.2.1 bt537.2.2.2.2.2 (⟨#[59]⟩ : ByteArray)).bind fun bt543 => (aJ.l0 F k ([] : List (List (S41))) s0_0 bt543.1 bt543.2 1 0 bt530.2.1 bt537.2.2.1 (⟨#[]⟩ : ByteArray)))))) = some (r1, r2, r3) := h
 clear h
 replace H := Option.bind_eq_some_iff.mp H
 obtain ⟨⟨t528, t529⟩, A20, H⟩ := H
 try dsimp only at H
 have A2 := Aside0.mk A20
 clear A20
 replace H := Option.bind_eq_some_iff.mp H
 obtain ⟨⟨t530, t531, t532, t533, t534, t535⟩, A30, H⟩ := H
 try dsimp only at H
 have A3 := Aside0.mk A30
 clear A30
 replace H := Option.bind_eq_some_iff.mp H
 obtain ⟨⟨t537, t538, t539, t540, t541, t542⟩, A40, H⟩ := H
 try dsimp only at H
 have A4 := Aside0.mk A40
 clear A40
 replace H := Option.bind_eq_some_iff.mp H
 obtain ⟨⟨t543, t544⟩, A50, H⟩ := H
 replace H : (aJ.l0 F k ([] : List (List (S41))) s0_0 t543 t544 1 0 t531 t539 (⟨#[]⟩ : ByteArray)) = some (r1, r2, r3) := H
 have A5 := Aside0.mk A50
 clear A50
 have H' := Aside0.mk H
 clear H
 go_enter Try.func25, Try.ntmps25
 go_wp2_with (first | ((with_reducible refine gate_callee (f := 51) rfl ?_); refine goesL_ (some 6) rfl rfl Try.func51 (by kernel_rfl) rfl #[.pointer (some ⟨g, 0, none⟩), .string (⟨#[109, 111, 100, 117, 108, 101]⟩ : ByteArray)] rfl Z3 ?_; (with_reducible refine (ak.calls g s0_0 s0_1 s0_2 (⟨#[109, 111, 100, 117, 108, 101]⟩ : ByteArray) t528 t529 w0 _ ?side1 ?side2 A2.out).mono ?_); (case side1 => exact Z0); (case side2 => exact Z2); rintro e w6 ⟨rfl, hi, hb, hk⟩; refine ⟨_, rfl, ?_⟩; have n0_ := Aside0.mk (af.trans Z1 hk (.inl rfl)); have n1_ := Aside0.mk (hb); have n2_ := Aside0.mk (hi); clear HK; clear HB; clear HI0; have HK := n0_; have HB := n1_; have HI0 := n2_; clear n0_ n1_ n2_; (try clear hb)) | ((with_reducible refine gate_callee (f := 52) rfl ?_); refine goesL_ (some 8) rfl rfl Try.func52 (by kernel_rfl) rfl #[.pointer (some ⟨g, 0, none⟩), .int .i64 1] rfl Z3 ?_; (with_reducible refine (aX.calls g s0_0 t528 t529 1 t530 t531 t532 t533 t534 t535 w0 _ ?side1 ?side2 A3.out).mono ?_); (case side1 => exact Z0); (case side2 => exact Z2); rintro e w7 ⟨rfl, hi, hb, hk⟩; refine ⟨_, rfl, ?_⟩; have n0_ := Aside0.mk (af.trans Z1 hk (.inl rfl)); have n1_ := Aside0.mk (hb); have n2_ := Aside0.mk (hi); clear HK; clear HB; clear HI0; have HK := n0_; have HB := n1_; have HI0 := n2_; clear n0_ n1_ n2_; (try clear hb)) | ((with_reducible refine bP (N := 3) rfl ?_); refine bT ?hg (N := 3) ?hd (cs := #[.int .i64 0, .int .i64 0, .string (⟨#[]⟩ : ByteArray), .int .i64 0, .string (⟨#[]⟩ : ByteArray)]) (t := 41) ?hr ?_; (case hd => rfl); (case hg => rfl); (case hr => first | (go_simp; done) | (go_simp; rfl)); intro gb536 hg w8 hbox hb; have n0_ := Aside0.mk (ah.below Z0 hb); have n1_ := Aside0.mk (af.trans Z1 (af.of_below hb g none) (.inl rfl)); have n2_ := Aside0.mk (below_step Z2 hb); have n3_ := Aside0.mk (hbox); have n4_ := Aside0.mk ((by rw [hg]; exact (aH (w := w) (g := g) (row := none) Z1) : w.heap.size ≤ gb536)); have n5_ := Aside0.mk ((Nat.le_trans HW0.out (by rw [hg]; exact (aH (w := w) (g := g) (row := none) Z1) : w.heap.size ≤ gb536) : w0.heap.size ≤ gb536)); have n6_ := Aside0.mk ((by rw [hg]; exact Nat.ne_of_lt (ah.lt (show ah w0 _ g s0_0 t534 t535 from Z0)) : g ≠ gb536)); have n7_ := Aside0.mk ((by rw [hg]; exact Nat.ne_of_gt (ah.lt (show ah w0 _ g s0_0 t534 t535 from Z0)) : gb536 ≠ g)); clear HI0; clear HK; clear HB; have HI0 := n0_; have HK := n1_; have HB := n2_; have BK536 := n3_; have GW536 := n4_; have GE536 := n5_; have NB0_536 := n6_; have NB536_0 := n7_; clear n0_ n1_ n2_ n3_ n4_ n5_ n6_ n7_; clear hb hbox hg; have hnb9 := NB536_0.out; have hnc9 := NB0_536.out; have hcz10_0 : w8.cell? ⟨gb536, 0, none⟩ = some (.int .i64 0) := (ag BK536.out 0).trans rfl; have hcz10_1 : w8.cell? ⟨gb536, 1, none⟩ = some (.int .i64 0) := (ag BK536.out 1).trans rfl; have hcz10_2 : w8.cell? ⟨gb536, 2, none⟩ = some (.string (⟨#[]⟩ : ByteArray)) := (ag BK536.out 2).trans rfl; have hcz10_3 : w8.cell? ⟨gb536, 3, none⟩ = some (.int .i64 0) := (ag BK536.out 3).trans rfl; have hcz10_4 : w8.cell? ⟨gb536, 4, none⟩ = some (.string (⟨#[]⟩ : ByteArray)) := (ag BK536.out 4).trans rfl; have hfz10_0 := ae BK536.out 0; have hfz10_1 := ae BK536.out 1; have hfz10_2 := ae BK536.out 2; have hfz10_3 := ae BK536.out 3; have hfz10_4 := ae BK536.out 4) | ((with_reducible refine gate_callee (f := 52) rfl ?_); refine goesL_ (some 12) rfl rfl Try.func52 (by kernel_rfl) rfl #[.pointer (some ⟨g, 0, none⟩), .int .i64 2] rfl Z3 ?_; (with_reducible refine (aX.calls g s0_0 t534 t535 2 t537 t538 t539 t540 t541 t542 w0 _ ?side1 ?side2 A4.out).mono ?_); (case side1 => exact Z9); (case side2 => exact Z14); rintro e w11 ⟨rfl, hi, hb, hk⟩; refine ⟨_, rfl, ?_⟩; have n0_ := Aside0.mk (af.blk hk (g' := gb536) (o := .cells #[.int .i64 1, .int .i64 0, .string t531, .int .i64 0, .string (⟨#[]⟩ : ByteArray)] 41 (0, 0)) (by refine aZ (cs := #[.int .i64 1, .int .i64 0, .string t531, .int .i64 0, .string (⟨#[]⟩ : ByteArray)]) ?_ 4 _ rfl; refine aZ (cs := #[.int .i64 1, .int .i64 0, .string t531, .int .i64 0, .string (⟨#[]⟩ : ByteArray)]) ?_ 3 _ rfl; refine aZ (cs := #[.int .i64 1, .int .i64 0, .string (⟨#[]⟩ : ByteArray), .int .i64 0, .string (⟨#[]⟩ : ByteArray)]) ?_ 2 _ rfl; refine aZ (cs := #[.int .i64 1, .int .i64 0, .string (⟨#[]⟩ : ByteArray), .int .i64 0, .string (⟨#[]⟩ : ByteArray)]) ?_ 1 _ rfl; refine aZ (cs := #[.int .i64 0, .int .i64 0, .string (⟨#[]⟩ : ByteArray), .int .i64 0, .string (⟨#[]⟩ : ByteArray)]) ?_ 0 _ rfl; exact BK536.out) NB536_0.out (by simp)); have n1_ := Aside0.mk (af.trans Z11 hk (.inl rfl)); have n2_ := Aside0.mk (hb); have n3_ := Aside0.mk (hi); clear BK536; clear HK; clear HB; clear HI0; have BK536 := n0_; have HK := n1_; have HB := n2_; have HI0 := n3_; clear n0_ n1_ n2_ n3_; (try clear hb); have hcz12_0 : w11.cell? ⟨gb536, 0, none⟩ = some (.int .i64 1) := (ag BK536.out 0).trans rfl; have hcz12_1 : w11.cell? ⟨gb536, 1, none⟩ = some (.int .i64 0) := (ag BK536.out 1).trans rfl; have hcz12_2 : w11.cell? ⟨gb536, 2, none⟩ = some (.string t531) := (ag BK536.out 2).trans rfl; have hcz12_3 : w11.cell? ⟨gb536, 3, none⟩ = some (.int .i64 0) := (ag BK536.out 3).trans rfl; have hcz12_4 : w11.cell? ⟨gb536, 4, none⟩ = some (.string (⟨#[]⟩ : ByteArray)) := (ag BK536.out 4).trans rfl; have hfz12_0 := ae BK536.out 0; have hfz12_1 := ae BK536.out 1; have hfz12_2 := ae BK536.out 2; have hfz12_3 := ae BK536.out 3; have hfz12_4 := ae BK536.out 4) | ((with_reducible refine gate_callee (f := 51) rfl ?_); refine goesL_ (some 16) rfl rfl Try.func51 (by kernel_rfl) rfl #[.pointer (some ⟨g, 0, none⟩), .string (⟨#[59]⟩ : ByteArray)] rfl Z3 ?_; (with_reducible refine (ak.calls g s0_0 t541 t542 (⟨#[59]⟩ : ByteArray) t543 t544 w0 _ ?side1 ?side2 A5.out).mono ?_); (case side1 => exact Z9); (case side2 => exact Z14); rintro e w13 ⟨rfl, hi, hb, hk⟩; refine ⟨_, rfl, ?_⟩; have n0_ := Aside0.mk (af.blk hk (g' := gb536) (o := .cells #[.int .i64 1, .int .i64 0, .string t531, .int .i64 t539, .string (⟨#[]⟩ : ByteArray)] 41 (0, 0)) (by refine aZ (cs := #[.int .i64 1, .int .i64 0, .string t531, .int .i64 0, .string (⟨#[]⟩ : ByteArray)]) ?_ 3 _ rfl; exact BK536.out) NB536_0.out (by simp)); have n1_ := Aside0.mk (af.trans Z11 hk (.inl rfl)); have n2_ := Aside0.mk (hb); have n3_ := Aside0.mk (hi); clear BK536; clear HK; clear HB; clear HI0; have BK536 := n0_; have HK := n1_; have HB := n2_; have HI0 := n3_; clear n0_ n1_ n2_ n3_; (try clear hb)))
 (try simp only [Act.put, List.setIfInBounds_toArray, List.set_cons_zero, List.set_cons_succ])
 go_loopg [4] k (fun kq v4 w' => ∃ (x4_1 : List (List (S41))) (x1001_1 : Int) (x1002_1 : Bool), Aside0 (aJ.l0 F kq x4_1 s0_0 x1001_1 x1002_1 1 0 t531 t539 (⟨#[]⟩ : ByteArray) = some (r1, r2, r3)) ∧ Aside0 (kq ≤ k) ∧ Aside0 (Kd.S (Kd.slice 41 k41) 23 w' w.heap.size (fun k_ => k_ ≠ gb536) v4 x4_1) ∧ Aside0 (w'.heap[gb536]? = some (.cells #[.int .i64 1, .int .i64 0, .string t531, .int .i64 t539, .string (⟨#[]⟩ : ByteArray)] 41 (0, 0))) ∧ Aside0 (ah w0 w' g s0_0 x1001_1 x1002_1) ∧ Aside0 (af w w' g none) ∧ Aside0 (Below w0.heap.size w0 w'))
 case atStart => exact ⟨(([] : List (List (S41)))), (t543), (t544), H', ⟨Nat.le_refl _⟩, ⟨Z58⟩, ⟨by exact BK536.out⟩, ⟨Z9⟩, ⟨Z11⟩, ⟨Z14⟩⟩
 case round =>
  clear H'
  try clear c2
  try clear p2
  try clear c5
  try clear c9
  try clear hcz10_0
  try clear hcz10_1
  try clear hcz10_2
  try clear hcz10_3
  try clear hcz10_4
  try clear hcz12_0
  try clear hcz12_1
  try clear hcz12_2
  try clear hcz12_3
  try clear hcz12_4
  try clear hfz10_0
  try clear hfz10_1
  try clear hfz10_2
  try clear hfz10_3
  try clear hfz10_4
  try clear hfz12_0
  try clear hfz12_1
  try clear hfz12_2
  try clear hfz12_3
  try clear hfz12_4
  obtain ⟨x4_1, x1001_1, x1002_1, HA, HK1, HO_4, BK536, HI0, HK, HB⟩ := hrel
  cases gk with
  | zero => exact absurd HA.out (by simp [aJ.l0])
  | succ k1 =>
   have H := HA.out
   clear HA
   simp only [aJ.l0] at H
   replace H := Option.bind_eq_some_iff.mp H
   obtain ⟨⟨t545, t546, t547⟩, A140, H⟩ := H
   try dsimp only at H
   have A14 := Aside0.mk A140
   clear A140
   by_cases c15 : t545 = true
   ·subst c15
    rw [if_pos rfl] at H
    have H1 := H
    clear H
    have H := H1
    clear H1
    replace H := Option.bind_eq_some_iff.mp H
    obtain ⟨⟨t548, t551, t552⟩, A160, H⟩ := H
    try dsimp only at H
    have A16 := Aside0.mk A160
    clear A160
    by_cases c17 : x4_1.length < 5864062014805
    ·rw [if_pos c17] at H
     have LMc17 := Aside0.mk c17
     clear c17
     obtain ⟨y553, hy553⟩ : ∃ y_ : List (List (S41)), y_ = (x4_1 ++ [t548]) := ⟨_, rfl⟩
     replace H : (aJ.l0 F k1 y553 s0_0 t551 t552 1 0 t531 t539 (⟨#[]⟩ : ByteArray)) = some (r1, r2, r3) := by first | (rw [hy553]; with_reducible exact H) | (have H2_ := (Option.bind_some _ _).symm.trans H; rw [hy553]; with_reducible exact H2_) | (have H2_ := (Option.bind_some _ _).symm.trans H; with_reducible exact H2_) | with_reducible exact H | (rw [hy553]; exact H) | exact H
     have Ny553 := Aside0.mk hy553
     clear hy553
     have H' := Aside0.mk H
     clear H
     go_wp2_with (first | ((with_reducible refine gate_callee (f := 53) rfl ?_); refine goesL_ (some 18) rfl rfl Try.func53 (by kernel_rfl) rfl #[.pointer (some ⟨g, 0, none⟩), .string (⟨#[117, 115, 101]⟩ : ByteArray)] rfl Z3 ?_; (with_reducible refine (au.calls g s0_0 x1001_1 x1002_1 (⟨#[117, 115, 101]⟩ : ByteArray) true t546 t547 w0 _ ?side1 ?side2 A14.out).mono ?_); (case side1 => exact Z9); (case side2 => exact Z14); rintro e w18 ⟨rfl, hi, hb, hk⟩; refine ⟨_, rfl, ?_⟩; have n0_ := Aside0.mk (Kd.dV (Kd.iT (ah.fJ (show ah w0 _ g s0_0 x1001_1 x1002_1 from Z9) Z39 (by decide)) hk (fun _ h => h.2)) (fun _ h => h.1)); have n1_ := Aside0.mk (af.blk hk (g' := gb536) (o := .cells #[.int .i64 1, .int .i64 0, .string t531, .int .i64 t539, .string (⟨#[]⟩ : ByteArray)] 41 (0, 0)) (by exact BK536.out) NB536_0.out (by simp)); have n2_ := Aside0.mk (af.trans Z11 hk (.inl rfl)); have n3_ := Aside0.mk (hb); have n4_ := Aside0.mk (hi); clear HO_4; clear BK536; clear HK; clear HB; clear HI0; have HO_4 := n0_; have BK536 := n1_; have HK := n2_; have HB := n3_; have HI0 := n4_; clear n0_ n1_ n2_ n3_ n4_; (try clear hb)) | ((with_reducible refine gate_callee (f := 54) rfl ?_); refine goesL_ (some 21) rfl rfl Try.func54 (by kernel_rfl) rfl #[.pointer (some ⟨g, 0, none⟩)] rfl Z3 ?_; (with_reducible refine (bZ.calls k1 g s0_0 t546 t547 t548 t551 t552 w0 _ ?side1 ?side2 A16.out).mono ?_); (case side1 => exact Z9); (case side2 => exact Z14); rintro e w19 ⟨v549, rfl, ho0, hi, hb, hk⟩; refine ⟨_, rfl, ?_⟩; have n0_ := Aside0.mk (Kd.dV (Kd.lN (Kd.lQ (ah.fJ (show ah w0 _ g s0_0 t546 t547 from Z9) Z39 (by decide)) hk) (Kd.dH ho0)) (fun _ h_ => h_.1)); have n1_ := Aside0.mk (af.blk hk (g' := gb536) (o := .cells #[.int .i64 1, .int .i64 0, .string t531, .int .i64 t539, .string (⟨#[]⟩ : ByteArray)] 41 (0, 0)) (by exact BK536.out) NB536_0.out (by simp)); have n2_ := Aside0.mk (Kd.R_lower (Kd.lw ho0 (g := gb536) (o := .cells #[.int .i64 1, .int .i64 0, .string t531, .int .i64 t539, .string (⟨#[]⟩ : ByteArray)] 41 (0, 0)) (by exact BK536.out)) (aH (w := w) (g := g) (row := none) Z11)); have n3_ := Aside0.mk (af.trans Z11 hk (.inl rfl)); have n4_ := Aside0.mk (hb); have n5_ := Aside0.mk (hi); clear HO_4; clear BK536; clear HK; clear HB; clear HI0; have HO_4 := n0_; have BK536 := n1_; have HO550 := n2_; have HK := n3_; have HB := n4_; have HI0 := n5_; clear n0_ n1_ n2_ n3_ n4_ n5_; (try clear hb); (try clear ho0); obtain ⟨Ao21, co21, eo21⟩ := Kd.R_slice HO550.out; subst eo21) | ((with_reducible refine dD (b := .append) (xs := #[.tmp 19, .tmp 22]) rfl ?_); at_builtin; refine Kd.kE (Kd.slice 41 k41) w.heap.size rfl (.tmp 19) (.tmp 22) 78 23 (.slice none 0 0) 24 rfl Try.underlying78 info23 rfl (by decide) (by omega) u4 x4_1 t548 [.slice Ao21 t548.length co21] (fun k_ => k_ ≠ gb536) (fun k_ => some k_ = (.slice Ao21 t548.length co21 : Value).ownBlock) rfl rfl ?aP (fun k_ hk_ => ((Kd.bi (ok' := fun k_ => ((fun k_ => k_ ≠ gb536)) k_ ∧ some k_ ≠ (u4 : Value).ownBlock) (Kd.dJ (HO550.out) (Kd.gI HO_4.out) (by decide)) (fun k_ hk => ⟨hk.1.2, hk.2⟩))).1 k_ hk_.symm) ?aF ?aO (Below.refl _ _) ?aS ?aL ?_; (case aP => exact Kd.oL (Kd.bi (Kd.jU rfl (Kd.bi (ok' := fun k_ => ((fun k_ => k_ ≠ gb536)) k_ ∧ some k_ ≠ (u4 : Value).ownBlock) (Kd.dJ (HO550.out) (Kd.gI HO_4.out) (by decide)) (fun k_ hk => ⟨hk.1.2, hk.2⟩))) (fun _ h_ => h_))); (case aF => exact (fun k_ hk => Kd.ng (g := gb536) (o := .cells #[.int .i64 1, .int .i64 0, .string t531, .int .i64 t539, .string (⟨#[]⟩ : ByteArray)] 41 (0, 0)) (by exact BK536.out) k_ hk)); (case aO => exact (by (with_reducible repeat (first | apply Kd.fP | apply Kd.fO | apply Kd.iw)); exact Kd.dV HO_4.out (fun k_ hk => ⟨hk.1, fun e_ => hk.2 e_⟩))); (case aS => exact (aH (w := w) (g := g) (row := none) Z11)); (case aL => have := LMc17.out; omega); intro v554 w20 ho hb hg hat; rw [← Ny553.out] at ho; have n0_ := Aside0.mk (iJ (g := gb536) (o := .cells #[.int .i64 1, .int .i64 0, .string t531, .int .i64 t539, .string (⟨#[]⟩ : ByteArray)] 41 (0, 0)) (by exact BK536.out) hg (Kd.Bo HO_4.out BK536.out (by decide))); have n1_ := Aside0.mk (ah.grown Z9 hg (ah.kN HI0.out HO_4.out (by decide))); have n2_ := Aside0.mk (dW Z14 HL.out hb); have n3_ := Aside0.mk (af.trans Z11 (af.gp hg g) (Kd.kQ HO_4.out)); have n4_ := Aside0.mk (ho); clear BK536; clear HI0; clear HB; clear HK; clear HO_4; clear HO550; have BK536 := n0_; have HI0 := n1_; have HB := n2_; have HK := n3_; have HO555 := n4_; clear n0_ n1_ n2_ n3_ n4_; clear ho hb hg hat))
     go_roundg k1
     case measure => have := HK1.out; omega
     case rel => exact ⟨(y553), (t551), (t552), H', ⟨by have := HK1.out; omega⟩, ⟨by (with_reducible repeat (first | apply Kd.fP | apply Kd.fO | apply Kd.iw)); exact HO555.out⟩, ⟨by exact BK536.out⟩, ⟨Z9⟩, ⟨Z11⟩, ⟨Z14⟩⟩
    rw [if_neg c17] at H
    exact absurd H (by simp)
   replace c15 := Bool.eq_false_iff.mpr c15
   subst c15
   have H1 : (aJ.l1 F k1 x4_1 s0_0 t546 t547 1 0 t531 t539 (⟨#[]⟩ : ByteArray)) = some (r1, r2, r3) := by rw [if_neg (show ¬ (false = true) by decide)] at H; exact H
   clear H
   have H := H1
   clear H1
   have H' := Aside0.mk H
   clear H
   go_wp2_with (first | ((with_reducible refine gate_callee (f := 53) rfl ?_); refine goesL_ (some 18) rfl rfl Try.func53 (by kernel_rfl) rfl #[.pointer (some ⟨g, 0, none⟩), .string (⟨#[117, 115, 101]⟩ : ByteArray)] rfl Z3 ?_; (with_reducible refine (au.calls g s0_0 x1001_1 x1002_1 (⟨#[117, 115, 101]⟩ : ByteArray) false t546 t547 w0 _ ?side1 ?side2 A14.out).mono ?_); (case side1 => exact Z9); (case side2 => exact Z14); rintro e w22 ⟨rfl, hi, hb, hk⟩; refine ⟨_, rfl, ?_⟩; have n0_ := Aside0.mk (Kd.dV (Kd.iT (ah.fJ (show ah w0 _ g s0_0 x1001_1 x1002_1 from Z9) Z39 (by decide)) hk (fun _ h => h.2)) (fun _ h => h.1)); have n1_ := Aside0.mk (af.blk hk (g' := gb536) (o := .cells #[.int .i64 1, .int .i64 0, .string t531, .int .i64 t539, .string (⟨#[]⟩ : ByteArray)] 41 (0, 0)) (by exact BK536.out) NB536_0.out (by simp)); have n2_ := Aside0.mk (af.trans Z11 hk (.inl rfl)); have n3_ := Aside0.mk (hb); have n4_ := Aside0.mk (hi); clear HO_4; clear BK536; clear HK; clear HB; clear HI0; have HO_4 := n0_; have BK536 := n1_; have HK := n2_; have HB := n3_; have HI0 := n4_; clear n0_ n1_ n2_ n3_ n4_; (try clear hb)))
   (try simp only [Act.put, List.setIfInBounds_toArray, List.set_cons_zero, List.set_cons_succ])
   go_loopg [4] k1 (fun kq v4 w' => ∃ (x4_2 : List (List (S41))) (x1001_2 : Int) (x1002_2 : Bool), Aside0 (aJ.l1 F kq x4_2 s0_0 x1001_2 x1002_2 1 0 t531 t539 (⟨#[]⟩ : ByteArray) = some (r1, r2, r3)) ∧ Aside0 (kq ≤ k1) ∧ Aside0 (Kd.S (Kd.slice 41 k41) 23 w' w.heap.size (fun k_ => k_ ≠ gb536) v4 x4_2) ∧ Aside0 (w'.heap[gb536]? = some (.cells #[.int .i64 1, .int .i64 0, .string t531, .int .i64 t539, .string (⟨#[]⟩ : ByteArray)] 41 (0, 0))) ∧ Aside0 (ah w0 w' g s0_0 x1001_2 x1002_2) ∧ Aside0 (af w w' g none) ∧ Aside0 (Below w0.heap.size w0 w'))
   case atStart => exact ⟨(x4_1), (t546), (t547), H', ⟨Nat.le_refl _⟩, ⟨Z39⟩, ⟨by exact BK536.out⟩, ⟨Z9⟩, ⟨Z11⟩, ⟨Z14⟩⟩
   case round =>
    clear H'
    try clear c1
    try clear c2
    try clear p2
    try clear c5
    try clear c9
    try clear c15
    try clear c17
    try clear hcz10_0
    try clear hcz10_1
    try clear hcz10_2
    try clear hcz10_3
    try clear hcz10_4
    try clear hcz12_0
    try clear hcz12_1
    try clear hcz12_2
    try clear hcz12_3
    try clear hcz12_4
    try clear hfz10_0
    try clear hfz10_1
    try clear hfz10_2
    try clear hfz10_3
    try clear hfz10_4
    try clear hfz12_0
    try clear hfz12_1
    try clear hfz12_2
    try clear hfz12_3
    try clear hfz12_4
    try clear p2
    obtain ⟨x4_2, x1001_2, x1002_2, HA, HK2, HO_4, BK536, HI0, HK, HB⟩ := hrel
    cases gk with
    | zero => exact absurd HA.out (by simp [aJ.l1])
    | succ k2 =>
     have H := HA.out
     clear HA
     simp only [aJ.l1] at H
     replace H := Option.bind_eq_some_iff.mp H
     obtain ⟨⟨t556, t557, t558⟩, A230, H⟩ := H
     try dsimp only at H
     have A23 := Aside0.mk A230
     clear A230
     by_cases c24 : t556 = true
     ·subst c24
      rw [if_pos rfl] at H
      have H1 := H
      clear H
      have H := H1
      clear H1
      replace H := Option.bind_eq_some_iff.mp H
      obtain ⟨⟨t559, t560, t561, t562, t563, t564⟩, A250, H⟩ := H
      try dsimp only at H
      have A25 := Aside0.mk A250
      clear A250
      replace H := Option.bind_eq_some_iff.mp H
      obtain ⟨⟨t565, t568, t569⟩, A260, H⟩ := H
      try dsimp only at H
      have A26 := Aside0.mk A260
      clear A260
      by_cases c27 : x4_2.length < 5864062014805
      ·rw [if_pos c27] at H
       have LMc27 := Aside0.mk c27
       clear c27
       obtain ⟨y570, hy570⟩ : ∃ y_ : List (List (S41)), y_ = (x4_2 ++ [t565]) := ⟨_, rfl⟩
       replace H : (aJ.l1 F k2 y570 s0_0 t568 t569 1 0 t531 t539 (⟨#[]⟩ : ByteArray)) = some (r1, r2, r3) := by first | (rw [hy570]; with_reducible exact H) | (have H2_ := (Option.bind_some _ _).symm.trans H; rw [hy570]; with_reducible exact H2_) | (have H2_ := (Option.bind_some _ _).symm.trans H; with_reducible exact H2_) | with_reducible exact H | (rw [hy570]; exact H) | exact H
       have Ny570 := Aside0.mk hy570
       clear hy570
       have H' := Aside0.mk H
       clear H
       go_wp2_with (first | ((with_reducible refine gate_callee (f := 53) rfl ?_); refine goesL_ (some 25) rfl rfl Try.func53 (by kernel_rfl) rfl #[.pointer (some ⟨g, 0, none⟩), .string (⟨#[102, 110]⟩ : ByteArray)] rfl Z3 ?_; (with_reducible refine (au.calls g s0_0 x1001_2 x1002_2 (⟨#[102, 110]⟩ : ByteArray) true t557 t558 w0 _ ?side1 ?side2 A23.out).mono ?_); (case side1 => exact Z9); (case side2 => exact Z14); rintro e w28 ⟨rfl, hi, hb, hk⟩; refine ⟨_, rfl, ?_⟩; have n0_ := Aside0.mk (Kd.dV (Kd.iT (ah.fJ (show ah w0 _ g s0_0 x1001_2 x1002_2 from Z9) Z39 (by decide)) hk (fun _ h => h.2)) (fun _ h => h.1)); have n1_ := Aside0.mk (af.blk hk (g' := gb536) (o := .cells #[.int .i64 1, .int .i64 0, .string t531, .int .i64 t539, .string (⟨#[]⟩ : ByteArray)] 41 (0, 0)) (by exact BK536.out) NB536_0.out (by simp)); have n2_ := Aside0.mk (af.trans Z11 hk (.inl rfl)); have n3_ := Aside0.mk (hb); have n4_ := Aside0.mk (hi); clear HO_4; clear BK536; clear HK; clear HB; clear HI0; have HO_4 := n0_; have BK536 := n1_; have HK := n2_; have HB := n3_; have HI0 := n4_; clear n0_ n1_ n2_ n3_ n4_; (try clear hb)) | ((with_reducible refine gate_callee (f := 52) rfl ?_); refine goesL_ (some 29) rfl rfl Try.func52 (by kernel_rfl) rfl #[.pointer (some ⟨g, 0, none⟩), .int .i64 1] rfl Z3 ?_; (with_reducible refine (aX.calls g s0_0 t557 t558 1 t559 t560 t561 t562 t563 t564 w0 _ ?side1 ?side2 A25.out).mono ?_); (case side1 => exact Z9); (case side2 => exact Z14); rintro e w29 ⟨rfl, hi, hb, hk⟩; refine ⟨_, rfl, ?_⟩; have n0_ := Aside0.mk (Kd.dV (Kd.iT (ah.fJ (show ah w0 _ g s0_0 t557 t558 from Z9) Z39 (by decide)) hk (fun _ h => h.2)) (fun _ h => h.1)); have n1_ := Aside0.mk (af.blk hk (g' := gb536) (o := .cells #[.int .i64 1, .int .i64 0, .string t531, .int .i64 t539, .string (⟨#[]⟩ : ByteArray)] 41 (0, 0)) (by exact BK536.out) NB536_0.out (by simp)); have n2_ := Aside0.mk (af.trans Z11 hk (.inl rfl)); have n3_ := Aside0.mk (hb); have n4_ := Aside0.mk (hi); clear HO_4; clear BK536; clear HK; clear HB; clear HI0; have HO_4 := n0_; have BK536 := n1_; have HK := n2_; have HB := n3_; have HI0 := n4_; clear n0_ n1_ n2_ n3_ n4_; (try clear hb)) | ((with_reducible refine gate_callee (f := 55) rfl ?_); refine goesL_ (some 32) rfl rfl Try.func55 (by kernel_rfl) rfl #[.pointer (some ⟨g, 0, none⟩), .agg #[.int .i64 3, .int .i64 0, .string t560, .int .i64 0, .string (⟨#[]⟩ : ByteArray)]] rfl Z3 ?_; (with_reducible refine (aU.calls F HF k2 g s0_0 t563 t564 3 0 t560 0 (⟨#[]⟩ : ByteArray) t565 t568 t569 w0 _ ?side1 ?side2 A26.out).mono ?_); (case side1 => exact Z9); (case side2 => exact Z14); rintro e w30 ⟨v566, rfl, ho0, hi, hb, hk⟩; refine ⟨_, rfl, ?_⟩; have n0_ := Aside0.mk (Kd.dV (Kd.lN (Kd.lQ (ah.fJ (show ah w0 _ g s0_0 t563 t564 from Z9) Z39 (by decide)) hk) (Kd.dH ho0)) (fun _ h_ => h_.1)); have n1_ := Aside0.mk (af.blk hk (g' := gb536) (o := .cells #[.int .i64 1, .int .i64 0, .string t531, .int .i64 t539, .string (⟨#[]⟩ : ByteArray)] 41 (0, 0)) (by exact BK536.out) NB536_0.out (by simp)); have n2_ := Aside0.mk (Kd.R_lower (Kd.lw ho0 (g := gb536) (o := .cells #[.int .i64 1, .int .i64 0, .string t531, .int .i64 t539, .string (⟨#[]⟩ : ByteArray)] 41 (0, 0)) (by exact BK536.out)) (aH (w := w) (g := g) (row := none) Z11)); have n3_ := Aside0.mk (af.trans Z11 hk (.inl rfl)); have n4_ := Aside0.mk (hb); have n5_ := Aside0.mk (hi); clear HO_4; clear BK536; clear HK; clear HB; clear HI0; have HO_4 := n0_; have BK536 := n1_; have HO567 := n2_; have HK := n3_; have HB := n4_; have HI0 := n5_; clear n0_ n1_ n2_ n3_ n4_ n5_; (try clear hb); (try clear ho0); obtain ⟨Ao32, co32, eo32⟩ := Kd.R_slice HO567.out; subst eo32) | ((with_reducible refine dD (b := .append) (xs := #[.tmp 26, .tmp 33]) rfl ?_); at_builtin; refine Kd.kE (Kd.slice 41 k41) w.heap.size rfl (.tmp 26) (.tmp 33) 78 23 (.slice none 0 0) 24 rfl Try.underlying78 info23 rfl (by decide) (by omega) u4 x4_2 t565 [.slice Ao32 t565.length co32] (fun k_ => k_ ≠ gb536) (fun k_ => some k_ = (.slice Ao32 t565.length co32 : Value).ownBlock) rfl rfl ?aP (fun k_ hk_ => ((Kd.bi (ok' := fun k_ => ((fun k_ => k_ ≠ gb536)) k_ ∧ some k_ ≠ (u4 : Value).ownBlock) (Kd.dJ (HO567.out) (Kd.gI HO_4.out) (by decide)) (fun k_ hk => ⟨hk.1.2, hk.2⟩))).1 k_ hk_.symm) ?aF ?aO (Below.refl _ _) ?aS ?aL ?_; (case aP => exact Kd.oL (Kd.bi (Kd.jU rfl (Kd.bi (ok' := fun k_ => ((fun k_ => k_ ≠ gb536)) k_ ∧ some k_ ≠ (u4 : Value).ownBlock) (Kd.dJ (HO567.out) (Kd.gI HO_4.out) (by decide)) (fun k_ hk => ⟨hk.1.2, hk.2⟩))) (fun _ h_ => h_))); (case aF => exact (fun k_ hk => Kd.ng (g := gb536) (o := .cells #[.int .i64 1, .int .i64 0, .string t531, .int .i64 t539, .string (⟨#[]⟩ : ByteArray)] 41 (0, 0)) (by exact BK536.out) k_ hk)); (case aO => exact (by (with_reducible repeat (first | apply Kd.fP | apply Kd.fO | apply Kd.iw)); exact Kd.dV HO_4.out (fun k_ hk => ⟨hk.1, fun e_ => hk.2 e_⟩))); (case aS => exact (aH (w := w) (g := g) (row := none) Z11)); (case aL => have := LMc27.out; omega); intro v571 w31 ho hb hg hat; rw [← Ny570.out] at ho; have n0_ := Aside0.mk (iJ (g := gb536) (o := .cells #[.int .i64 1, .int .i64 0, .string t531, .int .i64 t539, .string (⟨#[]⟩ : ByteArray)] 41 (0, 0)) (by exact BK536.out) hg (Kd.Bo HO_4.out BK536.out (by decide))); have n1_ := Aside0.mk (ah.grown Z9 hg (ah.kN HI0.out HO_4.out (by decide))); have n2_ := Aside0.mk (dW Z14 HL.out hb); have n3_ := Aside0.mk (af.trans Z11 (af.gp hg g) (Kd.kQ HO_4.out)); have n4_ := Aside0.mk (ho); clear BK536; clear HI0; clear HB; clear HK; clear HO_4; clear HO567; have BK536 := n0_; have HI0 := n1_; have HB := n2_; have HK := n3_; have HO572 := n4_; clear n0_ n1_ n2_ n3_ n4_; clear ho hb hg hat))
       go_roundg k2
       case measure => have := HK1.out; have := HK2.out; omega
       case rel => exact ⟨(y570), (t568), (t569), H', ⟨by have := HK1.out; have := HK2.out; omega⟩, ⟨by (with_reducible repeat (first | apply Kd.fP | apply Kd.fO | apply Kd.iw)); exact HO572.out⟩, ⟨by exact BK536.out⟩, ⟨Z9⟩, ⟨Z11⟩, ⟨Z14⟩⟩
      rw [if_neg c27] at H
      exact absurd H (by simp)
     replace c24 := Bool.eq_false_iff.mpr c24
     subst c24
     have H1 : ((aj.f k2 1 0 t531 t539 (⟨#[]⟩ : ByteArray) x4_2).bind fun t573 => (some (t573, t557, t558))) = some (r1, r2, r3) := by rw [if_neg (show ¬ (false = true) by decide)] at H; exact H
     clear H
     have H := H1
     clear H1
     replace H := Option.bind_eq_some_iff.mp H
     obtain ⟨t573, A330, H⟩ := H
     replace H : (some (t573, t557, t558)) = some (r1, r2, r3) := H
     have A33 := Aside0.mk A330
     clear A330
     simp only [Option.some.injEq, Prod.mk.injEq] at H
     obtain ⟨rfl, rfl, rfl⟩ := H
     go_wp2_with (first | ((with_reducible refine gate_callee (f := 53) rfl ?_); refine goesL_ (some 25) rfl rfl Try.func53 (by kernel_rfl) rfl #[.pointer (some ⟨g, 0, none⟩), .string (⟨#[102, 110]⟩ : ByteArray)] rfl Z3 ?_; (with_reducible refine (au.calls g s0_0 x1001_2 x1002_2 (⟨#[102, 110]⟩ : ByteArray) false t557 t558 w0 _ ?side1 ?side2 A23.out).mono ?_); (case side1 => exact Z9); (case side2 => exact Z14); rintro e w34 ⟨rfl, hi, hb, hk⟩; refine ⟨_, rfl, ?_⟩; have n0_ := Aside0.mk (Kd.dV (Kd.iT (ah.fJ (show ah w0 _ g s0_0 x1001_2 x1002_2 from Z9) Z39 (by decide)) hk (fun _ h => h.2)) (fun _ h => h.1)); have n1_ := Aside0.mk (af.blk hk (g' := gb536) (o := .cells #[.int .i64 1, .int .i64 0, .string t531, .int .i64 t539, .string (⟨#[]⟩ : ByteArray)] 41 (0, 0)) (by exact BK536.out) NB536_0.out (by simp)); have n2_ := Aside0.mk (af.trans Z11 hk (.inl rfl)); have n3_ := Aside0.mk (hb); have n4_ := Aside0.mk (hi); clear HO_4; clear BK536; clear HK; clear HB; clear HI0; have HO_4 := n0_; have BK536 := n1_; have HK := n2_; have HB := n3_; have HI0 := n4_; clear n0_ n1_ n2_ n3_ n4_; (try clear hb); have hnb35 := NB536_0.out; have hnc35 := NB0_536.out; have hcz36_0 : w34.cell? ⟨gb536, 0, none⟩ = some (.int .i64 1) := (ag BK536.out 0).trans rfl; have hcz36_1 : w34.cell? ⟨gb536, 1, none⟩ = some (.int .i64 0) := (ag BK536.out 1).trans rfl; have hcz36_2 : w34.cell? ⟨gb536, 2, none⟩ = some (.string t531) := (ag BK536.out 2).trans rfl; have hcz36_3 : w34.cell? ⟨gb536, 3, none⟩ = some (.int .i64 t539) := (ag BK536.out 3).trans rfl; have hcz36_4 : w34.cell? ⟨gb536, 4, none⟩ = some (.string (⟨#[]⟩ : ByteArray)) := (ag BK536.out 4).trans rfl; have hfz36_0 := ae BK536.out 0; have hfz36_1 := ae BK536.out 1; have hfz36_2 := ae BK536.out 2; have hfz36_3 := ae BK536.out 3; have hfz36_4 := ae BK536.out 4; obtain ⟨Ao37, co37, eo37⟩ := Kd.jT HO_4.out; subst eo37) | ((with_reducible refine gate_callee (f := 56) rfl ?_); refine goesL_ (some 37) rfl rfl Try.func56 (by kernel_rfl) rfl #[.agg #[.int .i64 1, .int .i64 0, .string t531, .int .i64 t539, .string (⟨#[]⟩ : ByteArray)], .slice Ao37 x4_2.length co37] rfl Z3 ?_; (with_reducible refine (aj.calls k2 1 0 t531 t539 (⟨#[]⟩ : ByteArray) _ _ x4_2 t573 _ ?side1 ?side2 A33.out).mono ?_); (case side1 => repeat (first | exact (Kd.iY HO_4.out).2.2 | (with_reducible refine Kd.C_alloc ?_ _) | (with_reducible refine Kd.C_drewN ?_ _) | (with_reducible refine Kd.C_drew ?_))); (case side2 => exact (Kd.iY HO_4.out).2.1); rintro e w38 ⟨v574, rfl, ho0, hb⟩; refine ⟨_, rfl, ?_⟩; have n0_ := Aside0.mk (Kd.lS Z39 (Kd.dH ho0) hb); have n1_ := Aside0.mk (Kd.R_lower (Kd.lw ho0 (g := gb536) (o := .cells #[.int .i64 1, .int .i64 0, .string t531, .int .i64 t539, .string (⟨#[]⟩ : ByteArray)] 41 (0, 0)) (by exact BK536.out)) (aH (w := w) (g := g) (row := none) Z11)); have n2_ := Aside0.mk (bU (g := gb536) (o := .cells #[.int .i64 1, .int .i64 0, .string t531, .int .i64 t539, .string (⟨#[]⟩ : ByteArray)] 41 (0, 0)) (by exact BK536.out) hb); have n3_ := Aside0.mk (ah.below Z9 hb); have n4_ := Aside0.mk (af.trans Z11 (af.of_below hb g none) (.inl rfl)); have n5_ := Aside0.mk (below_step Z14 hb); clear HO_4; clear BK536; clear HI0; clear HK; clear HB; have HO_4 := n0_; have HO575 := n1_; have BK536 := n2_; have HI0 := n3_; have HK := n4_; have HB := n5_; clear n0_ n1_ n2_ n3_ n4_ n5_; (try clear hb); (try clear ho0)))
     go_ret
     exact ⟨_, Z5, by (with_reducible repeat (first | apply Kd.R_alloc | apply Kd.R_drewN | apply Kd.R_drew)); exact Kd.bi HO575.out (fun _ hk => trivial), Z9, Z14, Z11⟩
end Go.Proofs.Ytendgafpkeadhaa.Q
end
section
set_option linter.unusedVariables false
set_option linter.unusedSimpArgs false
namespace Go.Proofs.Ytendgafpkeadhaa.Q
open Go.RowKit Go.Proofs.YtendgafpkeadhaaW.PrintWords Go.Proofs.YtendgafpkeadhaaW.PrintLast Go.Proofs.YtendgafpkeadhaaW.PrintMore
def fam : Nat → Fam
 | 0 => ⟨fun _ _ _ => none, fun _ _ _ => none, fun _ _ _ _ => none, fun _ _ _ => none⟩
 | k + 1 => ⟨fun a b c => dh.f (fam k) k a b c, fun a b c => aT.f (fam k) k a b c, fun a b c d => aQ.f (fam k) k a b c d, fun a b c => ay.f (fam k) k a b c⟩
theorem qA : ∀ k, jL (fam k)
 | 0 => ⟨fun _ _ _ _ _ _ _ _ _ _ _ h => (by simp [fam] at h), fun _ _ _ _ _ _ _ _ _ _ _ h => (by simp [fam] at h), fun _ _ _ _ _ _ _ _ _ _ _ _ h => (by simp [fam] at h), fun _ _ _ _ _ _ _ _ _ _ _ h => (by simp [fam] at h)⟩
 | k + 1 => ⟨fun g s0 s1 s2 r1 r2 r3 w0 w hI hB h => dh.calls (fam k) (qA k) k g s0 s1 s2 r1 r2 r3 w0 w hI hB h,
  fun g s0 s1 s2 r1 r2 r3 w0 w hI hB h => aT.calls (fam k) (qA k) k g s0 s1 s2 r1 r2 r3 w0 w hI hB h,
  fun g s0 s1 s2 a1 r1 r2 r3 w0 w hI hB h => aQ.calls (fam k) (qA k) k g s0 s1 s2 a1 r1 r2 r3 w0 w hI hB h,
  fun g s0 s1 s2 r1 r2 r3 w0 w hI hB h => ay.calls (fam k) (qA k) k g s0 s1 s2 r1 r2 r3 w0 w hI hB h⟩
theorem qB : ∀ k, iG (fam k) (fam (k + 1))
 | 0 => ⟨fun _ _ _ => LeO.none _, fun _ _ _ => LeO.none _, fun _ _ _ _ => LeO.none _, fun _ _ _ => LeO.none _⟩
 | k + 1 => ⟨fun a b c => dh.mono (qB k) a b c k, fun a b c => aT.mono (qB k) a b c k, fun a b c d => aQ.mono (qB k) a b c d k, fun a b c => ay.mono (qB k) a b c k⟩
end Go.Proofs.Ytendgafpkeadhaa.Q
end
