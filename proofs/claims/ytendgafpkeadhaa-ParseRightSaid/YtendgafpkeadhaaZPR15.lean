/- Walks over functions of the program, words for them, and what the functions come to; of each text only what this claim uses; no condition. -/
import Derived.Test.YtendgafpkeadhaaZPR0
import Derived.Test.YtendgafpkeadhaaZPR3
import Derived.Test.YtendgafpkeadhaaZPR7
import Derived.Test.YtendgafpkeadhaaZPR9
import Derived.Test.YtendgafpkeadhaaZPR10
import Derived.Test.YtendgafpkeadhaaZPR14
section
namespace Go.Proofs.Ytendgafpkeadhaa.Q
open Go.RowKit Go.Proofs.YtendgafpkeadhaaW.PrintWords Go.Proofs.YtendgafpkeadhaaW.PrintLast Go.Proofs.YtendgafpkeadhaaW.PrintMore
attribute [local go_sem] ik ig gZ gY max2_int min2_int max_two min_two max_three min_three max_four min_four
set_option linter.unusedVariables false
set_option linter.unusedSimpArgs false
/-! ### ay: function 82 -/
mutual
def ay.j0 (F : Fam) : Nat → ByteArray → ByteArray → Bool → List (S38) → Int → Bool → Option ((List (S41)) × Int × Bool)
 | 0, _, _, _, _, _, _ => none
 | k + 1, x3, x8, x9, x1000, x1001, x1002 => if x9 = true then ((au.f x1000 x1001 x1002 x3).bind fun bt692 => ((jb.f F k x1000 bt692.2.1 bt692.2.2).bind fun bt695 => ((aj.f k 28 0 (⟨#[]⟩ : ByteArray) 0 x3 (([bt695.1] : List (List (S41))))).bind fun t703 => (some (t703, bt695.2.1, bt695.2.2))))) else (if x8.toList = ([115, 112, 97, 119, 110] : List UInt8) then ((au.f x1000 x1001 x1002 x3).bind fun bt706 => ((jb.f F k x1000 bt706.2.1 bt706.2.2).bind fun bt709 => ((aj.f k 30 0 (⟨#[]⟩ : ByteArray) 0 (⟨#[]⟩ : ByteArray) (([bt709.1] : List (List (S41))))).bind fun t717 => (some (t717, bt709.2.1, bt709.2.2))))) else ((bQ.f F k x1000 x1001 x1002).bind fun bt720 => (ay.l0 F k bt720.1 x1000 bt720.2.1 bt720.2.2)))
def ay.l0 (F : Fam) : Nat → List (S41) → List (S38) → Int → Bool → Option ((List (S41)) × Int × Bool)
 | 0, _, _, _, _ => none
 | k + 1, x4, x1000, x1001, x1002 => if x1002 = true then (some (x4, x1001, x1002)) else ((aV.f x1000 x1001 x1002).bind fun bt725 => (if bt725.1.toList = ([40] : List UInt8) then ((some (([x4] : List (List (S41))) : List (List (S41)))).bind fun y728 => ((dC.f F k x1000 bt725.2.1 bt725.2.2).bind fun bt731 => (if y728.length + bt731.1.length < 5864062014805 then ((aj.f k 22 0 (⟨#[]⟩ : ByteArray) 0 (⟨#[]⟩ : ByteArray) (y728 ++ bt731.1)).bind fun t739 => (ay.l0 F k t739 x1000 bt731.2.1 bt731.2.2)) else (none)))) else (if bt725.1.toList = ([91] : List UInt8) then ((au.f x1000 bt725.2.1 bt725.2.2 (⟨#[91]⟩ : ByteArray)).bind fun bt742 => ((dI.f F k x1000 bt742.2.1 bt742.2.2).bind fun bt745 => ((aj.f k 26 0 (⟨#[]⟩ : ByteArray) 0 (⟨#[]⟩ : ByteArray) (([x4, bt745.1] : List (List (S41))))).bind fun t753 => ((ak.f x1000 bt745.2.1 bt745.2.2 (⟨#[93]⟩ : ByteArray)).bind fun bt756 => (ay.l0 F k t753 x1000 bt756.1 bt756.2))))) else (some (x4, bt725.2.1, bt725.2.2)))))
end
def ay.f (F : Fam) (k : Nat) (s0_0 : List (S38)) (s0_1 : Int) (s0_2 : Bool) : Option ((List (S41)) × Int × Bool) := (aV.f s0_0 s0_1 s0_2).bind fun bt689 => (if bt689.1.toList = ([45] : List UInt8) then (ay.j0 F k bt689.1 bt689.1 (bt689.1.toList == ([45] : List UInt8)) s0_0 bt689.2.1 bt689.2.2) else (if bt689.1.toList = ([110, 111, 116] : List UInt8) then (ay.j0 F k bt689.1 bt689.1 (bt689.1.toList == ([110, 111, 116] : List UInt8)) s0_0 bt689.2.1 bt689.2.2) else (ay.j0 F k bt689.1 bt689.1 (bt689.1.toList == ([108, 101, 110] : List UInt8)) s0_0 bt689.2.1 bt689.2.2)))
theorem ay.mono_l {F F' : Fam} (HLE : iG F F') : ∀ k, (∀ y0 y1 y2 y3 y4 y5, LeO (ay.j0 F k y0 y1 y2 y3 y4 y5) (ay.j0 F' (k + 1) y0 y1 y2 y3 y4 y5)) ∧ (∀ y0 y1 y2 y3, LeO (ay.l0 F k y0 y1 y2 y3) (ay.l0 F' (k + 1) y0 y1 y2 y3))
 | 0 => ⟨fun _ _ _ _ _ _ r h => by simp [ay.j0] at h, fun _ _ _ _ r h => by simp [ay.l0] at h⟩
 | k + 1 => by
  obtain ⟨ih0, ih1⟩ := ay.mono_l HLE k
  refine ⟨?_, ?_⟩
  ·intro y0 y1 y2 y3 y4 y5
   unfold ay.j0
   repeat' first
   | (with_reducible exact ih0 _ _ _ _ _ _)
   | (with_reducible exact ih1 _ _ _ _)
   | (with_reducible exact aj.mono _ _ _ _ _ _ _)
   | (with_reducible exact bQ.mono HLE _ _ _ _)
   | (with_reducible exact dC.mono HLE _ _ _ _)
   | (with_reducible exact dI.mono HLE _ _ _ _)
   | (with_reducible exact jb.mono HLE _ _ _ _)
   | (with_reducible exact LeO.refl _)
   | (with_reducible exact LeO.none _)
   | (with_reducible refine LeO.ite ?_ ?_)
   | (with_reducible refine LeO.bind ?_ (fun _ => ?_))
   | exact ih0 _ _ _ _ _ _
   | exact ih1 _ _ _ _
   | exact aj.mono _ _ _ _ _ _ _
   | exact bQ.mono HLE _ _ _ _
   | exact dC.mono HLE _ _ _ _
   | exact dI.mono HLE _ _ _ _
   | exact jb.mono HLE _ _ _ _
   | exact LeO.none _
   | refine LeO.ite ?_ ?_
   | refine LeO.bind ?_ (fun _ => ?_)
  intro y0 y1 y2 y3
  unfold ay.l0
  repeat' first
  | (with_reducible exact ih0 _ _ _ _ _ _)
  | (with_reducible exact ih1 _ _ _ _)
  | (with_reducible exact aj.mono _ _ _ _ _ _ _)
  | (with_reducible exact bQ.mono HLE _ _ _ _)
  | (with_reducible exact dC.mono HLE _ _ _ _)
  | (with_reducible exact dI.mono HLE _ _ _ _)
  | (with_reducible exact jb.mono HLE _ _ _ _)
  | (with_reducible exact LeO.refl _)
  | (with_reducible exact LeO.none _)
  | (with_reducible refine LeO.ite ?_ ?_)
  | (with_reducible refine LeO.bind ?_ (fun _ => ?_))
  | exact ih0 _ _ _ _ _ _
  | exact ih1 _ _ _ _
  | exact aj.mono _ _ _ _ _ _ _
  | exact bQ.mono HLE _ _ _ _
  | exact dC.mono HLE _ _ _ _
  | exact dI.mono HLE _ _ _ _
  | exact jb.mono HLE _ _ _ _
  | exact LeO.none _
  | refine LeO.ite ?_ ?_
  | refine LeO.bind ?_ (fun _ => ?_)
theorem ay.mono {F F' : Fam} (HLE : iG F F') : ∀ a0 a1 a2 k, LeO (ay.f F k a0 a1 a2) (ay.f F' (k + 1) a0 a1 a2) := by
 intro a0 a1 a2 k
 obtain ⟨ih0, ih1⟩ := ay.mono_l HLE k
 unfold ay.f
 repeat' first
  | (with_reducible exact ih0 _ _ _ _ _ _)
  | (with_reducible exact ih1 _ _ _ _)
  | (with_reducible exact aj.mono _ _ _ _ _ _ _)
  | (with_reducible exact bQ.mono HLE _ _ _ _)
  | (with_reducible exact dC.mono HLE _ _ _ _)
  | (with_reducible exact dI.mono HLE _ _ _ _)
  | (with_reducible exact jb.mono HLE _ _ _ _)
  | (with_reducible exact LeO.refl _)
  | (with_reducible exact LeO.none _)
  | (with_reducible refine LeO.ite ?_ ?_)
  | (with_reducible refine LeO.bind ?_ (fun _ => ?_))
  | exact ih0 _ _ _ _ _ _
  | exact ih1 _ _ _ _
  | exact aj.mono _ _ _ _ _ _ _
  | exact bQ.mono HLE _ _ _ _
  | exact dC.mono HLE _ _ _ _
  | exact dI.mono HLE _ _ _ _
  | exact jb.mono HLE _ _ _ _
  | exact LeO.none _
  | refine LeO.ite ?_ ?_
  | refine LeO.bind ?_ (fun _ => ?_)
set_option maxHeartbeats 8000000 in
set_option maxRecDepth 100000 in
theorem ay.calls (F : Fam) (HF : jL F) (k : Nat) (g : Nat) (s0_0 : List (S38)) (s0_1 : Int) (s0_2 : Bool) (r1 : List (S41)) (r2 : Int) (r3 : Bool) (w0 w : World) (hI : ah w0 w g s0_0 s0_1 s0_2) (hB : Below w0.heap.size w0 w) (h : ay.f F k s0_0 s0_1 s0_2 = some (r1, r2, r3)) :
 Calls Try.prog 82 #[.pointer (some ⟨g, 0, none⟩)] w fun e w' => ∃ v0_ : Value, e = .returned (v0_) ∧ Kd.R k41 41 w' w.heap.size (fun _ => True) v0_ r1 ∧ ah w0 w' g s0_0 r2 r3 ∧ Below w0.heap.size w0 w' ∧ af w w' g none := by
 have hu41 := Try.underlying41
 have HI0 := Aside0.mk hI
 have HK := Aside0.mk (af.refl w g none)
 have HL := Aside0.mk hB.size
 clear hI
 have HW0 := Aside0.mk hB.size
 have HB := Aside0.mk hB
 clear hB
 have H : ((aV.f s0_0 s0_1 s0_2).bind fun bt689 => (if bt689.1.toList = ([45] : List UInt8) then (ay.j0 F k bt689.1 bt689.1 (bt689.1.toList == ([45] : List UInt8)) s0_0 bt689.2.1 bt689.2.2) else (if bt689.1.toList = ([110, 111, 116] : List UInt8) then (ay.j0 F k bt689.1 bt689.1 (bt689.1.toList == ([110, 111, 116] : List UInt8)) s0_0 bt689.2.1 bt689.2.2) else (ay.j0 F k bt689.1 bt689.1 (bt689.1.toList == ([108, 101, 110] : List UInt8)) s0_0 bt689.2.1 bt689.2.2)))) = some (r1, r2, r3) := h
 clear h
 replace H := Option.bind_eq_some_iff.mp H
 obtain ⟨⟨t689, t690, t691⟩, A20, H⟩ := H
 try dsimp only at H
 have A2 := Aside0.mk A20
 clear A20
 have HC3 := Aside0.mk H
 clear H
 go_enter Try.func82, Try.ntmps82
 go_upto_if 9 with (first | ((with_reducible refine gate_callee (f := 71) rfl ?_); refine goesL_ (some 7) rfl rfl Try.func71 (by kernel_rfl) rfl #[.pointer (some ⟨g, 0, none⟩)] rfl Z3 ?_; (with_reducible refine (aV.calls g s0_0 s0_1 s0_2 t689 t690 t691 w0 _ ?side1 ?side2 A2.out).mono ?_); (case side1 => exact Z0); (case side2 => exact Z2); rintro e w4 ⟨rfl, hi, hb, hk⟩; refine ⟨_, rfl, ?_⟩; have n0_ := Aside0.mk (af.trans Z1 hk (.inl rfl)); have n1_ := Aside0.mk (hb); have n2_ := Aside0.mk (hi); clear HK; clear HB; clear HI0; have HK := n0_; have HB := n1_; have HI0 := n2_; clear n0_ n1_ n2_; (try clear hb)))
 (try simp only [Act.put, List.setIfInBounds_toArray, List.set_cons_zero, List.set_cons_succ])
 go_cut [9] (fun v9 wc => ∃ (kq : Nat) (x9_2 : Bool), v9 = .bool x9_2 ∧ Aside0 (ay.j0 F kq t689 t689 x9_2 s0_0 t690 t691 = some (r1, r2, r3)) ∧ Aside0 (kq ≤ k) ∧ Aside0 (ah w0 wc g s0_0 t690 t691) ∧ Aside0 (af w wc g none) ∧ Aside0 (Below w0.heap.size w0 wc))
 case first =>
  have H := HC3.out
  clear HC3
  by_cases c5 : t689.toList = ([45] : List UInt8)
  ·rw [if_pos c5] at H
   have c5b0 : (t689.toList == ([45] : List UInt8)) = true := beq_iff_eq.mpr c5
   have c5b1 : (t689.toList != ([45] : List UInt8)) = false := bne_eq_false_iff_eq.mpr c5
   clear c5
   (first | rw [c5b0] | (simp only [aC, aG]; rw [c5b0]) | skip)
   have H' := Aside0.mk H
   clear H
   go_wp2
   go_meet
   case rel => exact ⟨_, ((t689.toList == ([45] : List UInt8))), Z7, H', ⟨Z35⟩, ⟨Z0⟩, ⟨Z1⟩, ⟨Z2⟩⟩
  rw [if_neg c5] at H
  have c5b0 : (t689.toList == ([45] : List UInt8)) = false := beq_eq_false_iff_ne.mpr c5
  have c5b1 : (t689.toList != ([45] : List UInt8)) = true := bne_iff_ne.mpr c5
  (first | rw [c5b0] | (simp only [aC, aG]; rw [c5b0]) | skip)
  by_cases c6 : t689.toList = ([110, 111, 116] : List UInt8)
  ·rw [if_pos c6] at H
   have c6b0 : (t689.toList == ([110, 111, 116] : List UInt8)) = true := beq_iff_eq.mpr c6
   have c6b1 : (t689.toList != ([110, 111, 116] : List UInt8)) = false := bne_eq_false_iff_eq.mpr c6
   clear c6
   have H' := Aside0.mk H
   clear H
   go_wp2
   go_meet
   case rel => exact ⟨_, ((t689.toList == ([110, 111, 116] : List UInt8))), Z7, H', ⟨Z35⟩, ⟨Z0⟩, ⟨Z1⟩, ⟨Z2⟩⟩
  rw [if_neg c6] at H
  have c6b0 : (t689.toList == ([110, 111, 116] : List UInt8)) = false := beq_eq_false_iff_ne.mpr c6
  have c6b1 : (t689.toList != ([110, 111, 116] : List UInt8)) = true := bne_iff_ne.mpr c6
  have H' := Aside0.mk H
  clear H
  go_wp2
  go_meet
  case rel => exact ⟨_, ((t689.toList == ([108, 101, 110] : List UInt8))), Z7, H', ⟨Z35⟩, ⟨Z0⟩, ⟨Z1⟩, ⟨Z2⟩⟩
 case rest =>
  clear HC3
  try clear p2
  try clear c5
  try clear c5b0
  try clear c5b1
  try clear c6
  try clear c6b0
  try clear c6b1
  obtain ⟨kq, x9_2, rfl, HA, HJ2, HI0, HK, HB⟩ := hcut
  cases kq with
  | zero => exact absurd HA.out (by simp [ay.j0])
  | succ kj2 =>
   have H := HA.out
   clear HA
   simp only [ay.j0] at H
   by_cases c7 : x9_2 = true
   ·subst c7
    rw [if_pos rfl] at H
    have H1 := H
    clear H
    have H := H1
    clear H1
    replace H := Option.bind_eq_some_iff.mp H
    obtain ⟨⟨t692, t693, t694⟩, A80, H⟩ := H
    try dsimp only at H
    have A8 := Aside0.mk A80
    clear A80
    replace H := Option.bind_eq_some_iff.mp H
    obtain ⟨⟨t695, t698, t699⟩, A90, H⟩ := H
    replace H : ((aj.f kj2 28 0 (⟨#[]⟩ : ByteArray) 0 t689 (([t695] : List (List (S41))))).bind fun t703 => (some (t703, t698, t699))) = some (r1, r2, r3) := H
    have A9 := Aside0.mk A90
    clear A90
    obtain ⟨y700, hy700⟩ : ∃ y_ : List (List (S41)), y_ = (([t695] : List (List (S41)))) := ⟨_, rfl⟩
    replace H : ((aj.f kj2 28 0 (⟨#[]⟩ : ByteArray) 0 t689 y700).bind fun t703 => (some (t703, t698, t699))) = some (r1, r2, r3) := by first | (rw [hy700]; with_reducible exact H) | (have H2_ := (Option.bind_some _ _).symm.trans H; rw [hy700]; with_reducible exact H2_) | (have H2_ := (Option.bind_some _ _).symm.trans H; with_reducible exact H2_) | with_reducible exact H | (rw [hy700]; exact H) | exact H
    have Ny700 := Aside0.mk hy700
    clear hy700
    replace H := Option.bind_eq_some_iff.mp H
    obtain ⟨t703, A100, H⟩ := H
    replace H : (some (t703, t698, t699)) = some (r1, r2, r3) := H
    have A10 := Aside0.mk A100
    clear A100
    simp only [Option.some.injEq, Prod.mk.injEq] at H
    obtain ⟨rfl, rfl, rfl⟩ := H
    go_wp2_with (first | ((with_reducible refine gate_callee (f := 53) rfl ?_); refine goesL_ (some 15) rfl rfl Try.func53 (by kernel_rfl) rfl #[.pointer (some ⟨g, 0, none⟩), .string t689] rfl Z3 ?_; (with_reducible refine (au.calls g s0_0 t690 t691 t689 t692 t693 t694 w0 _ ?side1 ?side2 A8.out).mono ?_); (case side1 => exact Z0); (case side2 => exact Z2); rintro e w11 ⟨rfl, hi, hb, hk⟩; refine ⟨_, rfl, ?_⟩; have n0_ := Aside0.mk (af.trans Z1 hk (.inl rfl)); have n1_ := Aside0.mk (hb); have n2_ := Aside0.mk (hi); clear HK; clear HB; clear HI0; have HK := n0_; have HB := n1_; have HI0 := n2_; clear n0_ n1_ n2_; (try clear hb)) | ((with_reducible refine gate_callee (f := 82) rfl ?_); refine goesL_ (some 19) rfl rfl Try.func82 (by kernel_rfl) rfl #[.pointer (some ⟨g, 0, none⟩)] rfl Z3 ?_; (with_reducible refine (jb.calls F HF kj2 g s0_0 t693 t694 t695 t698 t699 w0 _ ?side1 ?side2 A9.out).mono ?_); (case side1 => exact Z0); (case side2 => exact Z2); rintro e w12 ⟨v696, rfl, ho0, hi, hb, hk⟩; refine ⟨_, rfl, ?_⟩; have n0_ := Aside0.mk (Kd.R_lower ho0 (aH (w := w) (g := g) (row := none) Z1)); have n1_ := Aside0.mk (af.trans Z1 hk (.inl rfl)); have n2_ := Aside0.mk (hb); have n3_ := Aside0.mk (hi); clear HK; clear HB; clear HI0; have HO697 := n0_; have HK := n1_; have HB := n2_; have HI0 := n3_; clear n0_ n1_ n2_ n3_; (try clear hb); (try clear ho0); obtain ⟨Ao13, co13, eo13⟩ := Kd.R_slice HO697.out; subst eo13) | ((with_reducible refine bP (N := 20) rfl ?_); refine Kd.lU (Kd.slice 41 k41) _ 23 ?hg (N' := 20) ?hd (xs := ([t695] : List (List (S41)))) (inner := [.slice Ao13 t695.length co13]) (ok := (fun k_ => k_ ≠ g)) (okp := (fun k_ => k_ ≠ g)) ?hr ?hp (fun _ hk => hk) ((show ∀ k_, w12.heap.size ≤ k_ → (fun k_ => k_ ≠ g) k_ from fun k_ hk => ah.fresh Z0 k_ hk) _ (Nat.le_refl _)) (Below.refl _ _) (Nat.le_refl _) (by simp) ?_; (case hd => rfl); (case hg => rfl); (case hr => first | (go_simp; done) | (go_simp; rfl)); (case hp => exact (dw.one (show Kd.FK (Kd.slice 41 k41) _ _ t695 [.slice Ao13 t695.length co13] from (Kd.dF (Kd.R_reads' (Kd.bi (ok' := (fun k_ => k_ ≠ g)) (ah.apart HI0.out (HO697.out) (by decide)) (fun k_ hk => hk.2))).2.1 (Kd.R_F (Kd.bi (ok' := (fun k_ => k_ ≠ g)) (ah.apart HI0.out (HO697.out) (by decide)) (fun k_ hk => hk.2))))) (dw.none _ _))); intro v701 w14 ho15 hb hg_ hnew_; clear hg_ hnew_; (first | rw [← Ny700.out] at ho15 | (simp only [Int.reduceToNat] at ho15; rw [← Ny700.out] at ho15)); have n0_ := Aside0.mk (Kd.iL ho15 (aH (w := w) (g := g) (row := none) Z1)); have n1_ := Aside0.mk (ah.below Z0 hb); have n2_ := Aside0.mk (af.trans Z1 (af.of_below hb g none) (.inl rfl)); have n3_ := Aside0.mk (below_step Z2 hb); clear HI0; clear HK; clear HB; clear HO697; have HO702 := n0_; have HI0 := n1_; have HK := n2_; have HB := n3_; clear n0_ n1_ n2_ n3_; clear hb ho15; obtain ⟨Ao16, co16, eo16⟩ := Kd.iK HO702.out; subst eo16) | ((with_reducible refine gate_callee (f := 56) rfl ?_); refine goesL_ (some 21) rfl rfl Try.func56 (by kernel_rfl) rfl #[.agg #[.int .i64 28, .int .i64 0, .string (⟨#[]⟩ : ByteArray), .int .i64 0, .string t689], .slice Ao16 y700.length co16] rfl Z3 ?_; (with_reducible refine (aj.calls kj2 28 0 (⟨#[]⟩ : ByteArray) 0 t689 _ _ y700 t703 _ ?side1 ?side2 A10.out).mono ?_); (case side1 => repeat (first | exact (Kd.dQ HO702.out).2.2 | (with_reducible refine Kd.C_alloc ?_ _) | (with_reducible refine Kd.C_drewN ?_ _) | (with_reducible refine Kd.C_drew ?_))); (case side2 => exact (Kd.dQ HO702.out).2.1); rintro e w17 ⟨v704, rfl, ho0, hb⟩; refine ⟨_, rfl, ?_⟩; have n0_ := Aside0.mk (Kd.gW (by (with_reducible repeat (first | apply Kd.eH | apply Kd.eG | apply Kd.fK)); exact HO702.out) (Kd.dH ho0) hb); have n1_ := Aside0.mk (Kd.R_lower ho0 (aH (w := w) (g := g) (row := none) Z1)); have n2_ := Aside0.mk (ah.below Z0 hb); have n3_ := Aside0.mk (af.trans Z1 (af.of_below hb g none) (.inl rfl)); have n4_ := Aside0.mk (below_step Z2 hb); clear HO702; clear HI0; clear HK; clear HB; have HO702 := n0_; have HO705 := n1_; have HI0 := n2_; have HK := n3_; have HB := n4_; clear n0_ n1_ n2_ n3_ n4_; (try clear hb); (try clear ho0)))
    go_ret
    exact ⟨_, Z5, by (with_reducible repeat (first | apply Kd.R_alloc | apply Kd.R_drewN | apply Kd.R_drew)); exact HO705.out, Z0, Z2, Z1⟩
   replace c7 := Bool.eq_false_iff.mpr c7
   subst c7
   rw [if_neg (show ¬ (false = true) by decide)] at H
   have H1 := H
   clear H
   have H := H1
   clear H1
   by_cases c18 : t689.toList = ([115, 112, 97, 119, 110] : List UInt8)
   ·rw [if_pos c18] at H
    have c18b0 : (t689.toList == ([115, 112, 97, 119, 110] : List UInt8)) = true := beq_iff_eq.mpr c18
    have c18b1 : (t689.toList != ([115, 112, 97, 119, 110] : List UInt8)) = false := bne_eq_false_iff_eq.mpr c18
    clear c18
    replace H := Option.bind_eq_some_iff.mp H
    obtain ⟨⟨t706, t707, t708⟩, A190, H⟩ := H
    try dsimp only at H
    have A19 := Aside0.mk A190
    clear A190
    replace H := Option.bind_eq_some_iff.mp H
    obtain ⟨⟨t709, t712, t713⟩, A200, H⟩ := H
    try dsimp only at H
    have A20 := Aside0.mk A200
    clear A200
    obtain ⟨y714, hy714⟩ : ∃ y_ : List (List (S41)), y_ = (([t709] : List (List (S41)))) := ⟨_, rfl⟩
    replace H : ((aj.f kj2 30 0 (⟨#[]⟩ : ByteArray) 0 (⟨#[]⟩ : ByteArray) y714).bind fun t717 => (some (t717, t712, t713))) = some (r1, r2, r3) := by first | (rw [hy714]; with_reducible exact H) | (have H2_ := (Option.bind_some _ _).symm.trans H; rw [hy714]; with_reducible exact H2_) | (have H2_ := (Option.bind_some _ _).symm.trans H; with_reducible exact H2_) | with_reducible exact H | (rw [hy714]; exact H) | exact H
    have Ny714 := Aside0.mk hy714
    clear hy714
    replace H := Option.bind_eq_some_iff.mp H
    obtain ⟨t717, A210, H⟩ := H
    replace H : (some (t717, t712, t713)) = some (r1, r2, r3) := H
    have A21 := Aside0.mk A210
    clear A210
    simp only [Option.some.injEq, Prod.mk.injEq] at H
    obtain ⟨rfl, rfl, rfl⟩ := H
    go_wp2_with (first | ((with_reducible refine gate_callee (f := 53) rfl ?_); refine goesL_ (some 26) rfl rfl Try.func53 (by kernel_rfl) rfl #[.pointer (some ⟨g, 0, none⟩), .string t689] rfl Z3 ?_; (with_reducible refine (au.calls g s0_0 t690 t691 t689 t706 t707 t708 w0 _ ?side1 ?side2 A19.out).mono ?_); (case side1 => exact Z0); (case side2 => exact Z2); rintro e w22 ⟨rfl, hi, hb, hk⟩; refine ⟨_, rfl, ?_⟩; have n0_ := Aside0.mk (af.trans Z1 hk (.inl rfl)); have n1_ := Aside0.mk (hb); have n2_ := Aside0.mk (hi); clear HK; clear HB; clear HI0; have HK := n0_; have HB := n1_; have HI0 := n2_; clear n0_ n1_ n2_; (try clear hb)) | ((with_reducible refine gate_callee (f := 82) rfl ?_); refine goesL_ (some 29) rfl rfl Try.func82 (by kernel_rfl) rfl #[.pointer (some ⟨g, 0, none⟩)] rfl Z3 ?_; (with_reducible refine (jb.calls F HF kj2 g s0_0 t707 t708 t709 t712 t713 w0 _ ?side1 ?side2 A20.out).mono ?_); (case side1 => exact Z0); (case side2 => exact Z2); rintro e w23 ⟨v710, rfl, ho0, hi, hb, hk⟩; refine ⟨_, rfl, ?_⟩; have n0_ := Aside0.mk (Kd.R_lower ho0 (aH (w := w) (g := g) (row := none) Z1)); have n1_ := Aside0.mk (af.trans Z1 hk (.inl rfl)); have n2_ := Aside0.mk (hb); have n3_ := Aside0.mk (hi); clear HK; clear HB; clear HI0; have HO711 := n0_; have HK := n1_; have HB := n2_; have HI0 := n3_; clear n0_ n1_ n2_ n3_; (try clear hb); (try clear ho0); obtain ⟨Ao24, co24, eo24⟩ := Kd.R_slice HO711.out; subst eo24) | ((with_reducible refine bP (N := 30) rfl ?_); refine Kd.lU (Kd.slice 41 k41) _ 23 ?hg (N' := 30) ?hd (xs := ([t709] : List (List (S41)))) (inner := [.slice Ao24 t709.length co24]) (ok := (fun k_ => k_ ≠ g)) (okp := (fun k_ => k_ ≠ g)) ?hr ?hp (fun _ hk => hk) ((show ∀ k_, w23.heap.size ≤ k_ → (fun k_ => k_ ≠ g) k_ from fun k_ hk => ah.fresh Z0 k_ hk) _ (Nat.le_refl _)) (Below.refl _ _) (Nat.le_refl _) (by simp) ?_; (case hd => rfl); (case hg => rfl); (case hr => first | (go_simp; done) | (go_simp; rfl)); (case hp => exact (dw.one (show Kd.FK (Kd.slice 41 k41) _ _ t709 [.slice Ao24 t709.length co24] from (Kd.dF (Kd.R_reads' (Kd.bi (ok' := (fun k_ => k_ ≠ g)) (ah.apart HI0.out (HO711.out) (by decide)) (fun k_ hk => hk.2))).2.1 (Kd.R_F (Kd.bi (ok' := (fun k_ => k_ ≠ g)) (ah.apart HI0.out (HO711.out) (by decide)) (fun k_ hk => hk.2))))) (dw.none _ _))); intro v715 w25 ho26 hb hg_ hnew_; clear hg_ hnew_; (first | rw [← Ny714.out] at ho26 | (simp only [Int.reduceToNat] at ho26; rw [← Ny714.out] at ho26)); have n0_ := Aside0.mk (Kd.iL ho26 (aH (w := w) (g := g) (row := none) Z1)); have n1_ := Aside0.mk (ah.below Z0 hb); have n2_ := Aside0.mk (af.trans Z1 (af.of_below hb g none) (.inl rfl)); have n3_ := Aside0.mk (below_step Z2 hb); clear HI0; clear HK; clear HB; clear HO711; have HO716 := n0_; have HI0 := n1_; have HK := n2_; have HB := n3_; clear n0_ n1_ n2_ n3_; clear hb ho26; obtain ⟨Ao27, co27, eo27⟩ := Kd.iK HO716.out; subst eo27) | ((with_reducible refine gate_callee (f := 56) rfl ?_); refine goesL_ (some 31) rfl rfl Try.func56 (by kernel_rfl) rfl #[.agg #[.int .i64 30, .int .i64 0, .string (⟨#[]⟩ : ByteArray), .int .i64 0, .string (⟨#[]⟩ : ByteArray)], .slice Ao27 y714.length co27] rfl Z3 ?_; (with_reducible refine (aj.calls kj2 30 0 (⟨#[]⟩ : ByteArray) 0 (⟨#[]⟩ : ByteArray) _ _ y714 t717 _ ?side1 ?side2 A21.out).mono ?_); (case side1 => repeat (first | exact (Kd.dQ HO716.out).2.2 | (with_reducible refine Kd.C_alloc ?_ _) | (with_reducible refine Kd.C_drewN ?_ _) | (with_reducible refine Kd.C_drew ?_))); (case side2 => exact (Kd.dQ HO716.out).2.1); rintro e w28 ⟨v718, rfl, ho0, hb⟩; refine ⟨_, rfl, ?_⟩; have n0_ := Aside0.mk (Kd.gW (by (with_reducible repeat (first | apply Kd.eH | apply Kd.eG | apply Kd.fK)); exact HO716.out) (Kd.dH ho0) hb); have n1_ := Aside0.mk (Kd.R_lower ho0 (aH (w := w) (g := g) (row := none) Z1)); have n2_ := Aside0.mk (ah.below Z0 hb); have n3_ := Aside0.mk (af.trans Z1 (af.of_below hb g none) (.inl rfl)); have n4_ := Aside0.mk (below_step Z2 hb); clear HO716; clear HI0; clear HK; clear HB; have HO716 := n0_; have HO719 := n1_; have HI0 := n2_; have HK := n3_; have HB := n4_; clear n0_ n1_ n2_ n3_ n4_; (try clear hb); (try clear ho0)))
    go_ret
    exact ⟨_, Z5, by (with_reducible repeat (first | apply Kd.R_alloc | apply Kd.R_drewN | apply Kd.R_drew)); exact HO719.out, Z0, Z2, Z1⟩
   rw [if_neg c18] at H
   have c18b0 : (t689.toList == ([115, 112, 97, 119, 110] : List UInt8)) = false := beq_eq_false_iff_ne.mpr c18
   have c18b1 : (t689.toList != ([115, 112, 97, 119, 110] : List UInt8)) = true := bne_iff_ne.mpr c18
   replace H := Option.bind_eq_some_iff.mp H
   obtain ⟨⟨t720, t723, t724⟩, A290, H⟩ := H
   replace H : (ay.l0 F kj2 t720 s0_0 t723 t724) = some (r1, r2, r3) := H
   have A29 := Aside0.mk A290
   clear A290
   have H' := Aside0.mk H
   clear H
   go_wp2_with (first | ((with_reducible refine gate_callee (f := 84) rfl ?_); refine goesL_ (some 33) rfl rfl Try.func84 (by kernel_rfl) rfl #[.pointer (some ⟨g, 0, none⟩)] rfl Z3 ?_; (with_reducible refine (bQ.calls F HF kj2 g s0_0 t690 t691 t720 t723 t724 w0 _ ?side1 ?side2 A29.out).mono ?_); (case side1 => exact Z0); (case side2 => exact Z2); rintro e w30 ⟨v721, rfl, ho0, hi, hb, hk⟩; refine ⟨_, rfl, ?_⟩; have n0_ := Aside0.mk (Kd.R_lower ho0 (aH (w := w) (g := g) (row := none) Z1)); have n1_ := Aside0.mk (af.trans Z1 hk (.inl rfl)); have n2_ := Aside0.mk (hb); have n3_ := Aside0.mk (hi); clear HK; clear HB; clear HI0; have HO722 := n0_; have HK := n1_; have HB := n2_; have HI0 := n3_; clear n0_ n1_ n2_ n3_; (try clear hb); (try clear ho0)))
   (try simp only [Act.put, List.setIfInBounds_toArray, List.set_cons_zero, List.set_cons_succ])
   go_loopg [4] kj2 (fun kq v4 w' => ∃ (x4_2 : List (S41)) (x1001_2 : Int) (x1002_2 : Bool), Aside0 (ay.l0 F kq x4_2 s0_0 x1001_2 x1002_2 = some (r1, r2, r3)) ∧ Aside0 (kq ≤ kj2) ∧ Aside0 (Kd.R k41 41 w' w.heap.size (fun _ => True) v4 x4_2) ∧ Aside0 (ah w0 w' g s0_0 x1001_2 x1002_2) ∧ Aside0 (af w w' g none) ∧ Aside0 (Below w0.heap.size w0 w'))
   case atStart => exact ⟨(t720), (t723), (t724), H', ⟨Nat.le_refl _⟩, ⟨by (with_reducible repeat (first | apply Kd.R_alloc | apply Kd.R_drewN | apply Kd.R_drew)); exact HO722.out⟩, ⟨Z0⟩, ⟨Z1⟩, ⟨Z2⟩⟩
   case round =>
    clear H'
    try clear c1
    try clear p2
    try clear c5
    try clear c5b0
    try clear c5b1
    try clear c6
    try clear c6b0
    try clear c6b1
    try clear c7
    try clear c8
    try clear c18
    try clear c18b0
    try clear c18b1
    try clear p2
    obtain ⟨x4_2, x1001_2, x1002_2, HA, HK2, HO_4, HI0, HK, HB⟩ := hrel
    cases gk with
    | zero => exact absurd HA.out (by simp [ay.l0])
    | succ k2 =>
     have H := HA.out
     clear HA
     simp only [ay.l0] at H
     by_cases c31 : x1002_2 = true
     ·subst c31
      have H1 : (some (x4_2, x1001_2, true)) = some (r1, r2, r3) := by rw [if_pos rfl] at H; exact H
      clear H
      have H := H1
      clear H1
      simp only [Option.some.injEq, Prod.mk.injEq] at H
      obtain ⟨rfl, rfl, rfl⟩ := H
      obtain ⟨ASz32_0, cSz32_0, HGz32, hgz32, HSz32_0⟩ := HI0.out
      have hcz32_0 := df HGz32
      have hcz32_1 := cZ HGz32
      have hcz32_2 := cO HGz32
      have hfz32_1 := ae HGz32 1
      have hfz32_2 := ae HGz32 2
      clear HGz32 hgz32
      go_wp2
      go_ret
      exact ⟨_, Z5, Z29, Z0, Z2, Z1⟩
     replace c31 := Bool.eq_false_iff.mpr c31
     subst c31
     rw [if_neg (show ¬ (false = true) by decide)] at H
     have H1 := H
     clear H
     have H := H1
     clear H1
     replace H := Option.bind_eq_some_iff.mp H
     obtain ⟨⟨t725, t726, t727⟩, A330, H⟩ := H
     try dsimp only at H
     have A33 := Aside0.mk A330
     clear A330
     by_cases c34 : t725.toList = ([40] : List UInt8)
     ·rw [if_pos c34] at H
      have c34b0 : (t725.toList == ([40] : List UInt8)) = true := beq_iff_eq.mpr c34
      have c34b1 : (t725.toList != ([40] : List UInt8)) = false := bne_eq_false_iff_eq.mpr c34
      clear c34
      obtain ⟨y728, hy728⟩ : ∃ y_ : List (List (S41)), y_ = (([x4_2] : List (List (S41)))) := ⟨_, rfl⟩
      replace H : ((dC.f F k2 s0_0 t726 t727).bind fun bt731 => (if y728.length + bt731.1.length < 5864062014805 then ((aj.f k2 22 0 (⟨#[]⟩ : ByteArray) 0 (⟨#[]⟩ : ByteArray) (y728 ++ bt731.1)).bind fun t739 => (ay.l0 F k2 t739 s0_0 bt731.2.1 bt731.2.2)) else (none))) = some (r1, r2, r3) := by first | (rw [hy728]; with_reducible exact H) | (have H2_ := (Option.bind_some _ _).symm.trans H; rw [hy728]; with_reducible exact H2_) | (have H2_ := (Option.bind_some _ _).symm.trans H; with_reducible exact H2_) | with_reducible exact H | (rw [hy728]; exact H) | exact H
      have Ny728 := Aside0.mk hy728
      clear hy728
      replace H := Option.bind_eq_some_iff.mp H
      obtain ⟨⟨t731, t734, t735⟩, A350, H⟩ := H
      try dsimp only at H
      have A35 := Aside0.mk A350
      clear A350
      by_cases c36 : y728.length + t731.length < 5864062014805
      ·rw [if_pos c36] at H
       have LMc36 := Aside0.mk c36
       clear c36
       obtain ⟨y736, hy736⟩ : ∃ y_ : List (List (S41)), y_ = (y728 ++ t731) := ⟨_, rfl⟩
       replace H : ((aj.f k2 22 0 (⟨#[]⟩ : ByteArray) 0 (⟨#[]⟩ : ByteArray) y736).bind fun t739 => (ay.l0 F k2 t739 s0_0 t734 t735)) = some (r1, r2, r3) := by first | (rw [hy736]; with_reducible exact H) | (have H2_ := (Option.bind_some _ _).symm.trans H; rw [hy736]; with_reducible exact H2_) | (have H2_ := (Option.bind_some _ _).symm.trans H; with_reducible exact H2_) | with_reducible exact H | (rw [hy736]; exact H) | exact H
       have Ny736 := Aside0.mk hy736
       clear hy736
       replace H := Option.bind_eq_some_iff.mp H
       obtain ⟨t739, A370, H⟩ := H
       replace H : (ay.l0 F k2 t739 s0_0 t734 t735) = some (r1, r2, r3) := H
       have A37 := Aside0.mk A370
       clear A370
       have H' := Aside0.mk H
       clear H
       obtain ⟨ASz38_0, cSz38_0, HGz38, hgz38, HSz38_0⟩ := HI0.out
       have hcz38_0 := df HGz38
       have hcz38_1 := cZ HGz38
       have hcz38_2 := cO HGz38
       have hfz38_1 := ae HGz38 1
       have hfz38_2 := ae HGz38 2
       clear HGz38 hgz38
       go_wp2_with (first | ((with_reducible refine gate_callee (f := 71) rfl ?_); refine goesL_ (some 40) rfl rfl Try.func71 (by kernel_rfl) rfl #[.pointer (some ⟨g, 0, none⟩)] rfl Z3 ?_; (with_reducible refine (aV.calls g s0_0 x1001_2 false t725 t726 t727 w0 _ ?side1 ?side2 A33.out).mono ?_); (case side1 => exact Z0); (case side2 => exact Z2); rintro e w39 ⟨rfl, hi, hb, hk⟩; refine ⟨_, rfl, ?_⟩; have n0_ := Aside0.mk (Kd.bi (Kd.gz (ah.apart (show ah w0 _ g s0_0 x1001_2 false from Z0) Z29 (by decide)) hk (fun _ h => h.2)) (fun _ h => h.1)); have n1_ := Aside0.mk (af.trans Z1 hk (.inl rfl)); have n2_ := Aside0.mk (hb); have n3_ := Aside0.mk (hi); clear HO_4; clear HK; clear HB; clear HI0; have HO_4 := n0_; have HK := n1_; have HB := n2_; have HI0 := n3_; clear n0_ n1_ n2_ n3_; (try clear hb); obtain ⟨Ao40, co40, eo40⟩ := Kd.R_slice HO_4.out; subst eo40) | ((with_reducible refine bP (N := 44) rfl ?_); refine Kd.lU (Kd.slice 41 k41) _ 23 ?hg (N' := 44) ?hd (xs := ([x4_2] : List (List (S41)))) (inner := [.slice Ao40 x4_2.length co40]) (ok := (fun k_ => k_ ≠ g)) (okp := (fun k_ => k_ ≠ g)) ?hr ?hp (fun _ hk => hk) ((show ∀ k_, w39.heap.size ≤ k_ → (fun k_ => k_ ≠ g) k_ from fun k_ hk => ah.fresh Z0 k_ hk) _ (Nat.le_refl _)) (Below.refl _ _) (Nat.le_refl _) (by simp) ?_; (case hd => rfl); (case hg => rfl); (case hr => first | (go_simp; done) | (go_simp; rfl)); (case hp => exact (dw.one (show Kd.FK (Kd.slice 41 k41) _ _ x4_2 [.slice Ao40 x4_2.length co40] from (Kd.dF (Kd.R_reads' (Kd.bi (ok' := (fun k_ => k_ ≠ g)) (ah.apart HI0.out (HO_4.out) (by decide)) (fun k_ hk => hk.2))).2.1 (Kd.R_F (Kd.bi (ok' := (fun k_ => k_ ≠ g)) (ah.apart HI0.out (HO_4.out) (by decide)) (fun k_ hk => hk.2))))) (dw.none _ _))); intro v729 w41 ho42 hb hg_ hnew_; clear hg_ hnew_; (first | rw [← Ny728.out] at ho42 | (simp only [Int.reduceToNat] at ho42; rw [← Ny728.out] at ho42)); have n0_ := Aside0.mk (Kd.iL ho42 (aH (w := w) (g := g) (row := none) Z1)); have n1_ := Aside0.mk (ah.below Z0 hb); have n2_ := Aside0.mk (af.trans Z1 (af.of_below hb g none) (.inl rfl)); have n3_ := Aside0.mk (below_step Z2 hb); clear HI0; clear HK; clear HB; clear HO_4; have HO730 := n0_; have HI0 := n1_; have HK := n2_; have HB := n3_; clear n0_ n1_ n2_ n3_; clear hb ho42) | ((with_reducible refine gate_callee (f := 72) rfl ?_); refine goesL_ (some 50) rfl rfl Try.func72 (by kernel_rfl) rfl #[.pointer (some ⟨g, 0, none⟩), .func (.func 77) #[.pointer (some ⟨g, 0, none⟩)] #[]] rfl Z3 ?_; (with_reducible refine (dC.calls F HF k2 g s0_0 t726 t727 t731 t734 t735 w0 _ ?side1 ?side2 A35.out).mono ?_); (case side1 => exact Z0); (case side2 => exact Z2); rintro e w43 ⟨v732, rfl, ho0, hi, hb, hk⟩; refine ⟨_, rfl, ?_⟩; have n0_ := Aside0.mk (Kd.fB (Kd.ui (Kd.uk (Kd.fB (ok := fun k_ => k_ ≠ g) (by (with_reducible repeat (first | apply Kd.eH | apply Kd.eG | apply Kd.fK)); exact HO730.out) (fun k_ hk_ => (⟨hk_, hk_⟩ : _ ∧ k_ ≠ g))) hk) (Kd.Dy (Kd.S_N ho0))) (fun _ h_ => h_.1)); have n1_ := Aside0.mk (Kd.iL (Kd.fB (ok' := fun k_ => some k_ ≠ (v729 : Value).ownBlock ∧ k_ ≠ g) (Kd.S_N (Kd.pz ho0)) (fun k_ hk_ => ⟨(Kd.fresh' (Kd.DY (by (with_reducible repeat (first | apply Kd.eH | apply Kd.eG | apply Kd.fK)); exact HO730.out)) k_ hk_.2.1), (ah.fresh Z0 k_ hk_.2.1)⟩)) (aH (w := w) (g := g) (row := none) Z1)); have n2_ := Aside0.mk (af.trans Z1 hk (.inl rfl)); have n3_ := Aside0.mk (hb); have n4_ := Aside0.mk (hi); clear HO730; clear HK; clear HB; clear HI0; have HO730 := n0_; have HO733 := n1_; have HK := n2_; have HB := n3_; have HI0 := n4_; clear n0_ n1_ n2_ n3_ n4_; (try clear hb); (try clear ho0); obtain ⟨Ao45, co45, eo45⟩ := Kd.iK HO733.out; subst eo45) | ((with_reducible refine dD (b := .append) (xs := #[.tmp 46, .tmp 50]) rfl ?_); at_builtin; refine Kd.ru (Kd.slice 41 k41) w.heap.size rfl (.tmp 46) (.tmp 50) 78 23 (.slice none 0 0) 24 rfl Try.underlying78 info23 rfl (by decide) (by omega) v729 y728 t731 _ _ _ (fun k_ => k_ ≠ g) (fun k_ => ((fun k_ => k_ ≠ g)) k_ ∧ some k_ ≠ (v729 : Value).ownBlock) rfl rfl ?aO ?aR (fun _ hk => hk) ?aF (Below.refl _ _) ?aS ?aL ?_; (case aR => exact (by skip; exact Kd.N_F (Kd.fB (ok' := (fun k_ => ((fun k_ => k_ ≠ g)) k_ ∧ some k_ ≠ (v729 : Value).ownBlock)) (HO733.out) (fun k_ hk => ⟨hk.2, hk.1⟩)))); (case aF => exact (fun k_ hk => ah.fresh Z0 k_ hk)); (case aO => exact (by (with_reducible repeat (first | apply Kd.eH | apply Kd.eG | apply Kd.fK)); exact Kd.fB HO730.out (fun _ hk => hk.1))); (case aS => exact (aH (w := w) (g := g) (row := none) Z1)); (case aL => have := LMc36.out; omega); intro v737 w44 ho hb hg hat; rw [← Ny736.out] at ho; have n0_ := Aside0.mk (ah.grown Z0 hg (ah.oW HI0.out HO730.out (by decide))); have n1_ := Aside0.mk (Kd.zS (ok := (fun k_ => k_ ≠ g)) (by (with_reducible repeat (first | apply Kd.eH | apply Kd.eG | apply Kd.fK)); exact Kd.fB HO733.out (fun _ hk => ⟨hk.2, hk.1⟩)) hg hat); have n2_ := Aside0.mk (dW Z2 HL.out hb); have n3_ := Aside0.mk (af.trans Z1 (af.gp hg g) (Kd.pG HO730.out)); have n4_ := Aside0.mk (ho); clear HI0; clear HO733; clear HB; clear HK; clear HO730; have HI0 := n0_; have HO733 := n1_; have HB := n2_; have HK := n3_; have HO738 := n4_; clear n0_ n1_ n2_ n3_ n4_; clear ho hb hg hat; obtain ⟨Ao46, co46, eo46⟩ := Kd.iK HO738.out; subst eo46) | ((with_reducible refine gate_callee (f := 56) rfl ?_); refine goesL_ (some 52) rfl rfl Try.func56 (by kernel_rfl) rfl #[.agg #[.int .i64 22, .int .i64 0, .string (⟨#[]⟩ : ByteArray), .int .i64 0, .string (⟨#[]⟩ : ByteArray)], .slice Ao46 y736.length co46] rfl Z3 ?_; (with_reducible refine (aj.calls k2 22 0 (⟨#[]⟩ : ByteArray) 0 (⟨#[]⟩ : ByteArray) _ _ y736 t739 _ ?side1 ?side2 A37.out).mono ?_); (case side1 => repeat (first | exact (Kd.dQ HO738.out).2.2 | (with_reducible refine Kd.C_alloc ?_ _) | (with_reducible refine Kd.C_drewN ?_ _) | (with_reducible refine Kd.C_drew ?_))); (case side2 => exact (Kd.dQ HO738.out).2.1); rintro e w47 ⟨v740, rfl, ho0, hb⟩; refine ⟨_, rfl, ?_⟩; have n0_ := Aside0.mk (Kd.gW (by (with_reducible repeat (first | apply Kd.eH | apply Kd.eG | apply Kd.fK)); exact HO733.out) (Kd.dH ho0) hb); have n1_ := Aside0.mk (Kd.gW (by (with_reducible repeat (first | apply Kd.eH | apply Kd.eG | apply Kd.fK)); exact HO738.out) (Kd.dH ho0) hb); have n2_ := Aside0.mk (Kd.R_lower ho0 (aH (w := w) (g := g) (row := none) Z1)); have n3_ := Aside0.mk (ah.below Z0 hb); have n4_ := Aside0.mk (af.trans Z1 (af.of_below hb g none) (.inl rfl)); have n5_ := Aside0.mk (below_step Z2 hb); clear HO733; clear HO738; clear HI0; clear HK; clear HB; have HO733 := n0_; have HO738 := n1_; have HO741 := n2_; have HI0 := n3_; have HK := n4_; have HB := n5_; clear n0_ n1_ n2_ n3_ n4_ n5_; (try clear hb); (try clear ho0)))
       go_roundg k2
       case measure => have := HJ2.out; have := HK2.out; omega
       case rel => exact ⟨(t739), (t734), (t735), H', ⟨by have := HJ2.out; have := HK2.out; omega⟩, ⟨by (with_reducible repeat (first | apply Kd.R_alloc | apply Kd.R_drewN | apply Kd.R_drew)); exact HO741.out⟩, ⟨Z0⟩, ⟨Z1⟩, ⟨Z2⟩⟩
      rw [if_neg c36] at H
      exact absurd H (by simp)
     rw [if_neg c34] at H
     have c34b0 : (t725.toList == ([40] : List UInt8)) = false := beq_eq_false_iff_ne.mpr c34
     have c34b1 : (t725.toList != ([40] : List UInt8)) = true := bne_iff_ne.mpr c34
     by_cases c48 : t725.toList = ([91] : List UInt8)
     ·rw [if_pos c48] at H
      have c48b0 : (t725.toList == ([91] : List UInt8)) = true := beq_iff_eq.mpr c48
      have c48b1 : (t725.toList != ([91] : List UInt8)) = false := bne_eq_false_iff_eq.mpr c48
      clear c48
      replace H := Option.bind_eq_some_iff.mp H
      obtain ⟨⟨t742, t743, t744⟩, A490, H⟩ := H
      try dsimp only at H
      have A49 := Aside0.mk A490
      clear A490
      replace H := Option.bind_eq_some_iff.mp H
      obtain ⟨⟨t745, t748, t749⟩, A500, H⟩ := H
      try dsimp only at H
      have A50 := Aside0.mk A500
      clear A500
      obtain ⟨y750, hy750⟩ : ∃ y_ : List (List (S41)), y_ = (([x4_2, t745] : List (List (S41)))) := ⟨_, rfl⟩
      replace H : ((aj.f k2 26 0 (⟨#[]⟩ : ByteArray) 0 (⟨#[]⟩ : ByteArray) y750).bind fun t753 => ((ak.f s0_0 t748 t749 (⟨#[93]⟩ : ByteArray)).bind fun bt756 => (ay.l0 F k2 t753 s0_0 bt756.1 bt756.2))) = some (r1, r2, r3) := by first | (rw [hy750]; with_reducible exact H) | (have H2_ := (Option.bind_some _ _).symm.trans H; rw [hy750]; with_reducible exact H2_) | (have H2_ := (Option.bind_some _ _).symm.trans H; with_reducible exact H2_) | with_reducible exact H | (rw [hy750]; exact H) | exact H
      have Ny750 := Aside0.mk hy750
      clear hy750
      replace H := Option.bind_eq_some_iff.mp H
      obtain ⟨t753, A510, H⟩ := H
      replace H : ((ak.f s0_0 t748 t749 (⟨#[93]⟩ : ByteArray)).bind fun bt756 => (ay.l0 F k2 t753 s0_0 bt756.1 bt756.2)) = some (r1, r2, r3) := H
      have A51 := Aside0.mk A510
      clear A510
      replace H := Option.bind_eq_some_iff.mp H
      obtain ⟨⟨t756, t757⟩, A520, H⟩ := H
      replace H : (ay.l0 F k2 t753 s0_0 t756 t757) = some (r1, r2, r3) := H
      have A52 := Aside0.mk A520
      clear A520
      have H' := Aside0.mk H
      clear H
      obtain ⟨ASz53_0, cSz53_0, HGz53, hgz53, HSz53_0⟩ := HI0.out
      have hcz53_0 := df HGz53
      have hcz53_1 := cZ HGz53
      have hcz53_2 := cO HGz53
      have hfz53_1 := ae HGz53 1
      have hfz53_2 := ae HGz53 2
      clear HGz53 hgz53
      go_wp2_with (first | ((with_reducible refine gate_callee (f := 71) rfl ?_); refine goesL_ (some 40) rfl rfl Try.func71 (by kernel_rfl) rfl #[.pointer (some ⟨g, 0, none⟩)] rfl Z3 ?_; (with_reducible refine (aV.calls g s0_0 x1001_2 false t725 t726 t727 w0 _ ?side1 ?side2 A33.out).mono ?_); (case side1 => exact Z0); (case side2 => exact Z2); rintro e w54 ⟨rfl, hi, hb, hk⟩; refine ⟨_, rfl, ?_⟩; have n0_ := Aside0.mk (Kd.bi (Kd.gz (ah.apart (show ah w0 _ g s0_0 x1001_2 false from Z0) Z29 (by decide)) hk (fun _ h => h.2)) (fun _ h => h.1)); have n1_ := Aside0.mk (af.trans Z1 hk (.inl rfl)); have n2_ := Aside0.mk (hb); have n3_ := Aside0.mk (hi); clear HO_4; clear HK; clear HB; clear HI0; have HO_4 := n0_; have HK := n1_; have HB := n2_; have HI0 := n3_; clear n0_ n1_ n2_ n3_; (try clear hb)) | ((with_reducible refine gate_callee (f := 53) rfl ?_); refine goesL_ (some 56) rfl rfl Try.func53 (by kernel_rfl) rfl #[.pointer (some ⟨g, 0, none⟩), .string (⟨#[91]⟩ : ByteArray)] rfl Z3 ?_; (with_reducible refine (au.calls g s0_0 t726 t727 (⟨#[91]⟩ : ByteArray) t742 t743 t744 w0 _ ?side1 ?side2 A49.out).mono ?_); (case side1 => exact Z0); (case side2 => exact Z2); rintro e w55 ⟨rfl, hi, hb, hk⟩; refine ⟨_, rfl, ?_⟩; have n0_ := Aside0.mk (Kd.bi (Kd.gz (ah.apart (show ah w0 _ g s0_0 t726 t727 from Z0) Z29 (by decide)) hk (fun _ h => h.2)) (fun _ h => h.1)); have n1_ := Aside0.mk (af.trans Z1 hk (.inl rfl)); have n2_ := Aside0.mk (hb); have n3_ := Aside0.mk (hi); clear HO_4; clear HK; clear HB; clear HI0; have HO_4 := n0_; have HK := n1_; have HB := n2_; have HI0 := n3_; clear n0_ n1_ n2_ n3_; (try clear hb)) | ((with_reducible refine gate_callee (f := 77) rfl ?_); refine goesL_ (some 60) rfl rfl Try.func77 (by kernel_rfl) rfl #[.pointer (some ⟨g, 0, none⟩)] rfl Z3 ?_; (with_reducible refine (dI.calls F HF k2 g s0_0 t743 t744 t745 t748 t749 w0 _ ?side1 ?side2 A50.out).mono ?_); (case side1 => exact Z0); (case side2 => exact Z2); rintro e w56 ⟨v746, rfl, ho0, hi, hb, hk⟩; refine ⟨_, rfl, ?_⟩; have n0_ := Aside0.mk (Kd.bi (Kd.o6 (Kd.o7 (ah.apart (show ah w0 _ g s0_0 t743 t744 from Z0) Z29 (by decide)) hk) (Kd.dH ho0)) (fun _ h_ => h_.1)); have n1_ := Aside0.mk (Kd.R_lower (Kd.jB ho0 (Kd.lT Z29)) (aH (w := w) (g := g) (row := none) Z1)); have n2_ := Aside0.mk (af.trans Z1 hk (.inl rfl)); have n3_ := Aside0.mk (hb); have n4_ := Aside0.mk (hi); clear HO_4; clear HK; clear HB; clear HI0; have HO_4 := n0_; have HO747 := n1_; have HK := n2_; have HB := n3_; have HI0 := n4_; clear n0_ n1_ n2_ n3_ n4_; (try clear hb); (try clear ho0); obtain ⟨Ao57, co57, eo57⟩ := Kd.R_slice HO_4.out; subst eo57; obtain ⟨Ao58, co58, eo58⟩ := Kd.R_slice HO747.out; subst eo58) | ((with_reducible refine bP (N := 61) rfl ?_); refine Kd.lU (Kd.slice 41 k41) _ 23 ?hg (N' := 61) ?hd (xs := ([x4_2, t745] : List (List (S41)))) (inner := [.slice Ao57 x4_2.length co57, .slice Ao58 t745.length co58]) (ok := (fun k_ => k_ ≠ g)) (okp := (fun k_ => k_ ≠ g)) ?hr ?hp (fun _ hk => hk) ((show ∀ k_, w56.heap.size ≤ k_ → (fun k_ => k_ ≠ g) k_ from fun k_ hk => ah.fresh Z0 k_ hk) _ (Nat.le_refl _)) (Below.refl _ _) (Nat.le_refl _) (by simp) ?_; (case hd => rfl); (case hg => rfl); (case hr => first | (go_simp; done) | (go_simp; rfl)); (case hp => exact (dw.one (show Kd.FK (Kd.slice 41 k41) _ _ x4_2 [.slice Ao57 x4_2.length co57] from (Kd.dF (Kd.R_reads' (Kd.bi (ok' := (fun k_ => k_ ≠ g)) (ah.apart HI0.out (HO_4.out) (by decide)) (fun k_ hk => hk.2))).2.1 (Kd.R_F (Kd.bi (ok' := (fun k_ => k_ ≠ g)) (ah.apart HI0.out (HO_4.out) (by decide)) (fun k_ hk => hk.2))))) (dw.one (show Kd.FK (Kd.slice 41 k41) _ _ t745 [.slice Ao58 t745.length co58] from (Kd.dF (Kd.R_reads' (Kd.bi (ok' := (fun k_ => k_ ≠ g)) (ah.apart HI0.out (HO747.out) (by decide)) (fun k_ hk => hk.2))).2.1 (Kd.R_F (Kd.bi (ok' := (fun k_ => k_ ≠ g)) (ah.apart HI0.out (HO747.out) (by decide)) (fun k_ hk => hk.2))))) (dw.none _ _)))); intro v751 w59 ho60 hb hg_ hnew_; clear hg_ hnew_; (first | rw [← Ny750.out] at ho60 | (simp only [Int.reduceToNat] at ho60; rw [← Ny750.out] at ho60)); have n0_ := Aside0.mk (Kd.iL ho60 (aH (w := w) (g := g) (row := none) Z1)); have n1_ := Aside0.mk (ah.below Z0 hb); have n2_ := Aside0.mk (af.trans Z1 (af.of_below hb g none) (.inl rfl)); have n3_ := Aside0.mk (below_step Z2 hb); clear HI0; clear HK; clear HB; clear HO747; clear HO_4; have HO752 := n0_; have HI0 := n1_; have HK := n2_; have HB := n3_; clear n0_ n1_ n2_ n3_; clear hb ho60; obtain ⟨Ao61, co61, eo61⟩ := Kd.iK HO752.out; subst eo61) | ((with_reducible refine gate_callee (f := 56) rfl ?_); refine goesL_ (some 62) rfl rfl Try.func56 (by kernel_rfl) rfl #[.agg #[.int .i64 26, .int .i64 0, .string (⟨#[]⟩ : ByteArray), .int .i64 0, .string (⟨#[]⟩ : ByteArray)], .slice Ao61 y750.length co61] rfl Z3 ?_; (with_reducible refine (aj.calls k2 26 0 (⟨#[]⟩ : ByteArray) 0 (⟨#[]⟩ : ByteArray) _ _ y750 t753 _ ?side1 ?side2 A51.out).mono ?_); (case side1 => repeat (first | exact (Kd.dQ HO752.out).2.2 | (with_reducible refine Kd.C_alloc ?_ _) | (with_reducible refine Kd.C_drewN ?_ _) | (with_reducible refine Kd.C_drew ?_))); (case side2 => exact (Kd.dQ HO752.out).2.1); rintro e w62 ⟨v754, rfl, ho0, hb⟩; refine ⟨_, rfl, ?_⟩; have n0_ := Aside0.mk (Kd.gW (by (with_reducible repeat (first | apply Kd.eH | apply Kd.eG | apply Kd.fK)); exact HO752.out) (Kd.dH ho0) hb); have n1_ := Aside0.mk (Kd.R_lower ho0 (aH (w := w) (g := g) (row := none) Z1)); have n2_ := Aside0.mk (ah.below Z0 hb); have n3_ := Aside0.mk (af.trans Z1 (af.of_below hb g none) (.inl rfl)); have n4_ := Aside0.mk (below_step Z2 hb); clear HO752; clear HI0; clear HK; clear HB; have HO752 := n0_; have HO755 := n1_; have HI0 := n2_; have HK := n3_; have HB := n4_; clear n0_ n1_ n2_ n3_ n4_; (try clear hb); (try clear ho0)) | ((with_reducible refine gate_callee (f := 51) rfl ?_); refine goesL_ (some 64) rfl rfl Try.func51 (by kernel_rfl) rfl #[.pointer (some ⟨g, 0, none⟩), .string (⟨#[93]⟩ : ByteArray)] rfl Z3 ?_; (with_reducible refine (ak.calls g s0_0 t748 t749 (⟨#[93]⟩ : ByteArray) t756 t757 w0 _ ?side1 ?side2 A52.out).mono ?_); (case side1 => exact Z0); (case side2 => exact Z2); rintro e w63 ⟨rfl, hi, hb, hk⟩; refine ⟨_, rfl, ?_⟩; have n0_ := Aside0.mk (Kd.fB (Kd.ul (Kd.fB (ok := fun k_ => (k_ ≠ g ∧ some k_ ≠ (v754 : Value).ownBlock)) (by (with_reducible repeat (first | apply Kd.eH | apply Kd.eG | apply Kd.fK)); exact HO752.out) (fun k_ hk_ => (⟨hk_, hk_.1⟩ : _ ∧ k_ ≠ g))) hk (fun _ h => h.2)) (fun _ h => h.1)); have n1_ := Aside0.mk (Kd.bi (Kd.gz (ah.apart (show ah w0 _ g s0_0 t748 t749 from Z0) (by (with_reducible repeat (first | apply Kd.R_alloc | apply Kd.R_drewN | apply Kd.R_drew)); exact HO755.out) (by decide)) hk (fun _ h => h.2)) (fun _ h => h.1)); have n2_ := Aside0.mk (af.trans Z1 hk (.inl rfl)); have n3_ := Aside0.mk (hb); have n4_ := Aside0.mk (hi); clear HO752; clear HO755; clear HK; clear HB; clear HI0; have HO752 := n0_; have HO755 := n1_; have HK := n2_; have HB := n3_; have HI0 := n4_; clear n0_ n1_ n2_ n3_ n4_; (try clear hb)))
      go_roundg k2
      case measure => have := HJ2.out; have := HK2.out; omega
      case rel => exact ⟨(t753), (t756), (t757), H', ⟨by have := HJ2.out; have := HK2.out; omega⟩, ⟨by (with_reducible repeat (first | apply Kd.R_alloc | apply Kd.R_drewN | apply Kd.R_drew)); exact HO755.out⟩, ⟨Z0⟩, ⟨Z1⟩, ⟨Z2⟩⟩
     rw [if_neg c48] at H
     have c48b0 : (t725.toList == ([91] : List UInt8)) = false := beq_eq_false_iff_ne.mpr c48
     have c48b1 : (t725.toList != ([91] : List UInt8)) = true := bne_iff_ne.mpr c48
     simp only [Option.some.injEq, Prod.mk.injEq] at H
     obtain ⟨rfl, rfl, rfl⟩ := H
     obtain ⟨ASz64_0, cSz64_0, HGz64, hgz64, HSz64_0⟩ := HI0.out
     have hcz64_0 := df HGz64
     have hcz64_1 := cZ HGz64
     have hcz64_2 := cO HGz64
     have hfz64_1 := ae HGz64 1
     have hfz64_2 := ae HGz64 2
     clear HGz64 hgz64
     go_wp2_with (first | ((with_reducible refine gate_callee (f := 71) rfl ?_); refine goesL_ (some 40) rfl rfl Try.func71 (by kernel_rfl) rfl #[.pointer (some ⟨g, 0, none⟩)] rfl Z3 ?_; (with_reducible refine (aV.calls g s0_0 x1001_2 false t725 t726 t727 w0 _ ?side1 ?side2 A33.out).mono ?_); (case side1 => exact Z0); (case side2 => exact Z2); rintro e w65 ⟨rfl, hi, hb, hk⟩; refine ⟨_, rfl, ?_⟩; have n0_ := Aside0.mk (Kd.bi (Kd.gz (ah.apart (show ah w0 _ g s0_0 x1001_2 false from Z0) Z29 (by decide)) hk (fun _ h => h.2)) (fun _ h => h.1)); have n1_ := Aside0.mk (af.trans Z1 hk (.inl rfl)); have n2_ := Aside0.mk (hb); have n3_ := Aside0.mk (hi); clear HO_4; clear HK; clear HB; clear HI0; have HO_4 := n0_; have HK := n1_; have HB := n2_; have HI0 := n3_; clear n0_ n1_ n2_ n3_; (try clear hb)))
     go_ret
     exact ⟨_, Z5, Z29, Z0, Z2, Z1⟩
end Go.Proofs.Ytendgafpkeadhaa.Q
end
section
namespace Go.Proofs.Ytendgafpkeadhaa.Q
open Go.RowKit Go.Proofs.YtendgafpkeadhaaW.PrintWords Go.Proofs.YtendgafpkeadhaaW.PrintLast Go.Proofs.YtendgafpkeadhaaW.PrintMore
attribute [local go_sem] max2_int min2_int max_two min_two max_three min_three max_four min_four
set_option linter.unusedVariables false
set_option linter.unusedSimpArgs false
/-! ### bz: function 83 -/
mutual
def bz.j0 : Nat → ByteArray → Bool → Option (Int)
 | 0, _, _ => none
 | k + 1, x3, x8 => if x8 = true then (some 3) else (if x3.toList = ([43] : List UInt8) then (bz.j1 k x3 (x3.toList == ([43] : List UInt8))) else (if x3.toList = ([45] : List UInt8) then (bz.j1 k x3 (x3.toList == ([45] : List UInt8))) else (bz.j1 k x3 (x3.toList == ([46, 46] : List UInt8)))))
def bz.j1 : Nat → ByteArray → Bool → Option (Int)
 | 0, _, _ => none
 | k + 1, x3, x13 => if x13 = true then (some 4) else (if x3.toList = ([42] : List UInt8) then (some 5) else (if x3.toList = ([47] : List UInt8) then (some 5) else (if x3.toList = ([37] : List UInt8) then (some 5) else (some 0))))
end
def bz.f (k : Nat) (a0 : ByteArray) : Option (Int) := if a0.toList = ([111, 114] : List UInt8) then (some 1) else (if a0.toList = ([97, 110, 100] : List UInt8) then (some 2) else (if a0.toList = ([61, 61] : List UInt8) then (bz.j0 k a0 (a0.toList == ([61, 61] : List UInt8))) else (if a0.toList = ([33, 61] : List UInt8) then (bz.j0 k a0 (a0.toList == ([33, 61] : List UInt8))) else (if a0.toList = ([60] : List UInt8) then (bz.j0 k a0 (a0.toList == ([60] : List UInt8))) else (bz.j0 k a0 (a0.toList == ([60, 61] : List UInt8)))))))
theorem bz.mono_l : ∀ k, (∀ y0 y1, LeO (bz.j0 k y0 y1) (bz.j0 (k + 1) y0 y1)) ∧ (∀ y0 y1, LeO (bz.j1 k y0 y1) (bz.j1 (k + 1) y0 y1))
 | 0 => ⟨fun _ _ r h => by simp [bz.j0] at h, fun _ _ r h => by simp [bz.j1] at h⟩
 | k + 1 => by
  obtain ⟨ih0, ih1⟩ := bz.mono_l k
  refine ⟨?_, ?_⟩
  ·intro y0 y1
   unfold bz.j0
   repeat' first
   | (with_reducible exact ih0 _ _)
   | (with_reducible exact ih1 _ _)
   | (with_reducible exact LeO.refl _)
   | (with_reducible exact LeO.none _)
   | (with_reducible refine LeO.ite ?_ ?_)
   | (with_reducible refine LeO.bind ?_ (fun _ => ?_))
   | exact ih0 _ _
   | exact ih1 _ _
   | exact LeO.none _
   | refine LeO.ite ?_ ?_
   | refine LeO.bind ?_ (fun _ => ?_)
  intro y0 y1
  unfold bz.j1
  repeat' first
  | (with_reducible exact ih0 _ _)
  | (with_reducible exact ih1 _ _)
  | (with_reducible exact LeO.refl _)
  | (with_reducible exact LeO.none _)
  | (with_reducible refine LeO.ite ?_ ?_)
  | (with_reducible refine LeO.bind ?_ (fun _ => ?_))
  | exact ih0 _ _
  | exact ih1 _ _
  | exact LeO.none _
  | refine LeO.ite ?_ ?_
  | refine LeO.bind ?_ (fun _ => ?_)
theorem bz.mono : ∀ a0 k, LeO (bz.f k a0) (bz.f (k + 1) a0) := by
 intro a0 k
 obtain ⟨ih0, ih1⟩ := bz.mono_l k
 unfold bz.f
 repeat' first
  | (with_reducible exact ih0 _ _)
  | (with_reducible exact ih1 _ _)
  | (with_reducible exact LeO.refl _)
  | (with_reducible exact LeO.none _)
  | (with_reducible refine LeO.ite ?_ ?_)
  | (with_reducible refine LeO.bind ?_ (fun _ => ?_))
  | exact ih0 _ _
  | exact ih1 _ _
  | exact LeO.none _
  | refine LeO.ite ?_ ?_
  | refine LeO.bind ?_ (fun _ => ?_)
set_option maxHeartbeats 8000000 in
set_option maxRecDepth 100000 in
theorem bz.calls (k : Nat) (a0 : ByteArray) (r : Int) (w : World) (h : bz.f k a0 = some r) :
 Calls Try.prog 83 #[.string a0] w fun e w' => e = .returned (.int .i64 r) ∧ dA w w' := by
 have H : (if a0.toList = ([111, 114] : List UInt8) then (some 1) else (if a0.toList = ([97, 110, 100] : List UInt8) then (some 2) else (if a0.toList = ([61, 61] : List UInt8) then (bz.j0 k a0 (a0.toList == ([61, 61] : List UInt8))) else (if a0.toList = ([33, 61] : List UInt8) then (bz.j0 k a0 (a0.toList == ([33, 61] : List UInt8))) else (if a0.toList = ([60] : List UInt8) then (bz.j0 k a0 (a0.toList == ([60] : List UInt8))) else (bz.j0 k a0 (a0.toList == ([60, 61] : List UInt8)))))))) = some r := h
 clear h
 by_cases c2 : a0.toList = ([111, 114] : List UInt8)
 ·rw [if_pos c2] at H
  have c2b0 : (a0.toList == ([111, 114] : List UInt8)) = true := beq_iff_eq.mpr c2
  have c2b1 : (a0.toList != ([111, 114] : List UInt8)) = false := bne_eq_false_iff_eq.mpr c2
  clear c2
  obtain rfl := Option.some.inj H
  go_enter Try.func83, Try.ntmps83
  go_wp2
  go_ret
  exact ⟨Z7, Z10⟩
 rw [if_neg c2] at H
 have c2b0 : (a0.toList == ([111, 114] : List UInt8)) = false := beq_eq_false_iff_ne.mpr c2
 have c2b1 : (a0.toList != ([111, 114] : List UInt8)) = true := bne_iff_ne.mpr c2
 by_cases c3 : a0.toList = ([97, 110, 100] : List UInt8)
 ·rw [if_pos c3] at H
  have c3b0 : (a0.toList == ([97, 110, 100] : List UInt8)) = true := beq_iff_eq.mpr c3
  have c3b1 : (a0.toList != ([97, 110, 100] : List UInt8)) = false := bne_eq_false_iff_eq.mpr c3
  clear c3
  obtain rfl := Option.some.inj H
  go_enter Try.func83, Try.ntmps83
  go_wp2
  go_ret
  exact ⟨Z7, Z10⟩
 rw [if_neg c3] at H
 have c3b0 : (a0.toList == ([97, 110, 100] : List UInt8)) = false := beq_eq_false_iff_ne.mpr c3
 have c3b1 : (a0.toList != ([97, 110, 100] : List UInt8)) = true := bne_iff_ne.mpr c3
 have HC4 := Aside0.mk H
 clear H
 go_enter Try.func83, Try.ntmps83
 go_upto_if 8 with (fail)
 go_cut [8] (fun v8 wc => ∃ (kq : Nat) (x8_3 : Bool), v8 = .bool x8_3 ∧ Aside0 (bz.j0 kq a0 x8_3 = some r) ∧ Aside0 (kq ≤ k) ∧ dA w wc)
 case first =>
  have H := HC4.out
  clear HC4
  by_cases c5 : a0.toList = ([61, 61] : List UInt8)
  ·rw [if_pos c5] at H
   have c5b0 : (a0.toList == ([61, 61] : List UInt8)) = true := beq_iff_eq.mpr c5
   have c5b1 : (a0.toList != ([61, 61] : List UInt8)) = false := bne_eq_false_iff_eq.mpr c5
   clear c5
   (first | rw [c5b0] | (simp only [aC, aG]; rw [c5b0]) | skip)
   have H' := Aside0.mk H
   clear H
   go_wp2
   go_meet
   case rel => exact ⟨_, ((a0.toList == ([61, 61] : List UInt8))), Z7, H', ⟨Z35⟩, Z10⟩
  rw [if_neg c5] at H
  have c5b0 : (a0.toList == ([61, 61] : List UInt8)) = false := beq_eq_false_iff_ne.mpr c5
  have c5b1 : (a0.toList != ([61, 61] : List UInt8)) = true := bne_iff_ne.mpr c5
  (first | rw [c5b0] | (simp only [aC, aG]; rw [c5b0]) | skip)
  by_cases c6 : a0.toList = ([33, 61] : List UInt8)
  ·rw [if_pos c6] at H
   have c6b0 : (a0.toList == ([33, 61] : List UInt8)) = true := beq_iff_eq.mpr c6
   have c6b1 : (a0.toList != ([33, 61] : List UInt8)) = false := bne_eq_false_iff_eq.mpr c6
   clear c6
   have H' := Aside0.mk H
   clear H
   go_wp2
   go_meet
   case rel => exact ⟨_, ((a0.toList == ([33, 61] : List UInt8))), Z7, H', ⟨Z35⟩, Z10⟩
  rw [if_neg c6] at H
  have c6b0 : (a0.toList == ([33, 61] : List UInt8)) = false := beq_eq_false_iff_ne.mpr c6
  have c6b1 : (a0.toList != ([33, 61] : List UInt8)) = true := bne_iff_ne.mpr c6
  by_cases c7 : a0.toList = ([60] : List UInt8)
  ·rw [if_pos c7] at H
   have c7b0 : (a0.toList == ([60] : List UInt8)) = true := beq_iff_eq.mpr c7
   have c7b1 : (a0.toList != ([60] : List UInt8)) = false := bne_eq_false_iff_eq.mpr c7
   clear c7
   have H' := Aside0.mk H
   clear H
   go_wp2
   go_meet
   case rel => exact ⟨_, ((a0.toList == ([60] : List UInt8))), Z7, H', ⟨Z35⟩, Z10⟩
  rw [if_neg c7] at H
  have c7b0 : (a0.toList == ([60] : List UInt8)) = false := beq_eq_false_iff_ne.mpr c7
  have c7b1 : (a0.toList != ([60] : List UInt8)) = true := bne_iff_ne.mpr c7
  have H' := Aside0.mk H
  clear H
  go_wp2
  go_meet
  case rel => exact ⟨_, ((a0.toList == ([60, 61] : List UInt8))), Z7, H', ⟨Z35⟩, Z10⟩
 case rest =>
  clear HC4
  try clear c2
  try clear c2b0
  try clear c2b1
  try clear p2
  try clear c3
  try clear c3b0
  try clear c3b1
  try clear c5
  try clear c5b0
  try clear c5b1
  try clear c6
  try clear c6b0
  try clear c6b1
  try clear c7
  try clear c7b0
  try clear c7b1
  obtain ⟨kq, x8_3, rfl, HA, HJ3, ⟨mc3, rfl⟩⟩ := hcut
  cases kq with
  | zero => exact absurd HA.out (by simp [bz.j0])
  | succ kj3 =>
   have H := HA.out
   clear HA
   simp only [bz.j0] at H
   by_cases c8 : x8_3 = true
   ·subst c8
    have H1 : (some 3) = some r := by rw [if_pos rfl] at H; exact H
    clear H
    have H := H1
    clear H1
    obtain rfl := Option.some.inj H
    go_wp2
    go_ret
    exact ⟨Z7, Z10⟩
   replace c8 := Bool.eq_false_iff.mpr c8
   subst c8
   rw [if_neg (show ¬ (false = true) by decide)] at H
   have H1 := H
   clear H
   have H := H1
   clear H1
   have HC9 := Aside0.mk H
   clear H
   go_upto_if 13 with (fail)
   go_cut [13] (fun v13 wc => ∃ (kq : Nat) (x13_8 : Bool), v13 = .bool x13_8 ∧ Aside0 (bz.j1 kq a0 x13_8 = some r) ∧ Aside0 (kq ≤ kj3) ∧ dA w wc)
   case first =>
    have H := HC9.out
    clear HC9
    by_cases c10 : a0.toList = ([43] : List UInt8)
    ·rw [if_pos c10] at H
     have c10b0 : (a0.toList == ([43] : List UInt8)) = true := beq_iff_eq.mpr c10
     have c10b1 : (a0.toList != ([43] : List UInt8)) = false := bne_eq_false_iff_eq.mpr c10
     clear c10
     (first | rw [c10b0] | (simp only [aC, aG]; rw [c10b0]) | skip)
     have H' := Aside0.mk H
     clear H
     go_wp2
     go_meet
     case rel => exact ⟨_, ((a0.toList == ([43] : List UInt8))), Z7, H', ⟨by have := HJ3.out; first | omega | exact Nat.le_refl _⟩, Z10⟩
    rw [if_neg c10] at H
    have c10b0 : (a0.toList == ([43] : List UInt8)) = false := beq_eq_false_iff_ne.mpr c10
    have c10b1 : (a0.toList != ([43] : List UInt8)) = true := bne_iff_ne.mpr c10
    (first | rw [c10b0] | (simp only [aC, aG]; rw [c10b0]) | skip)
    by_cases c11 : a0.toList = ([45] : List UInt8)
    ·rw [if_pos c11] at H
     have c11b0 : (a0.toList == ([45] : List UInt8)) = true := beq_iff_eq.mpr c11
     have c11b1 : (a0.toList != ([45] : List UInt8)) = false := bne_eq_false_iff_eq.mpr c11
     clear c11
     have H' := Aside0.mk H
     clear H
     go_wp2
     go_meet
     case rel => exact ⟨_, ((a0.toList == ([45] : List UInt8))), Z7, H', ⟨by have := HJ3.out; first | omega | exact Nat.le_refl _⟩, Z10⟩
    rw [if_neg c11] at H
    have c11b0 : (a0.toList == ([45] : List UInt8)) = false := beq_eq_false_iff_ne.mpr c11
    have c11b1 : (a0.toList != ([45] : List UInt8)) = true := bne_iff_ne.mpr c11
    have H' := Aside0.mk H
    clear H
    go_wp2
    go_meet
    case rel => exact ⟨_, ((a0.toList == ([46, 46] : List UInt8))), Z7, H', ⟨by have := HJ3.out; first | omega | exact Nat.le_refl _⟩, Z10⟩
   case rest =>
    clear HC9
    try clear c1
    try clear c2
    try clear c2b0
    try clear c2b1
    try clear p2
    try clear c3
    try clear c3b0
    try clear c3b1
    try clear c5
    try clear c5b0
    try clear c5b1
    try clear c6
    try clear c6b0
    try clear c6b1
    try clear c7
    try clear c7b0
    try clear c7b1
    try clear c8
    try clear c10
    try clear c10b0
    try clear c10b1
    try clear c11
    try clear c11b0
    try clear c11b1
    try clear p2
    obtain ⟨kq, x13_8, rfl, HA, HJ8, ⟨mc8, rfl⟩⟩ := hcut
    cases kq with
    | zero => exact absurd HA.out (by simp [bz.j1])
    | succ kj8 =>
     have H := HA.out
     clear HA
     simp only [bz.j1] at H
     by_cases c12 : x13_8 = true
     ·subst c12
      have H1 : (some 4) = some r := by rw [if_pos rfl] at H; exact H
      clear H
      have H := H1
      clear H1
      obtain rfl := Option.some.inj H
      go_wp2
      go_ret
      exact ⟨Z7, Z10⟩
     replace c12 := Bool.eq_false_iff.mpr c12
     subst c12
     rw [if_neg (show ¬ (false = true) by decide)] at H
     have H1 := H
     clear H
     have H := H1
     clear H1
     by_cases c13 : a0.toList = ([42] : List UInt8)
     ·rw [if_pos c13] at H
      have c13b0 : (a0.toList == ([42] : List UInt8)) = true := beq_iff_eq.mpr c13
      have c13b1 : (a0.toList != ([42] : List UInt8)) = false := bne_eq_false_iff_eq.mpr c13
      clear c13
      obtain rfl := Option.some.inj H
      go_wp2
      go_ret
      exact ⟨Z7, Z10⟩
     rw [if_neg c13] at H
     have c13b0 : (a0.toList == ([42] : List UInt8)) = false := beq_eq_false_iff_ne.mpr c13
     have c13b1 : (a0.toList != ([42] : List UInt8)) = true := bne_iff_ne.mpr c13
     by_cases c14 : a0.toList = ([47] : List UInt8)
     ·rw [if_pos c14] at H
      have c14b0 : (a0.toList == ([47] : List UInt8)) = true := beq_iff_eq.mpr c14
      have c14b1 : (a0.toList != ([47] : List UInt8)) = false := bne_eq_false_iff_eq.mpr c14
      clear c14
      obtain rfl := Option.some.inj H
      go_wp2
      go_ret
      exact ⟨Z7, Z10⟩
     rw [if_neg c14] at H
     have c14b0 : (a0.toList == ([47] : List UInt8)) = false := beq_eq_false_iff_ne.mpr c14
     have c14b1 : (a0.toList != ([47] : List UInt8)) = true := bne_iff_ne.mpr c14
     by_cases c15 : a0.toList = ([37] : List UInt8)
     ·rw [if_pos c15] at H
      have c15b0 : (a0.toList == ([37] : List UInt8)) = true := beq_iff_eq.mpr c15
      have c15b1 : (a0.toList != ([37] : List UInt8)) = false := bne_eq_false_iff_eq.mpr c15
      clear c15
      obtain rfl := Option.some.inj H
      go_wp2
      go_ret
      exact ⟨Z7, Z10⟩
     rw [if_neg c15] at H
     have c15b0 : (a0.toList == ([37] : List UInt8)) = false := beq_eq_false_iff_ne.mpr c15
     have c15b1 : (a0.toList != ([37] : List UInt8)) = true := bne_iff_ne.mpr c15
     obtain rfl := Option.some.inj H
     go_wp2
     go_ret
     exact ⟨Z7, Z10⟩
end Go.Proofs.Ytendgafpkeadhaa.Q
end
