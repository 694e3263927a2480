/- Walks over functions of the program, words for them, and what the functions come to; of each text only what this claim uses; no condition. -/
import Derived.Test.YtendgafpkeadhaaZPR0
import Derived.Test.YtendgafpkeadhaaZPR3
import Derived.Test.YtendgafpkeadhaaZPR7
import Derived.Test.YtendgafpkeadhaaZPR9
import Derived.Test.YtendgafpkeadhaaZPR10
import Derived.Test.YtendgafpkeadhaaZPR13
section
namespace Go.Proofs.Ytendgafpkeadhaa.Q
open Go.RowKit Go.Proofs.YtendgafpkeadhaaW.PrintWords Go.Proofs.YtendgafpkeadhaaW.PrintLast Go.Proofs.YtendgafpkeadhaaW.PrintMore
attribute [local go_sem] ik ig gZ gY max2_int min2_int max_two min_two max_three min_three max_four min_four
set_option linter.unusedVariables false
set_option linter.unusedSimpArgs false
/-! ### bW: function 85 -/
def bW.f (F : Fam) (k : Nat) (s0_0 : List (S38)) (s0_1 : Int) (s0_2 : Bool) : Option ((List (S41)) × Int × Bool) := (eY.f s0_0 s0_1 s0_2).bind fun bt603 => (if bt603.2.2.2.2.1 = true then (if bt603.1 = 2 then ((aj.f k 19 0 (⟨#[]⟩ : ByteArray) bt603.2.2.1 (⟨#[]⟩ : ByteArray) ([] : List (List (S41)))).bind fun t611 => (some (t611, wrap64 (bt603.2.2.2.2.2.1 + 1), bt603.2.2.2.2.2.2))) else (if bt603.1 = 3 then ((aj.f k 20 0 (⟨#[]⟩ : ByteArray) 0 bt603.2.1 ([] : List (List (S41)))).bind fun t614 => (some (t614, wrap64 (bt603.2.2.2.2.2.1 + 1), bt603.2.2.2.2.2.2))) else ((aX.f s0_0 bt603.2.2.2.2.2.1 bt603.2.2.2.2.2.2 1).bind fun bt617 => ((au.f s0_0 bt617.2.2.2.2.1 bt617.2.2.2.2.2 (⟨#[46]⟩ : ByteArray)).bind fun bt623 => (if bt623.1 = true then ((aX.f s0_0 bt623.2.1 bt623.2.2 1).bind fun bt626 => ((dC.f F k s0_0 bt626.2.2.2.2.1 bt626.2.2.2.2.2).bind fun bt632 => ((aj.f k 23 0 bt617.2.1 0 bt626.2.1 bt632.1).bind fun t637 => (some (t637, bt632.2.1, bt632.2.2))))) else ((aj.f k 21 0 bt617.2.1 0 (⟨#[]⟩ : ByteArray) ([] : List (List (S41)))).bind fun t640 => (some (t640, bt623.2.1, bt623.2.2)))))))) else (some (([] : List (S41)), bt603.2.2.2.2.2.1, true)))
theorem bW.mono {F F' : Fam} (HLE : iG F F') : ∀ a0 a1 a2 k, LeO (bW.f F k a0 a1 a2) (bW.f F' (k + 1) a0 a1 a2) := by
 intro a0 a1 a2 k
 unfold bW.f
 repeat' first
  | (with_reducible exact aj.mono _ _ _ _ _ _ _)
  | (with_reducible exact dC.mono HLE _ _ _ _)
  | (with_reducible exact LeO.refl _)
  | (with_reducible exact LeO.none _)
  | (with_reducible refine LeO.ite ?_ ?_)
  | (with_reducible refine LeO.bind ?_ (fun _ => ?_))
  | exact aj.mono _ _ _ _ _ _ _
  | exact dC.mono HLE _ _ _ _
  | exact LeO.none _
  | refine LeO.ite ?_ ?_
  | refine LeO.bind ?_ (fun _ => ?_)
set_option maxHeartbeats 8000000 in
set_option maxRecDepth 100000 in
theorem bW.calls (F : Fam) (HF : jL F) (k : Nat) (g : Nat) (s0_0 : List (S38)) (s0_1 : Int) (s0_2 : Bool) (r1 : List (S41)) (r2 : Int) (r3 : Bool) (w0 w : World) (hI : ah w0 w g s0_0 s0_1 s0_2) (hB : Below w0.heap.size w0 w) (h : bW.f F k s0_0 s0_1 s0_2 = some (r1, r2, r3)) :
 Calls Try.prog 85 #[.pointer (some ⟨g, 0, none⟩)] w fun e w' => ∃ v0_ : Value, e = .returned (v0_) ∧ Kd.R k41 41 w' w.heap.size (fun _ => True) v0_ r1 ∧ ah w0 w' g s0_0 r2 r3 ∧ Below w0.heap.size w0 w' ∧ af w w' g none := by
 have hu38 := Try.underlying38
 have hu41 := Try.underlying41
 have HI0 := Aside0.mk hI
 have HK := Aside0.mk (af.refl w g none)
 have HL := Aside0.mk hB.size
 clear hI
 have HW0 := Aside0.mk hB.size
 have HB := Aside0.mk hB
 clear hB
 have H : ((eY.f s0_0 s0_1 s0_2).bind fun bt603 => (if bt603.2.2.2.2.1 = true then (if bt603.1 = 2 then ((aj.f k 19 0 (⟨#[]⟩ : ByteArray) bt603.2.2.1 (⟨#[]⟩ : ByteArray) ([] : List (List (S41)))).bind fun t611 => (some (t611, wrap64 (bt603.2.2.2.2.2.1 + 1), bt603.2.2.2.2.2.2))) else (if bt603.1 = 3 then ((aj.f k 20 0 (⟨#[]⟩ : ByteArray) 0 bt603.2.1 ([] : List (List (S41)))).bind fun t614 => (some (t614, wrap64 (bt603.2.2.2.2.2.1 + 1), bt603.2.2.2.2.2.2))) else ((aX.f s0_0 bt603.2.2.2.2.2.1 bt603.2.2.2.2.2.2 1).bind fun bt617 => ((au.f s0_0 bt617.2.2.2.2.1 bt617.2.2.2.2.2 (⟨#[46]⟩ : ByteArray)).bind fun bt623 => (if bt623.1 = true then ((aX.f s0_0 bt623.2.1 bt623.2.2 1).bind fun bt626 => ((dC.f F k s0_0 bt626.2.2.2.2.1 bt626.2.2.2.2.2).bind fun bt632 => ((aj.f k 23 0 bt617.2.1 0 bt626.2.1 bt632.1).bind fun t637 => (some (t637, bt632.2.1, bt632.2.2))))) else ((aj.f k 21 0 bt617.2.1 0 (⟨#[]⟩ : ByteArray) ([] : List (List (S41)))).bind fun t640 => (some (t640, bt623.2.1, bt623.2.2)))))))) else (some (([] : List (S41)), bt603.2.2.2.2.2.1, true)))) = some (r1, r2, r3) := h
 clear h
 replace H := Option.bind_eq_some_iff.mp H
 obtain ⟨⟨t603, t604, t605, t606, t607, t608, t609⟩, A20, H⟩ := H
 try dsimp only at H
 have A2 := Aside0.mk A20
 clear A20
 by_cases c3 : t607 = true
 ·subst c3
  rw [if_pos rfl] at H
  have H1 := H
  clear H
  have H := H1
  clear H1
  by_cases c4 : t603 = 2
  ·rw [if_pos c4] at H
   have c4b0 : (t603 == 2) = true := beq_iff_eq.mpr c4
   have c4b1 : (t603 != 2) = false := bne_eq_false_iff_eq.mpr c4
   clear c4
   replace H := Option.bind_eq_some_iff.mp H
   obtain ⟨t611, A50, H⟩ := H
   replace H : (some (t611, wrap64 (t608 + 1), t609)) = some (r1, r2, r3) := H
   have A5 := Aside0.mk A50
   clear A50
   simp only [Option.some.injEq, Prod.mk.injEq] at H
   obtain ⟨rfl, rfl, rfl⟩ := H
   go_enter Try.func85, Try.ntmps85
   go_wp2_with (first | ((with_reducible refine gate_callee (f := 70) rfl ?_); refine goesL_ (some 9) rfl rfl Try.func70 (by kernel_rfl) rfl #[.pointer (some ⟨g, 0, none⟩)] rfl Z3 ?_; (with_reducible refine (eY.calls g s0_0 s0_1 s0_2 t603 t604 t605 t606 true t608 t609 w0 _ ?side1 ?side2 A2.out).mono ?_); (case side1 => exact Z0); (case side2 => exact Z2); rintro e w6 ⟨rfl, hi, hb, hk⟩; refine ⟨_, rfl, ?_⟩; have n0_ := Aside0.mk (af.trans Z1 hk (.inl rfl)); have n1_ := Aside0.mk (hb); have n2_ := Aside0.mk (hi); clear HK; clear HB; clear HI0; have HK := n0_; have HB := n1_; have HI0 := n2_; clear n0_ n1_ n2_; (try clear hb)) | ((with_reducible refine bP (N := 3) rfl ?_); refine bT ?hg (N := 3) ?hd (cs := #[.int .i64 0, .string (⟨#[]⟩ : ByteArray), .int .i64 0, .int .i64 0]) (t := 38) ?hr ?_; (case hd => rfl); (case hg => rfl); (case hr => first | (go_simp; done) | (go_simp; rfl)); intro gb610 hg w7 hbox hb; have n0_ := Aside0.mk (ah.below Z0 hb); have n1_ := Aside0.mk (af.trans Z1 (af.of_below hb g none) (.inl rfl)); have n2_ := Aside0.mk (below_step Z2 hb); have n3_ := Aside0.mk (hbox); have n4_ := Aside0.mk ((by rw [hg]; exact (aH (w := w) (g := g) (row := none) Z1) : w.heap.size ≤ gb610)); have n5_ := Aside0.mk ((Nat.le_trans HW0.out (by rw [hg]; exact (aH (w := w) (g := g) (row := none) Z1) : w.heap.size ≤ gb610) : w0.heap.size ≤ gb610)); have n6_ := Aside0.mk ((by rw [hg]; exact Nat.ne_of_lt (ah.lt (show ah w0 _ g s0_0 t608 t609 from Z0)) : g ≠ gb610)); have n7_ := Aside0.mk ((by rw [hg]; exact Nat.ne_of_gt (ah.lt (show ah w0 _ g s0_0 t608 t609 from Z0)) : gb610 ≠ g)); clear HI0; clear HK; clear HB; have HI0 := n0_; have HK := n1_; have HB := n2_; have BK610 := n3_; have GW610 := n4_; have GE610 := n5_; have NB0_610 := n6_; have NB610_0 := n7_; clear n0_ n1_ n2_ n3_ n4_ n5_ n6_ n7_; clear hb hbox hg; have hnb8 := NB610_0.out; have hnc8 := NB0_610.out; have hcz9_0 : w7.cell? ⟨gb610, 0, none⟩ = some (.int .i64 0) := (ag BK610.out 0).trans rfl; have hcz9_1 : w7.cell? ⟨gb610, 1, none⟩ = some (.string (⟨#[]⟩ : ByteArray)) := (ag BK610.out 1).trans rfl; have hcz9_2 : w7.cell? ⟨gb610, 2, none⟩ = some (.int .i64 0) := (ag BK610.out 2).trans rfl; have hcz9_3 : w7.cell? ⟨gb610, 3, none⟩ = some (.int .i64 0) := (ag BK610.out 3).trans rfl; have hfz9_0 := ae BK610.out 0; have hfz9_1 := ae BK610.out 1; have hfz9_2 := ae BK610.out 2; have hfz9_3 := ae BK610.out 3; obtain ⟨ASz10_0, cSz10_0, HGz10, hgz10, HSz10_0⟩ := HI0.out; have hcz10_0 := df HGz10; have hcz10_1 := cZ HGz10; have hcz10_2 := cO HGz10; have hfz10_1 := ae HGz10 1; have hfz10_2 := ae HGz10 2; clear HGz10 hgz10) | ((with_reducible refine gate_callee (f := 56) rfl ?_); refine goesL_ (some 31) rfl rfl Try.func56 (by kernel_rfl) rfl #[.agg #[.int .i64 19, .int .i64 0, .string (⟨#[]⟩ : ByteArray), .int .i64 t605, .string (⟨#[]⟩ : ByteArray)], .slice none 0 0] rfl Z3 ?_; (refine (aj.calls k 19 0 (⟨#[]⟩ : ByteArray) t605 (⟨#[]⟩ : ByteArray) _ _ ([] : List (List (S41))) t611 _ ?side1 ?side2 A5.out).mono ?_); (case side1 => exact Kd.mP _ _); (case side2 => exact Nat.le_refl _); rintro e w11 ⟨v612, rfl, ho0, hb⟩; refine ⟨_, rfl, ?_⟩; have n0_ := Aside0.mk (Kd.R_lower ho0 (aH (w := w) (g := g) (row := none) Z12)); have n1_ := Aside0.mk (ah.below (show ah w0 (((((w7.setCell ⟨gb610, 0, none⟩ (.int .i64 t603)).setCell ⟨gb610, 1, none⟩ (.string t604)).setCell ⟨gb610, 2, none⟩ (.int .i64 t605)).setCell ⟨gb610, 3, none⟩ (.int .i64 t606)).setCell ⟨g, 1, none⟩ (.int .i64 (wrap64 (t608 + 1)))) g s0_0 (wrap64 (t608 + 1)) t609 from Z15) hb); have n2_ := Aside0.mk (bU (g := gb610) (o := .cells #[.int .i64 t603, .string t604, .int .i64 t605, .int .i64 t606] 38 (0, 0)) (by refine fM ?_ NB610_0.out _; refine aZ (cs := #[.int .i64 t603, .string t604, .int .i64 t605, .int .i64 0]) ?_ 3 _ rfl; refine aZ (cs := #[.int .i64 t603, .string t604, .int .i64 0, .int .i64 0]) ?_ 2 _ rfl; refine aZ (cs := #[.int .i64 t603, .string (⟨#[]⟩ : ByteArray), .int .i64 0, .int .i64 0]) ?_ 1 _ rfl; refine aZ (cs := #[.int .i64 0, .string (⟨#[]⟩ : ByteArray), .int .i64 0, .int .i64 0]) ?_ 0 _ rfl; exact BK610.out) hb); have n3_ := Aside0.mk (af.trans Z12 (af.of_below hb g none) (.inl rfl)); have n4_ := Aside0.mk (below_step Z16 hb); clear HI0; clear BK610; clear HK; clear HB; have HO613 := n0_; have HI0 := n1_; have BK610 := n2_; have HK := n3_; have HB := n4_; clear n0_ n1_ n2_ n3_ n4_; (try clear hb); (try clear ho0)))
   go_ret
   exact ⟨_, Z5, by (with_reducible repeat (first | apply Kd.R_alloc | apply Kd.R_drewN | apply Kd.R_drew)); exact HO613.out, Z15, Z16, Z12⟩
  rw [if_neg c4] at H
  have c4b0 : (t603 == 2) = false := beq_eq_false_iff_ne.mpr c4
  have c4b1 : (t603 != 2) = true := bne_iff_ne.mpr c4
  by_cases c12 : t603 = 3
  ·rw [if_pos c12] at H
   have c12b0 : (t603 == 3) = true := beq_iff_eq.mpr c12
   have c12b1 : (t603 != 3) = false := bne_eq_false_iff_eq.mpr c12
   clear c12
   replace H := Option.bind_eq_some_iff.mp H
   obtain ⟨t614, A130, H⟩ := H
   replace H : (some (t614, wrap64 (t608 + 1), t609)) = some (r1, r2, r3) := H
   have A13 := Aside0.mk A130
   clear A130
   simp only [Option.some.injEq, Prod.mk.injEq] at H
   obtain ⟨rfl, rfl, rfl⟩ := H
   go_enter Try.func85, Try.ntmps85
   go_wp2_with (first | ((with_reducible refine gate_callee (f := 70) rfl ?_); refine goesL_ (some 9) rfl rfl Try.func70 (by kernel_rfl) rfl #[.pointer (some ⟨g, 0, none⟩)] rfl Z3 ?_; (with_reducible refine (eY.calls g s0_0 s0_1 s0_2 t603 t604 t605 t606 true t608 t609 w0 _ ?side1 ?side2 A2.out).mono ?_); (case side1 => exact Z0); (case side2 => exact Z2); rintro e w14 ⟨rfl, hi, hb, hk⟩; refine ⟨_, rfl, ?_⟩; have n0_ := Aside0.mk (af.trans Z1 hk (.inl rfl)); have n1_ := Aside0.mk (hb); have n2_ := Aside0.mk (hi); clear HK; clear HB; clear HI0; have HK := n0_; have HB := n1_; have HI0 := n2_; clear n0_ n1_ n2_; (try clear hb)) | ((with_reducible refine bP (N := 3) rfl ?_); refine bT ?hg (N := 3) ?hd (cs := #[.int .i64 0, .string (⟨#[]⟩ : ByteArray), .int .i64 0, .int .i64 0]) (t := 38) ?hr ?_; (case hd => rfl); (case hg => rfl); (case hr => first | (go_simp; done) | (go_simp; rfl)); intro gb610 hg w15 hbox hb; have n0_ := Aside0.mk (ah.below Z0 hb); have n1_ := Aside0.mk (af.trans Z1 (af.of_below hb g none) (.inl rfl)); have n2_ := Aside0.mk (below_step Z2 hb); have n3_ := Aside0.mk (hbox); have n4_ := Aside0.mk ((by rw [hg]; exact (aH (w := w) (g := g) (row := none) Z1) : w.heap.size ≤ gb610)); have n5_ := Aside0.mk ((Nat.le_trans HW0.out (by rw [hg]; exact (aH (w := w) (g := g) (row := none) Z1) : w.heap.size ≤ gb610) : w0.heap.size ≤ gb610)); have n6_ := Aside0.mk ((by rw [hg]; exact Nat.ne_of_lt (ah.lt (show ah w0 _ g s0_0 t608 t609 from Z0)) : g ≠ gb610)); have n7_ := Aside0.mk ((by rw [hg]; exact Nat.ne_of_gt (ah.lt (show ah w0 _ g s0_0 t608 t609 from Z0)) : gb610 ≠ g)); clear HI0; clear HK; clear HB; have HI0 := n0_; have HK := n1_; have HB := n2_; have BK610 := n3_; have GW610 := n4_; have GE610 := n5_; have NB0_610 := n6_; have NB610_0 := n7_; clear n0_ n1_ n2_ n3_ n4_ n5_ n6_ n7_; clear hb hbox hg; have hnb16 := NB610_0.out; have hnc16 := NB0_610.out; have hcz17_0 : w15.cell? ⟨gb610, 0, none⟩ = some (.int .i64 0) := (ag BK610.out 0).trans rfl; have hcz17_1 : w15.cell? ⟨gb610, 1, none⟩ = some (.string (⟨#[]⟩ : ByteArray)) := (ag BK610.out 1).trans rfl; have hcz17_2 : w15.cell? ⟨gb610, 2, none⟩ = some (.int .i64 0) := (ag BK610.out 2).trans rfl; have hcz17_3 : w15.cell? ⟨gb610, 3, none⟩ = some (.int .i64 0) := (ag BK610.out 3).trans rfl; have hfz17_0 := ae BK610.out 0; have hfz17_1 := ae BK610.out 1; have hfz17_2 := ae BK610.out 2; have hfz17_3 := ae BK610.out 3; obtain ⟨ASz18_0, cSz18_0, HGz18, hgz18, HSz18_0⟩ := HI0.out; have hcz18_0 := df HGz18; have hcz18_1 := cZ HGz18; have hcz18_2 := cO HGz18; have hfz18_1 := ae HGz18 1; have hfz18_2 := ae HGz18 2; clear HGz18 hgz18) | ((with_reducible refine gate_callee (f := 56) rfl ?_); refine goesL_ (some 44) rfl rfl Try.func56 (by kernel_rfl) rfl #[.agg #[.int .i64 20, .int .i64 0, .string (⟨#[]⟩ : ByteArray), .int .i64 0, .string t604], .slice none 0 0] rfl Z3 ?_; (refine (aj.calls k 20 0 (⟨#[]⟩ : ByteArray) 0 t604 _ _ ([] : List (List (S41))) t614 _ ?side1 ?side2 A13.out).mono ?_); (case side1 => exact Kd.mP _ _); (case side2 => exact Nat.le_refl _); rintro e w19 ⟨v615, rfl, ho0, hb⟩; refine ⟨_, rfl, ?_⟩; have n0_ := Aside0.mk (Kd.R_lower ho0 (aH (w := w) (g := g) (row := none) Z12)); have n1_ := Aside0.mk (ah.below (show ah w0 (((((w15.setCell ⟨gb610, 0, none⟩ (.int .i64 t603)).setCell ⟨gb610, 1, none⟩ (.string t604)).setCell ⟨gb610, 2, none⟩ (.int .i64 t605)).setCell ⟨gb610, 3, none⟩ (.int .i64 t606)).setCell ⟨g, 1, none⟩ (.int .i64 (wrap64 (t608 + 1)))) g s0_0 (wrap64 (t608 + 1)) t609 from Z15) hb); have n2_ := Aside0.mk (bU (g := gb610) (o := .cells #[.int .i64 t603, .string t604, .int .i64 t605, .int .i64 t606] 38 (0, 0)) (by refine fM ?_ NB610_0.out _; refine aZ (cs := #[.int .i64 t603, .string t604, .int .i64 t605, .int .i64 0]) ?_ 3 _ rfl; refine aZ (cs := #[.int .i64 t603, .string t604, .int .i64 0, .int .i64 0]) ?_ 2 _ rfl; refine aZ (cs := #[.int .i64 t603, .string (⟨#[]⟩ : ByteArray), .int .i64 0, .int .i64 0]) ?_ 1 _ rfl; refine aZ (cs := #[.int .i64 0, .string (⟨#[]⟩ : ByteArray), .int .i64 0, .int .i64 0]) ?_ 0 _ rfl; exact BK610.out) hb); have n3_ := Aside0.mk (af.trans Z12 (af.of_below hb g none) (.inl rfl)); have n4_ := Aside0.mk (below_step Z16 hb); clear HI0; clear BK610; clear HK; clear HB; have HO616 := n0_; have HI0 := n1_; have BK610 := n2_; have HK := n3_; have HB := n4_; clear n0_ n1_ n2_ n3_ n4_; (try clear hb); (try clear ho0)))
   go_ret
   exact ⟨_, Z5, by (with_reducible repeat (first | apply Kd.R_alloc | apply Kd.R_drewN | apply Kd.R_drew)); exact HO616.out, Z15, Z16, Z12⟩
  rw [if_neg c12] at H
  have c12b0 : (t603 == 3) = false := beq_eq_false_iff_ne.mpr c12
  have c12b1 : (t603 != 3) = true := bne_iff_ne.mpr c12
  replace H := Option.bind_eq_some_iff.mp H
  obtain ⟨⟨t617, t618, t619, t620, t621, t622⟩, A200, H⟩ := H
  try dsimp only at H
  have A20 := Aside0.mk A200
  clear A200
  replace H := Option.bind_eq_some_iff.mp H
  obtain ⟨⟨t623, t624, t625⟩, A210, H⟩ := H
  try dsimp only at H
  have A21 := Aside0.mk A210
  clear A210
  by_cases c22 : t623 = true
  ·subst c22
   rw [if_pos rfl] at H
   have H1 := H
   clear H
   have H := H1
   clear H1
   replace H := Option.bind_eq_some_iff.mp H
   obtain ⟨⟨t626, t627, t628, t629, t630, t631⟩, A230, H⟩ := H
   try dsimp only at H
   have A23 := Aside0.mk A230
   clear A230
   replace H := Option.bind_eq_some_iff.mp H
   obtain ⟨⟨t632, t635, t636⟩, A240, H⟩ := H
   replace H : ((aj.f k 23 0 t618 0 t627 t632).bind fun t637 => (some (t637, t635, t636))) = some (r1, r2, r3) := H
   have A24 := Aside0.mk A240
   clear A240
   replace H := Option.bind_eq_some_iff.mp H
   obtain ⟨t637, A250, H⟩ := H
   replace H : (some (t637, t635, t636)) = some (r1, r2, r3) := H
   have A25 := Aside0.mk A250
   clear A250
   simp only [Option.some.injEq, Prod.mk.injEq] at H
   obtain ⟨rfl, rfl, rfl⟩ := H
   go_enter Try.func85, Try.ntmps85
   go_wp2_with (first | ((with_reducible refine gate_callee (f := 70) rfl ?_); refine goesL_ (some 9) rfl rfl Try.func70 (by kernel_rfl) rfl #[.pointer (some ⟨g, 0, none⟩)] rfl Z3 ?_; (with_reducible refine (eY.calls g s0_0 s0_1 s0_2 t603 t604 t605 t606 true t608 t609 w0 _ ?side1 ?side2 A2.out).mono ?_); (case side1 => exact Z0); (case side2 => exact Z2); rintro e w26 ⟨rfl, hi, hb, hk⟩; refine ⟨_, rfl, ?_⟩; have n0_ := Aside0.mk (af.trans Z1 hk (.inl rfl)); have n1_ := Aside0.mk (hb); have n2_ := Aside0.mk (hi); clear HK; clear HB; clear HI0; have HK := n0_; have HB := n1_; have HI0 := n2_; clear n0_ n1_ n2_; (try clear hb)) | ((with_reducible refine bP (N := 3) rfl ?_); refine bT ?hg (N := 3) ?hd (cs := #[.int .i64 0, .string (⟨#[]⟩ : ByteArray), .int .i64 0, .int .i64 0]) (t := 38) ?hr ?_; (case hd => rfl); (case hg => rfl); (case hr => first | (go_simp; done) | (go_simp; rfl)); intro gb610 hg w27 hbox hb; have n0_ := Aside0.mk (ah.below Z0 hb); have n1_ := Aside0.mk (af.trans Z1 (af.of_below hb g none) (.inl rfl)); have n2_ := Aside0.mk (below_step Z2 hb); have n3_ := Aside0.mk (hbox); have n4_ := Aside0.mk ((by rw [hg]; exact (aH (w := w) (g := g) (row := none) Z1) : w.heap.size ≤ gb610)); have n5_ := Aside0.mk ((Nat.le_trans HW0.out (by rw [hg]; exact (aH (w := w) (g := g) (row := none) Z1) : w.heap.size ≤ gb610) : w0.heap.size ≤ gb610)); have n6_ := Aside0.mk ((by rw [hg]; exact Nat.ne_of_lt (ah.lt (show ah w0 _ g s0_0 t608 t609 from Z0)) : g ≠ gb610)); have n7_ := Aside0.mk ((by rw [hg]; exact Nat.ne_of_gt (ah.lt (show ah w0 _ g s0_0 t608 t609 from Z0)) : gb610 ≠ g)); clear HI0; clear HK; clear HB; have HI0 := n0_; have HK := n1_; have HB := n2_; have BK610 := n3_; have GW610 := n4_; have GE610 := n5_; have NB0_610 := n6_; have NB610_0 := n7_; clear n0_ n1_ n2_ n3_ n4_ n5_ n6_ n7_; clear hb hbox hg; have hnb28 := NB610_0.out; have hnc28 := NB0_610.out; have hcz29_0 : w27.cell? ⟨gb610, 0, none⟩ = some (.int .i64 0) := (ag BK610.out 0).trans rfl; have hcz29_1 : w27.cell? ⟨gb610, 1, none⟩ = some (.string (⟨#[]⟩ : ByteArray)) := (ag BK610.out 1).trans rfl; have hcz29_2 : w27.cell? ⟨gb610, 2, none⟩ = some (.int .i64 0) := (ag BK610.out 2).trans rfl; have hcz29_3 : w27.cell? ⟨gb610, 3, none⟩ = some (.int .i64 0) := (ag BK610.out 3).trans rfl; have hfz29_0 := ae BK610.out 0; have hfz29_1 := ae BK610.out 1; have hfz29_2 := ae BK610.out 2; have hfz29_3 := ae BK610.out 3) | ((with_reducible refine gate_callee (f := 52) rfl ?_); refine goesL_ (some 46) rfl rfl Try.func52 (by kernel_rfl) rfl #[.pointer (some ⟨g, 0, none⟩), .int .i64 1] rfl Z3 ?_; (with_reducible refine (aX.calls g s0_0 t608 t609 1 t617 t618 t619 t620 t621 t622 w0 _ ?side1 ?side2 A20.out).mono ?_); (case side1 => exact Z15); (case side2 => exact Z16); rintro e w30 ⟨rfl, hi, hb, hk⟩; refine ⟨_, rfl, ?_⟩; have n0_ := Aside0.mk (af.blk hk (g' := gb610) (o := .cells #[.int .i64 t603, .string t604, .int .i64 t605, .int .i64 t606] 38 (0, 0)) (by refine aZ (cs := #[.int .i64 t603, .string t604, .int .i64 t605, .int .i64 0]) ?_ 3 _ rfl; refine aZ (cs := #[.int .i64 t603, .string t604, .int .i64 0, .int .i64 0]) ?_ 2 _ rfl; refine aZ (cs := #[.int .i64 t603, .string (⟨#[]⟩ : ByteArray), .int .i64 0, .int .i64 0]) ?_ 1 _ rfl; refine aZ (cs := #[.int .i64 0, .string (⟨#[]⟩ : ByteArray), .int .i64 0, .int .i64 0]) ?_ 0 _ rfl; exact BK610.out) NB610_0.out (by simp)); have n1_ := Aside0.mk (af.trans Z12 hk (.inl rfl)); have n2_ := Aside0.mk (hb); have n3_ := Aside0.mk (hi); clear BK610; clear HK; clear HB; clear HI0; have BK610 := n0_; have HK := n1_; have HB := n2_; have HI0 := n3_; clear n0_ n1_ n2_ n3_; (try clear hb)) | ((with_reducible refine gate_callee (f := 53) rfl ?_); refine goesL_ (some 49) rfl rfl Try.func53 (by kernel_rfl) rfl #[.pointer (some ⟨g, 0, none⟩), .string (⟨#[46]⟩ : ByteArray)] rfl Z3 ?_; (with_reducible refine (au.calls g s0_0 t621 t622 (⟨#[46]⟩ : ByteArray) true t624 t625 w0 _ ?side1 ?side2 A21.out).mono ?_); (case side1 => exact Z15); (case side2 => exact Z16); rintro e w31 ⟨rfl, hi, hb, hk⟩; refine ⟨_, rfl, ?_⟩; have n0_ := Aside0.mk (af.blk hk (g' := gb610) (o := .cells #[.int .i64 t603, .string t604, .int .i64 t605, .int .i64 t606] 38 (0, 0)) (by exact BK610.out) NB610_0.out (by simp)); have n1_ := Aside0.mk (af.trans Z12 hk (.inl rfl)); have n2_ := Aside0.mk (hb); have n3_ := Aside0.mk (hi); clear BK610; clear HK; clear HB; clear HI0; have BK610 := n0_; have HK := n1_; have HB := n2_; have HI0 := n3_; clear n0_ n1_ n2_ n3_; (try clear hb)) | ((with_reducible refine gate_callee (f := 52) rfl ?_); refine goesL_ (some 55) rfl rfl Try.func52 (by kernel_rfl) rfl #[.pointer (some ⟨g, 0, none⟩), .int .i64 1] rfl Z3 ?_; (with_reducible refine (aX.calls g s0_0 t624 t625 1 t626 t627 t628 t629 t630 t631 w0 _ ?side1 ?side2 A23.out).mono ?_); (case side1 => exact Z15); (case side2 => exact Z16); rintro e w32 ⟨rfl, hi, hb, hk⟩; refine ⟨_, rfl, ?_⟩; have n0_ := Aside0.mk (af.blk hk (g' := gb610) (o := .cells #[.int .i64 t603, .string t604, .int .i64 t605, .int .i64 t606] 38 (0, 0)) (by exact BK610.out) NB610_0.out (by simp)); have n1_ := Aside0.mk (af.trans Z12 hk (.inl rfl)); have n2_ := Aside0.mk (hb); have n3_ := Aside0.mk (hi); clear BK610; clear HK; clear HB; clear HI0; have BK610 := n0_; have HK := n1_; have HB := n2_; have HI0 := n3_; clear n0_ n1_ n2_ n3_; (try clear hb)) | ((with_reducible refine gate_callee (f := 72) rfl ?_); refine goesL_ (some 63) rfl rfl Try.func72 (by kernel_rfl) rfl #[.pointer (some ⟨g, 0, none⟩), .func (.func 77) #[.pointer (some ⟨g, 0, none⟩)] #[]] rfl Z3 ?_; (with_reducible refine (dC.calls F HF k g s0_0 t630 t631 t632 t635 t636 w0 _ ?side1 ?side2 A24.out).mono ?_); (case side1 => exact Z15); (case side2 => exact Z16); rintro e w33 ⟨v633, rfl, ho0, hi, hb, hk⟩; refine ⟨_, rfl, ?_⟩; have n0_ := Aside0.mk (af.blk hk (g' := gb610) (o := .cells #[.int .i64 t603, .string t604, .int .i64 t605, .int .i64 t606] 38 (0, 0)) (by exact BK610.out) NB610_0.out (by simp)); have n1_ := Aside0.mk (Kd.xE ho0 (aH (w := w) (g := g) (row := none) Z12)); have n2_ := Aside0.mk (af.trans Z12 hk (.inl rfl)); have n3_ := Aside0.mk (hb); have n4_ := Aside0.mk (hi); clear BK610; clear HK; clear HB; clear HI0; have BK610 := n0_; have HO634 := n1_; have HK := n2_; have HB := n3_; have HI0 := n4_; clear n0_ n1_ n2_ n3_ n4_; (try clear hb); (try clear ho0); obtain ⟨Ao34, co34, eo34⟩ := Kd.jT HO634.out; subst eo34) | ((with_reducible refine gate_callee (f := 56) rfl ?_); refine goesL_ (some 64) rfl rfl Try.func56 (by kernel_rfl) rfl #[.agg #[.int .i64 23, .int .i64 0, .string t618, .int .i64 0, .string t627], .slice Ao34 t632.length co34] rfl Z3 ?_; (with_reducible refine (aj.calls k 23 0 t618 0 t627 _ _ t632 t637 _ ?side1 ?side2 A25.out).mono ?_); (case side1 => repeat (first | exact (Kd.iY HO634.out).2.2 | (with_reducible refine Kd.C_alloc ?_ _) | (with_reducible refine Kd.C_drewN ?_ _) | (with_reducible refine Kd.C_drew ?_))); (case side2 => exact (Kd.iY HO634.out).2.1); rintro e w35 ⟨v638, rfl, ho0, hb⟩; refine ⟨_, rfl, ?_⟩; have n0_ := Aside0.mk (Kd.lS (by (with_reducible repeat (first | apply Kd.fP | apply Kd.fO | apply Kd.iw)); exact HO634.out) (Kd.dH ho0) hb); have n1_ := Aside0.mk (Kd.R_lower ho0 (aH (w := w) (g := g) (row := none) Z12)); have n2_ := Aside0.mk (ah.below Z15 hb); have n3_ := Aside0.mk (bU (g := gb610) (o := .cells #[.int .i64 t603, .string t604, .int .i64 t605, .int .i64 t606] 38 (0, 0)) (by exact BK610.out) hb); have n4_ := Aside0.mk (af.trans Z12 (af.of_below hb g none) (.inl rfl)); have n5_ := Aside0.mk (below_step Z16 hb); clear HO634; clear HI0; clear BK610; clear HK; clear HB; have HO634 := n0_; have HO639 := n1_; have HI0 := n2_; have BK610 := n3_; have HK := n4_; have HB := n5_; clear n0_ n1_ n2_ n3_ n4_ n5_; (try clear hb); (try clear ho0)))
   go_ret
   exact ⟨_, Z5, by (with_reducible repeat (first | apply Kd.R_alloc | apply Kd.R_drewN | apply Kd.R_drew)); exact HO639.out, Z15, Z16, Z12⟩
  replace c22 := Bool.eq_false_iff.mpr c22
  subst c22
  have H1 : ((aj.f k 21 0 t618 0 (⟨#[]⟩ : ByteArray) ([] : List (List (S41)))).bind fun t640 => (some (t640, t624, t625))) = some (r1, r2, r3) := by rw [if_neg (show ¬ (false = true) by decide)] at H; exact H
  clear H
  have H := H1
  clear H1
  replace H := Option.bind_eq_some_iff.mp H
  obtain ⟨t640, A360, H⟩ := H
  replace H : (some (t640, t624, t625)) = some (r1, r2, r3) := H
  have A36 := Aside0.mk A360
  clear A360
  simp only [Option.some.injEq, Prod.mk.injEq] at H
  obtain ⟨rfl, rfl, rfl⟩ := H
  go_enter Try.func85, Try.ntmps85
  go_wp2_with (first | ((with_reducible refine gate_callee (f := 70) rfl ?_); refine goesL_ (some 9) rfl rfl Try.func70 (by kernel_rfl) rfl #[.pointer (some ⟨g, 0, none⟩)] rfl Z3 ?_; (with_reducible refine (eY.calls g s0_0 s0_1 s0_2 t603 t604 t605 t606 true t608 t609 w0 _ ?side1 ?side2 A2.out).mono ?_); (case side1 => exact Z0); (case side2 => exact Z2); rintro e w37 ⟨rfl, hi, hb, hk⟩; refine ⟨_, rfl, ?_⟩; have n0_ := Aside0.mk (af.trans Z1 hk (.inl rfl)); have n1_ := Aside0.mk (hb); have n2_ := Aside0.mk (hi); clear HK; clear HB; clear HI0; have HK := n0_; have HB := n1_; have HI0 := n2_; clear n0_ n1_ n2_; (try clear hb)) | ((with_reducible refine bP (N := 3) rfl ?_); refine bT ?hg (N := 3) ?hd (cs := #[.int .i64 0, .string (⟨#[]⟩ : ByteArray), .int .i64 0, .int .i64 0]) (t := 38) ?hr ?_; (case hd => rfl); (case hg => rfl); (case hr => first | (go_simp; done) | (go_simp; rfl)); intro gb610 hg w38 hbox hb; have n0_ := Aside0.mk (ah.below Z0 hb); have n1_ := Aside0.mk (af.trans Z1 (af.of_below hb g none) (.inl rfl)); have n2_ := Aside0.mk (below_step Z2 hb); have n3_ := Aside0.mk (hbox); have n4_ := Aside0.mk ((by rw [hg]; exact (aH (w := w) (g := g) (row := none) Z1) : w.heap.size ≤ gb610)); have n5_ := Aside0.mk ((Nat.le_trans HW0.out (by rw [hg]; exact (aH (w := w) (g := g) (row := none) Z1) : w.heap.size ≤ gb610) : w0.heap.size ≤ gb610)); have n6_ := Aside0.mk ((by rw [hg]; exact Nat.ne_of_lt (ah.lt (show ah w0 _ g s0_0 t608 t609 from Z0)) : g ≠ gb610)); have n7_ := Aside0.mk ((by rw [hg]; exact Nat.ne_of_gt (ah.lt (show ah w0 _ g s0_0 t608 t609 from Z0)) : gb610 ≠ g)); clear HI0; clear HK; clear HB; have HI0 := n0_; have HK := n1_; have HB := n2_; have BK610 := n3_; have GW610 := n4_; have GE610 := n5_; have NB0_610 := n6_; have NB610_0 := n7_; clear n0_ n1_ n2_ n3_ n4_ n5_ n6_ n7_; clear hb hbox hg; have hnb39 := NB610_0.out; have hnc39 := NB0_610.out; have hcz40_0 : w38.cell? ⟨gb610, 0, none⟩ = some (.int .i64 0) := (ag BK610.out 0).trans rfl; have hcz40_1 : w38.cell? ⟨gb610, 1, none⟩ = some (.string (⟨#[]⟩ : ByteArray)) := (ag BK610.out 1).trans rfl; have hcz40_2 : w38.cell? ⟨gb610, 2, none⟩ = some (.int .i64 0) := (ag BK610.out 2).trans rfl; have hcz40_3 : w38.cell? ⟨gb610, 3, none⟩ = some (.int .i64 0) := (ag BK610.out 3).trans rfl; have hfz40_0 := ae BK610.out 0; have hfz40_1 := ae BK610.out 1; have hfz40_2 := ae BK610.out 2; have hfz40_3 := ae BK610.out 3) | ((with_reducible refine gate_callee (f := 52) rfl ?_); refine goesL_ (some 46) rfl rfl Try.func52 (by kernel_rfl) rfl #[.pointer (some ⟨g, 0, none⟩), .int .i64 1] rfl Z3 ?_; (with_reducible refine (aX.calls g s0_0 t608 t609 1 t617 t618 t619 t620 t621 t622 w0 _ ?side1 ?side2 A20.out).mono ?_); (case side1 => exact Z15); (case side2 => exact Z16); rintro e w41 ⟨rfl, hi, hb, hk⟩; refine ⟨_, rfl, ?_⟩; have n0_ := Aside0.mk (af.blk hk (g' := gb610) (o := .cells #[.int .i64 t603, .string t604, .int .i64 t605, .int .i64 t606] 38 (0, 0)) (by refine aZ (cs := #[.int .i64 t603, .string t604, .int .i64 t605, .int .i64 0]) ?_ 3 _ rfl; refine aZ (cs := #[.int .i64 t603, .string t604, .int .i64 0, .int .i64 0]) ?_ 2 _ rfl; refine aZ (cs := #[.int .i64 t603, .string (⟨#[]⟩ : ByteArray), .int .i64 0, .int .i64 0]) ?_ 1 _ rfl; refine aZ (cs := #[.int .i64 0, .string (⟨#[]⟩ : ByteArray), .int .i64 0, .int .i64 0]) ?_ 0 _ rfl; exact BK610.out) NB610_0.out (by simp)); have n1_ := Aside0.mk (af.trans Z12 hk (.inl rfl)); have n2_ := Aside0.mk (hb); have n3_ := Aside0.mk (hi); clear BK610; clear HK; clear HB; clear HI0; have BK610 := n0_; have HK := n1_; have HB := n2_; have HI0 := n3_; clear n0_ n1_ n2_ n3_; (try clear hb)) | ((with_reducible refine gate_callee (f := 53) rfl ?_); refine goesL_ (some 49) rfl rfl Try.func53 (by kernel_rfl) rfl #[.pointer (some ⟨g, 0, none⟩), .string (⟨#[46]⟩ : ByteArray)] rfl Z3 ?_; (with_reducible refine (au.calls g s0_0 t621 t622 (⟨#[46]⟩ : ByteArray) false t624 t625 w0 _ ?side1 ?side2 A21.out).mono ?_); (case side1 => exact Z15); (case side2 => exact Z16); rintro e w42 ⟨rfl, hi, hb, hk⟩; refine ⟨_, rfl, ?_⟩; have n0_ := Aside0.mk (af.blk hk (g' := gb610) (o := .cells #[.int .i64 t603, .string t604, .int .i64 t605, .int .i64 t606] 38 (0, 0)) (by exact BK610.out) NB610_0.out (by simp)); have n1_ := Aside0.mk (af.trans Z12 hk (.inl rfl)); have n2_ := Aside0.mk (hb); have n3_ := Aside0.mk (hi); clear BK610; clear HK; clear HB; clear HI0; have BK610 := n0_; have HK := n1_; have HB := n2_; have HI0 := n3_; clear n0_ n1_ n2_ n3_; (try clear hb)) | ((with_reducible refine gate_callee (f := 56) rfl ?_); refine goesL_ (some 53) rfl rfl Try.func56 (by kernel_rfl) rfl #[.agg #[.int .i64 21, .int .i64 0, .string t618, .int .i64 0, .string (⟨#[]⟩ : ByteArray)], .slice none 0 0] rfl Z3 ?_; (refine (aj.calls k 21 0 t618 0 (⟨#[]⟩ : ByteArray) _ _ ([] : List (List (S41))) t640 _ ?side1 ?side2 A36.out).mono ?_); (case side1 => exact Kd.mP _ _); (case side2 => exact Nat.le_refl _); rintro e w43 ⟨v641, rfl, ho0, hb⟩; refine ⟨_, rfl, ?_⟩; have n0_ := Aside0.mk (Kd.R_lower ho0 (aH (w := w) (g := g) (row := none) Z12)); have n1_ := Aside0.mk (ah.below Z15 hb); have n2_ := Aside0.mk (bU (g := gb610) (o := .cells #[.int .i64 t603, .string t604, .int .i64 t605, .int .i64 t606] 38 (0, 0)) (by exact BK610.out) hb); have n3_ := Aside0.mk (af.trans Z12 (af.of_below hb g none) (.inl rfl)); have n4_ := Aside0.mk (below_step Z16 hb); clear HI0; clear BK610; clear HK; clear HB; have HO642 := n0_; have HI0 := n1_; have BK610 := n2_; have HK := n3_; have HB := n4_; clear n0_ n1_ n2_ n3_ n4_; (try clear hb); (try clear ho0)))
  go_ret
  exact ⟨_, Z5, by (with_reducible repeat (first | apply Kd.R_alloc | apply Kd.R_drewN | apply Kd.R_drew)); exact HO642.out, Z15, Z16, Z12⟩
 replace c3 := Bool.eq_false_iff.mpr c3
 subst c3
 have H1 : (some (([] : List (S41)), t608, true)) = some (r1, r2, r3) := by rw [if_neg (show ¬ (false = true) by decide)] at H; exact H
 clear H
 have H := H1
 clear H1
 simp only [Option.some.injEq, Prod.mk.injEq] at H
 obtain ⟨rfl, rfl, rfl⟩ := H
 go_enter Try.func85, Try.ntmps85
 go_wp2_with (first | ((with_reducible refine gate_callee (f := 70) rfl ?_); refine goesL_ (some 9) rfl rfl Try.func70 (by kernel_rfl) rfl #[.pointer (some ⟨g, 0, none⟩)] rfl Z3 ?_; (with_reducible refine (eY.calls g s0_0 s0_1 s0_2 t603 t604 t605 t606 false t608 t609 w0 _ ?side1 ?side2 A2.out).mono ?_); (case side1 => exact Z0); (case side2 => exact Z2); rintro e w44 ⟨rfl, hi, hb, hk⟩; refine ⟨_, rfl, ?_⟩; have n0_ := Aside0.mk (af.trans Z1 hk (.inl rfl)); have n1_ := Aside0.mk (hb); have n2_ := Aside0.mk (hi); clear HK; clear HB; clear HI0; have HK := n0_; have HB := n1_; have HI0 := n2_; clear n0_ n1_ n2_; (try clear hb)) | ((with_reducible refine bP (N := 3) rfl ?_); refine bT ?hg (N := 3) ?hd (cs := #[.int .i64 0, .string (⟨#[]⟩ : ByteArray), .int .i64 0, .int .i64 0]) (t := 38) ?hr ?_; (case hd => rfl); (case hg => rfl); (case hr => first | (go_simp; done) | (go_simp; rfl)); intro gb610 hg w45 hbox hb; have n0_ := Aside0.mk (ah.below Z0 hb); have n1_ := Aside0.mk (af.trans Z1 (af.of_below hb g none) (.inl rfl)); have n2_ := Aside0.mk (below_step Z2 hb); have n3_ := Aside0.mk (hbox); have n4_ := Aside0.mk ((by rw [hg]; exact (aH (w := w) (g := g) (row := none) Z1) : w.heap.size ≤ gb610)); have n5_ := Aside0.mk ((Nat.le_trans HW0.out (by rw [hg]; exact (aH (w := w) (g := g) (row := none) Z1) : w.heap.size ≤ gb610) : w0.heap.size ≤ gb610)); have n6_ := Aside0.mk ((by rw [hg]; exact Nat.ne_of_lt (ah.lt (show ah w0 _ g s0_0 t608 t609 from Z0)) : g ≠ gb610)); have n7_ := Aside0.mk ((by rw [hg]; exact Nat.ne_of_gt (ah.lt (show ah w0 _ g s0_0 t608 t609 from Z0)) : gb610 ≠ g)); clear HI0; clear HK; clear HB; have HI0 := n0_; have HK := n1_; have HB := n2_; have BK610 := n3_; have GW610 := n4_; have GE610 := n5_; have NB0_610 := n6_; have NB610_0 := n7_; clear n0_ n1_ n2_ n3_ n4_ n5_ n6_ n7_; clear hb hbox hg; have hnb46 := NB610_0.out; have hnc46 := NB0_610.out; have hcz47_0 : w45.cell? ⟨gb610, 0, none⟩ = some (.int .i64 0) := (ag BK610.out 0).trans rfl; have hcz47_1 : w45.cell? ⟨gb610, 1, none⟩ = some (.string (⟨#[]⟩ : ByteArray)) := (ag BK610.out 1).trans rfl; have hcz47_2 : w45.cell? ⟨gb610, 2, none⟩ = some (.int .i64 0) := (ag BK610.out 2).trans rfl; have hcz47_3 : w45.cell? ⟨gb610, 3, none⟩ = some (.int .i64 0) := (ag BK610.out 3).trans rfl; have hfz47_0 := ae BK610.out 0; have hfz47_1 := ae BK610.out 1; have hfz47_2 := ae BK610.out 2; have hfz47_3 := ae BK610.out 3; obtain ⟨ASz48_0, cSz48_0, HGz48, hgz48, HSz48_0⟩ := HI0.out; have hcz48_0 := df HGz48; have hcz48_1 := cZ HGz48; have hcz48_2 := cO HGz48; have hfz48_1 := ae HGz48 1; have hfz48_2 := ae HGz48 2; clear HGz48 hgz48))
 go_ret
 exact ⟨_, Z5, Z23, Z15, Z16, Z12⟩
end Go.Proofs.Ytendgafpkeadhaa.Q
end
section
namespace Go.Proofs.Ytendgafpkeadhaa.Q
open Go.RowKit Go.Proofs.YtendgafpkeadhaaW.PrintWords Go.Proofs.YtendgafpkeadhaaW.PrintLast Go.Proofs.YtendgafpkeadhaaW.PrintMore
attribute [local go_sem] ik ig gZ gY max2_int min2_int max_two min_two max_three min_three max_four min_four
set_option linter.unusedVariables false
set_option linter.unusedSimpArgs false
/-! ### bQ: function 84 -/
def bQ.f (F : Fam) (k : Nat) (s0_0 : List (S38)) (s0_1 : Int) (s0_2 : Bool) : Option ((List (S41)) × Int × Bool) := (aV.f s0_0 s0_1 s0_2).bind fun bt643 => (if bt643.1.toList = ([110, 105, 108] : List UInt8) then ((au.f s0_0 bt643.2.1 bt643.2.2 bt643.1).bind fun bt646 => ((aj.f k 18 0 (⟨#[]⟩ : ByteArray) 0 (⟨#[]⟩ : ByteArray) ([] : List (List (S41)))).bind fun t649 => (some (t649, bt646.2.1, bt646.2.2)))) else (if bt643.1.toList = ([115, 116, 97, 116, 101] : List UInt8) then ((au.f s0_0 bt643.2.1 bt643.2.2 bt643.1).bind fun bt652 => ((aj.f k 29 0 (⟨#[]⟩ : ByteArray) 0 (⟨#[]⟩ : ByteArray) ([] : List (List (S41)))).bind fun t655 => (some (t655, bt652.2.1, bt652.2.2)))) else (if bt643.1.toList = ([123] : List UInt8) then ((au.f s0_0 bt643.2.1 bt643.2.2 bt643.1).bind fun bt658 => ((ak.f s0_0 bt658.2.1 bt658.2.2 (⟨#[125]⟩ : ByteArray)).bind fun bt661 => ((aj.f k 25 0 (⟨#[]⟩ : ByteArray) 0 (⟨#[]⟩ : ByteArray) ([] : List (List (S41)))).bind fun t663 => (some (t663, bt661.1, bt661.2))))) else (if bt643.1.toList = ([102, 110] : List UInt8) then ((au.f s0_0 bt643.2.1 bt643.2.2 bt643.1).bind fun bt666 => ((aU.f F k s0_0 bt666.2.1 bt666.2.2 24 0 (⟨#[]⟩ : ByteArray) 0 (⟨#[]⟩ : ByteArray)).bind fun bt669 => (some (bt669.1, bt669.2.1, bt669.2.2)))) else (if bt643.1.toList = ([40] : List UInt8) then ((au.f s0_0 bt643.2.1 bt643.2.2 bt643.1).bind fun bt674 => ((dI.f F k s0_0 bt674.2.1 bt674.2.2).bind fun bt677 => ((ak.f s0_0 bt677.2.1 bt677.2.2 (⟨#[41]⟩ : ByteArray)).bind fun bt682 => (some (bt677.1, bt682.1, bt682.2))))) else ((bW.f F k s0_0 bt643.2.1 bt643.2.2).bind fun bt684 => (some (bt684.1, bt684.2.1, bt684.2.2))))))))
theorem bQ.mono {F F' : Fam} (HLE : iG F F') : ∀ a0 a1 a2 k, LeO (bQ.f F k a0 a1 a2) (bQ.f F' (k + 1) a0 a1 a2) := by
 intro a0 a1 a2 k
 unfold bQ.f
 repeat' first
  | (with_reducible exact aj.mono _ _ _ _ _ _ _)
  | (with_reducible exact aU.mono HLE _ _ _ _ _ _ _ _ _)
  | (with_reducible exact bW.mono HLE _ _ _ _)
  | (with_reducible exact dI.mono HLE _ _ _ _)
  | (with_reducible exact LeO.refl _)
  | (with_reducible exact LeO.none _)
  | (with_reducible refine LeO.ite ?_ ?_)
  | (with_reducible refine LeO.bind ?_ (fun _ => ?_))
  | exact aj.mono _ _ _ _ _ _ _
  | exact aU.mono HLE _ _ _ _ _ _ _ _ _
  | exact bW.mono HLE _ _ _ _
  | exact dI.mono HLE _ _ _ _
  | exact LeO.none _
  | refine LeO.ite ?_ ?_
  | refine LeO.bind ?_ (fun _ => ?_)
set_option maxHeartbeats 8000000 in
set_option maxRecDepth 100000 in
theorem bQ.calls (F : Fam) (HF : jL F) (k : Nat) (g : Nat) (s0_0 : List (S38)) (s0_1 : Int) (s0_2 : Bool) (r1 : List (S41)) (r2 : Int) (r3 : Bool) (w0 w : World) (hI : ah w0 w g s0_0 s0_1 s0_2) (hB : Below w0.heap.size w0 w) (h : bQ.f F k s0_0 s0_1 s0_2 = some (r1, r2, r3)) :
 Calls Try.prog 84 #[.pointer (some ⟨g, 0, none⟩)] w fun e w' => ∃ v0_ : Value, e = .returned (v0_) ∧ Kd.R k41 41 w' w.heap.size (fun _ => True) v0_ r1 ∧ ah w0 w' g s0_0 r2 r3 ∧ Below w0.heap.size w0 w' ∧ af w w' g none := by
 have hu41 := Try.underlying41
 have HI0 := Aside0.mk hI
 have HK := Aside0.mk (af.refl w g none)
 have HL := Aside0.mk hB.size
 clear hI
 have HW0 := Aside0.mk hB.size
 have HB := Aside0.mk hB
 clear hB
 have H : ((aV.f s0_0 s0_1 s0_2).bind fun bt643 => (if bt643.1.toList = ([110, 105, 108] : List UInt8) then ((au.f s0_0 bt643.2.1 bt643.2.2 bt643.1).bind fun bt646 => ((aj.f k 18 0 (⟨#[]⟩ : ByteArray) 0 (⟨#[]⟩ : ByteArray) ([] : List (List (S41)))).bind fun t649 => (some (t649, bt646.2.1, bt646.2.2)))) else (if bt643.1.toList = ([115, 116, 97, 116, 101] : List UInt8) then ((au.f s0_0 bt643.2.1 bt643.2.2 bt643.1).bind fun bt652 => ((aj.f k 29 0 (⟨#[]⟩ : ByteArray) 0 (⟨#[]⟩ : ByteArray) ([] : List (List (S41)))).bind fun t655 => (some (t655, bt652.2.1, bt652.2.2)))) else (if bt643.1.toList = ([123] : List UInt8) then ((au.f s0_0 bt643.2.1 bt643.2.2 bt643.1).bind fun bt658 => ((ak.f s0_0 bt658.2.1 bt658.2.2 (⟨#[125]⟩ : ByteArray)).bind fun bt661 => ((aj.f k 25 0 (⟨#[]⟩ : ByteArray) 0 (⟨#[]⟩ : ByteArray) ([] : List (List (S41)))).bind fun t663 => (some (t663, bt661.1, bt661.2))))) else (if bt643.1.toList = ([102, 110] : List UInt8) then ((au.f s0_0 bt643.2.1 bt643.2.2 bt643.1).bind fun bt666 => ((aU.f F k s0_0 bt666.2.1 bt666.2.2 24 0 (⟨#[]⟩ : ByteArray) 0 (⟨#[]⟩ : ByteArray)).bind fun bt669 => (some (bt669.1, bt669.2.1, bt669.2.2)))) else (if bt643.1.toList = ([40] : List UInt8) then ((au.f s0_0 bt643.2.1 bt643.2.2 bt643.1).bind fun bt674 => ((dI.f F k s0_0 bt674.2.1 bt674.2.2).bind fun bt677 => ((ak.f s0_0 bt677.2.1 bt677.2.2 (⟨#[41]⟩ : ByteArray)).bind fun bt682 => (some (bt677.1, bt682.1, bt682.2))))) else ((bW.f F k s0_0 bt643.2.1 bt643.2.2).bind fun bt684 => (some (bt684.1, bt684.2.1, bt684.2.2))))))))) = some (r1, r2, r3) := h
 clear h
 replace H := Option.bind_eq_some_iff.mp H
 obtain ⟨⟨t643, t644, t645⟩, A20, H⟩ := H
 try dsimp only at H
 have A2 := Aside0.mk A20
 clear A20
 by_cases c3 : t643.toList = ([110, 105, 108] : List UInt8)
 ·rw [if_pos c3] at H
  have c3b0 : (t643.toList == ([110, 105, 108] : List UInt8)) = true := beq_iff_eq.mpr c3
  have c3b1 : (t643.toList != ([110, 105, 108] : List UInt8)) = false := bne_eq_false_iff_eq.mpr c3
  clear c3
  replace H := Option.bind_eq_some_iff.mp H
  obtain ⟨⟨t646, t647, t648⟩, A40, H⟩ := H
  replace H : ((aj.f k 18 0 (⟨#[]⟩ : ByteArray) 0 (⟨#[]⟩ : ByteArray) ([] : List (List (S41)))).bind fun t649 => (some (t649, t647, t648))) = some (r1, r2, r3) := H
  have A4 := Aside0.mk A40
  clear A40
  replace H := Option.bind_eq_some_iff.mp H
  obtain ⟨t649, A50, H⟩ := H
  replace H : (some (t649, t647, t648)) = some (r1, r2, r3) := H
  have A5 := Aside0.mk A50
  clear A50
  simp only [Option.some.injEq, Prod.mk.injEq] at H
  obtain ⟨rfl, rfl, rfl⟩ := H
  go_enter Try.func84, Try.ntmps84
  go_wp2_with (first | ((with_reducible refine gate_callee (f := 71) rfl ?_); refine goesL_ (some 6) rfl rfl Try.func71 (by kernel_rfl) rfl #[.pointer (some ⟨g, 0, none⟩)] rfl Z3 ?_; (with_reducible refine (aV.calls g s0_0 s0_1 s0_2 t643 t644 t645 w0 _ ?side1 ?side2 A2.out).mono ?_); (case side1 => exact Z0); (case side2 => exact Z2); rintro e w6 ⟨rfl, hi, hb, hk⟩; refine ⟨_, rfl, ?_⟩; have n0_ := Aside0.mk (af.trans Z1 hk (.inl rfl)); have n1_ := Aside0.mk (hb); have n2_ := Aside0.mk (hi); clear HK; clear HB; clear HI0; have HK := n0_; have HB := n1_; have HI0 := n2_; clear n0_ n1_ n2_; (try clear hb)) | ((with_reducible refine gate_callee (f := 53) rfl ?_); refine goesL_ (some 12) rfl rfl Try.func53 (by kernel_rfl) rfl #[.pointer (some ⟨g, 0, none⟩), .string t643] rfl Z3 ?_; (with_reducible refine (au.calls g s0_0 t644 t645 t643 t646 t647 t648 w0 _ ?side1 ?side2 A4.out).mono ?_); (case side1 => exact Z0); (case side2 => exact Z2); rintro e w7 ⟨rfl, hi, hb, hk⟩; refine ⟨_, rfl, ?_⟩; have n0_ := Aside0.mk (af.trans Z1 hk (.inl rfl)); have n1_ := Aside0.mk (hb); have n2_ := Aside0.mk (hi); clear HK; clear HB; clear HI0; have HK := n0_; have HB := n1_; have HI0 := n2_; clear n0_ n1_ n2_; (try clear hb)) | ((with_reducible refine gate_callee (f := 56) rfl ?_); refine goesL_ (some 14) rfl rfl Try.func56 (by kernel_rfl) rfl #[.agg #[.int .i64 18, .int .i64 0, .string (⟨#[]⟩ : ByteArray), .int .i64 0, .string (⟨#[]⟩ : ByteArray)], .slice none 0 0] rfl Z3 ?_; (refine (aj.calls k 18 0 (⟨#[]⟩ : ByteArray) 0 (⟨#[]⟩ : ByteArray) _ _ ([] : List (List (S41))) t649 _ ?side1 ?side2 A5.out).mono ?_); (case side1 => exact Kd.mP _ _); (case side2 => exact Nat.le_refl _); rintro e w8 ⟨v650, rfl, ho0, hb⟩; refine ⟨_, rfl, ?_⟩; have n0_ := Aside0.mk (Kd.R_lower ho0 (aH (w := w) (g := g) (row := none) Z1)); have n1_ := Aside0.mk (ah.below Z0 hb); have n2_ := Aside0.mk (af.trans Z1 (af.of_below hb g none) (.inl rfl)); have n3_ := Aside0.mk (below_step Z2 hb); clear HI0; clear HK; clear HB; have HO651 := n0_; have HI0 := n1_; have HK := n2_; have HB := n3_; clear n0_ n1_ n2_ n3_; (try clear hb); (try clear ho0)))
  go_ret
  exact ⟨_, Z5, by (with_reducible repeat (first | apply Kd.R_alloc | apply Kd.R_drewN | apply Kd.R_drew)); exact HO651.out, Z0, Z2, Z1⟩
 rw [if_neg c3] at H
 have c3b0 : (t643.toList == ([110, 105, 108] : List UInt8)) = false := beq_eq_false_iff_ne.mpr c3
 have c3b1 : (t643.toList != ([110, 105, 108] : List UInt8)) = true := bne_iff_ne.mpr c3
 by_cases c9 : t643.toList = ([115, 116, 97, 116, 101] : List UInt8)
 ·rw [if_pos c9] at H
  have c9b0 : (t643.toList == ([115, 116, 97, 116, 101] : List UInt8)) = true := beq_iff_eq.mpr c9
  have c9b1 : (t643.toList != ([115, 116, 97, 116, 101] : List UInt8)) = false := bne_eq_false_iff_eq.mpr c9
  clear c9
  replace H := Option.bind_eq_some_iff.mp H
  obtain ⟨⟨t652, t653, t654⟩, A100, H⟩ := H
  replace H : ((aj.f k 29 0 (⟨#[]⟩ : ByteArray) 0 (⟨#[]⟩ : ByteArray) ([] : List (List (S41)))).bind fun t655 => (some (t655, t653, t654))) = some (r1, r2, r3) := H
  have A10 := Aside0.mk A100
  clear A100
  replace H := Option.bind_eq_some_iff.mp H
  obtain ⟨t655, A110, H⟩ := H
  replace H : (some (t655, t653, t654)) = some (r1, r2, r3) := H
  have A11 := Aside0.mk A110
  clear A110
  simp only [Option.some.injEq, Prod.mk.injEq] at H
  obtain ⟨rfl, rfl, rfl⟩ := H
  go_enter Try.func84, Try.ntmps84
  go_wp2_with (first | ((with_reducible refine gate_callee (f := 71) rfl ?_); refine goesL_ (some 6) rfl rfl Try.func71 (by kernel_rfl) rfl #[.pointer (some ⟨g, 0, none⟩)] rfl Z3 ?_; (with_reducible refine (aV.calls g s0_0 s0_1 s0_2 t643 t644 t645 w0 _ ?side1 ?side2 A2.out).mono ?_); (case side1 => exact Z0); (case side2 => exact Z2); rintro e w12 ⟨rfl, hi, hb, hk⟩; refine ⟨_, rfl, ?_⟩; have n0_ := Aside0.mk (af.trans Z1 hk (.inl rfl)); have n1_ := Aside0.mk (hb); have n2_ := Aside0.mk (hi); clear HK; clear HB; clear HI0; have HK := n0_; have HB := n1_; have HI0 := n2_; clear n0_ n1_ n2_; (try clear hb)) | ((with_reducible refine gate_callee (f := 53) rfl ?_); refine goesL_ (some 19) rfl rfl Try.func53 (by kernel_rfl) rfl #[.pointer (some ⟨g, 0, none⟩), .string t643] rfl Z3 ?_; (with_reducible refine (au.calls g s0_0 t644 t645 t643 t652 t653 t654 w0 _ ?side1 ?side2 A10.out).mono ?_); (case side1 => exact Z0); (case side2 => exact Z2); rintro e w13 ⟨rfl, hi, hb, hk⟩; refine ⟨_, rfl, ?_⟩; have n0_ := Aside0.mk (af.trans Z1 hk (.inl rfl)); have n1_ := Aside0.mk (hb); have n2_ := Aside0.mk (hi); clear HK; clear HB; clear HI0; have HK := n0_; have HB := n1_; have HI0 := n2_; clear n0_ n1_ n2_; (try clear hb)) | ((with_reducible refine gate_callee (f := 56) rfl ?_); refine goesL_ (some 21) rfl rfl Try.func56 (by kernel_rfl) rfl #[.agg #[.int .i64 29, .int .i64 0, .string (⟨#[]⟩ : ByteArray), .int .i64 0, .string (⟨#[]⟩ : ByteArray)], .slice none 0 0] rfl Z3 ?_; (refine (aj.calls k 29 0 (⟨#[]⟩ : ByteArray) 0 (⟨#[]⟩ : ByteArray) _ _ ([] : List (List (S41))) t655 _ ?side1 ?side2 A11.out).mono ?_); (case side1 => exact Kd.mP _ _); (case side2 => exact Nat.le_refl _); rintro e w14 ⟨v656, rfl, ho0, hb⟩; refine ⟨_, rfl, ?_⟩; have n0_ := Aside0.mk (Kd.R_lower ho0 (aH (w := w) (g := g) (row := none) Z1)); have n1_ := Aside0.mk (ah.below Z0 hb); have n2_ := Aside0.mk (af.trans Z1 (af.of_below hb g none) (.inl rfl)); have n3_ := Aside0.mk (below_step Z2 hb); clear HI0; clear HK; clear HB; have HO657 := n0_; have HI0 := n1_; have HK := n2_; have HB := n3_; clear n0_ n1_ n2_ n3_; (try clear hb); (try clear ho0)))
  go_ret
  exact ⟨_, Z5, by (with_reducible repeat (first | apply Kd.R_alloc | apply Kd.R_drewN | apply Kd.R_drew)); exact HO657.out, Z0, Z2, Z1⟩
 rw [if_neg c9] at H
 have c9b0 : (t643.toList == ([115, 116, 97, 116, 101] : List UInt8)) = false := beq_eq_false_iff_ne.mpr c9
 have c9b1 : (t643.toList != ([115, 116, 97, 116, 101] : List UInt8)) = true := bne_iff_ne.mpr c9
 by_cases c15 : t643.toList = ([123] : List UInt8)
 ·rw [if_pos c15] at H
  have c15b0 : (t643.toList == ([123] : List UInt8)) = true := beq_iff_eq.mpr c15
  have c15b1 : (t643.toList != ([123] : List UInt8)) = false := bne_eq_false_iff_eq.mpr c15
  clear c15
  replace H := Option.bind_eq_some_iff.mp H
  obtain ⟨⟨t658, t659, t660⟩, A160, H⟩ := H
  try dsimp only at H
  have A16 := Aside0.mk A160
  clear A160
  replace H := Option.bind_eq_some_iff.mp H
  obtain ⟨⟨t661, t662⟩, A170, H⟩ := H
  replace H : ((aj.f k 25 0 (⟨#[]⟩ : ByteArray) 0 (⟨#[]⟩ : ByteArray) ([] : List (List (S41)))).bind fun t663 => (some (t663, t661, t662))) = some (r1, r2, r3) := H
  have A17 := Aside0.mk A170
  clear A170
  replace H := Option.bind_eq_some_iff.mp H
  obtain ⟨t663, A180, H⟩ := H
  replace H : (some (t663, t661, t662)) = some (r1, r2, r3) := H
  have A18 := Aside0.mk A180
  clear A180
  simp only [Option.some.injEq, Prod.mk.injEq] at H
  obtain ⟨rfl, rfl, rfl⟩ := H
  go_enter Try.func84, Try.ntmps84
  go_wp2_with (first | ((with_reducible refine gate_callee (f := 71) rfl ?_); refine goesL_ (some 6) rfl rfl Try.func71 (by kernel_rfl) rfl #[.pointer (some ⟨g, 0, none⟩)] rfl Z3 ?_; (with_reducible refine (aV.calls g s0_0 s0_1 s0_2 t643 t644 t645 w0 _ ?side1 ?side2 A2.out).mono ?_); (case side1 => exact Z0); (case side2 => exact Z2); rintro e w19 ⟨rfl, hi, hb, hk⟩; refine ⟨_, rfl, ?_⟩; have n0_ := Aside0.mk (af.trans Z1 hk (.inl rfl)); have n1_ := Aside0.mk (hb); have n2_ := Aside0.mk (hi); clear HK; clear HB; clear HI0; have HK := n0_; have HB := n1_; have HI0 := n2_; clear n0_ n1_ n2_; (try clear hb)) | ((with_reducible refine gate_callee (f := 53) rfl ?_); refine goesL_ (some 26) rfl rfl Try.func53 (by kernel_rfl) rfl #[.pointer (some ⟨g, 0, none⟩), .string t643] rfl Z3 ?_; (with_reducible refine (au.calls g s0_0 t644 t645 t643 t658 t659 t660 w0 _ ?side1 ?side2 A16.out).mono ?_); (case side1 => exact Z0); (case side2 => exact Z2); rintro e w20 ⟨rfl, hi, hb, hk⟩; refine ⟨_, rfl, ?_⟩; have n0_ := Aside0.mk (af.trans Z1 hk (.inl rfl)); have n1_ := Aside0.mk (hb); have n2_ := Aside0.mk (hi); clear HK; clear HB; clear HI0; have HK := n0_; have HB := n1_; have HI0 := n2_; clear n0_ n1_ n2_; (try clear hb)) | ((with_reducible refine gate_callee (f := 51) rfl ?_); refine goesL_ (some 28) rfl rfl Try.func51 (by kernel_rfl) rfl #[.pointer (some ⟨g, 0, none⟩), .string (⟨#[125]⟩ : ByteArray)] rfl Z3 ?_; (with_reducible refine (ak.calls g s0_0 t659 t660 (⟨#[125]⟩ : ByteArray) t661 t662 w0 _ ?side1 ?side2 A17.out).mono ?_); (case side1 => exact Z0); (case side2 => exact Z2); rintro e w21 ⟨rfl, hi, hb, hk⟩; refine ⟨_, rfl, ?_⟩; have n0_ := Aside0.mk (af.trans Z1 hk (.inl rfl)); have n1_ := Aside0.mk (hb); have n2_ := Aside0.mk (hi); clear HK; clear HB; clear HI0; have HK := n0_; have HB := n1_; have HI0 := n2_; clear n0_ n1_ n2_; (try clear hb)) | ((with_reducible refine gate_callee (f := 56) rfl ?_); refine goesL_ (some 30) rfl rfl Try.func56 (by kernel_rfl) rfl #[.agg #[.int .i64 25, .int .i64 0, .string (⟨#[]⟩ : ByteArray), .int .i64 0, .string (⟨#[]⟩ : ByteArray)], .slice none 0 0] rfl Z3 ?_; (refine (aj.calls k 25 0 (⟨#[]⟩ : ByteArray) 0 (⟨#[]⟩ : ByteArray) _ _ ([] : List (List (S41))) t663 _ ?side1 ?side2 A18.out).mono ?_); (case side1 => exact Kd.mP _ _); (case side2 => exact Nat.le_refl _); rintro e w22 ⟨v664, rfl, ho0, hb⟩; refine ⟨_, rfl, ?_⟩; have n0_ := Aside0.mk (Kd.R_lower ho0 (aH (w := w) (g := g) (row := none) Z1)); have n1_ := Aside0.mk (ah.below Z0 hb); have n2_ := Aside0.mk (af.trans Z1 (af.of_below hb g none) (.inl rfl)); have n3_ := Aside0.mk (below_step Z2 hb); clear HI0; clear HK; clear HB; have HO665 := n0_; have HI0 := n1_; have HK := n2_; have HB := n3_; clear n0_ n1_ n2_ n3_; (try clear hb); (try clear ho0)))
  go_ret
  exact ⟨_, Z5, by (with_reducible repeat (first | apply Kd.R_alloc | apply Kd.R_drewN | apply Kd.R_drew)); exact HO665.out, Z0, Z2, Z1⟩
 rw [if_neg c15] at H
 have c15b0 : (t643.toList == ([123] : List UInt8)) = false := beq_eq_false_iff_ne.mpr c15
 have c15b1 : (t643.toList != ([123] : List UInt8)) = true := bne_iff_ne.mpr c15
 by_cases c23 : t643.toList = ([102, 110] : List UInt8)
 ·rw [if_pos c23] at H
  have c23b0 : (t643.toList == ([102, 110] : List UInt8)) = true := beq_iff_eq.mpr c23
  have c23b1 : (t643.toList != ([102, 110] : List UInt8)) = false := bne_eq_false_iff_eq.mpr c23
  clear c23
  replace H := Option.bind_eq_some_iff.mp H
  obtain ⟨⟨t666, t667, t668⟩, A240, H⟩ := H
  try dsimp only at H
  have A24 := Aside0.mk A240
  clear A240
  replace H := Option.bind_eq_some_iff.mp H
  obtain ⟨⟨t669, t672, t673⟩, A250, H⟩ := H
  replace H : (some (t669, t672, t673)) = some (r1, r2, r3) := H
  have A25 := Aside0.mk A250
  clear A250
  simp only [Option.some.injEq, Prod.mk.injEq] at H
  obtain ⟨rfl, rfl, rfl⟩ := H
  go_enter Try.func84, Try.ntmps84
  go_wp2_with (first | ((with_reducible refine gate_callee (f := 71) rfl ?_); refine goesL_ (some 6) rfl rfl Try.func71 (by kernel_rfl) rfl #[.pointer (some ⟨g, 0, none⟩)] rfl Z3 ?_; (with_reducible refine (aV.calls g s0_0 s0_1 s0_2 t643 t644 t645 w0 _ ?side1 ?side2 A2.out).mono ?_); (case side1 => exact Z0); (case side2 => exact Z2); rintro e w26 ⟨rfl, hi, hb, hk⟩; refine ⟨_, rfl, ?_⟩; have n0_ := Aside0.mk (af.trans Z1 hk (.inl rfl)); have n1_ := Aside0.mk (hb); have n2_ := Aside0.mk (hi); clear HK; clear HB; clear HI0; have HK := n0_; have HB := n1_; have HI0 := n2_; clear n0_ n1_ n2_; (try clear hb)) | ((with_reducible refine gate_callee (f := 53) rfl ?_); refine goesL_ (some 35) rfl rfl Try.func53 (by kernel_rfl) rfl #[.pointer (some ⟨g, 0, none⟩), .string t643] rfl Z3 ?_; (with_reducible refine (au.calls g s0_0 t644 t645 t643 t666 t667 t668 w0 _ ?side1 ?side2 A24.out).mono ?_); (case side1 => exact Z0); (case side2 => exact Z2); rintro e w27 ⟨rfl, hi, hb, hk⟩; refine ⟨_, rfl, ?_⟩; have n0_ := Aside0.mk (af.trans Z1 hk (.inl rfl)); have n1_ := Aside0.mk (hb); have n2_ := Aside0.mk (hi); clear HK; clear HB; clear HI0; have HK := n0_; have HB := n1_; have HI0 := n2_; clear n0_ n1_ n2_; (try clear hb)) | ((with_reducible refine gate_callee (f := 55) rfl ?_); refine goesL_ (some 38) rfl rfl Try.func55 (by kernel_rfl) rfl #[.pointer (some ⟨g, 0, none⟩), .agg #[.int .i64 24, .int .i64 0, .string (⟨#[]⟩ : ByteArray), .int .i64 0, .string (⟨#[]⟩ : ByteArray)]] rfl Z3 ?_; (with_reducible refine (aU.calls F HF k g s0_0 t667 t668 24 0 (⟨#[]⟩ : ByteArray) 0 (⟨#[]⟩ : ByteArray) t669 t672 t673 w0 _ ?side1 ?side2 A25.out).mono ?_); (case side1 => exact Z0); (case side2 => exact Z2); rintro e w28 ⟨v670, rfl, ho0, hi, hb, hk⟩; refine ⟨_, rfl, ?_⟩; have n0_ := Aside0.mk (Kd.R_lower ho0 (aH (w := w) (g := g) (row := none) Z1)); have n1_ := Aside0.mk (af.trans Z1 hk (.inl rfl)); have n2_ := Aside0.mk (hb); have n3_ := Aside0.mk (hi); clear HK; clear HB; clear HI0; have HO671 := n0_; have HK := n1_; have HB := n2_; have HI0 := n3_; clear n0_ n1_ n2_ n3_; (try clear hb); (try clear ho0)))
  go_ret
  exact ⟨_, Z5, by (with_reducible repeat (first | apply Kd.R_alloc | apply Kd.R_drewN | apply Kd.R_drew)); exact HO671.out, Z0, Z2, Z1⟩
 rw [if_neg c23] at H
 have c23b0 : (t643.toList == ([102, 110] : List UInt8)) = false := beq_eq_false_iff_ne.mpr c23
 have c23b1 : (t643.toList != ([102, 110] : List UInt8)) = true := bne_iff_ne.mpr c23
 by_cases c29 : t643.toList = ([40] : List UInt8)
 ·rw [if_pos c29] at H
  have c29b0 : (t643.toList == ([40] : List UInt8)) = true := beq_iff_eq.mpr c29
  have c29b1 : (t643.toList != ([40] : List UInt8)) = false := bne_eq_false_iff_eq.mpr c29
  clear c29
  replace H := Option.bind_eq_some_iff.mp H
  obtain ⟨⟨t674, t675, t676⟩, A300, H⟩ := H
  try dsimp only at H
  have A30 := Aside0.mk A300
  clear A300
  replace H := Option.bind_eq_some_iff.mp H
  obtain ⟨⟨t677, t680, t681⟩, A310, H⟩ := H
  replace H : ((ak.f s0_0 t680 t681 (⟨#[41]⟩ : ByteArray)).bind fun bt682 => (some (t677, bt682.1, bt682.2))) = some (r1, r2, r3) := H
  have A31 := Aside0.mk A310
  clear A310
  replace H := Option.bind_eq_some_iff.mp H
  obtain ⟨⟨t682, t683⟩, A320, H⟩ := H
  replace H : (some (t677, t682, t683)) = some (r1, r2, r3) := H
  have A32 := Aside0.mk A320
  clear A320
  simp only [Option.some.injEq, Prod.mk.injEq] at H
  obtain ⟨rfl, rfl, rfl⟩ := H
  go_enter Try.func84, Try.ntmps84
  go_wp2_with (first | ((with_reducible refine gate_callee (f := 71) rfl ?_); refine goesL_ (some 6) rfl rfl Try.func71 (by kernel_rfl) rfl #[.pointer (some ⟨g, 0, none⟩)] rfl Z3 ?_; (with_reducible refine (aV.calls g s0_0 s0_1 s0_2 t643 t644 t645 w0 _ ?side1 ?side2 A2.out).mono ?_); (case side1 => exact Z0); (case side2 => exact Z2); rintro e w33 ⟨rfl, hi, hb, hk⟩; refine ⟨_, rfl, ?_⟩; have n0_ := Aside0.mk (af.trans Z1 hk (.inl rfl)); have n1_ := Aside0.mk (hb); have n2_ := Aside0.mk (hi); clear HK; clear HB; clear HI0; have HK := n0_; have HB := n1_; have HI0 := n2_; clear n0_ n1_ n2_; (try clear hb)) | ((with_reducible refine gate_callee (f := 53) rfl ?_); refine goesL_ (some 43) rfl rfl Try.func53 (by kernel_rfl) rfl #[.pointer (some ⟨g, 0, none⟩), .string t643] rfl Z3 ?_; (with_reducible refine (au.calls g s0_0 t644 t645 t643 t674 t675 t676 w0 _ ?side1 ?side2 A30.out).mono ?_); (case side1 => exact Z0); (case side2 => exact Z2); rintro e w34 ⟨rfl, hi, hb, hk⟩; refine ⟨_, rfl, ?_⟩; have n0_ := Aside0.mk (af.trans Z1 hk (.inl rfl)); have n1_ := Aside0.mk (hb); have n2_ := Aside0.mk (hi); clear HK; clear HB; clear HI0; have HK := n0_; have HB := n1_; have HI0 := n2_; clear n0_ n1_ n2_; (try clear hb)) | ((with_reducible refine gate_callee (f := 77) rfl ?_); refine goesL_ (some 45) rfl rfl Try.func77 (by kernel_rfl) rfl #[.pointer (some ⟨g, 0, none⟩)] rfl Z3 ?_; (with_reducible refine (dI.calls F HF k g s0_0 t675 t676 t677 t680 t681 w0 _ ?side1 ?side2 A31.out).mono ?_); (case side1 => exact Z0); (case side2 => exact Z2); rintro e w35 ⟨v678, rfl, ho0, hi, hb, hk⟩; refine ⟨_, rfl, ?_⟩; have n0_ := Aside0.mk (Kd.R_lower ho0 (aH (w := w) (g := g) (row := none) Z1)); have n1_ := Aside0.mk (af.trans Z1 hk (.inl rfl)); have n2_ := Aside0.mk (hb); have n3_ := Aside0.mk (hi); clear HK; clear HB; clear HI0; have HO679 := n0_; have HK := n1_; have HB := n2_; have HI0 := n3_; clear n0_ n1_ n2_ n3_; (try clear hb); (try clear ho0)) | ((with_reducible refine gate_callee (f := 51) rfl ?_); refine goesL_ (some 47) rfl rfl Try.func51 (by kernel_rfl) rfl #[.pointer (some ⟨g, 0, none⟩), .string (⟨#[41]⟩ : ByteArray)] rfl Z3 ?_; (with_reducible refine (ak.calls g s0_0 t680 t681 (⟨#[41]⟩ : ByteArray) t682 t683 w0 _ ?side1 ?side2 A32.out).mono ?_); (case side1 => exact Z0); (case side2 => exact Z2); rintro e w36 ⟨rfl, hi, hb, hk⟩; refine ⟨_, rfl, ?_⟩; have n0_ := Aside0.mk (Kd.bi (Kd.gz (ah.apart (show ah w0 _ g s0_0 t680 t681 from Z0) (by (with_reducible repeat (first | apply Kd.R_alloc | apply Kd.R_drewN | apply Kd.R_drew)); exact HO679.out) (by decide)) hk (fun _ h => h.2)) (fun _ h => h.1)); have n1_ := Aside0.mk (af.trans Z1 hk (.inl rfl)); have n2_ := Aside0.mk (hb); have n3_ := Aside0.mk (hi); clear HO679; clear HK; clear HB; clear HI0; have HO679 := n0_; have HK := n1_; have HB := n2_; have HI0 := n3_; clear n0_ n1_ n2_ n3_; (try clear hb)))
  go_ret
  exact ⟨_, Z5, by (with_reducible repeat (first | apply Kd.R_alloc | apply Kd.R_drewN | apply Kd.R_drew)); exact HO679.out, Z0, Z2, Z1⟩
 rw [if_neg c29] at H
 have c29b0 : (t643.toList == ([40] : List UInt8)) = false := beq_eq_false_iff_ne.mpr c29
 have c29b1 : (t643.toList != ([40] : List UInt8)) = true := bne_iff_ne.mpr c29
 replace H := Option.bind_eq_some_iff.mp H
 obtain ⟨⟨t684, t687, t688⟩, A370, H⟩ := H
 replace H : (some (t684, t687, t688)) = some (r1, r2, r3) := H
 have A37 := Aside0.mk A370
 clear A370
 simp only [Option.some.injEq, Prod.mk.injEq] at H
 obtain ⟨rfl, rfl, rfl⟩ := H
 go_enter Try.func84, Try.ntmps84
 go_wp2_with (first | ((with_reducible refine gate_callee (f := 71) rfl ?_); refine goesL_ (some 6) rfl rfl Try.func71 (by kernel_rfl) rfl #[.pointer (some ⟨g, 0, none⟩)] rfl Z3 ?_; (with_reducible refine (aV.calls g s0_0 s0_1 s0_2 t643 t644 t645 w0 _ ?side1 ?side2 A2.out).mono ?_); (case side1 => exact Z0); (case side2 => exact Z2); rintro e w38 ⟨rfl, hi, hb, hk⟩; refine ⟨_, rfl, ?_⟩; have n0_ := Aside0.mk (af.trans Z1 hk (.inl rfl)); have n1_ := Aside0.mk (hb); have n2_ := Aside0.mk (hi); clear HK; clear HB; clear HI0; have HK := n0_; have HB := n1_; have HI0 := n2_; clear n0_ n1_ n2_; (try clear hb)) | ((with_reducible refine gate_callee (f := 85) rfl ?_); refine goesL_ (some 50) rfl rfl Try.func85 (by kernel_rfl) rfl #[.pointer (some ⟨g, 0, none⟩)] rfl Z3 ?_; (with_reducible refine (bW.calls F HF k g s0_0 t644 t645 t684 t687 t688 w0 _ ?side1 ?side2 A37.out).mono ?_); (case side1 => exact Z0); (case side2 => exact Z2); rintro e w39 ⟨v685, rfl, ho0, hi, hb, hk⟩; refine ⟨_, rfl, ?_⟩; have n0_ := Aside0.mk (Kd.R_lower ho0 (aH (w := w) (g := g) (row := none) Z1)); have n1_ := Aside0.mk (af.trans Z1 hk (.inl rfl)); have n2_ := Aside0.mk (hb); have n3_ := Aside0.mk (hi); clear HK; clear HB; clear HI0; have HO686 := n0_; have HK := n1_; have HB := n2_; have HI0 := n3_; clear n0_ n1_ n2_ n3_; (try clear hb); (try clear ho0)))
 go_ret
 exact ⟨_, Z5, by (with_reducible repeat (first | apply Kd.R_alloc | apply Kd.R_drewN | apply Kd.R_drew)); exact HO686.out, Z0, Z2, Z1⟩
-- BY HAND: function 89 (runtime_errorString_RuntimeError)
end Go.Proofs.Ytendgafpkeadhaa.Q
end
