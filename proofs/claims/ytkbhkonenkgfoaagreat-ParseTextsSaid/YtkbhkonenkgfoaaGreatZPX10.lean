/- Walks over functions of the program, words for them, and what the functions come to; of each text only what this claim uses; no condition. -/
import Derived.Test.YtkbhkonenkgfoaaGreatZPX0
import Derived.Test.YtkbhkonenkgfoaaGreatZPX1
import Derived.Test.YtkbhkonenkgfoaaGreatZPX3
import Derived.Test.YtkbhkonenkgfoaaGreatZPX4
import Derived.Test.YtkbhkonenkgfoaaGreatZPX9
import Derived.StillTailTactics
section
set_option linter.unusedVariables false
set_option linter.unusedSimpArgs false
namespace Go.Proofs.YtkbhkonenkgfoaaGreat.Q
open Go.RowKit Go.Proofs.YtkbhkonenkgfoaaGreatW.PrintWords Go.Proofs.YtkbhkonenkgfoaaGreatW.PrintLast Go.Proofs.YtkbhkonenkgfoaaGreatW.PrintMore
theorem BH {P : Program} {id : Nat} {Q : Exit → Act → World → Prop} {a : Act} {w : World} {l : List Oper} (n : Nat) (hm : P.follows .mixedOrders = true) (hB : Region.lexTailB .any l.toArray n = true)
 (h : ∀ w1, w1 = w.drew → wpStill P l.toArray w1 (fun a' => wpList P l.toArray Q (l.drop n) a' w1) (l.take n) a) : (Code.region id l.toArray true).wp P Q a w := wp_region_still_tail n hm hB (h _ rfl)
def jT.f (s0 : List S37) (s1 : Int) (s2 : Bool) (a1 : Int) : Option (Int × ByteArray × Int × Int × Int × Bool) :=
 if s2 = true then some (0, (⟨#[]⟩ : ByteArray), 0, 0, s1, true) else if s1 ≥ (s0.length : Int) then some (0, (⟨#[]⟩ : ByteArray), 0, 0, s1, true)
 else if 0 ≤ s1 then (if (fF s0 s1).f0 = a1 then (if s1 < 9223372036854775807 then some ((fF s0 s1).f0, (fF s0 s1).f1, (fF s0 s1).f2, (fF s0 s1).f3, s1 + 1, s2) else none) else some (0, (⟨#[]⟩ : ByteArray), 0, 0, s1, true)) else none
set_option maxHeartbeats 8000000 in
set_option maxRecDepth 100000 in
theorem jT.calls (g : Nat) (s0_0 : List S37) (s0_1 : Int) (s0_2 : Bool) (a1 : Int) (r1 : Int) (r2 : ByteArray) (r3 : Int) (r4 : Int) (r5 : Int) (r6 : Bool) (w0 w : World) (hI : gz w0 w g s0_0 s0_1 s0_2) (hB : Below w0.heap.size w0 w) (h : jT.f s0_0 s0_1 s0_2 a1 = some (r1, r2, r3, r4, r5, r6)) :
 Calls Tryz.prog 35 #[.pointer (some ⟨g, 0, none⟩), .int .i64 a1] w fun e w' => e = .returned (.agg #[.int .i64 r1, .string r2, .int .i64 r3, .int .i64 r4]) ∧ gz w0 w' g s0_0 r5 r6 ∧ Below w0.heap.size w0 w' ∧ cO w w' g none := by
 have HI0 := ae.mk hI
 have HB := ae.mk hB
 clear hI hB
 unfold jT.f at h
 have HQ := ae.mk h
 clear h
 go_enter Tryz.func35, Tryz.ntmps35
 go_upto_region 1 with (first | ((with_reducible refine bH (N := 4) rfl ?_); refine gp ?hg (N := 4) ?hd (cs := #[.int .i64 0, .string (⟨#[]⟩ : ByteArray), .int .i64 0, .int .i64 0]) (t := 37) ?hr ?_; (case hd => rfl); (case hg => rfl); (case hr => first | (go_simp; done) | (go_simp; rfl)); intro gb hg w1 hbox hb; have HI1 := ae.mk (HI0.out.below hb); have HB1 := ae.mk (aY HB.out hb); have HK1 := ae.mk (cO.of_below hb g none); have BX := ae.mk hbox; have GB := ae.mk (show w.heap.size ≤ gb by rw [hg]; exact Nat.le_refl _); have GW := ae.mk (show w0.heap.size ≤ gb by rw [hg]; exact HB.out.size); have GN := ae.mk (show gb ≠ g by rw [hg]; exact HI0.out.fresh _ (Nat.le_refl _)); clear hbox hb hg))
 (try simp only [Act.put, List.setIfInBounds_toArray, List.set_cons_zero, List.set_cons_succ])
 obtain ⟨ASz, cSz, HGz, hgz, HSz⟩ := HI1.out
 have hfz1 := ag HGz 1
 have hfz2 := ag HGz 2
 have hcz0 := ni HGz
 have hcz1 := ng HGz
 have hcz2 := nY HGz
 clear HGz hgz
 have hcb0 : w1.cell? ⟨gb, 0, none⟩ = some (.int .i64 0) := (aj BX.out 0).trans rfl
 have hcb1 : w1.cell? ⟨gb, 1, none⟩ = some (.string (⟨#[]⟩ : ByteArray)) := (aj BX.out 1).trans rfl
 have hcb2 : w1.cell? ⟨gb, 2, none⟩ = some (.int .i64 0) := (aj BX.out 2).trans rfl
 have hcb3 : w1.cell? ⟨gb, 3, none⟩ = some (.int .i64 0) := (aj BX.out 3).trans rfl
 have hfb0 := ag BX.out 0
 have hfb1 := ag BX.out 1
 have hfb2 := ag BX.out 2
 have hfb3 := ag BX.out 3
 have hnb := GN.out
 have hnc := Ne.symm GN.out
 have h := HQ.out
 clear HQ
 by_cases c1 : s0_2 = true
 ·rw [if_pos c1] at h
  subst c1
  cases h
  go_quiet (fail)
  go_wp2
  refine bodyPost_ret (results_cell_row rfl _ _ gb 37 #[.int .i64 0, .string (⟨#[]⟩ : ByteArray), .int .i64 0, .int .i64 0] (0, 0) _ rfl Z2 Tryz.underlying37 rfl (by kernel_rfl)) rfl ?_
  exact ⟨rfl, Z20, Z23, Z24⟩
 have c1' : s0_2 = false := Bool.eq_false_iff.2 c1
 rw [if_neg c1] at h
 subst c1'
 clear c1
 by_cases c2 : s0_1 ≥ (s0_0.length : Int)
 ·rw [if_pos c2] at h
  cases h
  have c2b : decide ((s0_0.length : Int) ≤ s0_1) = true := decide_eq_true c2
  go_quiet (fail)
  go_wp2
  refine bodyPost_ret (results_cell_row rfl _ _ gb 37 #[.int .i64 0, .string (⟨#[]⟩ : ByteArray), .int .i64 0, .int .i64 0] (0, 0) _ rfl Z2 Tryz.underlying37 rfl (by kernel_rfl)) rfl ?_
  exact ⟨rfl, Z20, Z23, Z24⟩
 rw [if_neg c2] at h
 have c2b : decide ((s0_0.length : Int) ≤ s0_1) = false := decide_eq_false c2
 by_cases c3 : 0 ≤ s0_1
 ·rw [if_pos c3] at h
  obtain ⟨ad, ead, hx0, hx1, hx2, hx3⟩ := lM HSz s0_1 c3 (by omega)
  cases ead
  replace hx0 := bI HB1.out hx0
  replace hx1 := bI HB1.out hx1
  replace hx2 := bI HB1.out hx2
  replace hx3 := bI HB1.out hx3
  have p3 := eq_true c3
  have q3 := eq_true (show s0_1 < (s0_0.length : Int) by omega)
  clear c2 c3
  by_cases c4 : (fF s0_0 s0_1).f0 = a1
  ·rw [if_pos c4] at h
   have c4b : ((fF s0_0 s0_1).f0 == a1) = true := beq_iff_eq.mpr c4
   have c4n : ((fF s0_0 s0_1).f0 != a1) = false := bne_eq_false_iff_eq.mpr c4
   by_cases c5 : s0_1 < 9223372036854775807
   ·rw [if_pos c5] at h
    cases h
    have e0 : wrap64 (s0_1 + 1) = s0_1 + 1 := by have := of_eq_true p3; unfold wrap64; omega
    have e1 : IntKind.i64.wrap s0_1 = s0_1 := by have := of_eq_true p3; rw [gX]; unfold wrap64; omega
    clear c5 c4
    go_quiet (fail)
    go_wp2
    simp only [e0]
    have BY := ae.mk (jC (g := gb) (p := ⟨g, 1, none⟩) (jd BX.out nq) hnb (.int .i64 (s0_1 + 1)))
    have HI2 := ae.mk ((HI1.out.drewN nq).uS (s0_1 + 1))
    have HB2 := ae.mk (iZ (g := g) (j := 1) (v := .int .i64 (s0_1 + 1)) (gQ HB1.out nq) HI1.out.ge)
    have HK2 := ae.mk ((o7 HK1.out nq).BJ 1 (.int .i64 (s0_1 + 1)))
    generalize (w1.drewN nq).setCell ⟨g, 1, none⟩ (.int .i64 (s0_1 + 1)) = w5 at BY HI2 HB2 HK2 ⊢
    refine BH 11 (by kernel_rfl) (by kernel_rfl) ?_
    intro w2 e2
    replace BY := ae.mk (show w2.heap[gb]? = some (.cells #[.int .i64 0, .string (⟨#[]⟩ : ByteArray), .int .i64 0, .int .i64 0] 37 (0, 0)) from by subst e2; exact jk BY.out)
    replace HI2 := ae.mk (show gz w0 w2 g s0_0 (s0_1 + 1) false from by subst e2; exact HI2.out.drew)
    replace HB2 := ae.mk (show Below w0.heap.size w0 w2 from by subst e2; exact HB2.out.drew)
    replace HK2 := ae.mk (show cO w w2 g none from by subst e2; exact rq HK2.out)
    clear e2
    clear hcz0 hcz1 hcz2 hfz1 hfz2 hcb0 hcb1 hcb2 hcb3 hfb0 hfb1 hfb2 hfb3 hx0 hx1 hx2 hx3
    obtain ⟨AS2, cS2, HG2, hg2, HS2⟩ := HI2.out
    have hcz0 := ni HG2
    have hcz1 := ng HG2
    obtain ⟨ad2, ead2, hx0, hx1, hx2, hx3⟩ := lM HS2 s0_1 (of_eq_true p3) (of_eq_true q3)
    cases ead2
    replace hx0 := bI HB2.out hx0
    replace hx1 := bI HB2.out hx1
    replace hx2 := bI HB2.out hx2
    replace hx3 := bI HB2.out hx3
    have hcb0 : w2.cell? ⟨gb, 0, none⟩ = some (.int .i64 0) := (aj BY.out 0).trans rfl
    have hcb1 : w2.cell? ⟨gb, 1, none⟩ = some (.string (⟨#[]⟩ : ByteArray)) := (aj BY.out 1).trans rfl
    have hcb2 : w2.cell? ⟨gb, 2, none⟩ = some (.int .i64 0) := (aj BY.out 2).trans rfl
    have hcb3 : w2.cell? ⟨gb, 3, none⟩ = some (.int .i64 0) := (aj BY.out 3).trans rfl
    have hfb0 := ag BY.out 0
    have hfb1 := ag BY.out 1
    have hfb2 := ag BY.out 2
    have hfb3 := ag BY.out 3
    clear HG2 hg2 e0
    simp only [List.take_succ_cons, List.take_zero, List.drop_succ_cons, List.drop_zero]
    repeat still_step
    refine wpStill_nil ?_
    go_wp2
    refine bodyPost_ret (results_cell_row rfl _ _ gb 37 #[.int .i64 (fF s0_0 s0_1).f0, .string (fF s0_0 s0_1).f1, .int .i64 (fF s0_0 s0_1).f2, .int .i64 (fF s0_0 s0_1).f3] (0, 0) _ rfl (by (with_reducible repeat (first | refine jd ?_ _ | refine jk ?_ | refine kP ?_ _)); refine eQ (cs := #[.int .i64 (fF s0_0 s0_1).f0, .string (fF s0_0 s0_1).f1, .int .i64 (fF s0_0 s0_1).f2, .int .i64 0]) ?_ 3 _ rfl; (with_reducible repeat (first | refine jd ?_ _ | refine jk ?_ | refine kP ?_ _)); refine eQ (cs := #[.int .i64 (fF s0_0 s0_1).f0, .string (fF s0_0 s0_1).f1, .int .i64 0, .int .i64 0]) ?_ 2 _ rfl; (with_reducible repeat (first | refine jd ?_ _ | refine jk ?_ | refine kP ?_ _)); refine eQ (cs := #[.int .i64 (fF s0_0 s0_1).f0, .string (⟨#[]⟩ : ByteArray), .int .i64 0, .int .i64 0]) ?_ 1 _ rfl; (with_reducible repeat (first | refine jd ?_ _ | refine jk ?_ | refine kP ?_ _)); refine eQ (cs := #[.int .i64 0, .string (⟨#[]⟩ : ByteArray), .int .i64 0, .int .i64 0]) ?_ 0 _ rfl; (with_reducible repeat (first | refine jd ?_ _ | refine jk ?_ | refine kP ?_ _)); exact BY.out) Tryz.underlying37 rfl (by kernel_rfl)) rfl ?_
    exact ⟨rfl, by repeat (first | (with_reducible first | exact HI2.out | apply gz.drewN | apply gz.drew | refine gz.far ?_ (Ne.symm GN.out) _)), by repeat (first | (with_reducible first | exact HB2.out | refine iZ ?_ GW.out)), by repeat (first | (with_reducible first | exact HK2.out | refine qG ?_ GB.out _))⟩
   rw [if_neg c5] at h
   cases h
  rw [if_neg c4] at h
  cases h
  have c4b : ((fF s0_0 s0_1).f0 == a1) = false := beq_eq_false_iff_ne.mpr c4
  have c4n : ((fF s0_0 s0_1).f0 != a1) = true := bne_iff_ne.mpr c4
  go_quiet (fail)
  go_wp2
  refine bodyPost_ret (results_cell_row rfl _ _ gb 37 #[.int .i64 0, .string (⟨#[]⟩ : ByteArray), .int .i64 0, .int .i64 0] (0, 0) _ rfl Z2 Tryz.underlying37 rfl (by kernel_rfl)) rfl ?_
  exact ⟨rfl, Z20, Z23, Z24⟩
 rw [if_neg c3] at h
 cases h
end Go.Proofs.YtkbhkonenkgfoaaGreat.Q
end
section
namespace Go.Proofs.YtkbhkonenkgfoaaGreat.Q
open Go.RowKit Go.Proofs.YtkbhkonenkgfoaaGreatW.PrintWords Go.Proofs.YtkbhkonenkgfoaaGreatW.PrintLast Go.Proofs.YtkbhkonenkgfoaaGreatW.PrintMore
attribute [local go_sem] iW iV iU iR dJ dH dW dV dh df dI dG
set_option linter.unusedVariables false
set_option linter.unusedSimpArgs false
/-! ### fC: function 78 -/
def fC.f (s0_0 : List (S37)) (s0_1 : Int) (s0_2 : Bool) (a1 : ByteArray) : Option (Bool × Int × Bool) := if s0_2 = true then (some (false, s0_1, s0_2)) else (if s0_1 < (s0_0.length : Int) then (if 0 ≤ s0_1 then (if ((fF s0_0 s0_1).f0) = 5 then (some ((((fF s0_0 s0_1).f1).toList == a1.toList), s0_1, s0_2)) else (if ((fF s0_0 s0_1).f0) = 4 then (some ((((fF s0_0 s0_1).f1).toList == a1.toList), s0_1, s0_2)) else (some (false, s0_1, s0_2)))) else (none)) else (some (false, s0_1, s0_2)))
set_option maxHeartbeats 8000000 in
set_option maxRecDepth 100000 in
theorem fC.calls (g : Nat) (s0_0 : List (S37)) (s0_1 : Int) (s0_2 : Bool) (a1 : ByteArray) (r1 : Bool) (r2 : Int) (r3 : Bool) (w0 w : World) (hI : gz w0 w g s0_0 s0_1 s0_2) (hB : Below w0.heap.size w0 w) (h : fC.f s0_0 s0_1 s0_2 a1 = some (r1, r2, r3)) :
 Calls Tryz.prog 78 #[.pointer (some ⟨g, 0, none⟩), .string a1] w fun e w' => e = .returned (.bool r1) ∧ gz w0 w' g s0_0 r2 r3 ∧ Below w0.heap.size w0 w' ∧ cO w w' g none := by
 have HI0 := ae.mk hI
 have HK := ae.mk (cO.refl w g none)
 have HL := ae.mk hB.size
 clear hI
 have HW0 := ae.mk hB.size
 have HB := ae.mk hB
 clear hB
 have H := h
 clear h
 unfold fC.f at H
 cases s0_2
 rotate_left
 ·replace H := yT H
  simp only [Option.some.injEq, Prod.mk.injEq] at H
  obtain ⟨rfl, rfl, rfl⟩ := H
  obtain ⟨ASz4_0, cSz4_0, HGz4, hgz4, HSz4_0⟩ := HI0.out
  have hcz4_0 := ni HGz4
  have hcz4_1 := ng HGz4
  have hcz4_2 := nY HGz4
  have hfz4_1 := ag HGz4 1
  have hfz4_2 := ag HGz4 2
  clear HGz4 hgz4
  go_enter Tryz.func78, Tryz.ntmps78
  go_wp2
  repeat (go_quiet (fail); try go_wp2)
  go_ret
  exact ⟨Z7, Z15, Z14, Z18⟩
 replace H := yF H
 revert H
 refine iQ (fun c5b0 H => ?_) fun c5b0 H => ?_
 ·revert H
  refine gJ (fun c6b0 H => ?_) fun c6 H => ?_
  ·revert H
   refine cZ (fun c7b0 c7b1 H => ?_) fun c7 c7b0 c7b1 H => ?_
   ·simp only [Option.some.injEq, Prod.mk.injEq] at H
    obtain ⟨rfl, rfl, rfl⟩ := H
    obtain ⟨ASz8_0, cSz8_0, HGz8, hgz8, HSz8_0⟩ := HI0.out
    have hcz8_0 := ni HGz8
    have hcz8_1 := ng HGz8
    have hcz8_2 := nY HGz8
    have hfz8_1 := ag HGz8 1
    have hfz8_2 := ag HGz8 2
    clear HGz8 hgz8
    have p819 : 0 ≤ (s0_1 : Int) := of_decide_eq_true Z10
    have q819 : s0_1 < (s0_0.length : Int) := of_decide_eq_true Z10
    obtain ⟨ad819, e819, hx819_0, hx819_1, hx819_2, hx819_3⟩ := lM HSz8_0 s0_1 p819 q819
    cases e819
    replace hx819_0 := bI HB.out hx819_0
    replace hx819_1 := bI HB.out hx819_1
    replace hx819_2 := bI HB.out hx819_2
    replace hx819_3 := bI HB.out hx819_3
    replace p819 := eq_true p819
    replace q819 := eq_true q819
    have p820 : 0 ≤ (s0_1 : Int) := of_decide_eq_true Z10
    have q820 : s0_1 < (s0_0.length : Int) := of_decide_eq_true Z10
    obtain ⟨ad820, e820, hx820_0, hx820_1, hx820_2, hx820_3⟩ := lM HSz8_0 s0_1 p820 q820
    obtain rfl : ad819 = ad820 := (by injection e820)
    replace hx820_0 := bI HB.out hx820_0
    replace hx820_1 := bI HB.out hx820_1
    replace hx820_2 := bI HB.out hx820_2
    replace hx820_3 := bI HB.out hx820_3
    replace p820 := eq_true p820
    replace q820 := eq_true q820
    go_enter Tryz.func78, Tryz.ntmps78
    go_wp2
    repeat (go_quiet (fail); try go_wp2)
    go_ret
    exact ⟨Z7, Z15, Z14, Z18⟩
   revert H
   refine cZ (fun c9b0 c9b1 H => ?_) fun c9 c9b0 c9b1 H => ?_
   ·simp only [Option.some.injEq, Prod.mk.injEq] at H
    obtain ⟨rfl, rfl, rfl⟩ := H
    obtain ⟨ASz10_0, cSz10_0, HGz10, hgz10, HSz10_0⟩ := HI0.out
    have hcz10_0 := ni HGz10
    have hcz10_1 := ng HGz10
    have hcz10_2 := nY HGz10
    have hfz10_1 := ag HGz10 1
    have hfz10_2 := ag HGz10 2
    clear HGz10 hgz10
    have p819 : 0 ≤ (s0_1 : Int) := of_decide_eq_true Z10
    have q819 : s0_1 < (s0_0.length : Int) := of_decide_eq_true Z10
    obtain ⟨ad819, e819, hx819_0, hx819_1, hx819_2, hx819_3⟩ := lM HSz10_0 s0_1 p819 q819
    cases e819
    replace hx819_0 := bI HB.out hx819_0
    replace hx819_1 := bI HB.out hx819_1
    replace hx819_2 := bI HB.out hx819_2
    replace hx819_3 := bI HB.out hx819_3
    replace p819 := eq_true p819
    replace q819 := eq_true q819
    have p821 : 0 ≤ (s0_1 : Int) := of_decide_eq_true Z10
    have q821 : s0_1 < (s0_0.length : Int) := of_decide_eq_true Z10
    obtain ⟨ad821, e821, hx821_0, hx821_1, hx821_2, hx821_3⟩ := lM HSz10_0 s0_1 p821 q821
    obtain rfl : ad819 = ad821 := (by injection e821)
    replace hx821_0 := bI HB.out hx821_0
    replace hx821_1 := bI HB.out hx821_1
    replace hx821_2 := bI HB.out hx821_2
    replace hx821_3 := bI HB.out hx821_3
    replace p821 := eq_true p821
    replace q821 := eq_true q821
    have p822 : 0 ≤ (s0_1 : Int) := of_decide_eq_true Z10
    have q822 : s0_1 < (s0_0.length : Int) := of_decide_eq_true Z10
    obtain ⟨ad822, e822, hx822_0, hx822_1, hx822_2, hx822_3⟩ := lM HSz10_0 s0_1 p822 q822
    obtain rfl : ad819 = ad822 := (by injection e822)
    replace hx822_0 := bI HB.out hx822_0
    replace hx822_1 := bI HB.out hx822_1
    replace hx822_2 := bI HB.out hx822_2
    replace hx822_3 := bI HB.out hx822_3
    replace p822 := eq_true p822
    replace q822 := eq_true q822
    go_enter Tryz.func78, Tryz.ntmps78
    go_wp2
    repeat (go_quiet (fail); try go_wp2)
    go_ret
    exact ⟨Z7, Z15, Z14, Z18⟩
   simp only [Option.some.injEq, Prod.mk.injEq] at H
   obtain ⟨rfl, rfl, rfl⟩ := H
   obtain ⟨ASz11_0, cSz11_0, HGz11, hgz11, HSz11_0⟩ := HI0.out
   have hcz11_0 := ni HGz11
   have hcz11_1 := ng HGz11
   have hcz11_2 := nY HGz11
   have hfz11_1 := ag HGz11 1
   have hfz11_2 := ag HGz11 2
   clear HGz11 hgz11
   have p819 : 0 ≤ (s0_1 : Int) := of_decide_eq_true Z10
   have q819 : s0_1 < (s0_0.length : Int) := of_decide_eq_true Z10
   obtain ⟨ad819, e819, hx819_0, hx819_1, hx819_2, hx819_3⟩ := lM HSz11_0 s0_1 p819 q819
   cases e819
   replace hx819_0 := bI HB.out hx819_0
   replace hx819_1 := bI HB.out hx819_1
   replace hx819_2 := bI HB.out hx819_2
   replace hx819_3 := bI HB.out hx819_3
   replace p819 := eq_true p819
   replace q819 := eq_true q819
   have p821 : 0 ≤ (s0_1 : Int) := of_decide_eq_true Z10
   have q821 : s0_1 < (s0_0.length : Int) := of_decide_eq_true Z10
   obtain ⟨ad821, e821, hx821_0, hx821_1, hx821_2, hx821_3⟩ := lM HSz11_0 s0_1 p821 q821
   obtain rfl : ad819 = ad821 := (by injection e821)
   replace hx821_0 := bI HB.out hx821_0
   replace hx821_1 := bI HB.out hx821_1
   replace hx821_2 := bI HB.out hx821_2
   replace hx821_3 := bI HB.out hx821_3
   replace p821 := eq_true p821
   replace q821 := eq_true q821
   go_enter Tryz.func78, Tryz.ntmps78
   go_wp2
   repeat (go_quiet (fail); try go_wp2)
   go_ret
   exact ⟨Z7, Z15, Z14, Z18⟩
  exact absurd H (by simp)
 simp only [Option.some.injEq, Prod.mk.injEq] at H
 obtain ⟨rfl, rfl, rfl⟩ := H
 obtain ⟨ASz12_0, cSz12_0, HGz12, hgz12, HSz12_0⟩ := HI0.out
 have hcz12_0 := ni HGz12
 have hcz12_1 := ng HGz12
 have hcz12_2 := nY HGz12
 have hfz12_1 := ag HGz12 1
 have hfz12_2 := ag HGz12 2
 clear HGz12 hgz12
 go_enter Tryz.func78, Tryz.ntmps78
 go_wp2
 repeat (go_quiet (fail); try go_wp2)
 go_ret
 exact ⟨Z7, Z15, Z14, Z18⟩
end Go.Proofs.YtkbhkonenkgfoaaGreat.Q
end
section
namespace Go.Proofs.YtkbhkonenkgfoaaGreat.Q
open Go.RowKit Go.Proofs.YtkbhkonenkgfoaaGreatW.PrintWords Go.Proofs.YtkbhkonenkgfoaaGreatW.PrintLast Go.Proofs.YtkbhkonenkgfoaaGreatW.PrintMore
attribute [local go_sem] iW iV iU iR dJ dH dW dV dh df dI dG
set_option linter.unusedVariables false
set_option linter.unusedSimpArgs false
/-! ### bG: function 36 -/
def bG.f (s0_0 : List (S37)) (s0_1 : Int) (s0_2 : Bool) (a1 : ByteArray) : Option (Bool × Int × Bool) := (fC.f s0_0 s0_1 s0_2 a1).bind fun bt823 => (if bt823.1 = true then (some (true, wrap64 (bt823.2.1 + 1), bt823.2.2)) else (some (false, bt823.2.1, bt823.2.2)))
/-! ### bi: function 34 -/
def bi.f (s0_0 : List (S37)) (s0_1 : Int) (s0_2 : Bool) (a1 : ByteArray) : Option (Int × Bool) := (bG.f s0_0 s0_1 s0_2 a1).bind fun bt826 => (if bt826.1 = true then (some (bt826.2.1, bt826.2.2)) else (some (bt826.2.1, true)))
-- BY HAND: function 35 (chrysalisref10_row_need)
/-! ### aC: function 37 -/
def aC.l0 : Nat → List (List (S29)) → List (S29) → Int → Option ((List (S29)))
 | 0, _, _, _ => none
 | k + 1, x1, x5, x6 => if x6 < (x1.length : Int) then (if 0 ≤ x6 then (if x5.length + (nN x1 x6).length < 2513169434916 then (aC.l0 k x1 (x5 ++ (nN x1 x6)) (wrap64 (x6 + 1))) else (none)) else (none)) else (some x5)
def aC.f (k : Nat) (a0_0 : Int) (a0_1 : Int) (a0_2 : ByteArray) (a0_3 : Int) (a0_4 : ByteArray) (l1 : List (List (S29))) : Option ((List (S29))) := aC.l0 k l1 (([(⟨a0_0, (l1.length : Int), a0_2, a0_3, a0_4⟩ : S29)] : List (S29))) 0
theorem aC.bP : ∀ k, (∀ y0 y1 y2, LeO (aC.l0 k y0 y1 y2) (aC.l0 (k + 1) y0 y1 y2))
 | 0 => fun _ _ _ r h => by simp [aC.l0] at h
 | k + 1 => by
  have ih0 := aC.bP k
  intro y0 y1 y2
  unfold aC.l0
  exact yL
theorem aC.mono : ∀ a0 a1 a2 a3 a4 a5 k, LeO (aC.f k a0 a1 a2 a3 a4 a5) (aC.f (k + 1) a0 a1 a2 a3 a4 a5) := by
 intro a0 a1 a2 a3 a4 a5 k
 have ih0 := aC.bP k
 unfold aC.f
 exact yL
set_option maxHeartbeats 8000000 in
set_option maxRecDepth 100000 in
theorem aC.calls (k : Nat) (a0_0 : Int) (a0_1 : Int) (a0_2 : ByteArray) (a0_3 : Int) (a0_4 : ByteArray) (A1 : Option Addr) (c1 : Nat) (l1 : List (List (S29))) (r : List (S29)) (w : World) (hr1 : Kd.C (Kd.slice 29 k29) w A1 l1.length l1) (hc1 : l1.length ≤ c1) (h : aC.f k a0_0 a0_1 a0_2 a0_3 a0_4 l1 = some r) :
 Calls Tryz.prog 37 #[.agg #[.int .i64 a0_0, .int .i64 a0_1, .string a0_2, .int .i64 a0_3, .string a0_4], .slice A1 l1.length c1] w fun e w' => ∃ v0_ : Value, e = .returned (v0_) ∧ Kd.R k29 29 w' w.heap.size (fun _ => True) v0_ r ∧ Below w.heap.size w w' := by
 have hu29 := Tryz.underlying29
 have HR1 := ae.mk hr1
 have HC1 := ae.mk hc1
 clear hr1 hc1
 have HB := ae.mk (Below.refl w.heap.size w)
 have H := h
 clear h
 unfold aC.f at H
 obtain ⟨y830, hy830⟩ : ∃ y_ : List (S29), y_ = (([(⟨a0_0, (l1.length : Int), a0_2, a0_3, a0_4⟩ : S29)] : List (S29))) := ⟨_, rfl⟩
 replace H : (aC.l0 k l1 y830 0) = some r := by first | (rw [hy830]; with_reducible exact H) | (have H2_ := (Option.bind_some _ _).symm.trans H; rw [hy830]; with_reducible exact H2_) | (have H2_ := (Option.bind_some _ _).symm.trans H; with_reducible exact H2_) | with_reducible exact H | (rw [hy830]; exact H) | exact H
 have Ny830 := ae.mk hy830
 clear hy830
 have H' := ae.mk H
 clear H
 go_enter Tryz.func37, Tryz.ntmps37
 go_wp2_with (first | ((with_reducible refine bH (N := 2) rfl ?_); refine gp ?hg (N := 2) ?hd (cs := #[.int .i64 a0_0, .int .i64 a0_1, .string a0_2, .int .i64 a0_3, .string a0_4]) (t := 29) ?hr ?_; (case hd => rfl); (case hg => rfl); (case hr => first | (go_simp; done) | (go_simp; rfl)); intro gb829 hg w3 hbox hb; refine yA4 (aY Z1 hb) (hbox) ((by rw [hg]; exact (bY Z1) : w.heap.size ≤ gb829)) ((by rw [hg]; exact (bY Z1) : w.heap.size ≤ gb829)) ?_; clear HB; intro HB BK829 GW829 GE829; clear hb hbox hg; have hcz4_0 : w3.cell? ⟨gb829, 0, none⟩ = some (.int .i64 a0_0) := (aj BK829.out 0).trans rfl; have hcz4_1 : w3.cell? ⟨gb829, 1, none⟩ = some (.int .i64 a0_1) := (aj BK829.out 1).trans rfl; have hcz4_2 : w3.cell? ⟨gb829, 2, none⟩ = some (.string a0_2) := (aj BK829.out 2).trans rfl; have hcz4_3 : w3.cell? ⟨gb829, 3, none⟩ = some (.int .i64 a0_3) := (aj BK829.out 3).trans rfl; have hcz4_4 : w3.cell? ⟨gb829, 4, none⟩ = some (.string a0_4) := (aj BK829.out 4).trans rfl; have hfz4_0 := ag BK829.out 0; have hfz4_1 := ag BK829.out 1; have hfz4_2 := ag BK829.out 2; have hfz4_3 := ag BK829.out 3; have hfz4_4 := ag BK829.out 4) | ((with_reducible refine bH (N := 11) rfl ?_); refine Kd.oH k29 _ 29 ?hg (N := 11) ?hd (xs := ([(⟨a0_0, (l1.length : Int), a0_2, a0_3, a0_4⟩ : S29)] : List (S29))) (inner := [.int .i64 a0_0, .int .i64 (l1.length : Int), .string a0_2, .int .i64 a0_3, .string a0_4]) (ok := fun _ => True) (okp := fun _ => True) ?hr ?hp (fun _ hk => hk) trivial (Below.refl _ _) (Nat.le_refl _) (by simp) ?_; (case hd => rfl); (case hg => rfl); (case hr => first | (go_simp; done) | (go_simp; rfl)); (case hp => exact (dQ.c5 (show Kd.M k29 _ _ _ (⟨a0_0, (l1.length : Int), a0_2, a0_3, a0_4⟩ : S29) [.int .i64 a0_0, .int .i64 (l1.length : Int), .string a0_2, .int .i64 a0_3, .string a0_4] from (vO _ _ _ (⟨a0_0, (l1.length : Int), a0_2, a0_3, a0_4⟩ : S29) )) (dQ.none _ _))); intro v831 w5 ho6 hb hg_ hnew_; clear hg_ hnew_; (first | rw [← Ny830.out] at ho6 | (simp only [Int.reduceToNat] at ho6; rw [← Ny830.out] at ho6)); refine yA3 (Kd.ig (Kd.Ho ho6 (g := gb829) (o := .cells #[.int .i64 a0_0, .int .i64 (l1.length : Int), .string a0_2, .int .i64 a0_3, .string a0_4] 29 (0, 0)) (by refine eQ (cs := #[.int .i64 a0_0, .int .i64 a0_1, .string a0_2, .int .i64 a0_3, .string a0_4]) ?_ 1 _ rfl; exact BK829.out)) (bY Z9)) (iY (g := gb829) (o := .cells #[.int .i64 a0_0, .int .i64 (l1.length : Int), .string a0_2, .int .i64 a0_3, .string a0_4] 29 (0, 0)) (by refine eQ (cs := #[.int .i64 a0_0, .int .i64 a0_1, .string a0_2, .int .i64 a0_3, .string a0_4]) ?_ 1 _ rfl; exact BK829.out) hb) (aY Z9 hb) ?_; clear BK829 HB; intro HO832 BK829 HB; clear hb ho6))
 (try simp only [Act.put, List.setIfInBounds_toArray, List.set_cons_zero, List.set_cons_succ])
 go_loopg [5, 6] k (fun kq v5 v6 w' => ∃ (x5_1 : List (S29)) (x6_1 : Int), v6 = .int .i64 x6_1 ∧ ae (aC.l0 kq l1 x5_1 x6_1 = some r) ∧ ae (kq ≤ k) ∧ ae (Kd.R k29 29 w' w.heap.size (fun k_ => k_ ≠ gb829) v5 x5_1) ∧ ae (w'.heap[gb829]? = some (.cells #[.int .i64 a0_0, .int .i64 (l1.length : Int), .string a0_2, .int .i64 a0_3, .string a0_4] 29 (0, 0))) ∧ ae (Below w.heap.size w w'))
 case atStart => exact ⟨(y830), (0), Z19, H', ⟨Nat.le_refl _⟩, ⟨by (with_reducible repeat (first | apply Kd.iw | apply Kd.ik | apply Kd.jb)); exact Kd.iO HO832.out (fun _ hk => hk.2)⟩, ⟨by exact BK829.out⟩, ⟨Z9⟩⟩
 case round =>
  clear H'
  try clear c1
  try clear p2
  try clear c3
  try clear c5
  try clear hcz4_0
  try clear hcz4_1
  try clear hcz4_2
  try clear hcz4_3
  try clear hcz4_4
  try clear hfz4_0
  try clear hfz4_1
  try clear hfz4_2
  try clear hfz4_3
  try clear hfz4_4
  obtain ⟨x5_1, x6_1, rfl, HA, HK1, HO_5, BK829, HB⟩ := hrel
  cases gk with
  | zero => exact absurd HA.out (by simp [aC.l0])
  | succ k1 =>
   have H := HA.out
   clear HA
   simp only [aC.l0] at H
   revert H
   refine iQ (fun c7b0 H => ?_) fun c7b0 H => ?_
   ·revert H
    refine gJ (fun c8b0 H => ?_) fun c8 H => ?_
    ·revert H
     refine iC (fun c9 H => ?_) fun c9 H => ?_
     ·have LMc9 := ae.mk c9
      clear c9
      obtain ⟨y834, hy834⟩ : ∃ y_ : List (S29), y_ = (x5_1 ++ (nN l1 x6_1)) := ⟨_, rfl⟩
      replace H : (aC.l0 k1 l1 y834 (wrap64 (x6_1 + 1))) = some r := by first | (rw [hy834]; with_reducible exact H) | (have H2_ := (Option.bind_some _ _).symm.trans H; rw [hy834]; with_reducible exact H2_) | (have H2_ := (Option.bind_some _ _).symm.trans H; with_reducible exact H2_) | with_reducible exact H | (rw [hy834]; exact H) | exact H
      have Ny834 := ae.mk hy834
      clear hy834
      have H' := ae.mk H
      clear H
      have p833 : 0 ≤ (x6_1 : Int) := of_decide_eq_true Z10
      have q833 : x6_1 < (l1.length : Int) := of_decide_eq_true Z10
      obtain ⟨ad833, A833_0, c833_0, e833, hx833_0, hl833_0, hi833_0⟩ := J9 HR1.out x6_1 p833 q833
      cases e833
      replace hx833_0 := (HB.out.cell (World.block_lt_of_cell? w _ hx833_0)).trans hx833_0
      have HR833_0 := ae.mk hi833_0
      have HC833_0 := ae.mk hl833_0
      clear hi833_0 hl833_0
      replace p833 := eq_true p833
      replace q833 := eq_true q833
      go_wp2_with (first | ((with_reducible refine eu (b := .append) (xs := #[.tmp 18, .tmp 22]) rfl ?_); at_builtin; refine Kd.lN k29 (w0 := w) w.heap.size rfl (.tmp 18) (.tmp 22) 23 29 (.agg #[(.int .i64 0), (.int .i64 0), (.string ⟨#[]⟩), (.int .i64 0), (.string ⟨#[]⟩)]) 56 rfl Tryz.underlying23 uJ rfl (by decide) (by omega) u5 x5_1 (nN l1 x6_1) _ _ _ (fun k_ => k_ ≠ gb829) (fun _ => False) rfl rfl ?aO ?aR (fun _ _ h => h) (fun _ h => h.elim) ?aF ?aB ?aS ?aL ?_; (case aR => repeat (first | exact (Kd.lh HR833_0.out HB.out) | (with_reducible refine Kd.jY ?_ _) | (with_reducible refine Kd.jX ?_ _) | (with_reducible refine Kd.lu ?_))); (case aB => exact Z9); (case aF => exact (fun k_ hk => Kd.uK (g := gb829) (o := .cells #[.int .i64 a0_0, .int .i64 (l1.length : Int), .string a0_2, .int .i64 a0_3, .string a0_4] 29 (0, 0)) (by exact BK829.out) k_ hk)); (case aO => exact Z33); (case aS => exact (bY Z9)); (case aL => have := LMc9.out; omega); intro v835 w10 ho hb hg hat; rw [← Ny834.out] at ho; refine yA3 (kN (g := gb829) (o := .cells #[.int .i64 a0_0, .int .i64 (l1.length : Int), .string a0_2, .int .i64 a0_3, .string a0_4] 29 (0, 0)) (by exact BK829.out) hg (Kd.zH HO_5.out (fun _ hk => hk))) (hb) (ho) ?_; clear BK829 HB HO_5; intro BK829 HB HO836; clear ho hb hg hat))
      go_roundg k1
      case measure => have := HK1.out; omega
      case rel => exact ⟨(y834), (wrap64 (x6_1 + 1)), Z19, H', ⟨by have := HK1.out; omega⟩, ⟨by (with_reducible repeat (first | apply Kd.iw | apply Kd.ik | apply Kd.jb)); exact HO836.out⟩, ⟨by exact BK829.out⟩, ⟨Z9⟩⟩
     exact absurd H (by simp)
    exact absurd H (by simp)
   obtain rfl := Option.some.inj H
   go_wp2
   go_ret
   exact ⟨_, Z7, by (with_reducible repeat (first | apply Kd.iw | apply Kd.ik | apply Kd.jb)); exact Kd.iO HO_5.out (fun _ hk => trivial), Z9⟩
end Go.Proofs.YtkbhkonenkgfoaaGreat.Q
end
section
namespace Go.Proofs.YtkbhkonenkgfoaaGreat.Q
open Go.RowKit Go.Proofs.YtkbhkonenkgfoaaGreatW.PrintWords Go.Proofs.YtkbhkonenkgfoaaGreatW.PrintLast Go.Proofs.YtkbhkonenkgfoaaGreatW.PrintMore
attribute [local go_sem] iW iV iU iR dJ dH dW dV dh df dI dG
set_option linter.unusedVariables false
set_option linter.unusedSimpArgs false
-- BY HAND: function 110 (chrysalisref10_row_prim)
/-! ### aJ: function 111 -/
mutual
def aJ.l0 (F : iI) : Nat → List (List (S29)) → Int → List (S37) → Int → Bool → Option ((List (List (S29))) × Int × Bool)
 | 0, _, _, _, _, _ => none
 | k + 1, x3, x4, x1000, x1001, x1002 => if x1002 = true then (aJ.j1 F k x3 x4 false x1000 x1001 x1002) else ((fC.f x1000 x1001 x1002 (⟨#[41]⟩ : ByteArray)).bind fun bt1263 => (aJ.j1 F k x3 x4 (!bt1263.1) x1000 bt1263.2.1 bt1263.2.2))
def aJ.j1 (F : iI) : Nat → List (List (S29)) → Int → Bool → List (S37) → Int → Bool → Option ((List (List (S29))) × Int × Bool)
 | 0, _, _, _, _, _, _ => none
 | k + 1, x3, x4, x16, x1000, x1001, x1002 => if x16 = true then (if x4 > 0 then ((bi.f x1000 x1001 x1002 (⟨#[44]⟩ : ByteArray)).bind fun bt1268 => ((lG.f F k x1000 bt1268.1 bt1268.2).bind fun bt1270 => (if x3.length < 5864062014805 then (aJ.l0 F k (x3 ++ [bt1270.1]) (wrap64 (x4 + 1)) x1000 bt1270.2.1 bt1270.2.2) else (none)))) else ((lG.f F k x1000 x1001 x1002).bind fun bt1278 => (if x3.length < 5864062014805 then (aJ.l0 F k (x3 ++ [bt1278.1]) (wrap64 (x4 + 1)) x1000 bt1278.2.1 bt1278.2.2) else (none)))) else ((bi.f x1000 x1001 x1002 (⟨#[41]⟩ : ByteArray)).bind fun bt1266 => (some (x3, bt1266.1, bt1266.2)))
end
def aJ.f (F : iI) (k : Nat) (s0_0 : List (S37)) (s0_1 : Int) (s0_2 : Bool) : Option ((List (List (S29))) × Int × Bool) := (bi.f s0_0 s0_1 s0_2 (⟨#[40]⟩ : ByteArray)).bind fun bt1261 => (aJ.l0 F k ([] : List (List (S29))) 0 s0_0 bt1261.1 bt1261.2)
theorem aJ.bP {F F' : iI} (HLE : kw F F') : ∀ k, (∀ y0 y1 y2 y3 y4, LeO (aJ.l0 F k y0 y1 y2 y3 y4) (aJ.l0 F' (k + 1) y0 y1 y2 y3 y4)) ∧ (∀ y0 y1 y2 y3 y4 y5, LeO (aJ.j1 F k y0 y1 y2 y3 y4 y5) (aJ.j1 F' (k + 1) y0 y1 y2 y3 y4 y5))
 | 0 => ⟨fun _ _ _ _ _ r h => by simp [aJ.l0] at h, fun _ _ _ _ _ _ r h => by simp [aJ.j1] at h⟩
 | k + 1 => by
  obtain ⟨ih0, ih1⟩ := aJ.bP HLE k
  refine ⟨?_, ?_⟩
  ·intro y0 y1 y2 y3 y4
   unfold aJ.l0
   have m0 := (lG.mono HLE)
   exact yL
  intro y0 y1 y2 y3 y4 y5
  unfold aJ.j1
  have m0 := (lG.mono HLE)
  exact yL
theorem aJ.mono {F F' : iI} (HLE : kw F F') : ∀ a0 a1 a2 k, LeO (aJ.f F k a0 a1 a2) (aJ.f F' (k + 1) a0 a1 a2) := by
 intro a0 a1 a2 k
 obtain ⟨ih0, ih1⟩ := aJ.bP HLE k
 unfold aJ.f
 have m0 := (lG.mono HLE)
 exact yL
-- BY HAND: function 124 (runtime_PanicNilError_Error)
end Go.Proofs.YtkbhkonenkgfoaaGreat.Q
end
section
namespace Go.Proofs.YtkbhkonenkgfoaaGreat.Q
open Go.RowKit Go.Proofs.YtkbhkonenkgfoaaGreatW.PrintWords Go.Proofs.YtkbhkonenkgfoaaGreatW.PrintLast Go.Proofs.YtkbhkonenkgfoaaGreatW.PrintMore
attribute [local go_sem] iW iV iU iR dJ dH dW dV dh df dI dG
set_option linter.unusedVariables false
set_option linter.unusedSimpArgs false
/-! ### aH: function 79 -/
mutual
def aH.l0 : Nat → List (List (S29)) → Int → List (S37) → Int → Bool → Option ((List (List (S29))) × Int × Bool)
 | 0, _, _, _, _, _ => none
 | k + 1, x3, x4, x1000, x1001, x1002 => if x1002 = true then (aH.j1 k x3 x4 false x1000 x1001 x1002) else ((fC.f x1000 x1001 x1002 (⟨#[41]⟩ : ByteArray)).bind fun bt839 => (aH.j1 k x3 x4 (!bt839.1) x1000 bt839.2.1 bt839.2.2))
def aH.j1 : Nat → List (List (S29)) → Int → Bool → List (S37) → Int → Bool → Option ((List (List (S29))) × Int × Bool)
 | 0, _, _, _, _, _, _ => none
 | k + 1, x3, x4, x16, x1000, x1001, x1002 => if x16 = true then (if x4 > 0 then ((bi.f x1000 x1001 x1002 (⟨#[44]⟩ : ByteArray)).bind fun bt844 => ((jT.f x1000 bt844.1 bt844.2 1).bind fun bt846 => (if x3.length < 5864062014805 then (aH.l0 k (x3 ++ [(([(⟨4, 0, bt846.2.1, 0, (⟨#[]⟩ : ByteArray)⟩ : S29)] : List (S29)))]) (wrap64 (x4 + 1)) x1000 bt846.2.2.2.2.1 bt846.2.2.2.2.2) else (none)))) else ((jT.f x1000 x1001 x1002 1).bind fun bt858 => (if x3.length < 5864062014805 then (aH.l0 k (x3 ++ [(([(⟨4, 0, bt858.2.1, 0, (⟨#[]⟩ : ByteArray)⟩ : S29)] : List (S29)))]) (wrap64 (x4 + 1)) x1000 bt858.2.2.2.2.1 bt858.2.2.2.2.2) else (none)))) else ((bi.f x1000 x1001 x1002 (⟨#[41]⟩ : ByteArray)).bind fun bt842 => (some (x3, bt842.1, bt842.2)))
end
def aH.f (k : Nat) (s0_0 : List (S37)) (s0_1 : Int) (s0_2 : Bool) : Option ((List (List (S29))) × Int × Bool) := (bi.f s0_0 s0_1 s0_2 (⟨#[40]⟩ : ByteArray)).bind fun bt837 => (aH.l0 k ([] : List (List (S29))) 0 s0_0 bt837.1 bt837.2)
theorem aH.bP : ∀ k, (∀ y0 y1 y2 y3 y4, LeO (aH.l0 k y0 y1 y2 y3 y4) (aH.l0 (k + 1) y0 y1 y2 y3 y4)) ∧ (∀ y0 y1 y2 y3 y4 y5, LeO (aH.j1 k y0 y1 y2 y3 y4 y5) (aH.j1 (k + 1) y0 y1 y2 y3 y4 y5))
 | 0 => ⟨fun _ _ _ _ _ r h => by simp [aH.l0] at h, fun _ _ _ _ _ _ r h => by simp [aH.j1] at h⟩
 | k + 1 => by
  obtain ⟨ih0, ih1⟩ := aH.bP k
  refine ⟨?_, ?_⟩
  ·intro y0 y1 y2 y3 y4
   unfold aH.l0
   exact yL
  intro y0 y1 y2 y3 y4 y5
  unfold aH.j1
  exact yL
theorem aH.mono : ∀ a0 a1 a2 k, LeO (aH.f k a0 a1 a2) (aH.f (k + 1) a0 a1 a2) := by
 intro a0 a1 a2 k
 obtain ⟨ih0, ih1⟩ := aH.bP k
 unfold aH.f
 exact yL
end Go.Proofs.YtkbhkonenkgfoaaGreat.Q
end
section
set_option linter.unusedVariables false
set_option linter.unusedSimpArgs false
namespace Go.Proofs.YtkbhkonenkgfoaaGreat.Q
open Go Go.RowKit Go.Proofs.YtkbhkonenkgfoaaGreatW.PrintWords Go.Proofs.YtkbhkonenkgfoaaGreatW.PrintLast Go.Proofs.YtkbhkonenkgfoaaGreatW.PrintMore
attribute [local go_sem] lK lJ lI lH
theorem isC (g : Nat) (s0 : List S37) (s1 : Int) (s2 : Bool) (x : ByteArray) (r : Bool) (q : Int) (b : Bool) (w0 w : World) (hI : Rd 47 w0 w g s0 s1 s2) (hB : Below w0.heap.size w0 w) (h : fC.f s0 s1 s2 x = some (r, q, b)) :
 Calls Tryz.prog 78 #[.pointer (some ⟨g, 0, none⟩), .string x] w (Back 47 w0 w g s0 q b fun e _ => e = .returned (.bool r)) := fC.calls g s0 s1 s2 x r q b w0 w hI hB h
theorem vk (g : Nat) (s0 : List S37) (s1 : Int) (s2 : Bool) (x : Int) (t1 : Int) (t2 : ByteArray) (t3 t4 q : Int) (b : Bool) (w0 w : World) (hI : Rd 47 w0 w g s0 s1 s2) (hB : Below w0.heap.size w0 w) (h : jT.f s0 s1 s2 x = some (t1, t2, t3, t4, q, b)) :
 Calls Tryz.prog 35 #[.pointer (some ⟨g, 0, none⟩), .int .i64 x] w (Back 47 w0 w g s0 q b fun e _ => e = .returned (.agg #[.int .i64 t1, .string t2, .int .i64 t3, .int .i64 t4])) := jT.calls g s0 s1 s2 x t1 t2 t3 t4 q b w0 w hI hB h
theorem qH (k : Nat) (a0 a1 : Int) (a2 : ByteArray) (a3 : Int) (a4 : ByteArray) (A : Option Addr) (c : Nat) (l : List (List S29)) (r : List S29) (w : World) (hr : Kd.C (Kd.slice 29 k29) w A l.length l) (hc : l.length ≤ c) (h : aC.f k a0 a1 a2 a3 a4 l = some r) :
 Calls Tryz.prog 37 #[.agg #[.int .i64 a0, .int .i64 a1, .string a2, .int .i64 a3, .string a4], .slice A l.length c] w fun e w' => ∃ v, e = .returned v ∧ Kd.R k29 29 w' w.heap.size (fun _ => True) v r ∧ Below w.heap.size w w' := aC.calls k a0 a1 a2 a3 a4 A c l r w hr hc h
set_option maxHeartbeats 8000000 in
set_option maxRecDepth 100000 in
theorem takeC (g : Nat) (s0 : List S37) (s1 : Int) (s2 : Bool) (x : ByteArray) (r : Bool) (e1 : Int) (e2 : Bool) (w0 w : World) (hI : Rd 47 w0 w g s0 s1 s2) (hB : Below w0.heap.size w0 w) (h : bG.f s0 s1 s2 x = some (r, e1, e2)) :
 Calls Tryz.prog 36 #[.pointer (some ⟨g, 0, none⟩), .string x] w (Back 47 w0 w g s0 e1 e2 fun e _ => e = .returned (.bool r)) := by
 unfold bG.f at h
 have HS := St.new (T := 47) (by decide) hI hB
 have H := ae.mk h
 clear h hI hB
 go_enter Tryz.func36, Tryz.ntmps36
 go_wp2_with ((with_reducible refine gC 78 rfl ?_); refine sB 78 rfl Tryz.func78 (stT HS) H (fun t q b hI hB => isC g _ _ _ _ t q b w0 _ hI hB) ?_; clear HS H; intro t q b w' HS H; have hc1 := HS.rd.cell1; have hf1 := HS.rd.fro 1; cases t <;> (try simp only [if_true, if_false, eq_self, Bool.false_eq_true, Bool.not_true, Bool.not_false] at H))
 all_goals
  have h_ := H.out; simp only [Option.some.injEq, Prod.mk.injEq] at h_; obtain ⟨rfl, rfl, rfl⟩ := h_
  go_ret
  exact (stT HS).back rfl
set_option maxHeartbeats 8000000 in
set_option maxRecDepth 100000 in
theorem oN (g : Nat) (s0 : List S37) (s1 : Int) (s2 : Bool) (x : ByteArray) (e1 : Int) (e2 : Bool) (w0 w : World) (hI : Rd 47 w0 w g s0 s1 s2) (hB : Below w0.heap.size w0 w) (h : bi.f s0 s1 s2 x = some (e1, e2)) :
 Calls Tryz.prog 34 #[.pointer (some ⟨g, 0, none⟩), .string x] w (Back 47 w0 w g s0 e1 e2 fun e _ => e = .returned (.tuple #[])) := by
 unfold bi.f at h
 have HS := St.new (T := 47) (by decide) hI hB
 have H := ae.mk h
 clear h hI hB
 go_enter Tryz.func34, Tryz.ntmps34
 go_wp2_with ((with_reducible refine gC 36 rfl ?_); refine sB 36 rfl Tryz.func36 (stT HS) H (fun t q b hI hB => takeC g _ _ _ _ t q b w0 _ hI hB) ?_; clear HS H; intro t q b w' HS H; have hc2 := HS.rd.cell2; have hf2 := HS.rd.fro 2; cases t <;> (try simp only [if_true, if_false, eq_self, Bool.false_eq_true, Bool.not_true, Bool.not_false] at H))
 all_goals
  have h_ := H.out; simp only [Option.some.injEq, Prod.mk.injEq] at h_; obtain ⟨rfl, rfl⟩ := h_
  (first | go_end0 | ((try simp only [Exit.inBlock, Exit.then]); refine bodyPost_ret (results_none rfl _ _ _) rfl ?_))
  exact (stT HS).back rfl
set_option maxHeartbeats 8000000 in
set_option maxRecDepth 100000 in
theorem JA (F : iI) (HF : oI F) (k : Nat) (g : Nat) (s0 : List S37) (s1 : Int) (s2 : Bool) (r : List (List S29)) (e1 : Int) (e2 : Bool) (w0 w : World) (hI : Rd 47 w0 w g s0 s1 s2) (hB : Below w0.heap.size w0 w) (h : aJ.f F k s0 s1 s2 = some (r, e1, e2)) :
 Calls Tryz.prog 111 #[.pointer (some ⟨g, 0, none⟩)] w (Back 47 w0 w g s0 e1 e2 (IsK w g r)) := by
 unfold aJ.f at h
 have HS := St.new (T := 47) (by decide) hI hB
 have H := ae.mk h
 clear h hI hB
 go_enter Tryz.func111, Tryz.ntmps111
 go_wp2_with (first | ((with_reducible refine gC 34 rfl ?_); refine sU 34 rfl Tryz.func34 (stT HS) H (fun q b hI hB => oN g _ _ _ _ q b w0 _ hI hB) ?_; clear HS H; intro q b w' HS H; (try dsimp only at H)))
 (try simp only [Act.put, List.setIfInBounds_toArray, List.set_cons_zero, List.set_cons_succ])
 go_loopg [3, 4] k (fun kq v3 v4 w' => ∃ (x3 : List (List S29)) (x4 : Int) (p : Int) (d : Bool) (A : Option Addr) (c : Nat), v3 = .slice A x3.length c ∧ v4 = .int .i64 x4 ∧ ae (aJ.l0 F kq x3 x4 s0 p d = some (r, e1, e2)) ∧ ae (kq ≤ k) ∧ St 47 w0 w w' g s0 p d [] [(.slice A x3.length c, x3)] ⟨[], []⟩)
 case atStart => exact ⟨[], 0, _, _, none, 0, rfl, rfl, H, ⟨Nat.le_refl _⟩, (stT HS).clear.uG⟩
 case round =>
  clear HS H
  obtain ⟨x3, x4, p, d, A, c, rfl, rfl, H, HK1, HS⟩ := hrel
  cases gk with
  | zero => exact absurd H.out (by simp [aJ.l0])
  | succ k1 =>
   simp only [aJ.l0] at H
   cases k1 with
   | zero => exact absurd H.out (by cases d <;> simp [aJ.j1])
   | succ k2 =>
   simp only [aJ.j1] at H
   have hc2 := HS.rd.cell2
   by_cases hx : x4 > 0
   all_goals
    simp only [hx, if_true, if_false] at H
    first | (have hxb : decide (0 < x4) = true := decide_eq_true hx) | (have hxb : decide (0 < x4) = false := decide_eq_false hx)
    clear hx
   all_goals
    cases d <;> (try simp only [if_true, if_false, eq_self, Bool.false_eq_true, Bool.not_true, Bool.not_false] at H)
   all_goals go_wp2_with (first | (go_at_call 78; refine cB HS H (fun t q b hI hB => isC g _ _ _ _ t q b w0 _ hI hB) ?_; clear HS H; intro t q b w' HS H; cases t <;> (try simp only [if_true, if_false, eq_self, Bool.false_eq_true, Bool.not_true, Bool.not_false] at H)) | ((with_reducible refine gC 34 rfl ?_); refine sU 34 rfl Tryz.func34 (stT HS) H (fun q b hI hB => oN g _ _ _ _ q b w0 _ hI hB) ?_; clear HS H; intro q b w' HS H; (try dsimp only at H)) | ((with_reducible refine gC 100 rfl ?_); refine sL 100 rfl Tryz.func100 (stT HS) H (fun t q b hI hB => HF.expr g _ _ _ t q b w0 _ hI hB) ?_; clear HS H; intro t q b w' A c HS H; (try dsimp only at H)) | ((with_reducible refine bH (N := 26) rfl ?_); refine kZ (N := 26) (stT HS) (by first | (go_simp; done) | (go_simp; rfl)) ?_; clear HS; intro A c w' HS) | ((with_reducible refine eu (b := .append) (xs := #[.tmp 23, .tmp 26]) rfl ?_); at_builtin; refine app (N := 27) (.tmp 23) (.tmp 26) rfl Tryz.underlying55 info23 (stT HS) rfl rfl H ?_; clear HS H; intro A c w' HS H))
   all_goals first
    | (go_roundg k2; (case measure => have := HK1.out; omega); (case rel => exact ⟨_, _, _, _, _, _, by first | rfl | simp, rfl, H, ⟨by have := HK1.out; omega⟩, stT HS⟩))
    | (have h_ := H.out; simp only [Option.some.injEq, Prod.mk.injEq] at h_; obtain ⟨rfl, rfl, rfl⟩ := h_; go_ret; exact (stT HS).Bv)
set_option maxHeartbeats 8000000 in
set_option maxRecDepth 100000 in
theorem IJ (k : Nat) (g : Nat) (s0 : List S37) (s1 : Int) (s2 : Bool) (r : List (List S29)) (e1 : Int) (e2 : Bool) (w0 w : World) (hI : Rd 47 w0 w g s0 s1 s2) (hB : Below w0.heap.size w0 w) (h : aH.f k s0 s1 s2 = some (r, e1, e2)) :
 Calls Tryz.prog 79 #[.pointer (some ⟨g, 0, none⟩)] w (Back 47 w0 w g s0 e1 e2 (IsK w g r)) := by
 unfold aH.f at h
 have HS := St.new (T := 47) (by decide) hI hB
 have H := ae.mk h
 clear h hI hB
 go_enter Tryz.func79, Tryz.ntmps79
 go_wp2_with (first | ((with_reducible refine gC 34 rfl ?_); refine sU 34 rfl Tryz.func34 (stT HS) H (fun q b hI hB => oN g _ _ _ _ q b w0 _ hI hB) ?_; clear HS H; intro q b w' HS H; (try dsimp only at H)))
 (try simp only [Act.put, List.setIfInBounds_toArray, List.set_cons_zero, List.set_cons_succ])
 go_loopg [3, 4] k (fun kq v3 v4 w' => ∃ (x3 : List (List S29)) (x4 : Int) (p : Int) (d : Bool) (A : Option Addr) (c : Nat), v3 = .slice A x3.length c ∧ v4 = .int .i64 x4 ∧ ae (aH.l0 kq x3 x4 s0 p d = some (r, e1, e2)) ∧ ae (kq ≤ k) ∧ St 47 w0 w w' g s0 p d [] [(.slice A x3.length c, x3)] ⟨[], []⟩)
 case atStart => exact ⟨[], 0, _, _, none, 0, rfl, rfl, H, ⟨Nat.le_refl _⟩, (stT HS).clear.uG⟩
 case round =>
  clear HS H
  obtain ⟨x3, x4, p, d, A, c, rfl, rfl, H, HK1, HS⟩ := hrel
  cases gk with
  | zero => exact absurd H.out (by simp [aH.l0])
  | succ k1 =>
   simp only [aH.l0] at H
   cases k1 with
   | zero => exact absurd H.out (by cases d <;> simp [aH.j1])
   | succ k2 =>
   simp only [aH.j1] at H
   have hc2 := HS.rd.cell2
   by_cases hx : x4 > 0
   all_goals
    simp only [hx, if_true, if_false] at H
    first | (have hxb : decide (0 < x4) = true := decide_eq_true hx) | (have hxb : decide (0 < x4) = false := decide_eq_false hx)
    clear hx
   all_goals
    cases d <;> (try simp only [if_true, if_false, eq_self, Bool.false_eq_true, Bool.not_true, Bool.not_false] at H)
   all_goals go_wp2_with (first | (go_at_call 78; refine cB HS H (fun t q b hI hB => isC g _ _ _ _ t q b w0 _ hI hB) ?_; clear HS H; intro t q b w' HS H; cases t <;> (try simp only [if_true, if_false, eq_self, Bool.false_eq_true, Bool.not_true, Bool.not_false] at H)) | ((with_reducible refine gC 34 rfl ?_); refine sU 34 rfl Tryz.func34 (stT HS) H (fun q b hI hB => oN g _ _ _ _ q b w0 _ hI hB) ?_; clear HS H; intro q b w' HS H; (try dsimp only at H)) | ((with_reducible refine gC 35 rfl ?_); refine sN 35 rfl Tryz.func35 (stT HS) H (fun t1 t2 t3 t4 q b hI hB => vk g _ _ _ _ t1 t2 t3 t4 q b w0 _ hI hB) ?_; clear HS H; intro t1 t2 t3 t4 q b w' HS H; (try dsimp only at H)) | ((with_reducible refine bH (N := 28) rfl ?_); refine xe (N := 28) (stT HS) (by first | (go_simp; done) | (go_simp; rfl)) ?_; clear HS; intro A c w' HS) | ((with_reducible refine bH (N := 29) rfl ?_); refine kZ (N := 29) (stT HS) (by first | (go_simp; done) | (go_simp; rfl)) ?_; clear HS; intro A c w' HS) | ((with_reducible refine eu (b := .append) (xs := #[.tmp 23, .tmp 29]) rfl ?_); at_builtin; refine app (N := 30) (.tmp 23) (.tmp 29) rfl Tryz.underlying55 info23 (stT HS) rfl rfl H ?_; clear HS H; intro A c w' HS H))
   all_goals first
    | (go_roundg k2; (case measure => have := HK1.out; omega); (case rel => exact ⟨_, _, _, _, _, _, by first | rfl | simp, rfl, H, ⟨by have := HK1.out; omega⟩, stT HS⟩))
    | (have h_ := H.out; simp only [Option.some.injEq, Prod.mk.injEq] at h_; obtain ⟨rfl, rfl, rfl⟩ := h_; go_ret; exact (stT HS).Bv)
end Go.Proofs.YtkbhkonenkgfoaaGreat.Q
end
section
namespace Go.Proofs.YtkbhkonenkgfoaaGreat.Q
open Go.RowKit Go.Proofs.YtkbhkonenkgfoaaGreatW.PrintWords Go.Proofs.YtkbhkonenkgfoaaGreatW.PrintLast Go.Proofs.YtkbhkonenkgfoaaGreatW.PrintMore
attribute [local go_sem] dJ dH dW dV dh df dI dG
set_option linter.unusedVariables false
set_option linter.unusedSimpArgs false
/-! ### aI: function 39 -/
mutual
def aI.l0 : Nat → List (S29) → Int → Int → Option (Int)
 | 0, _, _, _ => none
 | k + 1, x0, x5, x6 => if x6 < (x0.length : Int) then (if 0 ≤ x6 then (if ((ax x0 x6).f1) < 0 then (aI.j1 k x0 x5 x6 true) else (aI.j1 k x0 x5 x6 (decide (((ax x0 x6).f1) > (x0.length : Int))))) else (none)) else (some (-1))
def aI.j1 : Nat → List (S29) → Int → Int → Bool → Option (Int)
 | 0, _, _, _, _ => none
 | k + 1, x0, x5, x6, x31 => if x31 = true then (some (-1)) else (if 0 ≤ x6 then (if x6 < (x0.length : Int) then (if (wrap64 ((wrap64 (x5 - 1)) + ((ax x0 x6).f1))) = 0 then (some (wrap64 (x6 + 1))) else (aI.l0 k x0 (wrap64 ((wrap64 (x5 - 1)) + ((ax x0 x6).f1))) (wrap64 (x6 + 1)))) else (none)) else (none))
end
def aI.f (k : Nat) (l0 : List (S29)) (a1 : Int) : Option (Int) := if a1 < 0 then (some (-1)) else (aI.l0 k l0 1 a1)
theorem aI.bP : ∀ k, (∀ y0 y1 y2, LeO (aI.l0 k y0 y1 y2) (aI.l0 (k + 1) y0 y1 y2)) ∧ (∀ y0 y1 y2 y3, LeO (aI.j1 k y0 y1 y2 y3) (aI.j1 (k + 1) y0 y1 y2 y3))
 | 0 => ⟨fun _ _ _ r h => by simp [aI.l0] at h, fun _ _ _ _ r h => by simp [aI.j1] at h⟩
 | k + 1 => by
  obtain ⟨ih0, ih1⟩ := aI.bP k
  refine ⟨?_, ?_⟩
  ·intro y0 y1 y2
   unfold aI.l0
   exact yL
  intro y0 y1 y2 y3
  unfold aI.j1
  exact yL
theorem aI.mono : ∀ a0 a1 k, LeO (aI.f k a0 a1) (aI.f (k + 1) a0 a1) := by
 intro a0 a1 k
 obtain ⟨ih0, ih1⟩ := aI.bP k
 unfold aI.f
 exact yL
set_option maxHeartbeats 8000000 in
set_option maxRecDepth 100000 in
theorem aI.calls (k : Nat) (A0 : Option Addr) (c0 : Nat) (l0 : List (S29)) (a1 : Int) (r : Int) (w : World) (hr0 : Kd.C k29 w A0 l0.length l0) (hc0 : l0.length ≤ c0) (h : aI.f k l0 a1 = some r) :
 Calls Tryz.prog 39 #[.slice A0 l0.length c0, .int .i64 a1] w fun e w' => e = .returned (.int .i64 r) ∧ eF w w' := by
 have HR0 := ae.mk hr0
 have HC0 := ae.mk hc0
 clear hr0 hc0
 have H := h
 clear h
 unfold aI.f at H
 revert H
 refine iQ (fun c3b0 H => ?_) fun c3b0 H => ?_
 ·obtain rfl := Option.some.inj H
  go_enter Tryz.func39, Tryz.ntmps39
  go_wp2
  go_ret
  exact ⟨fT, Z0⟩
 have H' := ae.mk H
 clear H
 go_enter Tryz.func39, Tryz.ntmps39
 go_wp2
 go_loopg [5, 6] k (fun kq v5 v6 w' => ∃ (x5_1 : Int) (x6_1 : Int), v5 = .int .i64 x5_1 ∧ v6 = .int .i64 x6_1 ∧ ae (aI.l0 kq l0 x5_1 x6_1 = some r) ∧ ae (kq ≤ k) ∧ eF w w')
 case atStart => exact ⟨(1), (a1), fT, fT, H', ⟨Nat.le_refl _⟩, Z0⟩
 case round =>
  clear H'
  try clear p2
  try clear c3
  try clear c3b0
  obtain ⟨x5_1, x6_1, rfl, rfl, HA, HK1, ⟨m1, rfl⟩⟩ := hrel
  cases gk with
  | zero => exact absurd HA.out (by simp [aI.l0])
  | succ k1 =>
   have H := HA.out
   clear HA
   simp only [aI.l0] at H
   revert H
   refine iQ (fun c4b0 H => ?_) fun c4b0 H => ?_
   ·have HC5 := ae.mk H
    clear H
    go_upto_region 7 with (fail)
    go_cut [31] (fun v31 wc => ∃ (kq : Nat) (x31_4 : Bool), v31 = .bool x31_4 ∧ ae (aI.j1 kq l0 x5_1 x6_1 x31_4 = some r) ∧ ae (kq ≤ k1) ∧ eF w wc)
    case first =>
     have H := HC5.out
     clear HC5
     revert H
     refine gJ (fun c6b0 H => ?_) fun c6 H => ?_
     ·(first | rw [c6b0] | (simp only [gX, iP]; rw [c6b0]) | skip)
      revert H
      refine iQ (fun c7b0 H => ?_) fun c7b0 H => ?_
      ·have H' := ae.mk H
       clear H
       have p870 : 0 ≤ (x6_1 : Int) := of_decide_eq_true aT
       have q870 : x6_1 < (l0.length : Int) := of_decide_eq_true aT
       obtain ⟨ad870, e870, hx870_0, hx870_1, hx870_2, hx870_3, hx870_4⟩ := ja HR0.out x6_1 p870 q870
       cases e870
       replace p870 := eq_true p870
       replace q870 := eq_true q870
       go_wp2
       go_meet
       case rel => exact ⟨_, (true), fT, H', ⟨by have := HK1.out; first | omega | exact Nat.le_refl _⟩, Z0⟩
      have H' := ae.mk H
      clear H
      have p870 : 0 ≤ (x6_1 : Int) := of_decide_eq_true aT
      have q870 : x6_1 < (l0.length : Int) := of_decide_eq_true aT
      obtain ⟨ad870, e870, hx870_0, hx870_1, hx870_2, hx870_3, hx870_4⟩ := ja HR0.out x6_1 p870 q870
      cases e870
      replace p870 := eq_true p870
      replace q870 := eq_true q870
      have p871 : 0 ≤ (x6_1 : Int) := of_decide_eq_true aT
      have q871 : x6_1 < (l0.length : Int) := of_decide_eq_true aT
      obtain ⟨ad871, e871, hx871_0, hx871_1, hx871_2, hx871_3, hx871_4⟩ := ja HR0.out x6_1 p871 q871
      obtain rfl : ad870 = ad871 := (by injection e871)
      replace p871 := eq_true p871
      replace q871 := eq_true q871
      go_wp2
      go_meet
      case rel => exact ⟨_, (decide (((ax l0 x6_1).f1) > (l0.length : Int))), fT, H', ⟨by have := HK1.out; first | omega | exact Nat.le_refl _⟩, Z0⟩
     exact absurd H (by simp)
    case rest =>
     clear HC5
     try clear p2
     try clear c3
     try clear c3b0
     try clear c4
     try clear c4b0
     try clear c6
     try clear c6b0
     try clear c7
     try clear c7b0
     try clear hx870_0
     try clear hx870_1
     try clear hx870_2
     try clear hx870_3
     try clear hx870_4
     try clear hx871_0
     try clear hx871_1
     try clear hx871_2
     try clear hx871_3
     try clear hx871_4
     try clear p2
     try clear p870
     try clear p871
     try clear q870
     try clear q871
     obtain ⟨kq, x31_4, rfl, HA, HJ4, ⟨mc4, rfl⟩⟩ := hcut
     cases kq with
     | zero => exact absurd HA.out (by simp [aI.j1])
     | succ kj4 =>
      have H := HA.out
      clear HA
      simp only [aI.j1] at H
      cases x31_4
      rotate_left
      ·replace H := yT H
       obtain rfl := Option.some.inj H
       go_wp2
       go_ret
       exact ⟨fT, Z0⟩
      replace H := yF H
      revert H
      refine gJ (fun c9b0 H => ?_) fun c9 H => ?_
      ·revert H
       refine gJ (fun c10b0 H => ?_) fun c10 H => ?_
       ·revert H
        refine cZ (fun c11b0 c11b1 H => ?_) fun c11 c11b0 c11b1 H => ?_
        ·obtain rfl := Option.some.inj H
         have p872 : 0 ≤ (x6_1 : Int) := of_decide_eq_true aT
         have q872 : x6_1 < (l0.length : Int) := of_decide_eq_true aT
         obtain ⟨ad872, e872, hx872_0, hx872_1, hx872_2, hx872_3, hx872_4⟩ := ja HR0.out x6_1 p872 q872
         cases e872
         replace p872 := eq_true p872
         replace q872 := eq_true q872
         go_wp2
         go_ret
         exact ⟨fT, Z0⟩
        have H' := ae.mk H
        clear H
        have p872 : 0 ≤ (x6_1 : Int) := of_decide_eq_true aT
        have q872 : x6_1 < (l0.length : Int) := of_decide_eq_true aT
        obtain ⟨ad872, e872, hx872_0, hx872_1, hx872_2, hx872_3, hx872_4⟩ := ja HR0.out x6_1 p872 q872
        cases e872
        replace p872 := eq_true p872
        replace q872 := eq_true q872
        go_wp2
        go_roundg kj4
        case measure => have := HK1.out; have := HJ4.out; omega
        case rel => exact ⟨(wrap64 ((wrap64 (x5_1 - 1)) + ((ax l0 x6_1).f1))), (wrap64 (x6_1 + 1)), fT, fT, H', ⟨by have := HK1.out; have := HJ4.out; omega⟩, Z0⟩
       exact absurd H (by simp)
      exact absurd H (by simp)
   obtain rfl := Option.some.inj H
   go_wp2
   go_ret
   exact ⟨fT, Z0⟩
end Go.Proofs.YtkbhkonenkgfoaaGreat.Q
end
section
namespace Go.Proofs.YtkbhkonenkgfoaaGreat.Q
open Go.RowKit Go.Proofs.YtkbhkonenkgfoaaGreatW.PrintWords Go.Proofs.YtkbhkonenkgfoaaGreatW.PrintLast Go.Proofs.YtkbhkonenkgfoaaGreatW.PrintMore
attribute [local go_sem] iW iV iU iR dJ dH dW dV dh df dI dG
set_option linter.unusedVariables false
set_option linter.unusedSimpArgs false
/-! ### bF: function 41 -/
def bF.l0 : Nat → List (S29) → Int → List Int → Int → Int → Option (List Int)
 | 0, _, _, _, _, _ => none
 | k + 1, x0, x1, x5, x6, x7 => if 0 ≤ x1 then (if x1 < (x0.length : Int) then (if x7 < ((ax x0 x1).f1) then (if x5.length < 17592186044416 then ((aI.f k x0 x6).bind fun t878 => (bF.l0 k x0 x1 (x5 ++ [x6]) t878 (wrap64 (x7 + 1)))) else (none)) else (some x5)) else (none)) else (none)
def bF.f (k : Nat) (l0 : List (S29)) (a1 : Int) : Option (List Int) := (aI.f k l0 a1).bind fun t873 => (if t873 < 0 then (some ([] : List Int)) else (bF.l0 k l0 a1 ([] : List Int) (wrap64 (a1 + 1)) 0))
theorem bF.bP : ∀ k, (∀ y0 y1 y2 y3 y4, LeO (bF.l0 k y0 y1 y2 y3 y4) (bF.l0 (k + 1) y0 y1 y2 y3 y4))
 | 0 => fun _ _ _ _ _ r h => by simp [bF.l0] at h
 | k + 1 => by
  have ih0 := bF.bP k
  intro y0 y1 y2 y3 y4
  unfold bF.l0
  have m0 := aI.mono
  exact yL
theorem bF.mono : ∀ a0 a1 k, LeO (bF.f k a0 a1) (bF.f (k + 1) a0 a1) := by
 intro a0 a1 k
 have ih0 := bF.bP k
 unfold bF.f
 have m0 := aI.mono
 exact yL
set_option maxHeartbeats 8000000 in
set_option maxRecDepth 100000 in
theorem bF.calls (k : Nat) (A0 : Option Addr) (c0 : Nat) (l0 : List (S29)) (a1 : Int) (r : List Int) (w : World) (hr0 : Kd.C k29 w A0 l0.length l0) (hc0 : l0.length ≤ c0) (h : bF.f k l0 a1 = some r) :
 Calls Tryz.prog 41 #[.slice A0 l0.length c0, .int .i64 a1] w fun e w' => ∃ v0_ : Value, e = .returned (v0_) ∧ Kd.R (Kd.int .i64) 3 w' w.heap.size (fun _ => True) v0_ r ∧ Below w.heap.size w w' := by
 have HR0 := ae.mk hr0
 have HC0 := ae.mk hc0
 clear hr0 hc0
 have HB := ae.mk (Below.refl w.heap.size w)
 have H := h
 clear h
 unfold bF.f at H
 revert H
 refine yB1 fun t873 A3 H => ?_
 revert H
 refine iQ (fun c4b0 H => ?_) fun c4b0 H => ?_
 ·obtain rfl := Option.some.inj H
  go_enter Tryz.func41, Tryz.ntmps41
  go_wp2_with (first | ((with_reducible refine gC 39 rfl ?_); refine gM 39 10 rfl Tryz.func39 (aI.calls k _ _ l0 a1 t873 _ Z8 HC0.out A3.out) ?_; rintro _ w' ⟨rfl, ⟨nd, rfl⟩⟩; refine ⟨_, rfl, ?_⟩))
  go_ret
  exact ⟨_, Z7, Z4, Z1⟩
 have H' := ae.mk H
 clear H
 go_enter Tryz.func41, Tryz.ntmps41
 go_wp2_with (first | ((with_reducible refine gC 39 rfl ?_); refine gM 39 10 rfl Tryz.func39 (aI.calls k _ _ l0 a1 t873 _ Z8 HC0.out A3.out) ?_; rintro _ w' ⟨rfl, ⟨nd, rfl⟩⟩; refine ⟨_, rfl, ?_⟩))
 (try simp only [Act.put, List.setIfInBounds_toArray, List.set_cons_zero, List.set_cons_succ])
 go_loopg [5, 6, 7] k (fun kq v5 v6 v7 w' => ∃ (x5_1 : List Int) (x6_1 : Int) (x7_1 : Int), v6 = .int .i64 x6_1 ∧ v7 = .int .i64 x7_1 ∧ ae (bF.l0 kq l0 a1 x5_1 x6_1 x7_1 = some r) ∧ ae (kq ≤ k) ∧ ae (Kd.R (Kd.int .i64) 3 w' w.heap.size (fun _ => True) v5 x5_1) ∧ ae (Below w.heap.size w w'))
 case atStart => exact ⟨(([] : List Int)), (wrap64 (a1 + 1)), (0), Z19, Z19, H', ⟨Nat.le_refl _⟩, ⟨Z4⟩, ⟨Z1⟩⟩
 case round =>
  clear H'
  try clear p2
  try clear c3
  try clear c4
  try clear c4b0
  obtain ⟨x5_1, x6_1, x7_1, rfl, rfl, HA, HK1, HO_5, HB⟩ := hrel
  cases gk with
  | zero => exact absurd HA.out (by simp [bF.l0])
  | succ k1 =>
   have H := HA.out
   clear HA
   simp only [bF.l0] at H
   revert H
   refine gJ (fun c5b0 H => ?_) fun c5 H => ?_
   ·revert H
    refine gJ (fun c6b0 H => ?_) fun c6 H => ?_
    ·revert H
     refine iQ (fun c7b0 H => ?_) fun c7b0 H => ?_
     ·revert H
      refine iC (fun c8 H => ?_) fun c8 H => ?_
      ·have LMc8 := ae.mk c8
       clear c8
       obtain ⟨y875, hy875⟩ : ∃ y_ : List Int, y_ = (x5_1 ++ [x6_1]) := ⟨_, rfl⟩
       replace H : ((aI.f k1 l0 x6_1).bind fun t878 => (bF.l0 k1 l0 a1 y875 t878 (wrap64 (x7_1 + 1)))) = some r := by first | (rw [hy875]; with_reducible exact H) | (have H2_ := (Option.bind_some _ _).symm.trans H; rw [hy875]; with_reducible exact H2_) | (have H2_ := (Option.bind_some _ _).symm.trans H; with_reducible exact H2_) | with_reducible exact H | (rw [hy875]; exact H) | exact H
       have Ny875 := ae.mk hy875
       clear hy875
       revert H
       refine yB1 fun t878 A9 H => ?_
       have H' := ae.mk H
       clear H
       have p874 : 0 ≤ (a1 : Int) := of_decide_eq_true Z10
       have q874 : a1 < (l0.length : Int) := of_decide_eq_true Z10
       obtain ⟨ad874, e874, hx874_0, hx874_1, hx874_2, hx874_3, hx874_4⟩ := ja HR0.out a1 p874 q874
       cases e874
       replace hx874_0 := (HB.out.cell (World.block_lt_of_cell? w _ hx874_0)).trans hx874_0
       replace hx874_1 := (HB.out.cell (World.block_lt_of_cell? w _ hx874_1)).trans hx874_1
       replace hx874_2 := (HB.out.cell (World.block_lt_of_cell? w _ hx874_2)).trans hx874_2
       replace hx874_3 := (HB.out.cell (World.block_lt_of_cell? w _ hx874_3)).trans hx874_3
       replace hx874_4 := (HB.out.cell (World.block_lt_of_cell? w _ hx874_4)).trans hx874_4
       replace p874 := eq_true p874
       replace q874 := eq_true q874
       go_wp2_with (first | ((with_reducible refine eu (b := .append) (xs := #[.tmp 24, .tmp 26]) rfl ?_); at_builtin; refine Kd.jW (Kd.int .i64) (w0 := w) w.heap.size rfl (.tmp 24) (.tmp 26) 60 3 (.int .i64 0) 8 rfl Tryz.underlying60 info3 rfl (by decide) (by omega) u5 x5_1 x6_1 [.int .i64 x6_1] (fun _ => True) (fun _ => False) rfl rfl ?aP (fun _ hk => hk.elim) ?aF ?aO ?aB ?aS ?aL ?_; (case aP => exact rfl); (case aB => exact Z1); (case aF => exact (fun _ _ => trivial)); (case aO => exact Z33); (case aS => exact (bY Z1)); (case aL => have := LMc8.out; omega); intro v876 w10 ho hb hg hat; rw [← Ny875.out] at ho; refine yA2 (hb) (ho) ?_; clear HB HO_5; intro HB HO877; clear ho hb hg hat) | ((with_reducible refine gC 39 rfl ?_); refine gM 39 30 rfl Tryz.func39 (aI.calls k1 _ _ l0 x6_1 t878 _ Z6 HC0.out A9.out) ?_; rintro _ w' ⟨rfl, ⟨nd, rfl⟩⟩; refine ⟨_, rfl, ?_⟩))
       go_roundg k1
       case measure => have := HK1.out; omega
       case rel => exact ⟨(y875), (t878), (wrap64 (x7_1 + 1)), Z19, Z19, H', ⟨by have := HK1.out; omega⟩, ⟨by (with_reducible repeat (first | apply Kd.iw | apply Kd.ik | apply Kd.jb)); exact HO877.out⟩, ⟨Z1⟩⟩
      exact absurd H (by simp)
     obtain rfl := Option.some.inj H
     have p874 : 0 ≤ (a1 : Int) := of_decide_eq_true Z10
     have q874 : a1 < (l0.length : Int) := of_decide_eq_true Z10
     obtain ⟨ad874, e874, hx874_0, hx874_1, hx874_2, hx874_3, hx874_4⟩ := ja HR0.out a1 p874 q874
     cases e874
     replace hx874_0 := (HB.out.cell (World.block_lt_of_cell? w _ hx874_0)).trans hx874_0
     replace hx874_1 := (HB.out.cell (World.block_lt_of_cell? w _ hx874_1)).trans hx874_1
     replace hx874_2 := (HB.out.cell (World.block_lt_of_cell? w _ hx874_2)).trans hx874_2
     replace hx874_3 := (HB.out.cell (World.block_lt_of_cell? w _ hx874_3)).trans hx874_3
     replace hx874_4 := (HB.out.cell (World.block_lt_of_cell? w _ hx874_4)).trans hx874_4
     replace p874 := eq_true p874
     replace q874 := eq_true q874
     go_wp2
     go_ret
     exact ⟨_, Z7, Z33, Z1⟩
    exact absurd H (by simp)
   exact absurd H (by simp)
-- BY HAND: function 122 (runtime_TypeAssertionError_Error)
/-! ### dR: function 99 -/
def dR.f (F : iI) (k : Nat) (s0_0 : List (S37)) (s0_1 : Int) (s0_2 : Bool) (a1_0 : Int) (a1_1 : Int) (a1_2 : ByteArray) (a1_3 : Int) (a1_4 : ByteArray) : Option ((List (S29)) × Int × Bool) := (lG.f F k s0_0 s0_1 s0_2).bind fun bt880 => ((bi.f s0_0 bt880.2.1 bt880.2.2 (⟨#[59]⟩ : ByteArray)).bind fun bt885 => ((aC.f k a1_0 a1_1 a1_2 a1_3 a1_4 (([bt880.1] : List (List (S29))))).bind fun t890 => (some (t890, bt885.1, bt885.2))))
theorem dR.mono {F F' : iI} (HLE : kw F F') : ∀ a0 a1 a2 a3 a4 a5 a6 a7 k, LeO (dR.f F k a0 a1 a2 a3 a4 a5 a6 a7) (dR.f F' (k + 1) a0 a1 a2 a3 a4 a5 a6 a7) := by
 intro a0 a1 a2 a3 a4 a5 a6 a7 k
 unfold dR.f
 have m0 := aC.mono
 have m1 := (lG.mono HLE)
 exact yL
/-! ### fB: function 101 -/
def fB.f (k : Nat) (l0 : List (S29)) (a1 : Int) : Option ((List (S29))) := (aI.f k l0 a1).bind fun t893 => (if t893 < 0 then (some ([] : List (S29))) else (if 0 ≤ a1 then (if a1 ≤ t893 then (if t893 ≤ (l0.length : Int) then ((some ((l0.take (t893 : Int).toNat).drop (a1 : Int).toNat : List (S29))).bind fun y894 => (if ([] : List (S29)).length + y894.length < 2513169434916 then (some (([] : List (S29)) ++ y894)) else (none))) else (none)) else (none)) else (none)))
theorem fB.mono : ∀ a0 a1 k, LeO (fB.f k a0 a1) (fB.f (k + 1) a0 a1) := by
 intro a0 a1 k
 unfold fB.f
 have m0 := aI.mono
 exact yL
set_option maxHeartbeats 8000000 in
set_option maxRecDepth 100000 in
theorem fB.calls (k : Nat) (A0 : Option Addr) (c0 : Nat) (l0 : List (S29)) (a1 : Int) (r : List (S29)) (w : World) (hr0 : Kd.C k29 w A0 l0.length l0) (hc0 : l0.length ≤ c0) (h : fB.f k l0 a1 = some r) :
 Calls Tryz.prog 101 #[.slice A0 l0.length c0, .int .i64 a1] w fun e w' => ∃ v0_ : Value, e = .returned (v0_) ∧ Kd.R k29 29 w' w.heap.size (fun _ => True) v0_ r ∧ Below w.heap.size w w' := by
 have HR0 := ae.mk hr0
 have HC0 := ae.mk hc0
 clear hr0 hc0
 have HB := ae.mk (Below.refl w.heap.size w)
 have H := h
 clear h
 unfold fB.f at H
 revert H
 refine yB1 fun t893 A3 H => ?_
 revert H
 refine iQ (fun c4b0 H => ?_) fun c4b0 H => ?_
 ·obtain rfl := Option.some.inj H
  go_enter Tryz.func101, Tryz.ntmps101
  go_wp2_with (first | ((with_reducible refine gC 39 rfl ?_); refine gM 39 9 rfl Tryz.func39 (aI.calls k _ _ l0 a1 t893 _ Z8 HC0.out A3.out) ?_; rintro _ w' ⟨rfl, ⟨nd, rfl⟩⟩; refine ⟨_, rfl, ?_⟩))
  go_ret
  exact ⟨_, Z7, Z4, Z1⟩
 revert H
 refine jO (fun c5b0 c5b1 H => ?_) fun c5 H => ?_
 ·revert H
  refine jO (fun c6b0 c6b1 H => ?_) fun c6 H => ?_
  ·revert H
   refine jO (fun c7b0 c7b1 H => ?_) fun c7 H => ?_
   ·obtain ⟨y894, hy894⟩ : ∃ y_ : List (S29), y_ = ((l0.take (t893 : Int).toNat).drop (a1 : Int).toNat) := ⟨_, rfl⟩
    replace H : (if ([] : List (S29)).length + y894.length < 2513169434916 then (some (([] : List (S29)) ++ y894)) else (none)) = some r := by first | (rw [hy894]; with_reducible exact H) | (have H2_ := (Option.bind_some _ _).symm.trans H; rw [hy894]; with_reducible exact H2_) | (have H2_ := (Option.bind_some _ _).symm.trans H; with_reducible exact H2_) | with_reducible exact H | (rw [hy894]; exact H) | exact H
    have Ny894 := ae.mk hy894
    clear hy894
    revert H
    refine iC (fun c8 H => ?_) fun c8 H => ?_
    ·have LMc8 := ae.mk c8
     clear c8
     obtain ⟨y898, hy898⟩ : ∃ y_ : List (S29), y_ = (([] : List (S29)) ++ y894) := ⟨_, rfl⟩
     replace H : (some y898) = some r := by first | (rw [hy898]; with_reducible exact H) | (have H2_ := (Option.bind_some _ _).symm.trans H; rw [hy898]; with_reducible exact H2_) | (have H2_ := (Option.bind_some _ _).symm.trans H; with_reducible exact H2_) | with_reducible exact H | (rw [hy898]; exact H) | exact H
     have Ny898 := ae.mk hy898
     clear hy898
     obtain rfl := Option.some.inj H
     go_enter Tryz.func101, Tryz.ntmps101
     go_wp2_with (first | ((with_reducible refine gC 39 rfl ?_); refine gM 39 9 rfl Tryz.func39 (aI.calls k _ _ l0 a1 t893 _ Z8 HC0.out A3.out) ?_; rintro _ w' ⟨rfl, ⟨nd, rfl⟩⟩; refine ⟨_, rfl, ?_⟩; have q9 : (t893 : Int) ≤ ((l0.length : Int) : Int) := of_decide_eq_true Z10; obtain ⟨i09, hi09, _, hsz9, _⟩ := info_parts uJ; have hroom9 : l0.length ≤ c0 := HC0.out; have hC9 : Kd.C k29 _ A0 l0.length l0 := HR0.out; have ql9 : (a1 : Int) ≤ (t893 : Int) := of_decide_eq_true Z10; have q09 : (0 : Int) ≤ (a1 : Int) := of_decide_eq_true Z10; have hcut9 := DD (P := Tryz.prog) 23 29 .i64 .i64 Tryz.underlying23 hi09 5 hsz9 A0 l0.length c0 a1 t893 q09 ql9 q9 hroom9; have hr9 := Kd.JF (lo := (a1 : Int).toNat) (hi := (t893 : Int).toNat) (c := c0) hC9 (by omega) (by omega) hroom9; obtain ⟨A9, hA9⟩ : ∃ A1, A1 = (if c0 = (a1 : Int).toNat then A0 else (A0 : Option Addr).map (·.add ((a1 : Int).toNat * 5))) := ⟨_, rfl⟩; obtain ⟨c9, hc9⟩ : ∃ c1, c1 = c0 - (a1 : Int).toNat := ⟨_, rfl⟩; have hy9 : y894.length = (t893 : Int).toNat - (a1 : Int).toNat := (by rw [Ny894.out, List.length_drop, List.length_take] <;> omega); rw [show ((l0).take (t893 : Int).toNat).drop (a1 : Int).toNat = y894 from Ny894.out.symm] at hr9; replace hr9 : Kd.C k29 _ A9 y894.length y894 := (by rw [hA9]; exact hr9); rw [← hy9, ← hA9, ← hc9] at hcut9; have HR897 := ae.mk hr9; have HC897 := ae.mk (show y894.length ≤ c9 from by rw [hy9, hc9]; exact Nat.sub_le_sub_right (Nat.le_trans (by omega) hroom9) _); clear hr9 hC9 hroom9 hi09 hsz9 hc9; have KY9 := ae.mk hy9; have KA9 := ae.mk hA9; clear hy9 hA9; replace q9 := eq_true q9) | ((with_reducible refine eu (b := .append) (xs := #[.tmp 13, .tmp 17]) rfl ?_); at_builtin; refine Kd.lN k29 (w0 := w) w.heap.size rfl (.tmp 13) (.tmp 17) 23 29 (.agg #[(.int .i64 0), (.int .i64 0), (.string ⟨#[]⟩), (.int .i64 0), (.string ⟨#[]⟩)]) 56 rfl Tryz.underlying23 uJ rfl (by decide) (by omega) (.slice none 0 0) ([] : List (S29)) y894 _ _ _ (fun _ => True) (fun _ => False) rfl rfl ?aO ?aR (fun _ _ h => h) (fun _ h => h.elim) ?aF ?aB ?aS ?aL ?_; (case aR => repeat (first | exact HR897.out | (with_reducible refine Kd.jY ?_ _) | (with_reducible refine Kd.jX ?_ _) | (with_reducible refine Kd.lu ?_))); (case aB => exact Z1); (case aF => exact (fun _ _ => trivial)); (case aO => exact ((Kd.oG _ _ _ _ (fun _ => True)))); (case aS => exact (bY Z1)); (case aL => have := LMc8.out; omega); intro v899 w10 ho hb hg hat; rw [← Ny898.out] at ho; refine yA2 (hb) (ho) ?_; clear HB; intro HB HO900; clear ho hb hg hat))
     go_ret
     exact ⟨_, Z7, by (with_reducible repeat (first | apply Kd.iw | apply Kd.ik | apply Kd.jb)); exact HO900.out, Z1⟩
    exact absurd H (by simp)
   exact absurd H (by simp)
  exact absurd H (by simp)
 exact absurd H (by simp)
-- BY HAND: function 123 (runtime_TypeAssertionError_RuntimeError)
end Go.Proofs.YtkbhkonenkgfoaaGreat.Q
end
section
set_option linter.unusedVariables false
set_option linter.unusedSimpArgs false
namespace Go.Proofs.YtkbhkonenkgfoaaGreat.Q
open Go Go.RowKit Go.Proofs.YtkbhkonenkgfoaaGreatW.PrintWords Go.Proofs.YtkbhkonenkgfoaaGreatW.PrintLast Go.Proofs.YtkbhkonenkgfoaaGreatW.PrintMore
attribute [local go_sem] lK lJ lI lH
set_option maxHeartbeats 8000000 in
set_option maxRecDepth 100000 in
theorem G7 (F : iI) (HF : oI F) (k : Nat) (g : Nat) (s0 : List S37) (s1 : Int) (s2 : Bool) (a0 : Int) (a1 : Int) (a2 : ByteArray) (a3 : Int) (a4 : ByteArray) (r : List S29) (e1 : Int) (e2 : Bool) (w0 w : World) (hI : Rd 47 w0 w g s0 s1 s2) (hB : Below w0.heap.size w0 w) (h : dR.f F k s0 s1 s2 a0 a1 a2 a3 a4 = some (r, e1, e2)) :
 Calls Tryz.prog 99 #[.pointer (some ⟨g, 0, none⟩), .agg #[.int .i64 a0, .int .i64 a1, .string a2, .int .i64 a3, .string a4]] w (Back 47 w0 w g s0 e1 e2 (IsL w r)) := by
 unfold dR.f at h
 have HS := St.new (T := 47) (by decide) hI hB
 have H := ae.mk h
 clear h hI hB
 go_enter Tryz.func99, Tryz.ntmps99
 go_wp2_with (first | ((with_reducible refine bH (N := 3) rfl ?_); refine boxS (N := 3) (stT HS) (by first | (go_simp; done) | (go_simp; rfl)) ?_; clear HS; intro gb w' HS hne hge) | ((with_reducible refine gC 100 rfl ?_); refine sL 100 rfl Tryz.func100 (stT HS) H (fun t q b hI hB => HF.expr g _ _ _ t q b w0 _ hI hB) ?_; clear HS H; intro t q b w' A c HS H; (try dsimp only at H)) | ((with_reducible refine gC 34 rfl ?_); refine sU 34 rfl Tryz.func34 (stT HS) H (fun q b hI hB => oN g _ _ _ _ q b w0 _ hI hB) ?_; clear HS H; intro q b w' HS H; (try dsimp only at H); have hb_ := HS.box rfl; have hx0 := (aj hb_ 0).trans rfl; have hx1 := (aj hb_ 1).trans rfl; have hx2 := (aj hb_ 2).trans rfl; have hx3 := (aj hb_ 3).trans rfl; have hx4 := (aj hb_ 4).trans rfl; clear hb_) | ((with_reducible refine bH (N := 12) rfl ?_); refine kZ (N := 12) (stT HS) (by first | (go_simp; done) | (go_simp; rfl)) ?_; clear HS; intro A c w' HS) | ((with_reducible refine gC 37 rfl ?_); refine sJ 37 rfl Tryz.func37 (stT HS) H (fun t hr hc => qH _ _ _ _ _ _ _ _ _ t _ hr hc) ?_; clear HS H; intro t w' A c HS H; (try dsimp only at H)))
 all_goals
  have h_ := H.out; simp only [Option.some.injEq, Prod.mk.injEq] at h_; obtain ⟨rfl, rfl, rfl⟩ := h_
  go_ret
  exact (stT HS).jD (.head _)
end Go.Proofs.YtkbhkonenkgfoaaGreat.Q
end
section
namespace Go.Proofs.YtkbhkonenkgfoaaGreat.Q
open Go.RowKit Go.Proofs.YtkbhkonenkgfoaaGreatW.PrintWords Go.Proofs.YtkbhkonenkgfoaaGreatW.PrintLast Go.Proofs.YtkbhkonenkgfoaaGreatW.PrintMore
attribute [local go_sem] iW iV iU iR dJ dH dW dV dh df dI dG
set_option linter.unusedVariables false
set_option linter.unusedSimpArgs false
/-! ### bJ: function 94 -/
def bJ.j0 (F : iI) : Nat → List (S29) → Bool → List (S37) → Int → Bool → Option ((List (S29)) × Int × Bool)
 | 0, _, _, _, _, _ => none
 | k + 1, x7, x101, x1000, x1001, x1002 => if x101 = true then ((bi.f x1000 x1001 x1002 (⟨#[59]⟩ : ByteArray)).bind fun bt1025 => ((aC.f k 17 0 (⟨#[]⟩ : ByteArray) 0 (⟨#[]⟩ : ByteArray) (([x7] : List (List (S29))))).bind fun t1030 => (some (t1030, bt1025.1, bt1025.2)))) else (if 0 < (x7.length : Int) then (if ((ax x7 0).f0) = 21 then ((bi.f x1000 x1001 x1002 (⟨#[61]⟩ : ByteArray)).bind fun bt1034 => ((dR.f F k x1000 bt1034.1 bt1034.2 7 0 ((ax x7 0).f2) 0 (⟨#[]⟩ : ByteArray)).bind fun bt1037 => (some (bt1037.1, bt1037.2.1, bt1037.2.2)))) else (if ((ax x7 0).f0) = 26 then ((bi.f x1000 x1001 x1002 (⟨#[61]⟩ : ByteArray)).bind fun bt1043 => ((lG.f F k x1000 bt1043.1 bt1043.2).bind fun bt1045 => ((bi.f x1000 bt1045.2.1 bt1045.2.2 (⟨#[59]⟩ : ByteArray)).bind fun bt1050 => ((bF.f k x7 0).bind fun t1052 => (if 0 < (t1052.length : Int) then ((fB.f k x7 (rd t1052 0)).bind fun t1056 => (if 1 < (t1052.length : Int) then ((fB.f k x7 (rd t1052 1)).bind fun t1060 => ((aC.f k 8 0 (⟨#[]⟩ : ByteArray) 0 (⟨#[]⟩ : ByteArray) (([t1056, t1060, bt1045.1] : List (List (S29))))).bind fun t1066 => (some (t1066, bt1050.1, bt1050.2)))) else (none))) else (none)))))) else (some (([] : List (S29)), x1001, true)))) else (none))
def bJ.f (F : iI) (k : Nat) (s0_0 : List (S37)) (s0_1 : Int) (s0_2 : Bool) : Option ((List (S29)) × Int × Bool) := (bG.f s0_0 s0_1 s0_2 (⟨#[108, 101, 116]⟩ : ByteArray)).bind fun bt901 => (if bt901.1 = true then ((jT.f s0_0 bt901.2.1 bt901.2.2 1).bind fun bt904 => ((bi.f s0_0 bt904.2.2.2.2.1 bt904.2.2.2.2.2 (⟨#[61]⟩ : ByteArray)).bind fun bt910 => ((dR.f F k s0_0 bt910.1 bt910.2 6 0 bt904.2.1 0 (⟨#[]⟩ : ByteArray)).bind fun bt912 => (some (bt912.1, bt912.2.1, bt912.2.2))))) else ((bG.f s0_0 bt901.2.1 bt901.2.2 (⟨#[105, 102]⟩ : ByteArray)).bind fun bt917 => (if bt917.1 = true then ((lG.f F k s0_0 bt917.2.1 bt917.2.2).bind fun bt920 => ((qy.f F k s0_0 bt920.2.1 bt920.2.2).bind fun bt925 => ((some (([bt920.1, bt925.1] : List (List (S29))) : List (List (S29)))).bind fun y930 => ((bG.f s0_0 bt925.2.1 bt925.2.2 (⟨#[101, 108, 115, 101]⟩ : ByteArray)).bind fun bt933 => (if bt933.1 = true then ((qy.f F k s0_0 bt933.2.1 bt933.2.2).bind fun bt936 => (if y930.length < 5864062014805 then ((aC.f k 9 0 (⟨#[]⟩ : ByteArray) 0 (⟨#[]⟩ : ByteArray) (y930 ++ [bt936.1])).bind fun t944 => (some (t944, bt936.2.1, bt936.2.2))) else (none))) else ((aC.f k 9 0 (⟨#[]⟩ : ByteArray) 0 (⟨#[]⟩ : ByteArray) y930).bind fun t947 => (some (t947, bt933.2.1, bt933.2.2)))))))) else ((bG.f s0_0 bt917.2.1 bt917.2.2 (⟨#[119, 104, 105, 108, 101]⟩ : ByteArray)).bind fun bt950 => (if bt950.1 = true then ((lG.f F k s0_0 bt950.2.1 bt950.2.2).bind fun bt953 => ((qy.f F k s0_0 bt953.2.1 bt953.2.2).bind fun bt958 => ((aC.f k 10 0 (⟨#[]⟩ : ByteArray) 0 (⟨#[]⟩ : ByteArray) (([bt953.1, bt958.1] : List (List (S29))))).bind fun t966 => (some (t966, bt958.2.1, bt958.2.2))))) else ((bG.f s0_0 bt950.2.1 bt950.2.2 (⟨#[98, 114, 101, 97, 107]⟩ : ByteArray)).bind fun bt969 => (if bt969.1 = true then ((bi.f s0_0 bt969.2.1 bt969.2.2 (⟨#[59]⟩ : ByteArray)).bind fun bt972 => (some ((([(⟨11, 0, (⟨#[]⟩ : ByteArray), 0, (⟨#[]⟩ : ByteArray)⟩ : S29)] : List (S29))), bt972.1, bt972.2))) else ((bG.f s0_0 bt969.2.1 bt969.2.2 (⟨#[99, 111, 110, 116, 105, 110, 117, 101]⟩ : ByteArray)).bind fun bt977 => (if bt977.1 = true then ((bi.f s0_0 bt977.2.1 bt977.2.2 (⟨#[59]⟩ : ByteArray)).bind fun bt980 => (some ((([(⟨12, 0, (⟨#[]⟩ : ByteArray), 0, (⟨#[]⟩ : ByteArray)⟩ : S29)] : List (S29))), bt980.1, bt980.2))) else ((bG.f s0_0 bt977.2.1 bt977.2.2 (⟨#[121, 105, 101, 108, 100]⟩ : ByteArray)).bind fun bt985 => (if bt985.1 = true then ((bi.f s0_0 bt985.2.1 bt985.2.2 (⟨#[59]⟩ : ByteArray)).bind fun bt988 => (some ((([(⟨16, 0, (⟨#[]⟩ : ByteArray), 0, (⟨#[]⟩ : ByteArray)⟩ : S29)] : List (S29))), bt988.1, bt988.2))) else ((bG.f s0_0 bt985.2.1 bt985.2.2 (⟨#[114, 101, 116, 117, 114, 110]⟩ : ByteArray)).bind fun bt993 => (if bt993.1 = true then ((dR.f F k s0_0 bt993.2.1 bt993.2.2 13 0 (⟨#[]⟩ : ByteArray) 0 (⟨#[]⟩ : ByteArray)).bind fun bt996 => (some (bt996.1, bt996.2.1, bt996.2.2))) else ((bG.f s0_0 bt993.2.1 bt993.2.2 (⟨#[112, 117, 116]⟩ : ByteArray)).bind fun bt1001 => (if bt1001.1 = true then ((dR.f F k s0_0 bt1001.2.1 bt1001.2.2 14 0 (⟨#[]⟩ : ByteArray) 0 (⟨#[]⟩ : ByteArray)).bind fun bt1004 => (some (bt1004.1, bt1004.2.1, bt1004.2.2))) else ((bG.f s0_0 bt1001.2.1 bt1001.2.2 (⟨#[101, 109, 105, 116]⟩ : ByteArray)).bind fun bt1009 => (if bt1009.1 = true then ((dR.f F k s0_0 bt1009.2.1 bt1009.2.2 15 0 (⟨#[]⟩ : ByteArray) 0 (⟨#[]⟩ : ByteArray)).bind fun bt1012 => (some (bt1012.1, bt1012.2.1, bt1012.2.2))) else ((lG.f F k s0_0 bt1009.2.1 bt1009.2.2).bind fun bt1017 => (if bt1017.2.2 = true then (bJ.j0 F k bt1017.1 true s0_0 bt1017.2.1 bt1017.2.2) else ((fC.f s0_0 bt1017.2.1 bt1017.2.2 (⟨#[61]⟩ : ByteArray)).bind fun bt1022 => (bJ.j0 F k bt1017.1 (!bt1022.1) s0_0 bt1022.2.1 bt1022.2.2)))))))))))))))))))))
theorem bJ.bP {F F' : iI} (HLE : kw F F') : ∀ k, (∀ y0 y1 y2 y3 y4, LeO (bJ.j0 F k y0 y1 y2 y3 y4) (bJ.j0 F' (k + 1) y0 y1 y2 y3 y4))
 | 0 => fun _ _ _ _ _ r h => by simp [bJ.j0] at h
 | k + 1 => by
  have ih0 := bJ.bP HLE k
  intro y0 y1 y2 y3 y4
  unfold bJ.j0
  have m0 := bF.mono
  have m1 := fB.mono
  have m2 := aC.mono
  have m3 := (dR.mono HLE)
  have m4 := (qy.mono HLE)
  have m5 := (lG.mono HLE)
  exact yL
theorem bJ.mono {F F' : iI} (HLE : kw F F') : ∀ a0 a1 a2 k, LeO (bJ.f F k a0 a1 a2) (bJ.f F' (k + 1) a0 a1 a2) := by
 intro a0 a1 a2 k
 have ih0 := bJ.bP HLE k
 unfold bJ.f
 have m0 := bF.mono
 have m1 := fB.mono
 have m2 := aC.mono
 have m3 := (dR.mono HLE)
 have m4 := (qy.mono HLE)
 have m5 := (lG.mono HLE)
 exact yL
end Go.Proofs.YtkbhkonenkgfoaaGreat.Q
end
