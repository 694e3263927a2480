/- Walks over functions of the program, words for them, and what the functions come to; of each text only what this claim uses; no condition. -/
import Derived.Test.YtendgafpkeadhaaZRO0
import Derived.Test.YtendgafpkeadhaaZRO1
import Derived.Test.YtendgafpkeadhaaZRO3
import Derived.Test.YtendgafpkeadhaaZRO14
import Derived.Test.YtendgafpkeadhaaZRO16
section
namespace Go.Proofs.Ytendgafpkeadhaa.Q
open Go.RowKit Go.Proofs.YtendgafpkeadhaaW.PrintWords Go.Proofs.YtendgafpkeadhaaW.PrintLast Go.Proofs.YtendgafpkeadhaaW.PrintMore
attribute [local go_sem] max2_int min2_int max_two min_two max_three min_three max_four min_four
set_option linter.unusedVariables false
set_option linter.unusedSimpArgs false
/-! ### ah: function 11 -/
mutual
def ah.l0 : Nat → ByteArray → List (S38) → Int → Int → Option (Bool)
 | 0, _, _, _, _ => none
 | k + 1, x0, x3, x6, x7 => if x7 < (x3.length : Int) then (if 0 ≤ x7 then (if ((rd_T38 x3 x7).f0) = 4 then (if ((rd_T38 x3 x7).f1).toList = ([40] : List UInt8) then (ah.j1 k x0 x3 x6 x7 true ((rd_T38 x3 x7).f0) ((rd_T38 x3 x7).f1) ((rd_T38 x3 x7).f2) ((rd_T38 x3 x7).f3)) else (if ((rd_T38 x3 x7).f1).toList = ([123] : List UInt8) then (ah.j1 k x0 x3 x6 x7 true ((rd_T38 x3 x7).f0) ((rd_T38 x3 x7).f1) ((rd_T38 x3 x7).f2) ((rd_T38 x3 x7).f3)) else (ah.j1 k x0 x3 x6 x7 (((rd_T38 x3 x7).f1).toList == ([91] : List UInt8)) ((rd_T38 x3 x7).f0) ((rd_T38 x3 x7).f1) ((rd_T38 x3 x7).f2) ((rd_T38 x3 x7).f3)))) else (ah.j1 k x0 x3 x6 x7 false ((rd_T38 x3 x7).f0) ((rd_T38 x3 x7).f1) ((rd_T38 x3 x7).f2) ((rd_T38 x3 x7).f3))) else (none)) else (ah.l1 k x0 x6 0)
def ah.j1 : Nat → ByteArray → List (S38) → Int → Int → Bool → Int → ByteArray → Int → Int → Option (Bool)
 | 0, _, _, _, _, _, _, _, _, _ => none
 | k + 1, x0, x3, x6, x7, x45, x884000, x884001, x884002, x884003 => if x45 = true then (ah.j2 k x0 x3 (wrap64 (x6 + 1)) x7 x884000 x884001 x884002 x884003) else (ah.j2 k x0 x3 x6 x7 x884000 x884001 x884002 x884003)
def ah.j2 : Nat → ByteArray → List (S38) → Int → Int → Int → ByteArray → Int → Int → Option (Bool)
 | 0, _, _, _, _, _, _, _, _ => none
 | k + 1, x0, x3, x6, x7, x884000, x884001, x884002, x884003 => if x884000 = 4 then (if x884001.toList = ([41] : List UInt8) then (ah.j3 k x0 x3 x6 x7 true x884000 x884001 x884002 x884003) else (if x884001.toList = ([125] : List UInt8) then (ah.j3 k x0 x3 x6 x7 true x884000 x884001 x884002 x884003) else (ah.j3 k x0 x3 x6 x7 (x884001.toList == ([93] : List UInt8)) x884000 x884001 x884002 x884003))) else (ah.j3 k x0 x3 x6 x7 false x884000 x884001 x884002 x884003)
def ah.j3 : Nat → ByteArray → List (S38) → Int → Int → Bool → Int → ByteArray → Int → Int → Option (Bool)
 | 0, _, _, _, _, _, _, _, _, _ => none
 | k + 1, x0, x3, x6, x7, x65, x884000, x884001, x884002, x884003 => if x65 = true then (if (wrap64 (x6 - 1)) < 0 then (some false) else (if (wrap64 (x6 - 1)) = 0 then (if x884000 = 4 then (if x884001.toList = ([59] : List UInt8) then (some false) else (ah.l0 k x0 x3 (wrap64 (x6 - 1)) (wrap64 (x7 + 1)))) else (ah.l0 k x0 x3 (wrap64 (x6 - 1)) (wrap64 (x7 + 1)))) else (ah.l0 k x0 x3 (wrap64 (x6 - 1)) (wrap64 (x7 + 1))))) else (if x6 < 0 then (some false) else (if x6 = 0 then (if x884000 = 4 then (if x884001.toList = ([59] : List UInt8) then (some false) else (ah.l0 k x0 x3 x6 (wrap64 (x7 + 1)))) else (ah.l0 k x0 x3 x6 (wrap64 (x7 + 1)))) else (ah.l0 k x0 x3 x6 (wrap64 (x7 + 1)))))
def ah.l1 : Nat → ByteArray → Int → Int → Option (Bool)
 | 0, _, _, _ => none
 | k + 1, x0, x6, x9 => if x9 < (x0.size : Int) then (if 0 ≤ x9 then (if (bt x0 x9) = 35 then (some false) else (ah.l1 k x0 x6 (wrap64 (x9 + 1)))) else (none)) else (some (x6 == 0))
end
def ah.f (k : Nat) (a0 : ByteArray) : Option (Bool) := (aV.f k a0).bind fun bt877 => (if bt877.2.1 = 0 then (ah.l0 k a0 bt877.1 0 0) else (some false))
theorem ah.mono_l : ∀ k, (∀ y0 y1 y2 y3, LeO (ah.l0 k y0 y1 y2 y3) (ah.l0 (k + 1) y0 y1 y2 y3)) ∧ (∀ y0 y1 y2 y3 y4 y5 y6 y7 y8, LeO (ah.j1 k y0 y1 y2 y3 y4 y5 y6 y7 y8) (ah.j1 (k + 1) y0 y1 y2 y3 y4 y5 y6 y7 y8)) ∧ (∀ y0 y1 y2 y3 y4 y5 y6 y7, LeO (ah.j2 k y0 y1 y2 y3 y4 y5 y6 y7) (ah.j2 (k + 1) y0 y1 y2 y3 y4 y5 y6 y7)) ∧ (∀ y0 y1 y2 y3 y4 y5 y6 y7 y8, LeO (ah.j3 k y0 y1 y2 y3 y4 y5 y6 y7 y8) (ah.j3 (k + 1) y0 y1 y2 y3 y4 y5 y6 y7 y8)) ∧ (∀ y0 y1 y2, LeO (ah.l1 k y0 y1 y2) (ah.l1 (k + 1) y0 y1 y2))
 | 0 => ⟨fun _ _ _ _ r h => by simp [ah.l0] at h, fun _ _ _ _ _ _ _ _ _ r h => by simp [ah.j1] at h, fun _ _ _ _ _ _ _ _ r h => by simp [ah.j2] at h, fun _ _ _ _ _ _ _ _ _ r h => by simp [ah.j3] at h, fun _ _ _ r h => by simp [ah.l1] at h⟩
 | k + 1 => by
  obtain ⟨ih0, ih1, ih2, ih3, ih4⟩ := ah.mono_l k
  refine ⟨?_, ?_, ?_, ?_, ?_⟩
  ·intro y0 y1 y2 y3
   unfold ah.l0
   have m0 := aV.mono
   exact yL
  ·intro y0 y1 y2 y3 y4 y5 y6 y7 y8
   unfold ah.j1
   have m0 := aV.mono
   exact yL
  ·intro y0 y1 y2 y3 y4 y5 y6 y7
   unfold ah.j2
   have m0 := aV.mono
   exact yL
  ·intro y0 y1 y2 y3 y4 y5 y6 y7 y8
   unfold ah.j3
   have m0 := aV.mono
   exact yL
  intro y0 y1 y2
  unfold ah.l1
  have m0 := aV.mono
  exact yL
theorem ah.mono : ∀ a0 k, LeO (ah.f k a0) (ah.f (k + 1) a0) := by
 intro a0 k
 obtain ⟨ih0, ih1, ih2, ih3, ih4⟩ := ah.mono_l k
 unfold ah.f
 have m0 := aV.mono
 exact yL
set_option maxHeartbeats 8000000 in
set_option maxRecDepth 100000 in
theorem ah.calls (k : Nat) (a0 : ByteArray) (r : Bool) (w : World) (h : ah.f k a0 = some r) :
 Calls Try.prog 11 #[.string a0] w fun e w' => e = .returned (.bool r) ∧ Below w.heap.size w w' := by
 have hu38 := Try.underlying38
 have HB := Aside0.mk (Below.refl w.heap.size w)
 have H := h
 clear h
 unfold ah.f at H
 revert H
 refine yB3 fun t877 t878 t879 A2 H => ?_
 try dsimp only at H
 revert H
 refine aJ (fun c3b0 c3b1 H => ?_) fun c3 c3b0 c3b1 H => ?_
 ·have H' := Aside0.mk H
  clear H
  go_enter Try.func11, Try.ntmps11
  go_wp2_with (first | ((with_reducible refine gC 22 rfl ?_); refine gM 22 12 rfl Try.func22 (aV.calls k a0 t877 t878 t879 _ A2.out) ?_; rintro _ w4 ⟨v880, rfl, ho0, hb⟩; refine ⟨_, rfl, yA2 (Kd.R_lower ho0 (below_size Z3)) (below_step Z3 hb) ?_⟩; clear HB hb ho0; intro HO881 HB))
  go_loopg [6, 7] k (fun kq v6 v7 w' => ∃ (x6_1 : Int) (x7_1 : Int), v6 = .int .i64 x6_1 ∧ v7 = .int .i64 x7_1 ∧ Aside0 (ah.l0 kq a0 t877 x6_1 x7_1 = some r) ∧ Aside0 (kq ≤ k) ∧ Aside0 (Kd.R k38 38 w' w.heap.size (fun _ => True) v880 t877) ∧ Aside0 (Below w.heap.size w w'))
  case atStart => exact ⟨(0), (0), Z6, Z6, H', ⟨Nat.le_refl _⟩, ⟨by (with_reducible repeat (first | apply Kd.R_alloc | apply Kd.R_drewN | apply Kd.R_drew)); exact HO881.out⟩, ⟨Z3⟩⟩
  case round =>
   clear H'
   try clear c1
   try clear c2
   try clear p2
   try clear c3
   try clear c3b0
   try clear c3b1
   obtain ⟨x6_1, x7_1, rfl, rfl, HA, HK1, HO_3, HB⟩ := hrel
   cases gk with
   | zero => exact absurd HA.out (by simp [ah.l0])
   | succ k1 =>
    have H := HA.out
    clear HA
    simp only [ah.l0] at H
    revert H
    refine fO (fun c5b0 H => ?_) fun c5b0 H => ?_
    ·revert H
     refine eQ (fun c6b0 H => ?_) fun c6 H => ?_
     ·have HC7 := Aside0.mk H
      clear H
      obtain ⟨Ao8, co8, eo8⟩ := Kd.R_slice HO_3.out
      subst eo8
      have p882 : 0 ≤ (x7_1 : Int) := of_decide_eq_true Z5
      have q882 : x7_1 < (t877.length : Int) := of_decide_eq_true Z5
      obtain ⟨ad882, e882, hx882_0, hx882_1, hx882_2, hx882_3⟩ := xk (Kd.R_reads' HO_3.out).2.2 x7_1 p882 q882
      cases e882
      replace p882 := eq_true p882
      replace q882 := eq_true q882
      go_upto_region 9 with (first | ((with_reducible refine bJ (N := 8) rfl ?_); refine bU ?hg (N := 8) ?hd (cs := #[.int .i64 0, .string (⟨#[]⟩ : ByteArray), .int .i64 0, .int .i64 0]) (t := 38) ?hr ?_; (case hd => rfl); (case hg => rfl); (case hr => first | (go_simp; done) | (go_simp; rfl)); intro gb883 hg w9 hbox hb; refine yA5 (Kd.R_below (Kd.og Z21 gb883 (Nat.le_of_eq hg.symm)) hb) (below_step Z3 hb) (hbox) ((by rw [hg]; exact (below_size Z3) : w.heap.size ≤ gb883)) ((by rw [hg]; exact (below_size Z3) : w.heap.size ≤ gb883)) ?_; clear HO_3 HB; intro HO_3 HB BK883 GW883 GE883; clear hb hbox hg; have hcz10_0 : w9.cell? ⟨gb883, 0, none⟩ = some (.int .i64 0) := (af BK883.out 0).trans rfl; have hcz10_1 : w9.cell? ⟨gb883, 1, none⟩ = some (.string (⟨#[]⟩ : ByteArray)) := (af BK883.out 1).trans rfl; have hcz10_2 : w9.cell? ⟨gb883, 2, none⟩ = some (.int .i64 0) := (af BK883.out 2).trans rfl; have hcz10_3 : w9.cell? ⟨gb883, 3, none⟩ = some (.int .i64 0) := (af BK883.out 3).trans rfl; have hfz10_0 := ae BK883.out 0; have hfz10_1 := ae BK883.out 1; have hfz10_2 := ae BK883.out 2; have hfz10_3 := ae BK883.out 3))
      (try simp only [Act.put, List.setIfInBounds_toArray, List.set_cons_zero, List.set_cons_succ])
      go_cut [45] (fun v45 wc => ∃ (kq : Nat) (x45_6 : Bool), v45 = .bool x45_6 ∧ Aside0 (ah.j1 kq a0 t877 x6_1 x7_1 x45_6 ((rd_T38 t877 x7_1).f0) ((rd_T38 t877 x7_1).f1) ((rd_T38 t877 x7_1).f2) ((rd_T38 t877 x7_1).f3) = some r) ∧ Aside0 (kq ≤ k1) ∧ Aside0 (Kd.R k38 38 wc w.heap.size (fun k_ => k_ ≠ gb883) (.slice (some ad882) t877.length co8) t877) ∧ Aside0 (wc.heap[gb883]? = some (.cells #[.int .i64 ((rd_T38 t877 x7_1).f0), .string ((rd_T38 t877 x7_1).f1), .int .i64 ((rd_T38 t877 x7_1).f2), .int .i64 ((rd_T38 t877 x7_1).f3)] 38 (0, 0))) ∧ Aside0 (Below w.heap.size w wc))
      case first =>
       have H := HC7.out
       clear HC7
       revert H
       refine aJ (fun c11b0 c11b1 H => ?_) fun c11 c11b0 c11b1 H => ?_
       ·(first | rw [c11b0] | (simp only [dE, dM]; rw [c11b0]) | skip)
        revert H
        refine aJ (fun c12b0 c12b1 H => ?_) fun c12 c12b0 c12b1 H => ?_
        ·have H' := Aside0.mk H
         clear H
         have hcz13_0 : w9.cell? ⟨gb883, 0, none⟩ = some (.int .i64 0) := (af BK883.out 0).trans rfl
         have hcz13_1 : w9.cell? ⟨gb883, 1, none⟩ = some (.string (⟨#[]⟩ : ByteArray)) := (af BK883.out 1).trans rfl
         have hcz13_2 : w9.cell? ⟨gb883, 2, none⟩ = some (.int .i64 0) := (af BK883.out 2).trans rfl
         have hcz13_3 : w9.cell? ⟨gb883, 3, none⟩ = some (.int .i64 0) := (af BK883.out 3).trans rfl
         have hfz13_0 := ae BK883.out 0
         have hfz13_1 := ae BK883.out 1
         have hfz13_2 := ae BK883.out 2
         have hfz13_3 := ae BK883.out 3
         go_wp2
         go_meet
         case rel => exact ⟨_, (true), Z6, H', ⟨by have := HK1.out; first | omega | exact Nat.le_refl _⟩, ⟨Z25⟩, ⟨by refine aA (cs := #[.int .i64 ((rd_T38 t877 x7_1).f0), .string ((rd_T38 t877 x7_1).f1), .int .i64 ((rd_T38 t877 x7_1).f2), .int .i64 0]) ?_ 3 _ rfl; refine aA (cs := #[.int .i64 ((rd_T38 t877 x7_1).f0), .string ((rd_T38 t877 x7_1).f1), .int .i64 0, .int .i64 0]) ?_ 2 _ rfl; refine aA (cs := #[.int .i64 ((rd_T38 t877 x7_1).f0), .string (⟨#[]⟩ : ByteArray), .int .i64 0, .int .i64 0]) ?_ 1 _ rfl; refine aA (cs := #[.int .i64 0, .string (⟨#[]⟩ : ByteArray), .int .i64 0, .int .i64 0]) ?_ 0 _ rfl; exact BK883.out⟩, ⟨Z16⟩⟩
        revert H
        refine aJ (fun c14b0 c14b1 H => ?_) fun c14 c14b0 c14b1 H => ?_
        ·have H' := Aside0.mk H
         clear H
         have hcz15_0 : w9.cell? ⟨gb883, 0, none⟩ = some (.int .i64 0) := (af BK883.out 0).trans rfl
         have hcz15_1 : w9.cell? ⟨gb883, 1, none⟩ = some (.string (⟨#[]⟩ : ByteArray)) := (af BK883.out 1).trans rfl
         have hcz15_2 : w9.cell? ⟨gb883, 2, none⟩ = some (.int .i64 0) := (af BK883.out 2).trans rfl
         have hcz15_3 : w9.cell? ⟨gb883, 3, none⟩ = some (.int .i64 0) := (af BK883.out 3).trans rfl
         have hfz15_0 := ae BK883.out 0
         have hfz15_1 := ae BK883.out 1
         have hfz15_2 := ae BK883.out 2
         have hfz15_3 := ae BK883.out 3
         go_wp2
         go_meet
         case rel => exact ⟨_, (true), Z6, H', ⟨by have := HK1.out; first | omega | exact Nat.le_refl _⟩, ⟨Z25⟩, ⟨by refine aA (cs := #[.int .i64 ((rd_T38 t877 x7_1).f0), .string ((rd_T38 t877 x7_1).f1), .int .i64 ((rd_T38 t877 x7_1).f2), .int .i64 0]) ?_ 3 _ rfl; refine aA (cs := #[.int .i64 ((rd_T38 t877 x7_1).f0), .string ((rd_T38 t877 x7_1).f1), .int .i64 0, .int .i64 0]) ?_ 2 _ rfl; refine aA (cs := #[.int .i64 ((rd_T38 t877 x7_1).f0), .string (⟨#[]⟩ : ByteArray), .int .i64 0, .int .i64 0]) ?_ 1 _ rfl; refine aA (cs := #[.int .i64 0, .string (⟨#[]⟩ : ByteArray), .int .i64 0, .int .i64 0]) ?_ 0 _ rfl; exact BK883.out⟩, ⟨Z16⟩⟩
        have H' := Aside0.mk H
        clear H
        have hcz16_0 : w9.cell? ⟨gb883, 0, none⟩ = some (.int .i64 0) := (af BK883.out 0).trans rfl
        have hcz16_1 : w9.cell? ⟨gb883, 1, none⟩ = some (.string (⟨#[]⟩ : ByteArray)) := (af BK883.out 1).trans rfl
        have hcz16_2 : w9.cell? ⟨gb883, 2, none⟩ = some (.int .i64 0) := (af BK883.out 2).trans rfl
        have hcz16_3 : w9.cell? ⟨gb883, 3, none⟩ = some (.int .i64 0) := (af BK883.out 3).trans rfl
        have hfz16_0 := ae BK883.out 0
        have hfz16_1 := ae BK883.out 1
        have hfz16_2 := ae BK883.out 2
        have hfz16_3 := ae BK883.out 3
        go_wp2
        go_meet
        case rel => exact ⟨_, ((((rd_T38 t877 x7_1).f1).toList == ([91] : List UInt8))), Z6, H', ⟨by have := HK1.out; first | omega | exact Nat.le_refl _⟩, ⟨Z25⟩, ⟨by refine aA (cs := #[.int .i64 ((rd_T38 t877 x7_1).f0), .string ((rd_T38 t877 x7_1).f1), .int .i64 ((rd_T38 t877 x7_1).f2), .int .i64 0]) ?_ 3 _ rfl; refine aA (cs := #[.int .i64 ((rd_T38 t877 x7_1).f0), .string ((rd_T38 t877 x7_1).f1), .int .i64 0, .int .i64 0]) ?_ 2 _ rfl; refine aA (cs := #[.int .i64 ((rd_T38 t877 x7_1).f0), .string (⟨#[]⟩ : ByteArray), .int .i64 0, .int .i64 0]) ?_ 1 _ rfl; refine aA (cs := #[.int .i64 0, .string (⟨#[]⟩ : ByteArray), .int .i64 0, .int .i64 0]) ?_ 0 _ rfl; exact BK883.out⟩, ⟨Z16⟩⟩
       (first | rw [c11b0] | (simp only [dE, dM]; rw [c11b0]) | skip)
       have H' := Aside0.mk H
       clear H
       have hcz17_0 : w9.cell? ⟨gb883, 0, none⟩ = some (.int .i64 0) := (af BK883.out 0).trans rfl
       have hcz17_1 : w9.cell? ⟨gb883, 1, none⟩ = some (.string (⟨#[]⟩ : ByteArray)) := (af BK883.out 1).trans rfl
       have hcz17_2 : w9.cell? ⟨gb883, 2, none⟩ = some (.int .i64 0) := (af BK883.out 2).trans rfl
       have hcz17_3 : w9.cell? ⟨gb883, 3, none⟩ = some (.int .i64 0) := (af BK883.out 3).trans rfl
       have hfz17_0 := ae BK883.out 0
       have hfz17_1 := ae BK883.out 1
       have hfz17_2 := ae BK883.out 2
       have hfz17_3 := ae BK883.out 3
       go_wp2
       go_meet
       case rel => exact ⟨_, (false), Z6, H', ⟨by have := HK1.out; first | omega | exact Nat.le_refl _⟩, ⟨Z25⟩, ⟨by refine aA (cs := #[.int .i64 ((rd_T38 t877 x7_1).f0), .string ((rd_T38 t877 x7_1).f1), .int .i64 ((rd_T38 t877 x7_1).f2), .int .i64 0]) ?_ 3 _ rfl; refine aA (cs := #[.int .i64 ((rd_T38 t877 x7_1).f0), .string ((rd_T38 t877 x7_1).f1), .int .i64 0, .int .i64 0]) ?_ 2 _ rfl; refine aA (cs := #[.int .i64 ((rd_T38 t877 x7_1).f0), .string (⟨#[]⟩ : ByteArray), .int .i64 0, .int .i64 0]) ?_ 1 _ rfl; refine aA (cs := #[.int .i64 0, .string (⟨#[]⟩ : ByteArray), .int .i64 0, .int .i64 0]) ?_ 0 _ rfl; exact BK883.out⟩, ⟨Z16⟩⟩
      case rest =>
       clear HC7
       try clear c1
       try clear c2
       try clear p2
       try clear c3
       try clear c3b0
       try clear c3b1
       try clear c5
       try clear c5b0
       try clear c6
       try clear c6b0
       try clear p8
       try clear q8
       try clear hx8
       try clear c11
       try clear c11b0
       try clear c11b1
       try clear c12
       try clear c12b0
       try clear c12b1
       try clear c14
       try clear c14b0
       try clear c14b1
       try clear hcz10_0
       try clear hcz10_1
       try clear hcz10_2
       try clear hcz10_3
       try clear hcz13_0
       try clear hcz13_1
       try clear hcz13_2
       try clear hcz13_3
       try clear hcz15_0
       try clear hcz15_1
       try clear hcz15_2
       try clear hcz15_3
       try clear hcz16_0
       try clear hcz16_1
       try clear hcz16_2
       try clear hcz16_3
       try clear hcz17_0
       try clear hcz17_1
       try clear hcz17_2
       try clear hcz17_3
       try clear hfz10_0
       try clear hfz10_1
       try clear hfz10_2
       try clear hfz10_3
       try clear hfz13_0
       try clear hfz13_1
       try clear hfz13_2
       try clear hfz13_3
       try clear hfz15_0
       try clear hfz15_1
       try clear hfz15_2
       try clear hfz15_3
       try clear hfz16_0
       try clear hfz16_1
       try clear hfz16_2
       try clear hfz16_3
       try clear hfz17_0
       try clear hfz17_1
       try clear hfz17_2
       try clear hfz17_3
       try clear hx882_0
       try clear hx882_1
       try clear hx882_2
       try clear hx882_3
       try clear p2
       try clear p882
       try clear q882
       obtain ⟨kq, x45_6, rfl, HA, HJ6, HO_3, BK883, HB⟩ := hcut
       cases kq with
       | zero => exact absurd HA.out (by simp [ah.j1])
       | succ kj6 =>
        have H := HA.out
        clear HA
        simp only [ah.j1] at H
        have HC18 := Aside0.mk H
        clear H
        go_upto_if 45 with (fail)
        go_cut [6] (fun v6 wc => ∃ (kq : Nat) (x6_17 : Int), v6 = .int .i64 x6_17 ∧ Aside0 (ah.j2 kq a0 t877 x6_17 x7_1 ((rd_T38 t877 x7_1).f0) ((rd_T38 t877 x7_1).f1) ((rd_T38 t877 x7_1).f2) ((rd_T38 t877 x7_1).f3) = some r) ∧ Aside0 (kq ≤ kj6) ∧ Aside0 (Kd.R k38 38 wc w.heap.size (fun k_ => k_ ≠ gb883) (.slice (some ad882) t877.length co8) t877) ∧ Aside0 (wc.heap[gb883]? = some (.cells #[.int .i64 ((rd_T38 t877 x7_1).f0), .string ((rd_T38 t877 x7_1).f1), .int .i64 ((rd_T38 t877 x7_1).f2), .int .i64 ((rd_T38 t877 x7_1).f3)] 38 (0, 0))) ∧ Aside0 (Below w.heap.size w wc))
        case first =>
         have H := HC18.out
         clear HC18
         cases x45_6
         rotate_left
         ·replace H := yT H
          have H' := Aside0.mk H
          clear H
          go_wp2
          go_meet
          case rel => exact ⟨_, (wrap64 (x6_1 + 1)), Z6, H', ⟨by have := HK1.out; have := HJ6.out; first | omega | exact Nat.le_refl _⟩, ⟨Z21⟩, ⟨by exact BK883.out⟩, ⟨Z16⟩⟩
         replace H := yF H
         have H' := Aside0.mk H
         clear H
         go_wp2
         go_meet
         case rel => exact ⟨_, (x6_1), Z6, H', ⟨by have := HK1.out; have := HJ6.out; first | omega | exact Nat.le_refl _⟩, ⟨Z21⟩, ⟨by exact BK883.out⟩, ⟨Z16⟩⟩
        case rest =>
         clear HC18
         try clear c1
         try clear c2
         try clear p2
         try clear c3
         try clear c3b0
         try clear c3b1
         try clear c5
         try clear c5b0
         try clear c6
         try clear c6b0
         try clear p6
         try clear p8
         try clear q8
         try clear hx8
         try clear c11
         try clear c11b0
         try clear c11b1
         try clear c12
         try clear c12b0
         try clear c12b1
         try clear c14
         try clear c14b0
         try clear c14b1
         try clear c19
         try clear hcz10_0
         try clear hcz10_1
         try clear hcz10_2
         try clear hcz10_3
         try clear hcz13_0
         try clear hcz13_1
         try clear hcz13_2
         try clear hcz13_3
         try clear hcz15_0
         try clear hcz15_1
         try clear hcz15_2
         try clear hcz15_3
         try clear hcz16_0
         try clear hcz16_1
         try clear hcz16_2
         try clear hcz16_3
         try clear hcz17_0
         try clear hcz17_1
         try clear hcz17_2
         try clear hcz17_3
         try clear hfz10_0
         try clear hfz10_1
         try clear hfz10_2
         try clear hfz10_3
         try clear hfz13_0
         try clear hfz13_1
         try clear hfz13_2
         try clear hfz13_3
         try clear hfz15_0
         try clear hfz15_1
         try clear hfz15_2
         try clear hfz15_3
         try clear hfz16_0
         try clear hfz16_1
         try clear hfz16_2
         try clear hfz16_3
         try clear hfz17_0
         try clear hfz17_1
         try clear hfz17_2
         try clear hfz17_3
         try clear hx882_0
         try clear hx882_1
         try clear hx882_2
         try clear hx882_3
         try clear p2
         try clear p8
         try clear p882
         try clear q8
         try clear q882
         obtain ⟨kq, x6_17, rfl, HA, HJ17, HO_3, BK883, HB⟩ := hcut
         cases kq with
         | zero => exact absurd HA.out (by simp [ah.j2])
         | succ kj17 =>
          have H := HA.out
          clear HA
          simp only [ah.j2] at H
          have HC20 := Aside0.mk H
          clear H
          go_upto_region 11 with (fail)
          go_cut [65] (fun v65 wc => ∃ (kq : Nat) (x65_19 : Bool), v65 = .bool x65_19 ∧ Aside0 (ah.j3 kq a0 t877 x6_17 x7_1 x65_19 ((rd_T38 t877 x7_1).f0) ((rd_T38 t877 x7_1).f1) ((rd_T38 t877 x7_1).f2) ((rd_T38 t877 x7_1).f3) = some r) ∧ Aside0 (kq ≤ kj17) ∧ Aside0 (Kd.R k38 38 wc w.heap.size (fun k_ => k_ ≠ gb883) (.slice (some ad882) t877.length co8) t877) ∧ Aside0 (wc.heap[gb883]? = some (.cells #[.int .i64 ((rd_T38 t877 x7_1).f0), .string ((rd_T38 t877 x7_1).f1), .int .i64 ((rd_T38 t877 x7_1).f2), .int .i64 ((rd_T38 t877 x7_1).f3)] 38 (0, 0))) ∧ Aside0 (Below w.heap.size w wc))
          case first =>
           have H := HC20.out
           clear HC20
           revert H
           refine aJ (fun c21b0 c21b1 H => ?_) fun c21 c21b0 c21b1 H => ?_
           ·(first | rw [c21b0] | (simp only [dE, dM]; rw [c21b0]) | skip)
            revert H
            refine aJ (fun c22b0 c22b1 H => ?_) fun c22 c22b0 c22b1 H => ?_
            ·have H' := Aside0.mk H
             clear H
             have hcz23_0 : wc.cell? ⟨gb883, 0, none⟩ = some (.int .i64 ((rd_T38 t877 x7_1).f0)) := (af BK883.out 0).trans rfl
             have hcz23_1 : wc.cell? ⟨gb883, 1, none⟩ = some (.string ((rd_T38 t877 x7_1).f1)) := (af BK883.out 1).trans rfl
             have hcz23_2 : wc.cell? ⟨gb883, 2, none⟩ = some (.int .i64 ((rd_T38 t877 x7_1).f2)) := (af BK883.out 2).trans rfl
             have hcz23_3 : wc.cell? ⟨gb883, 3, none⟩ = some (.int .i64 ((rd_T38 t877 x7_1).f3)) := (af BK883.out 3).trans rfl
             have hfz23_0 := ae BK883.out 0
             have hfz23_1 := ae BK883.out 1
             have hfz23_2 := ae BK883.out 2
             have hfz23_3 := ae BK883.out 3
             go_wp2
             go_meet
             case rel => exact ⟨_, (true), Z6, H', ⟨by have := HK1.out; have := HJ6.out; have := HJ17.out; first | omega | exact Nat.le_refl _⟩, ⟨Z21⟩, ⟨by exact BK883.out⟩, ⟨Z16⟩⟩
            revert H
            refine aJ (fun c24b0 c24b1 H => ?_) fun c24 c24b0 c24b1 H => ?_
            ·have H' := Aside0.mk H
             clear H
             have hcz25_0 : wc.cell? ⟨gb883, 0, none⟩ = some (.int .i64 ((rd_T38 t877 x7_1).f0)) := (af BK883.out 0).trans rfl
             have hcz25_1 : wc.cell? ⟨gb883, 1, none⟩ = some (.string ((rd_T38 t877 x7_1).f1)) := (af BK883.out 1).trans rfl
             have hcz25_2 : wc.cell? ⟨gb883, 2, none⟩ = some (.int .i64 ((rd_T38 t877 x7_1).f2)) := (af BK883.out 2).trans rfl
             have hcz25_3 : wc.cell? ⟨gb883, 3, none⟩ = some (.int .i64 ((rd_T38 t877 x7_1).f3)) := (af BK883.out 3).trans rfl
             have hfz25_0 := ae BK883.out 0
             have hfz25_1 := ae BK883.out 1
             have hfz25_2 := ae BK883.out 2
             have hfz25_3 := ae BK883.out 3
             go_wp2
             go_meet
             case rel => exact ⟨_, (true), Z6, H', ⟨by have := HK1.out; have := HJ6.out; have := HJ17.out; first | omega | exact Nat.le_refl _⟩, ⟨Z21⟩, ⟨by exact BK883.out⟩, ⟨Z16⟩⟩
            have H' := Aside0.mk H
            clear H
            have hcz26_0 : wc.cell? ⟨gb883, 0, none⟩ = some (.int .i64 ((rd_T38 t877 x7_1).f0)) := (af BK883.out 0).trans rfl
            have hcz26_1 : wc.cell? ⟨gb883, 1, none⟩ = some (.string ((rd_T38 t877 x7_1).f1)) := (af BK883.out 1).trans rfl
            have hcz26_2 : wc.cell? ⟨gb883, 2, none⟩ = some (.int .i64 ((rd_T38 t877 x7_1).f2)) := (af BK883.out 2).trans rfl
            have hcz26_3 : wc.cell? ⟨gb883, 3, none⟩ = some (.int .i64 ((rd_T38 t877 x7_1).f3)) := (af BK883.out 3).trans rfl
            have hfz26_0 := ae BK883.out 0
            have hfz26_1 := ae BK883.out 1
            have hfz26_2 := ae BK883.out 2
            have hfz26_3 := ae BK883.out 3
            go_wp2
            go_meet
            case rel => exact ⟨_, ((((rd_T38 t877 x7_1).f1).toList == ([93] : List UInt8))), Z6, H', ⟨by have := HK1.out; have := HJ6.out; have := HJ17.out; first | omega | exact Nat.le_refl _⟩, ⟨Z21⟩, ⟨by exact BK883.out⟩, ⟨Z16⟩⟩
           (first | rw [c21b0] | (simp only [dE, dM]; rw [c21b0]) | skip)
           have H' := Aside0.mk H
           clear H
           have hcz27_0 : wc.cell? ⟨gb883, 0, none⟩ = some (.int .i64 ((rd_T38 t877 x7_1).f0)) := (af BK883.out 0).trans rfl
           have hcz27_1 : wc.cell? ⟨gb883, 1, none⟩ = some (.string ((rd_T38 t877 x7_1).f1)) := (af BK883.out 1).trans rfl
           have hcz27_2 : wc.cell? ⟨gb883, 2, none⟩ = some (.int .i64 ((rd_T38 t877 x7_1).f2)) := (af BK883.out 2).trans rfl
           have hcz27_3 : wc.cell? ⟨gb883, 3, none⟩ = some (.int .i64 ((rd_T38 t877 x7_1).f3)) := (af BK883.out 3).trans rfl
           have hfz27_0 := ae BK883.out 0
           have hfz27_1 := ae BK883.out 1
           have hfz27_2 := ae BK883.out 2
           have hfz27_3 := ae BK883.out 3
           go_wp2
           go_meet
           case rel => exact ⟨_, (false), Z6, H', ⟨by have := HK1.out; have := HJ6.out; have := HJ17.out; first | omega | exact Nat.le_refl _⟩, ⟨Z21⟩, ⟨by exact BK883.out⟩, ⟨Z16⟩⟩
          case rest =>
           clear HC20
           try clear c1
           try clear c2
           try clear p2
           try clear c3
           try clear c3b0
           try clear c3b1
           try clear c5
           try clear c5b0
           try clear c6
           try clear c6b0
           try clear p6
           try clear p8
           try clear q8
           try clear hx8
           try clear c11
           try clear c11b0
           try clear c11b1
           try clear c12
           try clear c12b0
           try clear c12b1
           try clear c14
           try clear c14b0
           try clear c14b1
           try clear c19
           try clear c21
           try clear c21b0
           try clear c21b1
           try clear c22
           try clear c22b0
           try clear c22b1
           try clear c24
           try clear c24b0
           try clear c24b1
           try clear hcz10_0
           try clear hcz10_1
           try clear hcz10_2
           try clear hcz10_3
           try clear hcz13_0
           try clear hcz13_1
           try clear hcz13_2
           try clear hcz13_3
           try clear hcz15_0
           try clear hcz15_1
           try clear hcz15_2
           try clear hcz15_3
           try clear hcz16_0
           try clear hcz16_1
           try clear hcz16_2
           try clear hcz16_3
           try clear hcz17_0
           try clear hcz17_1
           try clear hcz17_2
           try clear hcz17_3
           try clear hcz23_0
           try clear hcz23_1
           try clear hcz23_2
           try clear hcz23_3
           try clear hcz25_0
           try clear hcz25_1
           try clear hcz25_2
           try clear hcz25_3
           try clear hcz26_0
           try clear hcz26_1
           try clear hcz26_2
           try clear hcz26_3
           try clear hcz27_0
           try clear hcz27_1
           try clear hcz27_2
           try clear hcz27_3
           try clear hfz10_0
           try clear hfz10_1
           try clear hfz10_2
           try clear hfz10_3
           try clear hfz13_0
           try clear hfz13_1
           try clear hfz13_2
           try clear hfz13_3
           try clear hfz15_0
           try clear hfz15_1
           try clear hfz15_2
           try clear hfz15_3
           try clear hfz16_0
           try clear hfz16_1
           try clear hfz16_2
           try clear hfz16_3
           try clear hfz17_0
           try clear hfz17_1
           try clear hfz17_2
           try clear hfz17_3
           try clear hfz23_0
           try clear hfz23_1
           try clear hfz23_2
           try clear hfz23_3
           try clear hfz25_0
           try clear hfz25_1
           try clear hfz25_2
           try clear hfz25_3
           try clear hfz26_0
           try clear hfz26_1
           try clear hfz26_2
           try clear hfz26_3
           try clear hfz27_0
           try clear hfz27_1
           try clear hfz27_2
           try clear hfz27_3
           try clear hx882_0
           try clear hx882_1
           try clear hx882_2
           try clear hx882_3
           try clear p2
           try clear p6
           try clear p8
           try clear p882
           try clear q8
           try clear q882
           obtain ⟨kq, x65_19, rfl, HA, HJ19, HO_3, BK883, HB⟩ := hcut
           cases kq with
           | zero => exact absurd HA.out (by simp [ah.j3])
           | succ kj19 =>
            have H := HA.out
            clear HA
            simp only [ah.j3] at H
            cases x65_19
            rotate_left
            ·replace H := yT H
             revert H
             refine fO (fun c29b0 H => ?_) fun c29b0 H => ?_
             ·obtain rfl := Option.some.inj H
              go_wp2
              go_ret
              exact ⟨Z4, Z16⟩
             revert H
             refine aJ (fun c30b0 c30b1 H => ?_) fun c30 c30b0 c30b1 H => ?_
             ·revert H
              refine aJ (fun c31b0 c31b1 H => ?_) fun c31 c31b0 c31b1 H => ?_
              ·revert H
               refine aJ (fun c32b0 c32b1 H => ?_) fun c32 c32b0 c32b1 H => ?_
               ·obtain rfl := Option.some.inj H
                have hcz33_0 : wc.cell? ⟨gb883, 0, none⟩ = some (.int .i64 ((rd_T38 t877 x7_1).f0)) := (af BK883.out 0).trans rfl
                have hcz33_1 : wc.cell? ⟨gb883, 1, none⟩ = some (.string ((rd_T38 t877 x7_1).f1)) := (af BK883.out 1).trans rfl
                have hcz33_2 : wc.cell? ⟨gb883, 2, none⟩ = some (.int .i64 ((rd_T38 t877 x7_1).f2)) := (af BK883.out 2).trans rfl
                have hcz33_3 : wc.cell? ⟨gb883, 3, none⟩ = some (.int .i64 ((rd_T38 t877 x7_1).f3)) := (af BK883.out 3).trans rfl
                have hfz33_0 := ae BK883.out 0
                have hfz33_1 := ae BK883.out 1
                have hfz33_2 := ae BK883.out 2
                have hfz33_3 := ae BK883.out 3
                go_wp2
                go_ret
                exact ⟨Z4, Z16⟩
               have H' := Aside0.mk H
               clear H
               have hcz34_0 : wc.cell? ⟨gb883, 0, none⟩ = some (.int .i64 ((rd_T38 t877 x7_1).f0)) := (af BK883.out 0).trans rfl
               have hcz34_1 : wc.cell? ⟨gb883, 1, none⟩ = some (.string ((rd_T38 t877 x7_1).f1)) := (af BK883.out 1).trans rfl
               have hcz34_2 : wc.cell? ⟨gb883, 2, none⟩ = some (.int .i64 ((rd_T38 t877 x7_1).f2)) := (af BK883.out 2).trans rfl
               have hcz34_3 : wc.cell? ⟨gb883, 3, none⟩ = some (.int .i64 ((rd_T38 t877 x7_1).f3)) := (af BK883.out 3).trans rfl
               have hfz34_0 := ae BK883.out 0
               have hfz34_1 := ae BK883.out 1
               have hfz34_2 := ae BK883.out 2
               have hfz34_3 := ae BK883.out 3
               go_wp2
               go_roundg kj19
               case measure => have := HK1.out; have := HJ6.out; have := HJ17.out; have := HJ19.out; omega
               case rel => exact ⟨(wrap64 (x6_17 - 1)), (wrap64 (x7_1 + 1)), Z6, Z6, H', ⟨by have := HK1.out; have := HJ6.out; have := HJ17.out; have := HJ19.out; omega⟩, ⟨Z53⟩, ⟨Z16⟩⟩
              have H' := Aside0.mk H
              clear H
              have hcz35_0 : wc.cell? ⟨gb883, 0, none⟩ = some (.int .i64 ((rd_T38 t877 x7_1).f0)) := (af BK883.out 0).trans rfl
              have hcz35_1 : wc.cell? ⟨gb883, 1, none⟩ = some (.string ((rd_T38 t877 x7_1).f1)) := (af BK883.out 1).trans rfl
              have hcz35_2 : wc.cell? ⟨gb883, 2, none⟩ = some (.int .i64 ((rd_T38 t877 x7_1).f2)) := (af BK883.out 2).trans rfl
              have hcz35_3 : wc.cell? ⟨gb883, 3, none⟩ = some (.int .i64 ((rd_T38 t877 x7_1).f3)) := (af BK883.out 3).trans rfl
              have hfz35_0 := ae BK883.out 0
              have hfz35_1 := ae BK883.out 1
              have hfz35_2 := ae BK883.out 2
              have hfz35_3 := ae BK883.out 3
              go_wp2
              go_roundg kj19
              case measure => have := HK1.out; have := HJ6.out; have := HJ17.out; have := HJ19.out; omega
              case rel => exact ⟨(wrap64 (x6_17 - 1)), (wrap64 (x7_1 + 1)), Z6, Z6, H', ⟨by have := HK1.out; have := HJ6.out; have := HJ17.out; have := HJ19.out; omega⟩, ⟨Z53⟩, ⟨Z16⟩⟩
             have H' := Aside0.mk H
             clear H
             go_wp2
             go_roundg kj19
             case measure => have := HK1.out; have := HJ6.out; have := HJ17.out; have := HJ19.out; omega
             case rel => exact ⟨(wrap64 (x6_17 - 1)), (wrap64 (x7_1 + 1)), Z6, Z6, H', ⟨by have := HK1.out; have := HJ6.out; have := HJ17.out; have := HJ19.out; omega⟩, ⟨Z53⟩, ⟨Z16⟩⟩
            replace H := yF H
            revert H
            refine fO (fun c36b0 H => ?_) fun c36b0 H => ?_
            ·obtain rfl := Option.some.inj H
             go_wp2
             go_ret
             exact ⟨Z4, Z16⟩
            revert H
            refine aJ (fun c37b0 c37b1 H => ?_) fun c37 c37b0 c37b1 H => ?_
            ·revert H
             refine aJ (fun c38b0 c38b1 H => ?_) fun c38 c38b0 c38b1 H => ?_
             ·revert H
              refine aJ (fun c39b0 c39b1 H => ?_) fun c39 c39b0 c39b1 H => ?_
              ·obtain rfl := Option.some.inj H
               have hcz40_0 : wc.cell? ⟨gb883, 0, none⟩ = some (.int .i64 ((rd_T38 t877 x7_1).f0)) := (af BK883.out 0).trans rfl
               have hcz40_1 : wc.cell? ⟨gb883, 1, none⟩ = some (.string ((rd_T38 t877 x7_1).f1)) := (af BK883.out 1).trans rfl
               have hcz40_2 : wc.cell? ⟨gb883, 2, none⟩ = some (.int .i64 ((rd_T38 t877 x7_1).f2)) := (af BK883.out 2).trans rfl
               have hcz40_3 : wc.cell? ⟨gb883, 3, none⟩ = some (.int .i64 ((rd_T38 t877 x7_1).f3)) := (af BK883.out 3).trans rfl
               have hfz40_0 := ae BK883.out 0
               have hfz40_1 := ae BK883.out 1
               have hfz40_2 := ae BK883.out 2
               have hfz40_3 := ae BK883.out 3
               go_wp2
               go_ret
               exact ⟨Z4, Z16⟩
              have H' := Aside0.mk H
              clear H
              have hcz41_0 : wc.cell? ⟨gb883, 0, none⟩ = some (.int .i64 ((rd_T38 t877 x7_1).f0)) := (af BK883.out 0).trans rfl
              have hcz41_1 : wc.cell? ⟨gb883, 1, none⟩ = some (.string ((rd_T38 t877 x7_1).f1)) := (af BK883.out 1).trans rfl
              have hcz41_2 : wc.cell? ⟨gb883, 2, none⟩ = some (.int .i64 ((rd_T38 t877 x7_1).f2)) := (af BK883.out 2).trans rfl
              have hcz41_3 : wc.cell? ⟨gb883, 3, none⟩ = some (.int .i64 ((rd_T38 t877 x7_1).f3)) := (af BK883.out 3).trans rfl
              have hfz41_0 := ae BK883.out 0
              have hfz41_1 := ae BK883.out 1
              have hfz41_2 := ae BK883.out 2
              have hfz41_3 := ae BK883.out 3
              go_wp2
              go_roundg kj19
              case measure => have := HK1.out; have := HJ6.out; have := HJ17.out; have := HJ19.out; omega
              case rel => exact ⟨(x6_17), (wrap64 (x7_1 + 1)), Z6, Z6, H', ⟨by have := HK1.out; have := HJ6.out; have := HJ17.out; have := HJ19.out; omega⟩, ⟨Z53⟩, ⟨Z16⟩⟩
             have H' := Aside0.mk H
             clear H
             have hcz42_0 : wc.cell? ⟨gb883, 0, none⟩ = some (.int .i64 ((rd_T38 t877 x7_1).f0)) := (af BK883.out 0).trans rfl
             have hcz42_1 : wc.cell? ⟨gb883, 1, none⟩ = some (.string ((rd_T38 t877 x7_1).f1)) := (af BK883.out 1).trans rfl
             have hcz42_2 : wc.cell? ⟨gb883, 2, none⟩ = some (.int .i64 ((rd_T38 t877 x7_1).f2)) := (af BK883.out 2).trans rfl
             have hcz42_3 : wc.cell? ⟨gb883, 3, none⟩ = some (.int .i64 ((rd_T38 t877 x7_1).f3)) := (af BK883.out 3).trans rfl
             have hfz42_0 := ae BK883.out 0
             have hfz42_1 := ae BK883.out 1
             have hfz42_2 := ae BK883.out 2
             have hfz42_3 := ae BK883.out 3
             go_wp2
             go_roundg kj19
             case measure => have := HK1.out; have := HJ6.out; have := HJ17.out; have := HJ19.out; omega
             case rel => exact ⟨(x6_17), (wrap64 (x7_1 + 1)), Z6, Z6, H', ⟨by have := HK1.out; have := HJ6.out; have := HJ17.out; have := HJ19.out; omega⟩, ⟨Z53⟩, ⟨Z16⟩⟩
            have H' := Aside0.mk H
            clear H
            go_wp2
            go_roundg kj19
            case measure => have := HK1.out; have := HJ6.out; have := HJ17.out; have := HJ19.out; omega
            case rel => exact ⟨(x6_17), (wrap64 (x7_1 + 1)), Z6, Z6, H', ⟨by have := HK1.out; have := HJ6.out; have := HJ17.out; have := HJ19.out; omega⟩, ⟨Z53⟩, ⟨Z16⟩⟩
     exact absurd H (by simp)
    have H' := Aside0.mk H
    clear H
    obtain ⟨Ao43, co43, eo43⟩ := Kd.R_slice HO_3.out
    subst eo43
    go_wp2
    go_loopg [9] k1 (fun kq v9 w' => ∃ (x9_2 : Int), v9 = .int .i64 x9_2 ∧ Aside0 (ah.l1 kq a0 x6_1 x9_2 = some r) ∧ Aside0 (kq ≤ k1) ∧ Aside0 (Below w.heap.size w w'))
    case atStart => exact ⟨(0), Z6, H', ⟨Nat.le_refl _⟩, ⟨Z3⟩⟩
    case round =>
     clear H'
     try clear c1
     try clear c2
     try clear p2
     try clear c3
     try clear c3b0
     try clear c3b1
     try clear c5
     try clear c5b0
     try clear c6
     try clear c6b0
     try clear p6
     try clear p8
     try clear q8
     try clear hx8
     try clear c11
     try clear c11b0
     try clear c11b1
     try clear c12
     try clear c12b0
     try clear c12b1
     try clear c14
     try clear c14b0
     try clear c14b1
     try clear c19
     try clear c21
     try clear c21b0
     try clear c21b1
     try clear c22
     try clear c22b0
     try clear c22b1
     try clear c24
     try clear c24b0
     try clear c24b1
     try clear c28
     try clear c29
     try clear c29b0
     try clear c30
     try clear c30b0
     try clear c30b1
     try clear c31
     try clear c31b0
     try clear c31b1
     try clear c32
     try clear c32b0
     try clear c32b1
     try clear c36
     try clear c36b0
     try clear c37
     try clear c37b0
     try clear c37b1
     try clear c38
     try clear c38b0
     try clear c38b1
     try clear c39
     try clear c39b0
     try clear c39b1
     try clear hcz10_0
     try clear hcz10_1
     try clear hcz10_2
     try clear hcz10_3
     try clear hcz13_0
     try clear hcz13_1
     try clear hcz13_2
     try clear hcz13_3
     try clear hcz15_0
     try clear hcz15_1
     try clear hcz15_2
     try clear hcz15_3
     try clear hcz16_0
     try clear hcz16_1
     try clear hcz16_2
     try clear hcz16_3
     try clear hcz17_0
     try clear hcz17_1
     try clear hcz17_2
     try clear hcz17_3
     try clear hcz23_0
     try clear hcz23_1
     try clear hcz23_2
     try clear hcz23_3
     try clear hcz25_0
     try clear hcz25_1
     try clear hcz25_2
     try clear hcz25_3
     try clear hcz26_0
     try clear hcz26_1
     try clear hcz26_2
     try clear hcz26_3
     try clear hcz27_0
     try clear hcz27_1
     try clear hcz27_2
     try clear hcz27_3
     try clear hcz33_0
     try clear hcz33_1
     try clear hcz33_2
     try clear hcz33_3
     try clear hcz34_0
     try clear hcz34_1
     try clear hcz34_2
     try clear hcz34_3
     try clear hcz35_0
     try clear hcz35_1
     try clear hcz35_2
     try clear hcz35_3
     try clear hcz40_0
     try clear hcz40_1
     try clear hcz40_2
     try clear hcz40_3
     try clear hcz41_0
     try clear hcz41_1
     try clear hcz41_2
     try clear hcz41_3
     try clear hcz42_0
     try clear hcz42_1
     try clear hcz42_2
     try clear hcz42_3
     try clear hfz10_0
     try clear hfz10_1
     try clear hfz10_2
     try clear hfz10_3
     try clear hfz13_0
     try clear hfz13_1
     try clear hfz13_2
     try clear hfz13_3
     try clear hfz15_0
     try clear hfz15_1
     try clear hfz15_2
     try clear hfz15_3
     try clear hfz16_0
     try clear hfz16_1
     try clear hfz16_2
     try clear hfz16_3
     try clear hfz17_0
     try clear hfz17_1
     try clear hfz17_2
     try clear hfz17_3
     try clear hfz23_0
     try clear hfz23_1
     try clear hfz23_2
     try clear hfz23_3
     try clear hfz25_0
     try clear hfz25_1
     try clear hfz25_2
     try clear hfz25_3
     try clear hfz26_0
     try clear hfz26_1
     try clear hfz26_2
     try clear hfz26_3
     try clear hfz27_0
     try clear hfz27_1
     try clear hfz27_2
     try clear hfz27_3
     try clear hfz33_0
     try clear hfz33_1
     try clear hfz33_2
     try clear hfz33_3
     try clear hfz34_0
     try clear hfz34_1
     try clear hfz34_2
     try clear hfz34_3
     try clear hfz35_0
     try clear hfz35_1
     try clear hfz35_2
     try clear hfz35_3
     try clear hfz40_0
     try clear hfz40_1
     try clear hfz40_2
     try clear hfz40_3
     try clear hfz41_0
     try clear hfz41_1
     try clear hfz41_2
     try clear hfz41_3
     try clear hfz42_0
     try clear hfz42_1
     try clear hfz42_2
     try clear hfz42_3
     try clear hx882_0
     try clear hx882_1
     try clear hx882_2
     try clear hx882_3
     try clear p2
     try clear p6
     try clear p8
     try clear p882
     try clear q8
     try clear q882
     obtain ⟨x9_2, rfl, HA, HK2, HB⟩ := hrel
     cases gk with
     | zero => exact absurd HA.out (by simp [ah.l1])
     | succ k2 =>
      have H := HA.out
      clear HA
      simp only [ah.l1] at H
      revert H
      refine fO (fun c44b0 H => ?_) fun c44b0 H => ?_
      ·revert H
       refine eQ (fun c45b0 H => ?_) fun c45 H => ?_
       ·revert H
        refine aJ (fun c47b0 c47b1 H => ?_) fun c47 c47b0 c47b1 H => ?_
        ·obtain rfl := Option.some.inj H
         have p46 : 0 ≤ (x9_2 : Int) := of_decide_eq_true Z5
         have q46 : x9_2 < (a0.size : Int) := of_decide_eq_true Z5
         have hx46 := dL a0 x9_2
         replace p46 := eq_true p46
         replace q46 := eq_true q46
         go_wp2
         go_ret
         exact ⟨Z4, Z3⟩
        have H' := Aside0.mk H
        clear H
        have p46 : 0 ≤ (x9_2 : Int) := of_decide_eq_true Z5
        have q46 : x9_2 < (a0.size : Int) := of_decide_eq_true Z5
        have hx46 := dL a0 x9_2
        replace p46 := eq_true p46
        replace q46 := eq_true q46
        go_wp2
        go_roundg k2
        case measure => have := HK1.out; have := HK2.out; omega
        case rel => exact ⟨(wrap64 (x9_2 + 1)), Z6, H', ⟨by have := HK1.out; have := HK2.out; omega⟩, ⟨Z3⟩⟩
       exact absurd H (by simp)
      obtain rfl := Option.some.inj H
      go_wp2
      go_ret
      exact ⟨Z4, Z3⟩
 obtain rfl := Option.some.inj H
 go_enter Try.func11, Try.ntmps11
 go_wp2_with (first | ((with_reducible refine gC 22 rfl ?_); refine gM 22 12 rfl Try.func22 (aV.calls k a0 t877 t878 t879 _ A2.out) ?_; rintro _ w48 ⟨v880, rfl, ho0, hb⟩; refine ⟨_, rfl, yA2 (Kd.R_lower ho0 (below_size Z3)) (below_step Z3 hb) ?_⟩; clear HB hb ho0; intro HO881 HB))
 go_ret
 exact ⟨Z4, Z3⟩
end Go.Proofs.Ytendgafpkeadhaa.Q
end
section
namespace Go.Proofs.Ytendgafpkeadhaa.Q
open Go.RowKit Go.Proofs.YtendgafpkeadhaaW.PrintWords Go.Proofs.YtendgafpkeadhaaW.PrintLast Go.Proofs.YtendgafpkeadhaaW.PrintMore
attribute [local go_sem] max2_int min2_int max_two min_two max_three min_three max_four min_four
set_option linter.unusedVariables false
set_option linter.unusedSimpArgs false
theorem JA (d : Nat) (w : World) (x0 y0 : Int) (x1 y1 : Int) (x2 y2 : ByteArray) (x3 y3 : Int) (x4 y4 : ByteArray) :
 (Op.equalIn (d + 2) 41 (.agg #[.int .i64 x0, .int .i64 x1, .string x2, .int .i64 x3, .string x4]) (.agg #[.int .i64 y0, .int .i64 y1, .string y2, .int .i64 y3, .string y4])).run Try.prog w = .ok (x0 == y0 && (x1 == y1 && (x2.toList == y2.toList && (x3 == y3 && (x4.toList == y4.toList))))) w := by
 refine Je Try.underlying41 (by kernel_rfl) ?_
 refine qA (by rfl) (by go_simp; rfl) (by go_simp; rfl) (by go_simp) ?_
 refine qA (by rfl) (by go_simp; rfl) (by go_simp; rfl) (by go_simp) ?_
 refine qA (by rfl) (by go_simp; rfl) (by go_simp; rfl) (by go_simp) ?_
 refine qA (by rfl) (by go_simp; rfl) (by go_simp; rfl) (by go_simp) ?_
 exact EF (by rfl) (by go_simp; rfl) (by go_simp; rfl) (by go_simp)
end Go.Proofs.Ytendgafpkeadhaa.Q
end
section
namespace Go.Proofs.Ytendgafpkeadhaa.Q
open Go.RowKit Go.Proofs.YtendgafpkeadhaaW.PrintWords Go.Proofs.YtendgafpkeadhaaW.PrintLast Go.Proofs.YtendgafpkeadhaaW.PrintMore
attribute [local go_sem] max2_int min2_int max_two min_two max_three min_three max_four min_four
set_option linter.unusedVariables false
set_option linter.unusedSimpArgs false
attribute [local go_sem high] JA
/-! ### chrysalisref09_Same: function 12 -/
def chrysalisref09_Same.l0 : Nat → List (S41) → List (S41) → Int → Option (Bool)
 | 0, _, _, _ => none
 | k + 1, x0, x1, x5 => if x5 < (x0.length : Int) then (if 0 ≤ x5 then (if x5 < (x1.length : Int) then (if (!(((rd_T41 x0 x5).f0) == ((rd_T41 x1 x5).f0)) || (!(((rd_T41 x0 x5).f1) == ((rd_T41 x1 x5).f1)) || (!((((rd_T41 x0 x5).f2).toList) == (((rd_T41 x1 x5).f2).toList)) || (!(((rd_T41 x0 x5).f3) == ((rd_T41 x1 x5).f3)) || (!((((rd_T41 x0 x5).f4).toList) == (((rd_T41 x1 x5).f4).toList))))))) = true then (some false) else (chrysalisref09_Same.l0 k x0 x1 (wrap64 (x5 + 1)))) else (none)) else (none)) else (some true)
def chrysalisref09_Same.f (k : Nat) (l0 : List (S41)) (l1 : List (S41)) : Option (Bool) := if (l0.length : Int) = (l1.length : Int) then (chrysalisref09_Same.l0 k l0 l1 0) else (some false)
theorem chrysalisref09_Same.mono_l : ∀ k, (∀ y0 y1 y2, LeO (chrysalisref09_Same.l0 k y0 y1 y2) (chrysalisref09_Same.l0 (k + 1) y0 y1 y2))
 | 0 => fun _ _ _ r h => by simp [chrysalisref09_Same.l0] at h
 | k + 1 => by
  have ih0 := chrysalisref09_Same.mono_l k
  intro y0 y1 y2
  unfold chrysalisref09_Same.l0
  exact yL
theorem chrysalisref09_Same.mono : ∀ a0 a1 k, LeO (chrysalisref09_Same.f k a0 a1) (chrysalisref09_Same.f (k + 1) a0 a1) := by
 intro a0 a1 k
 have ih0 := chrysalisref09_Same.mono_l k
 unfold chrysalisref09_Same.f
 exact yL
set_option maxHeartbeats 8000000 in
set_option maxRecDepth 100000 in
theorem chrysalisref09_Same.calls (k : Nat) (A0 : Option Addr) (c0 : Nat) (l0 : List (S41)) (A1 : Option Addr) (c1 : Nat) (l1 : List (S41)) (r : Bool) (w : World) (hr0 : Kd.C k41 w A0 l0.length l0) (hc0 : l0.length ≤ c0) (hr1 : Kd.C k41 w A1 l1.length l1) (hc1 : l1.length ≤ c1) (h : chrysalisref09_Same.f k l0 l1 = some r) :
 Calls Try.prog 12 #[.slice A0 l0.length c0, .slice A1 l1.length c1] w fun e w' => e = .returned (.bool r) ∧ dw w w' := by
 have hu41 := Try.underlying41
 have HR0 := Aside0.mk hr0
 have HC0 := Aside0.mk hc0
 clear hr0 hc0
 have HR1 := Aside0.mk hr1
 have HC1 := Aside0.mk hc1
 clear hr1 hc1
 have H := h
 clear h
 unfold chrysalisref09_Same.f at H
 revert H
 refine vG (fun c3 c3b0 c3b1 H => ?_) fun c3 c3b0 c3b1 H => ?_
 ·have c3b2 : (l0.length == l1.length) = true := by first | simpa using c3 | (simp at c3 ⊢; omega)
  clear c3
  have H' := Aside0.mk H
  clear H
  go_enter Try.func12, Try.ntmps12
  go_wp2
  repeat (go_quiet (fail); try go_wp2)
  go_loopg [5] k (fun kq v5 w' => ∃ (x5_1 : Int), v5 = .int .i64 x5_1 ∧ Aside0 (chrysalisref09_Same.l0 kq l0 l1 x5_1 = some r) ∧ Aside0 (kq ≤ k) ∧ dw w w')
  case atStart => exact ⟨(0), Z6, H', ⟨Nat.le_refl _⟩, Z8⟩
  case round =>
   clear H'
   try clear c1
   try clear p2
   try clear c3
   try clear c3b0
   try clear c3b1
   try clear c3b2
   obtain ⟨x5_1, rfl, HA, HK1, ⟨m1, rfl⟩⟩ := hrel
   cases gk with
   | zero => exact absurd HA.out (by simp [chrysalisref09_Same.l0])
   | succ k1 =>
    have H := HA.out
    clear HA
    simp only [chrysalisref09_Same.l0] at H
    revert H
    refine fO (fun c4b0 H => ?_) fun c4b0 H => ?_
    ·revert H
     refine eQ (fun c5b0 H => ?_) fun c5 H => ?_
     ·revert H
      refine eQ (fun c6b0 H => ?_) fun c6 H => ?_
      ·revert H
       refine dX (fun c7 H => ?_) fun c7 H => ?_
       ·have c7b0 : (!(((rd_T41 l0 x5_1).f0) == ((rd_T41 l1 x5_1).f0)) || (!(((rd_T41 l0 x5_1).f1) == ((rd_T41 l1 x5_1).f1)) || (!((((rd_T41 l0 x5_1).f2).toList) == (((rd_T41 l1 x5_1).f2).toList)) || (!(((rd_T41 l0 x5_1).f3) == ((rd_T41 l1 x5_1).f3)) || (!((((rd_T41 l0 x5_1).f4).toList) == (((rd_T41 l1 x5_1).f4).toList))))))) = true := c7
        clear c7
        obtain rfl := Option.some.inj H
        have p884 : 0 ≤ (x5_1 : Int) := of_decide_eq_true Z5
        have q884 : x5_1 < (l0.length : Int) := of_decide_eq_true Z5
        obtain ⟨ad884, e884, hx884_0, hx884_1, hx884_2, hx884_3, hx884_4⟩ := gJ HR0.out x5_1 p884 q884
        cases e884
        replace p884 := eq_true p884
        replace q884 := eq_true q884
        have p885 : 0 ≤ (x5_1 : Int) := of_decide_eq_true Z5
        have q885 : x5_1 < (l1.length : Int) := of_decide_eq_true Z5
        obtain ⟨ad885, e885, hx885_0, hx885_1, hx885_2, hx885_3, hx885_4⟩ := gJ HR1.out x5_1 p885 q885
        cases e885
        replace p885 := eq_true p885
        replace q885 := eq_true q885
        go_wp2
        repeat (go_quiet (fail); try go_wp2)
        go_ret
        exact ⟨Z6, Z8⟩
       have c7b0 : (!(((rd_T41 l0 x5_1).f0) == ((rd_T41 l1 x5_1).f0)) || (!(((rd_T41 l0 x5_1).f1) == ((rd_T41 l1 x5_1).f1)) || (!((((rd_T41 l0 x5_1).f2).toList) == (((rd_T41 l1 x5_1).f2).toList)) || (!(((rd_T41 l0 x5_1).f3) == ((rd_T41 l1 x5_1).f3)) || (!((((rd_T41 l0 x5_1).f4).toList) == (((rd_T41 l1 x5_1).f4).toList))))))) = false := by simpa using c7
       clear c7
       have H' := Aside0.mk H
       clear H
       have p884 : 0 ≤ (x5_1 : Int) := of_decide_eq_true Z5
       have q884 : x5_1 < (l0.length : Int) := of_decide_eq_true Z5
       obtain ⟨ad884, e884, hx884_0, hx884_1, hx884_2, hx884_3, hx884_4⟩ := gJ HR0.out x5_1 p884 q884
       cases e884
       replace p884 := eq_true p884
       replace q884 := eq_true q884
       have p885 : 0 ≤ (x5_1 : Int) := of_decide_eq_true Z5
       have q885 : x5_1 < (l1.length : Int) := of_decide_eq_true Z5
       obtain ⟨ad885, e885, hx885_0, hx885_1, hx885_2, hx885_3, hx885_4⟩ := gJ HR1.out x5_1 p885 q885
       cases e885
       replace p885 := eq_true p885
       replace q885 := eq_true q885
       go_wp2
       repeat (go_quiet (fail); try go_wp2)
       go_roundg k1
       case measure => have := HK1.out; omega
       case rel => exact ⟨(wrap64 (x5_1 + 1)), Z6, H', ⟨by have := HK1.out; omega⟩, Z8⟩
      exact absurd H (by simp)
     exact absurd H (by simp)
    obtain rfl := Option.some.inj H
    go_wp2
    repeat (go_quiet (fail); try go_wp2)
    go_ret
    exact ⟨Z6, Z8⟩
 have c3b2 : (l0.length == l1.length) = false := by first | simpa using c3 | (simp at c3 ⊢; omega)
 obtain rfl := Option.some.inj H
 go_enter Try.func12, Try.ntmps12
 go_wp2
 repeat (go_quiet (fail); try go_wp2)
 go_ret
 exact ⟨Z6, Z8⟩
end Go.Proofs.Ytendgafpkeadhaa.Q
end
section
namespace Go.Proofs.Ytendgafpkeadhaa.Q
open Go.RowKit Go.Proofs.YtendgafpkeadhaaW.PrintWords Go.Proofs.YtendgafpkeadhaaW.PrintLast Go.Proofs.YtendgafpkeadhaaW.PrintMore
attribute [local go_sem] max2_int min2_int max_two min_two max_three min_three max_four min_four
set_option linter.unusedVariables false
set_option linter.unusedSimpArgs false
/-! ### aI: function 4 -/
def aI.l0 : Nat → ByteArray → Int → ByteArray → List (S41) → ByteArray → ByteArray → Int → Option (Bool)
 | 0, _, _, _, _, _, _, _ => none
 | k + 1, x0, x1, x5, x6, x9, x10, x11 => if x11 < (Int.tmod (wrap64 (x1)) 20) then (if x9.size + 1 ≤ 9223372036854775807 then (if x10.size + 1 ≤ 9223372036854775807 then (aI.l0 k x0 x1 x5 x6 (x9 ++ (⟨#[40]⟩ : ByteArray)) (x10 ++ (⟨#[41]⟩ : ByteArray)) (wrap64 (x11 + 1))) else (none)) else (none)) else (if x5.size + x9.size ≤ 9223372036854775807 then (if (x5 ++ x9).size + x0.size ≤ 9223372036854775807 then (if ((x5 ++ x9) ++ x0).size + x10.size ≤ 9223372036854775807 then (if (((x5 ++ x9) ++ x0) ++ x10).size + 3 ≤ 9223372036854775807 then ((parse_Text.f k ((((x5 ++ x9) ++ x0) ++ x10) ++ (⟨#[59, 32, 125]⟩ : ByteArray))).bind fun bt893 => (if bt893.2.1 = 0 then ((chrysalisref09_Same.f k x6 bt893.1).bind fun t898 => (if t898 = true then ((chrysalislaw10_known.f k).bind fun t899 => (some t899)) else (some false))) else ((ah.f k x0).bind fun t900 => (if t900 = true then (some false) else ((chrysalislaw10_known.f k).bind fun t901 => (some t901)))))) else (none)) else (none)) else (none)) else (none))
def aI.f (k : Nat) (a0 : ByteArray) (a1 : Int) : Option (Bool) := if (a0.size : Int) > 1000 then ((chrysalislaw10_known.f k).bind fun t886 => (some t886)) else (if 28 + a0.size ≤ 9223372036854775807 then (if ((⟨#[109, 111, 100, 117, 108, 101, 32, 109, 32, 49, 59, 32, 102, 110, 32, 102, 40, 41, 32, 123, 32, 114, 101, 116, 117, 114, 110, 32]⟩ : ByteArray) ++ a0).size + 3 ≤ 9223372036854775807 then ((parse_Text.f k (((⟨#[109, 111, 100, 117, 108, 101, 32, 109, 32, 49, 59, 32, 102, 110, 32, 102, 40, 41, 32, 123, 32, 114, 101, 116, 117, 114, 110, 32]⟩ : ByteArray) ++ a0) ++ (⟨#[59, 32, 125]⟩ : ByteArray))).bind fun bt887 => (if bt887.2.1 = 0 then (aI.l0 k a0 a1 (⟨#[109, 111, 100, 117, 108, 101, 32, 109, 32, 49, 59, 32, 102, 110, 32, 102, 40, 41, 32, 123, 32, 114, 101, 116, 117, 114, 110, 32]⟩ : ByteArray) bt887.1 (⟨#[]⟩ : ByteArray) (⟨#[]⟩ : ByteArray) 0) else ((chrysalislaw10_known.f k).bind fun t892 => (some t892)))) else (none)) else (none))
theorem aI.mono_l : ∀ k, (∀ y0 y1 y2 y3 y4 y5 y6, LeO (aI.l0 k y0 y1 y2 y3 y4 y5 y6) (aI.l0 (k + 1) y0 y1 y2 y3 y4 y5 y6))
 | 0 => fun _ _ _ _ _ _ _ r h => by simp [aI.l0] at h
 | k + 1 => by
  have ih0 := aI.mono_l k
  intro y0 y1 y2 y3 y4 y5 y6
  unfold aI.l0
  have m0 := chrysalislaw10_known.mono
  have m1 := ah.mono
  have m2 := chrysalisref09_Same.mono
  have m3 := parse_Text.mono
  exact yL
theorem aI.mono : ∀ a0 a1 k, LeO (aI.f k a0 a1) (aI.f (k + 1) a0 a1) := by
 intro a0 a1 k
 have ih0 := aI.mono_l k
 unfold aI.f
 have m0 := chrysalislaw10_known.mono
 have m1 := ah.mono
 have m2 := chrysalisref09_Same.mono
 have m3 := parse_Text.mono
 exact yL
set_option maxHeartbeats 8000000 in
set_option maxRecDepth 100000 in
theorem aI.calls (k : Nat) (a0 : ByteArray) (a1 : Int) (r : Bool) (w : World) (h : aI.f k a0 a1 = some r) (hr : r = true) :
 Calls Try.prog 4 #[.string a0, .int .u8 a1] w fun e w' => e = .returned (.bool r) ∧ Below w.heap.size w w' := by
 have HB := Aside0.mk (Below.refl w.heap.size w)
 have HR := Aside0.mk hr
 clear hr
 have H := h
 clear h
 unfold aI.f at H
 revert H
 refine dX (fun c3 H => ?_) fun c3 H => ?_
 ·have c3b0 : decide (1000 < (a0.size : Int)) = true := decide_eq_true c3
  have c3b1 : decide (1000 < a0.size) = true := decide_eq_true (by omega)
  clear c3
  revert H
  refine yB1 fun t886 A4 H => ?_
  obtain rfl := Option.some.inj H
  go_enter Try.func4, Try.ntmps4
  go_wp2_with (first | ((with_reducible refine gC 8 rfl ?_); refine gM 8 18 rfl Try.func8 (chrysalislaw10_known.calls k  t886 _ A4.out) ?_; rintro _ w5 ⟨rfl, hb⟩; refine ⟨_, rfl, yA1 (below_step Z3 hb) ?_⟩; clear HB hb; intro HB))
  go_ret
  exact ⟨Z4, Z3⟩
 have c3b0 : decide (1000 < (a0.size : Int)) = false := decide_eq_false c3
 have c3b1 : decide (1000 < a0.size) = false := decide_eq_false (by omega)
 clear c3
 revert H
 refine fB (fun c6 c6b0 c6b1 H => ?_) fun c6 H => ?_
 ·try have c6b2 : (9223372036854775807 < 28 + a0.size) = False := eq_false (Nat.not_lt.2 c6)
  revert H
  refine fB (fun c7 c7b0 c7b1 H => ?_) fun c7 H => ?_
  ·have c7s := c7
   simp only [ByteArray.size_append, show ((⟨#[109, 111, 100, 117, 108, 101, 32, 109, 32, 49, 59, 32, 102, 110, 32, 102, 40, 41, 32, 123, 32, 114, 101, 116, 117, 114, 110, 32]⟩ : ByteArray)).size = 28 from rfl] at c7s
   have c7t := eq_true c7s
   have c7u := eq_false (Nat.not_lt.2 c7s)
   clear c7s
   try have c7b2 : (9223372036854775807 < ((⟨#[109, 111, 100, 117, 108, 101, 32, 109, 32, 49, 59, 32, 102, 110, 32, 102, 40, 41, 32, 123, 32, 114, 101, 116, 117, 114, 110, 32]⟩ : ByteArray) ++ a0).size + 3) = False := eq_false (Nat.not_lt.2 c7)
   revert H
   refine yB3 fun t887 t888 t889 A8 H => ?_
   try dsimp only at H
   revert H
   refine aJ (fun c9b0 c9b1 H => ?_) fun c9 c9b0 c9b1 H => ?_
   ·have H' := Aside0.mk H
    clear H
    go_enter Try.func4, Try.ntmps4
    go_wp2_with (first | ((with_reducible refine gC 9 rfl ?_); refine gM 9 24 rfl Try.func9 (parse_Text.calls k (((⟨#[109, 111, 100, 117, 108, 101, 32, 109, 32, 49, 59, 32, 102, 110, 32, 102, 40, 41, 32, 123, 32, 114, 101, 116, 117, 114, 110, 32]⟩ : ByteArray) ++ a0) ++ (⟨#[59, 32, 125]⟩ : ByteArray)) t887 t888 t889 _ A8.out) ?_; rintro _ w10 ⟨v890, rfl, ho0, hb⟩; refine ⟨_, rfl, yA2 (Kd.R_lower ho0 (below_size Z3)) (below_step Z3 hb) ?_⟩; clear HB hb ho0; intro HO891 HB))
    go_loopg [9, 10, 11] k (fun kq v9 v10 v11 w' => ∃ (x9_1 : ByteArray) (x10_1 : ByteArray) (x11_1 : Int), v9 = .string x9_1 ∧ v10 = .string x10_1 ∧ v11 = .int .i64 x11_1 ∧ Aside0 (aI.l0 kq a0 a1 (⟨#[109, 111, 100, 117, 108, 101, 32, 109, 32, 49, 59, 32, 102, 110, 32, 102, 40, 41, 32, 123, 32, 114, 101, 116, 117, 114, 110, 32]⟩ : ByteArray) t887 x9_1 x10_1 x11_1 = some r) ∧ Aside0 (kq ≤ k) ∧ Aside0 (Kd.R k41 41 w' w.heap.size (fun _ => True) v890 t887) ∧ Aside0 (Below w.heap.size w w'))
    case atStart => exact ⟨((⟨#[]⟩ : ByteArray)), ((⟨#[]⟩ : ByteArray)), (0), Z6, Z6, Z6, H', ⟨Nat.le_refl _⟩, ⟨by (with_reducible repeat (first | apply Kd.R_alloc | apply Kd.R_drewN | apply Kd.R_drew)); exact HO891.out⟩, ⟨Z3⟩⟩
    case round =>
     clear H'
     try clear p2
     try clear c3
     try clear c3b0
     try clear c3b1
     try clear c4
     try clear c6
     try clear c6b0
     try clear c6b1
     try clear c6b2
     try clear c7
     try clear c7b0
     try clear c7b1
     try clear c7b2
     try clear c8
     try clear c9
     try clear c9b0
     try clear c9b1
     obtain ⟨x9_1, x10_1, x11_1, rfl, rfl, rfl, HA, HK1, HO_6, HB⟩ := hrel
     cases gk with
     | zero => exact absurd HA.out (by simp [aI.l0])
     | succ k1 =>
      have H := HA.out
      clear HA
      simp only [aI.l0] at H
      revert H
      refine fO (fun c11b0 H => ?_) fun c11b0 H => ?_
      ·revert H
       refine fB (fun c12 c12b0 c12b1 H => ?_) fun c12 H => ?_
       ·try have c12b2 : (9223372036854775807 < x9_1.size + 1) = False := eq_false (Nat.not_lt.2 c12)
        revert H
        refine fB (fun c13 c13b0 c13b1 H => ?_) fun c13 H => ?_
        ·try have c13b2 : (9223372036854775807 < x10_1.size + 1) = False := eq_false (Nat.not_lt.2 c13)
         have H' := Aside0.mk H
         clear H
         go_wp2
         go_roundg k1
         case measure => have := HK1.out; omega
         case rel => exact ⟨(x9_1 ++ (⟨#[40]⟩ : ByteArray)), (x10_1 ++ (⟨#[41]⟩ : ByteArray)), (wrap64 (x11_1 + 1)), Z6, Z6, Z6, H', ⟨by have := HK1.out; omega⟩, ⟨Z27⟩, ⟨Z3⟩⟩
        exact absurd H (by simp)
       exact absurd H (by simp)
      revert H
      refine fB (fun c14 c14b0 c14b1 H => ?_) fun c14 H => ?_
      ·try have c14b2 : (9223372036854775807 < (⟨#[109, 111, 100, 117, 108, 101, 32, 109, 32, 49, 59, 32, 102, 110, 32, 102, 40, 41, 32, 123, 32, 114, 101, 116, 117, 114, 110, 32]⟩ : ByteArray).size + x9_1.size) = False := eq_false (Nat.not_lt.2 c14)
       revert H
       refine fB (fun c15 c15b0 c15b1 H => ?_) fun c15 H => ?_
       ·have c15s := c15
        simp only [ByteArray.size_append, show ((⟨#[109, 111, 100, 117, 108, 101, 32, 109, 32, 49, 59, 32, 102, 110, 32, 102, 40, 41, 32, 123, 32, 114, 101, 116, 117, 114, 110, 32]⟩ : ByteArray)).size = 28 from rfl] at c15s
        have c15t := eq_true c15s
        have c15u := eq_false (Nat.not_lt.2 c15s)
        clear c15s
        try have c15b2 : (9223372036854775807 < ((⟨#[109, 111, 100, 117, 108, 101, 32, 109, 32, 49, 59, 32, 102, 110, 32, 102, 40, 41, 32, 123, 32, 114, 101, 116, 117, 114, 110, 32]⟩ : ByteArray) ++ x9_1).size + a0.size) = False := eq_false (Nat.not_lt.2 c15)
        revert H
        refine fB (fun c16 c16b0 c16b1 H => ?_) fun c16 H => ?_
        ·have c16s := c16
         simp only [ByteArray.size_append, show ((⟨#[109, 111, 100, 117, 108, 101, 32, 109, 32, 49, 59, 32, 102, 110, 32, 102, 40, 41, 32, 123, 32, 114, 101, 116, 117, 114, 110, 32]⟩ : ByteArray)).size = 28 from rfl] at c16s
         have c16t := eq_true c16s
         have c16u := eq_false (Nat.not_lt.2 c16s)
         clear c16s
         try have c16b2 : (9223372036854775807 < (((⟨#[109, 111, 100, 117, 108, 101, 32, 109, 32, 49, 59, 32, 102, 110, 32, 102, 40, 41, 32, 123, 32, 114, 101, 116, 117, 114, 110, 32]⟩ : ByteArray) ++ x9_1) ++ a0).size + x10_1.size) = False := eq_false (Nat.not_lt.2 c16)
         revert H
         refine fB (fun c17 c17b0 c17b1 H => ?_) fun c17 H => ?_
         ·have c17s := c17
          simp only [ByteArray.size_append, show ((⟨#[109, 111, 100, 117, 108, 101, 32, 109, 32, 49, 59, 32, 102, 110, 32, 102, 40, 41, 32, 123, 32, 114, 101, 116, 117, 114, 110, 32]⟩ : ByteArray)).size = 28 from rfl] at c17s
          have c17t := eq_true c17s
          have c17u := eq_false (Nat.not_lt.2 c17s)
          clear c17s
          try have c17b2 : (9223372036854775807 < ((((⟨#[109, 111, 100, 117, 108, 101, 32, 109, 32, 49, 59, 32, 102, 110, 32, 102, 40, 41, 32, 123, 32, 114, 101, 116, 117, 114, 110, 32]⟩ : ByteArray) ++ x9_1) ++ a0) ++ x10_1).size + 3) = False := eq_false (Nat.not_lt.2 c17)
          revert H
          refine yB3 fun t893 t894 t895 A18 H => ?_
          try dsimp only at H
          revert H
          refine aJ (fun c19b0 c19b1 H => ?_) fun c19 c19b0 c19b1 H => ?_
          ·revert H
           refine yB1 fun t898 A20 H => ?_
           cases t898
           rotate_left
           ·replace H := yT H
            revert H
            refine yB1 fun t899 A22 H => ?_
            obtain rfl := Option.some.inj H
            go_wp2_with (first | ((with_reducible refine gC 9 rfl ?_); refine gM 9 51 rfl Try.func9 (parse_Text.calls k1 (((((⟨#[109, 111, 100, 117, 108, 101, 32, 109, 32, 49, 59, 32, 102, 110, 32, 102, 40, 41, 32, 123, 32, 114, 101, 116, 117, 114, 110, 32]⟩ : ByteArray) ++ x9_1) ++ a0) ++ x10_1) ++ (⟨#[59, 32, 125]⟩ : ByteArray)) t893 t894 t895 _ A18.out) ?_; rintro _ w23 ⟨v896, rfl, ho0, hb⟩; refine ⟨_, rfl, yA3 (Kd.R_elder' Z27 (Kd.R_base ho0) hb) (Kd.R_lower (Kd.R_new' ho0 (Kd.R_lt Z27)) (below_size Z3)) (below_step Z3 hb) ?_⟩; clear HO_6 HB hb ho0; intro HO_6 HO897 HB; obtain ⟨Ao24, co24, rfl⟩ := Kd.R_slice HO_6.out; obtain ⟨Ao25, co25, rfl⟩ := Kd.R_slice HO897.out) | ((with_reducible refine gC 12 rfl ?_); refine gM 12 65 rfl Try.func12 (chrysalisref09_Same.calls k1 _ _ t887 _ _ t893 true _ Z68 ((Kd.R_reads' HO_6.out).2.1) (by repeat (first | exact (Kd.R_reads' HO897.out).2.2 | (with_reducible refine Kd.C_alloc ?_ _) | (with_reducible refine Kd.C_drewN ?_ _) | (with_reducible refine Kd.C_drew ?_))) ((Kd.R_reads' HO897.out).2.1) A20.out) ?_; rintro _ w' ⟨rfl, ⟨nd, rfl⟩⟩; refine ⟨_, rfl, ?_⟩) | (go_at_call 8; (with_reducible refine (chrysalislaw10_known.calls k1  t899 _ A22.out).mono ?_); rintro e w26 ⟨rfl, hb⟩; refine yA3 (Kd.R_below Z27 hb) (Kd.R_below Z74 hb) (below_step Z3 hb) ?_; clear HO_6 HO897 HB; intro HO_6 HO897 HB; (try clear hb)))
            go_ret
            exact ⟨Z4, Z3⟩
           replace H := yF H
           exact absurd ((Option.some.inj H).trans HR.out) (by decide)
          revert H
          refine yB1 fun t900 A30 H => ?_
          cases t900
          rotate_left
          ·replace H := yT H
           exact absurd ((Option.some.inj H).trans HR.out) (by decide)
          replace H := yF H
          revert H
          refine yB1 fun t901 A34 H => ?_
          obtain rfl := Option.some.inj H
          go_wp2_with (first | ((with_reducible refine gC 9 rfl ?_); refine gM 9 51 rfl Try.func9 (parse_Text.calls k1 (((((⟨#[109, 111, 100, 117, 108, 101, 32, 109, 32, 49, 59, 32, 102, 110, 32, 102, 40, 41, 32, 123, 32, 114, 101, 116, 117, 114, 110, 32]⟩ : ByteArray) ++ x9_1) ++ a0) ++ x10_1) ++ (⟨#[59, 32, 125]⟩ : ByteArray)) t893 t894 t895 _ A18.out) ?_; rintro _ w35 ⟨v896, rfl, ho0, hb⟩; refine ⟨_, rfl, yA3 (Kd.R_elder' Z27 (Kd.R_base ho0) hb) (Kd.R_lower (Kd.R_new' ho0 (Kd.R_lt Z27)) (below_size Z3)) (below_step Z3 hb) ?_⟩; clear HO_6 HB hb ho0; intro HO_6 HO897 HB) | ((with_reducible refine gC 11 rfl ?_); refine gM 11 58 rfl Try.func11 (ah.calls k1 a0 false _ A30.out) ?_; rintro _ w36 ⟨rfl, hb⟩; refine ⟨_, rfl, yA3 (Kd.R_below Z27 hb) (Kd.R_below Z74 hb) (below_step Z3 hb) ?_⟩; clear HO_6 HO897 HB hb; intro HO_6 HO897 HB) | (go_at_call 8; (with_reducible refine (chrysalislaw10_known.calls k1  t901 _ A34.out).mono ?_); rintro e w37 ⟨rfl, hb⟩; refine yA3 (Kd.R_below Z27 hb) (Kd.R_below Z74 hb) (below_step Z3 hb) ?_; clear HO_6 HO897 HB; intro HO_6 HO897 HB; (try clear hb)))
          go_ret
          exact ⟨Z4, Z3⟩
         exact absurd H (by simp)
        exact absurd H (by simp)
       exact absurd H (by simp)
      exact absurd H (by simp)
   revert H
   refine yB1 fun t892 A38 H => ?_
   obtain rfl := Option.some.inj H
   go_enter Try.func4, Try.ntmps4
   go_wp2_with (first | ((with_reducible refine gC 9 rfl ?_); refine gM 9 24 rfl Try.func9 (parse_Text.calls k (((⟨#[109, 111, 100, 117, 108, 101, 32, 109, 32, 49, 59, 32, 102, 110, 32, 102, 40, 41, 32, 123, 32, 114, 101, 116, 117, 114, 110, 32]⟩ : ByteArray) ++ a0) ++ (⟨#[59, 32, 125]⟩ : ByteArray)) t887 t888 t889 _ A8.out) ?_; rintro _ w39 ⟨v890, rfl, ho0, hb⟩; refine ⟨_, rfl, yA2 (Kd.R_lower ho0 (below_size Z3)) (below_step Z3 hb) ?_⟩; clear HB hb ho0; intro HO891 HB) | ((with_reducible refine gC 8 rfl ?_); refine gM 8 30 rfl Try.func8 (chrysalislaw10_known.calls k  t892 _ A38.out) ?_; rintro _ w40 ⟨rfl, hb⟩; refine ⟨_, rfl, yA2 (Kd.R_below (by (with_reducible repeat (first | apply Kd.R_alloc | apply Kd.R_drewN | apply Kd.R_drew)); exact HO891.out) hb) (below_step Z3 hb) ?_⟩; clear HO891 HB hb; intro HO891 HB))
   go_ret
   exact ⟨Z4, Z3⟩
  exact absurd H (by simp)
 exact absurd H (by simp)
/-- THE ONE PURE STATEMENT of aI: yours. -/
def aI.Pure : Prop := ∀ (a0 : ByteArray) (a1 : Int), a0.size ≤ 140737488351232 → (Lit.int .u8 a1).wf = true → ∃ k, aI.f k a0 a1 = some true
theorem aI.walk (P : aI.Pure) (a0 : ByteArray) (a1 : Int) (w : World) (w0 : a0.size ≤ 140737488351232) (w1 : (Lit.int .u8 a1).wf = true) :
 Calls Try.prog 4 #[.string a0, .int .u8 a1] w fun e w' => e = .returned (.bool true) ∧ Below w.heap.size w w' := by
 obtain ⟨k, h⟩ := P a0 a1 w0 w1
 refine (aI.calls k a0 a1 true w h rfl).mono ?_
 rintro e w' ⟨rfl, hd⟩
 exact ⟨rfl, hd⟩
end Go.Proofs.Ytendgafpkeadhaa.Q
end
section
namespace Go.Proofs.Ytendgafpkeadhaa.Q
open Go.RowKit Go.Proofs.YtendgafpkeadhaaW.PrintWords Go.Proofs.YtendgafpkeadhaaW.PrintLast Go.Proofs.YtendgafpkeadhaaW.PrintMore
attribute [local go_sem] max2_int min2_int max_two min_two max_three min_three max_four min_four
set_option linter.unusedVariables false
set_option linter.unusedSimpArgs false
/-! ### lex_Quote: function 27 -/
end Go.Proofs.Ytendgafpkeadhaa.Q
end
