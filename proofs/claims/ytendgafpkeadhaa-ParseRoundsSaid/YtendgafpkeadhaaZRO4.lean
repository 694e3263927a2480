/- Walks over functions of the program, words for them, and what the functions come to; of each text only what this claim uses; no condition. -/
import Derived.Test.YtendgafpkeadhaaZRO0
import Derived.Test.YtendgafpkeadhaaZRO1
import Derived.Test.YtendgafpkeadhaaZRO2
import Derived.Test.YtendgafpkeadhaaZRO3
section
namespace Go.Proofs.Ytendgafpkeadhaa.Q
open Go.RowKit Go.Proofs.YtendgafpkeadhaaW.PrintWords Go.Proofs.YtendgafpkeadhaaW.PrintLast Go.Proofs.YtendgafpkeadhaaW.PrintMore
attribute [local go_sem] max2_int min2_int max_two min_two max_three min_three max_four min_four
set_option linter.unusedVariables false
set_option linter.unusedSimpArgs false
/-! ### gB: function 24 -/
def gB.f (k : Nat) (a0 : ByteArray) : Option (Int × ByteArray × Int × Int × Int × Int) := if 0 < (a0.size : Int) then ((eu.f (wrap32 (bt a0 0))).bind fun t190 => (if t190 = true then ((iM.f a0).bind fun t191 => ((gV.f k t191).bind fun t192 => (if t192 = true then (some (5, t191, 0, 0, (t191.size : Int), 0)) else ((ed.f k t191).bind fun t193 => (if t193 = true then (some (1, t191, 0, 0, (t191.size : Int), 0)) else (some (0, (⟨#[]⟩ : ByteArray), 0, 0, 0, 10))))))) else ((gq.f (wrap32 (bt a0 0))).bind fun t194 => (if t194 = true then ((kD.f a0).bind fun t195 => ((bP.f k t195).bind fun bt196 => (if bt196.2 = true then (some (2, t195, bt196.1, 0, (t195.size : Int), 0)) else (some (0, (⟨#[]⟩ : ByteArray), 0, 0, 0, 10))))) else (if (wrap32 (bt a0 0)) = 34 then ((bW.f k a0).bind fun bt198 => (if bt198.2 > 0 then (some (3, bt198.1, 0, 0, bt198.2, 0)) else (some (0, (⟨#[]⟩ : ByteArray), 0, 0, 0, 10)))) else ((dO.f k a0).bind fun t200 => (if t200.toList = ([] : List UInt8) then (some (0, (⟨#[]⟩ : ByteArray), 0, 0, 0, 9)) else (some (4, t200, 0, 0, (t200.size : Int), 0))))))))) else (none)
theorem gB.mono : ∀ a0 k, LeO (gB.f k a0) (gB.f (k + 1) a0) := by
 intro a0 k
 unfold gB.f
 have m0 := gV.mono
 have m1 := ed.mono
 have m2 := bP.mono
 have m3 := bW.mono
 have m4 := dO.mono
 exact yL
set_option maxHeartbeats 8000000 in
set_option maxRecDepth 100000 in
theorem gB.calls (k : Nat) (a0 : ByteArray) (r1 : Int) (r2 : ByteArray) (r3 : Int) (r4 : Int) (r5 : Int) (r6 : Int) (w : World) (h : gB.f k a0 = some (r1, r2, r3, r4, r5, r6)) :
 Calls Try.prog 24 #[.string a0] w fun e w' => e = .returned (.tuple #[.agg #[.int .i64 r1, .string r2, .int .i64 r3, .int .i64 r4], .int .i64 r5, .int .i64 r6]) ∧ Below w.heap.size w w' := by
 have hu38 := Try.underlying38
 have HB := Aside0.mk (Below.refl w.heap.size w)
 have H := h
 clear h
 unfold gB.f at H
 revert H
 refine jX (fun c2 c2b0 H => ?_) fun c2 H => ?_
 ·have c2b1 : decide (0 < a0.size) = true := decide_eq_true (by omega)
  clear c2
  revert H
  refine yB1 fun t190 A4 H => ?_
  cases t190
  rotate_left
  ·replace H := yT H
   revert H
   refine yB1 fun t191 A6 H => ?_
   revert H
   refine yB1 fun t192 A7 H => ?_
   cases t192
   rotate_left
   ·replace H := yT H
    simp only [Option.some.injEq, Prod.mk.injEq] at H
    obtain ⟨rfl, rfl, rfl, rfl, rfl, rfl⟩ := H
    go_enter Try.func24, Try.ntmps24
    go_wp2_with (first | ((with_reducible refine bJ (N := 2) rfl ?_); refine bU ?hg (N := 2) ?hd (cs := #[.int .i64 0, .string (⟨#[]⟩ : ByteArray), .int .i64 0, .int .i64 0]) (t := 38) ?hr ?_; (case hd => rfl); (case hg => rfl); (case hr => first | (go_simp; done) | (go_simp; rfl)); intro gb189 hg w9 hbox hb; refine yA4 (below_step Z3 hb) (hbox) ((by rw [hg]; exact (below_size Z3) : w.heap.size ≤ gb189)) ((by rw [hg]; exact (below_size Z3) : w.heap.size ≤ gb189)) ?_; clear HB; intro HB BK189 GW189 GE189; clear hb hbox hg; have p3 : 0 ≤ (0 : Int) := (by omega); have q3 : 0 < a0.size := (by have : (0 : Int) < (a0.size : Int) := of_decide_eq_true Z5; omega); have hx3 : ∀ h : 0 < a0.size, ((a0[0]'h).toNat : Int) = bt a0 0 := dL a0 0; clear p3; have qi3 : (0 < (a0.size : Int)) = True := eq_true (of_decide_eq_true Z5); replace q3 := eq_true q3) | ((with_reducible refine gC 44 rfl ?_); refine gM 44 27 rfl Try.func44 (eu.calls (wrap32 (bt a0 0)) true _ A4.out) ?_; rintro _ w' ⟨rfl, ⟨nd, rfl⟩⟩; refine ⟨_, rfl, ?_⟩; (try (rw [cO w9]; generalize hq_ : World.drewN w9 _ = w9; have n0_ : Aside0 (w9.heap[gb189]? = some (.cells #[.int .i64 0, .string (⟨#[]⟩ : ByteArray), .int .i64 0, .int .i64 0] 38 (0, 0))) := ⟨Z58⟩; have n1_ : Aside0 (Below w.heap.size w w9) := ⟨Z14⟩; clear BK189 HB hq_; have BK189 := n0_; have HB := n1_; clear n0_ n1_))) | ((with_reducible refine gC 41 rfl ?_); refine gM 41 29 rfl Try.func41 (iM.calls a0 t191 _ A6.out) ?_; rintro _ w10 ⟨rfl, hb⟩; refine ⟨_, rfl, yA2 (bV (g := gb189) (o := .cells #[.int .i64 0, .string (⟨#[]⟩ : ByteArray), .int .i64 0, .int .i64 0] 38 (0, 0)) (by exact BK189.out) hb) (below_step Z9 hb) ?_⟩; clear BK189 HB hb; intro BK189 HB) | ((with_reducible refine gC 46 rfl ?_); refine gM 46 32 rfl Try.func46 (gV.calls k t191 true _ A7.out) ?_; rintro _ w11 ⟨rfl, hb⟩; refine ⟨_, rfl, yA2 (bV (g := gb189) (o := .cells #[.int .i64 0, .string (⟨#[]⟩ : ByteArray), .int .i64 0, .int .i64 0] 38 (0, 0)) (by exact BK189.out) hb) (below_step Z9 hb) ?_⟩; clear BK189 HB hb; intro BK189 HB; have hcz12_0 : w11.cell? ⟨gb189, 0, none⟩ = some (.int .i64 0) := (af BK189.out 0).trans rfl; have hcz12_1 : w11.cell? ⟨gb189, 1, none⟩ = some (.string (⟨#[]⟩ : ByteArray)) := (af BK189.out 1).trans rfl; have hcz12_2 : w11.cell? ⟨gb189, 2, none⟩ = some (.int .i64 0) := (af BK189.out 2).trans rfl; have hcz12_3 : w11.cell? ⟨gb189, 3, none⟩ = some (.int .i64 0) := (af BK189.out 3).trans rfl; have hfz12_0 := ae BK189.out 0; have hfz12_1 := ae BK189.out 1; have hfz12_2 := ae BK189.out 2; have hfz12_3 := ae BK189.out 3))
    refine bodyPost_ret (dQ rfl _ _ gb189 38 #[.int .i64 5, .string t191, .int .i64 0, .int .i64 0] (0, 0) _ rfl (by refine aA (cs := #[.int .i64 5, .string t191, .int .i64 0, .int .i64 0]) ?_ 3 _ rfl; refine aA (cs := #[.int .i64 5, .string t191, .int .i64 0, .int .i64 0]) ?_ 2 _ rfl; refine aA (cs := #[.int .i64 5, .string (⟨#[]⟩ : ByteArray), .int .i64 0, .int .i64 0]) ?_ 1 _ rfl; refine aA (cs := #[.int .i64 0, .string (⟨#[]⟩ : ByteArray), .int .i64 0, .int .i64 0]) ?_ 0 _ rfl; exact BK189.out) Try.underlying38 rfl (by kernel_rfl)) rfl ?_
    exact ⟨Z4, Z9⟩
   replace H := yF H
   revert H
   refine yB1 fun t193 A13 H => ?_
   cases t193
   rotate_left
   ·replace H := yT H
    simp only [Option.some.injEq, Prod.mk.injEq] at H
    obtain ⟨rfl, rfl, rfl, rfl, rfl, rfl⟩ := H
    go_enter Try.func24, Try.ntmps24
    go_wp2_with (first | ((with_reducible refine bJ (N := 2) rfl ?_); refine bU ?hg (N := 2) ?hd (cs := #[.int .i64 0, .string (⟨#[]⟩ : ByteArray), .int .i64 0, .int .i64 0]) (t := 38) ?hr ?_; (case hd => rfl); (case hg => rfl); (case hr => first | (go_simp; done) | (go_simp; rfl)); intro gb189 hg w15 hbox hb; refine yA4 (below_step Z3 hb) (hbox) ((by rw [hg]; exact (below_size Z3) : w.heap.size ≤ gb189)) ((by rw [hg]; exact (below_size Z3) : w.heap.size ≤ gb189)) ?_; clear HB; intro HB BK189 GW189 GE189; clear hb hbox hg; have p3 : 0 ≤ (0 : Int) := (by omega); have q3 : 0 < a0.size := (by have : (0 : Int) < (a0.size : Int) := of_decide_eq_true Z5; omega); have hx3 : ∀ h : 0 < a0.size, ((a0[0]'h).toNat : Int) = bt a0 0 := dL a0 0; clear p3; have qi3 : (0 < (a0.size : Int)) = True := eq_true (of_decide_eq_true Z5); replace q3 := eq_true q3) | ((with_reducible refine gC 44 rfl ?_); refine gM 44 27 rfl Try.func44 (eu.calls (wrap32 (bt a0 0)) true _ A4.out) ?_; rintro _ w' ⟨rfl, ⟨nd, rfl⟩⟩; refine ⟨_, rfl, ?_⟩; (try (rw [cO w15]; generalize hq_ : World.drewN w15 _ = w15; have n0_ : Aside0 (w15.heap[gb189]? = some (.cells #[.int .i64 0, .string (⟨#[]⟩ : ByteArray), .int .i64 0, .int .i64 0] 38 (0, 0))) := ⟨Z58⟩; have n1_ : Aside0 (Below w.heap.size w w15) := ⟨Z14⟩; clear BK189 HB hq_; have BK189 := n0_; have HB := n1_; clear n0_ n1_))) | ((with_reducible refine gC 41 rfl ?_); refine gM 41 29 rfl Try.func41 (iM.calls a0 t191 _ A6.out) ?_; rintro _ w16 ⟨rfl, hb⟩; refine ⟨_, rfl, yA2 (bV (g := gb189) (o := .cells #[.int .i64 0, .string (⟨#[]⟩ : ByteArray), .int .i64 0, .int .i64 0] 38 (0, 0)) (by exact BK189.out) hb) (below_step Z9 hb) ?_⟩; clear BK189 HB hb; intro BK189 HB) | ((with_reducible refine gC 46 rfl ?_); refine gM 46 32 rfl Try.func46 (gV.calls k t191 false _ A7.out) ?_; rintro _ w17 ⟨rfl, hb⟩; refine ⟨_, rfl, yA2 (bV (g := gb189) (o := .cells #[.int .i64 0, .string (⟨#[]⟩ : ByteArray), .int .i64 0, .int .i64 0] 38 (0, 0)) (by exact BK189.out) hb) (below_step Z9 hb) ?_⟩; clear BK189 HB hb; intro BK189 HB) | ((with_reducible refine gC 31 rfl ?_); refine gM 31 39 rfl Try.func31 (ed.calls k t191 true _ A13.out) ?_; rintro _ w18 ⟨rfl, hb⟩; refine ⟨_, rfl, yA2 (bV (g := gb189) (o := .cells #[.int .i64 0, .string (⟨#[]⟩ : ByteArray), .int .i64 0, .int .i64 0] 38 (0, 0)) (by exact BK189.out) hb) (below_step Z9 hb) ?_⟩; clear BK189 HB hb; intro BK189 HB; have hcz19_0 : w18.cell? ⟨gb189, 0, none⟩ = some (.int .i64 0) := (af BK189.out 0).trans rfl; have hcz19_1 : w18.cell? ⟨gb189, 1, none⟩ = some (.string (⟨#[]⟩ : ByteArray)) := (af BK189.out 1).trans rfl; have hcz19_2 : w18.cell? ⟨gb189, 2, none⟩ = some (.int .i64 0) := (af BK189.out 2).trans rfl; have hcz19_3 : w18.cell? ⟨gb189, 3, none⟩ = some (.int .i64 0) := (af BK189.out 3).trans rfl; have hfz19_0 := ae BK189.out 0; have hfz19_1 := ae BK189.out 1; have hfz19_2 := ae BK189.out 2; have hfz19_3 := ae BK189.out 3))
    refine bodyPost_ret (dQ rfl _ _ gb189 38 #[.int .i64 1, .string t191, .int .i64 0, .int .i64 0] (0, 0) _ rfl (by refine aA (cs := #[.int .i64 1, .string t191, .int .i64 0, .int .i64 0]) ?_ 3 _ rfl; refine aA (cs := #[.int .i64 1, .string t191, .int .i64 0, .int .i64 0]) ?_ 2 _ rfl; refine aA (cs := #[.int .i64 1, .string (⟨#[]⟩ : ByteArray), .int .i64 0, .int .i64 0]) ?_ 1 _ rfl; refine aA (cs := #[.int .i64 0, .string (⟨#[]⟩ : ByteArray), .int .i64 0, .int .i64 0]) ?_ 0 _ rfl; exact BK189.out) Try.underlying38 rfl (by kernel_rfl)) rfl ?_
    exact ⟨Z4, Z9⟩
   replace H := yF H
   simp only [Option.some.injEq, Prod.mk.injEq] at H
   obtain ⟨rfl, rfl, rfl, rfl, rfl, rfl⟩ := H
   go_enter Try.func24, Try.ntmps24
   go_wp2_with (first | ((with_reducible refine bJ (N := 2) rfl ?_); refine bU ?hg (N := 2) ?hd (cs := #[.int .i64 0, .string (⟨#[]⟩ : ByteArray), .int .i64 0, .int .i64 0]) (t := 38) ?hr ?_; (case hd => rfl); (case hg => rfl); (case hr => first | (go_simp; done) | (go_simp; rfl)); intro gb189 hg w20 hbox hb; refine yA4 (below_step Z3 hb) (hbox) ((by rw [hg]; exact (below_size Z3) : w.heap.size ≤ gb189)) ((by rw [hg]; exact (below_size Z3) : w.heap.size ≤ gb189)) ?_; clear HB; intro HB BK189 GW189 GE189; clear hb hbox hg; have p3 : 0 ≤ (0 : Int) := (by omega); have q3 : 0 < a0.size := (by have : (0 : Int) < (a0.size : Int) := of_decide_eq_true Z5; omega); have hx3 : ∀ h : 0 < a0.size, ((a0[0]'h).toNat : Int) = bt a0 0 := dL a0 0; clear p3; have qi3 : (0 < (a0.size : Int)) = True := eq_true (of_decide_eq_true Z5); replace q3 := eq_true q3) | ((with_reducible refine gC 44 rfl ?_); refine gM 44 27 rfl Try.func44 (eu.calls (wrap32 (bt a0 0)) true _ A4.out) ?_; rintro _ w' ⟨rfl, ⟨nd, rfl⟩⟩; refine ⟨_, rfl, ?_⟩; (try (rw [cO w20]; generalize hq_ : World.drewN w20 _ = w20; have n0_ : Aside0 (w20.heap[gb189]? = some (.cells #[.int .i64 0, .string (⟨#[]⟩ : ByteArray), .int .i64 0, .int .i64 0] 38 (0, 0))) := ⟨Z58⟩; have n1_ : Aside0 (Below w.heap.size w w20) := ⟨Z14⟩; clear BK189 HB hq_; have BK189 := n0_; have HB := n1_; clear n0_ n1_))) | ((with_reducible refine gC 41 rfl ?_); refine gM 41 29 rfl Try.func41 (iM.calls a0 t191 _ A6.out) ?_; rintro _ w21 ⟨rfl, hb⟩; refine ⟨_, rfl, yA2 (bV (g := gb189) (o := .cells #[.int .i64 0, .string (⟨#[]⟩ : ByteArray), .int .i64 0, .int .i64 0] 38 (0, 0)) (by exact BK189.out) hb) (below_step Z9 hb) ?_⟩; clear BK189 HB hb; intro BK189 HB) | ((with_reducible refine gC 46 rfl ?_); refine gM 46 32 rfl Try.func46 (gV.calls k t191 false _ A7.out) ?_; rintro _ w22 ⟨rfl, hb⟩; refine ⟨_, rfl, yA2 (bV (g := gb189) (o := .cells #[.int .i64 0, .string (⟨#[]⟩ : ByteArray), .int .i64 0, .int .i64 0] 38 (0, 0)) (by exact BK189.out) hb) (below_step Z9 hb) ?_⟩; clear BK189 HB hb; intro BK189 HB) | ((with_reducible refine gC 31 rfl ?_); refine gM 31 39 rfl Try.func31 (ed.calls k t191 false _ A13.out) ?_; rintro _ w23 ⟨rfl, hb⟩; refine ⟨_, rfl, yA2 (bV (g := gb189) (o := .cells #[.int .i64 0, .string (⟨#[]⟩ : ByteArray), .int .i64 0, .int .i64 0] 38 (0, 0)) (by exact BK189.out) hb) (below_step Z9 hb) ?_⟩; clear BK189 HB hb; intro BK189 HB; have hcz24_0 : w23.cell? ⟨gb189, 0, none⟩ = some (.int .i64 0) := (af BK189.out 0).trans rfl; have hcz24_1 : w23.cell? ⟨gb189, 1, none⟩ = some (.string (⟨#[]⟩ : ByteArray)) := (af BK189.out 1).trans rfl; have hcz24_2 : w23.cell? ⟨gb189, 2, none⟩ = some (.int .i64 0) := (af BK189.out 2).trans rfl; have hcz24_3 : w23.cell? ⟨gb189, 3, none⟩ = some (.int .i64 0) := (af BK189.out 3).trans rfl; have hfz24_0 := ae BK189.out 0; have hfz24_1 := ae BK189.out 1; have hfz24_2 := ae BK189.out 2; have hfz24_3 := ae BK189.out 3))
   refine bodyPost_ret (dQ rfl _ _ gb189 38 #[.int .i64 0, .string (⟨#[]⟩ : ByteArray), .int .i64 0, .int .i64 0] (0, 0) _ rfl (by refine aA (cs := #[.int .i64 0, .string (⟨#[]⟩ : ByteArray), .int .i64 0, .int .i64 0]) ?_ 3 _ rfl; refine aA (cs := #[.int .i64 0, .string (⟨#[]⟩ : ByteArray), .int .i64 0, .int .i64 0]) ?_ 2 _ rfl; refine aA (cs := #[.int .i64 0, .string (⟨#[]⟩ : ByteArray), .int .i64 0, .int .i64 0]) ?_ 1 _ rfl; refine aA (cs := #[.int .i64 0, .string (⟨#[]⟩ : ByteArray), .int .i64 0, .int .i64 0]) ?_ 0 _ rfl; exact BK189.out) Try.underlying38 rfl (by kernel_rfl)) rfl ?_
   exact ⟨Z4, Z9⟩
  replace H := yF H
  revert H
  refine yB1 fun t194 A25 H => ?_
  cases t194
  rotate_left
  ·replace H := yT H
   revert H
   refine yB1 fun t195 A27 H => ?_
   revert H
   refine yB2 fun t196 t197 A28 H => ?_
   try dsimp only at H
   cases t197
   rotate_left
   ·replace H := yT H
    simp only [Option.some.injEq, Prod.mk.injEq] at H
    obtain ⟨rfl, rfl, rfl, rfl, rfl, rfl⟩ := H
    go_enter Try.func24, Try.ntmps24
    go_wp2_with (first | ((with_reducible refine bJ (N := 2) rfl ?_); refine bU ?hg (N := 2) ?hd (cs := #[.int .i64 0, .string (⟨#[]⟩ : ByteArray), .int .i64 0, .int .i64 0]) (t := 38) ?hr ?_; (case hd => rfl); (case hg => rfl); (case hr => first | (go_simp; done) | (go_simp; rfl)); intro gb189 hg w30 hbox hb; refine yA4 (below_step Z3 hb) (hbox) ((by rw [hg]; exact (below_size Z3) : w.heap.size ≤ gb189)) ((by rw [hg]; exact (below_size Z3) : w.heap.size ≤ gb189)) ?_; clear HB; intro HB BK189 GW189 GE189; clear hb hbox hg; have p3 : 0 ≤ (0 : Int) := (by omega); have q3 : 0 < a0.size := (by have : (0 : Int) < (a0.size : Int) := of_decide_eq_true Z5; omega); have hx3 : ∀ h : 0 < a0.size, ((a0[0]'h).toNat : Int) = bt a0 0 := dL a0 0; clear p3; have qi3 : (0 < (a0.size : Int)) = True := eq_true (of_decide_eq_true Z5); replace q3 := eq_true q3) | ((with_reducible refine gC 44 rfl ?_); refine gM 44 27 rfl Try.func44 (eu.calls (wrap32 (bt a0 0)) false _ A4.out) ?_; rintro _ w' ⟨rfl, ⟨nd, rfl⟩⟩; refine ⟨_, rfl, ?_⟩; (try (rw [cO w30]; generalize hq_ : World.drewN w30 _ = w30; have n0_ : Aside0 (w30.heap[gb189]? = some (.cells #[.int .i64 0, .string (⟨#[]⟩ : ByteArray), .int .i64 0, .int .i64 0] 38 (0, 0))) := ⟨Z58⟩; have n1_ : Aside0 (Below w.heap.size w w30) := ⟨Z14⟩; clear BK189 HB hq_; have BK189 := n0_; have HB := n1_; clear n0_ n1_))) | ((with_reducible refine gC 47 rfl ?_); refine gM 47 46 rfl Try.func47 (gq.calls (wrap32 (bt a0 0)) true _ A25.out) ?_; rintro _ w' ⟨rfl, ⟨nd, rfl⟩⟩; refine ⟨_, rfl, ?_⟩; (try (rw [cO w30]; generalize hq_ : World.drewN w30 _ = w30; have n0_ : Aside0 (w30.heap[gb189]? = some (.cells #[.int .i64 0, .string (⟨#[]⟩ : ByteArray), .int .i64 0, .int .i64 0] 38 (0, 0))) := ⟨Z58⟩; have n1_ : Aside0 (Below w.heap.size w w30) := ⟨Z14⟩; clear BK189 HB hq_; have BK189 := n0_; have HB := n1_; clear n0_ n1_))) | ((with_reducible refine gC 41 rfl ?_); refine gM 41 48 rfl Try.func41 (kD.calls a0 t195 _ A27.out) ?_; rintro _ w31 ⟨rfl, hb⟩; refine ⟨_, rfl, yA2 (bV (g := gb189) (o := .cells #[.int .i64 0, .string (⟨#[]⟩ : ByteArray), .int .i64 0, .int .i64 0] 38 (0, 0)) (by exact BK189.out) hb) (below_step Z9 hb) ?_⟩; clear BK189 HB hb; intro BK189 HB) | ((with_reducible refine gC 48 rfl ?_); refine gM 48 51 rfl Try.func48 (bP.calls k t195 t196 true _ A28.out) ?_; rintro _ w' ⟨rfl, ⟨nd, rfl⟩⟩; refine ⟨_, rfl, ?_⟩; (try (rw [cO w31]; generalize hq_ : World.drewN w31 _ = w31; have n0_ : Aside0 (w31.heap[gb189]? = some (.cells #[.int .i64 0, .string (⟨#[]⟩ : ByteArray), .int .i64 0, .int .i64 0] 38 (0, 0))) := ⟨Z58⟩; have n1_ : Aside0 (Below w.heap.size w w31) := ⟨Z14⟩; clear BK189 HB hq_; have BK189 := n0_; have HB := n1_; clear n0_ n1_)); have hcz32_0 : w31.cell? ⟨gb189, 0, none⟩ = some (.int .i64 0) := (af BK189.out 0).trans rfl; have hcz32_1 : w31.cell? ⟨gb189, 1, none⟩ = some (.string (⟨#[]⟩ : ByteArray)) := (af BK189.out 1).trans rfl; have hcz32_2 : w31.cell? ⟨gb189, 2, none⟩ = some (.int .i64 0) := (af BK189.out 2).trans rfl; have hcz32_3 : w31.cell? ⟨gb189, 3, none⟩ = some (.int .i64 0) := (af BK189.out 3).trans rfl; have hfz32_0 := ae BK189.out 0; have hfz32_1 := ae BK189.out 1; have hfz32_2 := ae BK189.out 2; have hfz32_3 := ae BK189.out 3))
    refine bodyPost_ret (dQ rfl _ _ gb189 38 #[.int .i64 2, .string t195, .int .i64 t196, .int .i64 0] (0, 0) _ rfl (by refine aA (cs := #[.int .i64 2, .string t195, .int .i64 t196, .int .i64 0]) ?_ 3 _ rfl; refine aA (cs := #[.int .i64 2, .string t195, .int .i64 0, .int .i64 0]) ?_ 2 _ rfl; refine aA (cs := #[.int .i64 2, .string (⟨#[]⟩ : ByteArray), .int .i64 0, .int .i64 0]) ?_ 1 _ rfl; refine aA (cs := #[.int .i64 0, .string (⟨#[]⟩ : ByteArray), .int .i64 0, .int .i64 0]) ?_ 0 _ rfl; exact BK189.out) Try.underlying38 rfl (by kernel_rfl)) rfl ?_
    exact ⟨Z4, Z9⟩
   replace H := yF H
   simp only [Option.some.injEq, Prod.mk.injEq] at H
   obtain ⟨rfl, rfl, rfl, rfl, rfl, rfl⟩ := H
   go_enter Try.func24, Try.ntmps24
   go_wp2_with (first | ((with_reducible refine bJ (N := 2) rfl ?_); refine bU ?hg (N := 2) ?hd (cs := #[.int .i64 0, .string (⟨#[]⟩ : ByteArray), .int .i64 0, .int .i64 0]) (t := 38) ?hr ?_; (case hd => rfl); (case hg => rfl); (case hr => first | (go_simp; done) | (go_simp; rfl)); intro gb189 hg w33 hbox hb; refine yA4 (below_step Z3 hb) (hbox) ((by rw [hg]; exact (below_size Z3) : w.heap.size ≤ gb189)) ((by rw [hg]; exact (below_size Z3) : w.heap.size ≤ gb189)) ?_; clear HB; intro HB BK189 GW189 GE189; clear hb hbox hg; have p3 : 0 ≤ (0 : Int) := (by omega); have q3 : 0 < a0.size := (by have : (0 : Int) < (a0.size : Int) := of_decide_eq_true Z5; omega); have hx3 : ∀ h : 0 < a0.size, ((a0[0]'h).toNat : Int) = bt a0 0 := dL a0 0; clear p3; have qi3 : (0 < (a0.size : Int)) = True := eq_true (of_decide_eq_true Z5); replace q3 := eq_true q3) | ((with_reducible refine gC 44 rfl ?_); refine gM 44 27 rfl Try.func44 (eu.calls (wrap32 (bt a0 0)) false _ A4.out) ?_; rintro _ w' ⟨rfl, ⟨nd, rfl⟩⟩; refine ⟨_, rfl, ?_⟩; (try (rw [cO w33]; generalize hq_ : World.drewN w33 _ = w33; have n0_ : Aside0 (w33.heap[gb189]? = some (.cells #[.int .i64 0, .string (⟨#[]⟩ : ByteArray), .int .i64 0, .int .i64 0] 38 (0, 0))) := ⟨Z58⟩; have n1_ : Aside0 (Below w.heap.size w w33) := ⟨Z14⟩; clear BK189 HB hq_; have BK189 := n0_; have HB := n1_; clear n0_ n1_))) | ((with_reducible refine gC 47 rfl ?_); refine gM 47 46 rfl Try.func47 (gq.calls (wrap32 (bt a0 0)) true _ A25.out) ?_; rintro _ w' ⟨rfl, ⟨nd, rfl⟩⟩; refine ⟨_, rfl, ?_⟩; (try (rw [cO w33]; generalize hq_ : World.drewN w33 _ = w33; have n0_ : Aside0 (w33.heap[gb189]? = some (.cells #[.int .i64 0, .string (⟨#[]⟩ : ByteArray), .int .i64 0, .int .i64 0] 38 (0, 0))) := ⟨Z58⟩; have n1_ : Aside0 (Below w.heap.size w w33) := ⟨Z14⟩; clear BK189 HB hq_; have BK189 := n0_; have HB := n1_; clear n0_ n1_))) | ((with_reducible refine gC 41 rfl ?_); refine gM 41 48 rfl Try.func41 (kD.calls a0 t195 _ A27.out) ?_; rintro _ w34 ⟨rfl, hb⟩; refine ⟨_, rfl, yA2 (bV (g := gb189) (o := .cells #[.int .i64 0, .string (⟨#[]⟩ : ByteArray), .int .i64 0, .int .i64 0] 38 (0, 0)) (by exact BK189.out) hb) (below_step Z9 hb) ?_⟩; clear BK189 HB hb; intro BK189 HB) | ((with_reducible refine gC 48 rfl ?_); refine gM 48 51 rfl Try.func48 (bP.calls k t195 t196 false _ A28.out) ?_; rintro _ w' ⟨rfl, ⟨nd, rfl⟩⟩; refine ⟨_, rfl, ?_⟩; (try (rw [cO w34]; generalize hq_ : World.drewN w34 _ = w34; have n0_ : Aside0 (w34.heap[gb189]? = some (.cells #[.int .i64 0, .string (⟨#[]⟩ : ByteArray), .int .i64 0, .int .i64 0] 38 (0, 0))) := ⟨Z58⟩; have n1_ : Aside0 (Below w.heap.size w w34) := ⟨Z14⟩; clear BK189 HB hq_; have BK189 := n0_; have HB := n1_; clear n0_ n1_)); have hcz35_0 : w34.cell? ⟨gb189, 0, none⟩ = some (.int .i64 0) := (af BK189.out 0).trans rfl; have hcz35_1 : w34.cell? ⟨gb189, 1, none⟩ = some (.string (⟨#[]⟩ : ByteArray)) := (af BK189.out 1).trans rfl; have hcz35_2 : w34.cell? ⟨gb189, 2, none⟩ = some (.int .i64 0) := (af BK189.out 2).trans rfl; have hcz35_3 : w34.cell? ⟨gb189, 3, none⟩ = some (.int .i64 0) := (af BK189.out 3).trans rfl; have hfz35_0 := ae BK189.out 0; have hfz35_1 := ae BK189.out 1; have hfz35_2 := ae BK189.out 2; have hfz35_3 := ae BK189.out 3))
   refine bodyPost_ret (dQ rfl _ _ gb189 38 #[.int .i64 0, .string (⟨#[]⟩ : ByteArray), .int .i64 0, .int .i64 0] (0, 0) _ rfl (by refine aA (cs := #[.int .i64 0, .string (⟨#[]⟩ : ByteArray), .int .i64 0, .int .i64 0]) ?_ 3 _ rfl; refine aA (cs := #[.int .i64 0, .string (⟨#[]⟩ : ByteArray), .int .i64 0, .int .i64 0]) ?_ 2 _ rfl; refine aA (cs := #[.int .i64 0, .string (⟨#[]⟩ : ByteArray), .int .i64 0, .int .i64 0]) ?_ 1 _ rfl; refine aA (cs := #[.int .i64 0, .string (⟨#[]⟩ : ByteArray), .int .i64 0, .int .i64 0]) ?_ 0 _ rfl; exact BK189.out) Try.underlying38 rfl (by kernel_rfl)) rfl ?_
   exact ⟨Z4, Z9⟩
  replace H := yF H
  revert H
  refine aJ (fun c36b0 c36b1 H => ?_) fun c36 c36b0 c36b1 H => ?_
  ·revert H
   refine yB2 fun t198 t199 A37 H => ?_
   try dsimp only at H
   revert H
   refine dX (fun c38 H => ?_) fun c38 H => ?_
   ·have c38b0 : decide (0 < t199) = true := decide_eq_true c38
    clear c38
    simp only [Option.some.injEq, Prod.mk.injEq] at H
    obtain ⟨rfl, rfl, rfl, rfl, rfl, rfl⟩ := H
    go_enter Try.func24, Try.ntmps24
    go_wp2_with (first | ((with_reducible refine bJ (N := 2) rfl ?_); refine bU ?hg (N := 2) ?hd (cs := #[.int .i64 0, .string (⟨#[]⟩ : ByteArray), .int .i64 0, .int .i64 0]) (t := 38) ?hr ?_; (case hd => rfl); (case hg => rfl); (case hr => first | (go_simp; done) | (go_simp; rfl)); intro gb189 hg w39 hbox hb; refine yA4 (below_step Z3 hb) (hbox) ((by rw [hg]; exact (below_size Z3) : w.heap.size ≤ gb189)) ((by rw [hg]; exact (below_size Z3) : w.heap.size ≤ gb189)) ?_; clear HB; intro HB BK189 GW189 GE189; clear hb hbox hg; have p3 : 0 ≤ (0 : Int) := (by omega); have q3 : 0 < a0.size := (by have : (0 : Int) < (a0.size : Int) := of_decide_eq_true Z5; omega); have hx3 : ∀ h : 0 < a0.size, ((a0[0]'h).toNat : Int) = bt a0 0 := dL a0 0; clear p3; have qi3 : (0 < (a0.size : Int)) = True := eq_true (of_decide_eq_true Z5); replace q3 := eq_true q3) | ((with_reducible refine gC 44 rfl ?_); refine gM 44 27 rfl Try.func44 (eu.calls (wrap32 (bt a0 0)) false _ A4.out) ?_; rintro _ w' ⟨rfl, ⟨nd, rfl⟩⟩; refine ⟨_, rfl, ?_⟩; (try (rw [cO w39]; generalize hq_ : World.drewN w39 _ = w39; have n0_ : Aside0 (w39.heap[gb189]? = some (.cells #[.int .i64 0, .string (⟨#[]⟩ : ByteArray), .int .i64 0, .int .i64 0] 38 (0, 0))) := ⟨Z58⟩; have n1_ : Aside0 (Below w.heap.size w w39) := ⟨Z14⟩; clear BK189 HB hq_; have BK189 := n0_; have HB := n1_; clear n0_ n1_))) | ((with_reducible refine gC 47 rfl ?_); refine gM 47 46 rfl Try.func47 (gq.calls (wrap32 (bt a0 0)) false _ A25.out) ?_; rintro _ w' ⟨rfl, ⟨nd, rfl⟩⟩; refine ⟨_, rfl, ?_⟩; (try (rw [cO w39]; generalize hq_ : World.drewN w39 _ = w39; have n0_ : Aside0 (w39.heap[gb189]? = some (.cells #[.int .i64 0, .string (⟨#[]⟩ : ByteArray), .int .i64 0, .int .i64 0] 38 (0, 0))) := ⟨Z58⟩; have n1_ : Aside0 (Below w.heap.size w w39) := ⟨Z14⟩; clear BK189 HB hq_; have BK189 := n0_; have HB := n1_; clear n0_ n1_))) | ((with_reducible refine gC 49 rfl ?_); refine gM 49 65 rfl Try.func49 (bW.calls k a0 t198 t199 _ A37.out) ?_; rintro _ w40 ⟨rfl, hb⟩; refine ⟨_, rfl, yA2 (bV (g := gb189) (o := .cells #[.int .i64 0, .string (⟨#[]⟩ : ByteArray), .int .i64 0, .int .i64 0] 38 (0, 0)) (by exact BK189.out) hb) (below_step Z9 hb) ?_⟩; clear BK189 HB hb; intro BK189 HB; have hcz41_0 : w40.cell? ⟨gb189, 0, none⟩ = some (.int .i64 0) := (af BK189.out 0).trans rfl; have hcz41_1 : w40.cell? ⟨gb189, 1, none⟩ = some (.string (⟨#[]⟩ : ByteArray)) := (af BK189.out 1).trans rfl; have hcz41_2 : w40.cell? ⟨gb189, 2, none⟩ = some (.int .i64 0) := (af BK189.out 2).trans rfl; have hcz41_3 : w40.cell? ⟨gb189, 3, none⟩ = some (.int .i64 0) := (af BK189.out 3).trans rfl; have hfz41_0 := ae BK189.out 0; have hfz41_1 := ae BK189.out 1; have hfz41_2 := ae BK189.out 2; have hfz41_3 := ae BK189.out 3))
    refine bodyPost_ret (dQ rfl _ _ gb189 38 #[.int .i64 3, .string t198, .int .i64 0, .int .i64 0] (0, 0) _ rfl (by refine aA (cs := #[.int .i64 3, .string t198, .int .i64 0, .int .i64 0]) ?_ 3 _ rfl; refine aA (cs := #[.int .i64 3, .string t198, .int .i64 0, .int .i64 0]) ?_ 2 _ rfl; refine aA (cs := #[.int .i64 3, .string (⟨#[]⟩ : ByteArray), .int .i64 0, .int .i64 0]) ?_ 1 _ rfl; refine aA (cs := #[.int .i64 0, .string (⟨#[]⟩ : ByteArray), .int .i64 0, .int .i64 0]) ?_ 0 _ rfl; exact BK189.out) Try.underlying38 rfl (by kernel_rfl)) rfl ?_
    exact ⟨Z4, Z9⟩
   have c38b0 : decide (0 < t199) = false := decide_eq_false c38
   clear c38
   simp only [Option.some.injEq, Prod.mk.injEq] at H
   obtain ⟨rfl, rfl, rfl, rfl, rfl, rfl⟩ := H
   go_enter Try.func24, Try.ntmps24
   go_wp2_with (first | ((with_reducible refine bJ (N := 2) rfl ?_); refine bU ?hg (N := 2) ?hd (cs := #[.int .i64 0, .string (⟨#[]⟩ : ByteArray), .int .i64 0, .int .i64 0]) (t := 38) ?hr ?_; (case hd => rfl); (case hg => rfl); (case hr => first | (go_simp; done) | (go_simp; rfl)); intro gb189 hg w42 hbox hb; refine yA4 (below_step Z3 hb) (hbox) ((by rw [hg]; exact (below_size Z3) : w.heap.size ≤ gb189)) ((by rw [hg]; exact (below_size Z3) : w.heap.size ≤ gb189)) ?_; clear HB; intro HB BK189 GW189 GE189; clear hb hbox hg; have p3 : 0 ≤ (0 : Int) := (by omega); have q3 : 0 < a0.size := (by have : (0 : Int) < (a0.size : Int) := of_decide_eq_true Z5; omega); have hx3 : ∀ h : 0 < a0.size, ((a0[0]'h).toNat : Int) = bt a0 0 := dL a0 0; clear p3; have qi3 : (0 < (a0.size : Int)) = True := eq_true (of_decide_eq_true Z5); replace q3 := eq_true q3) | ((with_reducible refine gC 44 rfl ?_); refine gM 44 27 rfl Try.func44 (eu.calls (wrap32 (bt a0 0)) false _ A4.out) ?_; rintro _ w' ⟨rfl, ⟨nd, rfl⟩⟩; refine ⟨_, rfl, ?_⟩; (try (rw [cO w42]; generalize hq_ : World.drewN w42 _ = w42; have n0_ : Aside0 (w42.heap[gb189]? = some (.cells #[.int .i64 0, .string (⟨#[]⟩ : ByteArray), .int .i64 0, .int .i64 0] 38 (0, 0))) := ⟨Z58⟩; have n1_ : Aside0 (Below w.heap.size w w42) := ⟨Z14⟩; clear BK189 HB hq_; have BK189 := n0_; have HB := n1_; clear n0_ n1_))) | ((with_reducible refine gC 47 rfl ?_); refine gM 47 46 rfl Try.func47 (gq.calls (wrap32 (bt a0 0)) false _ A25.out) ?_; rintro _ w' ⟨rfl, ⟨nd, rfl⟩⟩; refine ⟨_, rfl, ?_⟩; (try (rw [cO w42]; generalize hq_ : World.drewN w42 _ = w42; have n0_ : Aside0 (w42.heap[gb189]? = some (.cells #[.int .i64 0, .string (⟨#[]⟩ : ByteArray), .int .i64 0, .int .i64 0] 38 (0, 0))) := ⟨Z58⟩; have n1_ : Aside0 (Below w.heap.size w w42) := ⟨Z14⟩; clear BK189 HB hq_; have BK189 := n0_; have HB := n1_; clear n0_ n1_))) | ((with_reducible refine gC 49 rfl ?_); refine gM 49 65 rfl Try.func49 (bW.calls k a0 t198 t199 _ A37.out) ?_; rintro _ w43 ⟨rfl, hb⟩; refine ⟨_, rfl, yA2 (bV (g := gb189) (o := .cells #[.int .i64 0, .string (⟨#[]⟩ : ByteArray), .int .i64 0, .int .i64 0] 38 (0, 0)) (by exact BK189.out) hb) (below_step Z9 hb) ?_⟩; clear BK189 HB hb; intro BK189 HB; have hcz44_0 : w43.cell? ⟨gb189, 0, none⟩ = some (.int .i64 0) := (af BK189.out 0).trans rfl; have hcz44_1 : w43.cell? ⟨gb189, 1, none⟩ = some (.string (⟨#[]⟩ : ByteArray)) := (af BK189.out 1).trans rfl; have hcz44_2 : w43.cell? ⟨gb189, 2, none⟩ = some (.int .i64 0) := (af BK189.out 2).trans rfl; have hcz44_3 : w43.cell? ⟨gb189, 3, none⟩ = some (.int .i64 0) := (af BK189.out 3).trans rfl; have hfz44_0 := ae BK189.out 0; have hfz44_1 := ae BK189.out 1; have hfz44_2 := ae BK189.out 2; have hfz44_3 := ae BK189.out 3))
   refine bodyPost_ret (dQ rfl _ _ gb189 38 #[.int .i64 0, .string (⟨#[]⟩ : ByteArray), .int .i64 0, .int .i64 0] (0, 0) _ rfl (by refine aA (cs := #[.int .i64 0, .string (⟨#[]⟩ : ByteArray), .int .i64 0, .int .i64 0]) ?_ 3 _ rfl; refine aA (cs := #[.int .i64 0, .string (⟨#[]⟩ : ByteArray), .int .i64 0, .int .i64 0]) ?_ 2 _ rfl; refine aA (cs := #[.int .i64 0, .string (⟨#[]⟩ : ByteArray), .int .i64 0, .int .i64 0]) ?_ 1 _ rfl; refine aA (cs := #[.int .i64 0, .string (⟨#[]⟩ : ByteArray), .int .i64 0, .int .i64 0]) ?_ 0 _ rfl; exact BK189.out) Try.underlying38 rfl (by kernel_rfl)) rfl ?_
   exact ⟨Z4, Z9⟩
  revert H
  refine yB1 fun t200 A45 H => ?_
  revert H
  refine aJ (fun c46b0 c46b1 H => ?_) fun c46 c46b0 c46b1 H => ?_
  ·simp only [Option.some.injEq, Prod.mk.injEq] at H
   obtain ⟨rfl, rfl, rfl, rfl, rfl, rfl⟩ := H
   go_enter Try.func24, Try.ntmps24
   go_wp2_with (first | ((with_reducible refine bJ (N := 2) rfl ?_); refine bU ?hg (N := 2) ?hd (cs := #[.int .i64 0, .string (⟨#[]⟩ : ByteArray), .int .i64 0, .int .i64 0]) (t := 38) ?hr ?_; (case hd => rfl); (case hg => rfl); (case hr => first | (go_simp; done) | (go_simp; rfl)); intro gb189 hg w47 hbox hb; refine yA4 (below_step Z3 hb) (hbox) ((by rw [hg]; exact (below_size Z3) : w.heap.size ≤ gb189)) ((by rw [hg]; exact (below_size Z3) : w.heap.size ≤ gb189)) ?_; clear HB; intro HB BK189 GW189 GE189; clear hb hbox hg; have p3 : 0 ≤ (0 : Int) := (by omega); have q3 : 0 < a0.size := (by have : (0 : Int) < (a0.size : Int) := of_decide_eq_true Z5; omega); have hx3 : ∀ h : 0 < a0.size, ((a0[0]'h).toNat : Int) = bt a0 0 := dL a0 0; clear p3; have qi3 : (0 < (a0.size : Int)) = True := eq_true (of_decide_eq_true Z5); replace q3 := eq_true q3) | ((with_reducible refine gC 44 rfl ?_); refine gM 44 27 rfl Try.func44 (eu.calls (wrap32 (bt a0 0)) false _ A4.out) ?_; rintro _ w' ⟨rfl, ⟨nd, rfl⟩⟩; refine ⟨_, rfl, ?_⟩; (try (rw [cO w47]; generalize hq_ : World.drewN w47 _ = w47; have n0_ : Aside0 (w47.heap[gb189]? = some (.cells #[.int .i64 0, .string (⟨#[]⟩ : ByteArray), .int .i64 0, .int .i64 0] 38 (0, 0))) := ⟨Z58⟩; have n1_ : Aside0 (Below w.heap.size w w47) := ⟨Z14⟩; clear BK189 HB hq_; have BK189 := n0_; have HB := n1_; clear n0_ n1_))) | ((with_reducible refine gC 47 rfl ?_); refine gM 47 46 rfl Try.func47 (gq.calls (wrap32 (bt a0 0)) false _ A25.out) ?_; rintro _ w' ⟨rfl, ⟨nd, rfl⟩⟩; refine ⟨_, rfl, ?_⟩; (try (rw [cO w47]; generalize hq_ : World.drewN w47 _ = w47; have n0_ : Aside0 (w47.heap[gb189]? = some (.cells #[.int .i64 0, .string (⟨#[]⟩ : ByteArray), .int .i64 0, .int .i64 0] 38 (0, 0))) := ⟨Z58⟩; have n1_ : Aside0 (Below w.heap.size w w47) := ⟨Z14⟩; clear BK189 HB hq_; have BK189 := n0_; have HB := n1_; clear n0_ n1_))) | ((with_reducible refine gC 50 rfl ?_); refine gM 50 17 rfl Try.func50 (dO.calls k a0 t200 _ A45.out) ?_; rintro _ w' ⟨rfl, ⟨nd, rfl⟩⟩; refine ⟨_, rfl, ?_⟩; (try (rw [cO w47]; generalize hq_ : World.drewN w47 _ = w47; have n0_ : Aside0 (w47.heap[gb189]? = some (.cells #[.int .i64 0, .string (⟨#[]⟩ : ByteArray), .int .i64 0, .int .i64 0] 38 (0, 0))) := ⟨Z58⟩; have n1_ : Aside0 (Below w.heap.size w w47) := ⟨Z14⟩; clear BK189 HB hq_; have BK189 := n0_; have HB := n1_; clear n0_ n1_)); have hcz48_0 : w47.cell? ⟨gb189, 0, none⟩ = some (.int .i64 0) := (af BK189.out 0).trans rfl; have hcz48_1 : w47.cell? ⟨gb189, 1, none⟩ = some (.string (⟨#[]⟩ : ByteArray)) := (af BK189.out 1).trans rfl; have hcz48_2 : w47.cell? ⟨gb189, 2, none⟩ = some (.int .i64 0) := (af BK189.out 2).trans rfl; have hcz48_3 : w47.cell? ⟨gb189, 3, none⟩ = some (.int .i64 0) := (af BK189.out 3).trans rfl; have hfz48_0 := ae BK189.out 0; have hfz48_1 := ae BK189.out 1; have hfz48_2 := ae BK189.out 2; have hfz48_3 := ae BK189.out 3))
   refine bodyPost_ret (dQ rfl _ _ gb189 38 #[.int .i64 0, .string (⟨#[]⟩ : ByteArray), .int .i64 0, .int .i64 0] (0, 0) _ rfl (by refine aA (cs := #[.int .i64 0, .string (⟨#[]⟩ : ByteArray), .int .i64 0, .int .i64 0]) ?_ 3 _ rfl; refine aA (cs := #[.int .i64 0, .string (⟨#[]⟩ : ByteArray), .int .i64 0, .int .i64 0]) ?_ 2 _ rfl; refine aA (cs := #[.int .i64 0, .string (⟨#[]⟩ : ByteArray), .int .i64 0, .int .i64 0]) ?_ 1 _ rfl; refine aA (cs := #[.int .i64 0, .string (⟨#[]⟩ : ByteArray), .int .i64 0, .int .i64 0]) ?_ 0 _ rfl; exact BK189.out) Try.underlying38 rfl (by kernel_rfl)) rfl ?_
   exact ⟨Z4, Z9⟩
  simp only [Option.some.injEq, Prod.mk.injEq] at H
  obtain ⟨rfl, rfl, rfl, rfl, rfl, rfl⟩ := H
  go_enter Try.func24, Try.ntmps24
  go_wp2_with (first | ((with_reducible refine bJ (N := 2) rfl ?_); refine bU ?hg (N := 2) ?hd (cs := #[.int .i64 0, .string (⟨#[]⟩ : ByteArray), .int .i64 0, .int .i64 0]) (t := 38) ?hr ?_; (case hd => rfl); (case hg => rfl); (case hr => first | (go_simp; done) | (go_simp; rfl)); intro gb189 hg w49 hbox hb; refine yA4 (below_step Z3 hb) (hbox) ((by rw [hg]; exact (below_size Z3) : w.heap.size ≤ gb189)) ((by rw [hg]; exact (below_size Z3) : w.heap.size ≤ gb189)) ?_; clear HB; intro HB BK189 GW189 GE189; clear hb hbox hg; have p3 : 0 ≤ (0 : Int) := (by omega); have q3 : 0 < a0.size := (by have : (0 : Int) < (a0.size : Int) := of_decide_eq_true Z5; omega); have hx3 : ∀ h : 0 < a0.size, ((a0[0]'h).toNat : Int) = bt a0 0 := dL a0 0; clear p3; have qi3 : (0 < (a0.size : Int)) = True := eq_true (of_decide_eq_true Z5); replace q3 := eq_true q3) | ((with_reducible refine gC 44 rfl ?_); refine gM 44 27 rfl Try.func44 (eu.calls (wrap32 (bt a0 0)) false _ A4.out) ?_; rintro _ w' ⟨rfl, ⟨nd, rfl⟩⟩; refine ⟨_, rfl, ?_⟩; (try (rw [cO w49]; generalize hq_ : World.drewN w49 _ = w49; have n0_ : Aside0 (w49.heap[gb189]? = some (.cells #[.int .i64 0, .string (⟨#[]⟩ : ByteArray), .int .i64 0, .int .i64 0] 38 (0, 0))) := ⟨Z58⟩; have n1_ : Aside0 (Below w.heap.size w w49) := ⟨Z14⟩; clear BK189 HB hq_; have BK189 := n0_; have HB := n1_; clear n0_ n1_))) | ((with_reducible refine gC 47 rfl ?_); refine gM 47 46 rfl Try.func47 (gq.calls (wrap32 (bt a0 0)) false _ A25.out) ?_; rintro _ w' ⟨rfl, ⟨nd, rfl⟩⟩; refine ⟨_, rfl, ?_⟩; (try (rw [cO w49]; generalize hq_ : World.drewN w49 _ = w49; have n0_ : Aside0 (w49.heap[gb189]? = some (.cells #[.int .i64 0, .string (⟨#[]⟩ : ByteArray), .int .i64 0, .int .i64 0] 38 (0, 0))) := ⟨Z58⟩; have n1_ : Aside0 (Below w.heap.size w w49) := ⟨Z14⟩; clear BK189 HB hq_; have BK189 := n0_; have HB := n1_; clear n0_ n1_))) | ((with_reducible refine gC 50 rfl ?_); refine gM 50 17 rfl Try.func50 (dO.calls k a0 t200 _ A45.out) ?_; rintro _ w' ⟨rfl, ⟨nd, rfl⟩⟩; refine ⟨_, rfl, ?_⟩; (try (rw [cO w49]; generalize hq_ : World.drewN w49 _ = w49; have n0_ : Aside0 (w49.heap[gb189]? = some (.cells #[.int .i64 0, .string (⟨#[]⟩ : ByteArray), .int .i64 0, .int .i64 0] 38 (0, 0))) := ⟨Z58⟩; have n1_ : Aside0 (Below w.heap.size w w49) := ⟨Z14⟩; clear BK189 HB hq_; have BK189 := n0_; have HB := n1_; clear n0_ n1_)); have hcz50_0 : w49.cell? ⟨gb189, 0, none⟩ = some (.int .i64 0) := (af BK189.out 0).trans rfl; have hcz50_1 : w49.cell? ⟨gb189, 1, none⟩ = some (.string (⟨#[]⟩ : ByteArray)) := (af BK189.out 1).trans rfl; have hcz50_2 : w49.cell? ⟨gb189, 2, none⟩ = some (.int .i64 0) := (af BK189.out 2).trans rfl; have hcz50_3 : w49.cell? ⟨gb189, 3, none⟩ = some (.int .i64 0) := (af BK189.out 3).trans rfl; have hfz50_0 := ae BK189.out 0; have hfz50_1 := ae BK189.out 1; have hfz50_2 := ae BK189.out 2; have hfz50_3 := ae BK189.out 3))
  refine bodyPost_ret (dQ rfl _ _ gb189 38 #[.int .i64 4, .string t200, .int .i64 0, .int .i64 0] (0, 0) _ rfl (by refine aA (cs := #[.int .i64 4, .string t200, .int .i64 0, .int .i64 0]) ?_ 3 _ rfl; refine aA (cs := #[.int .i64 4, .string t200, .int .i64 0, .int .i64 0]) ?_ 2 _ rfl; refine aA (cs := #[.int .i64 4, .string (⟨#[]⟩ : ByteArray), .int .i64 0, .int .i64 0]) ?_ 1 _ rfl; refine aA (cs := #[.int .i64 0, .string (⟨#[]⟩ : ByteArray), .int .i64 0, .int .i64 0]) ?_ 0 _ rfl; exact BK189.out) Try.underlying38 rfl (by kernel_rfl)) rfl ?_
  exact ⟨Z4, Z9⟩
 exact absurd H (by simp)
end Go.Proofs.Ytendgafpkeadhaa.Q
end
section
namespace Go.Proofs.Ytendgafpkeadhaa.Q
open Go.RowKit Go.Proofs.YtendgafpkeadhaaW.PrintWords Go.Proofs.YtendgafpkeadhaaW.PrintLast Go.Proofs.YtendgafpkeadhaaW.PrintMore
attribute [local go_sem] iY iW iV iU max2_int min2_int max_two min_two max_three min_three max_four min_four
set_option linter.unusedVariables false
set_option linter.unusedSimpArgs false
/-! ### lex_Scan: function 13 -/
def lex_Scan.l0 : Nat → ByteArray → List (S38) → ByteArray → Option ((List (S38)) × Int × Int)
 | 0, _, _, _ => none
 | k + 1, x0, x5, x6 => if x6.toList = ([] : List UInt8) then (some (x5, 0, 0)) else ((gB.f k x6).bind fun bt202 => (if bt202.2.2.2.2.2 = 0 then (if x5.length < 3518437208883 then (if 0 ≤ bt202.2.2.2.2.1 then (if bt202.2.2.2.2.1 ≤ (x6.size : Int) then ((kV.f (x6.extract (bt202.2.2.2.2.1 : Int).toNat x6.size)).bind fun t212 => (lex_Scan.l0 k x0 (x5 ++ [(⟨bt202.1, bt202.2.1, bt202.2.2.1, wrap64 ((x0.size : Int) - (x6.size : Int))⟩ : S38)]) t212)) else (none)) else (none)) else (none)) else (some (([] : List (S38)), bt202.2.2.2.2.2, wrap64 ((x0.size : Int) - (x6.size : Int))))))
def lex_Scan.f (k : Nat) (a0 : ByteArray) : Option ((List (S38)) × Int × Int) := if (a0.size : Int) > 8192 then (some (([] : List (S38)), 3, 0)) else ((kV.f a0).bind fun t201 => (lex_Scan.l0 k a0 ([] : List (S38)) t201))
theorem lex_Scan.mono_l : ∀ k, (∀ y0 y1 y2, LeO (lex_Scan.l0 k y0 y1 y2) (lex_Scan.l0 (k + 1) y0 y1 y2))
 | 0 => fun _ _ _ r h => by simp [lex_Scan.l0] at h
 | k + 1 => by
  have ih0 := lex_Scan.mono_l k
  intro y0 y1 y2
  unfold lex_Scan.l0
  have m0 := gB.mono
  exact yL
theorem lex_Scan.mono : ∀ a0 k, LeO (lex_Scan.f k a0) (lex_Scan.f (k + 1) a0) := by
 intro a0 k
 have ih0 := lex_Scan.mono_l k
 unfold lex_Scan.f
 have m0 := gB.mono
 exact yL
set_option maxHeartbeats 8000000 in
set_option maxRecDepth 100000 in
theorem lex_Scan.calls (k : Nat) (a0 : ByteArray) (r1 : List (S38)) (r2 : Int) (r3 : Int) (w : World) (h : lex_Scan.f k a0 = some (r1, r2, r3)) :
 Calls Try.prog 13 #[.string a0] w fun e w' => ∃ v0_ : Value, e = .returned (.tuple #[v0_, .int .i64 r2, .int .i64 r3]) ∧ Kd.R k38 38 w' w.heap.size (fun _ => True) v0_ r1 ∧ Below w.heap.size w w' := by
 have hu38 := Try.underlying38
 have HB := Aside0.mk (Below.refl w.heap.size w)
 have H := h
 clear h
 unfold lex_Scan.f at H
 revert H
 refine dX (fun c2 H => ?_) fun c2 H => ?_
 ·have c2b0 : decide (8192 < (a0.size : Int)) = true := decide_eq_true c2
  have c2b1 : decide (8192 < a0.size) = true := decide_eq_true (by omega)
  clear c2
  simp only [Option.some.injEq, Prod.mk.injEq] at H
  obtain ⟨rfl, rfl, rfl⟩ := H
  go_enter Try.func13, Try.ntmps13
  go_wp2
  go_ret3
  exact ⟨_, Z4, Z24, Z3⟩
 have c2b0 : decide (8192 < (a0.size : Int)) = false := decide_eq_false c2
 have c2b1 : decide (8192 < a0.size) = false := decide_eq_false (by omega)
 clear c2
 revert H
 refine yB1 fun t201 A3 H => ?_
 have H' := Aside0.mk H
 clear H
 go_enter Try.func13, Try.ntmps13
 go_wp2_with (first | ((with_reducible refine gC 23 rfl ?_); refine gM 23 15 rfl Try.func23 (kV.calls a0 t201 _ A3.out) ?_; rintro _ w4 ⟨rfl, hb⟩; refine ⟨_, rfl, yA1 (below_step Z3 hb) ?_⟩; clear HB hb; intro HB))
 (try simp only [Act.put, List.setIfInBounds_toArray, List.set_cons_zero, List.set_cons_succ])
 go_loopg [5, 6] k (fun kq v5 v6 w' => ∃ (x5_1 : List (S38)) (x6_1 : ByteArray), v6 = .string x6_1 ∧ Aside0 (lex_Scan.l0 kq a0 x5_1 x6_1 = some (r1, r2, r3)) ∧ Aside0 (kq ≤ k) ∧ Aside0 (Kd.R k38 38 w' w.heap.size (fun _ => True) v5 x5_1) ∧ Aside0 (Below w.heap.size w w'))
 case atStart => exact ⟨(([] : List (S38))), (t201), Z6, H', ⟨Nat.le_refl _⟩, ⟨Z24⟩, ⟨Z3⟩⟩
 case round =>
  clear H'
  try clear c1
  try clear c2
  try clear c2b0
  try clear c2b1
  try clear p2
  obtain ⟨x5_1, x6_1, rfl, HA, HK1, HO_5, HB⟩ := hrel
  cases gk with
  | zero => exact absurd HA.out (by simp [lex_Scan.l0])
  | succ k1 =>
   have H := HA.out
   clear HA
   simp only [lex_Scan.l0] at H
   revert H
   refine aJ (fun c5b0 c5b1 H => ?_) fun c5 c5b0 c5b1 H => ?_
   ·simp only [Option.some.injEq, Prod.mk.injEq] at H
    obtain ⟨rfl, rfl, rfl⟩ := H
    go_wp2
    go_ret3
    exact ⟨_, Z4, Z19, Z3⟩
   revert H
   refine yB6 fun t202 t203 t204 t205 t206 t207 A6 H => ?_
   try dsimp only at H
   revert H
   refine aJ (fun c7b0 c7b1 H => ?_) fun c7 c7b0 c7b1 H => ?_
   ·revert H
    refine dX (fun c8 H => ?_) fun c8 H => ?_
    ·have LMc8 := Aside0.mk c8
     clear c8
     obtain ⟨y209, hy209⟩ : ∃ y_ : List (S38), y_ = (x5_1 ++ [(⟨t202, t203, t204, wrap64 ((a0.size : Int) - (x6_1.size : Int))⟩ : S38)]) := ⟨_, rfl⟩
     replace H : (if 0 ≤ t206 then (if t206 ≤ (x6_1.size : Int) then ((kV.f (x6_1.extract (t206 : Int).toNat x6_1.size)).bind fun t212 => (lex_Scan.l0 k1 a0 y209 t212)) else (none)) else (none)) = some (r1, r2, r3) := by first | (rw [hy209]; with_reducible exact H) | (have H2_ := (Option.bind_some _ _).symm.trans H; rw [hy209]; with_reducible exact H2_) | (have H2_ := (Option.bind_some _ _).symm.trans H; with_reducible exact H2_) | with_reducible exact H | (rw [hy209]; exact H) | exact H
     have Ny209 := Aside0.mk hy209
     clear hy209
     revert H
     refine fU (fun c9b0 c9b1 H => ?_) fun c9 H => ?_
     ·revert H
      refine fU (fun c10b0 c10b1 H => ?_) fun c10 H => ?_
      ·revert H
       refine yB1 fun t212 A11 H => ?_
       have H' := Aside0.mk H
       clear H
       go_wp2_with (first | ((with_reducible refine gC 24 rfl ?_); refine gM 24 25 rfl Try.func24 (gB.calls k1 x6_1 t202 t203 t204 t205 t206 t207 _ A6.out) ?_; rintro _ w12 ⟨rfl, hb⟩; refine ⟨_, rfl, yA2 (Kd.R_below Z19 hb) (below_step Z3 hb) ?_⟩; clear HO_5 HB hb; intro HO_5 HB) | ((with_reducible refine bJ (N := 8) rfl ?_); refine bU ?hg (N := 8) ?hd (cs := #[.int .i64 0, .string (⟨#[]⟩ : ByteArray), .int .i64 0, .int .i64 0]) (t := 38) ?hr ?_; (case hd => rfl); (case hg => rfl); (case hr => first | (go_simp; done) | (go_simp; rfl)); intro gb208 hg w13 hbox hb; refine yA5 (Kd.R_below (Kd.og Z19 gb208 (Nat.le_of_eq hg.symm)) hb) (below_step Z3 hb) (hbox) ((by rw [hg]; exact (below_size Z3) : w.heap.size ≤ gb208)) ((by rw [hg]; exact (below_size Z3) : w.heap.size ≤ gb208)) ?_; clear HO_5 HB; intro HO_5 HB BK208 GW208 GE208; clear hb hbox hg; have hcz14_0 : w13.cell? ⟨gb208, 0, none⟩ = some (.int .i64 0) := (af BK208.out 0).trans rfl; have hcz14_1 : w13.cell? ⟨gb208, 1, none⟩ = some (.string (⟨#[]⟩ : ByteArray)) := (af BK208.out 1).trans rfl; have hcz14_2 : w13.cell? ⟨gb208, 2, none⟩ = some (.int .i64 0) := (af BK208.out 2).trans rfl; have hcz14_3 : w13.cell? ⟨gb208, 3, none⟩ = some (.int .i64 0) := (af BK208.out 3).trans rfl; have hfz14_0 := ae BK208.out 0; have hfz14_1 := ae BK208.out 1; have hfz14_2 := ae BK208.out 2; have hfz14_3 := ae BK208.out 3; have hdd14 := vP hcz14_3) | ((with_reducible refine dB (b := .append) (xs := #[.tmp 35, .tmp 37]) rfl ?_); at_builtin; refine Kd.iP k38 (w0 := w) w.heap.size rfl (.tmp 35) (.tmp 37) 32 38 (.agg #[(.int .i64 0), (.string ⟨#[]⟩), (.int .i64 0), (.int .i64 0)]) 40 rfl Try.underlying32 info38 rfl (by decide) (by omega) u5 x5_1 (⟨t202, t203, t204, wrap64 ((a0.size : Int) - (x6_1.size : Int))⟩ : S38) [.int .i64 t202, .string t203, .int .i64 t204, .int .i64 (wrap64 ((a0.size : Int) - (x6_1.size : Int)))] (fun k_ => k_ ≠ gb208) (fun _ => False) rfl (by first | (go_simp; done) | (go_simp; rfl)) ?aP (fun _ hk => hk.elim) ?aF ?aO ?aB ?aS ?aL ?_; (case aP => exact AZ _ _ _ (⟨t202, t203, t204, wrap64 ((a0.size : Int) - (x6_1.size : Int))⟩ : S38)); (case aB => exact Z50); (case aF => exact (fun k_ hk => Kd.nM (g := gb208) (o := .cells #[.int .i64 t202, .string t203, .int .i64 t204, .int .i64 (wrap64 ((a0.size : Int) - (x6_1.size : Int)))] 38 (0, 0)) (by refine aA (cs := #[.int .i64 t202, .string t203, .int .i64 t204, .int .i64 t205]) ?_ 3 _ rfl; refine aA (cs := #[.int .i64 t202, .string t203, .int .i64 t204, .int .i64 0]) ?_ 3 _ rfl; refine aA (cs := #[.int .i64 t202, .string t203, .int .i64 0, .int .i64 0]) ?_ 2 _ rfl; refine aA (cs := #[.int .i64 t202, .string (⟨#[]⟩ : ByteArray), .int .i64 0, .int .i64 0]) ?_ 1 _ rfl; refine aA (cs := #[.int .i64 0, .string (⟨#[]⟩ : ByteArray), .int .i64 0, .int .i64 0]) ?_ 0 _ rfl; exact BK208.out) k_ hk)); (case aO => exact (by (with_reducible repeat (first | apply Kd.R_alloc | apply Kd.R_drewN | apply Kd.R_drew)); exact Kd.bn (Kd.ku (p := ⟨gb208, 3, none⟩) (Kd.ku (p := ⟨gb208, 3, none⟩) (Kd.ku (p := ⟨gb208, 2, none⟩) (Kd.ku (p := ⟨gb208, 1, none⟩) (Kd.ku (p := ⟨gb208, 0, none⟩) (Kd.bn HO_5.out (fun k_ hk => (⟨hk, hk.2⟩ : _ ∧ k_ ≠ gb208))) (fun _ hk => hk.2) (.int .i64 t202)) (fun _ hk => hk.2) (.string t203)) (fun _ hk => hk.2) (.int .i64 t204)) (fun _ hk => hk.2) (.int .i64 t205)) (fun _ hk => hk.2) (.int .i64 (wrap64 ((a0.size : Int) - (x6_1.size : Int))))) (fun _ hk => hk.1.2))); (case aS => exact (below_size Z50)); (case aL => have := LMc8.out; omega); intro v210 w15 ho hb hg hat; rw [← Ny209.out] at ho; refine yA3 (jd (g := gb208) (o := .cells #[.int .i64 t202, .string t203, .int .i64 t204, .int .i64 (wrap64 ((a0.size : Int) - (x6_1.size : Int)))] 38 (0, 0)) (by refine aA (cs := #[.int .i64 t202, .string t203, .int .i64 t204, .int .i64 t205]) ?_ 3 _ rfl; refine aA (cs := #[.int .i64 t202, .string t203, .int .i64 t204, .int .i64 0]) ?_ 3 _ rfl; refine aA (cs := #[.int .i64 t202, .string t203, .int .i64 0, .int .i64 0]) ?_ 2 _ rfl; refine aA (cs := #[.int .i64 t202, .string (⟨#[]⟩ : ByteArray), .int .i64 0, .int .i64 0]) ?_ 1 _ rfl; refine aA (cs := #[.int .i64 0, .string (⟨#[]⟩ : ByteArray), .int .i64 0, .int .i64 0]) ?_ 0 _ rfl; exact BK208.out) hg (Kd.zU HO_5.out (fun _ hk => hk.2))) (hb) (ho) ?_; clear BK208 HB HO_5; intro BK208 HB HO211; clear ho hb hg hat) | ((with_reducible refine gC 23 rfl ?_); refine gM 23 42 rfl Try.func23 (kV.calls (x6_1.extract (t206 : Int).toNat x6_1.size) t212 _ A11.out) ?_; rintro _ w16 ⟨rfl, hb⟩; refine ⟨_, rfl, yA3 (Kd.R_below (by (with_reducible repeat (first | apply Kd.R_alloc | apply Kd.R_drewN | apply Kd.R_drew)); exact HO211.out) hb) (bV (g := gb208) (o := .cells #[.int .i64 t202, .string t203, .int .i64 t204, .int .i64 (wrap64 ((a0.size : Int) - (x6_1.size : Int)))] 38 (0, 0)) (by exact BK208.out) hb) (below_step Z50 hb) ?_⟩; clear HO211 BK208 HB hb; intro HO211 BK208 HB))
       go_roundg k1
       case measure => have := HK1.out; omega
       case rel => exact ⟨(y209), (t212), Z6, H', ⟨by have := HK1.out; omega⟩, ⟨by (with_reducible repeat (first | apply Kd.R_alloc | apply Kd.R_drewN | apply Kd.R_drew)); exact Kd.bn HO211.out (fun _ hk => trivial)⟩, ⟨Z50⟩⟩
      exact absurd H (by simp)
     exact absurd H (by simp)
    exact absurd H (by simp)
   simp only [Option.some.injEq, Prod.mk.injEq] at H
   obtain ⟨rfl, rfl, rfl⟩ := H
   go_wp2_with (first | ((with_reducible refine gC 24 rfl ?_); refine gM 24 25 rfl Try.func24 (gB.calls k1 x6_1 t202 t203 t204 t205 t206 t207 _ A6.out) ?_; rintro _ w17 ⟨rfl, hb⟩; refine ⟨_, rfl, yA2 (Kd.R_below Z19 hb) (below_step Z3 hb) ?_⟩; clear HO_5 HB hb; intro HO_5 HB) | ((with_reducible refine bJ (N := 8) rfl ?_); refine bU ?hg (N := 8) ?hd (cs := #[.int .i64 0, .string (⟨#[]⟩ : ByteArray), .int .i64 0, .int .i64 0]) (t := 38) ?hr ?_; (case hd => rfl); (case hg => rfl); (case hr => first | (go_simp; done) | (go_simp; rfl)); intro gb208 hg w18 hbox hb; refine yA5 (Kd.R_below (Kd.og Z19 gb208 (Nat.le_of_eq hg.symm)) hb) (below_step Z3 hb) (hbox) ((by rw [hg]; exact (below_size Z3) : w.heap.size ≤ gb208)) ((by rw [hg]; exact (below_size Z3) : w.heap.size ≤ gb208)) ?_; clear HO_5 HB; intro HO_5 HB BK208 GW208 GE208; clear hb hbox hg; have hcz19_0 : w18.cell? ⟨gb208, 0, none⟩ = some (.int .i64 0) := (af BK208.out 0).trans rfl; have hcz19_1 : w18.cell? ⟨gb208, 1, none⟩ = some (.string (⟨#[]⟩ : ByteArray)) := (af BK208.out 1).trans rfl; have hcz19_2 : w18.cell? ⟨gb208, 2, none⟩ = some (.int .i64 0) := (af BK208.out 2).trans rfl; have hcz19_3 : w18.cell? ⟨gb208, 3, none⟩ = some (.int .i64 0) := (af BK208.out 3).trans rfl; have hfz19_0 := ae BK208.out 0; have hfz19_1 := ae BK208.out 1; have hfz19_2 := ae BK208.out 2; have hfz19_3 := ae BK208.out 3; have hdd19 := vP hcz19_3))
   go_ret3
   exact ⟨_, Z4, Z24, Z50⟩
-- BY HAND: function 15 (parse_Tree)
-- BY HAND: function 70 (parse_reader_next)
/-! ### aZ: function 71 -/
def aZ.f (s0_0 : List (S38)) (s0_1 : Int) (s0_2 : Bool) : Option (ByteArray × Int × Bool) := (gu.f s0_0 s0_1 s0_2).bind fun bt213 => (if bt213.2.2.2.2.1 = true then (if bt213.1 = 5 then (some (bt213.2.1, bt213.2.2.2.2.2.1, bt213.2.2.2.2.2.2)) else (if bt213.1 = 4 then (some (bt213.2.1, bt213.2.2.2.2.2.1, bt213.2.2.2.2.2.2)) else (some ((⟨#[]⟩ : ByteArray), bt213.2.2.2.2.2.1, bt213.2.2.2.2.2.2)))) else (some ((⟨#[]⟩ : ByteArray), bt213.2.2.2.2.2.1, bt213.2.2.2.2.2.2)))
set_option maxHeartbeats 8000000 in
set_option maxRecDepth 100000 in
theorem aZ.calls (g : Nat) (s0_0 : List (S38)) (s0_1 : Int) (s0_2 : Bool) (r1 : ByteArray) (r2 : Int) (r3 : Bool) (w0 w : World) (hI : ai w0 w g s0_0 s0_1 s0_2) (hB : Below w0.heap.size w0 w) (h : aZ.f s0_0 s0_1 s0_2 = some (r1, r2, r3)) :
 Calls Try.prog 71 #[.pointer (some ⟨g, 0, none⟩)] w fun e w' => e = .returned (.string r1) ∧ ai w0 w' g s0_0 r2 r3 ∧ Below w0.heap.size w0 w' ∧ ag w w' g none := by
 have hu38 := Try.underlying38
 have HI0 := Aside0.mk hI
 have HK := Aside0.mk (ag.refl w g none)
 have HL := Aside0.mk hB.size
 clear hI
 have HW0 := Aside0.mk hB.size
 have HB := Aside0.mk hB
 clear hB
 have H := h
 clear h
 unfold aZ.f at H
 revert H
 refine yB7 fun t213 t214 t215 t216 t217 t218 t219 A2 H => ?_
 try dsimp only at H
 cases t217
 rotate_left
 ·replace H := yT H
  revert H
  refine aJ (fun c4b0 c4b1 H => ?_) fun c4 c4b0 c4b1 H => ?_
  ·simp only [Option.some.injEq, Prod.mk.injEq] at H
   obtain ⟨rfl, rfl, rfl⟩ := H
   go_enter Try.func71, Try.ntmps71
   go_wp2_with (first | ((with_reducible refine gC 70 rfl ?_); refine gM 70 7 rfl Try.func70 (gu.calls g s0_0 s0_1 s0_2 t213 t214 t215 t216 true t218 t219 w0 _ Z0 Z2 A2.out) ?_; rintro _ w5 ⟨rfl, hi, hb, hk⟩; refine ⟨_, rfl, yA3 (ag.trans Z1 hk (.inl rfl)) (hb) (hi) ?_⟩; clear HK HB HI0 hb; intro HK HB HI0) | ((with_reducible refine bJ (N := 3) rfl ?_); refine bU ?hg (N := 3) ?hd (cs := #[.int .i64 0, .string (⟨#[]⟩ : ByteArray), .int .i64 0, .int .i64 0]) (t := 38) ?hr ?_; (case hd => rfl); (case hg => rfl); (case hr => first | (go_simp; done) | (go_simp; rfl)); intro gb220 hg w6 hbox hb; refine yA8 (ai.below Z0 hb) (ag.trans Z1 (ag.of_below hb g none) (.inl rfl)) (below_step Z2 hb) (hbox) ((by rw [hg]; exact (by exact aC (w := w) (g := g) (row := none) Z1) : w.heap.size ≤ gb220)) ((Nat.le_trans HW0.out (by rw [hg]; exact (by exact aC (w := w) (g := g) (row := none) Z1) : w.heap.size ≤ gb220) : w0.heap.size ≤ gb220)) ((by rw [hg]; exact Nat.ne_of_lt (ai.lt (show ai w0 _ g s0_0 t218 t219 from Z0)) : g ≠ gb220)) ((by rw [hg]; exact Nat.ne_of_gt (ai.lt (show ai w0 _ g s0_0 t218 t219 from Z0)) : gb220 ≠ g)) ?_; clear HI0 HK HB; intro HI0 HK HB BK220 GW220 GE220 NB0_220 NB220_0; clear hb hbox hg; have hnb7 := NB220_0.out; have hnc7 := NB0_220.out; have hcz8_0 : w6.cell? ⟨gb220, 0, none⟩ = some (.int .i64 0) := (af BK220.out 0).trans rfl; have hcz8_1 : w6.cell? ⟨gb220, 1, none⟩ = some (.string (⟨#[]⟩ : ByteArray)) := (af BK220.out 1).trans rfl; have hcz8_2 : w6.cell? ⟨gb220, 2, none⟩ = some (.int .i64 0) := (af BK220.out 2).trans rfl; have hcz8_3 : w6.cell? ⟨gb220, 3, none⟩ = some (.int .i64 0) := (af BK220.out 3).trans rfl; have hfz8_0 := ae BK220.out 0; have hfz8_1 := ae BK220.out 1; have hfz8_2 := ae BK220.out 2; have hfz8_3 := ae BK220.out 3))
   go_ret
   exact ⟨Z4, Z47, Z51, Z60⟩
  revert H
  refine aJ (fun c9b0 c9b1 H => ?_) fun c9 c9b0 c9b1 H => ?_
  ·simp only [Option.some.injEq, Prod.mk.injEq] at H
   obtain ⟨rfl, rfl, rfl⟩ := H
   go_enter Try.func71, Try.ntmps71
   go_wp2_with (first | ((with_reducible refine gC 70 rfl ?_); refine gM 70 7 rfl Try.func70 (gu.calls g s0_0 s0_1 s0_2 t213 t214 t215 t216 true t218 t219 w0 _ Z0 Z2 A2.out) ?_; rintro _ w10 ⟨rfl, hi, hb, hk⟩; refine ⟨_, rfl, yA3 (ag.trans Z1 hk (.inl rfl)) (hb) (hi) ?_⟩; clear HK HB HI0 hb; intro HK HB HI0) | ((with_reducible refine bJ (N := 3) rfl ?_); refine bU ?hg (N := 3) ?hd (cs := #[.int .i64 0, .string (⟨#[]⟩ : ByteArray), .int .i64 0, .int .i64 0]) (t := 38) ?hr ?_; (case hd => rfl); (case hg => rfl); (case hr => first | (go_simp; done) | (go_simp; rfl)); intro gb220 hg w11 hbox hb; refine yA8 (ai.below Z0 hb) (ag.trans Z1 (ag.of_below hb g none) (.inl rfl)) (below_step Z2 hb) (hbox) ((by rw [hg]; exact (by exact aC (w := w) (g := g) (row := none) Z1) : w.heap.size ≤ gb220)) ((Nat.le_trans HW0.out (by rw [hg]; exact (by exact aC (w := w) (g := g) (row := none) Z1) : w.heap.size ≤ gb220) : w0.heap.size ≤ gb220)) ((by rw [hg]; exact Nat.ne_of_lt (ai.lt (show ai w0 _ g s0_0 t218 t219 from Z0)) : g ≠ gb220)) ((by rw [hg]; exact Nat.ne_of_gt (ai.lt (show ai w0 _ g s0_0 t218 t219 from Z0)) : gb220 ≠ g)) ?_; clear HI0 HK HB; intro HI0 HK HB BK220 GW220 GE220 NB0_220 NB220_0; clear hb hbox hg; have hnb12 := NB220_0.out; have hnc12 := NB0_220.out; have hcz13_0 : w11.cell? ⟨gb220, 0, none⟩ = some (.int .i64 0) := (af BK220.out 0).trans rfl; have hcz13_1 : w11.cell? ⟨gb220, 1, none⟩ = some (.string (⟨#[]⟩ : ByteArray)) := (af BK220.out 1).trans rfl; have hcz13_2 : w11.cell? ⟨gb220, 2, none⟩ = some (.int .i64 0) := (af BK220.out 2).trans rfl; have hcz13_3 : w11.cell? ⟨gb220, 3, none⟩ = some (.int .i64 0) := (af BK220.out 3).trans rfl; have hfz13_0 := ae BK220.out 0; have hfz13_1 := ae BK220.out 1; have hfz13_2 := ae BK220.out 2; have hfz13_3 := ae BK220.out 3))
   go_ret
   exact ⟨Z4, Z47, Z51, Z60⟩
  simp only [Option.some.injEq, Prod.mk.injEq] at H
  obtain ⟨rfl, rfl, rfl⟩ := H
  go_enter Try.func71, Try.ntmps71
  go_wp2_with (first | ((with_reducible refine gC 70 rfl ?_); refine gM 70 7 rfl Try.func70 (gu.calls g s0_0 s0_1 s0_2 t213 t214 t215 t216 true t218 t219 w0 _ Z0 Z2 A2.out) ?_; rintro _ w14 ⟨rfl, hi, hb, hk⟩; refine ⟨_, rfl, yA3 (ag.trans Z1 hk (.inl rfl)) (hb) (hi) ?_⟩; clear HK HB HI0 hb; intro HK HB HI0) | ((with_reducible refine bJ (N := 3) rfl ?_); refine bU ?hg (N := 3) ?hd (cs := #[.int .i64 0, .string (⟨#[]⟩ : ByteArray), .int .i64 0, .int .i64 0]) (t := 38) ?hr ?_; (case hd => rfl); (case hg => rfl); (case hr => first | (go_simp; done) | (go_simp; rfl)); intro gb220 hg w15 hbox hb; refine yA8 (ai.below Z0 hb) (ag.trans Z1 (ag.of_below hb g none) (.inl rfl)) (below_step Z2 hb) (hbox) ((by rw [hg]; exact (by exact aC (w := w) (g := g) (row := none) Z1) : w.heap.size ≤ gb220)) ((Nat.le_trans HW0.out (by rw [hg]; exact (by exact aC (w := w) (g := g) (row := none) Z1) : w.heap.size ≤ gb220) : w0.heap.size ≤ gb220)) ((by rw [hg]; exact Nat.ne_of_lt (ai.lt (show ai w0 _ g s0_0 t218 t219 from Z0)) : g ≠ gb220)) ((by rw [hg]; exact Nat.ne_of_gt (ai.lt (show ai w0 _ g s0_0 t218 t219 from Z0)) : gb220 ≠ g)) ?_; clear HI0 HK HB; intro HI0 HK HB BK220 GW220 GE220 NB0_220 NB220_0; clear hb hbox hg; have hnb16 := NB220_0.out; have hnc16 := NB0_220.out; have hcz17_0 : w15.cell? ⟨gb220, 0, none⟩ = some (.int .i64 0) := (af BK220.out 0).trans rfl; have hcz17_1 : w15.cell? ⟨gb220, 1, none⟩ = some (.string (⟨#[]⟩ : ByteArray)) := (af BK220.out 1).trans rfl; have hcz17_2 : w15.cell? ⟨gb220, 2, none⟩ = some (.int .i64 0) := (af BK220.out 2).trans rfl; have hcz17_3 : w15.cell? ⟨gb220, 3, none⟩ = some (.int .i64 0) := (af BK220.out 3).trans rfl; have hfz17_0 := ae BK220.out 0; have hfz17_1 := ae BK220.out 1; have hfz17_2 := ae BK220.out 2; have hfz17_3 := ae BK220.out 3))
  go_ret
  exact ⟨Z4, Z47, Z51, Z60⟩
 replace H := yF H
 simp only [Option.some.injEq, Prod.mk.injEq] at H
 obtain ⟨rfl, rfl, rfl⟩ := H
 go_enter Try.func71, Try.ntmps71
 go_wp2_with (first | ((with_reducible refine gC 70 rfl ?_); refine gM 70 7 rfl Try.func70 (gu.calls g s0_0 s0_1 s0_2 t213 t214 t215 t216 false t218 t219 w0 _ Z0 Z2 A2.out) ?_; rintro _ w18 ⟨rfl, hi, hb, hk⟩; refine ⟨_, rfl, yA3 (ag.trans Z1 hk (.inl rfl)) (hb) (hi) ?_⟩; clear HK HB HI0 hb; intro HK HB HI0) | ((with_reducible refine bJ (N := 3) rfl ?_); refine bU ?hg (N := 3) ?hd (cs := #[.int .i64 0, .string (⟨#[]⟩ : ByteArray), .int .i64 0, .int .i64 0]) (t := 38) ?hr ?_; (case hd => rfl); (case hg => rfl); (case hr => first | (go_simp; done) | (go_simp; rfl)); intro gb220 hg w19 hbox hb; refine yA8 (ai.below Z0 hb) (ag.trans Z1 (ag.of_below hb g none) (.inl rfl)) (below_step Z2 hb) (hbox) ((by rw [hg]; exact (by exact aC (w := w) (g := g) (row := none) Z1) : w.heap.size ≤ gb220)) ((Nat.le_trans HW0.out (by rw [hg]; exact (by exact aC (w := w) (g := g) (row := none) Z1) : w.heap.size ≤ gb220) : w0.heap.size ≤ gb220)) ((by rw [hg]; exact Nat.ne_of_lt (ai.lt (show ai w0 _ g s0_0 t218 t219 from Z0)) : g ≠ gb220)) ((by rw [hg]; exact Nat.ne_of_gt (ai.lt (show ai w0 _ g s0_0 t218 t219 from Z0)) : gb220 ≠ g)) ?_; clear HI0 HK HB; intro HI0 HK HB BK220 GW220 GE220 NB0_220 NB220_0; clear hb hbox hg; have hnb20 := NB220_0.out; have hnc20 := NB0_220.out; have hcz21_0 : w19.cell? ⟨gb220, 0, none⟩ = some (.int .i64 0) := (af BK220.out 0).trans rfl; have hcz21_1 : w19.cell? ⟨gb220, 1, none⟩ = some (.string (⟨#[]⟩ : ByteArray)) := (af BK220.out 1).trans rfl; have hcz21_2 : w19.cell? ⟨gb220, 2, none⟩ = some (.int .i64 0) := (af BK220.out 2).trans rfl; have hcz21_3 : w19.cell? ⟨gb220, 3, none⟩ = some (.int .i64 0) := (af BK220.out 3).trans rfl; have hfz21_0 := ae BK220.out 0; have hfz21_1 := ae BK220.out 1; have hfz21_2 := ae BK220.out 2; have hfz21_3 := ae BK220.out 3))
 go_ret
 exact ⟨Z4, Z47, Z51, Z60⟩
end Go.Proofs.Ytendgafpkeadhaa.Q
end
