/- Walks over functions of the program, words for them, and what the functions come to; of each text only what this claim uses; no condition. -/
import Derived.Test.YtendgafpkeadhaaZRO0
import Derived.Test.YtendgafpkeadhaaZRO1
import Derived.Test.YtendgafpkeadhaaZRO3
import Derived.Test.YtendgafpkeadhaaZRO14
import Derived.Test.YtendgafpkeadhaaZRO15
section
namespace Go.Proofs.Ytendgafpkeadhaa.Q
open Go.RowKit Go.Proofs.YtendgafpkeadhaaW.PrintWords Go.Proofs.YtendgafpkeadhaaW.PrintLast Go.Proofs.YtendgafpkeadhaaW.PrintMore
attribute [local go_sem] max2_int min2_int max_two min_two max_three min_three max_four min_four
set_option linter.unusedVariables false
set_option linter.unusedSimpArgs false
/-! ### bi: function 40 -/
def bi.l0 : Nat → ByteArray → Int → Int → Option (Int × ByteArray × Int × Int × Int × Int)
 | 0, _, _, _ => none
 | k + 1, x0, x1, x10 => if (wrap64 (x1 + x10)) < (x0.size : Int) then (if 0 ≤ (wrap64 (x1 + x10)) then ((bK.f (bt x0 (wrap64 (x1 + x10)))).bind fun t857 => (if t857 = true then (bi.l0 k x0 x1 (wrap64 (x10 + 1))) else (if 0 ≤ x1 then (if x1 ≤ (wrap64 (x1 + x10)) then (if (wrap64 (x1 + x10)) ≤ (x0.size : Int) then ((ay.f k (x0.extract (x1 : Int).toNat ((wrap64 (x1 + x10)) : Int).toNat)).bind fun bt858 => (if bt858.2 = true then (some (2, x0.extract (x1 : Int).toNat ((wrap64 (x1 + x10)) : Int).toNat, bt858.1, x1, x10, 0)) else (some (0, (⟨#[]⟩ : ByteArray), 0, 0, 0, 10)))) else (none)) else (none)) else (none)))) else (none)) else (if 0 ≤ x1 then (if x1 ≤ (wrap64 (x1 + x10)) then (if (wrap64 (x1 + x10)) ≤ (x0.size : Int) then ((ay.f k (x0.extract (x1 : Int).toNat ((wrap64 (x1 + x10)) : Int).toNat)).bind fun bt860 => (if bt860.2 = true then (some (2, x0.extract (x1 : Int).toNat ((wrap64 (x1 + x10)) : Int).toNat, bt860.1, x1, x10, 0)) else (some (0, (⟨#[]⟩ : ByteArray), 0, 0, 0, 10)))) else (none)) else (none)) else (none))
def bi.f (k : Nat) (a0 : ByteArray) (a1 : Int) : Option (Int × ByteArray × Int × Int × Int × Int) := if 0 ≤ a1 then (if a1 < (a0.size : Int) then ((bI.f (bt a0 a1)).bind fun t852 => (if t852 = true then ((aQ.f k a0 a1).bind fun t853 => (if a1 ≤ (wrap64 (a1 + t853)) then (if (wrap64 (a1 + t853)) ≤ (a0.size : Int) then ((bg.f k (a0.extract (a1 : Int).toNat ((wrap64 (a1 + t853)) : Int).toNat)).bind fun t855 => (if t855 = true then (some (5, a0.extract (a1 : Int).toNat ((wrap64 (a1 + t853)) : Int).toNat, 0, a1, t853, 0)) else (if t853 > 16 then (some (0, (⟨#[]⟩ : ByteArray), 0, 0, 0, 10)) else (some (1, a0.extract (a1 : Int).toNat ((wrap64 (a1 + t853)) : Int).toNat, 0, a1, t853, 0))))) else (none)) else (none))) else ((bK.f (bt a0 a1)).bind fun t856 => (if t856 = true then (bi.l0 k a0 a1 0) else (if (bt a0 a1) = 34 then ((aj.f k a0 a1).bind fun bt862 => (if bt862.2 = 0 then (some (0, (⟨#[]⟩ : ByteArray), 0, 0, 0, 10)) else (some (3, bt862.1, 0, a1, bt862.2, 0)))) else ((aY.f k a0 a1).bind fun t864 => (if t864 = 0 then (some (0, (⟨#[]⟩ : ByteArray), 0, 0, 0, 9)) else (if a1 ≤ (wrap64 (a1 + t864)) then (if (wrap64 (a1 + t864)) ≤ (a0.size : Int) then (some (4, a0.extract (a1 : Int).toNat ((wrap64 (a1 + t864)) : Int).toNat, 0, a1, t864, 0)) else (none)) else (none))))))))) else (none)) else (none)
theorem bi.mono_l : ∀ k, (∀ y0 y1 y2, LeO (bi.l0 k y0 y1 y2) (bi.l0 (k + 1) y0 y1 y2))
 | 0 => fun _ _ _ r h => by simp [bi.l0] at h
 | k + 1 => by
  have ih0 := bi.mono_l k
  intro y0 y1 y2
  unfold bi.l0
  have m0 := bg.mono
  have m1 := aY.mono
  have m2 := ay.mono
  have m3 := aj.mono
  have m4 := aQ.mono
  exact yL
theorem bi.mono : ∀ a0 a1 k, LeO (bi.f k a0 a1) (bi.f (k + 1) a0 a1) := by
 intro a0 a1 k
 have ih0 := bi.mono_l k
 unfold bi.f
 have m0 := bg.mono
 have m1 := aY.mono
 have m2 := ay.mono
 have m3 := aj.mono
 have m4 := aQ.mono
 exact yL
set_option maxHeartbeats 8000000 in
set_option maxRecDepth 100000 in
theorem bi.calls (k : Nat) (a0 : ByteArray) (a1 : Int) (r1 : Int) (r2 : ByteArray) (r3 : Int) (r4 : Int) (r5 : Int) (r6 : Int) (w : World) (h : bi.f k a0 a1 = some (r1, r2, r3, r4, r5, r6)) :
 Calls Try.prog 40 #[.string a0, .int .i64 a1] w fun e w' => e = .returned (.tuple #[.agg #[.int .i64 r1, .string r2, .int .i64 r3, .int .i64 r4], .int .i64 r5, .int .i64 r6]) ∧ Below w.heap.size w w' := by
 have hu38 := Try.underlying38
 have HB := Aside0.mk (Below.refl w.heap.size w)
 have H := h
 clear h
 unfold bi.f at H
 revert H
 refine eQ (fun c3b0 H => ?_) fun c3 H => ?_
 ·revert H
  refine eQ (fun c4b0 H => ?_) fun c4 H => ?_
  ·revert H
   refine yB1 fun t852 A6 H => ?_
   cases t852
   rotate_left
   ·replace H := yT H
    revert H
    refine yB1 fun t853 A8 H => ?_
    have c9b0 := eq_true (of_decide_eq_true Z5 : 0 ≤ a1)
    revert H
    refine fB (fun c10 c10b0 c10b1 H => ?_) fun c10 H => ?_
    ·revert H
     refine fB (fun c11 c11b0 c11b1 H => ?_) fun c11 H => ?_
     ·revert H
      refine yB1 fun t855 A12 H => ?_
      cases t855
      rotate_left
      ·replace H := yT H
       simp only [Option.some.injEq, Prod.mk.injEq] at H
       obtain ⟨rfl, rfl, rfl, rfl, rfl, rfl⟩ := H
       go_enter Try.func40, Try.ntmps40
       go_wp2_with (first | ((with_reducible refine bJ (N := 4) rfl ?_); refine bU ?hg (N := 4) ?hd (cs := #[.int .i64 0, .string (⟨#[]⟩ : ByteArray), .int .i64 0, .int .i64 0]) (t := 38) ?hr ?_; (case hd => rfl); (case hg => rfl); (case hr => first | (go_simp; done) | (go_simp; rfl)); intro gb851 hg w14 hbox hb; refine yA4 (below_step Z3 hb) (hbox) ((by rw [hg]; exact (below_size Z3) : w.heap.size ≤ gb851)) ((by rw [hg]; exact (below_size Z3) : w.heap.size ≤ gb851)) ?_; clear HB; intro HB BK851 GW851 GE851; clear hb hbox hg; have p5 : 0 ≤ (a1 : Int) := of_decide_eq_true Z5; have q5 : a1 < (a0.size : Int) := of_decide_eq_true Z5; have hx5 := dL a0 a1; replace p5 := eq_true p5; replace q5 := eq_true q5) | ((with_reducible refine gC 61 rfl ?_); refine gM 61 20 rfl Try.func61 (bI.calls (bt a0 a1) true _ A6.out) ?_; rintro _ w' ⟨rfl, ⟨nd, rfl⟩⟩; refine ⟨_, rfl, ?_⟩; (try (rw [cO w14]; generalize hq_ : World.drewN w14 _ = w14; have n0_ : Aside0 (w14.heap[gb851]? = some (.cells #[.int .i64 0, .string (⟨#[]⟩ : ByteArray), .int .i64 0, .int .i64 0] 38 (0, 0))) := ⟨Z55⟩; have n1_ : Aside0 (Below w.heap.size w w14) := ⟨Z12⟩; clear BK851 HB hq_; have BK851 := n0_; have HB := n1_; clear n0_ n1_))) | ((with_reducible refine gC 62 rfl ?_); refine gM 62 23 rfl Try.func62 (aQ.calls k a0 a1 t853 _ A8.out) ?_; rintro _ w' ⟨rfl, ⟨nd, rfl⟩⟩; refine ⟨_, rfl, ?_⟩; (try (rw [cO w14]; generalize hq_ : World.drewN w14 _ = w14; have n0_ : Aside0 (w14.heap[gb851]? = some (.cells #[.int .i64 0, .string (⟨#[]⟩ : ByteArray), .int .i64 0, .int .i64 0] 38 (0, 0))) := ⟨Z55⟩; have n1_ : Aside0 (Below w.heap.size w w14) := ⟨Z12⟩; clear BK851 HB hq_; have BK851 := n0_; have HB := n1_; clear n0_ n1_))) | ((with_reducible refine bJ (N := 9) rfl ?_); refine bU ?hg (N := 9) ?hd (cs := #[.int .i64 0, .string (⟨#[]⟩ : ByteArray), .int .i64 0, .int .i64 0]) (t := 38) ?hr ?_; (case hd => rfl); (case hg => rfl); (case hr => first | (go_simp; done) | (go_simp; rfl)); intro gb854 hg w15 hbox hb; refine yA7 (bV (g := gb851) (o := .cells #[.int .i64 0, .string (⟨#[]⟩ : ByteArray), .int .i64 0, .int .i64 0] 38 (0, 0)) (by exact BK851.out) hb) (below_step Z7 hb) (hbox) ((by rw [hg]; exact (below_size Z7) : w.heap.size ≤ gb854)) ((by rw [hg]; exact (below_size Z7) : w.heap.size ≤ gb854)) ((by rw [hg]; exact Nat.ne_of_lt (iE (g := gb851) (o := .cells #[.int .i64 0, .string (⟨#[]⟩ : ByteArray), .int .i64 0, .int .i64 0] 38 (0, 0)) (by exact BK851.out)) : gb851 ≠ gb854)) ((by rw [hg]; exact Nat.ne_of_gt (iE (g := gb851) (o := .cells #[.int .i64 0, .string (⟨#[]⟩ : ByteArray), .int .i64 0, .int .i64 0] 38 (0, 0)) (by exact BK851.out)) : gb854 ≠ gb851)) ?_; clear BK851 HB; intro BK851 HB BK854 GW854 GE854 NB851_854 NB854_851; clear hb hbox hg; have hnb16 := NB854_851.out; have hnc16 := NB851_854.out; have hcz17_0 : w15.cell? ⟨gb854, 0, none⟩ = some (.int .i64 0) := (af BK854.out 0).trans rfl; have hcz17_1 : w15.cell? ⟨gb854, 1, none⟩ = some (.string (⟨#[]⟩ : ByteArray)) := (af BK854.out 1).trans rfl; have hcz17_2 : w15.cell? ⟨gb854, 2, none⟩ = some (.int .i64 0) := (af BK854.out 2).trans rfl; have hcz17_3 : w15.cell? ⟨gb854, 3, none⟩ = some (.int .i64 0) := (af BK854.out 3).trans rfl; have hfz17_0 := ae BK854.out 0; have hfz17_1 := ae BK854.out 1; have hfz17_2 := ae BK854.out 2; have hfz17_3 := ae BK854.out 3) | ((with_reducible refine gC 63 rfl ?_); refine gM 63 34 rfl Try.func63 (bg.calls k (a0.extract (a1 : Int).toNat ((wrap64 (a1 + t853)) : Int).toNat) true _ A12.out) ?_; rintro _ w18 ⟨rfl, hb⟩; refine ⟨_, rfl, yA3 (bV (g := gb851) (o := .cells #[.int .i64 0, .string (⟨#[]⟩ : ByteArray), .int .i64 0, .int .i64 0] 38 (0, 0)) (by refine eF ?_ NB851_854.out _; refine eF ?_ NB851_854.out _; refine eF ?_ NB851_854.out _; refine eF ?_ NB851_854.out _; exact BK851.out) hb) (bV (g := gb854) (o := .cells #[.int .i64 1, .string (a0.extract (a1 : Int).toNat ((wrap64 (a1 + t853)) : Int).toNat), .int .i64 0, .int .i64 a1] 38 (0, 0)) (by refine aA (cs := #[.int .i64 1, .string (a0.extract (a1 : Int).toNat ((wrap64 (a1 + t853)) : Int).toNat), .int .i64 0, .int .i64 0]) ?_ 3 _ rfl; refine aA (cs := #[.int .i64 1, .string (a0.extract (a1 : Int).toNat ((wrap64 (a1 + t853)) : Int).toNat), .int .i64 0, .int .i64 0]) ?_ 2 _ rfl; refine aA (cs := #[.int .i64 1, .string (⟨#[]⟩ : ByteArray), .int .i64 0, .int .i64 0]) ?_ 1 _ rfl; refine aA (cs := #[.int .i64 0, .string (⟨#[]⟩ : ByteArray), .int .i64 0, .int .i64 0]) ?_ 0 _ rfl; exact BK854.out) hb) (below_step Z41 hb) ?_⟩; clear BK851 BK854 HB hb; intro BK851 BK854 HB; have hcz19_0 : w18.cell? ⟨gb854, 0, none⟩ = some (.int .i64 1) := (af BK854.out 0).trans rfl; have hcz19_1 : w18.cell? ⟨gb854, 1, none⟩ = some (.string (a0.extract (a1 : Int).toNat ((wrap64 (a1 + t853)) : Int).toNat)) := (af BK854.out 1).trans rfl; have hcz19_2 : w18.cell? ⟨gb854, 2, none⟩ = some (.int .i64 0) := (af BK854.out 2).trans rfl; have hcz19_3 : w18.cell? ⟨gb854, 3, none⟩ = some (.int .i64 a1) := (af BK854.out 3).trans rfl; have hfz19_0 := ae BK854.out 0; have hfz19_1 := ae BK854.out 1; have hfz19_2 := ae BK854.out 2; have hfz19_3 := ae BK854.out 3; have hcz20_0 : w18.cell? ⟨gb851, 0, none⟩ = some (.int .i64 0) := (af BK851.out 0).trans rfl; have hcz20_1 : w18.cell? ⟨gb851, 1, none⟩ = some (.string (⟨#[]⟩ : ByteArray)) := (af BK851.out 1).trans rfl; have hcz20_2 : w18.cell? ⟨gb851, 2, none⟩ = some (.int .i64 0) := (af BK851.out 2).trans rfl; have hcz20_3 : w18.cell? ⟨gb851, 3, none⟩ = some (.int .i64 0) := (af BK851.out 3).trans rfl; have hfz20_0 := ae BK851.out 0; have hfz20_1 := ae BK851.out 1; have hfz20_2 := ae BK851.out 2; have hfz20_3 := ae BK851.out 3))
       refine bodyPost_ret (dQ rfl _ _ gb851 38 #[.int .i64 5, .string (a0.extract (a1 : Int).toNat ((wrap64 (a1 + t853)) : Int).toNat), .int .i64 0, .int .i64 a1] (0, 0) _ rfl (by refine aA (cs := #[.int .i64 5, .string (a0.extract (a1 : Int).toNat ((wrap64 (a1 + t853)) : Int).toNat), .int .i64 0, .int .i64 0]) ?_ 3 _ rfl; refine aA (cs := #[.int .i64 5, .string (a0.extract (a1 : Int).toNat ((wrap64 (a1 + t853)) : Int).toNat), .int .i64 0, .int .i64 0]) ?_ 2 _ rfl; refine aA (cs := #[.int .i64 5, .string (⟨#[]⟩ : ByteArray), .int .i64 0, .int .i64 0]) ?_ 1 _ rfl; refine aA (cs := #[.int .i64 0, .string (⟨#[]⟩ : ByteArray), .int .i64 0, .int .i64 0]) ?_ 0 _ rfl; refine eF ?_ NB851_854.out _; exact BK851.out) Try.underlying38 rfl (by kernel_rfl)) rfl ?_
       exact ⟨Z4, Z41⟩
      replace H := yF H
      revert H
      refine dX (fun c21 H => ?_) fun c21 H => ?_
      ·have c21b0 : decide (16 < t853) = true := decide_eq_true c21
       clear c21
       simp only [Option.some.injEq, Prod.mk.injEq] at H
       obtain ⟨rfl, rfl, rfl, rfl, rfl, rfl⟩ := H
       go_enter Try.func40, Try.ntmps40
       go_wp2_with (first | ((with_reducible refine bJ (N := 4) rfl ?_); refine bU ?hg (N := 4) ?hd (cs := #[.int .i64 0, .string (⟨#[]⟩ : ByteArray), .int .i64 0, .int .i64 0]) (t := 38) ?hr ?_; (case hd => rfl); (case hg => rfl); (case hr => first | (go_simp; done) | (go_simp; rfl)); intro gb851 hg w22 hbox hb; refine yA4 (below_step Z3 hb) (hbox) ((by rw [hg]; exact (below_size Z3) : w.heap.size ≤ gb851)) ((by rw [hg]; exact (below_size Z3) : w.heap.size ≤ gb851)) ?_; clear HB; intro HB BK851 GW851 GE851; clear hb hbox hg; have p5 : 0 ≤ (a1 : Int) := of_decide_eq_true Z5; have q5 : a1 < (a0.size : Int) := of_decide_eq_true Z5; have hx5 := dL a0 a1; replace p5 := eq_true p5; replace q5 := eq_true q5) | ((with_reducible refine gC 61 rfl ?_); refine gM 61 20 rfl Try.func61 (bI.calls (bt a0 a1) true _ A6.out) ?_; rintro _ w' ⟨rfl, ⟨nd, rfl⟩⟩; refine ⟨_, rfl, ?_⟩; (try (rw [cO w22]; generalize hq_ : World.drewN w22 _ = w22; have n0_ : Aside0 (w22.heap[gb851]? = some (.cells #[.int .i64 0, .string (⟨#[]⟩ : ByteArray), .int .i64 0, .int .i64 0] 38 (0, 0))) := ⟨Z55⟩; have n1_ : Aside0 (Below w.heap.size w w22) := ⟨Z12⟩; clear BK851 HB hq_; have BK851 := n0_; have HB := n1_; clear n0_ n1_))) | ((with_reducible refine gC 62 rfl ?_); refine gM 62 23 rfl Try.func62 (aQ.calls k a0 a1 t853 _ A8.out) ?_; rintro _ w' ⟨rfl, ⟨nd, rfl⟩⟩; refine ⟨_, rfl, ?_⟩; (try (rw [cO w22]; generalize hq_ : World.drewN w22 _ = w22; have n0_ : Aside0 (w22.heap[gb851]? = some (.cells #[.int .i64 0, .string (⟨#[]⟩ : ByteArray), .int .i64 0, .int .i64 0] 38 (0, 0))) := ⟨Z55⟩; have n1_ : Aside0 (Below w.heap.size w w22) := ⟨Z12⟩; clear BK851 HB hq_; have BK851 := n0_; have HB := n1_; clear n0_ n1_))) | ((with_reducible refine bJ (N := 9) rfl ?_); refine bU ?hg (N := 9) ?hd (cs := #[.int .i64 0, .string (⟨#[]⟩ : ByteArray), .int .i64 0, .int .i64 0]) (t := 38) ?hr ?_; (case hd => rfl); (case hg => rfl); (case hr => first | (go_simp; done) | (go_simp; rfl)); intro gb854 hg w23 hbox hb; refine yA7 (bV (g := gb851) (o := .cells #[.int .i64 0, .string (⟨#[]⟩ : ByteArray), .int .i64 0, .int .i64 0] 38 (0, 0)) (by exact BK851.out) hb) (below_step Z7 hb) (hbox) ((by rw [hg]; exact (below_size Z7) : w.heap.size ≤ gb854)) ((by rw [hg]; exact (below_size Z7) : w.heap.size ≤ gb854)) ((by rw [hg]; exact Nat.ne_of_lt (iE (g := gb851) (o := .cells #[.int .i64 0, .string (⟨#[]⟩ : ByteArray), .int .i64 0, .int .i64 0] 38 (0, 0)) (by exact BK851.out)) : gb851 ≠ gb854)) ((by rw [hg]; exact Nat.ne_of_gt (iE (g := gb851) (o := .cells #[.int .i64 0, .string (⟨#[]⟩ : ByteArray), .int .i64 0, .int .i64 0] 38 (0, 0)) (by exact BK851.out)) : gb854 ≠ gb851)) ?_; clear BK851 HB; intro BK851 HB BK854 GW854 GE854 NB851_854 NB854_851; clear hb hbox hg; have hnb24 := NB854_851.out; have hnc24 := NB851_854.out; have hcz25_0 : w23.cell? ⟨gb854, 0, none⟩ = some (.int .i64 0) := (af BK854.out 0).trans rfl; have hcz25_1 : w23.cell? ⟨gb854, 1, none⟩ = some (.string (⟨#[]⟩ : ByteArray)) := (af BK854.out 1).trans rfl; have hcz25_2 : w23.cell? ⟨gb854, 2, none⟩ = some (.int .i64 0) := (af BK854.out 2).trans rfl; have hcz25_3 : w23.cell? ⟨gb854, 3, none⟩ = some (.int .i64 0) := (af BK854.out 3).trans rfl; have hfz25_0 := ae BK854.out 0; have hfz25_1 := ae BK854.out 1; have hfz25_2 := ae BK854.out 2; have hfz25_3 := ae BK854.out 3) | ((with_reducible refine gC 63 rfl ?_); refine gM 63 34 rfl Try.func63 (bg.calls k (a0.extract (a1 : Int).toNat ((wrap64 (a1 + t853)) : Int).toNat) false _ A12.out) ?_; rintro _ w26 ⟨rfl, hb⟩; refine ⟨_, rfl, yA3 (bV (g := gb851) (o := .cells #[.int .i64 0, .string (⟨#[]⟩ : ByteArray), .int .i64 0, .int .i64 0] 38 (0, 0)) (by refine eF ?_ NB851_854.out _; refine eF ?_ NB851_854.out _; refine eF ?_ NB851_854.out _; refine eF ?_ NB851_854.out _; exact BK851.out) hb) (bV (g := gb854) (o := .cells #[.int .i64 1, .string (a0.extract (a1 : Int).toNat ((wrap64 (a1 + t853)) : Int).toNat), .int .i64 0, .int .i64 a1] 38 (0, 0)) (by refine aA (cs := #[.int .i64 1, .string (a0.extract (a1 : Int).toNat ((wrap64 (a1 + t853)) : Int).toNat), .int .i64 0, .int .i64 0]) ?_ 3 _ rfl; refine aA (cs := #[.int .i64 1, .string (a0.extract (a1 : Int).toNat ((wrap64 (a1 + t853)) : Int).toNat), .int .i64 0, .int .i64 0]) ?_ 2 _ rfl; refine aA (cs := #[.int .i64 1, .string (⟨#[]⟩ : ByteArray), .int .i64 0, .int .i64 0]) ?_ 1 _ rfl; refine aA (cs := #[.int .i64 0, .string (⟨#[]⟩ : ByteArray), .int .i64 0, .int .i64 0]) ?_ 0 _ rfl; exact BK854.out) hb) (below_step Z41 hb) ?_⟩; clear BK851 BK854 HB hb; intro BK851 BK854 HB; have hcz27_0 : w26.cell? ⟨gb851, 0, none⟩ = some (.int .i64 0) := (af BK851.out 0).trans rfl; have hcz27_1 : w26.cell? ⟨gb851, 1, none⟩ = some (.string (⟨#[]⟩ : ByteArray)) := (af BK851.out 1).trans rfl; have hcz27_2 : w26.cell? ⟨gb851, 2, none⟩ = some (.int .i64 0) := (af BK851.out 2).trans rfl; have hcz27_3 : w26.cell? ⟨gb851, 3, none⟩ = some (.int .i64 0) := (af BK851.out 3).trans rfl; have hfz27_0 := ae BK851.out 0; have hfz27_1 := ae BK851.out 1; have hfz27_2 := ae BK851.out 2; have hfz27_3 := ae BK851.out 3))
       refine bodyPost_ret (dQ rfl _ _ gb851 38 #[.int .i64 0, .string (⟨#[]⟩ : ByteArray), .int .i64 0, .int .i64 0] (0, 0) _ rfl (by refine aA (cs := #[.int .i64 0, .string (⟨#[]⟩ : ByteArray), .int .i64 0, .int .i64 0]) ?_ 3 _ rfl; refine aA (cs := #[.int .i64 0, .string (⟨#[]⟩ : ByteArray), .int .i64 0, .int .i64 0]) ?_ 2 _ rfl; refine aA (cs := #[.int .i64 0, .string (⟨#[]⟩ : ByteArray), .int .i64 0, .int .i64 0]) ?_ 1 _ rfl; refine aA (cs := #[.int .i64 0, .string (⟨#[]⟩ : ByteArray), .int .i64 0, .int .i64 0]) ?_ 0 _ rfl; exact BK851.out) Try.underlying38 rfl (by kernel_rfl)) rfl ?_
       exact ⟨Z4, Z41⟩
      have c21b0 : decide (16 < t853) = false := decide_eq_false c21
      clear c21
      simp only [Option.some.injEq, Prod.mk.injEq] at H
      obtain ⟨rfl, rfl, rfl, rfl, rfl, rfl⟩ := H
      go_enter Try.func40, Try.ntmps40
      go_wp2_with (first | ((with_reducible refine bJ (N := 4) rfl ?_); refine bU ?hg (N := 4) ?hd (cs := #[.int .i64 0, .string (⟨#[]⟩ : ByteArray), .int .i64 0, .int .i64 0]) (t := 38) ?hr ?_; (case hd => rfl); (case hg => rfl); (case hr => first | (go_simp; done) | (go_simp; rfl)); intro gb851 hg w28 hbox hb; refine yA4 (below_step Z3 hb) (hbox) ((by rw [hg]; exact (below_size Z3) : w.heap.size ≤ gb851)) ((by rw [hg]; exact (below_size Z3) : w.heap.size ≤ gb851)) ?_; clear HB; intro HB BK851 GW851 GE851; clear hb hbox hg; have p5 : 0 ≤ (a1 : Int) := of_decide_eq_true Z5; have q5 : a1 < (a0.size : Int) := of_decide_eq_true Z5; have hx5 := dL a0 a1; replace p5 := eq_true p5; replace q5 := eq_true q5) | ((with_reducible refine gC 61 rfl ?_); refine gM 61 20 rfl Try.func61 (bI.calls (bt a0 a1) true _ A6.out) ?_; rintro _ w' ⟨rfl, ⟨nd, rfl⟩⟩; refine ⟨_, rfl, ?_⟩; (try (rw [cO w28]; generalize hq_ : World.drewN w28 _ = w28; have n0_ : Aside0 (w28.heap[gb851]? = some (.cells #[.int .i64 0, .string (⟨#[]⟩ : ByteArray), .int .i64 0, .int .i64 0] 38 (0, 0))) := ⟨Z55⟩; have n1_ : Aside0 (Below w.heap.size w w28) := ⟨Z12⟩; clear BK851 HB hq_; have BK851 := n0_; have HB := n1_; clear n0_ n1_))) | ((with_reducible refine gC 62 rfl ?_); refine gM 62 23 rfl Try.func62 (aQ.calls k a0 a1 t853 _ A8.out) ?_; rintro _ w' ⟨rfl, ⟨nd, rfl⟩⟩; refine ⟨_, rfl, ?_⟩; (try (rw [cO w28]; generalize hq_ : World.drewN w28 _ = w28; have n0_ : Aside0 (w28.heap[gb851]? = some (.cells #[.int .i64 0, .string (⟨#[]⟩ : ByteArray), .int .i64 0, .int .i64 0] 38 (0, 0))) := ⟨Z55⟩; have n1_ : Aside0 (Below w.heap.size w w28) := ⟨Z12⟩; clear BK851 HB hq_; have BK851 := n0_; have HB := n1_; clear n0_ n1_))) | ((with_reducible refine bJ (N := 9) rfl ?_); refine bU ?hg (N := 9) ?hd (cs := #[.int .i64 0, .string (⟨#[]⟩ : ByteArray), .int .i64 0, .int .i64 0]) (t := 38) ?hr ?_; (case hd => rfl); (case hg => rfl); (case hr => first | (go_simp; done) | (go_simp; rfl)); intro gb854 hg w29 hbox hb; refine yA7 (bV (g := gb851) (o := .cells #[.int .i64 0, .string (⟨#[]⟩ : ByteArray), .int .i64 0, .int .i64 0] 38 (0, 0)) (by exact BK851.out) hb) (below_step Z7 hb) (hbox) ((by rw [hg]; exact (below_size Z7) : w.heap.size ≤ gb854)) ((by rw [hg]; exact (below_size Z7) : w.heap.size ≤ gb854)) ((by rw [hg]; exact Nat.ne_of_lt (iE (g := gb851) (o := .cells #[.int .i64 0, .string (⟨#[]⟩ : ByteArray), .int .i64 0, .int .i64 0] 38 (0, 0)) (by exact BK851.out)) : gb851 ≠ gb854)) ((by rw [hg]; exact Nat.ne_of_gt (iE (g := gb851) (o := .cells #[.int .i64 0, .string (⟨#[]⟩ : ByteArray), .int .i64 0, .int .i64 0] 38 (0, 0)) (by exact BK851.out)) : gb854 ≠ gb851)) ?_; clear BK851 HB; intro BK851 HB BK854 GW854 GE854 NB851_854 NB854_851; clear hb hbox hg; have hnb30 := NB854_851.out; have hnc30 := NB851_854.out; have hcz31_0 : w29.cell? ⟨gb854, 0, none⟩ = some (.int .i64 0) := (af BK854.out 0).trans rfl; have hcz31_1 : w29.cell? ⟨gb854, 1, none⟩ = some (.string (⟨#[]⟩ : ByteArray)) := (af BK854.out 1).trans rfl; have hcz31_2 : w29.cell? ⟨gb854, 2, none⟩ = some (.int .i64 0) := (af BK854.out 2).trans rfl; have hcz31_3 : w29.cell? ⟨gb854, 3, none⟩ = some (.int .i64 0) := (af BK854.out 3).trans rfl; have hfz31_0 := ae BK854.out 0; have hfz31_1 := ae BK854.out 1; have hfz31_2 := ae BK854.out 2; have hfz31_3 := ae BK854.out 3) | ((with_reducible refine gC 63 rfl ?_); refine gM 63 34 rfl Try.func63 (bg.calls k (a0.extract (a1 : Int).toNat ((wrap64 (a1 + t853)) : Int).toNat) false _ A12.out) ?_; rintro _ w32 ⟨rfl, hb⟩; refine ⟨_, rfl, yA3 (bV (g := gb851) (o := .cells #[.int .i64 0, .string (⟨#[]⟩ : ByteArray), .int .i64 0, .int .i64 0] 38 (0, 0)) (by refine eF ?_ NB851_854.out _; refine eF ?_ NB851_854.out _; refine eF ?_ NB851_854.out _; refine eF ?_ NB851_854.out _; exact BK851.out) hb) (bV (g := gb854) (o := .cells #[.int .i64 1, .string (a0.extract (a1 : Int).toNat ((wrap64 (a1 + t853)) : Int).toNat), .int .i64 0, .int .i64 a1] 38 (0, 0)) (by refine aA (cs := #[.int .i64 1, .string (a0.extract (a1 : Int).toNat ((wrap64 (a1 + t853)) : Int).toNat), .int .i64 0, .int .i64 0]) ?_ 3 _ rfl; refine aA (cs := #[.int .i64 1, .string (a0.extract (a1 : Int).toNat ((wrap64 (a1 + t853)) : Int).toNat), .int .i64 0, .int .i64 0]) ?_ 2 _ rfl; refine aA (cs := #[.int .i64 1, .string (⟨#[]⟩ : ByteArray), .int .i64 0, .int .i64 0]) ?_ 1 _ rfl; refine aA (cs := #[.int .i64 0, .string (⟨#[]⟩ : ByteArray), .int .i64 0, .int .i64 0]) ?_ 0 _ rfl; exact BK854.out) hb) (below_step Z41 hb) ?_⟩; clear BK851 BK854 HB hb; intro BK851 BK854 HB; have hcz33_0 : w32.cell? ⟨gb854, 0, none⟩ = some (.int .i64 1) := (af BK854.out 0).trans rfl; have hcz33_1 : w32.cell? ⟨gb854, 1, none⟩ = some (.string (a0.extract (a1 : Int).toNat ((wrap64 (a1 + t853)) : Int).toNat)) := (af BK854.out 1).trans rfl; have hcz33_2 : w32.cell? ⟨gb854, 2, none⟩ = some (.int .i64 0) := (af BK854.out 2).trans rfl; have hcz33_3 : w32.cell? ⟨gb854, 3, none⟩ = some (.int .i64 a1) := (af BK854.out 3).trans rfl; have hfz33_0 := ae BK854.out 0; have hfz33_1 := ae BK854.out 1; have hfz33_2 := ae BK854.out 2; have hfz33_3 := ae BK854.out 3; have hcz34_0 : w32.cell? ⟨gb851, 0, none⟩ = some (.int .i64 0) := (af BK851.out 0).trans rfl; have hcz34_1 : w32.cell? ⟨gb851, 1, none⟩ = some (.string (⟨#[]⟩ : ByteArray)) := (af BK851.out 1).trans rfl; have hcz34_2 : w32.cell? ⟨gb851, 2, none⟩ = some (.int .i64 0) := (af BK851.out 2).trans rfl; have hcz34_3 : w32.cell? ⟨gb851, 3, none⟩ = some (.int .i64 0) := (af BK851.out 3).trans rfl; have hfz34_0 := ae BK851.out 0; have hfz34_1 := ae BK851.out 1; have hfz34_2 := ae BK851.out 2; have hfz34_3 := ae BK851.out 3))
      refine bodyPost_ret (dQ rfl _ _ gb851 38 #[.int .i64 1, .string (a0.extract (a1 : Int).toNat ((wrap64 (a1 + t853)) : Int).toNat), .int .i64 0, .int .i64 a1] (0, 0) _ rfl (by refine aA (cs := #[.int .i64 1, .string (a0.extract (a1 : Int).toNat ((wrap64 (a1 + t853)) : Int).toNat), .int .i64 0, .int .i64 0]) ?_ 3 _ rfl; refine aA (cs := #[.int .i64 1, .string (a0.extract (a1 : Int).toNat ((wrap64 (a1 + t853)) : Int).toNat), .int .i64 0, .int .i64 0]) ?_ 2 _ rfl; refine aA (cs := #[.int .i64 1, .string (⟨#[]⟩ : ByteArray), .int .i64 0, .int .i64 0]) ?_ 1 _ rfl; refine aA (cs := #[.int .i64 0, .string (⟨#[]⟩ : ByteArray), .int .i64 0, .int .i64 0]) ?_ 0 _ rfl; exact BK851.out) Try.underlying38 rfl (by kernel_rfl)) rfl ?_
      exact ⟨Z4, Z41⟩
     exact absurd H (by simp)
    exact absurd H (by simp)
   replace H := yF H
   revert H
   refine yB1 fun t856 A35 H => ?_
   cases t856
   rotate_left
   ·replace H := yT H
    have H' := Aside0.mk H
    clear H
    go_enter Try.func40, Try.ntmps40
    go_wp2_with (first | ((with_reducible refine bJ (N := 4) rfl ?_); refine bU ?hg (N := 4) ?hd (cs := #[.int .i64 0, .string (⟨#[]⟩ : ByteArray), .int .i64 0, .int .i64 0]) (t := 38) ?hr ?_; (case hd => rfl); (case hg => rfl); (case hr => first | (go_simp; done) | (go_simp; rfl)); intro gb851 hg w37 hbox hb; refine yA4 (below_step Z3 hb) (hbox) ((by rw [hg]; exact (below_size Z3) : w.heap.size ≤ gb851)) ((by rw [hg]; exact (below_size Z3) : w.heap.size ≤ gb851)) ?_; clear HB; intro HB BK851 GW851 GE851; clear hb hbox hg; have p5 : 0 ≤ (a1 : Int) := of_decide_eq_true Z5; have q5 : a1 < (a0.size : Int) := of_decide_eq_true Z5; have hx5 := dL a0 a1; replace p5 := eq_true p5; replace q5 := eq_true q5) | ((with_reducible refine gC 61 rfl ?_); refine gM 61 20 rfl Try.func61 (bI.calls (bt a0 a1) false _ A6.out) ?_; rintro _ w' ⟨rfl, ⟨nd, rfl⟩⟩; refine ⟨_, rfl, ?_⟩) | ((with_reducible refine gC 64 rfl ?_); refine gM 64 42 rfl Try.func64 (bK.calls (bt a0 a1) true _ A35.out) ?_; rintro _ w' ⟨rfl, ⟨nd, rfl⟩⟩; refine ⟨_, rfl, ?_⟩))
    go_loopg [10] k (fun kq v10 w' => ∃ (x10_1 : Int), v10 = .int .i64 x10_1 ∧ Aside0 (bi.l0 kq a0 a1 x10_1 = some (r1, r2, r3, r4, r5, r6)) ∧ Aside0 (kq ≤ k) ∧ Aside0 (w'.heap[gb851]? = some (.cells #[.int .i64 0, .string (⟨#[]⟩ : ByteArray), .int .i64 0, .int .i64 0] 38 (0, 0))) ∧ Aside0 (Below w.heap.size w w'))
    case atStart => exact ⟨(0), Z6, H', ⟨Nat.le_refl _⟩, ⟨by exact BK851.out⟩, ⟨Z7⟩⟩
    case round =>
     clear H'
     try clear c1
     try clear c2
     try clear p2
     try clear c3
     try clear c3b0
     try clear c4
     try clear c4b0
     try clear p5
     try clear q5
     try clear hx5
     try clear c6
     try clear p6
     try clear c7
     try clear c9
     try clear c9b0
     try clear c10
     try clear c10b0
     try clear c10b1
     try clear c11
     try clear c11b0
     try clear c11b1
     try clear c13
     try clear c16
     try clear c21
     try clear c21b0
     try clear c24
     try clear c30
     try clear c36
     try clear hcz17_0
     try clear hcz17_1
     try clear hcz17_2
     try clear hcz17_3
     try clear hcz19_0
     try clear hcz19_1
     try clear hcz19_2
     try clear hcz19_3
     try clear hcz20_0
     try clear hcz20_1
     try clear hcz20_2
     try clear hcz20_3
     try clear hcz25_0
     try clear hcz25_1
     try clear hcz25_2
     try clear hcz25_3
     try clear hcz27_0
     try clear hcz27_1
     try clear hcz27_2
     try clear hcz27_3
     try clear hcz31_0
     try clear hcz31_1
     try clear hcz31_2
     try clear hcz31_3
     try clear hcz33_0
     try clear hcz33_1
     try clear hcz33_2
     try clear hcz33_3
     try clear hcz34_0
     try clear hcz34_1
     try clear hcz34_2
     try clear hcz34_3
     try clear hfz17_0
     try clear hfz17_1
     try clear hfz17_2
     try clear hfz17_3
     try clear hfz19_0
     try clear hfz19_1
     try clear hfz19_2
     try clear hfz19_3
     try clear hfz20_0
     try clear hfz20_1
     try clear hfz20_2
     try clear hfz20_3
     try clear hfz25_0
     try clear hfz25_1
     try clear hfz25_2
     try clear hfz25_3
     try clear hfz27_0
     try clear hfz27_1
     try clear hfz27_2
     try clear hfz27_3
     try clear hfz31_0
     try clear hfz31_1
     try clear hfz31_2
     try clear hfz31_3
     try clear hfz33_0
     try clear hfz33_1
     try clear hfz33_2
     try clear hfz33_3
     try clear hfz34_0
     try clear hfz34_1
     try clear hfz34_2
     try clear hfz34_3
     try clear p5
     try clear q5
     obtain ⟨x10_1, rfl, HA, HK1, BK851, HB⟩ := hrel
     cases gk with
     | zero => exact absurd HA.out (by simp [bi.l0])
     | succ k1 =>
      have H := HA.out
      clear HA
      simp only [bi.l0] at H
      revert H
      refine fO (fun c38b0 H => ?_) fun c38b0 H => ?_
      ·obtain ⟨ji39, hji39⟩ : ∃ j_ : Int, (wrap64 (a1 + x10_1)) = j_ := ⟨_, rfl⟩
       replace H : (if 0 ≤ (ji39) then ((bK.f (bt a0 (ji39))).bind fun t857 => (if t857 = true then (bi.l0 k1 a0 a1 (wrap64 (x10_1 + 1))) else (if 0 ≤ a1 then (if a1 ≤ (ji39) then (if (ji39) ≤ (a0.size : Int) then ((ay.f k1 (a0.extract (a1 : Int).toNat ((ji39) : Int).toNat)).bind fun bt858 => (if bt858.2 = true then (some (2, a0.extract (a1 : Int).toNat ((ji39) : Int).toNat, bt858.1, a1, x10_1, 0)) else (some (0, (⟨#[]⟩ : ByteArray), 0, 0, 0, 10)))) else (none)) else (none)) else (none)))) else (none)) = some (r1, r2, r3, r4, r5, r6) := by first | (rw [hji39] at H; exact H) | (simp only [hji39] at H ⊢; exact H)
       (try rw [hji39] at c38b0)
       have hji39w : (IntKind.i64.wrap (a1 + x10_1)) = ji39 := (dE _).trans hji39
       revert H
       refine eQ (fun c40b0 H => ?_) fun c40 H => ?_
       ·revert H
        refine yB1 fun t857 A42 H => ?_
        cases t857
        rotate_left
        ·replace H := yT H
         have H' := Aside0.mk H
         clear H
         have p41 : 0 ≤ ((ji39) : Int) := of_decide_eq_true Z5
         have q41 : (ji39) < (a0.size : Int) := of_decide_eq_true Z5
         have hx41 := dL a0 (ji39)
         replace p41 := eq_true p41
         replace q41 := eq_true q41
         go_wp2_with (first | (go_at_call 64; (with_reducible refine (bK.calls (bt a0 (ji39)) true _ A42.out).mono ?_); rintro e w' ⟨rfl, ⟨nd, rfl⟩⟩))
         go_roundg k1
         case measure => have := HK1.out; omega
         case rel => exact ⟨(wrap64 (x10_1 + 1)), Z6, H', ⟨by have := HK1.out; omega⟩, ⟨by exact BK851.out⟩, ⟨Z7⟩⟩
        replace H := yF H
        revert H
        refine fU (fun c44b0 c44b1 H => ?_) fun c44 H => ?_
        ·revert H
         refine fU (fun c45b0 c45b1 H => ?_) fun c45 H => ?_
         ·revert H
          refine fU (fun c46b0 c46b1 H => ?_) fun c46 H => ?_
          ·revert H
           refine yB2 fun t858 t859 A47 H => ?_
           try dsimp only at H
           cases t859
           rotate_left
           ·replace H := yT H
            have c49b0 := eq_true (of_decide_eq_true Z5 : 0 ≤ a1)
            have c50b0 := eq_true (of_decide_eq_true Z5 : a1 ≤ (ji39))
            have c51b0 := eq_true (of_decide_eq_true Z5 : (ji39) ≤ (a0.size : Int))
            simp only [Option.some.injEq, Prod.mk.injEq] at H
            obtain ⟨rfl, rfl, rfl, rfl, rfl, rfl⟩ := H
            have p41 : 0 ≤ ((ji39) : Int) := of_decide_eq_true Z5
            have q41 : (ji39) < (a0.size : Int) := of_decide_eq_true Z5
            have hx41 := dL a0 (ji39)
            replace p41 := eq_true p41
            replace q41 := eq_true q41
            go_wp2_with (first | (go_at_call 64; (with_reducible refine (bK.calls (bt a0 (ji39)) false _ A42.out).mono ?_); rintro e w' ⟨rfl, ⟨nd, rfl⟩⟩; (try (rw [cO wr]; generalize hq_ : World.drewN wr _ = wr; have n0_ : Aside0 (wr.heap[gb851]? = some (.cells #[.int .i64 0, .string (⟨#[]⟩ : ByteArray), .int .i64 0, .int .i64 0] 38 (0, 0))) := ⟨Z55⟩; have n1_ : Aside0 (Below w.heap.size w wr) := ⟨Z12⟩; clear BK851 HB hq_; have BK851 := n0_; have HB := n1_; clear n0_ n1_))) | ((with_reducible refine gC 65 rfl ?_); refine gM 65 66 rfl Try.func65 (ay.calls k1 (a0.extract (a1 : Int).toNat ((ji39) : Int).toNat) t858 true _ A47.out) (hargs := (by (try simp only [List.map_toArray, List.map_cons, List.map_nil]); first | done | (simp only [hji39]; rfl) | rfl | (simp only [List.length_drop, List.length_take]; rfl))) ?_; rintro _ w' ⟨rfl, ⟨nd, rfl⟩⟩; refine ⟨_, rfl, ?_⟩; (try (rw [cO wr]; generalize hq_ : World.drewN wr _ = wr; have n0_ : Aside0 (wr.heap[gb851]? = some (.cells #[.int .i64 0, .string (⟨#[]⟩ : ByteArray), .int .i64 0, .int .i64 0] 38 (0, 0))) := ⟨Z55⟩; have n1_ : Aside0 (Below w.heap.size w wr) := ⟨Z12⟩; clear BK851 HB hq_; have BK851 := n0_; have HB := n1_; clear n0_ n1_)); have hcz52_0 : wr.cell? ⟨gb851, 0, none⟩ = some (.int .i64 0) := (af BK851.out 0).trans rfl; have hcz52_1 : wr.cell? ⟨gb851, 1, none⟩ = some (.string (⟨#[]⟩ : ByteArray)) := (af BK851.out 1).trans rfl; have hcz52_2 : wr.cell? ⟨gb851, 2, none⟩ = some (.int .i64 0) := (af BK851.out 2).trans rfl; have hcz52_3 : wr.cell? ⟨gb851, 3, none⟩ = some (.int .i64 0) := (af BK851.out 3).trans rfl; have hfz52_0 := ae BK851.out 0; have hfz52_1 := ae BK851.out 1; have hfz52_2 := ae BK851.out 2; have hfz52_3 := ae BK851.out 3))
            refine bodyPost_ret (dQ rfl _ _ gb851 38 #[.int .i64 2, .string (a0.extract (a1 : Int).toNat ((ji39) : Int).toNat), .int .i64 t858, .int .i64 a1] (0, 0) _ rfl (by refine aA (cs := #[.int .i64 2, .string (a0.extract (a1 : Int).toNat ((ji39) : Int).toNat), .int .i64 t858, .int .i64 0]) ?_ 3 _ rfl; refine aA (cs := #[.int .i64 2, .string (a0.extract (a1 : Int).toNat ((ji39) : Int).toNat), .int .i64 0, .int .i64 0]) ?_ 2 _ rfl; refine aA (cs := #[.int .i64 2, .string (⟨#[]⟩ : ByteArray), .int .i64 0, .int .i64 0]) ?_ 1 _ rfl; refine aA (cs := #[.int .i64 0, .string (⟨#[]⟩ : ByteArray), .int .i64 0, .int .i64 0]) ?_ 0 _ rfl; exact BK851.out) Try.underlying38 rfl (by kernel_rfl)) rfl ?_
            exact ⟨by first | rfl | (simp [errW_none, errW_some] <;> rfl) | (simp only [← hji39]; first | rfl | (simp [errW_none, errW_some] <;> rfl)) | (simp [*, errW_none, errW_some] <;> rfl), Z7⟩
           replace H := yF H
           simp only [Option.some.injEq, Prod.mk.injEq] at H
           obtain ⟨rfl, rfl, rfl, rfl, rfl, rfl⟩ := H
           have p41 : 0 ≤ ((ji39) : Int) := of_decide_eq_true Z5
           have q41 : (ji39) < (a0.size : Int) := of_decide_eq_true Z5
           have hx41 := dL a0 (ji39)
           replace p41 := eq_true p41
           replace q41 := eq_true q41
           go_wp2_with (first | (go_at_call 64; (with_reducible refine (bK.calls (bt a0 (ji39)) false _ A42.out).mono ?_); rintro e w' ⟨rfl, ⟨nd, rfl⟩⟩; (try (rw [cO wr]; generalize hq_ : World.drewN wr _ = wr; have n0_ : Aside0 (wr.heap[gb851]? = some (.cells #[.int .i64 0, .string (⟨#[]⟩ : ByteArray), .int .i64 0, .int .i64 0] 38 (0, 0))) := ⟨Z55⟩; have n1_ : Aside0 (Below w.heap.size w wr) := ⟨Z12⟩; clear BK851 HB hq_; have BK851 := n0_; have HB := n1_; clear n0_ n1_))) | ((with_reducible refine gC 65 rfl ?_); refine gM 65 66 rfl Try.func65 (ay.calls k1 (a0.extract (a1 : Int).toNat ((ji39) : Int).toNat) t858 false _ A47.out) (hargs := (by (try simp only [List.map_toArray, List.map_cons, List.map_nil]); first | done | (simp only [hji39]; rfl) | rfl | (simp only [List.length_drop, List.length_take]; rfl))) ?_; rintro _ w' ⟨rfl, ⟨nd, rfl⟩⟩; refine ⟨_, rfl, ?_⟩; (try (rw [cO wr]; generalize hq_ : World.drewN wr _ = wr; have n0_ : Aside0 (wr.heap[gb851]? = some (.cells #[.int .i64 0, .string (⟨#[]⟩ : ByteArray), .int .i64 0, .int .i64 0] 38 (0, 0))) := ⟨Z55⟩; have n1_ : Aside0 (Below w.heap.size w wr) := ⟨Z12⟩; clear BK851 HB hq_; have BK851 := n0_; have HB := n1_; clear n0_ n1_)); have hcz53_0 : wr.cell? ⟨gb851, 0, none⟩ = some (.int .i64 0) := (af BK851.out 0).trans rfl; have hcz53_1 : wr.cell? ⟨gb851, 1, none⟩ = some (.string (⟨#[]⟩ : ByteArray)) := (af BK851.out 1).trans rfl; have hcz53_2 : wr.cell? ⟨gb851, 2, none⟩ = some (.int .i64 0) := (af BK851.out 2).trans rfl; have hcz53_3 : wr.cell? ⟨gb851, 3, none⟩ = some (.int .i64 0) := (af BK851.out 3).trans rfl; have hfz53_0 := ae BK851.out 0; have hfz53_1 := ae BK851.out 1; have hfz53_2 := ae BK851.out 2; have hfz53_3 := ae BK851.out 3))
           refine bodyPost_ret (dQ rfl _ _ gb851 38 #[.int .i64 0, .string (⟨#[]⟩ : ByteArray), .int .i64 0, .int .i64 0] (0, 0) _ rfl (by refine aA (cs := #[.int .i64 0, .string (⟨#[]⟩ : ByteArray), .int .i64 0, .int .i64 0]) ?_ 3 _ rfl; refine aA (cs := #[.int .i64 0, .string (⟨#[]⟩ : ByteArray), .int .i64 0, .int .i64 0]) ?_ 2 _ rfl; refine aA (cs := #[.int .i64 0, .string (⟨#[]⟩ : ByteArray), .int .i64 0, .int .i64 0]) ?_ 1 _ rfl; refine aA (cs := #[.int .i64 0, .string (⟨#[]⟩ : ByteArray), .int .i64 0, .int .i64 0]) ?_ 0 _ rfl; exact BK851.out) Try.underlying38 rfl (by kernel_rfl)) rfl ?_
           exact ⟨by first | rfl | (simp [errW_none, errW_some] <;> rfl) | (simp only [← hji39]; first | rfl | (simp [errW_none, errW_some] <;> rfl)) | (simp [*, errW_none, errW_some] <;> rfl), Z7⟩
          exact absurd H (by simp)
         exact absurd H (by simp)
        exact absurd H (by simp)
       exact absurd H (by simp)
      revert H
      refine fU (fun c54b0 c54b1 H => ?_) fun c54 H => ?_
      ·revert H
       refine fB (fun c55 c55b0 c55b1 H => ?_) fun c55 H => ?_
       ·revert H
        refine fB (fun c56 c56b0 c56b1 H => ?_) fun c56 H => ?_
        ·revert H
         refine yB2 fun t860 t861 A57 H => ?_
         try dsimp only at H
         cases t861
         rotate_left
         ·replace H := yT H
          have c59b0 := eq_true (of_decide_eq_true Z5 : 0 ≤ a1)
          have c60b0 := eq_true (of_decide_eq_true Z5 : a1 ≤ (wrap64 (a1 + x10_1)))
          have c61b0 := eq_true (of_decide_eq_true Z5 : (wrap64 (a1 + x10_1)) ≤ (a0.size : Int))
          simp only [Option.some.injEq, Prod.mk.injEq] at H
          obtain ⟨rfl, rfl, rfl, rfl, rfl, rfl⟩ := H
          go_wp2_with (first | ((with_reducible refine gC 65 rfl ?_); refine gM 65 66 rfl Try.func65 (ay.calls k1 (a0.extract (a1 : Int).toNat ((wrap64 (a1 + x10_1)) : Int).toNat) t860 true _ A57.out) ?_; rintro _ w' ⟨rfl, ⟨nd, rfl⟩⟩; refine ⟨_, rfl, ?_⟩; (try (rw [cO wr]; generalize hq_ : World.drewN wr _ = wr; have n0_ : Aside0 (wr.heap[gb851]? = some (.cells #[.int .i64 0, .string (⟨#[]⟩ : ByteArray), .int .i64 0, .int .i64 0] 38 (0, 0))) := ⟨Z55⟩; have n1_ : Aside0 (Below w.heap.size w wr) := ⟨Z12⟩; clear BK851 HB hq_; have BK851 := n0_; have HB := n1_; clear n0_ n1_)); have hcz62_0 : wr.cell? ⟨gb851, 0, none⟩ = some (.int .i64 0) := (af BK851.out 0).trans rfl; have hcz62_1 : wr.cell? ⟨gb851, 1, none⟩ = some (.string (⟨#[]⟩ : ByteArray)) := (af BK851.out 1).trans rfl; have hcz62_2 : wr.cell? ⟨gb851, 2, none⟩ = some (.int .i64 0) := (af BK851.out 2).trans rfl; have hcz62_3 : wr.cell? ⟨gb851, 3, none⟩ = some (.int .i64 0) := (af BK851.out 3).trans rfl; have hfz62_0 := ae BK851.out 0; have hfz62_1 := ae BK851.out 1; have hfz62_2 := ae BK851.out 2; have hfz62_3 := ae BK851.out 3))
          refine bodyPost_ret (dQ rfl _ _ gb851 38 #[.int .i64 2, .string (a0.extract (a1 : Int).toNat ((wrap64 (a1 + x10_1)) : Int).toNat), .int .i64 t860, .int .i64 a1] (0, 0) _ rfl (by refine aA (cs := #[.int .i64 2, .string (a0.extract (a1 : Int).toNat ((wrap64 (a1 + x10_1)) : Int).toNat), .int .i64 t860, .int .i64 0]) ?_ 3 _ rfl; refine aA (cs := #[.int .i64 2, .string (a0.extract (a1 : Int).toNat ((wrap64 (a1 + x10_1)) : Int).toNat), .int .i64 0, .int .i64 0]) ?_ 2 _ rfl; refine aA (cs := #[.int .i64 2, .string (⟨#[]⟩ : ByteArray), .int .i64 0, .int .i64 0]) ?_ 1 _ rfl; refine aA (cs := #[.int .i64 0, .string (⟨#[]⟩ : ByteArray), .int .i64 0, .int .i64 0]) ?_ 0 _ rfl; exact BK851.out) Try.underlying38 rfl (by kernel_rfl)) rfl ?_
          exact ⟨Z4, Z7⟩
         replace H := yF H
         simp only [Option.some.injEq, Prod.mk.injEq] at H
         obtain ⟨rfl, rfl, rfl, rfl, rfl, rfl⟩ := H
         go_wp2_with (first | ((with_reducible refine gC 65 rfl ?_); refine gM 65 66 rfl Try.func65 (ay.calls k1 (a0.extract (a1 : Int).toNat ((wrap64 (a1 + x10_1)) : Int).toNat) t860 false _ A57.out) ?_; rintro _ w' ⟨rfl, ⟨nd, rfl⟩⟩; refine ⟨_, rfl, ?_⟩; (try (rw [cO wr]; generalize hq_ : World.drewN wr _ = wr; have n0_ : Aside0 (wr.heap[gb851]? = some (.cells #[.int .i64 0, .string (⟨#[]⟩ : ByteArray), .int .i64 0, .int .i64 0] 38 (0, 0))) := ⟨Z55⟩; have n1_ : Aside0 (Below w.heap.size w wr) := ⟨Z12⟩; clear BK851 HB hq_; have BK851 := n0_; have HB := n1_; clear n0_ n1_)); have hcz63_0 : wr.cell? ⟨gb851, 0, none⟩ = some (.int .i64 0) := (af BK851.out 0).trans rfl; have hcz63_1 : wr.cell? ⟨gb851, 1, none⟩ = some (.string (⟨#[]⟩ : ByteArray)) := (af BK851.out 1).trans rfl; have hcz63_2 : wr.cell? ⟨gb851, 2, none⟩ = some (.int .i64 0) := (af BK851.out 2).trans rfl; have hcz63_3 : wr.cell? ⟨gb851, 3, none⟩ = some (.int .i64 0) := (af BK851.out 3).trans rfl; have hfz63_0 := ae BK851.out 0; have hfz63_1 := ae BK851.out 1; have hfz63_2 := ae BK851.out 2; have hfz63_3 := ae BK851.out 3))
         refine bodyPost_ret (dQ rfl _ _ gb851 38 #[.int .i64 0, .string (⟨#[]⟩ : ByteArray), .int .i64 0, .int .i64 0] (0, 0) _ rfl (by refine aA (cs := #[.int .i64 0, .string (⟨#[]⟩ : ByteArray), .int .i64 0, .int .i64 0]) ?_ 3 _ rfl; refine aA (cs := #[.int .i64 0, .string (⟨#[]⟩ : ByteArray), .int .i64 0, .int .i64 0]) ?_ 2 _ rfl; refine aA (cs := #[.int .i64 0, .string (⟨#[]⟩ : ByteArray), .int .i64 0, .int .i64 0]) ?_ 1 _ rfl; refine aA (cs := #[.int .i64 0, .string (⟨#[]⟩ : ByteArray), .int .i64 0, .int .i64 0]) ?_ 0 _ rfl; exact BK851.out) Try.underlying38 rfl (by kernel_rfl)) rfl ?_
         exact ⟨Z4, Z7⟩
        exact absurd H (by simp)
       exact absurd H (by simp)
      exact absurd H (by simp)
   replace H := yF H
   revert H
   refine aJ (fun c64b0 c64b1 H => ?_) fun c64 c64b0 c64b1 H => ?_
   ·revert H
    refine yB2 fun t862 t863 A65 H => ?_
    try dsimp only at H
    revert H
    refine aJ (fun c66b0 c66b1 H => ?_) fun c66 c66b0 c66b1 H => ?_
    ·simp only [Option.some.injEq, Prod.mk.injEq] at H
     obtain ⟨rfl, rfl, rfl, rfl, rfl, rfl⟩ := H
     go_enter Try.func40, Try.ntmps40
     go_wp2_with (first | ((with_reducible refine bJ (N := 4) rfl ?_); refine bU ?hg (N := 4) ?hd (cs := #[.int .i64 0, .string (⟨#[]⟩ : ByteArray), .int .i64 0, .int .i64 0]) (t := 38) ?hr ?_; (case hd => rfl); (case hg => rfl); (case hr => first | (go_simp; done) | (go_simp; rfl)); intro gb851 hg w67 hbox hb; refine yA4 (below_step Z3 hb) (hbox) ((by rw [hg]; exact (below_size Z3) : w.heap.size ≤ gb851)) ((by rw [hg]; exact (below_size Z3) : w.heap.size ≤ gb851)) ?_; clear HB; intro HB BK851 GW851 GE851; clear hb hbox hg; have p5 : 0 ≤ (a1 : Int) := of_decide_eq_true Z5; have q5 : a1 < (a0.size : Int) := of_decide_eq_true Z5; have hx5 := dL a0 a1; replace p5 := eq_true p5; replace q5 := eq_true q5) | ((with_reducible refine gC 61 rfl ?_); refine gM 61 20 rfl Try.func61 (bI.calls (bt a0 a1) false _ A6.out) ?_; rintro _ w' ⟨rfl, ⟨nd, rfl⟩⟩; refine ⟨_, rfl, ?_⟩; (try (rw [cO w67]; generalize hq_ : World.drewN w67 _ = w67; have n0_ : Aside0 (w67.heap[gb851]? = some (.cells #[.int .i64 0, .string (⟨#[]⟩ : ByteArray), .int .i64 0, .int .i64 0] 38 (0, 0))) := ⟨Z55⟩; have n1_ : Aside0 (Below w.heap.size w w67) := ⟨Z12⟩; clear BK851 HB hq_; have BK851 := n0_; have HB := n1_; clear n0_ n1_))) | ((with_reducible refine gC 64 rfl ?_); refine gM 64 42 rfl Try.func64 (bK.calls (bt a0 a1) false _ A35.out) ?_; rintro _ w' ⟨rfl, ⟨nd, rfl⟩⟩; refine ⟨_, rfl, ?_⟩; (try (rw [cO w67]; generalize hq_ : World.drewN w67 _ = w67; have n0_ : Aside0 (w67.heap[gb851]? = some (.cells #[.int .i64 0, .string (⟨#[]⟩ : ByteArray), .int .i64 0, .int .i64 0] 38 (0, 0))) := ⟨Z55⟩; have n1_ : Aside0 (Below w.heap.size w w67) := ⟨Z12⟩; clear BK851 HB hq_; have BK851 := n0_; have HB := n1_; clear n0_ n1_))) | ((with_reducible refine gC 66 rfl ?_); refine gM 66 87 rfl Try.func66 (aj.calls k a0 a1 t862 t863 _ A65.out) ?_; rintro _ w68 ⟨rfl, hb⟩; refine ⟨_, rfl, yA2 (bV (g := gb851) (o := .cells #[.int .i64 0, .string (⟨#[]⟩ : ByteArray), .int .i64 0, .int .i64 0] 38 (0, 0)) (by exact BK851.out) hb) (below_step Z7 hb) ?_⟩; clear BK851 HB hb; intro BK851 HB; have hcz69_0 : w68.cell? ⟨gb851, 0, none⟩ = some (.int .i64 0) := (af BK851.out 0).trans rfl; have hcz69_1 : w68.cell? ⟨gb851, 1, none⟩ = some (.string (⟨#[]⟩ : ByteArray)) := (af BK851.out 1).trans rfl; have hcz69_2 : w68.cell? ⟨gb851, 2, none⟩ = some (.int .i64 0) := (af BK851.out 2).trans rfl; have hcz69_3 : w68.cell? ⟨gb851, 3, none⟩ = some (.int .i64 0) := (af BK851.out 3).trans rfl; have hfz69_0 := ae BK851.out 0; have hfz69_1 := ae BK851.out 1; have hfz69_2 := ae BK851.out 2; have hfz69_3 := ae BK851.out 3))
     refine bodyPost_ret (dQ rfl _ _ gb851 38 #[.int .i64 0, .string (⟨#[]⟩ : ByteArray), .int .i64 0, .int .i64 0] (0, 0) _ rfl (by refine aA (cs := #[.int .i64 0, .string (⟨#[]⟩ : ByteArray), .int .i64 0, .int .i64 0]) ?_ 3 _ rfl; refine aA (cs := #[.int .i64 0, .string (⟨#[]⟩ : ByteArray), .int .i64 0, .int .i64 0]) ?_ 2 _ rfl; refine aA (cs := #[.int .i64 0, .string (⟨#[]⟩ : ByteArray), .int .i64 0, .int .i64 0]) ?_ 1 _ rfl; refine aA (cs := #[.int .i64 0, .string (⟨#[]⟩ : ByteArray), .int .i64 0, .int .i64 0]) ?_ 0 _ rfl; exact BK851.out) Try.underlying38 rfl (by kernel_rfl)) rfl ?_
     exact ⟨Z4, Z7⟩
    simp only [Option.some.injEq, Prod.mk.injEq] at H
    obtain ⟨rfl, rfl, rfl, rfl, rfl, rfl⟩ := H
    go_enter Try.func40, Try.ntmps40
    go_wp2_with (first | ((with_reducible refine bJ (N := 4) rfl ?_); refine bU ?hg (N := 4) ?hd (cs := #[.int .i64 0, .string (⟨#[]⟩ : ByteArray), .int .i64 0, .int .i64 0]) (t := 38) ?hr ?_; (case hd => rfl); (case hg => rfl); (case hr => first | (go_simp; done) | (go_simp; rfl)); intro gb851 hg w70 hbox hb; refine yA4 (below_step Z3 hb) (hbox) ((by rw [hg]; exact (below_size Z3) : w.heap.size ≤ gb851)) ((by rw [hg]; exact (below_size Z3) : w.heap.size ≤ gb851)) ?_; clear HB; intro HB BK851 GW851 GE851; clear hb hbox hg; have p5 : 0 ≤ (a1 : Int) := of_decide_eq_true Z5; have q5 : a1 < (a0.size : Int) := of_decide_eq_true Z5; have hx5 := dL a0 a1; replace p5 := eq_true p5; replace q5 := eq_true q5) | ((with_reducible refine gC 61 rfl ?_); refine gM 61 20 rfl Try.func61 (bI.calls (bt a0 a1) false _ A6.out) ?_; rintro _ w' ⟨rfl, ⟨nd, rfl⟩⟩; refine ⟨_, rfl, ?_⟩; (try (rw [cO w70]; generalize hq_ : World.drewN w70 _ = w70; have n0_ : Aside0 (w70.heap[gb851]? = some (.cells #[.int .i64 0, .string (⟨#[]⟩ : ByteArray), .int .i64 0, .int .i64 0] 38 (0, 0))) := ⟨Z55⟩; have n1_ : Aside0 (Below w.heap.size w w70) := ⟨Z12⟩; clear BK851 HB hq_; have BK851 := n0_; have HB := n1_; clear n0_ n1_))) | ((with_reducible refine gC 64 rfl ?_); refine gM 64 42 rfl Try.func64 (bK.calls (bt a0 a1) false _ A35.out) ?_; rintro _ w' ⟨rfl, ⟨nd, rfl⟩⟩; refine ⟨_, rfl, ?_⟩; (try (rw [cO w70]; generalize hq_ : World.drewN w70 _ = w70; have n0_ : Aside0 (w70.heap[gb851]? = some (.cells #[.int .i64 0, .string (⟨#[]⟩ : ByteArray), .int .i64 0, .int .i64 0] 38 (0, 0))) := ⟨Z55⟩; have n1_ : Aside0 (Below w.heap.size w w70) := ⟨Z12⟩; clear BK851 HB hq_; have BK851 := n0_; have HB := n1_; clear n0_ n1_))) | ((with_reducible refine gC 66 rfl ?_); refine gM 66 87 rfl Try.func66 (aj.calls k a0 a1 t862 t863 _ A65.out) ?_; rintro _ w71 ⟨rfl, hb⟩; refine ⟨_, rfl, yA2 (bV (g := gb851) (o := .cells #[.int .i64 0, .string (⟨#[]⟩ : ByteArray), .int .i64 0, .int .i64 0] 38 (0, 0)) (by exact BK851.out) hb) (below_step Z7 hb) ?_⟩; clear BK851 HB hb; intro BK851 HB; have hcz72_0 : w71.cell? ⟨gb851, 0, none⟩ = some (.int .i64 0) := (af BK851.out 0).trans rfl; have hcz72_1 : w71.cell? ⟨gb851, 1, none⟩ = some (.string (⟨#[]⟩ : ByteArray)) := (af BK851.out 1).trans rfl; have hcz72_2 : w71.cell? ⟨gb851, 2, none⟩ = some (.int .i64 0) := (af BK851.out 2).trans rfl; have hcz72_3 : w71.cell? ⟨gb851, 3, none⟩ = some (.int .i64 0) := (af BK851.out 3).trans rfl; have hfz72_0 := ae BK851.out 0; have hfz72_1 := ae BK851.out 1; have hfz72_2 := ae BK851.out 2; have hfz72_3 := ae BK851.out 3))
    refine bodyPost_ret (dQ rfl _ _ gb851 38 #[.int .i64 3, .string t862, .int .i64 0, .int .i64 a1] (0, 0) _ rfl (by refine aA (cs := #[.int .i64 3, .string t862, .int .i64 0, .int .i64 0]) ?_ 3 _ rfl; refine aA (cs := #[.int .i64 3, .string t862, .int .i64 0, .int .i64 0]) ?_ 2 _ rfl; refine aA (cs := #[.int .i64 3, .string (⟨#[]⟩ : ByteArray), .int .i64 0, .int .i64 0]) ?_ 1 _ rfl; refine aA (cs := #[.int .i64 0, .string (⟨#[]⟩ : ByteArray), .int .i64 0, .int .i64 0]) ?_ 0 _ rfl; exact BK851.out) Try.underlying38 rfl (by kernel_rfl)) rfl ?_
    exact ⟨Z4, Z7⟩
   revert H
   refine yB1 fun t864 A73 H => ?_
   revert H
   refine aJ (fun c74b0 c74b1 H => ?_) fun c74 c74b0 c74b1 H => ?_
   ·simp only [Option.some.injEq, Prod.mk.injEq] at H
    obtain ⟨rfl, rfl, rfl, rfl, rfl, rfl⟩ := H
    go_enter Try.func40, Try.ntmps40
    go_wp2_with (first | ((with_reducible refine bJ (N := 4) rfl ?_); refine bU ?hg (N := 4) ?hd (cs := #[.int .i64 0, .string (⟨#[]⟩ : ByteArray), .int .i64 0, .int .i64 0]) (t := 38) ?hr ?_; (case hd => rfl); (case hg => rfl); (case hr => first | (go_simp; done) | (go_simp; rfl)); intro gb851 hg w75 hbox hb; refine yA4 (below_step Z3 hb) (hbox) ((by rw [hg]; exact (below_size Z3) : w.heap.size ≤ gb851)) ((by rw [hg]; exact (below_size Z3) : w.heap.size ≤ gb851)) ?_; clear HB; intro HB BK851 GW851 GE851; clear hb hbox hg; have p5 : 0 ≤ (a1 : Int) := of_decide_eq_true Z5; have q5 : a1 < (a0.size : Int) := of_decide_eq_true Z5; have hx5 := dL a0 a1; replace p5 := eq_true p5; replace q5 := eq_true q5) | ((with_reducible refine gC 61 rfl ?_); refine gM 61 20 rfl Try.func61 (bI.calls (bt a0 a1) false _ A6.out) ?_; rintro _ w' ⟨rfl, ⟨nd, rfl⟩⟩; refine ⟨_, rfl, ?_⟩; (try (rw [cO w75]; generalize hq_ : World.drewN w75 _ = w75; have n0_ : Aside0 (w75.heap[gb851]? = some (.cells #[.int .i64 0, .string (⟨#[]⟩ : ByteArray), .int .i64 0, .int .i64 0] 38 (0, 0))) := ⟨Z55⟩; have n1_ : Aside0 (Below w.heap.size w w75) := ⟨Z12⟩; clear BK851 HB hq_; have BK851 := n0_; have HB := n1_; clear n0_ n1_))) | ((with_reducible refine gC 64 rfl ?_); refine gM 64 42 rfl Try.func64 (bK.calls (bt a0 a1) false _ A35.out) ?_; rintro _ w' ⟨rfl, ⟨nd, rfl⟩⟩; refine ⟨_, rfl, ?_⟩; (try (rw [cO w75]; generalize hq_ : World.drewN w75 _ = w75; have n0_ : Aside0 (w75.heap[gb851]? = some (.cells #[.int .i64 0, .string (⟨#[]⟩ : ByteArray), .int .i64 0, .int .i64 0] 38 (0, 0))) := ⟨Z55⟩; have n1_ : Aside0 (Below w.heap.size w w75) := ⟨Z12⟩; clear BK851 HB hq_; have BK851 := n0_; have HB := n1_; clear n0_ n1_))) | ((with_reducible refine gC 67 rfl ?_); refine gM 67 99 rfl Try.func67 (aY.calls k a0 a1 t864 _ A73.out) ?_; rintro _ w76 ⟨rfl, hb⟩; refine ⟨_, rfl, yA2 (bV (g := gb851) (o := .cells #[.int .i64 0, .string (⟨#[]⟩ : ByteArray), .int .i64 0, .int .i64 0] 38 (0, 0)) (by exact BK851.out) hb) (below_step Z7 hb) ?_⟩; clear BK851 HB hb; intro BK851 HB; have hcz77_0 : w76.cell? ⟨gb851, 0, none⟩ = some (.int .i64 0) := (af BK851.out 0).trans rfl; have hcz77_1 : w76.cell? ⟨gb851, 1, none⟩ = some (.string (⟨#[]⟩ : ByteArray)) := (af BK851.out 1).trans rfl; have hcz77_2 : w76.cell? ⟨gb851, 2, none⟩ = some (.int .i64 0) := (af BK851.out 2).trans rfl; have hcz77_3 : w76.cell? ⟨gb851, 3, none⟩ = some (.int .i64 0) := (af BK851.out 3).trans rfl; have hfz77_0 := ae BK851.out 0; have hfz77_1 := ae BK851.out 1; have hfz77_2 := ae BK851.out 2; have hfz77_3 := ae BK851.out 3))
    refine bodyPost_ret (dQ rfl _ _ gb851 38 #[.int .i64 0, .string (⟨#[]⟩ : ByteArray), .int .i64 0, .int .i64 0] (0, 0) _ rfl (by refine aA (cs := #[.int .i64 0, .string (⟨#[]⟩ : ByteArray), .int .i64 0, .int .i64 0]) ?_ 3 _ rfl; refine aA (cs := #[.int .i64 0, .string (⟨#[]⟩ : ByteArray), .int .i64 0, .int .i64 0]) ?_ 2 _ rfl; refine aA (cs := #[.int .i64 0, .string (⟨#[]⟩ : ByteArray), .int .i64 0, .int .i64 0]) ?_ 1 _ rfl; refine aA (cs := #[.int .i64 0, .string (⟨#[]⟩ : ByteArray), .int .i64 0, .int .i64 0]) ?_ 0 _ rfl; exact BK851.out) Try.underlying38 rfl (by kernel_rfl)) rfl ?_
    exact ⟨Z4, Z7⟩
   have c78b0 := eq_true (of_decide_eq_true Z5 : 0 ≤ a1)
   revert H
   refine fB (fun c79 c79b0 c79b1 H => ?_) fun c79 H => ?_
   ·revert H
    refine fB (fun c80 c80b0 c80b1 H => ?_) fun c80 H => ?_
    ·simp only [Option.some.injEq, Prod.mk.injEq] at H
     obtain ⟨rfl, rfl, rfl, rfl, rfl, rfl⟩ := H
     go_enter Try.func40, Try.ntmps40
     go_wp2_with (first | ((with_reducible refine bJ (N := 4) rfl ?_); refine bU ?hg (N := 4) ?hd (cs := #[.int .i64 0, .string (⟨#[]⟩ : ByteArray), .int .i64 0, .int .i64 0]) (t := 38) ?hr ?_; (case hd => rfl); (case hg => rfl); (case hr => first | (go_simp; done) | (go_simp; rfl)); intro gb851 hg w81 hbox hb; refine yA4 (below_step Z3 hb) (hbox) ((by rw [hg]; exact (below_size Z3) : w.heap.size ≤ gb851)) ((by rw [hg]; exact (below_size Z3) : w.heap.size ≤ gb851)) ?_; clear HB; intro HB BK851 GW851 GE851; clear hb hbox hg; have p5 : 0 ≤ (a1 : Int) := of_decide_eq_true Z5; have q5 : a1 < (a0.size : Int) := of_decide_eq_true Z5; have hx5 := dL a0 a1; replace p5 := eq_true p5; replace q5 := eq_true q5) | ((with_reducible refine gC 61 rfl ?_); refine gM 61 20 rfl Try.func61 (bI.calls (bt a0 a1) false _ A6.out) ?_; rintro _ w' ⟨rfl, ⟨nd, rfl⟩⟩; refine ⟨_, rfl, ?_⟩; (try (rw [cO w81]; generalize hq_ : World.drewN w81 _ = w81; have n0_ : Aside0 (w81.heap[gb851]? = some (.cells #[.int .i64 0, .string (⟨#[]⟩ : ByteArray), .int .i64 0, .int .i64 0] 38 (0, 0))) := ⟨Z55⟩; have n1_ : Aside0 (Below w.heap.size w w81) := ⟨Z12⟩; clear BK851 HB hq_; have BK851 := n0_; have HB := n1_; clear n0_ n1_))) | ((with_reducible refine gC 64 rfl ?_); refine gM 64 42 rfl Try.func64 (bK.calls (bt a0 a1) false _ A35.out) ?_; rintro _ w' ⟨rfl, ⟨nd, rfl⟩⟩; refine ⟨_, rfl, ?_⟩; (try (rw [cO w81]; generalize hq_ : World.drewN w81 _ = w81; have n0_ : Aside0 (w81.heap[gb851]? = some (.cells #[.int .i64 0, .string (⟨#[]⟩ : ByteArray), .int .i64 0, .int .i64 0] 38 (0, 0))) := ⟨Z55⟩; have n1_ : Aside0 (Below w.heap.size w w81) := ⟨Z12⟩; clear BK851 HB hq_; have BK851 := n0_; have HB := n1_; clear n0_ n1_))) | ((with_reducible refine gC 67 rfl ?_); refine gM 67 99 rfl Try.func67 (aY.calls k a0 a1 t864 _ A73.out) ?_; rintro _ w82 ⟨rfl, hb⟩; refine ⟨_, rfl, yA2 (bV (g := gb851) (o := .cells #[.int .i64 0, .string (⟨#[]⟩ : ByteArray), .int .i64 0, .int .i64 0] 38 (0, 0)) (by exact BK851.out) hb) (below_step Z7 hb) ?_⟩; clear BK851 HB hb; intro BK851 HB; have hcz83_0 : w82.cell? ⟨gb851, 0, none⟩ = some (.int .i64 0) := (af BK851.out 0).trans rfl; have hcz83_1 : w82.cell? ⟨gb851, 1, none⟩ = some (.string (⟨#[]⟩ : ByteArray)) := (af BK851.out 1).trans rfl; have hcz83_2 : w82.cell? ⟨gb851, 2, none⟩ = some (.int .i64 0) := (af BK851.out 2).trans rfl; have hcz83_3 : w82.cell? ⟨gb851, 3, none⟩ = some (.int .i64 0) := (af BK851.out 3).trans rfl; have hfz83_0 := ae BK851.out 0; have hfz83_1 := ae BK851.out 1; have hfz83_2 := ae BK851.out 2; have hfz83_3 := ae BK851.out 3))
     refine bodyPost_ret (dQ rfl _ _ gb851 38 #[.int .i64 4, .string (a0.extract (a1 : Int).toNat ((wrap64 (a1 + t864)) : Int).toNat), .int .i64 0, .int .i64 a1] (0, 0) _ rfl (by refine aA (cs := #[.int .i64 4, .string (a0.extract (a1 : Int).toNat ((wrap64 (a1 + t864)) : Int).toNat), .int .i64 0, .int .i64 0]) ?_ 3 _ rfl; refine aA (cs := #[.int .i64 4, .string (a0.extract (a1 : Int).toNat ((wrap64 (a1 + t864)) : Int).toNat), .int .i64 0, .int .i64 0]) ?_ 2 _ rfl; refine aA (cs := #[.int .i64 4, .string (⟨#[]⟩ : ByteArray), .int .i64 0, .int .i64 0]) ?_ 1 _ rfl; refine aA (cs := #[.int .i64 0, .string (⟨#[]⟩ : ByteArray), .int .i64 0, .int .i64 0]) ?_ 0 _ rfl; exact BK851.out) Try.underlying38 rfl (by kernel_rfl)) rfl ?_
     exact ⟨Z4, Z7⟩
    exact absurd H (by simp)
   exact absurd H (by simp)
  exact absurd H (by simp)
 exact absurd H (by simp)
end Go.Proofs.Ytendgafpkeadhaa.Q
end
section
namespace Go.Proofs.Ytendgafpkeadhaa.Q
open Go.RowKit Go.Proofs.YtendgafpkeadhaaW.PrintWords Go.Proofs.YtendgafpkeadhaaW.PrintLast Go.Proofs.YtendgafpkeadhaaW.PrintMore
attribute [local go_sem] max2_int min2_int max_two min_two max_three min_three max_four min_four
set_option linter.unusedVariables false
set_option linter.unusedSimpArgs false
/-! ### aV: function 22 -/
def aV.l0 : Nat → ByteArray → List (S38) → Int → Option ((List (S38)) × Int × Int)
 | 0, _, _, _ => none
 | k + 1, x0, x5, x6 => if x6 < (x0.size : Int) then ((bi.f k x0 x6).bind fun bt866 => (if bt866.2.2.2.2.2 = 0 then (if x5.length < 3518437208883 then ((ak.f k x0 (wrap64 (x6 + bt866.2.2.2.2.1))).bind fun t876 => (aV.l0 k x0 (x5 ++ [(⟨bt866.1, bt866.2.1, bt866.2.2.1, bt866.2.2.2.1⟩ : S38)]) t876)) else (none)) else (some (([] : List (S38)), bt866.2.2.2.2.2, x6)))) else (some (x5, 0, 0))
def aV.f (k : Nat) (a0 : ByteArray) : Option ((List (S38)) × Int × Int) := if (a0.size : Int) > 8192 then (some (([] : List (S38)), 3, 0)) else ((ak.f k a0 0).bind fun t865 => (aV.l0 k a0 ([] : List (S38)) t865))
theorem aV.mono_l : ∀ k, (∀ y0 y1 y2, LeO (aV.l0 k y0 y1 y2) (aV.l0 (k + 1) y0 y1 y2))
 | 0 => fun _ _ _ r h => by simp [aV.l0] at h
 | k + 1 => by
  have ih0 := aV.mono_l k
  intro y0 y1 y2
  unfold aV.l0
  have m0 := bi.mono
  have m1 := ak.mono
  exact yL
theorem aV.mono : ∀ a0 k, LeO (aV.f k a0) (aV.f (k + 1) a0) := by
 intro a0 k
 have ih0 := aV.mono_l k
 unfold aV.f
 have m0 := bi.mono
 have m1 := ak.mono
 exact yL
set_option maxHeartbeats 8000000 in
set_option maxRecDepth 100000 in
theorem aV.calls (k : Nat) (a0 : ByteArray) (r1 : List (S38)) (r2 : Int) (r3 : Int) (w : World) (h : aV.f k a0 = some (r1, r2, r3)) :
 Calls Try.prog 22 #[.string a0] w fun e w' => ∃ v0_ : Value, e = .returned (.tuple #[v0_, .int .i64 r2, .int .i64 r3]) ∧ Kd.R k38 38 w' w.heap.size (fun _ => True) v0_ r1 ∧ Below w.heap.size w w' := by
 have hu38 := Try.underlying38
 have HB := Aside0.mk (Below.refl w.heap.size w)
 have H := h
 clear h
 unfold aV.f at H
 revert H
 refine dX (fun c2 H => ?_) fun c2 H => ?_
 ·have c2b0 : decide (8192 < (a0.size : Int)) = true := decide_eq_true c2
  have c2b1 : decide (8192 < a0.size) = true := decide_eq_true (by omega)
  clear c2
  simp only [Option.some.injEq, Prod.mk.injEq] at H
  obtain ⟨rfl, rfl, rfl⟩ := H
  go_enter Try.func22, Try.ntmps22
  go_wp2
  go_ret3
  exact ⟨_, Z4, Z24, Z3⟩
 have c2b0 : decide (8192 < (a0.size : Int)) = false := decide_eq_false c2
 have c2b1 : decide (8192 < a0.size) = false := decide_eq_false (by omega)
 clear c2
 revert H
 refine yB1 fun t865 A3 H => ?_
 have H' := Aside0.mk H
 clear H
 go_enter Try.func22, Try.ntmps22
 go_wp2_with (first | ((with_reducible refine gC 39 rfl ?_); refine gM 39 14 rfl Try.func39 (ak.calls k a0 0 t865 _ A3.out) ?_; rintro _ w' ⟨rfl, ⟨nd, rfl⟩⟩; refine ⟨_, rfl, ?_⟩))
 go_loopg [5, 6] k (fun kq v5 v6 w' => ∃ (x5_1 : List (S38)) (x6_1 : Int), v6 = .int .i64 x6_1 ∧ Aside0 (aV.l0 kq a0 x5_1 x6_1 = some (r1, r2, r3)) ∧ Aside0 (kq ≤ k) ∧ Aside0 (Kd.R k38 38 w' w.heap.size (fun _ => True) v5 x5_1) ∧ Aside0 (Below w.heap.size w w'))
 case atStart => exact ⟨(([] : List (S38))), (t865), Z6, H', ⟨Nat.le_refl _⟩, ⟨Z24⟩, ⟨Z3⟩⟩
 case round =>
  clear H'
  try clear c2
  try clear c2b0
  try clear c2b1
  try clear p2
  try clear c3
  obtain ⟨x5_1, x6_1, rfl, HA, HK1, HO_5, HB⟩ := hrel
  cases gk with
  | zero => exact absurd HA.out (by simp [aV.l0])
  | succ k1 =>
   have H := HA.out
   clear HA
   simp only [aV.l0] at H
   revert H
   refine fO (fun c4b0 H => ?_) fun c4b0 H => ?_
   ·revert H
    refine yB6 fun t866 t867 t868 t869 t870 t871 A5 H => ?_
    try dsimp only at H
    revert H
    refine aJ (fun c6b0 c6b1 H => ?_) fun c6 c6b0 c6b1 H => ?_
    ·revert H
     refine dX (fun c7 H => ?_) fun c7 H => ?_
     ·have LMc7 := Aside0.mk c7
      clear c7
      obtain ⟨y873, hy873⟩ : ∃ y_ : List (S38), y_ = (x5_1 ++ [(⟨t866, t867, t868, t869⟩ : S38)]) := ⟨_, rfl⟩
      replace H : ((ak.f k1 a0 (wrap64 (x6_1 + t870))).bind fun t876 => (aV.l0 k1 a0 y873 t876)) = some (r1, r2, r3) := by first | (rw [hy873]; with_reducible exact H) | (have H2_ := (Option.bind_some _ _).symm.trans H; rw [hy873]; with_reducible exact H2_) | (have H2_ := (Option.bind_some _ _).symm.trans H; with_reducible exact H2_) | with_reducible exact H | (rw [hy873]; exact H) | exact H
      have Ny873 := Aside0.mk hy873
      clear hy873
      revert H
      refine yB1 fun t876 A8 H => ?_
      have H' := Aside0.mk H
      clear H
      go_wp2_with (first | ((with_reducible refine gC 40 rfl ?_); refine gM 40 22 rfl Try.func40 (bi.calls k1 a0 x6_1 t866 t867 t868 t869 t870 t871 _ A5.out) ?_; rintro _ w9 ⟨rfl, hb⟩; refine ⟨_, rfl, yA2 (Kd.R_below Z19 hb) (below_step Z3 hb) ?_⟩; clear HO_5 HB hb; intro HO_5 HB) | ((with_reducible refine bJ (N := 7) rfl ?_); refine bU ?hg (N := 7) ?hd (cs := #[.int .i64 0, .string (⟨#[]⟩ : ByteArray), .int .i64 0, .int .i64 0]) (t := 38) ?hr ?_; (case hd => rfl); (case hg => rfl); (case hr => first | (go_simp; done) | (go_simp; rfl)); intro gb872 hg w10 hbox hb; refine yA5 (Kd.R_below (Kd.og Z19 gb872 (Nat.le_of_eq hg.symm)) hb) (below_step Z3 hb) (hbox) ((by rw [hg]; exact (below_size Z3) : w.heap.size ≤ gb872)) ((by rw [hg]; exact (below_size Z3) : w.heap.size ≤ gb872)) ?_; clear HO_5 HB; intro HO_5 HB BK872 GW872 GE872; clear hb hbox hg; have hcz11_0 : w10.cell? ⟨gb872, 0, none⟩ = some (.int .i64 0) := (af BK872.out 0).trans rfl; have hcz11_1 : w10.cell? ⟨gb872, 1, none⟩ = some (.string (⟨#[]⟩ : ByteArray)) := (af BK872.out 1).trans rfl; have hcz11_2 : w10.cell? ⟨gb872, 2, none⟩ = some (.int .i64 0) := (af BK872.out 2).trans rfl; have hcz11_3 : w10.cell? ⟨gb872, 3, none⟩ = some (.int .i64 0) := (af BK872.out 3).trans rfl; have hfz11_0 := ae BK872.out 0; have hfz11_1 := ae BK872.out 1; have hfz11_2 := ae BK872.out 2; have hfz11_3 := ae BK872.out 3) | ((with_reducible refine dB (b := .append) (xs := #[.tmp 30, .tmp 32]) rfl ?_); at_builtin; refine Kd.iP k38 (w0 := w) w.heap.size rfl (.tmp 30) (.tmp 32) 32 38 (.agg #[(.int .i64 0), (.string ⟨#[]⟩), (.int .i64 0), (.int .i64 0)]) 40 rfl Try.underlying32 info38 rfl (by decide) (by omega) u5 x5_1 (⟨t866, t867, t868, t869⟩ : S38) [.int .i64 t866, .string t867, .int .i64 t868, .int .i64 t869] (fun k_ => k_ ≠ gb872) (fun _ => False) rfl (by first | (go_simp; done) | (go_simp; rfl)) ?aP (fun _ hk => hk.elim) ?aF ?aO ?aB ?aS ?aL ?_; (case aP => exact AZ _ _ _ (⟨t866, t867, t868, t869⟩ : S38)); (case aB => exact Z62); (case aF => exact (fun k_ hk => Kd.nM (g := gb872) (o := .cells #[.int .i64 t866, .string t867, .int .i64 t868, .int .i64 t869] 38 (0, 0)) (by refine aA (cs := #[.int .i64 t866, .string t867, .int .i64 t868, .int .i64 0]) ?_ 3 _ rfl; refine aA (cs := #[.int .i64 t866, .string t867, .int .i64 0, .int .i64 0]) ?_ 2 _ rfl; refine aA (cs := #[.int .i64 t866, .string (⟨#[]⟩ : ByteArray), .int .i64 0, .int .i64 0]) ?_ 1 _ rfl; refine aA (cs := #[.int .i64 0, .string (⟨#[]⟩ : ByteArray), .int .i64 0, .int .i64 0]) ?_ 0 _ rfl; exact BK872.out) k_ hk)); (case aO => exact (by (with_reducible repeat (first | apply Kd.R_alloc | apply Kd.R_drewN | apply Kd.R_drew)); exact Kd.bn (Kd.ku (p := ⟨gb872, 3, none⟩) (Kd.ku (p := ⟨gb872, 2, none⟩) (Kd.ku (p := ⟨gb872, 1, none⟩) (Kd.ku (p := ⟨gb872, 0, none⟩) (Kd.bn HO_5.out (fun k_ hk => (⟨hk, hk.2⟩ : _ ∧ k_ ≠ gb872))) (fun _ hk => hk.2) (.int .i64 t866)) (fun _ hk => hk.2) (.string t867)) (fun _ hk => hk.2) (.int .i64 t868)) (fun _ hk => hk.2) (.int .i64 t869)) (fun _ hk => hk.1.2))); (case aS => exact (below_size Z62)); (case aL => have := LMc7.out; omega); intro v874 w12 ho hb hg hat; rw [← Ny873.out] at ho; refine yA3 (jd (g := gb872) (o := .cells #[.int .i64 t866, .string t867, .int .i64 t868, .int .i64 t869] 38 (0, 0)) (by refine aA (cs := #[.int .i64 t866, .string t867, .int .i64 t868, .int .i64 0]) ?_ 3 _ rfl; refine aA (cs := #[.int .i64 t866, .string t867, .int .i64 0, .int .i64 0]) ?_ 2 _ rfl; refine aA (cs := #[.int .i64 t866, .string (⟨#[]⟩ : ByteArray), .int .i64 0, .int .i64 0]) ?_ 1 _ rfl; refine aA (cs := #[.int .i64 0, .string (⟨#[]⟩ : ByteArray), .int .i64 0, .int .i64 0]) ?_ 0 _ rfl; exact BK872.out) hg (Kd.zU HO_5.out (fun _ hk => hk.2))) (hb) (ho) ?_; clear BK872 HB HO_5; intro BK872 HB HO875; clear ho hb hg hat) | ((with_reducible refine gC 39 rfl ?_); refine gM 39 38 rfl Try.func39 (ak.calls k1 a0 (wrap64 (x6_1 + t870)) t876 _ A8.out) ?_; rintro _ w' ⟨rfl, ⟨nd, rfl⟩⟩; refine ⟨_, rfl, ?_⟩))
      go_roundg k1
      case measure => have := HK1.out; omega
      case rel => exact ⟨(y873), (t876), Z6, H', ⟨by have := HK1.out; omega⟩, ⟨by (with_reducible repeat (first | apply Kd.R_alloc | apply Kd.R_drewN | apply Kd.R_drew)); exact Kd.bn HO875.out (fun _ hk => trivial)⟩, ⟨Z62⟩⟩
     exact absurd H (by simp)
    simp only [Option.some.injEq, Prod.mk.injEq] at H
    obtain ⟨rfl, rfl, rfl⟩ := H
    go_wp2_with (first | ((with_reducible refine gC 40 rfl ?_); refine gM 40 22 rfl Try.func40 (bi.calls k1 a0 x6_1 t866 t867 t868 t869 t870 t871 _ A5.out) ?_; rintro _ w13 ⟨rfl, hb⟩; refine ⟨_, rfl, yA2 (Kd.R_below Z19 hb) (below_step Z3 hb) ?_⟩; clear HO_5 HB hb; intro HO_5 HB) | ((with_reducible refine bJ (N := 7) rfl ?_); refine bU ?hg (N := 7) ?hd (cs := #[.int .i64 0, .string (⟨#[]⟩ : ByteArray), .int .i64 0, .int .i64 0]) (t := 38) ?hr ?_; (case hd => rfl); (case hg => rfl); (case hr => first | (go_simp; done) | (go_simp; rfl)); intro gb872 hg w14 hbox hb; refine yA5 (Kd.R_below (Kd.og Z19 gb872 (Nat.le_of_eq hg.symm)) hb) (below_step Z3 hb) (hbox) ((by rw [hg]; exact (below_size Z3) : w.heap.size ≤ gb872)) ((by rw [hg]; exact (below_size Z3) : w.heap.size ≤ gb872)) ?_; clear HO_5 HB; intro HO_5 HB BK872 GW872 GE872; clear hb hbox hg; have hcz15_0 : w14.cell? ⟨gb872, 0, none⟩ = some (.int .i64 0) := (af BK872.out 0).trans rfl; have hcz15_1 : w14.cell? ⟨gb872, 1, none⟩ = some (.string (⟨#[]⟩ : ByteArray)) := (af BK872.out 1).trans rfl; have hcz15_2 : w14.cell? ⟨gb872, 2, none⟩ = some (.int .i64 0) := (af BK872.out 2).trans rfl; have hcz15_3 : w14.cell? ⟨gb872, 3, none⟩ = some (.int .i64 0) := (af BK872.out 3).trans rfl; have hfz15_0 := ae BK872.out 0; have hfz15_1 := ae BK872.out 1; have hfz15_2 := ae BK872.out 2; have hfz15_3 := ae BK872.out 3))
    go_ret3
    exact ⟨_, Z4, Z24, Z62⟩
   simp only [Option.some.injEq, Prod.mk.injEq] at H
   obtain ⟨rfl, rfl, rfl⟩ := H
   go_wp2
   go_ret3
   exact ⟨_, Z4, Z19, Z3⟩
end Go.Proofs.Ytendgafpkeadhaa.Q
end
