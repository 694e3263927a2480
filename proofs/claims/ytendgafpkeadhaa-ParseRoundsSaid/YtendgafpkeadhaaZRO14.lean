/- Walks over functions of the program, words for them, and what the functions come to; of each text only what this claim uses; no condition. -/
import Derived.Test.YtendgafpkeadhaaZRO0
import Derived.Test.YtendgafpkeadhaaZRO1
import Derived.Test.YtendgafpkeadhaaZRO3
import Derived.Test.YtendgafpkeadhaaZRO4
import Derived.Test.YtendgafpkeadhaaZRO5
import Derived.Test.YtendgafpkeadhaaZRO6
import Derived.Test.YtendgafpkeadhaaZRO11
import Derived.Test.YtendgafpkeadhaaZRO12
import Derived.Test.YtendgafpkeadhaaZRO13
section
namespace Go.Proofs.Ytendgafpkeadhaa.Q
open Go.RowKit Go.Proofs.YtendgafpkeadhaaW.PrintWords Go.Proofs.YtendgafpkeadhaaW.PrintLast Go.Proofs.YtendgafpkeadhaaW.PrintMore
attribute [local go_sem] max2_int min2_int max_two min_two max_three min_three max_four min_four
set_option linter.unusedVariables false
set_option linter.unusedSimpArgs false
/-! ### bz: function 10 -/
mutual
def bz.j0 : Nat → List (S41) → Bool → Option (Int × Int)
 | 0, _, _ => none
 | k + 1, x0, x13 => if x13 = true then (some (2, 0)) else ((bF.f k x0).bind fun t165 => (if t165 > 60 then (some (3, 0)) else (if 0 < (x0.length : Int) then (if ((rd_T41 x0 0).f0) = 1 then (bz.l0 k x0 x0 (x0.length : Int) 0) else (some (4, 0))) else (none))))
def bz.l0 : Nat → List (S41) → List (S41) → Int → Int → Option (Int × Int)
 | 0, _, _, _, _ => none
 | k + 1, x0, x34, x35, x36 => if x36 < x35 then (if 0 ≤ x36 then (if x36 < (x34.length : Int) then ((df.f k x0 x36).bind fun t169 => (bz.l1 k x0 x36 ([] : List Int) x34 x35 x36 t169 (t169.length : Int) 0 ((rd_T41 x34 x36).f0) ((rd_T41 x34 x36).f1) ((rd_T41 x34 x36).f2) ((rd_T41 x34 x36).f3) ((rd_T41 x34 x36).f4))) else (none)) else (none)) else (some (0, 0))
def bz.l1 : Nat → List (S41) → Int → List Int → List (S41) → Int → Int → List Int → Int → Int → Int → Int → ByteArray → Int → ByteArray → Option (Int × Int)
 | 0, _, _, _, _, _, _, _, _, _, _, _, _, _, _ => none
 | k + 1, x0, x4, x6, x34, x35, x36, x43, x44, x45, x169000, x169001, x169002, x169003, x169004 => if x45 < x44 then (if 0 ≤ x45 then (if x45 < (x43.length : Int) then (if 0 ≤ (rd x43 x45) then (if (rd x43 x45) < (x0.length : Int) then (if x6.length < 17592186044416 then (bz.l1 k x0 x4 (x6 ++ [(rd_T41 x0 (rd x43 x45)).f0]) x34 x35 x36 x43 x44 (wrap64 (x45 + 1)) x169000 x169001 x169002 x169003 x169004) else (none)) else (none)) else (none)) else (none)) else (none)) else ((bH.f k x169000 x169001 x169002 x169003 x169004).bind fun t177 => (if t177 = true then ((aW.f k x169000 x6).bind fun t178 => (if t178 = true then (bz.l0 k x0 x34 x35 (wrap64 (x36 + 1))) else (some (4, x4)))) else (some (4, x4))))
end
def bz.f (k : Nat) (l0 : List (S41)) : Option (Int × Int) := if (l0.length : Int) > 2000 then (some (3, 0)) else (if (l0.length : Int) = 0 then (bz.j0 k l0 true) else ((bM.f k l0 0).bind fun t164 => (bz.j0 k l0 (t164 != (l0.length : Int)))))
theorem bz.mono_l : ∀ k, (∀ y0 y1, LeO (bz.j0 k y0 y1) (bz.j0 (k + 1) y0 y1)) ∧ (∀ y0 y1 y2 y3, LeO (bz.l0 k y0 y1 y2 y3) (bz.l0 (k + 1) y0 y1 y2 y3)) ∧ (∀ y0 y1 y2 y3 y4 y5 y6 y7 y8 y9 y10 y11 y12 y13, LeO (bz.l1 k y0 y1 y2 y3 y4 y5 y6 y7 y8 y9 y10 y11 y12 y13) (bz.l1 (k + 1) y0 y1 y2 y3 y4 y5 y6 y7 y8 y9 y10 y11 y12 y13))
 | 0 => ⟨fun _ _ r h => by simp [bz.j0] at h, fun _ _ _ _ r h => by simp [bz.l0] at h, fun _ _ _ _ _ _ _ _ _ _ _ _ _ _ r h => by simp [bz.l1] at h⟩
 | k + 1 => by
  obtain ⟨ih0, ih1, ih2⟩ := bz.mono_l k
  refine ⟨?_, ?_, ?_⟩
  ·intro y0 y1
   unfold bz.j0
   have m0 := bF.mono
   have m1 := bM.mono
   have m2 := df.mono
   have m3 := bH.mono
   have m4 := aW.mono
   exact yL
  ·intro y0 y1 y2 y3
   unfold bz.l0
   have m0 := bF.mono
   have m1 := bM.mono
   have m2 := df.mono
   have m3 := bH.mono
   have m4 := aW.mono
   exact yL
  intro y0 y1 y2 y3 y4 y5 y6 y7 y8 y9 y10 y11 y12 y13
  unfold bz.l1
  have m0 := bF.mono
  have m1 := bM.mono
  have m2 := df.mono
  have m3 := bH.mono
  have m4 := aW.mono
  exact yL
theorem bz.mono : ∀ a0 k, LeO (bz.f k a0) (bz.f (k + 1) a0) := by
 intro a0 k
 obtain ⟨ih0, ih1, ih2⟩ := bz.mono_l k
 unfold bz.f
 have m0 := bF.mono
 have m1 := bM.mono
 have m2 := df.mono
 have m3 := bH.mono
 have m4 := aW.mono
 exact yL
set_option maxHeartbeats 8000000 in
set_option maxRecDepth 100000 in
theorem bz.calls (k : Nat) (A0 : Option Addr) (c0 : Nat) (l0 : List (S41)) (r1 : Int) (r2 : Int) (w : World) (hr0 : Kd.C k41 w A0 l0.length l0) (hc0 : l0.length ≤ c0) (h : bz.f k l0 = some (r1, r2)) :
 Calls Try.prog 10 #[.slice A0 l0.length c0] w fun e w' => e = .returned (.tuple #[.int .i64 r1, .int .i64 r2]) ∧ Below w.heap.size w w' := by
 have hu41 := Try.underlying41
 have HR0 := Aside0.mk hr0
 have HC0 := Aside0.mk hc0
 clear hr0 hc0
 have HB := Aside0.mk (Below.refl w.heap.size w)
 have H := h
 clear h
 unfold bz.f at H
 revert H
 refine dX (fun c2 H => ?_) fun c2 H => ?_
 ·have c2b0 : decide (2000 < (l0.length : Int)) = true := decide_eq_true c2
  have c2b1 : decide (2000 < l0.length) = true := decide_eq_true (by omega)
  clear c2
  simp only [Option.some.injEq, Prod.mk.injEq] at H
  obtain ⟨rfl, rfl⟩ := H
  go_enter Try.func10, Try.ntmps10
  go_wp2
  go_ret2
  exact ⟨Z4, Z3⟩
 have c2b0 : decide (2000 < (l0.length : Int)) = false := decide_eq_false c2
 have c2b1 : decide (2000 < l0.length) = false := decide_eq_false (by omega)
 clear c2
 have HC3 := Aside0.mk H
 clear H
 go_enter Try.func10, Try.ntmps10
 go_upto_region 3 with (fail)
 go_cut [13] (fun v13 wc => ∃ (kq : Nat) (x13_2 : Bool), v13 = .bool x13_2 ∧ Aside0 (bz.j0 kq l0 x13_2 = some (r1, r2)) ∧ Aside0 (kq ≤ k) ∧ Aside0 (Below w.heap.size w wc))
 case first =>
  have H := HC3.out
  clear HC3
  revert H
  refine aJ (fun c4b0 c4b1 H => ?_) fun c4 c4b0 c4b1 H => ?_
  ·(first | rw [c4b0] | (simp only [dE, dM]; rw [c4b0]) | skip)
   have H' := Aside0.mk H
   clear H
   go_wp2
   go_meet
   case rel => exact ⟨_, (true), Z6, H', ⟨Z38⟩, ⟨Z3⟩⟩
  have c4b2 : ¬ (l0 = []) := fun h_ => c4 (by rw [h_]; rfl)
  (first | rw [c4b0] | (simp only [dE, dM]; rw [c4b0]) | skip)
  revert H
  refine yB1 fun t164 A5 H => ?_
  have H' := Aside0.mk H
  clear H
  go_wp2_with (first | (go_at_call 17; (with_reducible refine (bM.calls k _ _ l0 0 t164 _ ?side1 ?side2 A5.out).mono ?_); (case side1 => exact Z46); (case side2 => exact HC0.out); rintro e w' ⟨rfl, ⟨nd, rfl⟩⟩))
  go_meet
  case rel => exact ⟨_, ((t164 != (l0.length : Int))), Z6, H', ⟨Z38⟩, ⟨Z3⟩⟩
 case rest =>
  clear HC3
  try clear c1
  try clear c2
  try clear c2b0
  try clear c2b1
  try clear p2
  try clear c4
  try clear c4b0
  try clear c4b1
  try clear c4b2
  obtain ⟨kq, x13_2, rfl, HA, HJ2, HB⟩ := hcut
  cases kq with
  | zero => exact absurd HA.out (by simp [bz.j0])
  | succ kj2 =>
   have H := HA.out
   clear HA
   simp only [bz.j0] at H
   cases x13_2
   rotate_left
   ·replace H := yT H
    simp only [Option.some.injEq, Prod.mk.injEq] at H
    obtain ⟨rfl, rfl⟩ := H
    go_wp2
    go_ret2
    exact ⟨Z4, Z3⟩
   replace H := yF H
   revert H
   refine yB1 fun t165 A7 H => ?_
   revert H
   refine dX (fun c8 H => ?_) fun c8 H => ?_
   ·have c8b0 : decide (60 < t165) = true := decide_eq_true c8
    clear c8
    simp only [Option.some.injEq, Prod.mk.injEq] at H
    obtain ⟨rfl, rfl⟩ := H
    go_wp2_with (first | ((with_reducible refine gC 18 rfl ?_); refine gM 18 26 rfl Try.func18 (bF.calls kj2 _ _ l0 t165 _ Z46 HC0.out A7.out) ?_; rintro _ w9 ⟨rfl, hb⟩; refine ⟨_, rfl, yA1 (below_step Z3 hb) ?_⟩; clear HB hb; intro HB))
    go_ret2
    exact ⟨Z4, Z3⟩
   have c8b0 : decide (60 < t165) = false := decide_eq_false c8
   clear c8
   revert H
   refine jX (fun c10 c10b0 H => ?_) fun c10 H => ?_
   ·have c10b1 : decide (0 < l0.length) = true := decide_eq_true (by omega)
    clear c10
    revert H
    refine aJ (fun c11b0 c11b1 H => ?_) fun c11 c11b0 c11b1 H => ?_
    ·have H' := Aside0.mk H
     clear H
     go_wp2_with (first | ((with_reducible refine gC 18 rfl ?_); refine gM 18 26 rfl Try.func18 (bF.calls kj2 _ _ l0 t165 _ Z46 HC0.out A7.out) ?_; rintro _ w12 ⟨rfl, hb⟩; refine ⟨_, rfl, yA1 (below_step Z3 hb) ?_⟩; clear HB hb; intro HB; have p166 : 0 ≤ (0 : Int) := (by omega); have q166 : 0 < (l0.length : Int) := of_decide_eq_true Z5; obtain ⟨ad166, e166, hx166_0, hx166_1, hx166_2, hx166_3, hx166_4⟩ := gJ HR0.out 0 p166 q166; cases e166; have qi166 : (0 < l0.length) = True := eq_true (by omega); (try rw [show ((0 : Int)).toNat = 0 from rfl] at hx166_0); (try rw [show 0 * 5 = 0 from rfl] at hx166_0); (try rw [Addr.add_zero'] at hx166_0); (try rw [show ((0 : Int)).toNat = 0 from rfl] at hx166_1); (try rw [show 0 * 5 = 0 from rfl] at hx166_1); (try rw [Addr.add_zero'] at hx166_1); (try rw [show ((0 : Int)).toNat = 0 from rfl] at hx166_2); (try rw [show 0 * 5 = 0 from rfl] at hx166_2); (try rw [Addr.add_zero'] at hx166_2); (try rw [show ((0 : Int)).toNat = 0 from rfl] at hx166_3); (try rw [show 0 * 5 = 0 from rfl] at hx166_3); (try rw [Addr.add_zero'] at hx166_3); (try rw [show ((0 : Int)).toNat = 0 from rfl] at hx166_4); (try rw [show 0 * 5 = 0 from rfl] at hx166_4); (try rw [Addr.add_zero'] at hx166_4); replace hx166_0 := (HB.out.cell (World.block_lt_of_cell? w _ hx166_0)).trans hx166_0; replace hx166_1 := (HB.out.cell (World.block_lt_of_cell? w _ hx166_1)).trans hx166_1; replace hx166_2 := (HB.out.cell (World.block_lt_of_cell? w _ hx166_2)).trans hx166_2; replace hx166_3 := (HB.out.cell (World.block_lt_of_cell? w _ hx166_3)).trans hx166_3; replace hx166_4 := (HB.out.cell (World.block_lt_of_cell? w _ hx166_4)).trans hx166_4; replace p166 := eq_true p166; replace q166 := eq_true q166))
     go_loopg [36] kj2 (fun kq v36 w' => ∃ (x36_2 : Int), v36 = .int .i64 x36_2 ∧ Aside0 (bz.l0 kq l0 l0 (l0.length : Int) x36_2 = some (r1, r2)) ∧ Aside0 (kq ≤ kj2) ∧ Aside0 (Below w.heap.size w w'))
     case atStart => exact ⟨(0), Z6, H', ⟨Nat.le_refl _⟩, ⟨Z3⟩⟩
     case round =>
      clear H'
      try clear c1
      try clear p1
      try clear q1
      try clear hx1
      try clear qi1
      try clear c2
      try clear c2b0
      try clear c2b1
      try clear p2
      try clear c4
      try clear c4b0
      try clear c4b1
      try clear c4b2
      try clear c6
      try clear c8
      try clear c8b0
      try clear c10
      try clear c10b0
      try clear c10b1
      try clear c11
      try clear c11b0
      try clear c11b1
      try clear hx166_0
      try clear hx166_1
      try clear hx166_2
      try clear hx166_3
      try clear hx166_4
      try clear p166
      try clear p2
      try clear q166
      obtain ⟨x36_2, rfl, HA, HK2, HB⟩ := hrel
      cases gk with
      | zero => exact absurd HA.out (by simp [bz.l0])
      | succ k2 =>
       have H := HA.out
       clear HA
       simp only [bz.l0] at H
       revert H
       refine fO (fun c13b0 H => ?_) fun c13b0 H => ?_
       ·revert H
        refine eQ (fun c14b0 H => ?_) fun c14 H => ?_
        ·revert H
         refine eQ (fun c15b0 H => ?_) fun c15 H => ?_
         ·revert H
          refine yB1 fun t169 A16 H => ?_
          have H' := Aside0.mk H
          clear H
          have p167 : 0 ≤ (x36_2 : Int) := of_decide_eq_true Z5
          have q167 : x36_2 < (l0.length : Int) := of_decide_eq_true Z5
          obtain ⟨ad167, e167, hx167_0, hx167_1, hx167_2, hx167_3, hx167_4⟩ := gJ HR0.out x36_2 p167 q167
          obtain rfl : ad166 = ad167 := (by injection e167)
          replace hx167_0 := (HB.out.cell (World.block_lt_of_cell? w _ hx167_0)).trans hx167_0
          replace hx167_1 := (HB.out.cell (World.block_lt_of_cell? w _ hx167_1)).trans hx167_1
          replace hx167_2 := (HB.out.cell (World.block_lt_of_cell? w _ hx167_2)).trans hx167_2
          replace hx167_3 := (HB.out.cell (World.block_lt_of_cell? w _ hx167_3)).trans hx167_3
          replace hx167_4 := (HB.out.cell (World.block_lt_of_cell? w _ hx167_4)).trans hx167_4
          replace p167 := eq_true p167
          replace q167 := eq_true q167
          go_wp2_with (first | ((with_reducible refine bJ (N := 5) rfl ?_); (try (refine lC (by rfl) ?_; dsimp only)); refine bU ?hg (N := 5) ?hd (cs := #[.int .i64 0, .int .i64 0, .string (⟨#[]⟩ : ByteArray), .int .i64 0, .string (⟨#[]⟩ : ByteArray)]) (t := 41) ?hr ?_; (case hd => rfl); (case hg => rfl); (case hr => first | (go_simp; done) | (go_simp; rfl)); intro gb168 hg w17 hbox hb; refine yA4 (below_step Z3 hb) (hbox) ((by rw [hg]; exact (below_size Z3) : w.heap.size ≤ gb168)) ((by rw [hg]; exact (below_size Z3) : w.heap.size ≤ gb168)) ?_; clear HB; intro HB BK168 GW168 GE168; clear hb hbox hg; have hcz18_0 : w17.cell? ⟨gb168, 0, none⟩ = some (.int .i64 0) := (af BK168.out 0).trans rfl; have hcz18_1 : w17.cell? ⟨gb168, 1, none⟩ = some (.int .i64 0) := (af BK168.out 1).trans rfl; have hcz18_2 : w17.cell? ⟨gb168, 2, none⟩ = some (.string (⟨#[]⟩ : ByteArray)) := (af BK168.out 2).trans rfl; have hcz18_3 : w17.cell? ⟨gb168, 3, none⟩ = some (.int .i64 0) := (af BK168.out 3).trans rfl; have hcz18_4 : w17.cell? ⟨gb168, 4, none⟩ = some (.string (⟨#[]⟩ : ByteArray)) := (af BK168.out 4).trans rfl; have hfz18_0 := ae BK168.out 0; have hfz18_1 := ae BK168.out 1; have hfz18_2 := ae BK168.out 2; have hfz18_3 := ae BK168.out 3; have hfz18_4 := ae BK168.out 4) | ((with_reducible refine gC 19 rfl ?_); refine gM 19 43 rfl Try.func19 (df.calls k2 _ _ l0 x36_2 t169 _ (Kd.C_below HR0.out Z23) HC0.out A16.out) ?_; rintro _ w19 ⟨v170, rfl, ho0, hb⟩; refine ⟨_, rfl, yA3 (Kd.R_lower ho0 (below_size Z23)) (bV (g := gb168) (o := .cells #[.int .i64 ((rd_T41 l0 x36_2).f0), .int .i64 ((rd_T41 l0 x36_2).f1), .string ((rd_T41 l0 x36_2).f2), .int .i64 ((rd_T41 l0 x36_2).f3), .string ((rd_T41 l0 x36_2).f4)] 41 (0, 0)) (by refine aA (cs := #[.int .i64 ((rd_T41 l0 x36_2).f0), .int .i64 ((rd_T41 l0 x36_2).f1), .string ((rd_T41 l0 x36_2).f2), .int .i64 ((rd_T41 l0 x36_2).f3), .string (⟨#[]⟩ : ByteArray)]) ?_ 4 _ rfl; refine aA (cs := #[.int .i64 ((rd_T41 l0 x36_2).f0), .int .i64 ((rd_T41 l0 x36_2).f1), .string ((rd_T41 l0 x36_2).f2), .int .i64 0, .string (⟨#[]⟩ : ByteArray)]) ?_ 3 _ rfl; refine aA (cs := #[.int .i64 ((rd_T41 l0 x36_2).f0), .int .i64 ((rd_T41 l0 x36_2).f1), .string (⟨#[]⟩ : ByteArray), .int .i64 0, .string (⟨#[]⟩ : ByteArray)]) ?_ 2 _ rfl; refine aA (cs := #[.int .i64 ((rd_T41 l0 x36_2).f0), .int .i64 0, .string (⟨#[]⟩ : ByteArray), .int .i64 0, .string (⟨#[]⟩ : ByteArray)]) ?_ 1 _ rfl; refine aA (cs := #[.int .i64 0, .int .i64 0, .string (⟨#[]⟩ : ByteArray), .int .i64 0, .string (⟨#[]⟩ : ByteArray)]) ?_ 0 _ rfl; exact BK168.out) hb) (below_step Z23 hb) ?_⟩; clear BK168 HB hb ho0; intro HO171 BK168 HB; obtain ⟨Ao20, co20, rfl⟩ := Kd.R_slice HO171.out))
          go_loopg [6, 45] k2 (fun kq v6 v45 w' => ∃ (x6_3 : List Int) (x45_3 : Int), v45 = .int .i64 x45_3 ∧ Aside0 (bz.l1 kq l0 x36_2 x6_3 l0 (l0.length : Int) x36_2 t169 (t169.length : Int) x45_3 ((rd_T41 l0 x36_2).f0) ((rd_T41 l0 x36_2).f1) ((rd_T41 l0 x36_2).f2) ((rd_T41 l0 x36_2).f3) ((rd_T41 l0 x36_2).f4) = some (r1, r2)) ∧ Aside0 (kq ≤ k2) ∧ Aside0 (Kd.R (Kd.int .i64) 3 w' w.heap.size (fun k_ => some k_ ≠ ((.slice Ao20 t169.length co20) : Value).ownBlock) v6 x6_3) ∧ Aside0 (Kd.R (Kd.int .i64) 3 w' w.heap.size (fun k_ => some k_ ≠ (v6 : Value).ownBlock) (.slice Ao20 t169.length co20) t169) ∧ Aside0 (w'.heap[gb168]? = some (.cells #[.int .i64 ((rd_T41 l0 x36_2).f0), .int .i64 ((rd_T41 l0 x36_2).f1), .string ((rd_T41 l0 x36_2).f2), .int .i64 ((rd_T41 l0 x36_2).f3), .string ((rd_T41 l0 x36_2).f4)] 41 (0, 0))) ∧ Aside0 (Below w.heap.size w w'))
          case atStart => exact ⟨(([] : List Int)), (0), Z6, H', ⟨Nat.le_refl _⟩, ⟨Z24⟩, ⟨by (with_reducible repeat (first | apply Kd.R_alloc | apply Kd.R_drewN | apply Kd.R_drew)); exact Kd.bn HO171.out (fun _ hk => (by simp [Value.ownBlock]))⟩, ⟨by exact BK168.out⟩, ⟨Z23⟩⟩
          case round =>
           clear H'
           try clear c1
           try clear p1
           try clear q1
           try clear hx1
           try clear qi1
           try clear c2
           try clear c2b0
           try clear c2b1
           try clear p2
           try clear c4
           try clear c4b0
           try clear c4b1
           try clear c4b2
           try clear c6
           try clear c8
           try clear c8b0
           try clear c10
           try clear c10b0
           try clear c10b1
           try clear c11
           try clear c11b0
           try clear c11b1
           try clear c13
           try clear c13b0
           try clear c14
           try clear c14b0
           try clear c15
           try clear c15b0
           try clear p16
           try clear q16
           try clear hx16
           try clear qi16
           try clear c18
           try clear c19
           try clear hcz18_0
           try clear hcz18_1
           try clear hcz18_2
           try clear hcz18_3
           try clear hcz18_4
           try clear hfz18_0
           try clear hfz18_1
           try clear hfz18_2
           try clear hfz18_3
           try clear hfz18_4
           try clear hx166_0
           try clear hx166_1
           try clear hx166_2
           try clear hx166_3
           try clear hx166_4
           try clear hx167_0
           try clear hx167_1
           try clear hx167_2
           try clear hx167_3
           try clear hx167_4
           try clear p1
           try clear p166
           try clear p167
           try clear p2
           try clear q1
           try clear q166
           try clear q167
           obtain ⟨x6_3, x45_3, rfl, HA, HK3, HO_6, HO_43, BK168, HB⟩ := hrel
           cases gk with
           | zero => exact absurd HA.out (by simp [bz.l1])
           | succ k3 =>
            have H := HA.out
            clear HA
            simp only [bz.l1] at H
            revert H
            refine fO (fun c21b0 H => ?_) fun c21b0 H => ?_
            ·revert H
             refine eQ (fun c22b0 H => ?_) fun c22 H => ?_
             ·revert H
              refine eQ (fun c23b0 H => ?_) fun c23 H => ?_
              ·revert H
               refine eQ (fun c24b0 H => ?_) fun c24 H => ?_
               ·revert H
                refine eQ (fun c25b0 H => ?_) fun c25 H => ?_
                ·revert H
                 refine dX (fun c26 H => ?_) fun c26 H => ?_
                 ·have LMc26 := Aside0.mk c26
                  clear c26
                  obtain ⟨y174, hy174⟩ : ∃ y_ : List Int, y_ = (x6_3 ++ [(rd_T41 l0 (rd t169 x45_3)).f0]) := ⟨_, rfl⟩
                  replace H : (bz.l1 k3 l0 x36_2 y174 l0 (l0.length : Int) x36_2 t169 (t169.length : Int) (wrap64 (x45_3 + 1)) ((rd_T41 l0 x36_2).f0) ((rd_T41 l0 x36_2).f1) ((rd_T41 l0 x36_2).f2) ((rd_T41 l0 x36_2).f3) ((rd_T41 l0 x36_2).f4)) = some (r1, r2) := by first | (rw [hy174]; with_reducible exact H) | (have H2_ := (Option.bind_some _ _).symm.trans H; rw [hy174]; with_reducible exact H2_) | (have H2_ := (Option.bind_some _ _).symm.trans H; with_reducible exact H2_) | with_reducible exact H | (rw [hy174]; exact H) | exact H
                  have Ny174 := Aside0.mk hy174
                  clear hy174
                  have H' := Aside0.mk H
                  clear H
                  have p172 : 0 ≤ (x45_3 : Int) := of_decide_eq_true Z5
                  have q172 : x45_3 < (t169.length : Int) := of_decide_eq_true Z5
                  obtain ⟨ad172, e172, hx172_0⟩ := Kd.jF (Kd.R_reads' HO_43.out).2.2 x45_3 p172 q172
                  cases e172
                  replace p172 := eq_true p172
                  replace q172 := eq_true q172
                  have p173 : 0 ≤ ((rd t169 x45_3) : Int) := of_decide_eq_true Z5
                  have q173 : (rd t169 x45_3) < (l0.length : Int) := of_decide_eq_true Z5
                  obtain ⟨ad173, e173, hx173_0, hx173_1, hx173_2, hx173_3, hx173_4⟩ := gJ HR0.out (rd t169 x45_3) p173 q173
                  obtain rfl : ad166 = ad173 := (by injection e173)
                  replace hx173_0 := (HB.out.cell (World.block_lt_of_cell? w _ hx173_0)).trans hx173_0
                  replace hx173_1 := (HB.out.cell (World.block_lt_of_cell? w _ hx173_1)).trans hx173_1
                  replace hx173_2 := (HB.out.cell (World.block_lt_of_cell? w _ hx173_2)).trans hx173_2
                  replace hx173_3 := (HB.out.cell (World.block_lt_of_cell? w _ hx173_3)).trans hx173_3
                  replace hx173_4 := (HB.out.cell (World.block_lt_of_cell? w _ hx173_4)).trans hx173_4
                  replace p173 := eq_true p173
                  replace q173 := eq_true q173
                  go_wp2_with (first | ((with_reducible refine dB (b := .append) (xs := #[.tmp 49, .tmp 55]) rfl ?_); (try (refine lC (by rfl) ?_; dsimp only)); at_builtin; refine Kd.iP (Kd.int .i64) (w0 := w) w.heap.size rfl (.tmp 49) (.tmp 55) 46 3 (.int .i64 0) 8 rfl Try.underlying46 info3 rfl (by decide) (by omega) u6 x6_3 ((rd_T41 l0 (rd t169 x45_3)).f0) [.int .i64 ((rd_T41 l0 (rd t169 x45_3)).f0)] (fun k_ => some k_ ≠ (.slice (some ad172) t169.length co20 : Value).ownBlock) (fun _ => False) rfl rfl ?aP (fun _ hk => hk.elim) ?aF ?aO ?aB ?aS ?aL ?_; (case aP => exact rfl); (case aB => exact Z23); (case aF => exact (fun k_ hk => Kd.fresh' (Kd.R_lt Z65) k_ hk)); (case aO => exact Z27); (case aS => exact (below_size Z23)); (case aL => have := LMc26.out; omega); intro v175 w27 ho hb hg hat; rw [← Ny174.out] at ho; refine yA4 (Kd.GU (ok := (fun _ => True)) (by (with_reducible repeat (first | apply Kd.R_alloc | apply Kd.R_drewN | apply Kd.R_drew)); exact Kd.bn HO_43.out (fun _ hk => ⟨trivial, hk⟩)) hg hat) (jd (g := gb168) (o := .cells #[.int .i64 ((rd_T41 l0 x36_2).f0), .int .i64 ((rd_T41 l0 x36_2).f1), .string ((rd_T41 l0 x36_2).f2), .int .i64 ((rd_T41 l0 x36_2).f3), .string ((rd_T41 l0 x36_2).f4)] 41 (0, 0)) (by exact BK168.out) hg (Kd.Dh HO_6.out BK168.out (by decide))) (hb) (ho) ?_; clear HO_43 BK168 HB HO_6; intro HO_43 BK168 HB HO176; clear ho hb hg hat))
                  go_roundg k3
                  case measure => have := HJ2.out; have := HK2.out; have := HK3.out; omega
                  case rel => exact ⟨(y174), (wrap64 (x45_3 + 1)), Z6, H', ⟨by have := HJ2.out; have := HK2.out; have := HK3.out; omega⟩, ⟨by (with_reducible repeat (first | apply Kd.R_alloc | apply Kd.R_drewN | apply Kd.R_drew)); exact HO176.out⟩, ⟨by (with_reducible repeat (first | apply Kd.R_alloc | apply Kd.R_drewN | apply Kd.R_drew)); exact Kd.bn HO_43.out (fun _ hk => hk.2)⟩, ⟨by exact BK168.out⟩, ⟨Z23⟩⟩
                 exact absurd H (by simp)
                exact absurd H (by simp)
               exact absurd H (by simp)
              exact absurd H (by simp)
             exact absurd H (by simp)
            revert H
            refine yB1 fun t177 A28 H => ?_
            cases t177
            rotate_left
            ·replace H := yT H
             revert H
             refine yB1 fun t178 A30 H => ?_
             cases t178
             rotate_left
             ·replace H := yT H
              have H' := Aside0.mk H
              clear H
              have hcz32_0 : wr.cell? ⟨gb168, 0, none⟩ = some (.int .i64 ((rd_T41 l0 x36_2).f0)) := (af BK168.out 0).trans rfl
              have hcz32_1 : wr.cell? ⟨gb168, 1, none⟩ = some (.int .i64 ((rd_T41 l0 x36_2).f1)) := (af BK168.out 1).trans rfl
              have hcz32_2 : wr.cell? ⟨gb168, 2, none⟩ = some (.string ((rd_T41 l0 x36_2).f2)) := (af BK168.out 2).trans rfl
              have hcz32_3 : wr.cell? ⟨gb168, 3, none⟩ = some (.int .i64 ((rd_T41 l0 x36_2).f3)) := (af BK168.out 3).trans rfl
              have hcz32_4 : wr.cell? ⟨gb168, 4, none⟩ = some (.string ((rd_T41 l0 x36_2).f4)) := (af BK168.out 4).trans rfl
              have hfz32_0 := ae BK168.out 0
              have hfz32_1 := ae BK168.out 1
              have hfz32_2 := ae BK168.out 2
              have hfz32_3 := ae BK168.out 3
              have hfz32_4 := ae BK168.out 4
              go_wp2_with (first | ((with_reducible refine gC 20 rfl ?_); refine gM 20 59 rfl Try.func20 (bH.calls k3 ((rd_T41 l0 x36_2).f0) ((rd_T41 l0 x36_2).f1) ((rd_T41 l0 x36_2).f2) ((rd_T41 l0 x36_2).f3) ((rd_T41 l0 x36_2).f4) true _ A28.out) ?_; rintro _ w33 ⟨rfl, hb⟩; refine ⟨_, rfl, yA4 (Kd.R_below Z27 hb) (Kd.R_below Z65 hb) (bV (g := gb168) (o := .cells #[.int .i64 ((rd_T41 l0 x36_2).f0), .int .i64 ((rd_T41 l0 x36_2).f1), .string ((rd_T41 l0 x36_2).f2), .int .i64 ((rd_T41 l0 x36_2).f3), .string ((rd_T41 l0 x36_2).f4)] 41 (0, 0)) (by exact BK168.out) hb) (below_step Z23 hb) ?_⟩; clear HO_6 HO_43 BK168 HB hb; intro HO_6 HO_43 BK168 HB; have hcz34_0 : w33.cell? ⟨gb168, 0, none⟩ = some (.int .i64 ((rd_T41 l0 x36_2).f0)) := (af BK168.out 0).trans rfl; have hcz34_1 : w33.cell? ⟨gb168, 1, none⟩ = some (.int .i64 ((rd_T41 l0 x36_2).f1)) := (af BK168.out 1).trans rfl; have hcz34_2 : w33.cell? ⟨gb168, 2, none⟩ = some (.string ((rd_T41 l0 x36_2).f2)) := (af BK168.out 2).trans rfl; have hcz34_3 : w33.cell? ⟨gb168, 3, none⟩ = some (.int .i64 ((rd_T41 l0 x36_2).f3)) := (af BK168.out 3).trans rfl; have hcz34_4 : w33.cell? ⟨gb168, 4, none⟩ = some (.string ((rd_T41 l0 x36_2).f4)) := (af BK168.out 4).trans rfl; have hfz34_0 := ae BK168.out 0; have hfz34_1 := ae BK168.out 1; have hfz34_2 := ae BK168.out 2; have hfz34_3 := ae BK168.out 3; have hfz34_4 := ae BK168.out 4; obtain ⟨Ao35, co35, rfl⟩ := Kd.R_slice HO_6.out) | (go_at_call 21; (with_reducible refine (aW.calls k3 ((rd_T41 l0 x36_2).f0) _ _ x6_3 true _ ?side1 ?side2 A30.out).mono ?_); (case side1 => exact Z68); (case side2 => exact (Kd.R_reads' HO_6.out).2.1); rintro e w36 ⟨rfl, hb⟩; refine yA4 (Kd.R_below Z27 hb) (Kd.R_below Z65 hb) (bV (g := gb168) (o := .cells #[.int .i64 ((rd_T41 l0 x36_2).f0), .int .i64 ((rd_T41 l0 x36_2).f1), .string ((rd_T41 l0 x36_2).f2), .int .i64 ((rd_T41 l0 x36_2).f3), .string ((rd_T41 l0 x36_2).f4)] 41 (0, 0)) (by exact BK168.out) hb) (below_step Z23 hb) ?_; clear HO_6 HO_43 BK168 HB; intro HO_6 HO_43 BK168 HB; (try clear hb)))
              go_roundg k3
              case measure => have := HJ2.out; have := HK2.out; have := HK3.out; omega
              case rel => exact ⟨(wrap64 (x36_2 + 1)), Z6, H', ⟨by have := HJ2.out; have := HK2.out; have := HK3.out; omega⟩, ⟨Z23⟩⟩
             replace H := yF H
             simp only [Option.some.injEq, Prod.mk.injEq] at H
             obtain ⟨rfl, rfl⟩ := H
             have hcz37_0 : wr.cell? ⟨gb168, 0, none⟩ = some (.int .i64 ((rd_T41 l0 x36_2).f0)) := (af BK168.out 0).trans rfl
             have hcz37_1 : wr.cell? ⟨gb168, 1, none⟩ = some (.int .i64 ((rd_T41 l0 x36_2).f1)) := (af BK168.out 1).trans rfl
             have hcz37_2 : wr.cell? ⟨gb168, 2, none⟩ = some (.string ((rd_T41 l0 x36_2).f2)) := (af BK168.out 2).trans rfl
             have hcz37_3 : wr.cell? ⟨gb168, 3, none⟩ = some (.int .i64 ((rd_T41 l0 x36_2).f3)) := (af BK168.out 3).trans rfl
             have hcz37_4 : wr.cell? ⟨gb168, 4, none⟩ = some (.string ((rd_T41 l0 x36_2).f4)) := (af BK168.out 4).trans rfl
             have hfz37_0 := ae BK168.out 0
             have hfz37_1 := ae BK168.out 1
             have hfz37_2 := ae BK168.out 2
             have hfz37_3 := ae BK168.out 3
             have hfz37_4 := ae BK168.out 4
             go_wp2_with (first | ((with_reducible refine gC 20 rfl ?_); refine gM 20 59 rfl Try.func20 (bH.calls k3 ((rd_T41 l0 x36_2).f0) ((rd_T41 l0 x36_2).f1) ((rd_T41 l0 x36_2).f2) ((rd_T41 l0 x36_2).f3) ((rd_T41 l0 x36_2).f4) true _ A28.out) ?_; rintro _ w38 ⟨rfl, hb⟩; refine ⟨_, rfl, yA4 (Kd.R_below Z27 hb) (Kd.R_below Z65 hb) (bV (g := gb168) (o := .cells #[.int .i64 ((rd_T41 l0 x36_2).f0), .int .i64 ((rd_T41 l0 x36_2).f1), .string ((rd_T41 l0 x36_2).f2), .int .i64 ((rd_T41 l0 x36_2).f3), .string ((rd_T41 l0 x36_2).f4)] 41 (0, 0)) (by exact BK168.out) hb) (below_step Z23 hb) ?_⟩; clear HO_6 HO_43 BK168 HB hb; intro HO_6 HO_43 BK168 HB; have hcz39_0 : w38.cell? ⟨gb168, 0, none⟩ = some (.int .i64 ((rd_T41 l0 x36_2).f0)) := (af BK168.out 0).trans rfl; have hcz39_1 : w38.cell? ⟨gb168, 1, none⟩ = some (.int .i64 ((rd_T41 l0 x36_2).f1)) := (af BK168.out 1).trans rfl; have hcz39_2 : w38.cell? ⟨gb168, 2, none⟩ = some (.string ((rd_T41 l0 x36_2).f2)) := (af BK168.out 2).trans rfl; have hcz39_3 : w38.cell? ⟨gb168, 3, none⟩ = some (.int .i64 ((rd_T41 l0 x36_2).f3)) := (af BK168.out 3).trans rfl; have hcz39_4 : w38.cell? ⟨gb168, 4, none⟩ = some (.string ((rd_T41 l0 x36_2).f4)) := (af BK168.out 4).trans rfl; have hfz39_0 := ae BK168.out 0; have hfz39_1 := ae BK168.out 1; have hfz39_2 := ae BK168.out 2; have hfz39_3 := ae BK168.out 3; have hfz39_4 := ae BK168.out 4; obtain ⟨Ao40, co40, rfl⟩ := Kd.R_slice HO_6.out) | (go_at_call 21; (with_reducible refine (aW.calls k3 ((rd_T41 l0 x36_2).f0) _ _ x6_3 false _ ?side1 ?side2 A30.out).mono ?_); (case side1 => exact Z68); (case side2 => exact (Kd.R_reads' HO_6.out).2.1); rintro e w41 ⟨rfl, hb⟩; refine yA4 (Kd.R_below Z27 hb) (Kd.R_below Z65 hb) (bV (g := gb168) (o := .cells #[.int .i64 ((rd_T41 l0 x36_2).f0), .int .i64 ((rd_T41 l0 x36_2).f1), .string ((rd_T41 l0 x36_2).f2), .int .i64 ((rd_T41 l0 x36_2).f3), .string ((rd_T41 l0 x36_2).f4)] 41 (0, 0)) (by exact BK168.out) hb) (below_step Z23 hb) ?_; clear HO_6 HO_43 BK168 HB; intro HO_6 HO_43 BK168 HB; (try clear hb)))
             go_ret2
             exact ⟨Z4, Z23⟩
            replace H := yF H
            simp only [Option.some.injEq, Prod.mk.injEq] at H
            obtain ⟨rfl, rfl⟩ := H
            have hcz42_0 : wr.cell? ⟨gb168, 0, none⟩ = some (.int .i64 ((rd_T41 l0 x36_2).f0)) := (af BK168.out 0).trans rfl
            have hcz42_1 : wr.cell? ⟨gb168, 1, none⟩ = some (.int .i64 ((rd_T41 l0 x36_2).f1)) := (af BK168.out 1).trans rfl
            have hcz42_2 : wr.cell? ⟨gb168, 2, none⟩ = some (.string ((rd_T41 l0 x36_2).f2)) := (af BK168.out 2).trans rfl
            have hcz42_3 : wr.cell? ⟨gb168, 3, none⟩ = some (.int .i64 ((rd_T41 l0 x36_2).f3)) := (af BK168.out 3).trans rfl
            have hcz42_4 : wr.cell? ⟨gb168, 4, none⟩ = some (.string ((rd_T41 l0 x36_2).f4)) := (af BK168.out 4).trans rfl
            have hfz42_0 := ae BK168.out 0
            have hfz42_1 := ae BK168.out 1
            have hfz42_2 := ae BK168.out 2
            have hfz42_3 := ae BK168.out 3
            have hfz42_4 := ae BK168.out 4
            go_wp2_with (first | ((with_reducible refine gC 20 rfl ?_); refine gM 20 59 rfl Try.func20 (bH.calls k3 ((rd_T41 l0 x36_2).f0) ((rd_T41 l0 x36_2).f1) ((rd_T41 l0 x36_2).f2) ((rd_T41 l0 x36_2).f3) ((rd_T41 l0 x36_2).f4) false _ A28.out) ?_; rintro _ w43 ⟨rfl, hb⟩; refine ⟨_, rfl, yA4 (Kd.R_below Z27 hb) (Kd.R_below Z65 hb) (bV (g := gb168) (o := .cells #[.int .i64 ((rd_T41 l0 x36_2).f0), .int .i64 ((rd_T41 l0 x36_2).f1), .string ((rd_T41 l0 x36_2).f2), .int .i64 ((rd_T41 l0 x36_2).f3), .string ((rd_T41 l0 x36_2).f4)] 41 (0, 0)) (by exact BK168.out) hb) (below_step Z23 hb) ?_⟩; clear HO_6 HO_43 BK168 HB hb; intro HO_6 HO_43 BK168 HB))
            go_ret2
            exact ⟨Z4, Z23⟩
         exact absurd H (by simp)
        exact absurd H (by simp)
       simp only [Option.some.injEq, Prod.mk.injEq] at H
       obtain ⟨rfl, rfl⟩ := H
       go_wp2
       go_ret2
       exact ⟨Z4, Z3⟩
    simp only [Option.some.injEq, Prod.mk.injEq] at H
    obtain ⟨rfl, rfl⟩ := H
    go_wp2_with (first | ((with_reducible refine gC 18 rfl ?_); refine gM 18 26 rfl Try.func18 (bF.calls kj2 _ _ l0 t165 _ Z46 HC0.out A7.out) ?_; rintro _ w44 ⟨rfl, hb⟩; refine ⟨_, rfl, yA1 (below_step Z3 hb) ?_⟩; clear HB hb; intro HB; have p166 : 0 ≤ (0 : Int) := (by omega); have q166 : 0 < (l0.length : Int) := of_decide_eq_true Z5; obtain ⟨ad166, e166, hx166_0, hx166_1, hx166_2, hx166_3, hx166_4⟩ := gJ HR0.out 0 p166 q166; cases e166; have qi166 : (0 < l0.length) = True := eq_true (by omega); (try rw [show ((0 : Int)).toNat = 0 from rfl] at hx166_0); (try rw [show 0 * 5 = 0 from rfl] at hx166_0); (try rw [Addr.add_zero'] at hx166_0); (try rw [show ((0 : Int)).toNat = 0 from rfl] at hx166_1); (try rw [show 0 * 5 = 0 from rfl] at hx166_1); (try rw [Addr.add_zero'] at hx166_1); (try rw [show ((0 : Int)).toNat = 0 from rfl] at hx166_2); (try rw [show 0 * 5 = 0 from rfl] at hx166_2); (try rw [Addr.add_zero'] at hx166_2); (try rw [show ((0 : Int)).toNat = 0 from rfl] at hx166_3); (try rw [show 0 * 5 = 0 from rfl] at hx166_3); (try rw [Addr.add_zero'] at hx166_3); (try rw [show ((0 : Int)).toNat = 0 from rfl] at hx166_4); (try rw [show 0 * 5 = 0 from rfl] at hx166_4); (try rw [Addr.add_zero'] at hx166_4); replace hx166_0 := (HB.out.cell (World.block_lt_of_cell? w _ hx166_0)).trans hx166_0; replace hx166_1 := (HB.out.cell (World.block_lt_of_cell? w _ hx166_1)).trans hx166_1; replace hx166_2 := (HB.out.cell (World.block_lt_of_cell? w _ hx166_2)).trans hx166_2; replace hx166_3 := (HB.out.cell (World.block_lt_of_cell? w _ hx166_3)).trans hx166_3; replace hx166_4 := (HB.out.cell (World.block_lt_of_cell? w _ hx166_4)).trans hx166_4; replace p166 := eq_true p166; replace q166 := eq_true q166))
    go_ret2
    exact ⟨Z4, Z3⟩
   exact absurd H (by simp)
end Go.Proofs.Ytendgafpkeadhaa.Q
end
section
set_option linter.unusedVariables false
set_option linter.unusedSimpArgs false
namespace Go.Proofs.Ytendgafpkeadhaa.Q
open Go.RowKit Go.Proofs.YtendgafpkeadhaaW.PrintWords Go.Proofs.YtendgafpkeadhaaW.PrintLast Go.Proofs.YtendgafpkeadhaaW.PrintMore
def gp.f (k : Nat) (l0 : List S38) : Option (List S41 × Int × Int) :=
 (aK.f (fam k) k l0 0 false).bind fun t => if t.2.2 = true then ((dS.f l0 t.2.1 t.2.2).bind fun p => some (([] : List S41), 10, p.1))
  else if t.2.1 < (l0.length : Int) then ((dS.f l0 t.2.1 t.2.2).bind fun p => some (([] : List S41), 10, p.1))
  else (bz.f k t.1).bind fun c => if c.1 = 0 then some (t.1, 0, 0) else some (([] : List S41), c.1, 0)
theorem gp.mono (a0 : List S38) (k : Nat) : LeO (gp.f k a0) (gp.f (k + 1) a0) := by
 unfold gp.f
 repeat' first
 | exact aK.mono (uj k) _ _ _ k
 | exact bz.mono _ k
 | exact LeO.refl _
 | exact LeO.none _
 | refine LeO.ite ?_ ?_
 | refine LeO.bind ?_ (fun _ => ?_)
set_option maxHeartbeats 8000000 in
set_option maxRecDepth 100000 in
theorem gp.calls (k : Nat) (A0 : Option Addr) (c0 : Nat) (l0 : List S38) (r1 : List S41) (r2 : Int) (r3 : Int) (w : World) (hr0 : Kd.C k38 w A0 l0.length l0) (hc0 : l0.length ≤ c0) (h : gp.f k l0 = some (r1, r2, r3)) :
 Calls Try.prog 15 #[.slice A0 l0.length c0] w fun e w' => ∃ v0_ : Value, e = .returned (.tuple #[v0_, .int .i64 r2, .int .i64 r3]) ∧ Kd.R k41 41 w' w.heap.size (fun _ => True) v0_ r1 ∧ Below w.heap.size w w' := by
 have HR0 := Aside0.mk hr0
 have HB := Aside0.mk (Below.refl w.heap.size w)
 clear hr0 hc0
 unfold gp.f at h
 obtain ⟨⟨t, u, b⟩, hm, h⟩ := Option.bind_eq_some_iff.mp h
 have AM := Aside0.mk hm
 have HQ := Aside0.mk h
 clear hm h
 have hu55 := Try.underlying55
 go_enter Try.func15, Try.ntmps15
 go_upto_region 3 with (first
  | ((with_reducible refine bJ (N := 11) rfl ?_); refine bU ?hg (N := 11) ?hd (cs := #[.slice A0 l0.length c0, .int .i64 0, .bool false]) (t := 55) ?hr ?_; (case hd => rfl); (case hg => rfl); (case hr => first | (go_simp; done) | (go_simp; rfl)); intro g hg w1 hbox hb; have HI1 := Aside0.mk (show ai w w1 g l0 0 false from ⟨A0, c0, hbox, by rw [hg]; exact Nat.le_refl _, HR0.out⟩); have HB1 := Aside0.mk hb; clear hbox hb hg)
  | ((with_reducible refine gate_callee (f := 25) rfl ?_); refine goesL_ (some 13) rfl rfl Try.func25 (by kernel_rfl) rfl #[.pointer (some ⟨g, 0, none⟩)] rfl Z49 ?_; (with_reducible refine (aK.calls (fam k) (ui k) k g l0 0 false t u b w _ ?side1 ?side2 AM.out).mono ?_); (case side1 => exact HI1.out); (case side2 => exact HB1.out); rintro e w2 ⟨v, rfl, ho, hi, hb, hk⟩; refine ⟨_, rfl, ?_⟩; have HO := Aside0.mk (Kd.R_lower ho HB1.out.size); have HI2 := Aside0.mk hi; have HB2 := Aside0.mk hb; clear ho hi hb hk))
 obtain ⟨ASz, cSz, HGz, hgz, HSz⟩ := HI2.out
 have hcz0 := dH HGz
 have hcz1 := dG HGz
 have hcz2 := dF HGz
 clear HGz hgz HSz
 have h := HQ.out
 clear HQ
 dsimp only at h
 by_cases c1 : b = true
 ·rw [if_pos c1] at h
  subst c1
  obtain ⟨⟨p1, p2, p3⟩, hp, h⟩ := Option.bind_eq_some_iff.mp h
  have AP := Aside0.mk hp
  clear hp
  cases h
  go_wp2_with (first | ((with_reducible refine gate_callee (f := 26) rfl ?_); refine goesL_ (some 28) rfl rfl Try.func26 (by kernel_rfl) rfl #[.pointer (some ⟨g, 0, none⟩)] rfl Z49 ?_; (with_reducible refine (dS.calls g l0 u true p1 p2 p3 w _ ?side1 ?side2 AP.out).mono ?_); (case side1 => exact HI2.out); (case side2 => exact HB2.out); rintro e w3 ⟨rfl, hi, hb, hk⟩; refine ⟨_, rfl, ?_⟩; have HB3 := Aside0.mk hb; clear hi hb hk))
  go_ret3
  exact ⟨_, rfl, Kd.qH _ _ _ _ _, HB3.out⟩
 rw [if_neg c1] at h
 replace c1 := Bool.eq_false_iff.mpr c1
 subst c1
 by_cases c2 : u < (l0.length : Int)
 ·rw [if_pos c2] at h
  have c2b : decide (u < (l0.length : Int)) = true := decide_eq_true c2
  clear c2
  obtain ⟨⟨p1, p2, p3⟩, hp, h⟩ := Option.bind_eq_some_iff.mp h
  have AP := Aside0.mk hp
  clear hp
  cases h
  go_wp2_with (first | ((with_reducible refine gate_callee (f := 26) rfl ?_); refine goesL_ (some 28) rfl rfl Try.func26 (by kernel_rfl) rfl #[.pointer (some ⟨g, 0, none⟩)] rfl Z49 ?_; (with_reducible refine (dS.calls g l0 u false p1 p2 p3 w _ ?side1 ?side2 AP.out).mono ?_); (case side1 => exact HI2.out); (case side2 => exact HB2.out); rintro e w3 ⟨rfl, hi, hb, hk⟩; refine ⟨_, rfl, ?_⟩; have HB3 := Aside0.mk hb; clear hi hb hk))
  go_ret3
  exact ⟨_, rfl, Kd.qH _ _ _ _ _, HB3.out⟩
 rw [if_neg c2] at h
 have c2b : decide (u < (l0.length : Int)) = false := decide_eq_false c2
 clear c2
 obtain ⟨⟨p1, p2⟩, hp, h⟩ := Option.bind_eq_some_iff.mp h
 have AP := Aside0.mk hp
 clear hp
 obtain ⟨Ao, co, eo⟩ := Kd.R_slice HO.out
 subst eo
 dsimp only at h
 have HC := Aside0.mk (Kd.R_reads' HO.out).2.2
 have HL := Aside0.mk (Kd.R_reads' HO.out).2.1
 by_cases c3 : p1 = 0
 ·rw [if_pos c3] at h
  have c3b0 : (p1 == 0) = true := beq_iff_eq.mpr c3
  have c3b1 : (p1 != 0) = false := bne_eq_false_iff_eq.mpr c3
  clear c3
  simp only [Option.some.injEq, Prod.mk.injEq] at h
  obtain ⟨h1, h2, h3⟩ := h
  subst h1
  subst h2
  subst h3
  go_wp2_with (first | ((with_reducible refine gate_callee (f := 10) rfl ?_); refine goesL_ (some 31) rfl rfl Try.func10 (by kernel_rfl) rfl #[.slice Ao t.length co] rfl Z49 ?_; (with_reducible refine (bz.calls k _ _ t p1 p2 _ ?side1 ?side2 AP.out).mono ?_); (case side1 => exact HC.out); (case side2 => exact HL.out); rintro e w3 ⟨rfl, hb⟩; refine ⟨_, rfl, ?_⟩; have HB3 := Aside0.mk (below_step HB2.out hb); have HO3 := Aside0.mk (Kd.R_below HO.out hb); clear hb))
  go_ret3
  exact ⟨_, rfl, HO3.out, HB3.out⟩
 rw [if_neg c3] at h
 have c3b0 : (p1 == 0) = false := beq_eq_false_iff_ne.mpr c3
 have c3b1 : (p1 != 0) = true := bne_iff_ne.mpr c3
 clear c3
 simp only [Option.some.injEq, Prod.mk.injEq] at h
 obtain ⟨h1, h2, h3⟩ := h
 subst h1
 subst h2
 subst h3
 go_wp2_with (first | ((with_reducible refine gate_callee (f := 10) rfl ?_); refine goesL_ (some 31) rfl rfl Try.func10 (by kernel_rfl) rfl #[.slice Ao t.length co] rfl Z49 ?_; (with_reducible refine (bz.calls k _ _ t p1 p2 _ ?side1 ?side2 AP.out).mono ?_); (case side1 => exact HC.out); (case side2 => exact HL.out); rintro e w3 ⟨rfl, hb⟩; refine ⟨_, rfl, ?_⟩; have HB3 := Aside0.mk (below_step HB2.out hb); have HO3 := Aside0.mk (Kd.R_below HO.out hb); clear hb))
 go_ret3
 exact ⟨_, rfl, Kd.qH _ _ _ _ _, HB3.out⟩
end Go.Proofs.Ytendgafpkeadhaa.Q
end
section
namespace Go.Proofs.Ytendgafpkeadhaa.Q
open Go.RowKit Go.Proofs.YtendgafpkeadhaaW.PrintWords Go.Proofs.YtendgafpkeadhaaW.PrintLast Go.Proofs.YtendgafpkeadhaaW.PrintMore
attribute [local go_sem] max2_int min2_int max_two min_two max_three min_three max_four min_four
set_option linter.unusedVariables false
set_option linter.unusedSimpArgs false
/-! ### parse_Text: function 9 -/
def parse_Text.f (k : Nat) (a0 : ByteArray) : Option ((List (S41)) × Int × Int) := (lex_Scan.f k a0).bind fun bt791 => (if bt791.2.1 = 0 then ((gp.f k bt791.1).bind fun bt796 => (some (bt796.1, bt796.2.1, bt796.2.2))) else (some (([] : List (S41)), bt791.2.1, bt791.2.2)))
theorem parse_Text.mono : ∀ a0 k, LeO (parse_Text.f k a0) (parse_Text.f (k + 1) a0) := by
 intro a0 k
 unfold parse_Text.f
 have m0 := lex_Scan.mono
 have m1 := gp.mono
 exact yL
set_option maxHeartbeats 8000000 in
set_option maxRecDepth 100000 in
theorem parse_Text.calls (k : Nat) (a0 : ByteArray) (r1 : List (S41)) (r2 : Int) (r3 : Int) (w : World) (h : parse_Text.f k a0 = some (r1, r2, r3)) :
 Calls Try.prog 9 #[.string a0] w fun e w' => ∃ v0_ : Value, e = .returned (.tuple #[v0_, .int .i64 r2, .int .i64 r3]) ∧ Kd.R k41 41 w' w.heap.size (fun _ => True) v0_ r1 ∧ Below w.heap.size w w' := by
 have HB := Aside0.mk (Below.refl w.heap.size w)
 have H := h
 clear h
 unfold parse_Text.f at H
 revert H
 refine yB3 fun t791 t792 t793 A2 H => ?_
 try dsimp only at H
 revert H
 refine aJ (fun c3b0 c3b1 H => ?_) fun c3 c3b0 c3b1 H => ?_
 ·revert H
  refine yB3 fun t796 t797 t798 A4 H => ?_
  try dsimp only at H
  simp only [Option.some.injEq, Prod.mk.injEq] at H
  obtain ⟨rfl, rfl, rfl⟩ := H
  go_enter Try.func9, Try.ntmps9
  go_wp2_with (first | ((with_reducible refine gC 13 rfl ?_); refine gM 13 10 rfl Try.func13 (lex_Scan.calls k a0 t791 t792 t793 _ A2.out) ?_; rintro _ w5 ⟨v794, rfl, ho0, hb⟩; refine ⟨_, rfl, yA2 (Kd.R_lower ho0 (below_size Z3)) (below_step Z3 hb) ?_⟩; clear HB hb ho0; intro HO795 HB; obtain ⟨Ao6, co6, rfl⟩ := Kd.R_slice HO795.out) | ((with_reducible refine gC 15 rfl ?_); refine gM 15 19 rfl Try.func15 (gp.calls k _ _ t791 t796 t797 t798 _ (by repeat (first | exact (Kd.R_reads' HO795.out).2.2 | (with_reducible refine Kd.C_alloc ?_ _) | (with_reducible refine Kd.C_drewN ?_ _) | (with_reducible refine Kd.C_drew ?_))) ((Kd.R_reads' HO795.out).2.1) A4.out) ?_; rintro _ w7 ⟨v799, rfl, ho0, hb⟩; refine ⟨_, rfl, yA3 (Kd.R_below (by (with_reducible repeat (first | apply Kd.R_alloc | apply Kd.R_drewN | apply Kd.R_drew)); exact HO795.out) hb) (Kd.R_lower ho0 (below_size Z3)) (below_step Z3 hb) ?_⟩; clear HO795 HB hb ho0; intro HO795 HO800 HB))
  go_ret3
  exact ⟨_, Z4, by (with_reducible repeat (first | apply Kd.R_alloc | apply Kd.R_drewN | apply Kd.R_drew)); exact HO800.out, Z3⟩
 simp only [Option.some.injEq, Prod.mk.injEq] at H
 obtain ⟨rfl, rfl, rfl⟩ := H
 go_enter Try.func9, Try.ntmps9
 go_wp2_with (first | ((with_reducible refine gC 13 rfl ?_); refine gM 13 10 rfl Try.func13 (lex_Scan.calls k a0 t791 t792 t793 _ A2.out) ?_; rintro _ w8 ⟨v794, rfl, ho0, hb⟩; refine ⟨_, rfl, yA2 (Kd.R_lower ho0 (below_size Z3)) (below_step Z3 hb) ?_⟩; clear HB hb ho0; intro HO795 HB))
 go_ret3
 exact ⟨_, Z4, Z24, Z3⟩
/-! ### chrysalislaw10_known: function 8 -/
def chrysalislaw10_known.f (k : Nat)  : Option (Bool) := (parse_Text.f k (⟨#[109, 111, 100, 117, 108, 101, 32, 109, 32, 49, 59, 32, 102, 110, 32, 102, 40, 97, 41, 32, 123, 32, 114, 101, 116, 117, 114, 110, 32, 97, 32, 43, 32, 49, 32, 42, 32, 50, 59, 32, 125]⟩ : ByteArray)).bind fun bt801 => ((parse_Text.f k (⟨#[109, 111, 100, 117, 108, 101, 32, 109, 32, 49, 59, 32, 102, 110, 32, 102, 40, 41, 32, 123, 32, 49, 32, 61, 32, 50, 59, 32, 125]⟩ : ByteArray)).bind fun bt806 => (if bt801.2.1 = 0 then (if (bt801.1.length : Int) = 10 then (if 5 < (bt801.1.length : Int) then (if ((rd_T41 bt801.1 5).f4).toList = ([43] : List UInt8) then (if 7 < (bt801.1.length : Int) then (if ((rd_T41 bt801.1 7).f4).toList = ([42] : List UInt8) then (if 0 < (bt801.1.length : Int) then (if ((rd_T41 bt801.1 0).f2).toList = ([109] : List UInt8) then (if ((rd_T41 bt801.1 0).f3) = 1 then (if bt806.2.1 = 10 then (some (bt806.2.2 == 23)) else (some false)) else (some false)) else (some false)) else (none)) else (some false)) else (none)) else (some false)) else (none)) else (some false)) else (some false)))
theorem chrysalislaw10_known.mono : ∀ k, LeO (chrysalislaw10_known.f k ) (chrysalislaw10_known.f (k + 1) ) := by
 intro  k
 unfold chrysalislaw10_known.f
 have m0 := parse_Text.mono
 exact yL
theorem chrysalislaw10_known.more : ∀ (d k : Nat) (r : Bool), chrysalislaw10_known.f k = some r → chrysalislaw10_known.f (k + d) = some r
 | 0, _, _, h => h
 | d + 1, k, r, h => chrysalislaw10_known.mono (k + d) r (chrysalislaw10_known.more d k r h)
set_option maxRecDepth 100000 in
theorem chrysalislaw10_known.at : chrysalislaw10_known.f 300 = some true := by kernel_rfl
theorem chrysalislaw10_known.Jb (k : Nat) (r : Bool) (h : chrysalislaw10_known.f k = some r) : r = true := by
 have h1 := chrysalislaw10_known.more 300 k r h
 have h2 := chrysalislaw10_known.more k 300 true chrysalislaw10_known.at
 rw [Nat.add_comm 300 k, h1] at h2
 exact Option.some.inj h2
set_option maxHeartbeats 8000000 in
set_option maxRecDepth 100000 in
theorem chrysalislaw10_known.calls (k : Nat)  (r : Bool) (w : World) (h : chrysalislaw10_known.f k  = some r) :
 Calls Try.prog 8 #[] w fun e w' => e = .returned (.bool r) ∧ Below w.heap.size w w' := by
 have HB := Aside0.mk (Below.refl w.heap.size w)
 have HR := Aside0.mk (chrysalislaw10_known.Jb k r h)
 have H := h
 clear h
 unfold chrysalislaw10_known.f at H
 revert H
 refine yB3 fun t801 t802 t803 A1 H => ?_
 try dsimp only at H
 revert H
 refine yB3 fun t806 t807 t808 A2 H => ?_
 try dsimp only at H
 revert H
 refine aJ (fun c3b0 c3b1 H => ?_) fun c3 c3b0 c3b1 H => ?_
 ·revert H
  refine aJ (fun c4b0 c4b1 H => ?_) fun c4 c4b0 c4b1 H => ?_
  ·revert H
   refine jX (fun c5 c5b0 H => ?_) fun c5 H => ?_
   ·have c5b1 : decide (5 < t801.length) = true := decide_eq_true (by omega)
    clear c5
    revert H
    refine aJ (fun c6b0 c6b1 H => ?_) fun c6 c6b0 c6b1 H => ?_
    ·revert H
     refine jX (fun c7 c7b0 H => ?_) fun c7 H => ?_
     ·have c7b1 : decide (7 < t801.length) = true := decide_eq_true (by omega)
      clear c7
      revert H
      refine aJ (fun c8b0 c8b1 H => ?_) fun c8 c8b0 c8b1 H => ?_
      ·revert H
       refine jX (fun c9 c9b0 H => ?_) fun c9 H => ?_
       ·have c9b1 : decide (0 < t801.length) = true := decide_eq_true (by omega)
        clear c9
        revert H
        refine aJ (fun c10b0 c10b1 H => ?_) fun c10 c10b0 c10b1 H => ?_
        ·revert H
         refine aJ (fun c11b0 c11b1 H => ?_) fun c11 c11b0 c11b1 H => ?_
         ·revert H
          refine aJ (fun c12b0 c12b1 H => ?_) fun c12 c12b0 c12b1 H => ?_
          ·obtain rfl := Option.some.inj H
           go_enter Try.func8, Try.ntmps8
           go_wp2_with (first | ((with_reducible refine gC 9 rfl ?_); refine gM 9 8 rfl Try.func9 (parse_Text.calls k (⟨#[109, 111, 100, 117, 108, 101, 32, 109, 32, 49, 59, 32, 102, 110, 32, 102, 40, 97, 41, 32, 123, 32, 114, 101, 116, 117, 114, 110, 32, 97, 32, 43, 32, 49, 32, 42, 32, 50, 59, 32, 125]⟩ : ByteArray) t801 t802 t803 _ A1.out) ?_; rintro _ w13 ⟨v804, rfl, ho0, hb⟩; refine ⟨_, rfl, yA2 (Kd.R_lower ho0 (below_size Z3)) (below_step Z3 hb) ?_⟩; clear HB hb ho0; intro HO805 HB) | ((with_reducible refine gC 9 rfl ?_); refine gM 9 13 rfl Try.func9 (parse_Text.calls k (⟨#[109, 111, 100, 117, 108, 101, 32, 109, 32, 49, 59, 32, 102, 110, 32, 102, 40, 41, 32, 123, 32, 49, 32, 61, 32, 50, 59, 32, 125]⟩ : ByteArray) t806 t807 t808 _ A2.out) ?_; rintro _ w14 ⟨v809, rfl, ho0, hb⟩; refine ⟨_, rfl, yA3 (Kd.R_elder' (by (with_reducible repeat (first | apply Kd.R_alloc | apply Kd.R_drewN | apply Kd.R_drew)); exact HO805.out) (Kd.R_base ho0) hb) (Kd.R_lower (Kd.R_new' ho0 (Kd.R_lt (by (with_reducible repeat (first | apply Kd.R_alloc | apply Kd.R_drewN | apply Kd.R_drew)); exact HO805.out))) (below_size Z3)) (below_step Z3 hb) ?_⟩; clear HO805 HB hb ho0; intro HO805 HO810 HB; obtain ⟨Ao15, co15, rfl⟩ := Kd.R_slice HO805.out; have p811 : 0 ≤ (5 : Int) := (by omega); have q811 : 5 < (t801.length : Int) := of_decide_eq_true Z5; obtain ⟨ad811, e811, hx811_0, hx811_1, hx811_2, hx811_3, hx811_4⟩ := gJ (Kd.R_reads' HO805.out).2.2 5 p811 q811; cases e811; (try simp only [show (5 : Int).toNat = 5 from rfl, Nat.reduceMul, Nat.reduceEqDiff, Go.Addr.add, ↓reduceIte] at hx811_0); (try simp only [show (5 : Int).toNat = 5 from rfl, Nat.reduceMul, Nat.reduceEqDiff, Go.Addr.add, ↓reduceIte] at hx811_1); (try simp only [show (5 : Int).toNat = 5 from rfl, Nat.reduceMul, Nat.reduceEqDiff, Go.Addr.add, ↓reduceIte] at hx811_2); (try simp only [show (5 : Int).toNat = 5 from rfl, Nat.reduceMul, Nat.reduceEqDiff, Go.Addr.add, ↓reduceIte] at hx811_3); (try simp only [show (5 : Int).toNat = 5 from rfl, Nat.reduceMul, Nat.reduceEqDiff, Go.Addr.add, ↓reduceIte] at hx811_4); have qi811 : (5 < t801.length) = True := eq_true (by omega); (try rw [show ((5 : Int)).toNat = 5 from rfl] at hx811_0); (try rw [show 5 * 5 = 25 from rfl] at hx811_0); (try rw [show ((5 : Int)).toNat = 5 from rfl] at hx811_1); (try rw [show 5 * 5 = 25 from rfl] at hx811_1); (try rw [show ((5 : Int)).toNat = 5 from rfl] at hx811_2); (try rw [show 5 * 5 = 25 from rfl] at hx811_2); (try rw [show ((5 : Int)).toNat = 5 from rfl] at hx811_3); (try rw [show 5 * 5 = 25 from rfl] at hx811_3); (try rw [show ((5 : Int)).toNat = 5 from rfl] at hx811_4); (try rw [show 5 * 5 = 25 from rfl] at hx811_4); replace p811 := eq_true p811; replace q811 := eq_true q811; have p812 : 0 ≤ (7 : Int) := (by omega); have q812 : 7 < (t801.length : Int) := of_decide_eq_true Z5; obtain ⟨ad812, e812, hx812_0, hx812_1, hx812_2, hx812_3, hx812_4⟩ := gJ (Kd.R_reads' HO805.out).2.2 7 p812 q812; obtain rfl : ad811 = ad812 := (by injection e812); (try simp only [show (7 : Int).toNat = 7 from rfl, Nat.reduceMul, Nat.reduceEqDiff, Go.Addr.add, ↓reduceIte] at hx812_0); (try simp only [show (7 : Int).toNat = 7 from rfl, Nat.reduceMul, Nat.reduceEqDiff, Go.Addr.add, ↓reduceIte] at hx812_1); (try simp only [show (7 : Int).toNat = 7 from rfl, Nat.reduceMul, Nat.reduceEqDiff, Go.Addr.add, ↓reduceIte] at hx812_2); (try simp only [show (7 : Int).toNat = 7 from rfl, Nat.reduceMul, Nat.reduceEqDiff, Go.Addr.add, ↓reduceIte] at hx812_3); (try simp only [show (7 : Int).toNat = 7 from rfl, Nat.reduceMul, Nat.reduceEqDiff, Go.Addr.add, ↓reduceIte] at hx812_4); have qi812 : (7 < t801.length) = True := eq_true (by omega); (try rw [show ((7 : Int)).toNat = 7 from rfl] at hx812_0); (try rw [show 7 * 5 = 35 from rfl] at hx812_0); (try rw [show ((7 : Int)).toNat = 7 from rfl] at hx812_1); (try rw [show 7 * 5 = 35 from rfl] at hx812_1); (try rw [show ((7 : Int)).toNat = 7 from rfl] at hx812_2); (try rw [show 7 * 5 = 35 from rfl] at hx812_2); (try rw [show ((7 : Int)).toNat = 7 from rfl] at hx812_3); (try rw [show 7 * 5 = 35 from rfl] at hx812_3); (try rw [show ((7 : Int)).toNat = 7 from rfl] at hx812_4); (try rw [show 7 * 5 = 35 from rfl] at hx812_4); replace p812 := eq_true p812; replace q812 := eq_true q812; have p813 : 0 ≤ (0 : Int) := (by omega); have q813 : 0 < (t801.length : Int) := of_decide_eq_true Z5; obtain ⟨ad813, e813, hx813_0, hx813_1, hx813_2, hx813_3, hx813_4⟩ := gJ (Kd.R_reads' HO805.out).2.2 0 p813 q813; obtain rfl : ad811 = ad813 := (by injection e813); have qi813 : (0 < t801.length) = True := eq_true (by omega); (try rw [show ((0 : Int)).toNat = 0 from rfl] at hx813_0); (try rw [show 0 * 5 = 0 from rfl] at hx813_0); (try rw [Addr.add_zero'] at hx813_0); (try rw [show ((0 : Int)).toNat = 0 from rfl] at hx813_1); (try rw [show 0 * 5 = 0 from rfl] at hx813_1); (try rw [Addr.add_zero'] at hx813_1); (try rw [show ((0 : Int)).toNat = 0 from rfl] at hx813_2); (try rw [show 0 * 5 = 0 from rfl] at hx813_2); (try rw [Addr.add_zero'] at hx813_2); (try rw [show ((0 : Int)).toNat = 0 from rfl] at hx813_3); (try rw [show 0 * 5 = 0 from rfl] at hx813_3); (try rw [Addr.add_zero'] at hx813_3); (try rw [show ((0 : Int)).toNat = 0 from rfl] at hx813_4); (try rw [show 0 * 5 = 0 from rfl] at hx813_4); (try rw [Addr.add_zero'] at hx813_4); replace p813 := eq_true p813; replace q813 := eq_true q813; have p814 : 0 ≤ (0 : Int) := (by omega); have q814 : 0 < (t801.length : Int) := of_decide_eq_true Z5; obtain ⟨ad814, e814, hx814_0, hx814_1, hx814_2, hx814_3, hx814_4⟩ := gJ (Kd.R_reads' HO805.out).2.2 0 p814 q814; obtain rfl : ad811 = ad814 := (by injection e814); have qi814 : (0 < t801.length) = True := eq_true (by omega); (try rw [show ((0 : Int)).toNat = 0 from rfl] at hx814_0); (try rw [show 0 * 5 = 0 from rfl] at hx814_0); (try rw [Addr.add_zero'] at hx814_0); (try rw [show ((0 : Int)).toNat = 0 from rfl] at hx814_1); (try rw [show 0 * 5 = 0 from rfl] at hx814_1); (try rw [Addr.add_zero'] at hx814_1); (try rw [show ((0 : Int)).toNat = 0 from rfl] at hx814_2); (try rw [show 0 * 5 = 0 from rfl] at hx814_2); (try rw [Addr.add_zero'] at hx814_2); (try rw [show ((0 : Int)).toNat = 0 from rfl] at hx814_3); (try rw [show 0 * 5 = 0 from rfl] at hx814_3); (try rw [Addr.add_zero'] at hx814_3); (try rw [show ((0 : Int)).toNat = 0 from rfl] at hx814_4); (try rw [show 0 * 5 = 0 from rfl] at hx814_4); (try rw [Addr.add_zero'] at hx814_4); replace p814 := eq_true p814; replace q814 := eq_true q814))
           go_ret
           exact ⟨Z4, Z3⟩
          exact absurd ((Option.some.inj H).trans HR.out) (by decide)
         exact absurd ((Option.some.inj H).trans HR.out) (by decide)
        exact absurd ((Option.some.inj H).trans HR.out) (by decide)
       exact absurd H (by simp)
      exact absurd ((Option.some.inj H).trans HR.out) (by decide)
     exact absurd H (by simp)
    exact absurd ((Option.some.inj H).trans HR.out) (by decide)
   exact absurd H (by simp)
  exact absurd ((Option.some.inj H).trans HR.out) (by decide)
 exact absurd ((Option.some.inj H).trans HR.out) (by decide)
end Go.Proofs.Ytendgafpkeadhaa.Q
end
section
namespace Go.Proofs.Ytendgafpkeadhaa.Q
open Go.RowKit Go.Proofs.YtendgafpkeadhaaW.PrintWords Go.Proofs.YtendgafpkeadhaaW.PrintLast Go.Proofs.YtendgafpkeadhaaW.PrintMore
attribute [local go_sem] max2_int min2_int max_two min_two max_three min_three max_four min_four
set_option linter.unusedVariables false
set_option linter.unusedSimpArgs false
/-! ### dR: function 60 -/
def dR.f (a0 : Int) : Option (Bool) := if a0 = 32 then (some true) else (if a0 = 9 then (some true) else (if a0 = 10 then (some true) else (some (a0 == 13))))
set_option maxHeartbeats 8000000 in
set_option maxRecDepth 100000 in
theorem dR.calls (a0 : Int) (r : Bool) (w : World) (h : dR.f a0 = some r) :
 Calls Try.prog 60 #[.int .u8 a0] w fun e w' => e = .returned (.bool r) ∧ dw w w' := by
 have H := h
 clear h
 unfold dR.f at H
 revert H
 refine aJ (fun c2b0 c2b1 H => ?_) fun c2 c2b0 c2b1 H => ?_
 ·obtain rfl := Option.some.inj H
  go_enter Try.func60, Try.ntmps60
  go_wp2
  go_ret
  exact ⟨Z6, Z8⟩
 revert H
 refine aJ (fun c3b0 c3b1 H => ?_) fun c3 c3b0 c3b1 H => ?_
 ·obtain rfl := Option.some.inj H
  go_enter Try.func60, Try.ntmps60
  go_wp2
  go_ret
  exact ⟨Z6, Z8⟩
 revert H
 refine aJ (fun c4b0 c4b1 H => ?_) fun c4 c4b0 c4b1 H => ?_
 ·obtain rfl := Option.some.inj H
  go_enter Try.func60, Try.ntmps60
  go_wp2
  go_ret
  exact ⟨Z6, Z8⟩
 obtain rfl := Option.some.inj H
 go_enter Try.func60, Try.ntmps60
 go_wp2
 go_ret
 exact ⟨Z6, Z8⟩
end Go.Proofs.Ytendgafpkeadhaa.Q
end
section
namespace Go.Proofs.Ytendgafpkeadhaa.Q
open Go.RowKit Go.Proofs.YtendgafpkeadhaaW.PrintWords Go.Proofs.YtendgafpkeadhaaW.PrintLast Go.Proofs.YtendgafpkeadhaaW.PrintMore
attribute [local go_sem] max2_int min2_int max_two min_two max_three min_three max_four min_four
set_option linter.unusedVariables false
set_option linter.unusedSimpArgs false
/-! ### ak: function 39 -/
mutual
def ak.l0 : Nat → ByteArray → Int → Option (Int)
 | 0, _, _ => none
 | k + 1, x0, x1 => if x1 < (x0.size : Int) then (if 0 ≤ x1 then ((dR.f (bt x0 x1)).bind fun t825 => (if t825 = true then (ak.j1 k x0 x1 true) else (ak.j1 k x0 x1 ((bt x0 x1) == 35)))) else (none)) else (ak.j1 k x0 x1 false)
def ak.j1 : Nat → ByteArray → Int → Bool → Option (Int)
 | 0, _, _, _ => none
 | k + 1, x0, x1, x20 => if x20 = true then (if 0 ≤ x1 then (if x1 < (x0.size : Int) then (if (bt x0 x1) = 35 then (ak.l1 k x0 x1) else (ak.l0 k x0 (wrap64 (x1 + 1)))) else (none)) else (none)) else (some x1)
def ak.l1 : Nat → ByteArray → Int → Option (Int)
 | 0, _, _ => none
 | k + 1, x0, x1 => if x1 < (x0.size : Int) then (if 0 ≤ x1 then (if (bt x0 x1) = 10 then (ak.l0 k x0 x1) else (ak.l1 k x0 (wrap64 (x1 + 1)))) else (none)) else (ak.l0 k x0 x1)
end
def ak.f (k : Nat) (a0 : ByteArray) (a1 : Int) : Option (Int) := ak.l0 k a0 a1
theorem ak.mono_l : ∀ k, (∀ y0 y1, LeO (ak.l0 k y0 y1) (ak.l0 (k + 1) y0 y1)) ∧ (∀ y0 y1 y2, LeO (ak.j1 k y0 y1 y2) (ak.j1 (k + 1) y0 y1 y2)) ∧ (∀ y0 y1, LeO (ak.l1 k y0 y1) (ak.l1 (k + 1) y0 y1))
 | 0 => ⟨fun _ _ r h => by simp [ak.l0] at h, fun _ _ _ r h => by simp [ak.j1] at h, fun _ _ r h => by simp [ak.l1] at h⟩
 | k + 1 => by
  obtain ⟨ih0, ih1, ih2⟩ := ak.mono_l k
  refine ⟨?_, ?_, ?_⟩
  ·intro y0 y1
   unfold ak.l0
   exact yL
  ·intro y0 y1 y2
   unfold ak.j1
   exact yL
  intro y0 y1
  unfold ak.l1
  exact yL
theorem ak.mono : ∀ a0 a1 k, LeO (ak.f k a0 a1) (ak.f (k + 1) a0 a1) := by
 intro a0 a1 k
 obtain ⟨ih0, ih1, ih2⟩ := ak.mono_l k
 unfold ak.f
 exact yL
set_option maxHeartbeats 8000000 in
set_option maxRecDepth 100000 in
theorem ak.calls (k : Nat) (a0 : ByteArray) (a1 : Int) (r : Int) (w : World) (h : ak.f k a0 a1 = some r) :
 Calls Try.prog 39 #[.string a0, .int .i64 a1] w fun e w' => e = .returned (.int .i64 r) ∧ dw w w' := by
 have H := h
 clear h
 unfold ak.f at H
 have H' := Aside0.mk H
 clear H
 go_enter Try.func39, Try.ntmps39
 go_wp2
 go_loopg [1] k (fun kq v1 w' => ∃ (x1_1 : Int), v1 = .int .i64 x1_1 ∧ Aside0 (ak.l0 kq a0 x1_1 = some r) ∧ Aside0 (kq ≤ k) ∧ dw w w')
 case atStart => exact ⟨(a1), Z6, H', ⟨Nat.le_refl _⟩, Z8⟩
 case round =>
  clear H'
  try clear p2
  obtain ⟨x1_1, rfl, HA, HK1, ⟨m1, rfl⟩⟩ := hrel
  cases gk with
  | zero => exact absurd HA.out (by simp [ak.l0])
  | succ k1 =>
   have H := HA.out
   clear HA
   simp only [ak.l0] at H
   have HC3 := Aside0.mk H
   clear H
   go_upto_region 1 with (fail)
   go_cut [20] (fun v20 wc => ∃ (kq : Nat) (x20_2 : Bool), v20 = .bool x20_2 ∧ Aside0 (ak.j1 kq a0 x1_1 x20_2 = some r) ∧ Aside0 (kq ≤ k1) ∧ dw w wc)
   case first =>
    have H := HC3.out
    clear HC3
    revert H
    refine fO (fun c4b0 H => ?_) fun c4b0 H => ?_
    ·(first | rw [c4b0] | (simp only [dE, dM]; rw [c4b0]) | skip)
     revert H
     refine eQ (fun c5b0 H => ?_) fun c5 H => ?_
     ·revert H
      refine yB1 fun t825 A7 H => ?_
      cases t825
      rotate_left
      ·replace H := yT H
       have H' := Aside0.mk H
       clear H
       have p6 : 0 ≤ (x1_1 : Int) := of_decide_eq_true Z5
       have q6 : x1_1 < (a0.size : Int) := of_decide_eq_true Z5
       have hx6 := dL a0 x1_1
       replace p6 := eq_true p6
       replace q6 := eq_true q6
       go_wp2_with (first | (go_at_call 60; (with_reducible refine (dR.calls (bt a0 x1_1) true _ A7.out).mono ?_); rintro e w' ⟨rfl, ⟨nd, rfl⟩⟩))
       go_meet
       case rel => exact ⟨_, (true), Z6, H', ⟨by have := HK1.out; first | omega | exact Nat.le_refl _⟩, Z8⟩
      replace H := yF H
      have H' := Aside0.mk H
      clear H
      have p6 : 0 ≤ (x1_1 : Int) := of_decide_eq_true Z5
      have q6 : x1_1 < (a0.size : Int) := of_decide_eq_true Z5
      have hx6 := dL a0 x1_1
      replace p6 := eq_true p6
      replace q6 := eq_true q6
      go_wp2_with (first | (go_at_call 60; (with_reducible refine (dR.calls (bt a0 x1_1) false _ A7.out).mono ?_); rintro e w' ⟨rfl, ⟨nd, rfl⟩⟩; have p9 : 0 ≤ (x1_1 : Int) := of_decide_eq_true Z5; have q9 : x1_1 < (a0.size : Int) := of_decide_eq_true Z5; have hx9 := dL a0 x1_1; replace p9 := eq_true p9; replace q9 := eq_true q9))
      go_meet
      case rel => exact ⟨_, (((bt a0 x1_1) == 35)), Z6, H', ⟨by have := HK1.out; first | omega | exact Nat.le_refl _⟩, Z8⟩
     exact absurd H (by simp)
    (first | rw [c4b0] | (simp only [dE, dM]; rw [c4b0]) | skip)
    have H' := Aside0.mk H
    clear H
    go_wp2
    go_meet
    case rel => exact ⟨_, (false), Z6, H', ⟨by have := HK1.out; first | omega | exact Nat.le_refl _⟩, Z8⟩
   case rest =>
    clear HC3
    try clear p2
    try clear c3
    try clear c4
    try clear c4b0
    try clear c5
    try clear c5b0
    try clear p6
    try clear q6
    try clear hx6
    try clear c8
    try clear p9
    try clear q9
    try clear hx9
    try clear p2
    try clear p6
    try clear p9
    try clear q6
    try clear q9
    obtain ⟨kq, x20_2, rfl, HA, HJ2, ⟨mc2, rfl⟩⟩ := hcut
    cases kq with
    | zero => exact absurd HA.out (by simp [ak.j1])
    | succ kj2 =>
     have H := HA.out
     clear HA
     simp only [ak.j1] at H
     cases x20_2
     rotate_left
     ·replace H := yT H
      revert H
      refine eQ (fun c11b0 H => ?_) fun c11 H => ?_
      ·revert H
       refine eQ (fun c12b0 H => ?_) fun c12 H => ?_
       ·revert H
        refine aJ (fun c14b0 c14b1 H => ?_) fun c14 c14b0 c14b1 H => ?_
        ·have H' := Aside0.mk H
         clear H
         have p13 : 0 ≤ (x1_1 : Int) := of_decide_eq_true Z5
         have q13 : x1_1 < (a0.size : Int) := of_decide_eq_true Z5
         have hx13 := dL a0 x1_1
         replace p13 := eq_true p13
         replace q13 := eq_true q13
         go_wp2
         go_loopg [1] kj2 (fun kq v1 w' => ∃ (x1_3 : Int), v1 = .int .i64 x1_3 ∧ Aside0 (ak.l1 kq a0 x1_3 = some r) ∧ Aside0 (kq ≤ kj2) ∧ dw w w')
         case atStart => exact ⟨(x1_1), Z6, H', ⟨Nat.le_refl _⟩, Z8⟩
         case round =>
          clear H'
          try clear c1
          try clear p1
          try clear q1
          try clear hx1
          try clear c2
          try clear p2
          try clear c3
          try clear c4
          try clear c4b0
          try clear c5
          try clear c5b0
          try clear p6
          try clear q6
          try clear hx6
          try clear c8
          try clear p9
          try clear q9
          try clear hx9
          try clear c10
          try clear c11
          try clear c11b0
          try clear c12
          try clear c12b0
          try clear p13
          try clear q13
          try clear hx13
          try clear c14
          try clear c14b0
          try clear c14b1
          try clear p13
          try clear p2
          try clear p6
          try clear p9
          try clear q13
          try clear q6
          try clear q9
          obtain ⟨x1_3, rfl, HA, HK3, ⟨m3, rfl⟩⟩ := hrel
          cases gk with
          | zero => exact absurd HA.out (by simp [ak.l1])
          | succ k3 =>
           have H := HA.out
           clear HA
           simp only [ak.l1] at H
           revert H
           refine fO (fun c15b0 H => ?_) fun c15b0 H => ?_
           ·revert H
            refine eQ (fun c16b0 H => ?_) fun c16 H => ?_
            ·revert H
             refine aJ (fun c18b0 c18b1 H => ?_) fun c18 c18b0 c18b1 H => ?_
             ·have H' := Aside0.mk H
              clear H
              have p17 : 0 ≤ (x1_3 : Int) := of_decide_eq_true Z5
              have q17 : x1_3 < (a0.size : Int) := of_decide_eq_true Z5
              have hx17 := dL a0 x1_3
              replace p17 := eq_true p17
              replace q17 := eq_true q17
              go_wp2
              go_roundg k3
              case measure => have := HK1.out; have := HJ2.out; have := HK3.out; omega
              case rel => exact ⟨(x1_3), Z6, H', ⟨by have := HK1.out; have := HJ2.out; have := HK3.out; omega⟩, Z8⟩
             have H' := Aside0.mk H
             clear H
             have p17 : 0 ≤ (x1_3 : Int) := of_decide_eq_true Z5
             have q17 : x1_3 < (a0.size : Int) := of_decide_eq_true Z5
             have hx17 := dL a0 x1_3
             replace p17 := eq_true p17
             replace q17 := eq_true q17
             go_wp2
             go_roundg k3
             case measure => have := HK1.out; have := HJ2.out; have := HK3.out; omega
             case rel => exact ⟨(wrap64 (x1_3 + 1)), Z6, H', ⟨by have := HK1.out; have := HJ2.out; have := HK3.out; omega⟩, Z8⟩
            exact absurd H (by simp)
           have H' := Aside0.mk H
           clear H
           go_wp2
           go_roundg k3
           case measure => have := HK1.out; have := HJ2.out; have := HK3.out; omega
           case rel => exact ⟨(x1_3), Z6, H', ⟨by have := HK1.out; have := HJ2.out; have := HK3.out; omega⟩, Z8⟩
        have H' := Aside0.mk H
        clear H
        have p13 : 0 ≤ (x1_1 : Int) := of_decide_eq_true Z5
        have q13 : x1_1 < (a0.size : Int) := of_decide_eq_true Z5
        have hx13 := dL a0 x1_1
        replace p13 := eq_true p13
        replace q13 := eq_true q13
        go_wp2
        go_roundg kj2
        case measure => have := HK1.out; have := HJ2.out; omega
        case rel => exact ⟨(wrap64 (x1_1 + 1)), Z6, H', ⟨by have := HK1.out; have := HJ2.out; omega⟩, Z8⟩
       exact absurd H (by simp)
      exact absurd H (by simp)
     replace H := yF H
     obtain rfl := Option.some.inj H
     go_wp2
     go_ret
     exact ⟨Z6, Z8⟩
end Go.Proofs.Ytendgafpkeadhaa.Q
end
section
namespace Go.Proofs.Ytendgafpkeadhaa.Q
open Go.RowKit Go.Proofs.YtendgafpkeadhaaW.PrintWords Go.Proofs.YtendgafpkeadhaaW.PrintLast Go.Proofs.YtendgafpkeadhaaW.PrintMore
attribute [local go_sem] max2_int min2_int max_two min_two max_three min_three max_four min_four
set_option linter.unusedVariables false
set_option linter.unusedSimpArgs false
/-! ### bI: function 61 -/
def bI.f (a0 : Int) : Option (Bool) := if a0 ≥ 97 then (some (decide (a0 ≤ 122))) else (some false)
set_option maxHeartbeats 8000000 in
set_option maxRecDepth 100000 in
theorem bI.calls (a0 : Int) (r : Bool) (w : World) (h : bI.f a0 = some r) :
 Calls Try.prog 61 #[.int .u8 a0] w fun e w' => e = .returned (.bool r) ∧ dw w w' := by
 have H := h
 clear h
 unfold bI.f at H
 revert H
 refine dX (fun c2 H => ?_) fun c2 H => ?_
 ·have c2b0 : decide (97 ≤ a0) = true := decide_eq_true c2
  clear c2
  obtain rfl := Option.some.inj H
  go_enter Try.func61, Try.ntmps61
  go_wp2
  go_ret
  exact ⟨Z6, Z8⟩
 have c2b0 : decide (97 ≤ a0) = false := decide_eq_false c2
 clear c2
 obtain rfl := Option.some.inj H
 go_enter Try.func61, Try.ntmps61
 go_wp2
 go_ret
 exact ⟨Z6, Z8⟩
/-! ### bK: function 64 -/
def bK.f (a0 : Int) : Option (Bool) := if a0 ≥ 48 then (some (decide (a0 ≤ 57))) else (some false)
set_option maxHeartbeats 8000000 in
set_option maxRecDepth 100000 in
theorem bK.calls (a0 : Int) (r : Bool) (w : World) (h : bK.f a0 = some r) :
 Calls Try.prog 64 #[.int .u8 a0] w fun e w' => e = .returned (.bool r) ∧ dw w w' := by
 have H := h
 clear h
 unfold bK.f at H
 revert H
 refine dX (fun c2 H => ?_) fun c2 H => ?_
 ·have c2b0 : decide (48 ≤ a0) = true := decide_eq_true c2
  clear c2
  obtain rfl := Option.some.inj H
  go_enter Try.func64, Try.ntmps64
  go_wp2
  go_ret
  exact ⟨Z6, Z8⟩
 have c2b0 : decide (48 ≤ a0) = false := decide_eq_false c2
 clear c2
 obtain rfl := Option.some.inj H
 go_enter Try.func64, Try.ntmps64
 go_wp2
 go_ret
 exact ⟨Z6, Z8⟩
/-! ### aQ: function 62 -/
def aQ.l0 : Nat → ByteArray → Int → Int → Option (Int)
 | 0, _, _, _ => none
 | k + 1, x0, x1, x5 => if (wrap64 (x1 + x5)) < (x0.size : Int) then (if 0 ≤ (wrap64 (x1 + x5)) then ((bI.f (bt x0 (wrap64 (x1 + x5)))).bind fun t826 => (if t826 = true then (aQ.l0 k x0 x1 (wrap64 (x5 + 1))) else (if x5 > 0 then ((bK.f (bt x0 (wrap64 (x1 + x5)))).bind fun t827 => (if t827 = true then (aQ.l0 k x0 x1 (wrap64 (x5 + 1))) else (if (bt x0 (wrap64 (x1 + x5))) = 95 then (aQ.l0 k x0 x1 (wrap64 (x5 + 1))) else (some x5)))) else (some x5)))) else (none)) else (some x5)
def aQ.f (k : Nat) (a0 : ByteArray) (a1 : Int) : Option (Int) := aQ.l0 k a0 a1 0
theorem aQ.mono_l : ∀ k, (∀ y0 y1 y2, LeO (aQ.l0 k y0 y1 y2) (aQ.l0 (k + 1) y0 y1 y2))
 | 0 => fun _ _ _ r h => by simp [aQ.l0] at h
 | k + 1 => by
  have ih0 := aQ.mono_l k
  intro y0 y1 y2
  unfold aQ.l0
  exact yL
theorem aQ.mono : ∀ a0 a1 k, LeO (aQ.f k a0 a1) (aQ.f (k + 1) a0 a1) := by
 intro a0 a1 k
 have ih0 := aQ.mono_l k
 unfold aQ.f
 exact yL
set_option maxHeartbeats 8000000 in
set_option maxRecDepth 100000 in
theorem aQ.calls (k : Nat) (a0 : ByteArray) (a1 : Int) (r : Int) (w : World) (h : aQ.f k a0 a1 = some r) :
 Calls Try.prog 62 #[.string a0, .int .i64 a1] w fun e w' => e = .returned (.int .i64 r) ∧ dw w w' := by
 have H := h
 clear h
 unfold aQ.f at H
 have H' := Aside0.mk H
 clear H
 go_enter Try.func62, Try.ntmps62
 go_wp2
 go_loopg [5] k (fun kq v5 w' => ∃ (x5_1 : Int), v5 = .int .i64 x5_1 ∧ Aside0 (aQ.l0 kq a0 a1 x5_1 = some r) ∧ Aside0 (kq ≤ k) ∧ dw w w')
 case atStart => exact ⟨(0), Z6, H', ⟨Nat.le_refl _⟩, Z8⟩
 case round =>
  clear H'
  try clear p2
  obtain ⟨x5_1, rfl, HA, HK1, ⟨m1, rfl⟩⟩ := hrel
  cases gk with
  | zero => exact absurd HA.out (by simp [aQ.l0])
  | succ k1 =>
   have H := HA.out
   clear HA
   simp only [aQ.l0] at H
   revert H
   refine fO (fun c3b0 H => ?_) fun c3b0 H => ?_
   ·obtain ⟨ji4, hji4⟩ : ∃ j_ : Int, (wrap64 (a1 + x5_1)) = j_ := ⟨_, rfl⟩
    replace H : (if 0 ≤ (ji4) then ((bI.f (bt a0 (ji4))).bind fun t826 => (if t826 = true then (aQ.l0 k1 a0 a1 (wrap64 (x5_1 + 1))) else (if x5_1 > 0 then ((bK.f (bt a0 (ji4))).bind fun t827 => (if t827 = true then (aQ.l0 k1 a0 a1 (wrap64 (x5_1 + 1))) else (if (bt a0 (ji4)) = 95 then (aQ.l0 k1 a0 a1 (wrap64 (x5_1 + 1))) else (some x5_1)))) else (some x5_1)))) else (none)) = some r := by first | (rw [hji4] at H; exact H) | (simp only [hji4] at H ⊢; exact H)
    (try rw [hji4] at c3b0)
    have hji4w : (IntKind.i64.wrap (a1 + x5_1)) = ji4 := (dE _).trans hji4
    revert H
    refine eQ (fun c5b0 H => ?_) fun c5 H => ?_
    ·revert H
     refine yB1 fun t826 A7 H => ?_
     cases t826
     rotate_left
     ·replace H := yT H
      have H' := Aside0.mk H
      clear H
      have p6 : 0 ≤ ((ji4) : Int) := of_decide_eq_true Z5
      have q6 : (ji4) < (a0.size : Int) := of_decide_eq_true Z5
      have hx6 := dL a0 (ji4)
      replace p6 := eq_true p6
      replace q6 := eq_true q6
      go_wp2_with (first | (go_at_call 61; (with_reducible refine (bI.calls (bt a0 (ji4)) true _ A7.out).mono ?_); rintro e w' ⟨rfl, ⟨nd, rfl⟩⟩))
      go_roundg k1
      case measure => have := HK1.out; omega
      case rel => exact ⟨(wrap64 (x5_1 + 1)), Z6, H', ⟨by have := HK1.out; omega⟩, Z8⟩
     replace H := yF H
     revert H
     refine dX (fun c9 H => ?_) fun c9 H => ?_
     ·have c9b0 : decide (0 < x5_1) = true := decide_eq_true c9
      clear c9
      revert H
      refine yB1 fun t827 A11 H => ?_
      cases t827
      rotate_left
      ·replace H := yT H
       have H' := Aside0.mk H
       clear H
       have p6 : 0 ≤ ((ji4) : Int) := of_decide_eq_true Z5
       have q6 : (ji4) < (a0.size : Int) := of_decide_eq_true Z5
       have hx6 := dL a0 (ji4)
       replace p6 := eq_true p6
       replace q6 := eq_true q6
       go_wp2_with (first | (go_at_call 61; (with_reducible refine (bI.calls (bt a0 (ji4)) false _ A7.out).mono ?_); rintro e w' ⟨rfl, ⟨nd, rfl⟩⟩; have p10 : 0 ≤ ((ji4) : Int) := of_decide_eq_true Z5; have q10 : (ji4) < (a0.size : Int) := of_decide_eq_true Z5; have hx10 := dL a0 (ji4); replace p10 := eq_true p10; replace q10 := eq_true q10) | (go_at_call 64; (with_reducible refine (bK.calls (bt a0 (ji4)) true _ A11.out).mono ?_); rintro e w' ⟨rfl, ⟨nd, rfl⟩⟩))
       go_roundg k1
       case measure => have := HK1.out; omega
       case rel => exact ⟨(wrap64 (x5_1 + 1)), Z6, H', ⟨by have := HK1.out; omega⟩, Z8⟩
      replace H := yF H
      revert H
      refine aJ (fun c14b0 c14b1 H => ?_) fun c14 c14b0 c14b1 H => ?_
      ·have H' := Aside0.mk H
       clear H
       have p6 : 0 ≤ ((ji4) : Int) := of_decide_eq_true Z5
       have q6 : (ji4) < (a0.size : Int) := of_decide_eq_true Z5
       have hx6 := dL a0 (ji4)
       replace p6 := eq_true p6
       replace q6 := eq_true q6
       go_wp2_with (first | (go_at_call 61; (with_reducible refine (bI.calls (bt a0 (ji4)) false _ A7.out).mono ?_); rintro e w' ⟨rfl, ⟨nd, rfl⟩⟩; have p10 : 0 ≤ ((ji4) : Int) := of_decide_eq_true Z5; have q10 : (ji4) < (a0.size : Int) := of_decide_eq_true Z5; have hx10 := dL a0 (ji4); replace p10 := eq_true p10; replace q10 := eq_true q10) | (go_at_call 64; (with_reducible refine (bK.calls (bt a0 (ji4)) false _ A11.out).mono ?_); rintro e w' ⟨rfl, ⟨nd, rfl⟩⟩; have p13 : 0 ≤ ((ji4) : Int) := of_decide_eq_true Z5; have q13 : (ji4) < (a0.size : Int) := of_decide_eq_true Z5; have hx13 := dL a0 (ji4); replace p13 := eq_true p13; replace q13 := eq_true q13))
       go_roundg k1
       case measure => have := HK1.out; omega
       case rel => exact ⟨(wrap64 (x5_1 + 1)), Z6, H', ⟨by have := HK1.out; omega⟩, Z8⟩
      obtain rfl := Option.some.inj H
      have p6 : 0 ≤ ((ji4) : Int) := of_decide_eq_true Z5
      have q6 : (ji4) < (a0.size : Int) := of_decide_eq_true Z5
      have hx6 := dL a0 (ji4)
      replace p6 := eq_true p6
      replace q6 := eq_true q6
      go_wp2_with (first | (go_at_call 61; (with_reducible refine (bI.calls (bt a0 (ji4)) false _ A7.out).mono ?_); rintro e w' ⟨rfl, ⟨nd, rfl⟩⟩; have p10 : 0 ≤ ((ji4) : Int) := of_decide_eq_true Z5; have q10 : (ji4) < (a0.size : Int) := of_decide_eq_true Z5; have hx10 := dL a0 (ji4); replace p10 := eq_true p10; replace q10 := eq_true q10) | (go_at_call 64; (with_reducible refine (bK.calls (bt a0 (ji4)) false _ A11.out).mono ?_); rintro e w' ⟨rfl, ⟨nd, rfl⟩⟩; have p13 : 0 ≤ ((ji4) : Int) := of_decide_eq_true Z5; have q13 : (ji4) < (a0.size : Int) := of_decide_eq_true Z5; have hx13 := dL a0 (ji4); replace p13 := eq_true p13; replace q13 := eq_true q13))
      go_ret
      exact ⟨by first | rfl | (simp; done) | (simp only [← hji4] <;> (first | rfl | simp)) | (simp [*]; done), Z8⟩
     have c9b0 : decide (0 < x5_1) = false := decide_eq_false c9
     clear c9
     obtain rfl := Option.some.inj H
     have p6 : 0 ≤ ((ji4) : Int) := of_decide_eq_true Z5
     have q6 : (ji4) < (a0.size : Int) := of_decide_eq_true Z5
     have hx6 := dL a0 (ji4)
     replace p6 := eq_true p6
     replace q6 := eq_true q6
     go_wp2_with (first | (go_at_call 61; (with_reducible refine (bI.calls (bt a0 (ji4)) false _ A7.out).mono ?_); rintro e w' ⟨rfl, ⟨nd, rfl⟩⟩))
     go_ret
     exact ⟨by first | rfl | (simp; done) | (simp only [← hji4] <;> (first | rfl | simp)) | (simp [*]; done), Z8⟩
    exact absurd H (by simp)
   obtain rfl := Option.some.inj H
   go_wp2
   go_ret
   exact ⟨Z6, Z8⟩
end Go.Proofs.Ytendgafpkeadhaa.Q
end
