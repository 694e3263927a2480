/- Walks over functions of the program, words for them, and what the functions come to; of each text only what this claim uses; no condition. -/
import Derived.Test.YtlenihbmafkegaaZSA0
import Derived.Test.YtlenihbmafkegaaZSA1
import Derived.Test.YtlenihbmafkegaaZSA3
import Derived.Test.YtlenihbmafkegaaZSA4
import Derived.Test.YtlenihbmafkegaaZSA5
import Derived.Test.YtlenihbmafkegaaZSA6
section
namespace Go.Proofs.Ytlenihbmafkegaa.Q
open Go.RowKit Go.Proofs.YtlenihbmafkegaaW.PrintWords Go.Proofs.YtlenihbmafkegaaW.PrintLast Go.Proofs.YtlenihbmafkegaaW.PrintMore
attribute [local go_sem] dC dA dP dO cZ cO dB dw
set_option linter.unusedVariables false
set_option linter.unusedSimpArgs false
/-! ### aW: function 8 -/
mutual
def aW.j0 : Nat → List (S40) → Bool → Option (Int × Int)
 | 0, _, _ => none
 | k + 1, x0, x13 => if x13 = true then (some (2, 0)) else ((bu.f k x0).bind fun t167 => (if t167 > 60 then (some (3, 0)) else (if 0 < (x0.length : Int) then (if ((au x0 0).f0) = 1 then (aW.l0 k x0 x0 (x0.length : Int) 0) else (some (4, 0))) else (none))))
def aW.l0 : Nat → List (S40) → List (S40) → Int → Int → Option (Int × Int)
 | 0, _, _, _, _ => none
 | k + 1, x0, x34, x35, x36 => if x36 < x35 then (if 0 ≤ x36 then (if x36 < (x34.length : Int) then ((bU.f k x0 x36).bind fun t171 => (aW.l1 k x0 x36 ([] : List Int) x34 x35 x36 t171 (t171.length : Int) 0 ((au x34 x36).f0) ((au x34 x36).f1) ((au x34 x36).f2) ((au x34 x36).f3) ((au x34 x36).f4))) else (none)) else (none)) else (some (0, 0))
def aW.l1 : Nat → List (S40) → Int → List Int → List (S40) → Int → Int → List Int → Int → Int → Int → Int → ByteArray → Int → ByteArray → Option (Int × Int)
 | 0, _, _, _, _, _, _, _, _, _, _, _, _, _, _ => none
 | k + 1, x0, x4, x6, x34, x35, x36, x43, x44, x45, x171000, x171001, x171002, x171003, x171004 => if x45 < x44 then (if 0 ≤ x45 then (if x45 < (x43.length : Int) then (if 0 ≤ (rd x43 x45) then (if (rd x43 x45) < (x0.length : Int) then (if x6.length < 17592186044416 then (aW.l1 k x0 x4 (x6 ++ [(au x0 (rd x43 x45)).f0]) x34 x35 x36 x43 x44 (wrap64 (x45 + 1)) x171000 x171001 x171002 x171003 x171004) else (none)) else (none)) else (none)) else (none)) else (none)) else ((bF.f k x171000 x171001 x171002 x171003 x171004).bind fun t179 => (if t179 = true then ((aY.f k x171000 x6).bind fun t180 => (if t180 = true then (aW.l0 k x0 x34 x35 (wrap64 (x36 + 1))) else (some (4, x4)))) else (some (4, x4))))
end
def aW.f (k : Nat) (l0 : List (S40)) : Option (Int × Int) := if (l0.length : Int) > 2000 then (some (3, 0)) else (if (l0.length : Int) = 0 then (aW.j0 k l0 true) else ((bK.f k l0 0).bind fun t166 => (aW.j0 k l0 (t166 != (l0.length : Int)))))
theorem aW.cu : ∀ k, (∀ y0 y1, LeO (aW.j0 k y0 y1) (aW.j0 (k + 1) y0 y1)) ∧ (∀ y0 y1 y2 y3, LeO (aW.l0 k y0 y1 y2 y3) (aW.l0 (k + 1) y0 y1 y2 y3)) ∧ (∀ y0 y1 y2 y3 y4 y5 y6 y7 y8 y9 y10 y11 y12 y13, LeO (aW.l1 k y0 y1 y2 y3 y4 y5 y6 y7 y8 y9 y10 y11 y12 y13) (aW.l1 (k + 1) y0 y1 y2 y3 y4 y5 y6 y7 y8 y9 y10 y11 y12 y13))
 | 0 => ⟨fun _ _ r h => by simp [aW.j0] at h, fun _ _ _ _ r h => by simp [aW.l0] at h, fun _ _ _ _ _ _ _ _ _ _ _ _ _ _ r h => by simp [aW.l1] at h⟩
 | k + 1 => by
  obtain ⟨ih0, ih1, ih2⟩ := aW.cu k
  refine ⟨?_, ?_, ?_⟩
  ·intro y0 y1
   unfold aW.j0
   have m0 := bu.mono
   have m1 := bK.mono
   have m2 := bU.mono
   have m3 := bF.mono
   have m4 := aY.mono
   exact yL
  ·intro y0 y1 y2 y3
   unfold aW.l0
   have m0 := bu.mono
   have m1 := bK.mono
   have m2 := bU.mono
   have m3 := bF.mono
   have m4 := aY.mono
   exact yL
  intro y0 y1 y2 y3 y4 y5 y6 y7 y8 y9 y10 y11 y12 y13
  unfold aW.l1
  have m0 := bu.mono
  have m1 := bK.mono
  have m2 := bU.mono
  have m3 := bF.mono
  have m4 := aY.mono
  exact yL
theorem aW.mono : ∀ a0 k, LeO (aW.f k a0) (aW.f (k + 1) a0) := by
 intro a0 k
 obtain ⟨ih0, ih1, ih2⟩ := aW.cu k
 unfold aW.f
 have m0 := bu.mono
 have m1 := bK.mono
 have m2 := bU.mono
 have m3 := bF.mono
 have m4 := aY.mono
 exact yL
set_option maxHeartbeats 8000000 in
set_option maxRecDepth 100000 in
theorem aW.calls (k : Nat) (A0 : Option Addr) (c0 : Nat) (l0 : List (S40)) (r1 : Int) (r2 : Int) (w : World) (hr0 : Kd.C k40 w A0 l0.length l0) (hc0 : l0.length ≤ c0) (h : aW.f k l0 = some (r1, r2)) :
 Calls Try.prog 8 #[.slice A0 l0.length c0] w fun e w' => e = .returned (.tuple #[.int .i64 r1, .int .i64 r2]) ∧ Below w.heap.size w w' := by
 have hu40 := Try.underlying40
 have HR0 := ae.mk hr0
 have HC0 := ae.mk hc0
 clear hr0 hc0
 have HB := ae.mk (Below.refl w.heap.size w)
 have H := h
 clear h
 unfold aW.f at H
 revert H
 refine gZ (fun c2 H => ?_) fun c2 H => ?_
 ·have c2b0 : decide (2000 < (l0.length : Int)) = true := decide_eq_true c2
  have c2b1 : decide (2000 < l0.length) = true := decide_eq_true (by omega)
  clear c2
  simp only [Option.some.injEq, Prod.mk.injEq] at H
  obtain ⟨rfl, rfl⟩ := H
  go_enter Try.func8, Try.ntmps8
  go_wp2
  go_ret2
  exact ⟨eT, bT HB⟩
 have c2b0 : decide (2000 < (l0.length : Int)) = false := decide_eq_false c2
 have c2b1 : decide (2000 < l0.length) = false := decide_eq_false (by omega)
 clear c2
 have HC3 := ae.mk H
 clear H
 go_enter Try.func8, Try.ntmps8
 go_upto_region 3 with (fail)
 go_cut [13] (fun v13 wc => ∃ (kq : Nat) (x13_2 : Bool), v13 = .bool x13_2 ∧ ae (aW.j0 kq l0 x13_2 = some (r1, r2)) ∧ ae (kq ≤ k) ∧ ae (Below w.heap.size w wc))
 case first =>
  have H := HC3.out
  clear HC3
  revert H
  refine bn (fun c4b0 c4b1 H => ?_) fun c4 c4b0 c4b1 H => ?_
  ·(first | rw [c4b0] | (simp only [gB, iP]; rw [c4b0]) | skip)
   have H' := ae.mk H
   clear H
   go_wp2
   go_meet
   case rel => exact ⟨_, (true), fT, H', ⟨Z13⟩, ⟨bT HB⟩⟩
  have c4b2 : ¬ (l0 = []) := fun h_ => c4 (by rw [h_]; rfl)
  (first | rw [c4b0] | (simp only [gB, iP]; rw [c4b0]) | skip)
  revert H
  refine yB1 fun t166 A5 H => ?_
  have H' := ae.mk H
  clear H
  go_wp2_with (first | (go_at_call 16; (with_reducible refine (bK.calls k _ _ l0 0 t166 _ ?side1 ?side2 A5.out).mono ?_); (case side1 => exact Z10); (case side2 => exact HC0.out); rintro e w' ⟨rfl, ⟨nd, rfl⟩⟩))
  go_meet
  case rel => exact ⟨_, ((t166 != (l0.length : Int))), fT, H', ⟨Z13⟩, ⟨bT HB⟩⟩
 case rest =>
  clear HC3
  try clear c2
  try clear c2b0
  try clear c2b1
  try clear p2
  try clear c4
  try clear c4b0
  try clear c4b1
  try clear c4b2
  obtain ⟨kq, x13_2, rfl, HA, HJ2, HB⟩ := hcut
  cases kq with
  | zero => exact absurd HA.out (by simp [aW.j0])
  | succ kj2 =>
   have H := HA.out
   clear HA
   simp only [aW.j0] at H
   cases x13_2
   rotate_left
   ·replace H := yT H
    simp only [Option.some.injEq, Prod.mk.injEq] at H
    obtain ⟨rfl, rfl⟩ := H
    go_wp2
    go_ret2
    exact ⟨eT, bT HB⟩
   replace H := yF H
   revert H
   refine yB1 fun t167 A7 H => ?_
   revert H
   refine gZ (fun c8 H => ?_) fun c8 H => ?_
   ·have c8b0 : decide (60 < t167) = true := decide_eq_true c8
    clear c8
    simp only [Option.some.injEq, Prod.mk.injEq] at H
    obtain ⟨rfl, rfl⟩ := H
    go_wp2_with (first | ((with_reducible refine gC 17 rfl ?_); refine gM 17 26 rfl Try.func17 (bu.calls kj2 _ _ l0 t167 _ Z10 HC0.out A7.out) ?_; rintro _ w9 ⟨rfl, hb⟩; refine ⟨_, rfl, yA1 (aj (bT HB) hb) ?_⟩; clear HB hb; intro HB))
    go_ret2
    exact ⟨eT, bT HB⟩
   have c8b0 : decide (60 < t167) = false := decide_eq_false c8
   clear c8
   revert H
   refine yP (fun c10 c10b0 H => ?_) fun c10 H => ?_
   ·have c10b1 : decide (0 < l0.length) = true := decide_eq_true (by omega)
    clear c10
    revert H
    refine bn (fun c11b0 c11b1 H => ?_) fun c11 c11b0 c11b1 H => ?_
    ·have H' := ae.mk H
     clear H
     go_wp2_with (first | ((with_reducible refine gC 17 rfl ?_); refine gM 17 26 rfl Try.func17 (bu.calls kj2 _ _ l0 t167 _ Z10 HC0.out A7.out) ?_; rintro _ w12 ⟨rfl, hb⟩; refine ⟨_, rfl, yA1 (aj (bT HB) hb) ?_⟩; clear HB hb; intro HB; have p168 : 0 ≤ (0 : Int) := (by omega); have q168 : 0 < (l0.length : Int) := of_decide_eq_true aT; obtain ⟨ad168, e168, hx168_0, hx168_1, hx168_2, hx168_3, hx168_4⟩ := kF HR0.out 0 p168 q168; cases e168; have qi168 : (0 < l0.length) = True := eq_true (by omega); (try rw [show ((0 : Int)).toNat = 0 from rfl] at hx168_0); (try rw [show 0 * 5 = 0 from rfl] at hx168_0); (try rw [Addr.add_zero'] at hx168_0); (try rw [show ((0 : Int)).toNat = 0 from rfl] at hx168_1); (try rw [show 0 * 5 = 0 from rfl] at hx168_1); (try rw [Addr.add_zero'] at hx168_1); (try rw [show ((0 : Int)).toNat = 0 from rfl] at hx168_2); (try rw [show 0 * 5 = 0 from rfl] at hx168_2); (try rw [Addr.add_zero'] at hx168_2); (try rw [show ((0 : Int)).toNat = 0 from rfl] at hx168_3); (try rw [show 0 * 5 = 0 from rfl] at hx168_3); (try rw [Addr.add_zero'] at hx168_3); (try rw [show ((0 : Int)).toNat = 0 from rfl] at hx168_4); (try rw [show 0 * 5 = 0 from rfl] at hx168_4); (try rw [Addr.add_zero'] at hx168_4); replace hx168_0 := (HB.out.cell (World.block_lt_of_cell? w _ hx168_0)).trans hx168_0; replace hx168_1 := (HB.out.cell (World.block_lt_of_cell? w _ hx168_1)).trans hx168_1; replace hx168_2 := (HB.out.cell (World.block_lt_of_cell? w _ hx168_2)).trans hx168_2; replace hx168_3 := (HB.out.cell (World.block_lt_of_cell? w _ hx168_3)).trans hx168_3; replace hx168_4 := (HB.out.cell (World.block_lt_of_cell? w _ hx168_4)).trans hx168_4; replace p168 := eq_true p168; replace q168 := eq_true q168))
     go_loopg [36] kj2 (fun kq v36 w' => ∃ (x36_2 : Int), v36 = .int .i64 x36_2 ∧ ae (aW.l0 kq l0 l0 (l0.length : Int) x36_2 = some (r1, r2)) ∧ ae (kq ≤ kj2) ∧ ae (Below w.heap.size w w'))
     case atStart => exact ⟨(0), fT, H', ⟨Nat.le_refl _⟩, ⟨bT HB⟩⟩
     case round =>
      clear H'
      try clear c1
      try clear p1
      try clear q1
      try clear hx1
      try clear qi1
      try clear c2
      try clear c2b0
      try clear c2b1
      try clear p2
      try clear c4
      try clear c4b0
      try clear c4b1
      try clear c4b2
      try clear c6
      try clear c8
      try clear c8b0
      try clear c10
      try clear c10b0
      try clear c10b1
      try clear c11
      try clear c11b0
      try clear c11b1
      try clear hx168_0
      try clear hx168_1
      try clear hx168_2
      try clear hx168_3
      try clear hx168_4
      try clear p168
      try clear p2
      try clear q168
      obtain ⟨x36_2, rfl, HA, HK2, HB⟩ := hrel
      cases gk with
      | zero => exact absurd HA.out (by simp [aW.l0])
      | succ k2 =>
       have H := HA.out
       clear HA
       simp only [aW.l0] at H
       revert H
       refine jU (fun c13b0 H => ?_) fun c13b0 H => ?_
       ·revert H
        refine gY (fun c14b0 H => ?_) fun c14 H => ?_
        ·revert H
         refine gY (fun c15b0 H => ?_) fun c15 H => ?_
         ·revert H
          refine yB1 fun t171 A16 H => ?_
          have H' := ae.mk H
          clear H
          have p169 : 0 ≤ (x36_2 : Int) := of_decide_eq_true aT
          have q169 : x36_2 < (l0.length : Int) := of_decide_eq_true aT
          obtain ⟨ad169, e169, hx169_0, hx169_1, hx169_2, hx169_3, hx169_4⟩ := kF HR0.out x36_2 p169 q169
          obtain rfl : ad168 = ad169 := (by injection e169)
          replace hx169_0 := (HB.out.cell (World.block_lt_of_cell? w _ hx169_0)).trans hx169_0
          replace hx169_1 := (HB.out.cell (World.block_lt_of_cell? w _ hx169_1)).trans hx169_1
          replace hx169_2 := (HB.out.cell (World.block_lt_of_cell? w _ hx169_2)).trans hx169_2
          replace hx169_3 := (HB.out.cell (World.block_lt_of_cell? w _ hx169_3)).trans hx169_3
          replace hx169_4 := (HB.out.cell (World.block_lt_of_cell? w _ hx169_4)).trans hx169_4
          replace p169 := eq_true p169
          replace q169 := eq_true q169
          go_wp2_with (first | ((with_reducible refine bI (N := 5) rfl ?_); (try (refine oZ (by rfl) ?_; dsimp only)); refine dW ?hg (N := 5) ?hd (cs := #[.int .i64 0, .int .i64 0, .string (⟨#[]⟩ : ByteArray), .int .i64 0, .string (⟨#[]⟩ : ByteArray)]) (t := 40) ?hr ?_; (case hd => rfl); (case hg => rfl); (case hr => first | (go_simp; done) | (go_simp; rfl)); intro gb170 hg w17 hbox hb; refine yA4 (aj (bT HB) hb) (hbox) ((by rw [hg]; exact (aG (bT HB)) : w.heap.size ≤ gb170)) ((by rw [hg]; exact (aG (bT HB)) : w.heap.size ≤ gb170)) ?_; clear HB; intro HB BK170 GW170 GE170; clear hb hbox hg; have hcz18_0 : w17.cell? ⟨gb170, 0, none⟩ = some (.int .i64 0) := (ah BK170.out 0).trans rfl; have hcz18_1 : w17.cell? ⟨gb170, 1, none⟩ = some (.int .i64 0) := (ah BK170.out 1).trans rfl; have hcz18_2 : w17.cell? ⟨gb170, 2, none⟩ = some (.string (⟨#[]⟩ : ByteArray)) := (ah BK170.out 2).trans rfl; have hcz18_3 : w17.cell? ⟨gb170, 3, none⟩ = some (.int .i64 0) := (ah BK170.out 3).trans rfl; have hcz18_4 : w17.cell? ⟨gb170, 4, none⟩ = some (.string (⟨#[]⟩ : ByteArray)) := (ah BK170.out 4).trans rfl; have hfz18_0 := af BK170.out 0; have hfz18_1 := af BK170.out 1; have hfz18_2 := af BK170.out 2; have hfz18_3 := af BK170.out 3; have hfz18_4 := af BK170.out 4) | ((with_reducible refine gC 18 rfl ?_); refine gM 18 43 rfl Try.func18 (bU.calls k2 _ _ l0 x36_2 t171 _ (Kd.ik HR0.out (bT HB)) HC0.out A16.out) ?_; rintro _ w19 ⟨v172, rfl, ho0, hb⟩; refine ⟨_, rfl, yA3 (Kd.dm ho0 (aG (bT HB))) (eH (g := gb170) (o := .cells #[.int .i64 ((au l0 x36_2).f0), .int .i64 ((au l0 x36_2).f1), .string ((au l0 x36_2).f2), .int .i64 ((au l0 x36_2).f3), .string ((au l0 x36_2).f4)] 40 (0, 0)) (by refine dE (cs := #[.int .i64 ((au l0 x36_2).f0), .int .i64 ((au l0 x36_2).f1), .string ((au l0 x36_2).f2), .int .i64 ((au l0 x36_2).f3), .string (⟨#[]⟩ : ByteArray)]) ?_ 4 _ rfl; refine dE (cs := #[.int .i64 ((au l0 x36_2).f0), .int .i64 ((au l0 x36_2).f1), .string ((au l0 x36_2).f2), .int .i64 0, .string (⟨#[]⟩ : ByteArray)]) ?_ 3 _ rfl; refine dE (cs := #[.int .i64 ((au l0 x36_2).f0), .int .i64 ((au l0 x36_2).f1), .string (⟨#[]⟩ : ByteArray), .int .i64 0, .string (⟨#[]⟩ : ByteArray)]) ?_ 2 _ rfl; refine dE (cs := #[.int .i64 ((au l0 x36_2).f0), .int .i64 0, .string (⟨#[]⟩ : ByteArray), .int .i64 0, .string (⟨#[]⟩ : ByteArray)]) ?_ 1 _ rfl; refine dE (cs := #[.int .i64 0, .int .i64 0, .string (⟨#[]⟩ : ByteArray), .int .i64 0, .string (⟨#[]⟩ : ByteArray)]) ?_ 0 _ rfl; exact BK170.out) hb) (aj (bT HB) hb) ?_⟩; clear BK170 HB hb ho0; intro HO173 BK170 HB; obtain ⟨Ao20, co20, rfl⟩ := Kd.bY HO173.out))
          go_loopg [6, 45] k2 (fun kq v6 v45 w' => ∃ (x6_3 : List Int) (x45_3 : Int), v45 = .int .i64 x45_3 ∧ ae (aW.l1 kq l0 x36_2 x6_3 l0 (l0.length : Int) x36_2 t171 (t171.length : Int) x45_3 ((au l0 x36_2).f0) ((au l0 x36_2).f1) ((au l0 x36_2).f2) ((au l0 x36_2).f3) ((au l0 x36_2).f4) = some (r1, r2)) ∧ ae (kq ≤ k2) ∧ ae (Kd.R (Kd.int .i64) 3 w' w.heap.size (fun k_ => some k_ ≠ ((.slice Ao20 t171.length co20) : Value).ownBlock) v6 x6_3) ∧ ae (Kd.R (Kd.int .i64) 3 w' w.heap.size (fun k_ => some k_ ≠ (v6 : Value).ownBlock) (.slice Ao20 t171.length co20) t171) ∧ ae (w'.heap[gb170]? = some (.cells #[.int .i64 ((au l0 x36_2).f0), .int .i64 ((au l0 x36_2).f1), .string ((au l0 x36_2).f2), .int .i64 ((au l0 x36_2).f3), .string ((au l0 x36_2).f4)] 40 (0, 0))) ∧ ae (Below w.heap.size w w'))
          case atStart => exact ⟨(([] : List Int)), (0), fT, H', ⟨Nat.le_refl _⟩, ⟨Z5⟩, ⟨by (with_reducible repeat (first | apply Kd.jQ | apply Kd.kw | apply Kd.lM)); exact Kd.fK HO173.out (fun _ hk => (by simp [Value.ownBlock]))⟩, ⟨by exact BK170.out⟩, ⟨bT HB⟩⟩
          case round =>
           clear H'
           try clear c1
           try clear p1
           try clear q1
           try clear hx1
           try clear qi1
           try clear c2
           try clear c2b0
           try clear c2b1
           try clear p2
           try clear c4
           try clear c4b0
           try clear c4b1
           try clear c4b2
           try clear c6
           try clear c8
           try clear c8b0
           try clear c10
           try clear c10b0
           try clear c10b1
           try clear c11
           try clear c11b0
           try clear c11b1
           try clear c13
           try clear c13b0
           try clear c14
           try clear c14b0
           try clear c15
           try clear c15b0
           try clear p16
           try clear q16
           try clear hx16
           try clear qi16
           try clear c17
           try clear c18
           try clear hcz18_0
           try clear hcz18_1
           try clear hcz18_2
           try clear hcz18_3
           try clear hcz18_4
           try clear hfz18_0
           try clear hfz18_1
           try clear hfz18_2
           try clear hfz18_3
           try clear hfz18_4
           try clear hx168_0
           try clear hx168_1
           try clear hx168_2
           try clear hx168_3
           try clear hx168_4
           try clear hx169_0
           try clear hx169_1
           try clear hx169_2
           try clear hx169_3
           try clear hx169_4
           try clear p1
           try clear p168
           try clear p169
           try clear p2
           try clear q1
           try clear q168
           try clear q169
           obtain ⟨x6_3, x45_3, rfl, HA, HK3, HO_6, HO_43, BK170, HB⟩ := hrel
           cases gk with
           | zero => exact absurd HA.out (by simp [aW.l1])
           | succ k3 =>
            have H := HA.out
            clear HA
            simp only [aW.l1] at H
            revert H
            refine jU (fun c21b0 H => ?_) fun c21b0 H => ?_
            ·revert H
             refine gY (fun c22b0 H => ?_) fun c22 H => ?_
             ·revert H
              refine gY (fun c23b0 H => ?_) fun c23 H => ?_
              ·revert H
               refine gY (fun c24b0 H => ?_) fun c24 H => ?_
               ·revert H
                refine gY (fun c25b0 H => ?_) fun c25 H => ?_
                ·revert H
                 refine gZ (fun c26 H => ?_) fun c26 H => ?_
                 ·have LMc26 := ae.mk c26
                  clear c26
                  obtain ⟨y176, hy176⟩ : ∃ y_ : List Int, y_ = (x6_3 ++ [(au l0 (rd t171 x45_3)).f0]) := ⟨_, rfl⟩
                  replace H : (aW.l1 k3 l0 x36_2 y176 l0 (l0.length : Int) x36_2 t171 (t171.length : Int) (wrap64 (x45_3 + 1)) ((au l0 x36_2).f0) ((au l0 x36_2).f1) ((au l0 x36_2).f2) ((au l0 x36_2).f3) ((au l0 x36_2).f4)) = some (r1, r2) := by first | (rw [hy176]; with_reducible exact H) | (have H2_ := (Option.bind_some _ _).symm.trans H; rw [hy176]; with_reducible exact H2_) | (have H2_ := (Option.bind_some _ _).symm.trans H; with_reducible exact H2_) | with_reducible exact H | (rw [hy176]; exact H) | exact H
                  have Ny176 := ae.mk hy176
                  clear hy176
                  have H' := ae.mk H
                  clear H
                  have p174 : 0 ≤ (x45_3 : Int) := of_decide_eq_true aT
                  have q174 : x45_3 < (t171.length : Int) := of_decide_eq_true aT
                  obtain ⟨ad174, e174, hx174_0⟩ := Kd.lK (Kd.aI HO_43.out).2.2 x45_3 p174 q174
                  cases e174
                  replace p174 := eq_true p174
                  replace q174 := eq_true q174
                  have p175 : 0 ≤ ((rd t171 x45_3) : Int) := of_decide_eq_true aT
                  have q175 : (rd t171 x45_3) < (l0.length : Int) := of_decide_eq_true aT
                  obtain ⟨ad175, e175, hx175_0, hx175_1, hx175_2, hx175_3, hx175_4⟩ := kF HR0.out (rd t171 x45_3) p175 q175
                  obtain rfl : ad168 = ad175 := (by injection e175)
                  replace hx175_0 := (HB.out.cell (World.block_lt_of_cell? w _ hx175_0)).trans hx175_0
                  replace hx175_1 := (HB.out.cell (World.block_lt_of_cell? w _ hx175_1)).trans hx175_1
                  replace hx175_2 := (HB.out.cell (World.block_lt_of_cell? w _ hx175_2)).trans hx175_2
                  replace hx175_3 := (HB.out.cell (World.block_lt_of_cell? w _ hx175_3)).trans hx175_3
                  replace hx175_4 := (HB.out.cell (World.block_lt_of_cell? w _ hx175_4)).trans hx175_4
                  replace p175 := eq_true p175
                  replace q175 := eq_true q175
                  go_wp2_with (first | ((with_reducible refine dR (b := .append) (xs := #[.tmp 49, .tmp 55]) rfl ?_); (try (refine oZ (by rfl) ?_; dsimp only)); at_builtin; refine Kd.lZ (Kd.int .i64) (w0 := w) w.heap.size rfl (.tmp 49) (.tmp 55) 45 3 (.int .i64 0) 8 rfl Try.underlying45 info3 rfl (by decide) (by omega) u6 x6_3 ((au l0 (rd t171 x45_3)).f0) [.int .i64 ((au l0 (rd t171 x45_3)).f0)] (fun k_ => some k_ ≠ (.slice (some ad174) t171.length co20 : Value).ownBlock) (fun _ => False) rfl rfl ?aP (fun _ hk => hk.elim) ?aF ?aO ?aB ?aS ?aL ?_; (case aP => exact rfl); (case aB => exact (bT HB)); (case aF => exact (fun k_ hk => Kd.fresh' (Kd.lu (qR HO_43)) k_ hk)); (case aO => exact (qR HO_6)); (case aS => exact (aG (bT HB))); (case aL => have := LMc26.out; omega); intro v177 w27 ho hb hg hat; rw [← Ny176.out] at ho; refine yA4 (Kd.vC (ok := (fun _ => True)) (by (with_reducible repeat (first | apply Kd.jQ | apply Kd.kw | apply Kd.lM)); exact Kd.fK HO_43.out (fun _ hk => ⟨trivial, hk⟩)) hg hat) (kV (g := gb170) (o := .cells #[.int .i64 ((au l0 x36_2).f0), .int .i64 ((au l0 x36_2).f1), .string ((au l0 x36_2).f2), .int .i64 ((au l0 x36_2).f3), .string ((au l0 x36_2).f4)] 40 (0, 0)) (by exact BK170.out) hg (Kd.Be HO_6.out BK170.out (by decide))) (hb) (ho) ?_; clear HO_43 BK170 HB HO_6; intro HO_43 BK170 HB HO178; clear ho hb hg hat))
                  go_roundg k3
                  case measure => have := HJ2.out; have := HK2.out; have := HK3.out; omega
                  case rel => exact ⟨(y176), (wrap64 (x45_3 + 1)), fT, H', ⟨by have := HJ2.out; have := HK2.out; have := HK3.out; omega⟩, ⟨qR HO178⟩, ⟨by (with_reducible repeat (first | apply Kd.jQ | apply Kd.kw | apply Kd.lM)); exact Kd.fK HO_43.out (fun _ hk => hk.2)⟩, ⟨by exact BK170.out⟩, ⟨bT HB⟩⟩
                 exact absurd H (by simp)
                exact absurd H (by simp)
               exact absurd H (by simp)
              exact absurd H (by simp)
             exact absurd H (by simp)
            revert H
            refine yB1 fun t179 A28 H => ?_
            cases t179
            rotate_left
            ·replace H := yT H
             revert H
             refine yB1 fun t180 A30 H => ?_
             cases t180
             rotate_left
             ·replace H := yT H
              have H' := ae.mk H
              clear H
              have hcz32_0 : wr.cell? ⟨gb170, 0, none⟩ = some (.int .i64 ((au l0 x36_2).f0)) := (ah BK170.out 0).trans rfl
              have hcz32_1 : wr.cell? ⟨gb170, 1, none⟩ = some (.int .i64 ((au l0 x36_2).f1)) := (ah BK170.out 1).trans rfl
              have hcz32_2 : wr.cell? ⟨gb170, 2, none⟩ = some (.string ((au l0 x36_2).f2)) := (ah BK170.out 2).trans rfl
              have hcz32_3 : wr.cell? ⟨gb170, 3, none⟩ = some (.int .i64 ((au l0 x36_2).f3)) := (ah BK170.out 3).trans rfl
              have hcz32_4 : wr.cell? ⟨gb170, 4, none⟩ = some (.string ((au l0 x36_2).f4)) := (ah BK170.out 4).trans rfl
              have hfz32_0 := af BK170.out 0
              have hfz32_1 := af BK170.out 1
              have hfz32_2 := af BK170.out 2
              have hfz32_3 := af BK170.out 3
              have hfz32_4 := af BK170.out 4
              go_wp2_with (first | ((with_reducible refine gC 19 rfl ?_); refine gM 19 59 rfl Try.func19 (bF.calls k3 ((au l0 x36_2).f0) ((au l0 x36_2).f1) ((au l0 x36_2).f2) ((au l0 x36_2).f3) ((au l0 x36_2).f4) true _ A28.out) ?_; rintro _ w33 ⟨rfl, hb⟩; refine ⟨_, rfl, yA4 (Kd.aQ (qR HO_6) hb) (Kd.aQ (qR HO_43) hb) (eH (g := gb170) (o := .cells #[.int .i64 ((au l0 x36_2).f0), .int .i64 ((au l0 x36_2).f1), .string ((au l0 x36_2).f2), .int .i64 ((au l0 x36_2).f3), .string ((au l0 x36_2).f4)] 40 (0, 0)) (by exact BK170.out) hb) (aj (bT HB) hb) ?_⟩; clear HO_6 HO_43 BK170 HB hb; intro HO_6 HO_43 BK170 HB; have hcz34_0 : w33.cell? ⟨gb170, 0, none⟩ = some (.int .i64 ((au l0 x36_2).f0)) := (ah BK170.out 0).trans rfl; have hcz34_1 : w33.cell? ⟨gb170, 1, none⟩ = some (.int .i64 ((au l0 x36_2).f1)) := (ah BK170.out 1).trans rfl; have hcz34_2 : w33.cell? ⟨gb170, 2, none⟩ = some (.string ((au l0 x36_2).f2)) := (ah BK170.out 2).trans rfl; have hcz34_3 : w33.cell? ⟨gb170, 3, none⟩ = some (.int .i64 ((au l0 x36_2).f3)) := (ah BK170.out 3).trans rfl; have hcz34_4 : w33.cell? ⟨gb170, 4, none⟩ = some (.string ((au l0 x36_2).f4)) := (ah BK170.out 4).trans rfl; have hfz34_0 := af BK170.out 0; have hfz34_1 := af BK170.out 1; have hfz34_2 := af BK170.out 2; have hfz34_3 := af BK170.out 3; have hfz34_4 := af BK170.out 4; obtain ⟨Ao35, co35, rfl⟩ := Kd.bY HO_6.out) | (go_at_call 20; (with_reducible refine (aY.calls k3 ((au l0 x36_2).f0) _ _ x6_3 true _ ?side1 ?side2 A30.out).mono ?_); (case side1 => repeat (first | exact (Kd.aI HO_6.out).2.2 | (with_reducible refine Kd.fZ ?_ _) | (with_reducible refine Kd.fV ?_ _) | (with_reducible refine Kd.iq ?_))); (case side2 => exact (Kd.aI HO_6.out).2.1); rintro e w36 ⟨rfl, hb⟩; refine yA4 (Kd.aQ (qR HO_6) hb) (Kd.aQ (qR HO_43) hb) (eH (g := gb170) (o := .cells #[.int .i64 ((au l0 x36_2).f0), .int .i64 ((au l0 x36_2).f1), .string ((au l0 x36_2).f2), .int .i64 ((au l0 x36_2).f3), .string ((au l0 x36_2).f4)] 40 (0, 0)) (by exact BK170.out) hb) (aj (bT HB) hb) ?_; clear HO_6 HO_43 BK170 HB; intro HO_6 HO_43 BK170 HB; (try clear hb)))
              go_roundg k3
              case measure => have := HJ2.out; have := HK2.out; have := HK3.out; omega
              case rel => exact ⟨(wrap64 (x36_2 + 1)), fT, H', ⟨by have := HJ2.out; have := HK2.out; have := HK3.out; omega⟩, ⟨bT HB⟩⟩
             replace H := yF H
             simp only [Option.some.injEq, Prod.mk.injEq] at H
             obtain ⟨rfl, rfl⟩ := H
             have hcz37_0 : wr.cell? ⟨gb170, 0, none⟩ = some (.int .i64 ((au l0 x36_2).f0)) := (ah BK170.out 0).trans rfl
             have hcz37_1 : wr.cell? ⟨gb170, 1, none⟩ = some (.int .i64 ((au l0 x36_2).f1)) := (ah BK170.out 1).trans rfl
             have hcz37_2 : wr.cell? ⟨gb170, 2, none⟩ = some (.string ((au l0 x36_2).f2)) := (ah BK170.out 2).trans rfl
             have hcz37_3 : wr.cell? ⟨gb170, 3, none⟩ = some (.int .i64 ((au l0 x36_2).f3)) := (ah BK170.out 3).trans rfl
             have hcz37_4 : wr.cell? ⟨gb170, 4, none⟩ = some (.string ((au l0 x36_2).f4)) := (ah BK170.out 4).trans rfl
             have hfz37_0 := af BK170.out 0
             have hfz37_1 := af BK170.out 1
             have hfz37_2 := af BK170.out 2
             have hfz37_3 := af BK170.out 3
             have hfz37_4 := af BK170.out 4
             go_wp2_with (first | ((with_reducible refine gC 19 rfl ?_); refine gM 19 59 rfl Try.func19 (bF.calls k3 ((au l0 x36_2).f0) ((au l0 x36_2).f1) ((au l0 x36_2).f2) ((au l0 x36_2).f3) ((au l0 x36_2).f4) true _ A28.out) ?_; rintro _ w38 ⟨rfl, hb⟩; refine ⟨_, rfl, yA4 (Kd.aQ (qR HO_6) hb) (Kd.aQ (qR HO_43) hb) (eH (g := gb170) (o := .cells #[.int .i64 ((au l0 x36_2).f0), .int .i64 ((au l0 x36_2).f1), .string ((au l0 x36_2).f2), .int .i64 ((au l0 x36_2).f3), .string ((au l0 x36_2).f4)] 40 (0, 0)) (by exact BK170.out) hb) (aj (bT HB) hb) ?_⟩; clear HO_6 HO_43 BK170 HB hb; intro HO_6 HO_43 BK170 HB; have hcz39_0 : w38.cell? ⟨gb170, 0, none⟩ = some (.int .i64 ((au l0 x36_2).f0)) := (ah BK170.out 0).trans rfl; have hcz39_1 : w38.cell? ⟨gb170, 1, none⟩ = some (.int .i64 ((au l0 x36_2).f1)) := (ah BK170.out 1).trans rfl; have hcz39_2 : w38.cell? ⟨gb170, 2, none⟩ = some (.string ((au l0 x36_2).f2)) := (ah BK170.out 2).trans rfl; have hcz39_3 : w38.cell? ⟨gb170, 3, none⟩ = some (.int .i64 ((au l0 x36_2).f3)) := (ah BK170.out 3).trans rfl; have hcz39_4 : w38.cell? ⟨gb170, 4, none⟩ = some (.string ((au l0 x36_2).f4)) := (ah BK170.out 4).trans rfl; have hfz39_0 := af BK170.out 0; have hfz39_1 := af BK170.out 1; have hfz39_2 := af BK170.out 2; have hfz39_3 := af BK170.out 3; have hfz39_4 := af BK170.out 4; obtain ⟨Ao40, co40, rfl⟩ := Kd.bY HO_6.out) | (go_at_call 20; (with_reducible refine (aY.calls k3 ((au l0 x36_2).f0) _ _ x6_3 false _ ?side1 ?side2 A30.out).mono ?_); (case side1 => repeat (first | exact (Kd.aI HO_6.out).2.2 | (with_reducible refine Kd.fZ ?_ _) | (with_reducible refine Kd.fV ?_ _) | (with_reducible refine Kd.iq ?_))); (case side2 => exact (Kd.aI HO_6.out).2.1); rintro e w41 ⟨rfl, hb⟩; refine yA4 (Kd.aQ (qR HO_6) hb) (Kd.aQ (qR HO_43) hb) (eH (g := gb170) (o := .cells #[.int .i64 ((au l0 x36_2).f0), .int .i64 ((au l0 x36_2).f1), .string ((au l0 x36_2).f2), .int .i64 ((au l0 x36_2).f3), .string ((au l0 x36_2).f4)] 40 (0, 0)) (by exact BK170.out) hb) (aj (bT HB) hb) ?_; clear HO_6 HO_43 BK170 HB; intro HO_6 HO_43 BK170 HB; (try clear hb)))
             go_ret2
             exact ⟨eT, bT HB⟩
            replace H := yF H
            simp only [Option.some.injEq, Prod.mk.injEq] at H
            obtain ⟨rfl, rfl⟩ := H
            have hcz42_0 : wr.cell? ⟨gb170, 0, none⟩ = some (.int .i64 ((au l0 x36_2).f0)) := (ah BK170.out 0).trans rfl
            have hcz42_1 : wr.cell? ⟨gb170, 1, none⟩ = some (.int .i64 ((au l0 x36_2).f1)) := (ah BK170.out 1).trans rfl
            have hcz42_2 : wr.cell? ⟨gb170, 2, none⟩ = some (.string ((au l0 x36_2).f2)) := (ah BK170.out 2).trans rfl
            have hcz42_3 : wr.cell? ⟨gb170, 3, none⟩ = some (.int .i64 ((au l0 x36_2).f3)) := (ah BK170.out 3).trans rfl
            have hcz42_4 : wr.cell? ⟨gb170, 4, none⟩ = some (.string ((au l0 x36_2).f4)) := (ah BK170.out 4).trans rfl
            have hfz42_0 := af BK170.out 0
            have hfz42_1 := af BK170.out 1
            have hfz42_2 := af BK170.out 2
            have hfz42_3 := af BK170.out 3
            have hfz42_4 := af BK170.out 4
            go_wp2_with (first | ((with_reducible refine gC 19 rfl ?_); refine gM 19 59 rfl Try.func19 (bF.calls k3 ((au l0 x36_2).f0) ((au l0 x36_2).f1) ((au l0 x36_2).f2) ((au l0 x36_2).f3) ((au l0 x36_2).f4) false _ A28.out) ?_; rintro _ w43 ⟨rfl, hb⟩; refine ⟨_, rfl, yA4 (Kd.aQ (qR HO_6) hb) (Kd.aQ (qR HO_43) hb) (eH (g := gb170) (o := .cells #[.int .i64 ((au l0 x36_2).f0), .int .i64 ((au l0 x36_2).f1), .string ((au l0 x36_2).f2), .int .i64 ((au l0 x36_2).f3), .string ((au l0 x36_2).f4)] 40 (0, 0)) (by exact BK170.out) hb) (aj (bT HB) hb) ?_⟩; clear HO_6 HO_43 BK170 HB hb; intro HO_6 HO_43 BK170 HB))
            go_ret2
            exact ⟨eT, bT HB⟩
         exact absurd H (by simp)
        exact absurd H (by simp)
       simp only [Option.some.injEq, Prod.mk.injEq] at H
       obtain ⟨rfl, rfl⟩ := H
       go_wp2
       go_ret2
       exact ⟨eT, bT HB⟩
    simp only [Option.some.injEq, Prod.mk.injEq] at H
    obtain ⟨rfl, rfl⟩ := H
    go_wp2_with (first | ((with_reducible refine gC 17 rfl ?_); refine gM 17 26 rfl Try.func17 (bu.calls kj2 _ _ l0 t167 _ Z10 HC0.out A7.out) ?_; rintro _ w44 ⟨rfl, hb⟩; refine ⟨_, rfl, yA1 (aj (bT HB) hb) ?_⟩; clear HB hb; intro HB; have p168 : 0 ≤ (0 : Int) := (by omega); have q168 : 0 < (l0.length : Int) := of_decide_eq_true aT; obtain ⟨ad168, e168, hx168_0, hx168_1, hx168_2, hx168_3, hx168_4⟩ := kF HR0.out 0 p168 q168; cases e168; have qi168 : (0 < l0.length) = True := eq_true (by omega); (try rw [show ((0 : Int)).toNat = 0 from rfl] at hx168_0); (try rw [show 0 * 5 = 0 from rfl] at hx168_0); (try rw [Addr.add_zero'] at hx168_0); (try rw [show ((0 : Int)).toNat = 0 from rfl] at hx168_1); (try rw [show 0 * 5 = 0 from rfl] at hx168_1); (try rw [Addr.add_zero'] at hx168_1); (try rw [show ((0 : Int)).toNat = 0 from rfl] at hx168_2); (try rw [show 0 * 5 = 0 from rfl] at hx168_2); (try rw [Addr.add_zero'] at hx168_2); (try rw [show ((0 : Int)).toNat = 0 from rfl] at hx168_3); (try rw [show 0 * 5 = 0 from rfl] at hx168_3); (try rw [Addr.add_zero'] at hx168_3); (try rw [show ((0 : Int)).toNat = 0 from rfl] at hx168_4); (try rw [show 0 * 5 = 0 from rfl] at hx168_4); (try rw [Addr.add_zero'] at hx168_4); replace hx168_0 := (HB.out.cell (World.block_lt_of_cell? w _ hx168_0)).trans hx168_0; replace hx168_1 := (HB.out.cell (World.block_lt_of_cell? w _ hx168_1)).trans hx168_1; replace hx168_2 := (HB.out.cell (World.block_lt_of_cell? w _ hx168_2)).trans hx168_2; replace hx168_3 := (HB.out.cell (World.block_lt_of_cell? w _ hx168_3)).trans hx168_3; replace hx168_4 := (HB.out.cell (World.block_lt_of_cell? w _ hx168_4)).trans hx168_4; replace p168 := eq_true p168; replace q168 := eq_true q168))
    go_ret2
    exact ⟨eT, bT HB⟩
   exact absurd H (by simp)
end Go.Proofs.Ytlenihbmafkegaa.Q
end
section
set_option linter.unusedVariables false
set_option linter.unusedSimpArgs false
namespace Go.Proofs.Ytlenihbmafkegaa.Q
open Go Go.RowKit Go.Proofs.YtlenihbmafkegaaW.PrintWords Go.Proofs.YtlenihbmafkegaaW.PrintLast Go.Proofs.YtlenihbmafkegaaW.PrintMore
theorem NK (F : kz) (HF : jP F) (k g : Nat) (l : List S40) (out r : List S56) (i : Int) (w0 w : World) (hI : Wr w0 w g l out) (hB : Below w0.heap.size w0 w) (h : rf F k l i out = some r) :
 Calls Try.prog 22 #[.pointer (some ⟨g, 0, none⟩), .int .i64 i] w (kC w0 w g l r) := by
 unfold rf at h
 by_cases c : 0 ≤ i ∧ i < (l.length : Int)
 ·rw [if_pos c] at h
  obtain ⟨xs, hk, h⟩ := Option.bind_eq_some_iff.mp h
  obtain ⟨A0, c0, v, HV⟩ := hI
  obtain ⟨ad, rfl, hx0, hx1, hx2, hx3, hx4⟩ := kF HV.2.2.1 i c.1 c.2
  generalize hxx : au l i = x at *
  obtain ⟨x0, x1, x2, x3, x4⟩ := x
  dsimp only at hx0 hx1 hx2 hx3 hx4 h
  have HS := Ws.new HV.wr hB
  have hb := hB.size
  have hc : ∀ {p v}, w0.cell? p = some v → w.cell? p = some v := fun h => aV hB h
  unfold ql at h
  obtain ⟨s, hs, h⟩ := Option.bind_eq_some_iff.mp h
  cases s
  ·rw [if_neg (by decide)] at h
   obtain ⟨e, he, h⟩ := Option.bind_eq_some_iff.mp h
   cases e
   ·rw [if_neg (by decide)] at h
    exact Mc F HF k g l out r i x0 x1 x2 x3 x4 xs ad c0 w0 w ⟨HV.2.2.1⟩ ⟨HV.2.2.2.1⟩ ⟨hk⟩ (eq_true c.1) (eq_true c.2) HS ⟨HV.g0, hc hx0, hc hx1, hc hx2, hc hx3, hc hx4⟩ ⟨hs⟩ ⟨he⟩ ⟨h⟩
   rw [if_pos rfl] at h
   exact Md F HF k g l out r i x0 x1 x2 x3 x4 xs ad c0 w0 w ⟨HV.2.2.1⟩ ⟨HV.2.2.2.1⟩ ⟨hk⟩ (eq_true c.1) (eq_true c.2) HS ⟨HV.g0, hc hx0, hc hx1, hc hx2, hc hx3, hc hx4⟩ ⟨hs⟩ ⟨he⟩ ⟨h⟩
  rw [if_pos rfl] at h
  exact LZ F HF k g l out r i x0 x1 x2 x3 x4 xs ad c0 w0 w ⟨HV.2.2.1⟩ ⟨HV.2.2.2.1⟩ ⟨hk⟩ (eq_true c.1) (eq_true c.2) HS ⟨HV.g0, hc hx0, hc hx1, hc hx2, hc hx3, hc hx4⟩ ⟨hs⟩ ⟨h⟩
 rw [if_neg c] at h
 cases h
def lG : Nat → kz
 | 0 => fun _ _ _ => none
 | k + 1 => fun l i out => rf (lG k) k l i out
theorem tN : ∀ k, jP (lG k)
 | 0 => fun _ _ _ _ _ _ _ _ _ h => (by simp [lG] at h)
 | k + 1 => fun g l out i r w0 w hI hB h => NK (lG k) (tN k) k g l out r i w0 w hI hB h
section
variable {F F' : kz} (HLE : I9 F F')
include HLE
theorem ig.mono (k l i ws out) : LeO (ig F k l i ws out) (ig F' (k + 1) l i ws out) := by
 unfold ig
 repeat' first | exact fD.mono _ _ _ | exact HLE _ _ _ | exact LeO.refl _ | refine LeO.ite ?_ ?_ | refine LeO.bind ?_ (fun _ => ?_)
theorem mD.mono (k l i j out) : LeO (mD F k l i j out) (mD F' (k + 1) l i j out) := by
 unfold mD
 repeat' first | exact fD.mono _ _ _ | exact HLE _ _ _ | exact LeO.refl _ | refine LeO.ite ?_ ?_ | refine LeO.bind ?_ (fun _ => ?_)
theorem jW.mono (k l c) : ∀ xs f out, LeO (jW F k l c f xs out) (jW F' (k + 1) l c f xs out)
 | [], f, out => LeO.refl _
 | x :: xs, f, out => LeO.bind (LeO.ite (fD.mono _ _ _) (LeO.refl _)) (fun _ => LeO.bind (HLE _ _ _) (fun _ => jW.mono k l c xs false _))
theorem rJ.mono (k l xs out) : LeO (rJ F k l xs out) (rJ F' (k + 1) l xs out) := by
 unfold rJ
 repeat' first | exact fD.mono _ _ _ | exact jW.mono HLE _ _ _ _ _ _ | exact HLE _ _ _ | exact LeO.refl _ | refine LeO.ite ?_ ?_ | refine LeO.bind ?_ (fun _ => ?_)
theorem iQ.mono (k l xs out) : LeO (iQ F k l xs out) (iQ F' (k + 1) l xs out) := by
 unfold iQ
 repeat' first | exact rJ.mono HLE _ _ _ _ | exact HLE _ _ _ | exact LeO.refl _ | refine LeO.ite ?_ ?_ | refine LeO.bind ?_ (fun _ => ?_)
theorem qc.mono (k l x0 x2 xs out) : LeO (qc F k l x0 x2 xs out) (qc F' (k + 1) l x0 x2 xs out) := by
 unfold qc
 repeat' first | exact fD.mono _ _ _ | exact ig.mono HLE _ _ _ _ _ | exact mD.mono HLE _ _ _ _ _ | exact HLE _ _ _ | exact LeO.refl _ | refine LeO.ite ?_ ?_ | refine LeO.bind ?_ (fun _ => ?_)
theorem qo.mono (k l x0 x2 x3 x4 xs out) : LeO (qo F k l x0 x2 x3 x4 xs out) (qo F' (k + 1) l x0 x2 x3 x4 xs out) := by
 unfold qo oO
 repeat' first | exact fD.mono _ _ _ | exact iQ.mono HLE _ _ _ _ | exact rJ.mono HLE _ _ _ _ | exact mD.mono HLE _ _ _ _ _ | exact HLE _ _ _ | exact LeO.refl _ | refine LeO.ite ?_ ?_ | refine LeO.bind ?_ (fun _ => ?_)
theorem qh.mono (k l x0 x2 x3 x4 xs out) : LeO (qh F k l x0 x2 x3 x4 xs out) (qh F' (k + 1) l x0 x2 x3 x4 xs out) := by
 unfold qh
 repeat' first | exact fD.mono _ _ _ | exact iQ.mono HLE _ _ _ _ | exact jW.mono HLE _ _ _ _ _ _ | exact HLE _ _ _ | exact LeO.refl _ | refine LeO.ite ?_ ?_ | refine LeO.bind ?_ (fun _ => ?_)
theorem rf.mono (k l i out) : LeO (rf F k l i out) (rf F' (k + 1) l i out) := by
 unfold rf ql
 repeat' first | exact bU.mono _ _ k | exact qc.mono HLE _ _ _ _ _ _ | exact qo.mono HLE _ _ _ _ _ _ _ _ | exact qh.mono HLE _ _ _ _ _ _ _ _ | exact LeO.refl _ | refine LeO.ite ?_ ?_ | refine LeO.bind ?_ (fun _ => ?_)
end
theorem yS : ∀ k, I9 (lG k) (lG (k + 1))
 | 0 => fun _ _ _ => LeO.none _
 | k + 1 => fun l i out => rf.mono (yS k) k l i out
def eY.f (k : Nat) (l0 : List S40) : Option (List S56 × Int × Int) :=
 (aW.f k l0).bind fun c => if c.1 = 0 then (lG k l0 0 []).bind fun t => some (t, 0, 0) else some (([] : List S56), c.1, c.2)
theorem eY.mono (a0 : List S40) (k : Nat) : LeO (eY.f k a0) (eY.f (k + 1) a0) := by
 unfold eY.f
 repeat' first
 | exact aW.mono _ k
 | exact yS k _ _ _
 | exact LeO.refl _
 | refine LeO.ite ?_ ?_
 | refine LeO.bind ?_ (fun _ => ?_)
set_option maxHeartbeats 8000000 in
set_option maxRecDepth 100000 in
theorem eY.calls (k : Nat) (A0 : Option Addr) (c0 : Nat) (l0 : List S40) (r1 : List S56) (r2 : Int) (r3 : Int) (w : World) (hr0 : Kd.C k40 w A0 l0.length l0) (hc0 : l0.length ≤ c0) (h : eY.f k l0 = some (r1, r2, r3)) :
 Calls Try.prog 11 #[.slice A0 l0.length c0] w fun e w' => ∃ v0_ : Value, e = .returned (.tuple #[v0_, .int .i64 r2, .int .i64 r3]) ∧ Kd.R k56 56 w' w.heap.size (fun _ => True) v0_ r1 ∧ Below w.heap.size w w' := by
 unfold eY.f at h
 obtain ⟨⟨p1, p2⟩, hp, h⟩ := Option.bind_eq_some_iff.mp h
 have AP := ae.mk hp
 have HC := ae.mk hr0
 have HL := ae.mk hc0
 dsimp only at h
 have hu52 := Try.underlying52
 by_cases c : p1 = 0
 ·subst c
  rw [if_pos rfl] at h
  obtain ⟨t, ht, h⟩ := Option.bind_eq_some_iff.mp h
  cases h
  have HT := ae.mk ht
  clear hp hr0 hc0 ht
  go_enter Try.func11, Try.ntmps11
  go_upto_region 5 with (first
   | ((with_reducible refine gC 8 rfl ?_); refine gM 8 10 rfl Try.func8 (aW.calls k _ _ l0 0 p2 _ HC.out HL.out AP.out) ?_; rintro _ w1 ⟨rfl, hb⟩; refine ⟨_, rfl, ?_⟩; have HB1 := ae.mk hb; clear hb)
   | ((with_reducible refine bI (N := 19) rfl ?_); refine dW ?hg (N := 19) ?hd (cs := #[.slice A0 l0.length c0, .slice none 0 0]) (t := 52) ?hr ?_; (case hd => rfl); (case hg => rfl); (case hr => first | (go_simp; done) | (go_simp; rfl)); intro g hg w2 hbox hb; have HB2 := ae.mk (aj HB1.out hb); have HI := ae.mk (show Wr w w2 g l0 [] from ⟨A0, c0, _, hbox, by rw [hg]; exact HB1.out.size, HC.out, HL.out, Kd.pR _ _ _ _ _⟩); clear hbox hb hg HB1))
  (try simp only [Act.put, List.setIfInBounds_toArray, List.set_cons_zero, List.set_cons_succ])
  go_upto_region 6 with (first
   | (go_at_call 22; refine (tN k g l0 [] 0 r1 w _ HI.out HB2.out HT.out).mono ?_; rintro _ w3 ⟨rfl, hi, hb, hk⟩; obtain ⟨A1, c1, v, HV⟩ := hi; have HB3 := ae.mk hb; have hc1 := HV.g1; have HO := ae.mk HV.2.2.2.2; clear hb hk HV HB2 HI)
   | ((with_reducible refine gC 22 rfl ?_); refine gM 22 21 rfl Try.func22 (tN k g l0 [] 0 r1 w _ HI.out HB2.out HT.out) ?_; rintro _ w3 ⟨rfl, hi, hb, hk⟩; refine ⟨_, rfl, ?_⟩; obtain ⟨A1, c1, v, HV⟩ := hi; have HB3 := ae.mk hb; have hc1 := HV.g1; have HO := ae.mk HV.2.2.2.2; clear hb hk HV HB2 HI))
  go_wp2
  go_ret3
  exact ⟨_, rfl, HO.out, HB3.out⟩
 rw [if_neg c] at h
 have c3b1 : (p1 != 0) = true := bne_iff_ne.mpr c
 cases h
 clear hp hr0 hc0 c
 go_enter Try.func11, Try.ntmps11
 go_wp2_with (first
  | ((with_reducible refine gC 8 rfl ?_); refine gM 8 10 rfl Try.func8 (aW.calls k _ _ l0 _ _ _ HC.out HL.out AP.out) ?_; rintro _ w1 ⟨rfl, hb⟩; refine ⟨_, rfl, ?_⟩; have HB1 := ae.mk hb; clear hb)
  | (go_at_call 8; refine (aW.calls k _ _ l0 _ _ _ HC.out HL.out AP.out).mono ?_; rintro _ w1 ⟨rfl, hb⟩; have HB1 := ae.mk hb; clear hb))
 go_ret3
 exact ⟨_, rfl, Kd.pR _ _ _ _ _, HB1.out⟩
end Go.Proofs.Ytlenihbmafkegaa.Q
end
section
namespace Go.Proofs.Ytlenihbmafkegaa.Q
open Go.RowKit Go.Proofs.YtlenihbmafkegaaW.PrintWords Go.Proofs.YtlenihbmafkegaaW.PrintLast Go.Proofs.YtlenihbmafkegaaW.PrintMore
attribute [local go_sem] dC dA dP dO cZ cO dB dw
set_option linter.unusedVariables false
set_option linter.unusedSimpArgs false
-- NOT PRINTED: function 79 (show_writer_put_1)
-- BY HAND: function 11 (show_Tokens)
/-! ### bW: function 27 -/
def bW.l0 : Nat → ByteArray → List Int → Int → Int → Option (ByteArray)
 | 0, _, _, _, _ => none
 | k + 1, x0, x3, x8, x9 => if x9 < x8 then (if 0 ≤ x9 then (if x9 < (x0.size : Int) then (if (bt x0 x9) = 10 then ((some (([92, 110] : List Int) : List Int)).bind fun y187 => (if x3.length + y187.length < 140737488355328 then (bW.l0 k x0 (x3 ++ y187) x8 (wrap64 (x9 + 1))) else (none))) else (if (bt x0 x9) = 34 then ((some (([92, bt x0 x9] : List Int) : List Int)).bind fun y193 => (if x3.length + y193.length < 140737488355328 then (bW.l0 k x0 (x3 ++ y193) x8 (wrap64 (x9 + 1))) else (none))) else (if (bt x0 x9) = 92 then ((some (([92, bt x0 x9] : List Int) : List Int)).bind fun y199 => (if x3.length + y199.length < 140737488355328 then (bW.l0 k x0 (x3 ++ y199) x8 (wrap64 (x9 + 1))) else (none))) else (if x3.length < 140737488355328 then (bW.l0 k x0 (x3 ++ [bt x0 x9]) x8 (wrap64 (x9 + 1))) else (none))))) else (none)) else (none)) else (if x3.length < 140737488355328 then (some (strOfNums (x3 ++ [34]))) else (none))
def bW.f (k : Nat) (a0 : ByteArray) : Option (ByteArray) := bW.l0 k a0 (([34] : List Int)) (a0.size : Int) 0
theorem bW.cu : ∀ k, (∀ y0 y1 y2 y3, LeO (bW.l0 k y0 y1 y2 y3) (bW.l0 (k + 1) y0 y1 y2 y3))
 | 0 => fun _ _ _ _ r h => by simp [bW.l0] at h
 | k + 1 => by
  have ih0 := bW.cu k
  intro y0 y1 y2 y3
  unfold bW.l0
  exact yL
theorem bW.mono : ∀ a0 k, LeO (bW.f k a0) (bW.f (k + 1) a0) := by
 intro a0 k
 have ih0 := bW.cu k
 unfold bW.f
 exact yL
set_option maxHeartbeats 8000000 in
set_option maxRecDepth 100000 in
theorem bW.calls (k : Nat) (a0 : ByteArray) (r : ByteArray) (w : World) (h : bW.f k a0 = some r) :
 Calls Try.prog 27 #[.string a0] w fun e w' => e = .returned (.string r) ∧ Below w.heap.size w w' := by
 have HB := ae.mk (Below.refl w.heap.size w)
 have H := h
 clear h
 unfold bW.f at H
 obtain ⟨y181, hy181⟩ : ∃ y_ : List Int, y_ = (([34] : List Int)) := ⟨_, rfl⟩
 replace H : (bW.l0 k a0 y181 (a0.size : Int) 0) = some r := by first | (rw [hy181]; with_reducible exact H) | (have H2_ := (Option.bind_some _ _).symm.trans H; rw [hy181]; with_reducible exact H2_) | (have H2_ := (Option.bind_some _ _).symm.trans H; with_reducible exact H2_) | with_reducible exact H | (rw [hy181]; exact H) | exact H
 have Ny181 := ae.mk hy181
 clear hy181
 have H' := ae.mk H
 clear H
 go_enter Try.func27, Try.ntmps27
 go_wp2_with (first | ((with_reducible refine bI (N := 6) rfl ?_); refine Kd.uN (Kd.int .u8) _ 5 ?hg (N := 6) ?hd (xs := ([34] : List Int)) (inner := [.int .u8 34]) (ok := fun _ => True) (okp := fun _ => True) ?hr ?hp (fun _ hk => hk) trivial (Below.refl _ _) (Nat.le_refl _) (by simp) ?_; (case hd => rfl); (case hg => rfl); (case hr => first | (go_simp; done) | (go_simp; rfl)); (case hp => exact (dV.one (show Kd.M (Kd.int .u8) _ _ _ 34 [.int .u8 34] from rfl) (dV.none _ _))); intro v182 w2 ho3 hb hg_ hnew_; clear hg_ hnew_; (first | rw [← Ny181.out] at ho3 | (simp only [Int.reduceToNat] at ho3; rw [← Ny181.out] at ho3)); refine yA2 (Kd.dm ho3 (aG (bT HB))) (aj (bT HB) hb) ?_; clear HB; intro HO183 HB; clear hb ho3))
 go_loopg [3, 9] k (fun kq v3 v9 w' => ∃ (x3_1 : List Int) (x9_1 : Int), v9 = .int .i64 x9_1 ∧ ae (bW.l0 kq a0 x3_1 (a0.size : Int) x9_1 = some r) ∧ ae (kq ≤ k) ∧ ae (Kd.R (Kd.int .u8) 5 w' w.heap.size (fun _ => True) v3 x3_1) ∧ ae (Below w.heap.size w w'))
 case atStart => exact ⟨(y181), (0), fT, H', ⟨Nat.le_refl _⟩, ⟨qR HO183⟩, ⟨bT HB⟩⟩
 case round =>
  clear H'
  try clear c2
  try clear p2
  obtain ⟨x3_1, x9_1, rfl, HA, HK1, HO_3, HB⟩ := hrel
  cases gk with
  | zero => exact absurd HA.out (by simp [bW.l0])
  | succ k1 =>
   have H := HA.out
   clear HA
   simp only [bW.l0] at H
   revert H
   refine jU (fun c4b0 H => ?_) fun c4b0 H => ?_
   ·revert H
    refine gY (fun c5b0 H => ?_) fun c5 H => ?_
    ·revert H
     refine gY (fun c6b0 H => ?_) fun c6 H => ?_
     ·revert H
      refine bn (fun c8b0 c8b1 H => ?_) fun c8 c8b0 c8b1 H => ?_
      ·obtain ⟨y187, hy187⟩ : ∃ y_ : List Int, y_ = (([92, 110] : List Int)) := ⟨_, rfl⟩
       replace H : (if x3_1.length + y187.length < 140737488355328 then (bW.l0 k1 a0 (x3_1 ++ y187) (a0.size : Int) (wrap64 (x9_1 + 1))) else (none)) = some r := by first | (rw [hy187]; with_reducible exact H) | (have H2_ := (Option.bind_some _ _).symm.trans H; rw [hy187]; with_reducible exact H2_) | (have H2_ := (Option.bind_some _ _).symm.trans H; with_reducible exact H2_) | with_reducible exact H | (rw [hy187]; exact H) | exact H
       have Ny187 := ae.mk hy187
       clear hy187
       revert H
       refine gZ (fun c9 H => ?_) fun c9 H => ?_
       ·have LMc9 := ae.mk c9
        clear c9
        obtain ⟨y190, hy190⟩ : ∃ y_ : List Int, y_ = (x3_1 ++ y187) := ⟨_, rfl⟩
        replace H : (bW.l0 k1 a0 y190 (a0.size : Int) (wrap64 (x9_1 + 1))) = some r := by first | (rw [hy190]; with_reducible exact H) | (have H2_ := (Option.bind_some _ _).symm.trans H; rw [hy190]; with_reducible exact H2_) | (have H2_ := (Option.bind_some _ _).symm.trans H; with_reducible exact H2_) | with_reducible exact H | (rw [hy190]; exact H) | exact H
        have Ny190 := ae.mk hy190
        clear hy190
        have H' := ae.mk H
        clear H
        have p7 : 0 ≤ (x9_1 : Int) := of_decide_eq_true aT
        have q7 : x9_1 < (a0.size : Int) := of_decide_eq_true aT
        have hx7 := l9 a0 x9_1
        replace p7 := eq_true p7
        replace q7 := eq_true q7
        go_wp2_with (first | ((with_reducible refine bI (N := 23) rfl ?_); refine Kd.uN (Kd.int .u8) _ 5 ?hg (N := 23) ?hd (xs := ([92, 110] : List Int)) (inner := [.int .u8 92, .int .u8 110]) (ok := fun _ => True) (okp := fun _ => True) ?hr ?hp (fun _ hk => hk) trivial (Below.refl _ _) (Nat.le_refl _) (by simp) ?_; (case hd => rfl); (case hg => rfl); (case hr => first | (go_simp; done) | (go_simp; rfl)); (case hp => exact (dV.one (show Kd.M (Kd.int .u8) _ _ _ 92 [.int .u8 92] from rfl) (dV.one (show Kd.M (Kd.int .u8) _ _ _ 110 [.int .u8 110] from rfl) (dV.none _ _)))); intro v188 w10 ho11 hb hg_ hnew_; clear hg_ hnew_; (first | rw [← Ny187.out] at ho11 | (simp only [Int.reduceToNat] at ho11; rw [← Ny187.out] at ho11)); refine yA3 (Kd.fJ (qR HO_3) (Kd.iK ho11) hb) (Kd.dm (Kd.iJ ho11 (Kd.lu (qR HO_3))) (aG (bT HB))) (aj (bT HB) hb) ?_; clear HO_3 HB; intro HO_3 HO189 HB; clear hb ho11; obtain ⟨Ao13, co13, rfl⟩ := Kd.bY HO189.out) | ((with_reducible refine dR (b := .append) (xs := #[.tmp 22, .tmp 23]) rfl ?_); at_builtin; refine Kd.jb (Kd.int .u8) (w0 := w) w.heap.size rfl (.tmp 22) (.tmp 23) 82 5 (.int .u8 0) 1 rfl Try.underlying82 info5 rfl (by decide) (by omega) u3 x3_1 y187 _ _ _ (fun k_ => some k_ ≠ (.slice Ao13 y187.length co13 : Value).ownBlock) (fun _ => False) rfl rfl ?aO ?aR (fun _ _ h => h) (fun _ h => h.elim) ?aF ?aB ?aS ?aL ?_; (case aR => repeat (first | exact (Kd.aI HO189.out).2.2 | (with_reducible refine Kd.fZ ?_ _) | (with_reducible refine Kd.fV ?_ _) | (with_reducible refine Kd.iq ?_))); (case aB => exact (bT HB)); (case aF => exact (fun k_ hk => Kd.fresh' (Kd.lu (qR HO189)) k_ hk)); (case aO => exact Z15); (case aS => exact (aG (bT HB))); (case aL => have := LMc9.out; omega); intro v191 w12 ho hb hg hat; rw [← Ny190.out] at ho; refine yA3 (Kd.vC (ok := (fun _ => True)) (qR HO189) hg hat) (hb) (ho) ?_; clear HO189 HB HO_3; intro HO189 HB HO192; clear ho hb hg hat))
        go_roundg k1
        case measure => have := HK1.out; omega
        case rel => exact ⟨(y190), (wrap64 (x9_1 + 1)), fT, H', ⟨by have := HK1.out; omega⟩, ⟨by (with_reducible repeat (first | apply Kd.jQ | apply Kd.kw | apply Kd.lM)); exact Kd.fK HO192.out (fun _ hk => trivial)⟩, ⟨bT HB⟩⟩
       exact absurd H (by simp)
      revert H
      refine bn (fun c14b0 c14b1 H => ?_) fun c14 c14b0 c14b1 H => ?_
      ·obtain ⟨y193, hy193⟩ : ∃ y_ : List Int, y_ = (([92, bt a0 x9_1] : List Int)) := ⟨_, rfl⟩
       replace H : (if x3_1.length + y193.length < 140737488355328 then (bW.l0 k1 a0 (x3_1 ++ y193) (a0.size : Int) (wrap64 (x9_1 + 1))) else (none)) = some r := by first | (rw [hy193]; with_reducible exact H) | (have H2_ := (Option.bind_some _ _).symm.trans H; rw [hy193]; with_reducible exact H2_) | (have H2_ := (Option.bind_some _ _).symm.trans H; with_reducible exact H2_) | with_reducible exact H | (rw [hy193]; exact H) | exact H
       have Ny193 := ae.mk hy193
       clear hy193
       revert H
       refine gZ (fun c15 H => ?_) fun c15 H => ?_
       ·have LMc15 := ae.mk c15
        clear c15
        obtain ⟨y196, hy196⟩ : ∃ y_ : List Int, y_ = (x3_1 ++ y193) := ⟨_, rfl⟩
        replace H : (bW.l0 k1 a0 y196 (a0.size : Int) (wrap64 (x9_1 + 1))) = some r := by first | (rw [hy196]; with_reducible exact H) | (have H2_ := (Option.bind_some _ _).symm.trans H; rw [hy196]; with_reducible exact H2_) | (have H2_ := (Option.bind_some _ _).symm.trans H; with_reducible exact H2_) | with_reducible exact H | (rw [hy196]; exact H) | exact H
        have Ny196 := ae.mk hy196
        clear hy196
        have H' := ae.mk H
        clear H
        have p7 : 0 ≤ (x9_1 : Int) := of_decide_eq_true aT
        have q7 : x9_1 < (a0.size : Int) := of_decide_eq_true aT
        have hx7 := l9 a0 x9_1
        replace p7 := eq_true p7
        replace q7 := eq_true q7
        go_wp2_with (first | ((with_reducible refine bI (N := 30) rfl ?_); refine Kd.uN (Kd.int .u8) _ 5 ?hg (N := 30) ?hd (xs := ([92, bt a0 x9_1] : List Int)) (inner := [.int .u8 92, .int .u8 (bt a0 x9_1)]) (ok := fun _ => True) (okp := fun _ => True) ?hr ?hp (fun _ hk => hk) trivial (Below.refl _ _) (Nat.le_refl _) (by simp) ?_; (case hd => rfl); (case hg => rfl); (case hr => first | (go_simp; done) | (go_simp; rfl)); (case hp => exact (dV.one (show Kd.M (Kd.int .u8) _ _ _ 92 [.int .u8 92] from rfl) (dV.one (show Kd.M (Kd.int .u8) _ _ _ (bt a0 x9_1) [.int .u8 (bt a0 x9_1)] from rfl) (dV.none _ _)))); intro v194 w16 ho17 hb hg_ hnew_; clear hg_ hnew_; (first | rw [← Ny193.out] at ho17 | (simp only [Int.reduceToNat] at ho17; rw [← Ny193.out] at ho17)); refine yA3 (Kd.fJ (qR HO_3) (Kd.iK ho17) hb) (Kd.dm (Kd.iJ ho17 (Kd.lu (qR HO_3))) (aG (bT HB))) (aj (bT HB) hb) ?_; clear HO_3 HB; intro HO_3 HO195 HB; clear hb ho17; obtain ⟨Ao19, co19, rfl⟩ := Kd.bY HO195.out) | ((with_reducible refine dR (b := .append) (xs := #[.tmp 28, .tmp 30]) rfl ?_); at_builtin; refine Kd.jb (Kd.int .u8) (w0 := w) w.heap.size rfl (.tmp 28) (.tmp 30) 82 5 (.int .u8 0) 1 rfl Try.underlying82 info5 rfl (by decide) (by omega) u3 x3_1 y193 _ _ _ (fun k_ => some k_ ≠ (.slice Ao19 y193.length co19 : Value).ownBlock) (fun _ => False) rfl rfl ?aO ?aR (fun _ _ h => h) (fun _ h => h.elim) ?aF ?aB ?aS ?aL ?_; (case aR => repeat (first | exact (Kd.aI HO195.out).2.2 | (with_reducible refine Kd.fZ ?_ _) | (with_reducible refine Kd.fV ?_ _) | (with_reducible refine Kd.iq ?_))); (case aB => exact (bT HB)); (case aF => exact (fun k_ hk => Kd.fresh' (Kd.lu (qR HO195)) k_ hk)); (case aO => exact Z15); (case aS => exact (aG (bT HB))); (case aL => have := LMc15.out; omega); intro v197 w18 ho hb hg hat; rw [← Ny196.out] at ho; refine yA3 (Kd.vC (ok := (fun _ => True)) (qR HO195) hg hat) (hb) (ho) ?_; clear HO195 HB HO_3; intro HO195 HB HO198; clear ho hb hg hat))
        go_roundg k1
        case measure => have := HK1.out; omega
        case rel => exact ⟨(y196), (wrap64 (x9_1 + 1)), fT, H', ⟨by have := HK1.out; omega⟩, ⟨by (with_reducible repeat (first | apply Kd.jQ | apply Kd.kw | apply Kd.lM)); exact Kd.fK HO198.out (fun _ hk => trivial)⟩, ⟨bT HB⟩⟩
       exact absurd H (by simp)
      revert H
      refine bn (fun c20b0 c20b1 H => ?_) fun c20 c20b0 c20b1 H => ?_
      ·obtain ⟨y199, hy199⟩ : ∃ y_ : List Int, y_ = (([92, bt a0 x9_1] : List Int)) := ⟨_, rfl⟩
       replace H : (if x3_1.length + y199.length < 140737488355328 then (bW.l0 k1 a0 (x3_1 ++ y199) (a0.size : Int) (wrap64 (x9_1 + 1))) else (none)) = some r := by first | (rw [hy199]; with_reducible exact H) | (have H2_ := (Option.bind_some _ _).symm.trans H; rw [hy199]; with_reducible exact H2_) | (have H2_ := (Option.bind_some _ _).symm.trans H; with_reducible exact H2_) | with_reducible exact H | (rw [hy199]; exact H) | exact H
       have Ny199 := ae.mk hy199
       clear hy199
       revert H
       refine gZ (fun c21 H => ?_) fun c21 H => ?_
       ·have LMc21 := ae.mk c21
        clear c21
        obtain ⟨y202, hy202⟩ : ∃ y_ : List Int, y_ = (x3_1 ++ y199) := ⟨_, rfl⟩
        replace H : (bW.l0 k1 a0 y202 (a0.size : Int) (wrap64 (x9_1 + 1))) = some r := by first | (rw [hy202]; with_reducible exact H) | (have H2_ := (Option.bind_some _ _).symm.trans H; rw [hy202]; with_reducible exact H2_) | (have H2_ := (Option.bind_some _ _).symm.trans H; with_reducible exact H2_) | with_reducible exact H | (rw [hy202]; exact H) | exact H
        have Ny202 := ae.mk hy202
        clear hy202
        have H' := ae.mk H
        clear H
        have p7 : 0 ≤ (x9_1 : Int) := of_decide_eq_true aT
        have q7 : x9_1 < (a0.size : Int) := of_decide_eq_true aT
        have hx7 := l9 a0 x9_1
        replace p7 := eq_true p7
        replace q7 := eq_true q7
        go_wp2_with (first | ((with_reducible refine bI (N := 30) rfl ?_); refine Kd.uN (Kd.int .u8) _ 5 ?hg (N := 30) ?hd (xs := ([92, bt a0 x9_1] : List Int)) (inner := [.int .u8 92, .int .u8 (bt a0 x9_1)]) (ok := fun _ => True) (okp := fun _ => True) ?hr ?hp (fun _ hk => hk) trivial (Below.refl _ _) (Nat.le_refl _) (by simp) ?_; (case hd => rfl); (case hg => rfl); (case hr => first | (go_simp; done) | (go_simp; rfl)); (case hp => exact (dV.one (show Kd.M (Kd.int .u8) _ _ _ 92 [.int .u8 92] from rfl) (dV.one (show Kd.M (Kd.int .u8) _ _ _ (bt a0 x9_1) [.int .u8 (bt a0 x9_1)] from rfl) (dV.none _ _)))); intro v200 w22 ho23 hb hg_ hnew_; clear hg_ hnew_; (first | rw [← Ny199.out] at ho23 | (simp only [Int.reduceToNat] at ho23; rw [← Ny199.out] at ho23)); refine yA3 (Kd.fJ (qR HO_3) (Kd.iK ho23) hb) (Kd.dm (Kd.iJ ho23 (Kd.lu (qR HO_3))) (aG (bT HB))) (aj (bT HB) hb) ?_; clear HO_3 HB; intro HO_3 HO201 HB; clear hb ho23; obtain ⟨Ao25, co25, rfl⟩ := Kd.bY HO201.out) | ((with_reducible refine dR (b := .append) (xs := #[.tmp 28, .tmp 30]) rfl ?_); at_builtin; refine Kd.jb (Kd.int .u8) (w0 := w) w.heap.size rfl (.tmp 28) (.tmp 30) 82 5 (.int .u8 0) 1 rfl Try.underlying82 info5 rfl (by decide) (by omega) u3 x3_1 y199 _ _ _ (fun k_ => some k_ ≠ (.slice Ao25 y199.length co25 : Value).ownBlock) (fun _ => False) rfl rfl ?aO ?aR (fun _ _ h => h) (fun _ h => h.elim) ?aF ?aB ?aS ?aL ?_; (case aR => repeat (first | exact (Kd.aI HO201.out).2.2 | (with_reducible refine Kd.fZ ?_ _) | (with_reducible refine Kd.fV ?_ _) | (with_reducible refine Kd.iq ?_))); (case aB => exact (bT HB)); (case aF => exact (fun k_ hk => Kd.fresh' (Kd.lu (qR HO201)) k_ hk)); (case aO => exact Z15); (case aS => exact (aG (bT HB))); (case aL => have := LMc21.out; omega); intro v203 w24 ho hb hg hat; rw [← Ny202.out] at ho; refine yA3 (Kd.vC (ok := (fun _ => True)) (qR HO201) hg hat) (hb) (ho) ?_; clear HO201 HB HO_3; intro HO201 HB HO204; clear ho hb hg hat))
        go_roundg k1
        case measure => have := HK1.out; omega
        case rel => exact ⟨(y202), (wrap64 (x9_1 + 1)), fT, H', ⟨by have := HK1.out; omega⟩, ⟨by (with_reducible repeat (first | apply Kd.jQ | apply Kd.kw | apply Kd.lM)); exact Kd.fK HO204.out (fun _ hk => trivial)⟩, ⟨bT HB⟩⟩
       exact absurd H (by simp)
      revert H
      refine gZ (fun c26 H => ?_) fun c26 H => ?_
      ·have LMc26 := ae.mk c26
       clear c26
       obtain ⟨y205, hy205⟩ : ∃ y_ : List Int, y_ = (x3_1 ++ [bt a0 x9_1]) := ⟨_, rfl⟩
       replace H : (bW.l0 k1 a0 y205 (a0.size : Int) (wrap64 (x9_1 + 1))) = some r := by first | (rw [hy205]; with_reducible exact H) | (have H2_ := (Option.bind_some _ _).symm.trans H; rw [hy205]; with_reducible exact H2_) | (have H2_ := (Option.bind_some _ _).symm.trans H; with_reducible exact H2_) | with_reducible exact H | (rw [hy205]; exact H) | exact H
       have Ny205 := ae.mk hy205
       clear hy205
       have H' := ae.mk H
       clear H
       have p7 : 0 ≤ (x9_1 : Int) := of_decide_eq_true aT
       have q7 : x9_1 < (a0.size : Int) := of_decide_eq_true aT
       have hx7 := l9 a0 x9_1
       replace p7 := eq_true p7
       replace q7 := eq_true q7
       go_wp2_with (first | ((with_reducible refine dR (b := .append) (xs := #[.tmp 16, .tmp 18]) rfl ?_); at_builtin; refine Kd.lZ (Kd.int .u8) (w0 := w) w.heap.size rfl (.tmp 16) (.tmp 18) 82 5 (.int .u8 0) 1 rfl Try.underlying82 info5 rfl (by decide) (by omega) u3 x3_1 (bt a0 x9_1) [.int .u8 (bt a0 x9_1)] (fun _ => True) (fun _ => False) rfl rfl ?aP (fun _ hk => hk.elim) ?aF ?aO ?aB ?aS ?aL ?_; (case aP => exact rfl); (case aB => exact (bT HB)); (case aF => exact (fun _ _ => trivial)); (case aO => exact (qR HO_3)); (case aS => exact (aG (bT HB))); (case aL => have := LMc26.out; omega); intro v206 w27 ho hb hg hat; rw [← Ny205.out] at ho; refine yA2 (hb) (ho) ?_; clear HB HO_3; intro HB HO207; clear ho hb hg hat))
       go_roundg k1
       case measure => have := HK1.out; omega
       case rel => exact ⟨(y205), (wrap64 (x9_1 + 1)), fT, H', ⟨by have := HK1.out; omega⟩, ⟨qR HO207⟩, ⟨bT HB⟩⟩
      exact absurd H (by simp)
     exact absurd H (by simp)
    exact absurd H (by simp)
   revert H
   refine gZ (fun c28 H => ?_) fun c28 H => ?_
   ·have LMc28 := ae.mk c28
    clear c28
    obtain ⟨y184, hy184⟩ : ∃ y_ : List Int, y_ = (x3_1 ++ [34]) := ⟨_, rfl⟩
    replace H : (some (strOfNums y184)) = some r := by first | (rw [hy184]; with_reducible exact H) | (have H2_ := (Option.bind_some _ _).symm.trans H; rw [hy184]; with_reducible exact H2_) | (have H2_ := (Option.bind_some _ _).symm.trans H; with_reducible exact H2_) | with_reducible exact H | (rw [hy184]; exact H) | exact H
    have Ny184 := ae.mk hy184
    clear hy184
    obtain rfl := Option.some.inj H
    go_wp2_with (first | ((with_reducible refine dR (b := .append) (xs := #[.tmp 33, .tmp 34]) rfl ?_); at_builtin; refine Kd.lZ (Kd.int .u8) (w0 := w) w.heap.size rfl (.tmp 33) (.tmp 34) 82 5 (.int .u8 0) 1 rfl Try.underlying82 info5 rfl (by decide) (by omega) u3 x3_1 34 [.int .u8 34] (fun _ => True) (fun _ => False) rfl rfl ?aP (fun _ hk => hk.elim) ?aF ?aO ?aB ?aS ?aL ?_; (case aP => exact rfl); (case aB => exact (bT HB)); (case aF => exact (fun _ _ => trivial)); (case aO => exact (qR HO_3)); (case aS => exact (aG (bT HB))); (case aL => have := LMc28.out; omega); intro v185 w29 ho hb hg hat; rw [← Ny184.out] at ho; refine yA2 (hb) (ho) ?_; clear HB HO_3; intro HB HO186; clear ho hb hg hat; have hcv30 := vZ (P := Try.prog) Try.underlying82 Try.underlying5 Try.underlying9 (Kd.sZ HO186.out)))
    go_ret
    exact ⟨eT, bT HB⟩
   exact absurd H (by simp)
end Go.Proofs.Ytlenihbmafkegaa.Q
end
section
namespace Go.Proofs.Ytlenihbmafkegaa.Q
open Go.RowKit Go.Proofs.YtlenihbmafkegaaW.PrintWords Go.Proofs.YtlenihbmafkegaaW.PrintLast Go.Proofs.YtlenihbmafkegaaW.PrintMore
attribute [local go_sem] dC dA dP dO cZ cO dB dw
set_option linter.unusedVariables false
set_option linter.unusedSimpArgs false
/-! ### dM: function 15 -/
def dM.l0 : Nat → ByteArray → List (S56) → Int → Int → Option (ByteArray)
 | 0, _, _, _, _ => none
 | k + 1, x3, x6, x7, x8 => if x8 < x7 then (if 0 ≤ x8 then (if x8 < (x6.length : Int) then (if x8 > 0 then (if x3.size + 1 ≤ 9223372036854775807 then (if ((dD x6 x8).f0) = 3 then ((bW.f k ((dD x6 x8).f1)).bind fun t210 => (if (x3 ++ (⟨#[32]⟩ : ByteArray)).size + t210.size ≤ 9223372036854775807 then (dM.l0 k ((x3 ++ (⟨#[32]⟩ : ByteArray)) ++ t210) x6 x7 (wrap64 (x8 + 1))) else (none))) else (if (x3 ++ (⟨#[32]⟩ : ByteArray)).size + ((dD x6 x8).f1).size ≤ 9223372036854775807 then (dM.l0 k ((x3 ++ (⟨#[32]⟩ : ByteArray)) ++ ((dD x6 x8).f1)) x6 x7 (wrap64 (x8 + 1))) else (none))) else (none)) else (if ((dD x6 x8).f0) = 3 then ((bW.f k ((dD x6 x8).f1)).bind fun t211 => (if x3.size + t211.size ≤ 9223372036854775807 then (dM.l0 k (x3 ++ t211) x6 x7 (wrap64 (x8 + 1))) else (none))) else (if x3.size + ((dD x6 x8).f1).size ≤ 9223372036854775807 then (dM.l0 k (x3 ++ ((dD x6 x8).f1)) x6 x7 (wrap64 (x8 + 1))) else (none)))) else (none)) else (none)) else (some x3)
def dM.f (k : Nat) (l0 : List (S56)) : Option (ByteArray) := dM.l0 k (⟨#[]⟩ : ByteArray) l0 (l0.length : Int) 0
theorem dM.cu : ∀ k, (∀ y0 y1 y2 y3, LeO (dM.l0 k y0 y1 y2 y3) (dM.l0 (k + 1) y0 y1 y2 y3))
 | 0 => fun _ _ _ _ r h => by simp [dM.l0] at h
 | k + 1 => by
  have ih0 := dM.cu k
  intro y0 y1 y2 y3
  unfold dM.l0
  have m0 := bW.mono
  exact yL
theorem dM.mono : ∀ a0 k, LeO (dM.f k a0) (dM.f (k + 1) a0) := by
 intro a0 k
 have ih0 := dM.cu k
 unfold dM.f
 have m0 := bW.mono
 exact yL
set_option maxHeartbeats 8000000 in
set_option maxRecDepth 100000 in
theorem dM.calls (k : Nat) (A0 : Option Addr) (c0 : Nat) (l0 : List (S56)) (r : ByteArray) (w : World) (hr0 : Kd.C k56 w A0 l0.length l0) (hc0 : l0.length ≤ c0) (h : dM.f k l0 = some r) :
 Calls Try.prog 15 #[.slice A0 l0.length c0] w fun e w' => e = .returned (.string r) ∧ Below w.heap.size w w' := by
 have hu56 := Try.underlying56
 have HR0 := ae.mk hr0
 have HC0 := ae.mk hc0
 clear hr0 hc0
 have HB := ae.mk (Below.refl w.heap.size w)
 have H := h
 clear h
 unfold dM.f at H
 have H' := ae.mk H
 clear H
 go_enter Try.func15, Try.ntmps15
 go_wp2
 go_loopg [3, 8] k (fun kq v3 v8 w' => ∃ (x3_1 : ByteArray) (x8_1 : Int), v3 = .string x3_1 ∧ v8 = .int .i64 x8_1 ∧ ae (dM.l0 kq x3_1 l0 (l0.length : Int) x8_1 = some r) ∧ ae (kq ≤ k) ∧ ae (Below w.heap.size w w'))
 case atStart => exact ⟨((⟨#[]⟩ : ByteArray)), (0), fT, fT, H', ⟨Nat.le_refl _⟩, ⟨bT HB⟩⟩
 case round =>
  clear H'
  try clear c1
  obtain ⟨x3_1, x8_1, rfl, rfl, HA, HK1, HB⟩ := hrel
  cases gk with
  | zero => exact absurd HA.out (by simp [dM.l0])
  | succ k1 =>
   have H := HA.out
   clear HA
   simp only [dM.l0] at H
   revert H
   refine jU (fun c2b0 H => ?_) fun c2b0 H => ?_
   ·revert H
    refine gY (fun c3b0 H => ?_) fun c3 H => ?_
    ·revert H
     refine gY (fun c4b0 H => ?_) fun c4 H => ?_
     ·revert H
      refine gZ (fun c5 H => ?_) fun c5 H => ?_
      ·have c5b0 : decide (0 < x8_1) = true := decide_eq_true c5
       clear c5
       revert H
       refine jY (fun c6 c6b0 c6b1 H => ?_) fun c6 H => ?_
       ·try have c6b2 : (9223372036854775807 < x3_1.size + 1) = False := eq_false (Nat.not_lt.2 c6)
        revert H
        refine bn (fun c7b0 c7b1 H => ?_) fun c7 c7b0 c7b1 H => ?_
        ·revert H
         refine yB1 fun t210 A8 H => ?_
         revert H
         refine jY (fun c9 c9b0 c9b1 H => ?_) fun c9 H => ?_
         ·have c9s := c9
          simp only [ByteArray.size_append, show ((⟨#[32]⟩ : ByteArray)).size = 1 from rfl] at c9s
          have c9t := eq_true c9s
          have c9u := eq_false (Nat.not_lt.2 c9s)
          clear c9s
          try have c9b2 : (9223372036854775807 < (x3_1 ++ (⟨#[32]⟩ : ByteArray)).size + t210.size) = False := eq_false (Nat.not_lt.2 c9)
          have H' := ae.mk H
          clear H
          have p208 : 0 ≤ (x8_1 : Int) := of_decide_eq_true aT
          have q208 : x8_1 < (l0.length : Int) := of_decide_eq_true aT
          obtain ⟨ad208, e208, hx208_0, hx208_1, hx208_2, hx208_3⟩ := eU HR0.out x8_1 p208 q208
          cases e208
          replace hx208_0 := (HB.out.cell (World.block_lt_of_cell? w _ hx208_0)).trans hx208_0
          replace hx208_1 := (HB.out.cell (World.block_lt_of_cell? w _ hx208_1)).trans hx208_1
          replace hx208_2 := (HB.out.cell (World.block_lt_of_cell? w _ hx208_2)).trans hx208_2
          replace hx208_3 := (HB.out.cell (World.block_lt_of_cell? w _ hx208_3)).trans hx208_3
          replace p208 := eq_true p208
          replace q208 := eq_true q208
          go_wp2_with (first | ((with_reducible refine bI (N := 5) rfl ?_); refine dW ?hg (N := 5) ?hd (cs := #[.int .i64 0, .string (⟨#[]⟩ : ByteArray), .int .i64 0, .int .i64 0]) (t := 56) ?hr ?_; (case hd => rfl); (case hg => rfl); (case hr => first | (go_simp; done) | (go_simp; rfl)); intro gb209 hg w10 hbox hb; refine yA4 (aj (bT HB) hb) (hbox) ((by rw [hg]; exact (aG (bT HB)) : w.heap.size ≤ gb209)) ((by rw [hg]; exact (aG (bT HB)) : w.heap.size ≤ gb209)) ?_; clear HB; intro HB BK209 GW209 GE209; clear hb hbox hg; have hcz11_0 : w10.cell? ⟨gb209, 0, none⟩ = some (.int .i64 0) := (ah BK209.out 0).trans rfl; have hcz11_1 : w10.cell? ⟨gb209, 1, none⟩ = some (.string (⟨#[]⟩ : ByteArray)) := (ah BK209.out 1).trans rfl; have hcz11_2 : w10.cell? ⟨gb209, 2, none⟩ = some (.int .i64 0) := (ah BK209.out 2).trans rfl; have hcz11_3 : w10.cell? ⟨gb209, 3, none⟩ = some (.int .i64 0) := (ah BK209.out 3).trans rfl; have hfz11_0 := af BK209.out 0; have hfz11_1 := af BK209.out 1; have hfz11_2 := af BK209.out 2; have hfz11_3 := af BK209.out 3) | ((with_reducible refine gC 27 rfl ?_); refine gM 27 23 rfl Try.func27 (bW.calls k1 ((dD l0 x8_1).f1) t210 _ A8.out) ?_; rintro _ w12 ⟨rfl, hb⟩; refine ⟨_, rfl, yA2 (eH (g := gb209) (o := .cells #[.int .i64 ((dD l0 x8_1).f0), .string ((dD l0 x8_1).f1), .int .i64 ((dD l0 x8_1).f2), .int .i64 ((dD l0 x8_1).f3)] 56 (0, 0)) (by refine dE (cs := #[.int .i64 ((dD l0 x8_1).f0), .string ((dD l0 x8_1).f1), .int .i64 ((dD l0 x8_1).f2), .int .i64 0]) ?_ 3 _ rfl; refine dE (cs := #[.int .i64 ((dD l0 x8_1).f0), .string ((dD l0 x8_1).f1), .int .i64 0, .int .i64 0]) ?_ 2 _ rfl; refine dE (cs := #[.int .i64 ((dD l0 x8_1).f0), .string (⟨#[]⟩ : ByteArray), .int .i64 0, .int .i64 0]) ?_ 1 _ rfl; refine dE (cs := #[.int .i64 0, .string (⟨#[]⟩ : ByteArray), .int .i64 0, .int .i64 0]) ?_ 0 _ rfl; exact BK209.out) hb) (aj (bT HB) hb) ?_⟩; clear BK209 HB hb; intro BK209 HB))
          go_roundg k1
          case measure => have := HK1.out; omega
          case rel => exact ⟨((x3_1 ++ (⟨#[32]⟩ : ByteArray)) ++ t210), (wrap64 (x8_1 + 1)), fT, fT, H', ⟨by have := HK1.out; omega⟩, ⟨bT HB⟩⟩
         exact absurd H (by simp)
        revert H
        refine jY (fun c13 c13b0 c13b1 H => ?_) fun c13 H => ?_
        ·have c13s := c13
         simp only [ByteArray.size_append, show ((⟨#[32]⟩ : ByteArray)).size = 1 from rfl] at c13s
         have c13t := eq_true c13s
         have c13u := eq_false (Nat.not_lt.2 c13s)
         clear c13s
         try have c13b2 : (9223372036854775807 < (x3_1 ++ (⟨#[32]⟩ : ByteArray)).size + ((dD l0 x8_1).f1).size) = False := eq_false (Nat.not_lt.2 c13)
         have H' := ae.mk H
         clear H
         have p208 : 0 ≤ (x8_1 : Int) := of_decide_eq_true aT
         have q208 : x8_1 < (l0.length : Int) := of_decide_eq_true aT
         obtain ⟨ad208, e208, hx208_0, hx208_1, hx208_2, hx208_3⟩ := eU HR0.out x8_1 p208 q208
         cases e208
         replace hx208_0 := (HB.out.cell (World.block_lt_of_cell? w _ hx208_0)).trans hx208_0
         replace hx208_1 := (HB.out.cell (World.block_lt_of_cell? w _ hx208_1)).trans hx208_1
         replace hx208_2 := (HB.out.cell (World.block_lt_of_cell? w _ hx208_2)).trans hx208_2
         replace hx208_3 := (HB.out.cell (World.block_lt_of_cell? w _ hx208_3)).trans hx208_3
         replace p208 := eq_true p208
         replace q208 := eq_true q208
         go_wp2_with (first | ((with_reducible refine bI (N := 5) rfl ?_); refine dW ?hg (N := 5) ?hd (cs := #[.int .i64 0, .string (⟨#[]⟩ : ByteArray), .int .i64 0, .int .i64 0]) (t := 56) ?hr ?_; (case hd => rfl); (case hg => rfl); (case hr => first | (go_simp; done) | (go_simp; rfl)); intro gb209 hg w14 hbox hb; refine yA4 (aj (bT HB) hb) (hbox) ((by rw [hg]; exact (aG (bT HB)) : w.heap.size ≤ gb209)) ((by rw [hg]; exact (aG (bT HB)) : w.heap.size ≤ gb209)) ?_; clear HB; intro HB BK209 GW209 GE209; clear hb hbox hg; have hcz15_0 : w14.cell? ⟨gb209, 0, none⟩ = some (.int .i64 0) := (ah BK209.out 0).trans rfl; have hcz15_1 : w14.cell? ⟨gb209, 1, none⟩ = some (.string (⟨#[]⟩ : ByteArray)) := (ah BK209.out 1).trans rfl; have hcz15_2 : w14.cell? ⟨gb209, 2, none⟩ = some (.int .i64 0) := (ah BK209.out 2).trans rfl; have hcz15_3 : w14.cell? ⟨gb209, 3, none⟩ = some (.int .i64 0) := (ah BK209.out 3).trans rfl; have hfz15_0 := af BK209.out 0; have hfz15_1 := af BK209.out 1; have hfz15_2 := af BK209.out 2; have hfz15_3 := af BK209.out 3))
         go_roundg k1
         case measure => have := HK1.out; omega
         case rel => exact ⟨((x3_1 ++ (⟨#[32]⟩ : ByteArray)) ++ ((dD l0 x8_1).f1)), (wrap64 (x8_1 + 1)), fT, fT, H', ⟨by have := HK1.out; omega⟩, ⟨bT HB⟩⟩
        exact absurd H (by simp)
       exact absurd H (by simp)
      have c5b0 : decide (0 < x8_1) = false := decide_eq_false c5
      clear c5
      revert H
      refine bn (fun c16b0 c16b1 H => ?_) fun c16 c16b0 c16b1 H => ?_
      ·revert H
       refine yB1 fun t211 A17 H => ?_
       revert H
       refine jY (fun c18 c18b0 c18b1 H => ?_) fun c18 H => ?_
       ·try have c18b2 : (9223372036854775807 < x3_1.size + t211.size) = False := eq_false (Nat.not_lt.2 c18)
        have H' := ae.mk H
        clear H
        have p208 : 0 ≤ (x8_1 : Int) := of_decide_eq_true aT
        have q208 : x8_1 < (l0.length : Int) := of_decide_eq_true aT
        obtain ⟨ad208, e208, hx208_0, hx208_1, hx208_2, hx208_3⟩ := eU HR0.out x8_1 p208 q208
        cases e208
        replace hx208_0 := (HB.out.cell (World.block_lt_of_cell? w _ hx208_0)).trans hx208_0
        replace hx208_1 := (HB.out.cell (World.block_lt_of_cell? w _ hx208_1)).trans hx208_1
        replace hx208_2 := (HB.out.cell (World.block_lt_of_cell? w _ hx208_2)).trans hx208_2
        replace hx208_3 := (HB.out.cell (World.block_lt_of_cell? w _ hx208_3)).trans hx208_3
        replace p208 := eq_true p208
        replace q208 := eq_true q208
        go_wp2_with (first | ((with_reducible refine bI (N := 5) rfl ?_); refine dW ?hg (N := 5) ?hd (cs := #[.int .i64 0, .string (⟨#[]⟩ : ByteArray), .int .i64 0, .int .i64 0]) (t := 56) ?hr ?_; (case hd => rfl); (case hg => rfl); (case hr => first | (go_simp; done) | (go_simp; rfl)); intro gb209 hg w19 hbox hb; refine yA4 (aj (bT HB) hb) (hbox) ((by rw [hg]; exact (aG (bT HB)) : w.heap.size ≤ gb209)) ((by rw [hg]; exact (aG (bT HB)) : w.heap.size ≤ gb209)) ?_; clear HB; intro HB BK209 GW209 GE209; clear hb hbox hg; have hcz20_0 : w19.cell? ⟨gb209, 0, none⟩ = some (.int .i64 0) := (ah BK209.out 0).trans rfl; have hcz20_1 : w19.cell? ⟨gb209, 1, none⟩ = some (.string (⟨#[]⟩ : ByteArray)) := (ah BK209.out 1).trans rfl; have hcz20_2 : w19.cell? ⟨gb209, 2, none⟩ = some (.int .i64 0) := (ah BK209.out 2).trans rfl; have hcz20_3 : w19.cell? ⟨gb209, 3, none⟩ = some (.int .i64 0) := (ah BK209.out 3).trans rfl; have hfz20_0 := af BK209.out 0; have hfz20_1 := af BK209.out 1; have hfz20_2 := af BK209.out 2; have hfz20_3 := af BK209.out 3) | ((with_reducible refine gC 27 rfl ?_); refine gM 27 23 rfl Try.func27 (bW.calls k1 ((dD l0 x8_1).f1) t211 _ A17.out) ?_; rintro _ w21 ⟨rfl, hb⟩; refine ⟨_, rfl, yA2 (eH (g := gb209) (o := .cells #[.int .i64 ((dD l0 x8_1).f0), .string ((dD l0 x8_1).f1), .int .i64 ((dD l0 x8_1).f2), .int .i64 ((dD l0 x8_1).f3)] 56 (0, 0)) (by refine dE (cs := #[.int .i64 ((dD l0 x8_1).f0), .string ((dD l0 x8_1).f1), .int .i64 ((dD l0 x8_1).f2), .int .i64 0]) ?_ 3 _ rfl; refine dE (cs := #[.int .i64 ((dD l0 x8_1).f0), .string ((dD l0 x8_1).f1), .int .i64 0, .int .i64 0]) ?_ 2 _ rfl; refine dE (cs := #[.int .i64 ((dD l0 x8_1).f0), .string (⟨#[]⟩ : ByteArray), .int .i64 0, .int .i64 0]) ?_ 1 _ rfl; refine dE (cs := #[.int .i64 0, .string (⟨#[]⟩ : ByteArray), .int .i64 0, .int .i64 0]) ?_ 0 _ rfl; exact BK209.out) hb) (aj (bT HB) hb) ?_⟩; clear BK209 HB hb; intro BK209 HB))
        go_roundg k1
        case measure => have := HK1.out; omega
        case rel => exact ⟨(x3_1 ++ t211), (wrap64 (x8_1 + 1)), fT, fT, H', ⟨by have := HK1.out; omega⟩, ⟨bT HB⟩⟩
       exact absurd H (by simp)
      revert H
      refine jY (fun c22 c22b0 c22b1 H => ?_) fun c22 H => ?_
      ·try have c22b2 : (9223372036854775807 < x3_1.size + ((dD l0 x8_1).f1).size) = False := eq_false (Nat.not_lt.2 c22)
       have H' := ae.mk H
       clear H
       have p208 : 0 ≤ (x8_1 : Int) := of_decide_eq_true aT
       have q208 : x8_1 < (l0.length : Int) := of_decide_eq_true aT
       obtain ⟨ad208, e208, hx208_0, hx208_1, hx208_2, hx208_3⟩ := eU HR0.out x8_1 p208 q208
       cases e208
       replace hx208_0 := (HB.out.cell (World.block_lt_of_cell? w _ hx208_0)).trans hx208_0
       replace hx208_1 := (HB.out.cell (World.block_lt_of_cell? w _ hx208_1)).trans hx208_1
       replace hx208_2 := (HB.out.cell (World.block_lt_of_cell? w _ hx208_2)).trans hx208_2
       replace hx208_3 := (HB.out.cell (World.block_lt_of_cell? w _ hx208_3)).trans hx208_3
       replace p208 := eq_true p208
       replace q208 := eq_true q208
       go_wp2_with (first | ((with_reducible refine bI (N := 5) rfl ?_); refine dW ?hg (N := 5) ?hd (cs := #[.int .i64 0, .string (⟨#[]⟩ : ByteArray), .int .i64 0, .int .i64 0]) (t := 56) ?hr ?_; (case hd => rfl); (case hg => rfl); (case hr => first | (go_simp; done) | (go_simp; rfl)); intro gb209 hg w23 hbox hb; refine yA4 (aj (bT HB) hb) (hbox) ((by rw [hg]; exact (aG (bT HB)) : w.heap.size ≤ gb209)) ((by rw [hg]; exact (aG (bT HB)) : w.heap.size ≤ gb209)) ?_; clear HB; intro HB BK209 GW209 GE209; clear hb hbox hg; have hcz24_0 : w23.cell? ⟨gb209, 0, none⟩ = some (.int .i64 0) := (ah BK209.out 0).trans rfl; have hcz24_1 : w23.cell? ⟨gb209, 1, none⟩ = some (.string (⟨#[]⟩ : ByteArray)) := (ah BK209.out 1).trans rfl; have hcz24_2 : w23.cell? ⟨gb209, 2, none⟩ = some (.int .i64 0) := (ah BK209.out 2).trans rfl; have hcz24_3 : w23.cell? ⟨gb209, 3, none⟩ = some (.int .i64 0) := (ah BK209.out 3).trans rfl; have hfz24_0 := af BK209.out 0; have hfz24_1 := af BK209.out 1; have hfz24_2 := af BK209.out 2; have hfz24_3 := af BK209.out 3))
       go_roundg k1
       case measure => have := HK1.out; omega
       case rel => exact ⟨(x3_1 ++ ((dD l0 x8_1).f1)), (wrap64 (x8_1 + 1)), fT, fT, H', ⟨by have := HK1.out; omega⟩, ⟨bT HB⟩⟩
      exact absurd H (by simp)
     exact absurd H (by simp)
    exact absurd H (by simp)
   obtain rfl := Option.some.inj H
   go_wp2
   go_ret
   exact ⟨eT, bT HB⟩
end Go.Proofs.Ytlenihbmafkegaa.Q
end
section
namespace Go.Proofs.Ytlenihbmafkegaa.Q
open Go.RowKit Go.Proofs.YtlenihbmafkegaaW.PrintWords Go.Proofs.YtlenihbmafkegaaW.PrintLast Go.Proofs.YtlenihbmafkegaaW.PrintMore
attribute [local go_sem] dC dA dP dO cZ cO dB dw
set_option linter.unusedVariables false
set_option linter.unusedSimpArgs false
/-! ### bZ: function 7 -/
def bZ.f (k : Nat) (l0 : List (S40)) : Option (ByteArray × Int × Int) := (eY.f k l0).bind fun bt212 => (if bt212.2.1 = 0 then ((dM.f k bt212.1).bind fun t217 => (if (t217.size : Int) > 8192 then (some ((⟨#[]⟩ : ByteArray), 3, 0)) else (some (t217, 0, 0)))) else (some ((⟨#[]⟩ : ByteArray), bt212.2.1, bt212.2.2)))
theorem bZ.mono : ∀ a0 k, LeO (bZ.f k a0) (bZ.f (k + 1) a0) := by
 intro a0 k
 unfold bZ.f
 have m0 := dM.mono
 have m1 := eY.mono
 exact yL
set_option maxHeartbeats 8000000 in
set_option maxRecDepth 100000 in
theorem bZ.calls (k : Nat) (A0 : Option Addr) (c0 : Nat) (l0 : List (S40)) (r1 : ByteArray) (r2 : Int) (r3 : Int) (w : World) (hr0 : Kd.C k40 w A0 l0.length l0) (hc0 : l0.length ≤ c0) (h : bZ.f k l0 = some (r1, r2, r3)) :
 Calls Try.prog 7 #[.slice A0 l0.length c0] w fun e w' => e = .returned (.tuple #[.string r1, .int .i64 r2, .int .i64 r3]) ∧ Below w.heap.size w w' := by
 have HR0 := ae.mk hr0
 have HC0 := ae.mk hc0
 clear hr0 hc0
 have HB := ae.mk (Below.refl w.heap.size w)
 have H := h
 clear h
 unfold bZ.f at H
 revert H
 refine yB3 fun t212 t213 t214 A2 H => ?_
 try dsimp only at H
 revert H
 refine bn (fun c3b0 c3b1 H => ?_) fun c3 c3b0 c3b1 H => ?_
 ·revert H
  refine yB1 fun t217 A4 H => ?_
  revert H
  refine gZ (fun c5 H => ?_) fun c5 H => ?_
  ·have c5b0 : decide (8192 < (t217.size : Int)) = true := decide_eq_true c5
   have c5b1 : decide (8192 < t217.size) = true := decide_eq_true (by omega)
   clear c5
   simp only [Option.some.injEq, Prod.mk.injEq] at H
   obtain ⟨rfl, rfl, rfl⟩ := H
   go_enter Try.func7, Try.ntmps7
   go_wp2_with (first | ((with_reducible refine gC 11 rfl ?_); refine gM 11 11 rfl Try.func11 (eY.calls k _ _ l0 t212 t213 t214 _ Z7 HC0.out A2.out) ?_; rintro _ w6 ⟨v215, rfl, ho0, hb⟩; refine ⟨_, rfl, yA2 (Kd.dm ho0 (aG (bT HB))) (aj (bT HB) hb) ?_⟩; clear HB hb ho0; intro HO216 HB; obtain ⟨Ao7, co7, rfl⟩ := Kd.bY HO216.out) | ((with_reducible refine gC 15 rfl ?_); refine gM 15 20 rfl Try.func15 (dM.calls k _ _ t212 t217 _ (by repeat (first | exact (Kd.aI HO216.out).2.2 | (with_reducible refine Kd.fZ ?_ _) | (with_reducible refine Kd.fV ?_ _) | (with_reducible refine Kd.iq ?_))) ((Kd.aI HO216.out).2.1) A4.out) ?_; rintro _ w8 ⟨rfl, hb⟩; refine ⟨_, rfl, yA2 (Kd.aQ (qR HO216) hb) (aj (bT HB) hb) ?_⟩; clear HO216 HB hb; intro HO216 HB))
   go_ret3
   exact ⟨eT, bT HB⟩
  have c5b0 : decide (8192 < (t217.size : Int)) = false := decide_eq_false c5
  have c5b1 : decide (8192 < t217.size) = false := decide_eq_false (by omega)
  clear c5
  simp only [Option.some.injEq, Prod.mk.injEq] at H
  obtain ⟨rfl, rfl, rfl⟩ := H
  go_enter Try.func7, Try.ntmps7
  go_wp2_with (first | ((with_reducible refine gC 11 rfl ?_); refine gM 11 11 rfl Try.func11 (eY.calls k _ _ l0 t212 t213 t214 _ Z7 HC0.out A2.out) ?_; rintro _ w9 ⟨v215, rfl, ho0, hb⟩; refine ⟨_, rfl, yA2 (Kd.dm ho0 (aG (bT HB))) (aj (bT HB) hb) ?_⟩; clear HB hb ho0; intro HO216 HB; obtain ⟨Ao10, co10, rfl⟩ := Kd.bY HO216.out) | ((with_reducible refine gC 15 rfl ?_); refine gM 15 20 rfl Try.func15 (dM.calls k _ _ t212 t217 _ (by repeat (first | exact (Kd.aI HO216.out).2.2 | (with_reducible refine Kd.fZ ?_ _) | (with_reducible refine Kd.fV ?_ _) | (with_reducible refine Kd.iq ?_))) ((Kd.aI HO216.out).2.1) A4.out) ?_; rintro _ w11 ⟨rfl, hb⟩; refine ⟨_, rfl, yA2 (Kd.aQ (qR HO216) hb) (aj (bT HB) hb) ?_⟩; clear HO216 HB hb; intro HO216 HB))
  go_ret3
  exact ⟨eT, bT HB⟩
 simp only [Option.some.injEq, Prod.mk.injEq] at H
 obtain ⟨rfl, rfl, rfl⟩ := H
 go_enter Try.func7, Try.ntmps7
 go_wp2_with (first | ((with_reducible refine gC 11 rfl ?_); refine gM 11 11 rfl Try.func11 (eY.calls k _ _ l0 t212 t213 t214 _ Z7 HC0.out A2.out) ?_; rintro _ w12 ⟨v215, rfl, ho0, hb⟩; refine ⟨_, rfl, yA2 (Kd.dm ho0 (aG (bT HB))) (aj (bT HB) hb) ?_⟩; clear HB hb ho0; intro HO216 HB))
 go_ret3
 exact ⟨eT, bT HB⟩
-- BY HAND: function 23 (lex_pass)
end Go.Proofs.Ytlenihbmafkegaa.Q
end
section
namespace Go.Proofs.Ytlenihbmafkegaa.Q
open Go.RowKit Go.Proofs.YtlenihbmafkegaaW.PrintWords Go.Proofs.YtlenihbmafkegaaW.PrintLast Go.Proofs.YtlenihbmafkegaaW.PrintMore
attribute [local go_sem] dC dA dP dO cZ cO dB dw
set_option linter.unusedVariables false
set_option linter.unusedSimpArgs false
/-! ### bP: function 50 -/
mutual
def bP.j0 : Nat → ByteArray → Bool → Option (Int × Bool)
 | 0, _, _ => none
 | k + 1, x0, x18 => if x18 = true then (some (0, false)) else (bP.l0 k x0 0 (x0.size : Int) 0)
def bP.l0 : Nat → ByteArray → Int → Int → Int → Option (Int × Bool)
 | 0, _, _, _, _ => none
 | k + 1, x0, x4, x20, x21 => if x21 < x20 then (if 0 ≤ x21 then (if x21 < (x0.size : Int) then (bP.l0 k x0 (IntKind.u64.wrap ((IntKind.u64.wrap (10 * x4)) + (((bt x0 x21) - 48) % 256))) x20 (wrap64 (x21 + 1))) else (none)) else (none)) else (some (wrap64 (x4), ((x4 / 9223372036854775808) == 0)))
end
def bP.f (k : Nat) (a0 : ByteArray) : Option (Int × Bool) := if (a0.size : Int) > 19 then (bP.j0 k a0 true) else (if (a0.size : Int) > 1 then (if 0 < (a0.size : Int) then (bP.j0 k a0 ((bt a0 0) == 48)) else (none)) else (bP.j0 k a0 false))
theorem bP.cu : ∀ k, (∀ y0 y1, LeO (bP.j0 k y0 y1) (bP.j0 (k + 1) y0 y1)) ∧ (∀ y0 y1 y2 y3, LeO (bP.l0 k y0 y1 y2 y3) (bP.l0 (k + 1) y0 y1 y2 y3))
 | 0 => ⟨fun _ _ r h => by simp [bP.j0] at h, fun _ _ _ _ r h => by simp [bP.l0] at h⟩
 | k + 1 => by
  obtain ⟨ih0, ih1⟩ := bP.cu k
  refine ⟨?_, ?_⟩
  ·intro y0 y1
   unfold bP.j0
   exact yL
  intro y0 y1 y2 y3
  unfold bP.l0
  exact yL
theorem bP.mono : ∀ a0 k, LeO (bP.f k a0) (bP.f (k + 1) a0) := by
 intro a0 k
 obtain ⟨ih0, ih1⟩ := bP.cu k
 unfold bP.f
 exact yL
set_option maxHeartbeats 8000000 in
set_option maxRecDepth 100000 in
theorem bP.calls (k : Nat) (a0 : ByteArray) (r1 : Int) (r2 : Bool) (w : World) (h : bP.f k a0 = some (r1, r2)) :
 Calls Try.prog 50 #[.string a0] w fun e w' => e = .returned (.tuple #[.int .i64 r1, .bool r2]) ∧ dQ w w' := by
 have H := h
 clear h
 unfold bP.f at H
 have HC2 := ae.mk H
 clear H
 go_enter Try.func50, Try.ntmps50
 go_upto_region 1 with (fail)
 go_cut [18] (fun v18 wc => ∃ (kq : Nat) (x18_1 : Bool), v18 = .bool x18_1 ∧ ae (bP.j0 kq a0 x18_1 = some (r1, r2)) ∧ ae (kq ≤ k) ∧ dQ w wc)
 case first =>
  have H := HC2.out
  clear HC2
  revert H
  refine gZ (fun c3 H => ?_) fun c3 H => ?_
  ·have c3b0 : decide (19 < (a0.size : Int)) = true := decide_eq_true c3
   have c3b1 : decide (19 < a0.size) = true := decide_eq_true (by omega)
   clear c3
   (first | rw [c3b0] | (simp only [gB, iP]; rw [c3b0]) | skip)
   have H' := ae.mk H
   clear H
   go_wp2
   go_meet
   case rel => exact ⟨_, (true), fT, H', ⟨Z13⟩, Z0⟩
  have c3b0 : decide (19 < (a0.size : Int)) = false := decide_eq_false c3
  have c3b1 : decide (19 < a0.size) = false := decide_eq_false (by omega)
  clear c3
  (first | rw [c3b0] | (simp only [gB, iP]; rw [c3b0]) | skip)
  revert H
  refine gZ (fun c4 H => ?_) fun c4 H => ?_
  ·have c4b0 : decide (1 < (a0.size : Int)) = true := decide_eq_true c4
   have c4b1 : decide (1 < a0.size) = true := decide_eq_true (by omega)
   clear c4
   revert H
   refine yP (fun c5 c5b0 H => ?_) fun c5 H => ?_
   ·have c5b1 : decide (0 < a0.size) = true := decide_eq_true (by omega)
    clear c5
    have H' := ae.mk H
    clear H
    have p6 : 0 ≤ (0 : Int) := (by omega)
    have q6 : 0 < a0.size := (by have : (0 : Int) < (a0.size : Int) := of_decide_eq_true aT; omega)
    have hx6 : ∀ h : 0 < a0.size, ((a0[0]'h).toNat : Int) = bt a0 0 := l9 a0 0
    clear p6
    have qi6 : (0 < (a0.size : Int)) = True := eq_true (of_decide_eq_true aT)
    replace q6 := eq_true q6
    go_wp2
    go_meet
    case rel => exact ⟨_, (((bt a0 0) == 48)), fT, H', ⟨Z13⟩, Z0⟩
   exact absurd H (by simp)
  have c4b0 : decide (1 < (a0.size : Int)) = false := decide_eq_false c4
  have c4b1 : decide (1 < a0.size) = false := decide_eq_false (by omega)
  clear c4
  have H' := ae.mk H
  clear H
  go_wp2
  go_meet
  case rel => exact ⟨_, (false), fT, H', ⟨Z13⟩, Z0⟩
 case rest =>
  clear HC2
  try clear p2
  try clear c3
  try clear c3b0
  try clear c3b1
  try clear c4
  try clear c4b0
  try clear c4b1
  try clear c5
  try clear c5b0
  try clear c5b1
  try clear p6
  try clear q6
  try clear hx6
  try clear qi6
  try clear p6
  try clear q6
  obtain ⟨kq, x18_1, rfl, HA, HJ1, ⟨mc1, rfl⟩⟩ := hcut
  cases kq with
  | zero => exact absurd HA.out (by simp [bP.j0])
  | succ kj1 =>
   have H := HA.out
   clear HA
   simp only [bP.j0] at H
   cases x18_1
   rotate_left
   ·replace H := yT H
    simp only [Option.some.injEq, Prod.mk.injEq] at H
    obtain ⟨rfl, rfl⟩ := H
    go_wp2
    go_ret2
    exact ⟨fT, Z0⟩
   replace H := yF H
   have H' := ae.mk H
   clear H
   go_wp2
   go_loopg [4, 21] kj1 (fun kq v4 v21 w' => ∃ (x4_2 : Int) (x21_2 : Int), v4 = .int .u64 x4_2 ∧ v21 = .int .i64 x21_2 ∧ ae (bP.l0 kq a0 x4_2 (a0.size : Int) x21_2 = some (r1, r2)) ∧ ae (kq ≤ kj1) ∧ dQ w w')
   case atStart => exact ⟨(0), (0), fT, fT, H', ⟨Nat.le_refl _⟩, Z0⟩
   case round =>
    clear H'
    try clear c1
    try clear p2
    try clear c3
    try clear c3b0
    try clear c3b1
    try clear c4
    try clear c4b0
    try clear c4b1
    try clear c5
    try clear c5b0
    try clear c5b1
    try clear p6
    try clear q6
    try clear hx6
    try clear qi6
    try clear c7
    try clear p2
    try clear p6
    try clear q6
    obtain ⟨x4_2, x21_2, rfl, rfl, HA, HK2, ⟨m2, rfl⟩⟩ := hrel
    cases gk with
    | zero => exact absurd HA.out (by simp [bP.l0])
    | succ k2 =>
     have H := HA.out
     clear HA
     simp only [bP.l0] at H
     revert H
     refine jU (fun c8b0 H => ?_) fun c8b0 H => ?_
     ·revert H
      refine gY (fun c9b0 H => ?_) fun c9 H => ?_
      ·revert H
       refine gY (fun c10b0 H => ?_) fun c10 H => ?_
       ·have H' := ae.mk H
        clear H
        have p11 : 0 ≤ (x21_2 : Int) := of_decide_eq_true aT
        have q11 : x21_2 < (a0.size : Int) := of_decide_eq_true aT
        have hx11 := l9 a0 x21_2
        replace p11 := eq_true p11
        replace q11 := eq_true q11
        go_wp2
        go_roundg k2
        case measure => have := HJ1.out; have := HK2.out; omega
        case rel => exact ⟨(IntKind.u64.wrap ((IntKind.u64.wrap (10 * x4_2)) + (((bt a0 x21_2) - 48) % 256))), (wrap64 (x21_2 + 1)), fT, fT, H', ⟨by have := HJ1.out; have := HK2.out; omega⟩, Z0⟩
       exact absurd H (by simp)
      exact absurd H (by simp)
     simp only [Option.some.injEq, Prod.mk.injEq] at H
     obtain ⟨rfl, rfl⟩ := H
     go_wp2
     go_ret2
     exact ⟨fT, Z0⟩
/-! ### jD: function 73 -/
def jD.f (a0 : Int) : Option (Int × Bool) := if a0 = 110 then (some (10, true)) else (if a0 = 34 then (some (a0, true)) else (if a0 = 92 then (some (a0, true)) else (some (0, false))))
set_option maxHeartbeats 8000000 in
set_option maxRecDepth 100000 in
theorem jD.calls (a0 : Int) (r1 : Int) (r2 : Bool) (w : World) (h : jD.f a0 = some (r1, r2)) :
 Calls Try.prog 73 #[.int .u8 a0] w fun e w' => e = .returned (.tuple #[.int .u8 r1, .bool r2]) ∧ dQ w w' := by
 have H := h
 clear h
 unfold jD.f at H
 revert H
 refine bn (fun c2b0 c2b1 H => ?_) fun c2 c2b0 c2b1 H => ?_
 ·simp only [Option.some.injEq, Prod.mk.injEq] at H
  obtain ⟨rfl, rfl⟩ := H
  go_enter Try.func73, Try.ntmps73
  go_wp2
  go_ret2
  exact ⟨fT, Z0⟩
 revert H
 refine bn (fun c3b0 c3b1 H => ?_) fun c3 c3b0 c3b1 H => ?_
 ·simp only [Option.some.injEq, Prod.mk.injEq] at H
  obtain ⟨rfl, rfl⟩ := H
  go_enter Try.func73, Try.ntmps73
  go_wp2
  go_ret2
  exact ⟨fT, Z0⟩
 revert H
 refine bn (fun c4b0 c4b1 H => ?_) fun c4 c4b0 c4b1 H => ?_
 ·simp only [Option.some.injEq, Prod.mk.injEq] at H
  obtain ⟨rfl, rfl⟩ := H
  go_enter Try.func73, Try.ntmps73
  go_wp2
  go_ret2
  exact ⟨fT, Z0⟩
 simp only [Option.some.injEq, Prod.mk.injEq] at H
 obtain ⟨rfl, rfl⟩ := H
 go_enter Try.func73, Try.ntmps73
 go_wp2
 go_ret2
 exact ⟨fT, Z0⟩
end Go.Proofs.Ytlenihbmafkegaa.Q
end
