/- Walks over functions of the program, words for them, and what the functions come to; of each text only what this claim uses; no condition. -/
import Derived.Test.YtlenihbmafkegaaZSB0
import Derived.Test.YtlenihbmafkegaaZSB1
import Derived.Test.YtlenihbmafkegaaZSB2
import Derived.Test.YtlenihbmafkegaaZSB3
import Derived.Test.YtlenihbmafkegaaZSB4
import Derived.Test.YtlenihbmafkegaaZSB5
import Derived.Test.YtlenihbmafkegaaZSB6
section
namespace Go.Proofs.Ytlenihbmafkegaa.Q
open Go.RowKit Go.Proofs.YtlenihbmafkegaaW.PrintWords Go.Proofs.YtlenihbmafkegaaW.PrintLast Go.Proofs.YtlenihbmafkegaaW.PrintMore
attribute [local go_sem] df cO dI dH bV bU cZ cu
set_option linter.unusedVariables false
set_option linter.unusedSimpArgs false
/-! ### aK: function 8 -/
mutual
def aK.j0 : Nat → List (S40) → Bool → Option (Int × Int)
 | 0, _, _ => none
 | k + 1, x0, x13 => if x13 = true then (some (2, 0)) else ((bg.f k x0).bind fun t167 => (if t167 > 60 then (some (3, 0)) else (if 0 < (x0.length : Int) then (if ((ak x0 0).f0) = 1 then (aK.l0 k x0 x0 (x0.length : Int) 0) else (some (4, 0))) else (none))))
def aK.l0 : Nat → List (S40) → List (S40) → Int → Int → Option (Int × Int)
 | 0, _, _, _, _ => none
 | k + 1, x0, x34, x35, x36 => if x36 < x35 then (if 0 ≤ x36 then (if x36 < (x34.length : Int) then ((bM.f k x0 x36).bind fun t171 => (aK.l1 k x0 x36 ([] : List Int) x34 x35 x36 t171 (t171.length : Int) 0 ((ak x34 x36).f0) ((ak x34 x36).f1) ((ak x34 x36).f2) ((ak x34 x36).f3) ((ak x34 x36).f4))) else (none)) else (none)) else (some (0, 0))
def aK.l1 : Nat → List (S40) → Int → List Int → List (S40) → Int → Int → List Int → Int → Int → Int → Int → ByteArray → Int → ByteArray → Option (Int × Int)
 | 0, _, _, _, _, _, _, _, _, _, _, _, _, _, _ => none
 | k + 1, x0, x4, x6, x34, x35, x36, x43, x44, x45, x171000, x171001, x171002, x171003, x171004 => if x45 < x44 then (if 0 ≤ x45 then (if x45 < (x43.length : Int) then (if 0 ≤ (rd x43 x45) then (if (rd x43 x45) < (x0.length : Int) then (if x6.length < 17592186044416 then (aK.l1 k x0 x4 (x6 ++ [(ak x0 (rd x43 x45)).f0]) x34 x35 x36 x43 x44 (wrap64 (x45 + 1)) x171000 x171001 x171002 x171003 x171004) else (none)) else (none)) else (none)) else (none)) else (none)) else ((bz.f k x171000 x171001 x171002 x171003 x171004).bind fun t179 => (if t179 = true then ((aV.f k x171000 x6).bind fun t180 => (if t180 = true then (aK.l0 k x0 x34 x35 (wrap64 (x36 + 1))) else (some (4, x4)))) else (some (4, x4))))
end
def aK.f (k : Nat) (l0 : List (S40)) : Option (Int × Int) := if (l0.length : Int) > 2000 then (some (3, 0)) else (if (l0.length : Int) = 0 then (aK.j0 k l0 true) else ((bI.f k l0 0).bind fun t166 => (aK.j0 k l0 (t166 != (l0.length : Int)))))
theorem aK.bW : ∀ k, (∀ y0 y1, LeO (aK.j0 k y0 y1) (aK.j0 (k + 1) y0 y1)) ∧ (∀ y0 y1 y2 y3, LeO (aK.l0 k y0 y1 y2 y3) (aK.l0 (k + 1) y0 y1 y2 y3)) ∧ (∀ y0 y1 y2 y3 y4 y5 y6 y7 y8 y9 y10 y11 y12 y13, LeO (aK.l1 k y0 y1 y2 y3 y4 y5 y6 y7 y8 y9 y10 y11 y12 y13) (aK.l1 (k + 1) y0 y1 y2 y3 y4 y5 y6 y7 y8 y9 y10 y11 y12 y13))
 | 0 => ⟨fun _ _ r h => by simp [aK.j0] at h, fun _ _ _ _ r h => by simp [aK.l0] at h, fun _ _ _ _ _ _ _ _ _ _ _ _ _ _ r h => by simp [aK.l1] at h⟩
 | k + 1 => by
  obtain ⟨ih0, ih1, ih2⟩ := aK.bW k
  refine ⟨?_, ?_, ?_⟩
  ·intro y0 y1
   unfold aK.j0
   have m0 := bg.mono
   have m1 := bI.mono
   have m2 := bM.mono
   have m3 := bz.mono
   have m4 := aV.mono
   exact yL
  ·intro y0 y1 y2 y3
   unfold aK.l0
   have m0 := bg.mono
   have m1 := bI.mono
   have m2 := bM.mono
   have m3 := bz.mono
   have m4 := aV.mono
   exact yL
  intro y0 y1 y2 y3 y4 y5 y6 y7 y8 y9 y10 y11 y12 y13
  unfold aK.l1
  have m0 := bg.mono
  have m1 := bI.mono
  have m2 := bM.mono
  have m3 := bz.mono
  have m4 := aV.mono
  exact yL
theorem aK.mono : ∀ a0 k, LeO (aK.f k a0) (aK.f (k + 1) a0) := by
 intro a0 k
 obtain ⟨ih0, ih1, ih2⟩ := aK.bW k
 unfold aK.f
 have m0 := bg.mono
 have m1 := bI.mono
 have m2 := bM.mono
 have m3 := bz.mono
 have m4 := aV.mono
 exact yL
set_option maxHeartbeats 8000000 in
set_option maxRecDepth 100000 in
theorem aK.calls (k : Nat) (A0 : Option Addr) (c0 : Nat) (l0 : List (S40)) (r1 : Int) (r2 : Int) (w : World) (hr0 : Kd.C k40 w A0 l0.length l0) (hc0 : l0.length ≤ c0) (h : aK.f k l0 = some (r1, r2)) :
 Calls Try.prog 8 #[.slice A0 l0.length c0] w fun e w' => e = .returned (.tuple #[.int .i64 r1, .int .i64 r2]) ∧ Below w.heap.size w w' := by
 have hu40 := Try.underlying40
 have HR0 := ae.mk hr0
 have HC0 := ae.mk hc0
 clear hr0 hc0
 have HB := ae.mk (Below.refl w.heap.size w)
 have H := h
 clear h
 unfold aK.f at H
 revert H
 refine gG (fun c2 H => ?_) fun c2 H => ?_
 ·have c2b0 : decide (2000 < (l0.length : Int)) = true := decide_eq_true c2
  have c2b1 : decide (2000 < l0.length) = true := decide_eq_true (by omega)
  clear c2
  simp only [Option.some.injEq, Prod.mk.injEq] at H
  obtain ⟨rfl, rfl⟩ := H
  go_enter Try.func8, Try.ntmps8
  go_wp2
  go_ret2
  exact ⟨eT, bT HB⟩
 have c2b0 : decide (2000 < (l0.length : Int)) = false := decide_eq_false c2
 have c2b1 : decide (2000 < l0.length) = false := decide_eq_false (by omega)
 clear c2
 have HC3 := ae.mk H
 clear H
 go_enter Try.func8, Try.ntmps8
 go_upto_region 3 with (fail)
 go_cut [13] (fun v13 wc => ∃ (kq : Nat) (x13_2 : Bool), v13 = .bool x13_2 ∧ ae (aK.j0 kq l0 x13_2 = some (r1, r2)) ∧ ae (kq ≤ k) ∧ ae (Below w.heap.size w wc))
 case first =>
  have H := HC3.out
  clear HC3
  revert H
  refine bu (fun c4b0 c4b1 H => ?_) fun c4 c4b0 c4b1 H => ?_
  ·(first | rw [c4b0] | (simp only [gp, iJ]; rw [c4b0]) | skip)
   have H' := ae.mk H
   clear H
   go_wp2
   go_meet
   case rel => exact ⟨_, (true), fT, H', ⟨Z11⟩, ⟨bT HB⟩⟩
  have c4b2 : ¬ (l0 = []) := fun h_ => c4 (by rw [h_]; rfl)
  (first | rw [c4b0] | (simp only [gp, iJ]; rw [c4b0]) | skip)
  revert H
  refine yB1 fun t166 A5 H => ?_
  have H' := ae.mk H
  clear H
  go_wp2_with (first | (go_at_call 16; (with_reducible refine (bI.calls k _ _ l0 0 t166 _ ?side1 ?side2 A5.out).mono ?_); (case side1 => exact Z4); (case side2 => exact HC0.out); rintro e w' ⟨rfl, ⟨nd, rfl⟩⟩))
  go_meet
  case rel => exact ⟨_, ((t166 != (l0.length : Int))), fT, H', ⟨Z11⟩, ⟨bT HB⟩⟩
 case rest =>
  clear HC3
  try clear c2
  try clear c2b0
  try clear c2b1
  try clear p2
  try clear c4
  try clear c4b0
  try clear c4b1
  try clear c4b2
  obtain ⟨kq, x13_2, rfl, HA, HJ2, HB⟩ := hcut
  cases kq with
  | zero => exact absurd HA.out (by simp [aK.j0])
  | succ kj2 =>
   have H := HA.out
   clear HA
   simp only [aK.j0] at H
   cases x13_2
   rotate_left
   ·replace H := yT H
    simp only [Option.some.injEq, Prod.mk.injEq] at H
    obtain ⟨rfl, rfl⟩ := H
    go_wp2
    go_ret2
    exact ⟨eT, bT HB⟩
   replace H := yF H
   revert H
   refine yB1 fun t167 A7 H => ?_
   revert H
   refine gG (fun c8 H => ?_) fun c8 H => ?_
   ·have c8b0 : decide (60 < t167) = true := decide_eq_true c8
    clear c8
    simp only [Option.some.injEq, Prod.mk.injEq] at H
    obtain ⟨rfl, rfl⟩ := H
    go_wp2_with (first | ((with_reducible refine gC 17 rfl ?_); refine gM 17 26 rfl Try.func17 (bg.calls kj2 _ _ l0 t167 _ Z4 HC0.out A7.out) ?_; rintro _ w9 ⟨rfl, hb⟩; refine ⟨_, rfl, yA1 (aj (bT HB) hb) ?_⟩; clear HB hb; intro HB))
    go_ret2
    exact ⟨eT, bT HB⟩
   have c8b0 : decide (60 < t167) = false := decide_eq_false c8
   clear c8
   revert H
   refine yP (fun c10 c10b0 H => ?_) fun c10 H => ?_
   ·have c10b1 : decide (0 < l0.length) = true := decide_eq_true (by omega)
    clear c10
    revert H
    refine bu (fun c11b0 c11b1 H => ?_) fun c11 c11b0 c11b1 H => ?_
    ·have H' := ae.mk H
     clear H
     go_wp2_with (first | ((with_reducible refine gC 17 rfl ?_); refine gM 17 26 rfl Try.func17 (bg.calls kj2 _ _ l0 t167 _ Z4 HC0.out A7.out) ?_; rintro _ w12 ⟨rfl, hb⟩; refine ⟨_, rfl, yA1 (aj (bT HB) hb) ?_⟩; clear HB hb; intro HB; have p168 : 0 ≤ (0 : Int) := (by omega); have q168 : 0 < (l0.length : Int) := of_decide_eq_true aT; obtain ⟨ad168, e168, hx168_0, hx168_1, hx168_2, hx168_3, hx168_4⟩ := iV HR0.out 0 p168 q168; cases e168; have qi168 : (0 < l0.length) = True := eq_true (by omega); (try rw [show ((0 : Int)).toNat = 0 from rfl] at hx168_0); (try rw [show 0 * 5 = 0 from rfl] at hx168_0); (try rw [Addr.add_zero'] at hx168_0); (try rw [show ((0 : Int)).toNat = 0 from rfl] at hx168_1); (try rw [show 0 * 5 = 0 from rfl] at hx168_1); (try rw [Addr.add_zero'] at hx168_1); (try rw [show ((0 : Int)).toNat = 0 from rfl] at hx168_2); (try rw [show 0 * 5 = 0 from rfl] at hx168_2); (try rw [Addr.add_zero'] at hx168_2); (try rw [show ((0 : Int)).toNat = 0 from rfl] at hx168_3); (try rw [show 0 * 5 = 0 from rfl] at hx168_3); (try rw [Addr.add_zero'] at hx168_3); (try rw [show ((0 : Int)).toNat = 0 from rfl] at hx168_4); (try rw [show 0 * 5 = 0 from rfl] at hx168_4); (try rw [Addr.add_zero'] at hx168_4); replace hx168_0 := (HB.out.cell (World.block_lt_of_cell? w _ hx168_0)).trans hx168_0; replace hx168_1 := (HB.out.cell (World.block_lt_of_cell? w _ hx168_1)).trans hx168_1; replace hx168_2 := (HB.out.cell (World.block_lt_of_cell? w _ hx168_2)).trans hx168_2; replace hx168_3 := (HB.out.cell (World.block_lt_of_cell? w _ hx168_3)).trans hx168_3; replace hx168_4 := (HB.out.cell (World.block_lt_of_cell? w _ hx168_4)).trans hx168_4; replace p168 := eq_true p168; replace q168 := eq_true q168))
     go_loopg [36] kj2 (fun kq v36 w' => ∃ (x36_2 : Int), v36 = .int .i64 x36_2 ∧ ae (aK.l0 kq l0 l0 (l0.length : Int) x36_2 = some (r1, r2)) ∧ ae (kq ≤ kj2) ∧ ae (Below w.heap.size w w'))
     case atStart => exact ⟨(0), fT, H', ⟨Nat.le_refl _⟩, ⟨bT HB⟩⟩
     case round =>
      clear H'
      try clear c1
      try clear p1
      try clear q1
      try clear hx1
      try clear qi1
      try clear c2
      try clear c2b0
      try clear c2b1
      try clear p2
      try clear c4
      try clear c4b0
      try clear c4b1
      try clear c4b2
      try clear c6
      try clear c8
      try clear c8b0
      try clear c10
      try clear c10b0
      try clear c10b1
      try clear c11
      try clear c11b0
      try clear c11b1
      try clear hx168_0
      try clear hx168_1
      try clear hx168_2
      try clear hx168_3
      try clear hx168_4
      try clear p168
      try clear p2
      try clear q168
      obtain ⟨x36_2, rfl, HA, HK2, HB⟩ := hrel
      cases gk with
      | zero => exact absurd HA.out (by simp [aK.l0])
      | succ k2 =>
       have H := HA.out
       clear HA
       simp only [aK.l0] at H
       revert H
       refine jT (fun c13b0 H => ?_) fun c13b0 H => ?_
       ·revert H
        refine gY (fun c14b0 H => ?_) fun c14 H => ?_
        ·revert H
         refine gY (fun c15b0 H => ?_) fun c15 H => ?_
         ·revert H
          refine yB1 fun t171 A16 H => ?_
          have H' := ae.mk H
          clear H
          have p169 : 0 ≤ (x36_2 : Int) := of_decide_eq_true aT
          have q169 : x36_2 < (l0.length : Int) := of_decide_eq_true aT
          obtain ⟨ad169, e169, hx169_0, hx169_1, hx169_2, hx169_3, hx169_4⟩ := iV HR0.out x36_2 p169 q169
          obtain rfl : ad168 = ad169 := (by injection e169)
          replace hx169_0 := (HB.out.cell (World.block_lt_of_cell? w _ hx169_0)).trans hx169_0
          replace hx169_1 := (HB.out.cell (World.block_lt_of_cell? w _ hx169_1)).trans hx169_1
          replace hx169_2 := (HB.out.cell (World.block_lt_of_cell? w _ hx169_2)).trans hx169_2
          replace hx169_3 := (HB.out.cell (World.block_lt_of_cell? w _ hx169_3)).trans hx169_3
          replace hx169_4 := (HB.out.cell (World.block_lt_of_cell? w _ hx169_4)).trans hx169_4
          replace p169 := eq_true p169
          replace q169 := eq_true q169
          go_wp2_with (first | ((with_reducible refine bF (N := 5) rfl ?_); (try (refine oQ (by rfl) ?_; dsimp only)); refine dS ?hg (N := 5) ?hd (cs := #[.int .i64 0, .int .i64 0, .string (⟨#[]⟩ : ByteArray), .int .i64 0, .string (⟨#[]⟩ : ByteArray)]) (t := 40) ?hr ?_; (case hd => rfl); (case hg => rfl); (case hr => first | (go_simp; done) | (go_simp; rfl)); intro gb170 hg w17 hbox hb; refine yA4 (aj (bT HB) hb) (hbox) ((by rw [hg]; exact (aX (bT HB)) : w.heap.size ≤ gb170)) ((by rw [hg]; exact (aX (bT HB)) : w.heap.size ≤ gb170)) ?_; clear HB; intro HB BK170 GW170 GE170; clear hb hbox hg; have hcz18_0 : w17.cell? ⟨gb170, 0, none⟩ = some (.int .i64 0) := (ah BK170.out 0).trans rfl; have hcz18_1 : w17.cell? ⟨gb170, 1, none⟩ = some (.int .i64 0) := (ah BK170.out 1).trans rfl; have hcz18_2 : w17.cell? ⟨gb170, 2, none⟩ = some (.string (⟨#[]⟩ : ByteArray)) := (ah BK170.out 2).trans rfl; have hcz18_3 : w17.cell? ⟨gb170, 3, none⟩ = some (.int .i64 0) := (ah BK170.out 3).trans rfl; have hcz18_4 : w17.cell? ⟨gb170, 4, none⟩ = some (.string (⟨#[]⟩ : ByteArray)) := (ah BK170.out 4).trans rfl; have hfz18_0 := af BK170.out 0; have hfz18_1 := af BK170.out 1; have hfz18_2 := af BK170.out 2; have hfz18_3 := af BK170.out 3; have hfz18_4 := af BK170.out 4) | ((with_reducible refine gC 18 rfl ?_); refine gM 18 43 rfl Try.func18 (bM.calls k2 _ _ l0 x36_2 t171 _ (Kd.gX HR0.out (bT HB)) HC0.out A16.out) ?_; rintro _ w19 ⟨v172, rfl, ho0, hb⟩; refine ⟨_, rfl, yA3 (Kd.eU ho0 (aX (bT HB))) (eG (g := gb170) (o := .cells #[.int .i64 ((ak l0 x36_2).f0), .int .i64 ((ak l0 x36_2).f1), .string ((ak l0 x36_2).f2), .int .i64 ((ak l0 x36_2).f3), .string ((ak l0 x36_2).f4)] 40 (0, 0)) (by refine dm (cs := #[.int .i64 ((ak l0 x36_2).f0), .int .i64 ((ak l0 x36_2).f1), .string ((ak l0 x36_2).f2), .int .i64 ((ak l0 x36_2).f3), .string (⟨#[]⟩ : ByteArray)]) ?_ 4 _ rfl; refine dm (cs := #[.int .i64 ((ak l0 x36_2).f0), .int .i64 ((ak l0 x36_2).f1), .string ((ak l0 x36_2).f2), .int .i64 0, .string (⟨#[]⟩ : ByteArray)]) ?_ 3 _ rfl; refine dm (cs := #[.int .i64 ((ak l0 x36_2).f0), .int .i64 ((ak l0 x36_2).f1), .string (⟨#[]⟩ : ByteArray), .int .i64 0, .string (⟨#[]⟩ : ByteArray)]) ?_ 2 _ rfl; refine dm (cs := #[.int .i64 ((ak l0 x36_2).f0), .int .i64 0, .string (⟨#[]⟩ : ByteArray), .int .i64 0, .string (⟨#[]⟩ : ByteArray)]) ?_ 1 _ rfl; refine dm (cs := #[.int .i64 0, .int .i64 0, .string (⟨#[]⟩ : ByteArray), .int .i64 0, .string (⟨#[]⟩ : ByteArray)]) ?_ 0 _ rfl; exact BK170.out) hb) (aj (bT HB) hb) ?_⟩; clear BK170 HB hb ho0; intro HO173 BK170 HB; obtain ⟨Ao20, co20, rfl⟩ := Kd.dL HO173.out))
          go_loopg [6, 45] k2 (fun kq v6 v45 w' => ∃ (x6_3 : List Int) (x45_3 : Int), v45 = .int .i64 x45_3 ∧ ae (aK.l1 kq l0 x36_2 x6_3 l0 (l0.length : Int) x36_2 t171 (t171.length : Int) x45_3 ((ak l0 x36_2).f0) ((ak l0 x36_2).f1) ((ak l0 x36_2).f2) ((ak l0 x36_2).f3) ((ak l0 x36_2).f4) = some (r1, r2)) ∧ ae (kq ≤ k2) ∧ ae (Kd.R (Kd.int .i64) 3 w' w.heap.size (fun k_ => some k_ ≠ ((.slice Ao20 t171.length co20) : Value).ownBlock) v6 x6_3) ∧ ae (Kd.R (Kd.int .i64) 3 w' w.heap.size (fun k_ => some k_ ≠ (v6 : Value).ownBlock) (.slice Ao20 t171.length co20) t171) ∧ ae (w'.heap[gb170]? = some (.cells #[.int .i64 ((ak l0 x36_2).f0), .int .i64 ((ak l0 x36_2).f1), .string ((ak l0 x36_2).f2), .int .i64 ((ak l0 x36_2).f3), .string ((ak l0 x36_2).f4)] 40 (0, 0))) ∧ ae (Below w.heap.size w w'))
          case atStart => exact ⟨(([] : List Int)), (0), fT, H', ⟨Nat.le_refl _⟩, ⟨Z5⟩, ⟨by (with_reducible repeat (first | apply Kd.jP | apply Kd.jZ | apply Kd.lI)); exact Kd.fG HO173.out (fun _ hk => (by simp [Value.ownBlock]))⟩, ⟨by exact BK170.out⟩, ⟨bT HB⟩⟩
          case round =>
           clear H'
           try clear c1
           try clear p1
           try clear q1
           try clear hx1
           try clear qi1
           try clear c2
           try clear c2b0
           try clear c2b1
           try clear p2
           try clear c4
           try clear c4b0
           try clear c4b1
           try clear c4b2
           try clear c6
           try clear c8
           try clear c8b0
           try clear c10
           try clear c10b0
           try clear c10b1
           try clear c11
           try clear c11b0
           try clear c11b1
           try clear c13
           try clear c13b0
           try clear c14
           try clear c14b0
           try clear c15
           try clear c15b0
           try clear p16
           try clear q16
           try clear hx16
           try clear qi16
           try clear c17
           try clear c18
           try clear hcz18_0
           try clear hcz18_1
           try clear hcz18_2
           try clear hcz18_3
           try clear hcz18_4
           try clear hfz18_0
           try clear hfz18_1
           try clear hfz18_2
           try clear hfz18_3
           try clear hfz18_4
           try clear hx168_0
           try clear hx168_1
           try clear hx168_2
           try clear hx168_3
           try clear hx168_4
           try clear hx169_0
           try clear hx169_1
           try clear hx169_2
           try clear hx169_3
           try clear hx169_4
           try clear p1
           try clear p168
           try clear p169
           try clear p2
           try clear q1
           try clear q168
           try clear q169
           obtain ⟨x6_3, x45_3, rfl, HA, HK3, HO_6, HO_43, BK170, HB⟩ := hrel
           cases gk with
           | zero => exact absurd HA.out (by simp [aK.l1])
           | succ k3 =>
            have H := HA.out
            clear HA
            simp only [aK.l1] at H
            revert H
            refine jT (fun c21b0 H => ?_) fun c21b0 H => ?_
            ·revert H
             refine gY (fun c22b0 H => ?_) fun c22 H => ?_
             ·revert H
              refine gY (fun c23b0 H => ?_) fun c23 H => ?_
              ·revert H
               refine gY (fun c24b0 H => ?_) fun c24 H => ?_
               ·revert H
                refine gY (fun c25b0 H => ?_) fun c25 H => ?_
                ·revert H
                 refine gG (fun c26 H => ?_) fun c26 H => ?_
                 ·have LMc26 := ae.mk c26
                  clear c26
                  obtain ⟨y176, hy176⟩ : ∃ y_ : List Int, y_ = (x6_3 ++ [(ak l0 (rd t171 x45_3)).f0]) := ⟨_, rfl⟩
                  replace H : (aK.l1 k3 l0 x36_2 y176 l0 (l0.length : Int) x36_2 t171 (t171.length : Int) (wrap64 (x45_3 + 1)) ((ak l0 x36_2).f0) ((ak l0 x36_2).f1) ((ak l0 x36_2).f2) ((ak l0 x36_2).f3) ((ak l0 x36_2).f4)) = some (r1, r2) := by first | (rw [hy176]; with_reducible exact H) | (have H2_ := (Option.bind_some _ _).symm.trans H; rw [hy176]; with_reducible exact H2_) | (have H2_ := (Option.bind_some _ _).symm.trans H; with_reducible exact H2_) | with_reducible exact H | (rw [hy176]; exact H) | exact H
                  have Ny176 := ae.mk hy176
                  clear hy176
                  have H' := ae.mk H
                  clear H
                  have p174 : 0 ≤ (x45_3 : Int) := of_decide_eq_true aT
                  have q174 : x45_3 < (t171.length : Int) := of_decide_eq_true aT
                  obtain ⟨ad174, e174, hx174_0⟩ := Kd.lG (Kd.bG HO_43.out).2.2 x45_3 p174 q174
                  cases e174
                  replace p174 := eq_true p174
                  replace q174 := eq_true q174
                  have p175 : 0 ≤ ((rd t171 x45_3) : Int) := of_decide_eq_true aT
                  have q175 : (rd t171 x45_3) < (l0.length : Int) := of_decide_eq_true aT
                  obtain ⟨ad175, e175, hx175_0, hx175_1, hx175_2, hx175_3, hx175_4⟩ := iV HR0.out (rd t171 x45_3) p175 q175
                  obtain rfl : ad168 = ad175 := (by injection e175)
                  replace hx175_0 := (HB.out.cell (World.block_lt_of_cell? w _ hx175_0)).trans hx175_0
                  replace hx175_1 := (HB.out.cell (World.block_lt_of_cell? w _ hx175_1)).trans hx175_1
                  replace hx175_2 := (HB.out.cell (World.block_lt_of_cell? w _ hx175_2)).trans hx175_2
                  replace hx175_3 := (HB.out.cell (World.block_lt_of_cell? w _ hx175_3)).trans hx175_3
                  replace hx175_4 := (HB.out.cell (World.block_lt_of_cell? w _ hx175_4)).trans hx175_4
                  replace p175 := eq_true p175
                  replace q175 := eq_true q175
                  go_wp2_with (first | ((with_reducible refine dO (b := .append) (xs := #[.tmp 49, .tmp 55]) rfl ?_); (try (refine oQ (by rfl) ?_; dsimp only)); at_builtin; refine Kd.lV (Kd.int .i64) (w0 := w) w.heap.size rfl (.tmp 49) (.tmp 55) 45 3 (.int .i64 0) 8 rfl Try.underlying45 info3 rfl (by decide) (by omega) u6 x6_3 ((ak l0 (rd t171 x45_3)).f0) [.int .i64 ((ak l0 (rd t171 x45_3)).f0)] (fun k_ => some k_ ≠ (.slice (some ad174) t171.length co20 : Value).ownBlock) (fun _ => False) rfl rfl ?aP (fun _ hk => hk.elim) ?aF ?aO ?aB ?aS ?aL ?_; (case aP => exact rfl); (case aB => exact (bT HB)); (case aF => exact (fun k_ hk => Kd.fresh' (Kd.xy (qR HO_43)) k_ hk)); (case aO => exact (qR HO_6)); (case aS => exact (aX (bT HB))); (case aL => have := LMc26.out; omega); intro v177 w27 ho hb hg hat; rw [← Ny176.out] at ho; refine yA4 (Kd.vk (ok := (fun _ => True)) (by (with_reducible repeat (first | apply Kd.jP | apply Kd.jZ | apply Kd.lI)); exact Kd.fG HO_43.out (fun _ hk => ⟨trivial, hk⟩)) hg hat) (kR (g := gb170) (o := .cells #[.int .i64 ((ak l0 x36_2).f0), .int .i64 ((ak l0 x36_2).f1), .string ((ak l0 x36_2).f2), .int .i64 ((ak l0 x36_2).f3), .string ((ak l0 x36_2).f4)] 40 (0, 0)) (by exact BK170.out) hg (Kd.Bd HO_6.out BK170.out (by decide))) (hb) (ho) ?_; clear HO_43 BK170 HB HO_6; intro HO_43 BK170 HB HO178; clear ho hb hg hat))
                  go_roundg k3
                  case measure => have := HJ2.out; have := HK2.out; have := HK3.out; omega
                  case rel => exact ⟨(y176), (wrap64 (x45_3 + 1)), fT, H', ⟨by have := HJ2.out; have := HK2.out; have := HK3.out; omega⟩, ⟨qR HO178⟩, ⟨by (with_reducible repeat (first | apply Kd.jP | apply Kd.jZ | apply Kd.lI)); exact Kd.fG HO_43.out (fun _ hk => hk.2)⟩, ⟨by exact BK170.out⟩, ⟨bT HB⟩⟩
                 exact absurd H (by simp)
                exact absurd H (by simp)
               exact absurd H (by simp)
              exact absurd H (by simp)
             exact absurd H (by simp)
            revert H
            refine yB1 fun t179 A28 H => ?_
            cases t179
            rotate_left
            ·replace H := yT H
             revert H
             refine yB1 fun t180 A30 H => ?_
             cases t180
             rotate_left
             ·replace H := yT H
              have H' := ae.mk H
              clear H
              have hcz32_0 : wr.cell? ⟨gb170, 0, none⟩ = some (.int .i64 ((ak l0 x36_2).f0)) := (ah BK170.out 0).trans rfl
              have hcz32_1 : wr.cell? ⟨gb170, 1, none⟩ = some (.int .i64 ((ak l0 x36_2).f1)) := (ah BK170.out 1).trans rfl
              have hcz32_2 : wr.cell? ⟨gb170, 2, none⟩ = some (.string ((ak l0 x36_2).f2)) := (ah BK170.out 2).trans rfl
              have hcz32_3 : wr.cell? ⟨gb170, 3, none⟩ = some (.int .i64 ((ak l0 x36_2).f3)) := (ah BK170.out 3).trans rfl
              have hcz32_4 : wr.cell? ⟨gb170, 4, none⟩ = some (.string ((ak l0 x36_2).f4)) := (ah BK170.out 4).trans rfl
              have hfz32_0 := af BK170.out 0
              have hfz32_1 := af BK170.out 1
              have hfz32_2 := af BK170.out 2
              have hfz32_3 := af BK170.out 3
              have hfz32_4 := af BK170.out 4
              go_wp2_with (first | ((with_reducible refine gC 19 rfl ?_); refine gM 19 59 rfl Try.func19 (bz.calls k3 ((ak l0 x36_2).f0) ((ak l0 x36_2).f1) ((ak l0 x36_2).f2) ((ak l0 x36_2).f3) ((ak l0 x36_2).f4) true _ A28.out) ?_; rintro _ w33 ⟨rfl, hb⟩; refine ⟨_, rfl, yA4 (Kd.dN (qR HO_6) hb) (Kd.dN (qR HO_43) hb) (eG (g := gb170) (o := .cells #[.int .i64 ((ak l0 x36_2).f0), .int .i64 ((ak l0 x36_2).f1), .string ((ak l0 x36_2).f2), .int .i64 ((ak l0 x36_2).f3), .string ((ak l0 x36_2).f4)] 40 (0, 0)) (by exact BK170.out) hb) (aj (bT HB) hb) ?_⟩; clear HO_6 HO_43 BK170 HB hb; intro HO_6 HO_43 BK170 HB; have hcz34_0 : w33.cell? ⟨gb170, 0, none⟩ = some (.int .i64 ((ak l0 x36_2).f0)) := (ah BK170.out 0).trans rfl; have hcz34_1 : w33.cell? ⟨gb170, 1, none⟩ = some (.int .i64 ((ak l0 x36_2).f1)) := (ah BK170.out 1).trans rfl; have hcz34_2 : w33.cell? ⟨gb170, 2, none⟩ = some (.string ((ak l0 x36_2).f2)) := (ah BK170.out 2).trans rfl; have hcz34_3 : w33.cell? ⟨gb170, 3, none⟩ = some (.int .i64 ((ak l0 x36_2).f3)) := (ah BK170.out 3).trans rfl; have hcz34_4 : w33.cell? ⟨gb170, 4, none⟩ = some (.string ((ak l0 x36_2).f4)) := (ah BK170.out 4).trans rfl; have hfz34_0 := af BK170.out 0; have hfz34_1 := af BK170.out 1; have hfz34_2 := af BK170.out 2; have hfz34_3 := af BK170.out 3; have hfz34_4 := af BK170.out 4; obtain ⟨Ao35, co35, rfl⟩ := Kd.dL HO_6.out) | (go_at_call 20; (with_reducible refine (aV.calls k3 ((ak l0 x36_2).f0) _ _ x6_3 true _ ?side1 ?side2 A30.out).mono ?_); (case side1 => repeat (first | exact (Kd.bG HO_6.out).2.2 | (with_reducible refine Kd.gQ ?_ _) | (with_reducible refine Kd.gK ?_ _) | (with_reducible refine Kd.iY ?_))); (case side2 => exact (Kd.bG HO_6.out).2.1); rintro e w36 ⟨rfl, hb⟩; refine yA4 (Kd.dN (qR HO_6) hb) (Kd.dN (qR HO_43) hb) (eG (g := gb170) (o := .cells #[.int .i64 ((ak l0 x36_2).f0), .int .i64 ((ak l0 x36_2).f1), .string ((ak l0 x36_2).f2), .int .i64 ((ak l0 x36_2).f3), .string ((ak l0 x36_2).f4)] 40 (0, 0)) (by exact BK170.out) hb) (aj (bT HB) hb) ?_; clear HO_6 HO_43 BK170 HB; intro HO_6 HO_43 BK170 HB; (try clear hb)))
              go_roundg k3
              case measure => have := HJ2.out; have := HK2.out; have := HK3.out; omega
              case rel => exact ⟨(wrap64 (x36_2 + 1)), fT, H', ⟨by have := HJ2.out; have := HK2.out; have := HK3.out; omega⟩, ⟨bT HB⟩⟩
             replace H := yF H
             simp only [Option.some.injEq, Prod.mk.injEq] at H
             obtain ⟨rfl, rfl⟩ := H
             have hcz37_0 : wr.cell? ⟨gb170, 0, none⟩ = some (.int .i64 ((ak l0 x36_2).f0)) := (ah BK170.out 0).trans rfl
             have hcz37_1 : wr.cell? ⟨gb170, 1, none⟩ = some (.int .i64 ((ak l0 x36_2).f1)) := (ah BK170.out 1).trans rfl
             have hcz37_2 : wr.cell? ⟨gb170, 2, none⟩ = some (.string ((ak l0 x36_2).f2)) := (ah BK170.out 2).trans rfl
             have hcz37_3 : wr.cell? ⟨gb170, 3, none⟩ = some (.int .i64 ((ak l0 x36_2).f3)) := (ah BK170.out 3).trans rfl
             have hcz37_4 : wr.cell? ⟨gb170, 4, none⟩ = some (.string ((ak l0 x36_2).f4)) := (ah BK170.out 4).trans rfl
             have hfz37_0 := af BK170.out 0
             have hfz37_1 := af BK170.out 1
             have hfz37_2 := af BK170.out 2
             have hfz37_3 := af BK170.out 3
             have hfz37_4 := af BK170.out 4
             go_wp2_with (first | ((with_reducible refine gC 19 rfl ?_); refine gM 19 59 rfl Try.func19 (bz.calls k3 ((ak l0 x36_2).f0) ((ak l0 x36_2).f1) ((ak l0 x36_2).f2) ((ak l0 x36_2).f3) ((ak l0 x36_2).f4) true _ A28.out) ?_; rintro _ w38 ⟨rfl, hb⟩; refine ⟨_, rfl, yA4 (Kd.dN (qR HO_6) hb) (Kd.dN (qR HO_43) hb) (eG (g := gb170) (o := .cells #[.int .i64 ((ak l0 x36_2).f0), .int .i64 ((ak l0 x36_2).f1), .string ((ak l0 x36_2).f2), .int .i64 ((ak l0 x36_2).f3), .string ((ak l0 x36_2).f4)] 40 (0, 0)) (by exact BK170.out) hb) (aj (bT HB) hb) ?_⟩; clear HO_6 HO_43 BK170 HB hb; intro HO_6 HO_43 BK170 HB; have hcz39_0 : w38.cell? ⟨gb170, 0, none⟩ = some (.int .i64 ((ak l0 x36_2).f0)) := (ah BK170.out 0).trans rfl; have hcz39_1 : w38.cell? ⟨gb170, 1, none⟩ = some (.int .i64 ((ak l0 x36_2).f1)) := (ah BK170.out 1).trans rfl; have hcz39_2 : w38.cell? ⟨gb170, 2, none⟩ = some (.string ((ak l0 x36_2).f2)) := (ah BK170.out 2).trans rfl; have hcz39_3 : w38.cell? ⟨gb170, 3, none⟩ = some (.int .i64 ((ak l0 x36_2).f3)) := (ah BK170.out 3).trans rfl; have hcz39_4 : w38.cell? ⟨gb170, 4, none⟩ = some (.string ((ak l0 x36_2).f4)) := (ah BK170.out 4).trans rfl; have hfz39_0 := af BK170.out 0; have hfz39_1 := af BK170.out 1; have hfz39_2 := af BK170.out 2; have hfz39_3 := af BK170.out 3; have hfz39_4 := af BK170.out 4; obtain ⟨Ao40, co40, rfl⟩ := Kd.dL HO_6.out) | (go_at_call 20; (with_reducible refine (aV.calls k3 ((ak l0 x36_2).f0) _ _ x6_3 false _ ?side1 ?side2 A30.out).mono ?_); (case side1 => repeat (first | exact (Kd.bG HO_6.out).2.2 | (with_reducible refine Kd.gQ ?_ _) | (with_reducible refine Kd.gK ?_ _) | (with_reducible refine Kd.iY ?_))); (case side2 => exact (Kd.bG HO_6.out).2.1); rintro e w41 ⟨rfl, hb⟩; refine yA4 (Kd.dN (qR HO_6) hb) (Kd.dN (qR HO_43) hb) (eG (g := gb170) (o := .cells #[.int .i64 ((ak l0 x36_2).f0), .int .i64 ((ak l0 x36_2).f1), .string ((ak l0 x36_2).f2), .int .i64 ((ak l0 x36_2).f3), .string ((ak l0 x36_2).f4)] 40 (0, 0)) (by exact BK170.out) hb) (aj (bT HB) hb) ?_; clear HO_6 HO_43 BK170 HB; intro HO_6 HO_43 BK170 HB; (try clear hb)))
             go_ret2
             exact ⟨eT, bT HB⟩
            replace H := yF H
            simp only [Option.some.injEq, Prod.mk.injEq] at H
            obtain ⟨rfl, rfl⟩ := H
            have hcz42_0 : wr.cell? ⟨gb170, 0, none⟩ = some (.int .i64 ((ak l0 x36_2).f0)) := (ah BK170.out 0).trans rfl
            have hcz42_1 : wr.cell? ⟨gb170, 1, none⟩ = some (.int .i64 ((ak l0 x36_2).f1)) := (ah BK170.out 1).trans rfl
            have hcz42_2 : wr.cell? ⟨gb170, 2, none⟩ = some (.string ((ak l0 x36_2).f2)) := (ah BK170.out 2).trans rfl
            have hcz42_3 : wr.cell? ⟨gb170, 3, none⟩ = some (.int .i64 ((ak l0 x36_2).f3)) := (ah BK170.out 3).trans rfl
            have hcz42_4 : wr.cell? ⟨gb170, 4, none⟩ = some (.string ((ak l0 x36_2).f4)) := (ah BK170.out 4).trans rfl
            have hfz42_0 := af BK170.out 0
            have hfz42_1 := af BK170.out 1
            have hfz42_2 := af BK170.out 2
            have hfz42_3 := af BK170.out 3
            have hfz42_4 := af BK170.out 4
            go_wp2_with (first | ((with_reducible refine gC 19 rfl ?_); refine gM 19 59 rfl Try.func19 (bz.calls k3 ((ak l0 x36_2).f0) ((ak l0 x36_2).f1) ((ak l0 x36_2).f2) ((ak l0 x36_2).f3) ((ak l0 x36_2).f4) false _ A28.out) ?_; rintro _ w43 ⟨rfl, hb⟩; refine ⟨_, rfl, yA4 (Kd.dN (qR HO_6) hb) (Kd.dN (qR HO_43) hb) (eG (g := gb170) (o := .cells #[.int .i64 ((ak l0 x36_2).f0), .int .i64 ((ak l0 x36_2).f1), .string ((ak l0 x36_2).f2), .int .i64 ((ak l0 x36_2).f3), .string ((ak l0 x36_2).f4)] 40 (0, 0)) (by exact BK170.out) hb) (aj (bT HB) hb) ?_⟩; clear HO_6 HO_43 BK170 HB hb; intro HO_6 HO_43 BK170 HB))
            go_ret2
            exact ⟨eT, bT HB⟩
         exact absurd H (by simp)
        exact absurd H (by simp)
       simp only [Option.some.injEq, Prod.mk.injEq] at H
       obtain ⟨rfl, rfl⟩ := H
       go_wp2
       go_ret2
       exact ⟨eT, bT HB⟩
    simp only [Option.some.injEq, Prod.mk.injEq] at H
    obtain ⟨rfl, rfl⟩ := H
    go_wp2_with (first | ((with_reducible refine gC 17 rfl ?_); refine gM 17 26 rfl Try.func17 (bg.calls kj2 _ _ l0 t167 _ Z4 HC0.out A7.out) ?_; rintro _ w44 ⟨rfl, hb⟩; refine ⟨_, rfl, yA1 (aj (bT HB) hb) ?_⟩; clear HB hb; intro HB; have p168 : 0 ≤ (0 : Int) := (by omega); have q168 : 0 < (l0.length : Int) := of_decide_eq_true aT; obtain ⟨ad168, e168, hx168_0, hx168_1, hx168_2, hx168_3, hx168_4⟩ := iV HR0.out 0 p168 q168; cases e168; have qi168 : (0 < l0.length) = True := eq_true (by omega); (try rw [show ((0 : Int)).toNat = 0 from rfl] at hx168_0); (try rw [show 0 * 5 = 0 from rfl] at hx168_0); (try rw [Addr.add_zero'] at hx168_0); (try rw [show ((0 : Int)).toNat = 0 from rfl] at hx168_1); (try rw [show 0 * 5 = 0 from rfl] at hx168_1); (try rw [Addr.add_zero'] at hx168_1); (try rw [show ((0 : Int)).toNat = 0 from rfl] at hx168_2); (try rw [show 0 * 5 = 0 from rfl] at hx168_2); (try rw [Addr.add_zero'] at hx168_2); (try rw [show ((0 : Int)).toNat = 0 from rfl] at hx168_3); (try rw [show 0 * 5 = 0 from rfl] at hx168_3); (try rw [Addr.add_zero'] at hx168_3); (try rw [show ((0 : Int)).toNat = 0 from rfl] at hx168_4); (try rw [show 0 * 5 = 0 from rfl] at hx168_4); (try rw [Addr.add_zero'] at hx168_4); replace hx168_0 := (HB.out.cell (World.block_lt_of_cell? w _ hx168_0)).trans hx168_0; replace hx168_1 := (HB.out.cell (World.block_lt_of_cell? w _ hx168_1)).trans hx168_1; replace hx168_2 := (HB.out.cell (World.block_lt_of_cell? w _ hx168_2)).trans hx168_2; replace hx168_3 := (HB.out.cell (World.block_lt_of_cell? w _ hx168_3)).trans hx168_3; replace hx168_4 := (HB.out.cell (World.block_lt_of_cell? w _ hx168_4)).trans hx168_4; replace p168 := eq_true p168; replace q168 := eq_true q168))
    go_ret2
    exact ⟨eT, bT HB⟩
   exact absurd H (by simp)
end Go.Proofs.Ytlenihbmafkegaa.Q
end
section
set_option linter.unusedVariables false
set_option linter.unusedSimpArgs false
namespace Go.Proofs.Ytlenihbmafkegaa.Q
open Go Go.RowKit Go.Proofs.YtlenihbmafkegaaW.PrintWords Go.Proofs.YtlenihbmafkegaaW.PrintLast Go.Proofs.YtlenihbmafkegaaW.PrintMore
theorem NK (F : ku) (HF : jM F) (k g : Nat) (l : List S40) (out r : List S56) (i : Int) (w0 w : World) (hI : Wr w0 w g l out) (hB : Below w0.heap.size w0 w) (h : qX F k l i out = some r) :
 Calls Try.prog 22 #[.pointer (some ⟨g, 0, none⟩), .int .i64 i] w (kw w0 w g l r) := by
 unfold qX at h
 by_cases c : 0 ≤ i ∧ i < (l.length : Int)
 ·rw [if_pos c] at h
  obtain ⟨xs, hk, h⟩ := Option.bind_eq_some_iff.mp h
  obtain ⟨A0, c0, v, HV⟩ := hI
  obtain ⟨ad, rfl, hx0, hx1, hx2, hx3, hx4⟩ := iV HV.2.2.1 i c.1 c.2
  generalize hxx : ak l i = x at *
  obtain ⟨x0, x1, x2, x3, x4⟩ := x
  dsimp only at hx0 hx1 hx2 hx3 hx4 h
  have HS := Ws.new HV.wr hB
  have hb := hB.size
  have hc : ∀ {p v}, w0.cell? p = some v → w.cell? p = some v := fun h => aN hB h
  unfold qf at h
  obtain ⟨s, hs, h⟩ := Option.bind_eq_some_iff.mp h
  cases s
  ·rw [if_neg (by decide)] at h
   obtain ⟨e, he, h⟩ := Option.bind_eq_some_iff.mp h
   cases e
   ·rw [if_neg (by decide)] at h
    exact MB F HF k g l out r i x0 x1 x2 x3 x4 xs ad c0 w0 w ⟨HV.2.2.1⟩ ⟨HV.2.2.2.1⟩ ⟨hk⟩ (eq_true c.1) (eq_true c.2) HS ⟨HV.g0, hc hx0, hc hx1, hc hx2, hc hx3, hc hx4⟩ ⟨hs⟩ ⟨he⟩ ⟨h⟩
   rw [if_pos rfl] at h
   exact MC F HF k g l out r i x0 x1 x2 x3 x4 xs ad c0 w0 w ⟨HV.2.2.1⟩ ⟨HV.2.2.2.1⟩ ⟨hk⟩ (eq_true c.1) (eq_true c.2) HS ⟨HV.g0, hc hx0, hc hx1, hc hx2, hc hx3, hc hx4⟩ ⟨hs⟩ ⟨he⟩ ⟨h⟩
  rw [if_pos rfl] at h
  exact Me F HF k g l out r i x0 x1 x2 x3 x4 xs ad c0 w0 w ⟨HV.2.2.1⟩ ⟨HV.2.2.2.1⟩ ⟨hk⟩ (eq_true c.1) (eq_true c.2) HS ⟨HV.g0, hc hx0, hc hx1, hc hx2, hc hx3, hc hx4⟩ ⟨hs⟩ ⟨h⟩
 rw [if_neg c] at h
 cases h
def l9 : Nat → ku
 | 0 => fun _ _ _ => none
 | k + 1 => fun l i out => qX (l9 k) k l i out
theorem tK : ∀ k, jM (l9 k)
 | 0 => fun _ _ _ _ _ _ _ _ _ h => (by simp [l9] at h)
 | k + 1 => fun g l out i r w0 w hI hB h => NK (l9 k) (tK k) k g l out r i w0 w hI hB h
section
variable {F F' : ku} (HLE : Iz F F')
include HLE
theorem gW.mono (k l i ws out) : LeO (gW F k l i ws out) (gW F' (k + 1) l i ws out) := by
 unfold gW
 repeat' first | exact fA.mono _ _ _ | exact HLE _ _ _ | exact LeO.refl _ | refine LeO.ite ?_ ?_ | refine LeO.bind ?_ (fun _ => ?_)
theorem mf.mono (k l i j out) : LeO (mf F k l i j out) (mf F' (k + 1) l i j out) := by
 unfold mf
 repeat' first | exact fA.mono _ _ _ | exact HLE _ _ _ | exact LeO.refl _ | refine LeO.ite ?_ ?_ | refine LeO.bind ?_ (fun _ => ?_)
theorem jU.mono (k l c) : ∀ xs f out, LeO (jU F k l c f xs out) (jU F' (k + 1) l c f xs out)
 | [], f, out => LeO.refl _
 | x :: xs, f, out => LeO.bind (LeO.ite (fA.mono _ _ _) (LeO.refl _)) (fun _ => LeO.bind (HLE _ _ _) (fun _ => jU.mono k l c xs false _))
theorem rG.mono (k l xs out) : LeO (rG F k l xs out) (rG F' (k + 1) l xs out) := by
 unfold rG
 repeat' first | exact fA.mono _ _ _ | exact jU.mono HLE _ _ _ _ _ _ | exact HLE _ _ _ | exact LeO.refl _ | refine LeO.ite ?_ ?_ | refine LeO.bind ?_ (fun _ => ?_)
theorem iK.mono (k l xs out) : LeO (iK F k l xs out) (iK F' (k + 1) l xs out) := by
 unfold iK
 repeat' first | exact rG.mono HLE _ _ _ _ | exact HLE _ _ _ | exact LeO.refl _ | refine LeO.ite ?_ ?_ | refine LeO.bind ?_ (fun _ => ?_)
theorem pR.mono (k l x0 x2 xs out) : LeO (pR F k l x0 x2 xs out) (pR F' (k + 1) l x0 x2 xs out) := by
 unfold pR
 repeat' first | exact fA.mono _ _ _ | exact gW.mono HLE _ _ _ _ _ | exact mf.mono HLE _ _ _ _ _ | exact HLE _ _ _ | exact LeO.refl _ | refine LeO.ite ?_ ?_ | refine LeO.bind ?_ (fun _ => ?_)
theorem qh.mono (k l x0 x2 x3 x4 xs out) : LeO (qh F k l x0 x2 x3 x4 xs out) (qh F' (k + 1) l x0 x2 x3 x4 xs out) := by
 unfold qh oK
 repeat' first | exact fA.mono _ _ _ | exact iK.mono HLE _ _ _ _ | exact rG.mono HLE _ _ _ _ | exact mf.mono HLE _ _ _ _ _ | exact HLE _ _ _ | exact LeO.refl _ | refine LeO.ite ?_ ?_ | refine LeO.bind ?_ (fun _ => ?_)
theorem pY.mono (k l x0 x2 x3 x4 xs out) : LeO (pY F k l x0 x2 x3 x4 xs out) (pY F' (k + 1) l x0 x2 x3 x4 xs out) := by
 unfold pY
 repeat' first | exact fA.mono _ _ _ | exact iK.mono HLE _ _ _ _ | exact jU.mono HLE _ _ _ _ _ _ | exact HLE _ _ _ | exact LeO.refl _ | refine LeO.ite ?_ ?_ | refine LeO.bind ?_ (fun _ => ?_)
theorem qX.mono (k l i out) : LeO (qX F k l i out) (qX F' (k + 1) l i out) := by
 unfold qX qf
 repeat' first | exact bM.mono _ _ k | exact pR.mono HLE _ _ _ _ _ _ | exact qh.mono HLE _ _ _ _ _ _ _ _ | exact pY.mono HLE _ _ _ _ _ _ _ _ | exact LeO.refl _ | refine LeO.ite ?_ ?_ | refine LeO.bind ?_ (fun _ => ?_)
end
theorem yS : ∀ k, Iz (l9 k) (l9 (k + 1))
 | 0 => fun _ _ _ => LeO.none _
 | k + 1 => fun l i out => qX.mono (yS k) k l i out
def iw.f (k : Nat) (l0 : List S40) : Option (List S56 × Int × Int) :=
 (aK.f k l0).bind fun c => if c.1 = 0 then (l9 k l0 0 []).bind fun t => some (t, 0, 0) else some (([] : List S56), c.1, c.2)
theorem iw.mono (a0 : List S40) (k : Nat) : LeO (iw.f k a0) (iw.f (k + 1) a0) := by
 unfold iw.f
 repeat' first
 | exact aK.mono _ k
 | exact yS k _ _ _
 | exact LeO.refl _
 | refine LeO.ite ?_ ?_
 | refine LeO.bind ?_ (fun _ => ?_)
set_option maxHeartbeats 8000000 in
set_option maxRecDepth 100000 in
theorem iw.calls (k : Nat) (A0 : Option Addr) (c0 : Nat) (l0 : List S40) (r1 : List S56) (r2 : Int) (r3 : Int) (w : World) (hr0 : Kd.C k40 w A0 l0.length l0) (hc0 : l0.length ≤ c0) (h : iw.f k l0 = some (r1, r2, r3)) :
 Calls Try.prog 11 #[.slice A0 l0.length c0] w fun e w' => ∃ v0_ : Value, e = .returned (.tuple #[v0_, .int .i64 r2, .int .i64 r3]) ∧ Kd.R k56 56 w' w.heap.size (fun _ => True) v0_ r1 ∧ Below w.heap.size w w' := by
 unfold iw.f at h
 obtain ⟨⟨p1, p2⟩, hp, h⟩ := Option.bind_eq_some_iff.mp h
 have AP := ae.mk hp
 have HC := ae.mk hr0
 have HL := ae.mk hc0
 dsimp only at h
 have hu52 := Try.underlying52
 by_cases c : p1 = 0
 ·subst c
  rw [if_pos rfl] at h
  obtain ⟨t, ht, h⟩ := Option.bind_eq_some_iff.mp h
  cases h
  have HT := ae.mk ht
  clear hp hr0 hc0 ht
  go_enter Try.func11, Try.ntmps11
  go_upto_region 5 with (first
   | ((with_reducible refine gC 8 rfl ?_); refine gM 8 10 rfl Try.func8 (aK.calls k _ _ l0 0 p2 _ HC.out HL.out AP.out) ?_; rintro _ w1 ⟨rfl, hb⟩; refine ⟨_, rfl, ?_⟩; have HB1 := ae.mk hb; clear hb)
   | ((with_reducible refine bF (N := 19) rfl ?_); refine dS ?hg (N := 19) ?hd (cs := #[.slice A0 l0.length c0, .slice none 0 0]) (t := 52) ?hr ?_; (case hd => rfl); (case hg => rfl); (case hr => first | (go_simp; done) | (go_simp; rfl)); intro g hg w2 hbox hb; have HB2 := ae.mk (aj HB1.out hb); have HI := ae.mk (show Wr w w2 g l0 [] from ⟨A0, c0, _, hbox, by rw [hg]; exact HB1.out.size, HC.out, HL.out, Kd.pJ _ _ _ _ _⟩); clear hbox hb hg HB1))
  (try simp only [Act.put, List.setIfInBounds_toArray, List.set_cons_zero, List.set_cons_succ])
  go_upto_region 6 with (first
   | (go_at_call 22; refine (tK k g l0 [] 0 r1 w _ HI.out HB2.out HT.out).mono ?_; rintro _ w3 ⟨rfl, hi, hb, hk⟩; obtain ⟨A1, c1, v, HV⟩ := hi; have HB3 := ae.mk hb; have hc1 := HV.g1; have HO := ae.mk HV.2.2.2.2; clear hb hk HV HB2 HI)
   | ((with_reducible refine gC 22 rfl ?_); refine gM 22 21 rfl Try.func22 (tK k g l0 [] 0 r1 w _ HI.out HB2.out HT.out) ?_; rintro _ w3 ⟨rfl, hi, hb, hk⟩; refine ⟨_, rfl, ?_⟩; obtain ⟨A1, c1, v, HV⟩ := hi; have HB3 := ae.mk hb; have hc1 := HV.g1; have HO := ae.mk HV.2.2.2.2; clear hb hk HV HB2 HI))
  go_wp2
  go_ret3
  exact ⟨_, rfl, HO.out, HB3.out⟩
 rw [if_neg c] at h
 have c3b1 : (p1 != 0) = true := bne_iff_ne.mpr c
 cases h
 clear hp hr0 hc0 c
 go_enter Try.func11, Try.ntmps11
 go_wp2_with (first
  | ((with_reducible refine gC 8 rfl ?_); refine gM 8 10 rfl Try.func8 (aK.calls k _ _ l0 _ _ _ HC.out HL.out AP.out) ?_; rintro _ w1 ⟨rfl, hb⟩; refine ⟨_, rfl, ?_⟩; have HB1 := ae.mk hb; clear hb)
  | (go_at_call 8; refine (aK.calls k _ _ l0 _ _ _ HC.out HL.out AP.out).mono ?_; rintro _ w1 ⟨rfl, hb⟩; have HB1 := ae.mk hb; clear hb))
 go_ret3
 exact ⟨_, rfl, Kd.pJ _ _ _ _ _, HB1.out⟩
end Go.Proofs.Ytlenihbmafkegaa.Q
end
section
set_option linter.unusedVariables false
set_option linter.unusedSimpArgs false
namespace Go.Proofs.Ytlenihbmafkegaa.Q
open Go.RowKit Go.Proofs.YtlenihbmafkegaaW.PrintWords Go.Proofs.YtlenihbmafkegaaW.PrintLast Go.Proofs.YtlenihbmafkegaaW.PrintMore
structure Fam where
 expr : List S56 → Int → Bool → Option (List S40 × Int × Bool)
 block : List S56 → Int → Bool → Option (List S40 × Int × Bool)
 bound : List S56 → Int → Bool → Int → Option (List S40 × Int × Bool)
 unary : List S56 → Int → Bool → Option (List S40 × Int × Bool)
/-- What a call of the reader's does: nodes are made, the reader goes on. -/
def Reads (f : Nat) (args : Array Value) (g : Nat) (s0 : List S56) (r1 : List S40) (r2 : Int) (r3 : Bool) (w0 w : World) : Prop :=
 Calls Try.prog f (#[.pointer (some ⟨g, 0, none⟩)] ++ args) w fun e w' => ∃ v0_ : Value, e = .returned (v0_) ∧ Kd.R k40 40 w' w.heap.size (fun _ => True) v0_ r1 ∧ aY w0 w' g s0 r2 r3 ∧ Below w0.heap.size w0 w' ∧ aQ w w' g none
structure kz (F : Fam) : Prop where
 expr : ∀ g s0 s1 s2 r1 r2 r3 w0 w, aY w0 w g s0 s1 s2 → Below w0.heap.size w0 w → F.expr s0 s1 s2 = some (r1, r2, r3) → Reads 83 #[] g s0 r1 r2 r3 w0 w
 block : ∀ g s0 s1 s2 r1 r2 r3 w0 w, aY w0 w g s0 s1 s2 → Below w0.heap.size w0 w → F.block s0 s1 s2 = some (r1, r2, r3) → Reads 78 #[] g s0 r1 r2 r3 w0 w
 bound : ∀ g s0 s1 s2 a1 r1 r2 r3 w0 w, aY w0 w g s0 s1 s2 → Below w0.heap.size w0 w → F.bound s0 s1 s2 a1 = some (r1, r2, r3) → Reads 86 #[.int .i64 a1] g s0 r1 r2 r3 w0 w
 unary : ∀ g s0 s1 s2 r1 r2 r3 w0 w, aY w0 w g s0 s1 s2 → Below w0.heap.size w0 w → F.unary s0 s1 s2 = some (r1, r2, r3) → Reads 87 #[] g s0 r1 r2 r3 w0 w
structure jQ (F F' : Fam) : Prop where
 expr : ∀ a b c, LeO (F.expr a b c) (F'.expr a b c)
 block : ∀ a b c, LeO (F.block a b c) (F'.block a b c)
 bound : ∀ a b c d, LeO (F.bound a b c d) (F'.bound a b c d)
 unary : ∀ a b c, LeO (F.unary a b c) (F'.unary a b c)
def iO.f (F : Fam) (_k : Nat) (s0 : List S56) (s1 : Int) (s2 : Bool) : Option (List S40 × Int × Bool) := F.expr s0 s1 s2
def kU.f (F : Fam) (_k : Nat) (s0 : List S56) (s1 : Int) (s2 : Bool) : Option (List S40 × Int × Bool) := F.block s0 s1 s2
def oJ.f (F : Fam) (_k : Nat) (s0 : List S56) (s1 : Int) (s2 : Bool) (a1 : Int) : Option (List S40 × Int × Bool) := F.bound s0 s1 s2 a1
def oh.f (F : Fam) (_k : Nat) (s0 : List S56) (s1 : Int) (s2 : Bool) : Option (List S40 × Int × Bool) := F.unary s0 s1 s2
theorem iO.mono {F F' : Fam} (HLE : jQ F F') (a b c) (k : Nat) : LeO (iO.f F k a b c) (iO.f F' (k + 1) a b c) := HLE.expr a b c
theorem kU.mono {F F' : Fam} (HLE : jQ F F') (a b c) (k : Nat) : LeO (kU.f F k a b c) (kU.f F' (k + 1) a b c) := HLE.block a b c
theorem oJ.mono {F F' : Fam} (HLE : jQ F F') (a b c d) (k : Nat) : LeO (oJ.f F k a b c d) (oJ.f F' (k + 1) a b c d) := HLE.bound a b c d
theorem oh.mono {F F' : Fam} (HLE : jQ F F') (a b c) (k : Nat) : LeO (oh.f F k a b c) (oh.f F' (k + 1) a b c) := HLE.unary a b c
theorem iO.calls (F : Fam) (HF : kz F) (k : Nat) (g : Nat) (s0_0 : List S56) (s0_1 : Int) (s0_2 : Bool) (r1 : List S40) (r2 : Int) (r3 : Bool) (w0 w : World) (hI : aY w0 w g s0_0 s0_1 s0_2) (hB : Below w0.heap.size w0 w) (h : iO.f F k s0_0 s0_1 s0_2 = some (r1, r2, r3)) :
 Calls Try.prog 83 #[.pointer (some ⟨g, 0, none⟩)] w fun e w' => ∃ v0_ : Value, e = .returned (v0_) ∧ Kd.R k40 40 w' w.heap.size (fun _ => True) v0_ r1 ∧ aY w0 w' g s0_0 r2 r3 ∧ Below w0.heap.size w0 w' ∧ aQ w w' g none := HF.expr g s0_0 s0_1 s0_2 r1 r2 r3 w0 w hI hB h
theorem kU.calls (F : Fam) (HF : kz F) (k : Nat) (g : Nat) (s0_0 : List S56) (s0_1 : Int) (s0_2 : Bool) (r1 : List S40) (r2 : Int) (r3 : Bool) (w0 w : World) (hI : aY w0 w g s0_0 s0_1 s0_2) (hB : Below w0.heap.size w0 w) (h : kU.f F k s0_0 s0_1 s0_2 = some (r1, r2, r3)) :
 Calls Try.prog 78 #[.pointer (some ⟨g, 0, none⟩)] w fun e w' => ∃ v0_ : Value, e = .returned (v0_) ∧ Kd.R k40 40 w' w.heap.size (fun _ => True) v0_ r1 ∧ aY w0 w' g s0_0 r2 r3 ∧ Below w0.heap.size w0 w' ∧ aQ w w' g none := HF.block g s0_0 s0_1 s0_2 r1 r2 r3 w0 w hI hB h
theorem oh.calls (F : Fam) (HF : kz F) (k : Nat) (g : Nat) (s0_0 : List S56) (s0_1 : Int) (s0_2 : Bool) (r1 : List S40) (r2 : Int) (r3 : Bool) (w0 w : World) (hI : aY w0 w g s0_0 s0_1 s0_2) (hB : Below w0.heap.size w0 w) (h : oh.f F k s0_0 s0_1 s0_2 = some (r1, r2, r3)) :
 Calls Try.prog 87 #[.pointer (some ⟨g, 0, none⟩)] w fun e w' => ∃ v0_ : Value, e = .returned (v0_) ∧ Kd.R k40 40 w' w.heap.size (fun _ => True) v0_ r1 ∧ aY w0 w' g s0_0 r2 r3 ∧ Below w0.heap.size w0 w' ∧ aQ w w' g none := HF.unary g s0_0 s0_1 s0_2 r1 r2 r3 w0 w hI hB h
theorem oJ.calls (F : Fam) (HF : kz F) (k : Nat) (g : Nat) (s0_0 : List S56) (s0_1 : Int) (s0_2 : Bool) (a1 : Int) (r1 : List S40) (r2 : Int) (r3 : Bool) (w0 w : World) (hI : aY w0 w g s0_0 s0_1 s0_2) (hB : Below w0.heap.size w0 w) (h : oJ.f F k s0_0 s0_1 s0_2 a1 = some (r1, r2, r3)) :
 Calls Try.prog 86 #[.pointer (some ⟨g, 0, none⟩), .int .i64 a1] w fun e w' => ∃ v0_ : Value, e = .returned (v0_) ∧ Kd.R k40 40 w' w.heap.size (fun _ => True) v0_ r1 ∧ aY w0 w' g s0_0 r2 r3 ∧ Below w0.heap.size w0 w' ∧ aQ w w' g none := HF.bound g s0_0 s0_1 s0_2 a1 r1 r2 r3 w0 w hI hB h
end Go.Proofs.Ytlenihbmafkegaa.Q
end
section
namespace Go.Proofs.Ytlenihbmafkegaa.Q
open Go.RowKit Go.Proofs.YtlenihbmafkegaaW.PrintWords Go.Proofs.YtlenihbmafkegaaW.PrintLast Go.Proofs.YtlenihbmafkegaaW.PrintMore
attribute [local go_sem] df cO dI dH bV bU cZ cu
set_option linter.unusedVariables false
set_option linter.unusedSimpArgs false
/-! ### bK: function 50 -/
mutual
def bK.j0 : Nat → ByteArray → Bool → Option (Int × Bool)
 | 0, _, _ => none
 | k + 1, x0, x18 => if x18 = true then (some (0, false)) else (bK.l0 k x0 0 (x0.size : Int) 0)
def bK.l0 : Nat → ByteArray → Int → Int → Int → Option (Int × Bool)
 | 0, _, _, _, _ => none
 | k + 1, x0, x4, x20, x21 => if x21 < x20 then (if 0 ≤ x21 then (if x21 < (x0.size : Int) then (bK.l0 k x0 (IntKind.u64.wrap ((IntKind.u64.wrap (10 * x4)) + (((bt x0 x21) - 48) % 256))) x20 (wrap64 (x21 + 1))) else (none)) else (none)) else (some (wrap64 (x4), ((x4 / 9223372036854775808) == 0)))
end
def bK.f (k : Nat) (a0 : ByteArray) : Option (Int × Bool) := if (a0.size : Int) > 19 then (bK.j0 k a0 true) else (if (a0.size : Int) > 1 then (if 0 < (a0.size : Int) then (bK.j0 k a0 ((bt a0 0) == 48)) else (none)) else (bK.j0 k a0 false))
theorem bK.bW : ∀ k, (∀ y0 y1, LeO (bK.j0 k y0 y1) (bK.j0 (k + 1) y0 y1)) ∧ (∀ y0 y1 y2 y3, LeO (bK.l0 k y0 y1 y2 y3) (bK.l0 (k + 1) y0 y1 y2 y3))
 | 0 => ⟨fun _ _ r h => by simp [bK.j0] at h, fun _ _ _ _ r h => by simp [bK.l0] at h⟩
 | k + 1 => by
  obtain ⟨ih0, ih1⟩ := bK.bW k
  refine ⟨?_, ?_⟩
  ·intro y0 y1
   unfold bK.j0
   exact yL
  intro y0 y1 y2 y3
  unfold bK.l0
  exact yL
theorem bK.mono : ∀ a0 k, LeO (bK.f k a0) (bK.f (k + 1) a0) := by
 intro a0 k
 obtain ⟨ih0, ih1⟩ := bK.bW k
 unfold bK.f
 exact yL
set_option maxHeartbeats 8000000 in
set_option maxRecDepth 100000 in
theorem bK.calls (k : Nat) (a0 : ByteArray) (r1 : Int) (r2 : Bool) (w : World) (h : bK.f k a0 = some (r1, r2)) :
 Calls Try.prog 50 #[.string a0] w fun e w' => e = .returned (.tuple #[.int .i64 r1, .bool r2]) ∧ dM w w' := by
 have H := h
 clear h
 unfold bK.f at H
 have HC2 := ae.mk H
 clear H
 go_enter Try.func50, Try.ntmps50
 go_upto_region 1 with (fail)
 go_cut [18] (fun v18 wc => ∃ (kq : Nat) (x18_1 : Bool), v18 = .bool x18_1 ∧ ae (bK.j0 kq a0 x18_1 = some (r1, r2)) ∧ ae (kq ≤ k) ∧ dM w wc)
 case first =>
  have H := HC2.out
  clear HC2
  revert H
  refine gG (fun c3 H => ?_) fun c3 H => ?_
  ·have c3b0 : decide (19 < (a0.size : Int)) = true := decide_eq_true c3
   have c3b1 : decide (19 < a0.size) = true := decide_eq_true (by omega)
   clear c3
   (first | rw [c3b0] | (simp only [gp, iJ]; rw [c3b0]) | skip)
   have H' := ae.mk H
   clear H
   go_wp2
   go_meet
   case rel => exact ⟨_, (true), fT, H', ⟨Z11⟩, Z0⟩
  have c3b0 : decide (19 < (a0.size : Int)) = false := decide_eq_false c3
  have c3b1 : decide (19 < a0.size) = false := decide_eq_false (by omega)
  clear c3
  (first | rw [c3b0] | (simp only [gp, iJ]; rw [c3b0]) | skip)
  revert H
  refine gG (fun c4 H => ?_) fun c4 H => ?_
  ·have c4b0 : decide (1 < (a0.size : Int)) = true := decide_eq_true c4
   have c4b1 : decide (1 < a0.size) = true := decide_eq_true (by omega)
   clear c4
   revert H
   refine yP (fun c5 c5b0 H => ?_) fun c5 H => ?_
   ·have c5b1 : decide (0 < a0.size) = true := decide_eq_true (by omega)
    clear c5
    have H' := ae.mk H
    clear H
    have p6 : 0 ≤ (0 : Int) := (by omega)
    have q6 : 0 < a0.size := (by have : (0 : Int) < (a0.size : Int) := of_decide_eq_true aT; omega)
    have hx6 : ∀ h : 0 < a0.size, ((a0[0]'h).toNat : Int) = bt a0 0 := lq a0 0
    clear p6
    have qi6 : (0 < (a0.size : Int)) = True := eq_true (of_decide_eq_true aT)
    replace q6 := eq_true q6
    go_wp2
    go_meet
    case rel => exact ⟨_, (((bt a0 0) == 48)), fT, H', ⟨Z11⟩, Z0⟩
   exact absurd H (by simp)
  have c4b0 : decide (1 < (a0.size : Int)) = false := decide_eq_false c4
  have c4b1 : decide (1 < a0.size) = false := decide_eq_false (by omega)
  clear c4
  have H' := ae.mk H
  clear H
  go_wp2
  go_meet
  case rel => exact ⟨_, (false), fT, H', ⟨Z11⟩, Z0⟩
 case rest =>
  clear HC2
  try clear p2
  try clear c3
  try clear c3b0
  try clear c3b1
  try clear c4
  try clear c4b0
  try clear c4b1
  try clear c5
  try clear c5b0
  try clear c5b1
  try clear p6
  try clear q6
  try clear hx6
  try clear qi6
  try clear p6
  try clear q6
  obtain ⟨kq, x18_1, rfl, HA, HJ1, ⟨mc1, rfl⟩⟩ := hcut
  cases kq with
  | zero => exact absurd HA.out (by simp [bK.j0])
  | succ kj1 =>
   have H := HA.out
   clear HA
   simp only [bK.j0] at H
   cases x18_1
   rotate_left
   ·replace H := yT H
    simp only [Option.some.injEq, Prod.mk.injEq] at H
    obtain ⟨rfl, rfl⟩ := H
    go_wp2
    go_ret2
    exact ⟨fT, Z0⟩
   replace H := yF H
   have H' := ae.mk H
   clear H
   go_wp2
   go_loopg [4, 21] kj1 (fun kq v4 v21 w' => ∃ (x4_2 : Int) (x21_2 : Int), v4 = .int .u64 x4_2 ∧ v21 = .int .i64 x21_2 ∧ ae (bK.l0 kq a0 x4_2 (a0.size : Int) x21_2 = some (r1, r2)) ∧ ae (kq ≤ kj1) ∧ dM w w')
   case atStart => exact ⟨(0), (0), fT, fT, H', ⟨Nat.le_refl _⟩, Z0⟩
   case round =>
    clear H'
    try clear c1
    try clear p2
    try clear c3
    try clear c3b0
    try clear c3b1
    try clear c4
    try clear c4b0
    try clear c4b1
    try clear c5
    try clear c5b0
    try clear c5b1
    try clear p6
    try clear q6
    try clear hx6
    try clear qi6
    try clear c7
    try clear p2
    try clear p6
    try clear q6
    obtain ⟨x4_2, x21_2, rfl, rfl, HA, HK2, ⟨m2, rfl⟩⟩ := hrel
    cases gk with
    | zero => exact absurd HA.out (by simp [bK.l0])
    | succ k2 =>
     have H := HA.out
     clear HA
     simp only [bK.l0] at H
     revert H
     refine jT (fun c8b0 H => ?_) fun c8b0 H => ?_
     ·revert H
      refine gY (fun c9b0 H => ?_) fun c9 H => ?_
      ·revert H
       refine gY (fun c10b0 H => ?_) fun c10 H => ?_
       ·have H' := ae.mk H
        clear H
        have p11 : 0 ≤ (x21_2 : Int) := of_decide_eq_true aT
        have q11 : x21_2 < (a0.size : Int) := of_decide_eq_true aT
        have hx11 := lq a0 x21_2
        replace p11 := eq_true p11
        replace q11 := eq_true q11
        go_wp2
        go_roundg k2
        case measure => have := HJ1.out; have := HK2.out; omega
        case rel => exact ⟨(IntKind.u64.wrap ((IntKind.u64.wrap (10 * x4_2)) + (((bt a0 x21_2) - 48) % 256))), (wrap64 (x21_2 + 1)), fT, fT, H', ⟨by have := HJ1.out; have := HK2.out; omega⟩, Z0⟩
       exact absurd H (by simp)
      exact absurd H (by simp)
     simp only [Option.some.injEq, Prod.mk.injEq] at H
     obtain ⟨rfl, rfl⟩ := H
     go_wp2
     go_ret2
     exact ⟨fT, Z0⟩
/-! ### jA: function 73 -/
def jA.f (a0 : Int) : Option (Int × Bool) := if a0 = 110 then (some (10, true)) else (if a0 = 34 then (some (a0, true)) else (if a0 = 92 then (some (a0, true)) else (some (0, false))))
set_option maxHeartbeats 8000000 in
set_option maxRecDepth 100000 in
theorem jA.calls (a0 : Int) (r1 : Int) (r2 : Bool) (w : World) (h : jA.f a0 = some (r1, r2)) :
 Calls Try.prog 73 #[.int .u8 a0] w fun e w' => e = .returned (.tuple #[.int .u8 r1, .bool r2]) ∧ dM w w' := by
 have H := h
 clear h
 unfold jA.f at H
 revert H
 refine bu (fun c2b0 c2b1 H => ?_) fun c2 c2b0 c2b1 H => ?_
 ·simp only [Option.some.injEq, Prod.mk.injEq] at H
  obtain ⟨rfl, rfl⟩ := H
  go_enter Try.func73, Try.ntmps73
  go_wp2
  go_ret2
  exact ⟨fT, Z0⟩
 revert H
 refine bu (fun c3b0 c3b1 H => ?_) fun c3 c3b0 c3b1 H => ?_
 ·simp only [Option.some.injEq, Prod.mk.injEq] at H
  obtain ⟨rfl, rfl⟩ := H
  go_enter Try.func73, Try.ntmps73
  go_wp2
  go_ret2
  exact ⟨fT, Z0⟩
 revert H
 refine bu (fun c4b0 c4b1 H => ?_) fun c4 c4b0 c4b1 H => ?_
 ·simp only [Option.some.injEq, Prod.mk.injEq] at H
  obtain ⟨rfl, rfl⟩ := H
  go_enter Try.func73, Try.ntmps73
  go_wp2
  go_ret2
  exact ⟨fT, Z0⟩
 simp only [Option.some.injEq, Prod.mk.injEq] at H
 obtain ⟨rfl, rfl⟩ := H
 go_enter Try.func73, Try.ntmps73
 go_wp2
 go_ret2
 exact ⟨fT, Z0⟩
end Go.Proofs.Ytlenihbmafkegaa.Q
end
section
namespace Go.Proofs.Ytlenihbmafkegaa.Q
open Go.RowKit Go.Proofs.YtlenihbmafkegaaW.PrintWords Go.Proofs.YtlenihbmafkegaaW.PrintLast Go.Proofs.YtlenihbmafkegaaW.PrintMore
attribute [local go_sem] df cO dI dH bV bU cZ cu
set_option linter.unusedVariables false
set_option linter.unusedSimpArgs false
/-! ### bZ: function 51 -/
def bZ.l0 : Nat → ByteArray → List Int → Bool → Int → Option (ByteArray × Int)
 | 0, _, _, _, _ => none
 | k + 1, x0, x4, x5, x6 => if x6 < (x0.size : Int) then (if 0 ≤ x6 then (if x5 = true then ((jA.f (bt x0 x6)).bind fun bt218 => (if bt218.2 = true then (if x4.length < 140737488355328 then (bZ.l0 k x0 (x4 ++ [bt218.1]) false (wrap64 (x6 + 1))) else (none)) else (some ((⟨#[]⟩ : ByteArray), 0)))) else (if (bt x0 x6) = 34 then (some (strOfNums x4, wrap64 (x6 + 1))) else (if (bt x0 x6) = 10 then (some ((⟨#[]⟩ : ByteArray), 0)) else (if (bt x0 x6) = 92 then (bZ.l0 k x0 x4 true (wrap64 (x6 + 1))) else (if x4.length < 140737488355328 then (bZ.l0 k x0 (x4 ++ [bt x0 x6]) x5 (wrap64 (x6 + 1))) else (none)))))) else (none)) else (some ((⟨#[]⟩ : ByteArray), 0))
def bZ.f (k : Nat) (a0 : ByteArray) : Option (ByteArray × Int) := bZ.l0 k a0 ([] : List Int) false 1
theorem bZ.bW : ∀ k, (∀ y0 y1 y2 y3, LeO (bZ.l0 k y0 y1 y2 y3) (bZ.l0 (k + 1) y0 y1 y2 y3))
 | 0 => fun _ _ _ _ r h => by simp [bZ.l0] at h
 | k + 1 => by
  have ih0 := bZ.bW k
  intro y0 y1 y2 y3
  unfold bZ.l0
  exact yL
theorem bZ.mono : ∀ a0 k, LeO (bZ.f k a0) (bZ.f (k + 1) a0) := by
 intro a0 k
 have ih0 := bZ.bW k
 unfold bZ.f
 exact yL
set_option maxHeartbeats 8000000 in
set_option maxRecDepth 100000 in
theorem bZ.calls (k : Nat) (a0 : ByteArray) (r1 : ByteArray) (r2 : Int) (w : World) (h : bZ.f k a0 = some (r1, r2)) :
 Calls Try.prog 51 #[.string a0] w fun e w' => e = .returned (.tuple #[.string r1, .int .i64 r2]) ∧ Below w.heap.size w w' := by
 have HB := ae.mk (Below.refl w.heap.size w)
 have H := h
 clear h
 unfold bZ.f at H
 have H' := ae.mk H
 clear H
 go_enter Try.func51, Try.ntmps51
 go_wp2
 go_loopg [4, 5, 6] k (fun kq v4 v5 v6 w' => ∃ (x4_1 : List Int) (x5_1 : Bool) (x6_1 : Int), v5 = .bool x5_1 ∧ v6 = .int .i64 x6_1 ∧ ae (bZ.l0 kq a0 x4_1 x5_1 x6_1 = some (r1, r2)) ∧ ae (kq ≤ k) ∧ ae (Kd.R (Kd.int .u8) 5 w' w.heap.size (fun _ => True) v4 x4_1) ∧ ae (Below w.heap.size w w'))
 case atStart => exact ⟨(([] : List Int)), (false), (1), fT, fT, H', ⟨Nat.le_refl _⟩, ⟨Z5⟩, ⟨bT HB⟩⟩
 case round =>
  clear H'
  obtain ⟨x4_1, x5_1, x6_1, rfl, rfl, HA, HK1, HO_4, HB⟩ := hrel
  cases gk with
  | zero => exact absurd HA.out (by simp [bZ.l0])
  | succ k1 =>
   have H := HA.out
   clear HA
   simp only [bZ.l0] at H
   revert H
   refine jT (fun c2b0 H => ?_) fun c2b0 H => ?_
   ·revert H
    refine gY (fun c3b0 H => ?_) fun c3 H => ?_
    ·cases x5_1
     rotate_left
     ·replace H := yT H
      revert H
      refine yB2 fun t218 t219 A6 H => ?_
      try dsimp only at H
      cases t219
      rotate_left
      ·replace H := yT H
       revert H
       refine gG (fun c8 H => ?_) fun c8 H => ?_
       ·have LMc8 := ae.mk c8
        clear c8
        obtain ⟨y220, hy220⟩ : ∃ y_ : List Int, y_ = (x4_1 ++ [t218]) := ⟨_, rfl⟩
        replace H : (bZ.l0 k1 a0 y220 false (wrap64 (x6_1 + 1))) = some (r1, r2) := by first | (rw [hy220]; with_reducible exact H) | (have H2_ := (Option.bind_some _ _).symm.trans H; rw [hy220]; with_reducible exact H2_) | (have H2_ := (Option.bind_some _ _).symm.trans H; with_reducible exact H2_) | with_reducible exact H | (rw [hy220]; exact H) | exact H
        have Ny220 := ae.mk hy220
        clear hy220
        have H' := ae.mk H
        clear H
        have p4 : 0 ≤ (x6_1 : Int) := of_decide_eq_true aT
        have q4 : x6_1 < (a0.size : Int) := of_decide_eq_true aT
        have hx4 := lq a0 x6_1
        replace p4 := eq_true p4
        replace q4 := eq_true q4
        go_wp2_with (first | ((with_reducible refine gC 73 rfl ?_); refine gM 73 27 rfl Try.func73 (jA.calls (bt a0 x6_1) t218 true _ A6.out) ?_; rintro _ w' ⟨rfl, ⟨nd, rfl⟩⟩; refine ⟨_, rfl, ?_⟩) | ((with_reducible refine dO (b := .append) (xs := #[.tmp 32, .tmp 34]) rfl ?_); at_builtin; refine Kd.lV (Kd.int .u8) (w0 := w) w.heap.size rfl (.tmp 32) (.tmp 34) 82 5 (.int .u8 0) 1 rfl Try.underlying82 info5 rfl (by decide) (by omega) u4 x4_1 t218 [.int .u8 t218] (fun _ => True) (fun _ => False) rfl rfl ?aP (fun _ hk => hk.elim) ?aF ?aO ?aB ?aS ?aL ?_; (case aP => exact rfl); (case aB => exact (bT HB)); (case aF => exact (fun _ _ => trivial)); (case aO => exact (qR HO_4)); (case aS => exact (aX (bT HB))); (case aL => have := LMc8.out; omega); intro v221 w9 ho hb hg hat; rw [← Ny220.out] at ho; refine yA2 (hb) (ho) ?_; clear HB HO_4; intro HB HO222; clear ho hb hg hat))
        go_roundg k1
        case measure => have := HK1.out; omega
        case rel => exact ⟨(y220), (false), (wrap64 (x6_1 + 1)), fT, fT, H', ⟨by have := HK1.out; omega⟩, ⟨qR HO222⟩, ⟨bT HB⟩⟩
       exact absurd H (by simp)
      replace H := yF H
      simp only [Option.some.injEq, Prod.mk.injEq] at H
      obtain ⟨rfl, rfl⟩ := H
      have p4 : 0 ≤ (x6_1 : Int) := of_decide_eq_true aT
      have q4 : x6_1 < (a0.size : Int) := of_decide_eq_true aT
      have hx4 := lq a0 x6_1
      replace p4 := eq_true p4
      replace q4 := eq_true q4
      go_wp2_with (first | ((with_reducible refine gC 73 rfl ?_); refine gM 73 27 rfl Try.func73 (jA.calls (bt a0 x6_1) t218 false _ A6.out) ?_; rintro _ w' ⟨rfl, ⟨nd, rfl⟩⟩; refine ⟨_, rfl, ?_⟩))
      go_ret2
      exact ⟨eT, bT HB⟩
     replace H := yF H
     revert H
     refine bu (fun c10b0 c10b1 H => ?_) fun c10 c10b0 c10b1 H => ?_
     ·simp only [Option.some.injEq, Prod.mk.injEq] at H
      obtain ⟨rfl, rfl⟩ := H
      have p4 : 0 ≤ (x6_1 : Int) := of_decide_eq_true aT
      have q4 : x6_1 < (a0.size : Int) := of_decide_eq_true aT
      have hx4 := lq a0 x6_1
      replace p4 := eq_true p4
      replace q4 := eq_true q4
      have hcv11 := vY (P := Try.prog) Try.underlying82 Try.underlying5 Try.underlying9 (Kd.sW HO_4.out)
      go_wp2
      go_ret2
      exact ⟨eT, bT HB⟩
     revert H
     refine bu (fun c12b0 c12b1 H => ?_) fun c12 c12b0 c12b1 H => ?_
     ·simp only [Option.some.injEq, Prod.mk.injEq] at H
      obtain ⟨rfl, rfl⟩ := H
      have p4 : 0 ≤ (x6_1 : Int) := of_decide_eq_true aT
      have q4 : x6_1 < (a0.size : Int) := of_decide_eq_true aT
      have hx4 := lq a0 x6_1
      replace p4 := eq_true p4
      replace q4 := eq_true q4
      go_wp2
      go_ret2
      exact ⟨eT, bT HB⟩
     revert H
     refine bu (fun c13b0 c13b1 H => ?_) fun c13 c13b0 c13b1 H => ?_
     ·have H' := ae.mk H
      clear H
      have p4 : 0 ≤ (x6_1 : Int) := of_decide_eq_true aT
      have q4 : x6_1 < (a0.size : Int) := of_decide_eq_true aT
      have hx4 := lq a0 x6_1
      replace p4 := eq_true p4
      replace q4 := eq_true q4
      go_wp2
      go_roundg k1
      case measure => have := HK1.out; omega
      case rel => exact ⟨(x4_1), (true), (wrap64 (x6_1 + 1)), fT, fT, H', ⟨by have := HK1.out; omega⟩, ⟨qR HO_4⟩, ⟨bT HB⟩⟩
     revert H
     refine gG (fun c14 H => ?_) fun c14 H => ?_
     ·have LMc14 := ae.mk c14
      clear c14
      obtain ⟨y223, hy223⟩ : ∃ y_ : List Int, y_ = (x4_1 ++ [bt a0 x6_1]) := ⟨_, rfl⟩
      replace H : (bZ.l0 k1 a0 y223 false (wrap64 (x6_1 + 1))) = some (r1, r2) := by first | (rw [hy223]; with_reducible exact H) | (have H2_ := (Option.bind_some _ _).symm.trans H; rw [hy223]; with_reducible exact H2_) | (have H2_ := (Option.bind_some _ _).symm.trans H; with_reducible exact H2_) | with_reducible exact H | (rw [hy223]; exact H) | exact H
      have Ny223 := ae.mk hy223
      clear hy223
      have H' := ae.mk H
      clear H
      have p4 : 0 ≤ (x6_1 : Int) := of_decide_eq_true aT
      have q4 : x6_1 < (a0.size : Int) := of_decide_eq_true aT
      have hx4 := lq a0 x6_1
      replace p4 := eq_true p4
      replace q4 := eq_true q4
      go_wp2_with (first | ((with_reducible refine dO (b := .append) (xs := #[.tmp 19, .tmp 21]) rfl ?_); at_builtin; refine Kd.lV (Kd.int .u8) (w0 := w) w.heap.size rfl (.tmp 19) (.tmp 21) 82 5 (.int .u8 0) 1 rfl Try.underlying82 info5 rfl (by decide) (by omega) u4 x4_1 (bt a0 x6_1) [.int .u8 (bt a0 x6_1)] (fun _ => True) (fun _ => False) rfl rfl ?aP (fun _ hk => hk.elim) ?aF ?aO ?aB ?aS ?aL ?_; (case aP => exact rfl); (case aB => exact (bT HB)); (case aF => exact (fun _ _ => trivial)); (case aO => exact (qR HO_4)); (case aS => exact (aX (bT HB))); (case aL => have := LMc14.out; omega); intro v224 w15 ho hb hg hat; rw [← Ny223.out] at ho; refine yA2 (hb) (ho) ?_; clear HB HO_4; intro HB HO225; clear ho hb hg hat))
      go_roundg k1
      case measure => have := HK1.out; omega
      case rel => exact ⟨(y223), (false), (wrap64 (x6_1 + 1)), fT, fT, H', ⟨by have := HK1.out; omega⟩, ⟨qR HO225⟩, ⟨bT HB⟩⟩
     exact absurd H (by simp)
    exact absurd H (by simp)
   simp only [Option.some.injEq, Prod.mk.injEq] at H
   obtain ⟨rfl, rfl⟩ := H
   go_wp2
   go_ret2
   exact ⟨eT, bT HB⟩
end Go.Proofs.Ytlenihbmafkegaa.Q
end
section
namespace Go.Proofs.Ytlenihbmafkegaa.Q
open Go.RowKit Go.Proofs.YtlenihbmafkegaaW.PrintWords Go.Proofs.YtlenihbmafkegaaW.PrintLast Go.Proofs.YtlenihbmafkegaaW.PrintMore
attribute [local go_sem] df cO dI dH bV bU cZ cu
set_option linter.unusedVariables false
set_option linter.unusedSimpArgs false
/-! ### dY: function 52 -/
def dY.j0 : Nat → ByteArray → Bool → Option (ByteArray)
 | 0, _, _ => none
 | k + 1, x0, x16 => if x16 = true then (if 0 ≤ 2 then (if 2 ≤ (x0.size : Int) then (some (x0.extract 0 2)) else (none)) else (none)) else (if 0 ≤ 1 then (if 1 ≤ (x0.size : Int) then ((bY.f k (⟨#[40, 41, 123, 125, 91, 93, 44, 59, 46, 47, 61, 60, 43, 45, 42, 37]⟩ : ByteArray) (x0.extract 0 1)).bind fun t227 => (if t227 = true then (some (x0.extract 0 1)) else (some (⟨#[]⟩ : ByteArray)))) else (none)) else (none))
def dY.f (k : Nat) (a0 : ByteArray) : Option (ByteArray) := if (a0.size : Int) > 1 then (if 0 ≤ 2 then (if 2 ≤ (a0.size : Int) then (if (a0.extract 0 2).size + 1 ≤ 9223372036854775807 then ((bY.f k (⟨#[61, 61, 32, 33, 61, 32, 60, 61, 32, 46, 46, 32]⟩ : ByteArray) ((a0.extract 0 2) ++ (⟨#[32]⟩ : ByteArray))).bind fun t226 => (if t226 = true then (if 1 < (a0.size : Int) then (dY.j0 k a0 ((bt a0 1) != 32)) else (none)) else (dY.j0 k a0 false))) else (none)) else (none)) else (none)) else (dY.j0 k a0 false)
theorem dY.bW : ∀ k, (∀ y0 y1, LeO (dY.j0 k y0 y1) (dY.j0 (k + 1) y0 y1))
 | 0 => fun _ _ r h => by simp [dY.j0] at h
 | k + 1 => by
  have ih0 := dY.bW k
  intro y0 y1
  unfold dY.j0
  have m0 := bY.mono
  exact yL
theorem dY.mono : ∀ a0 k, LeO (dY.f k a0) (dY.f (k + 1) a0) := by
 intro a0 k
 have ih0 := dY.bW k
 unfold dY.f
 have m0 := bY.mono
 exact yL
set_option maxHeartbeats 8000000 in
set_option maxRecDepth 100000 in
theorem dY.calls (k : Nat) (a0 : ByteArray) (r : ByteArray) (w : World) (h : dY.f k a0 = some r) :
 Calls Try.prog 52 #[.string a0] w fun e w' => e = .returned (.string r) ∧ dM w w' := by
 have H := h
 clear h
 unfold dY.f at H
 have HC2 := ae.mk H
 clear H
 go_enter Try.func52, Try.ntmps52
 go_upto_region 1 with (fail)
 go_cut [16] (fun v16 wc => ∃ (kq : Nat) (x16_1 : Bool), v16 = .bool x16_1 ∧ ae (dY.j0 kq a0 x16_1 = some r) ∧ ae (kq ≤ k) ∧ dM w wc)
 case first =>
  have H := HC2.out
  clear HC2
  revert H
  refine gG (fun c3 H => ?_) fun c3 H => ?_
  ·have c3b0 : decide (1 < (a0.size : Int)) = true := decide_eq_true c3
   have c3b1 : decide (1 < a0.size) = true := decide_eq_true (by omega)
   clear c3
   (first | rw [c3b0] | (simp only [gp, iJ]; rw [c3b0]) | skip)
   revert H
   refine jI (fun c4b0 c4b1 H => ?_) fun c4 H => ?_
   ·revert H
    refine jI (fun c5b0 c5b1 H => ?_) fun c5 H => ?_
    ·revert H
     refine jW (fun c6 c6b0 c6b1 H => ?_) fun c6 H => ?_
     ·try have c6b2 : (9223372036854775807 < (a0.extract 0 2).size + 1) = False := eq_false (Nat.not_lt.2 c6)
      revert H
      refine yB1 fun t226 A7 H => ?_
      cases t226
      rotate_left
      ·replace H := yT H
       revert H
       refine yP (fun c9 c9b0 H => ?_) fun c9 H => ?_
       ·have c9b1 : decide (1 < a0.size) = true := decide_eq_true (by omega)
        clear c9
        have H' := ae.mk H
        clear H
        go_wp2_with (first | (go_at_call 72; (with_reducible refine (bY.calls k (⟨#[61, 61, 32, 33, 61, 32, 60, 61, 32, 46, 46, 32]⟩ : ByteArray) ((a0.extract 0 2) ++ (⟨#[32]⟩ : ByteArray)) true _ A7.out).mono ?_); rintro e w' ⟨rfl, ⟨nd, rfl⟩⟩; have p10 : 0 ≤ (1 : Int) := (by omega); have q10 : 1 < a0.size := (by have : (1 : Int) < (a0.size : Int) := of_decide_eq_true aT; omega); have hx10 : ∀ h : 1 < a0.size, ((a0[1]'h).toNat : Int) = bt a0 1 := lq a0 1; clear p10; have qi10 : (1 < (a0.size : Int)) = True := eq_true (of_decide_eq_true aT); replace q10 := eq_true q10))
        go_meet
        case rel => exact ⟨_, (((bt a0 1) != 32)), fT, H', ⟨Z11⟩, Z0⟩
       exact absurd H (by simp)
      replace H := yF H
      have H' := ae.mk H
      clear H
      go_wp2_with (first | (go_at_call 72; (with_reducible refine (bY.calls k (⟨#[61, 61, 32, 33, 61, 32, 60, 61, 32, 46, 46, 32]⟩ : ByteArray) ((a0.extract 0 2) ++ (⟨#[32]⟩ : ByteArray)) false _ A7.out).mono ?_); rintro e w' ⟨rfl, ⟨nd, rfl⟩⟩))
      go_meet
      case rel => exact ⟨_, (false), fT, H', ⟨Z11⟩, Z0⟩
     exact absurd H (by simp)
    exact absurd H (by simp)
   exact absurd H (by simp)
  have c3b0 : decide (1 < (a0.size : Int)) = false := decide_eq_false c3
  have c3b1 : decide (1 < a0.size) = false := decide_eq_false (by omega)
  clear c3
  (first | rw [c3b0] | (simp only [gp, iJ]; rw [c3b0]) | skip)
  have H' := ae.mk H
  clear H
  go_wp2
  go_meet
  case rel => exact ⟨_, (false), fT, H', ⟨Z11⟩, Z0⟩
 case rest =>
  clear HC2
  try clear p1
  try clear q1
  try clear hx1
  try clear qi1
  try clear p2
  try clear c3
  try clear c3b0
  try clear c3b1
  try clear c4
  try clear c4b0
  try clear c4b1
  try clear c5
  try clear c5b0
  try clear c5b1
  try clear c6
  try clear c6b0
  try clear c6b1
  try clear c6b2
  try clear c8
  try clear c9
  try clear c9b0
  try clear c9b1
  try clear p10
  try clear q10
  try clear hx10
  try clear qi10
  try clear p10
  try clear q10
  obtain ⟨kq, x16_1, rfl, HA, HJ1, ⟨mc1, rfl⟩⟩ := hcut
  cases kq with
  | zero => exact absurd HA.out (by simp [dY.j0])
  | succ kj1 =>
   have H := HA.out
   clear HA
   simp only [dY.j0] at H
   cases x16_1
   rotate_left
   ·replace H := yT H
    revert H
    refine jI (fun c12b0 c12b1 H => ?_) fun c12 H => ?_
    ·revert H
     refine jI (fun c13b0 c13b1 H => ?_) fun c13 H => ?_
     ·obtain rfl := Option.some.inj H
      go_wp2
      go_ret
      exact ⟨fT, Z0⟩
     exact absurd H (by simp)
    exact absurd H (by simp)
   replace H := yF H
   revert H
   refine jI (fun c14b0 c14b1 H => ?_) fun c14 H => ?_
   ·revert H
    refine jI (fun c15b0 c15b1 H => ?_) fun c15 H => ?_
    ·revert H
     refine yB1 fun t227 A16 H => ?_
     cases t227
     rotate_left
     ·replace H := yT H
      have c18b0 := eq_true (of_decide_eq_true aT : 0 ≤ 1)
      have c19b0 := eq_true (of_decide_eq_true aT : 1 ≤ (a0.size : Int))
      obtain rfl := Option.some.inj H
      go_wp2_with (first | ((with_reducible refine gC 72 rfl ?_); refine gM 72 21 rfl Try.func72 (bY.calls kj1 (⟨#[40, 41, 123, 125, 91, 93, 44, 59, 46, 47, 61, 60, 43, 45, 42, 37]⟩ : ByteArray) (a0.extract 0 1) true _ A16.out) ?_; rintro _ w' ⟨rfl, ⟨nd, rfl⟩⟩; refine ⟨_, rfl, ?_⟩))
      go_ret
      exact ⟨fT, Z0⟩
     replace H := yF H
     obtain rfl := Option.some.inj H
     go_wp2_with (first | ((with_reducible refine gC 72 rfl ?_); refine gM 72 21 rfl Try.func72 (bY.calls kj1 (⟨#[40, 41, 123, 125, 91, 93, 44, 59, 46, 47, 61, 60, 43, 45, 42, 37]⟩ : ByteArray) (a0.extract 0 1) false _ A16.out) ?_; rintro _ w' ⟨rfl, ⟨nd, rfl⟩⟩; refine ⟨_, rfl, ?_⟩))
     go_ret
     exact ⟨fT, Z0⟩
    exact absurd H (by simp)
   exact absurd H (by simp)
end Go.Proofs.Ytlenihbmafkegaa.Q
end
section
namespace Go.Proofs.Ytlenihbmafkegaa.Q
open Go.RowKit Go.Proofs.YtlenihbmafkegaaW.PrintWords Go.Proofs.YtlenihbmafkegaaW.PrintLast Go.Proofs.YtlenihbmafkegaaW.PrintMore
attribute [local go_sem] df cO dI dH bV bU cZ cu
set_option linter.unusedVariables false
set_option linter.unusedSimpArgs false
/-! ### iE: function 24 -/
def iE.f (k : Nat) (a0 : ByteArray) : Option (Int × ByteArray × Int × Int × Int × Int) := if 0 < (a0.size : Int) then ((iF.f (wrap32 (bt a0 0))).bind fun t229 => (if t229 = true then ((jX.f a0).bind fun t230 => ((gU.f k t230).bind fun t231 => (if t231 = true then (some (5, t230, 0, 0, (t230.size : Int), 0)) else ((eH.f k t230).bind fun t232 => (if t232 = true then (some (1, t230, 0, 0, (t230.size : Int), 0)) else (some (0, (⟨#[]⟩ : ByteArray), 0, 0, 0, 10))))))) else ((kP.f (wrap32 (bt a0 0))).bind fun t233 => (if t233 = true then ((mO.f a0).bind fun t234 => ((bK.f k t234).bind fun bt235 => (if bt235.2 = true then (some (2, t234, bt235.1, 0, (t234.size : Int), 0)) else (some (0, (⟨#[]⟩ : ByteArray), 0, 0, 0, 10))))) else (if (wrap32 (bt a0 0)) = 34 then ((bZ.f k a0).bind fun bt237 => (if bt237.2 > 0 then (some (3, bt237.1, 0, 0, bt237.2, 0)) else (some (0, (⟨#[]⟩ : ByteArray), 0, 0, 0, 10)))) else ((dY.f k a0).bind fun t239 => (if t239.toList = ([] : List UInt8) then (some (0, (⟨#[]⟩ : ByteArray), 0, 0, 0, 9)) else (some (4, t239, 0, 0, (t239.size : Int), 0))))))))) else (none)
theorem iE.mono : ∀ a0 k, LeO (iE.f k a0) (iE.f (k + 1) a0) := by
 intro a0 k
 unfold iE.f
 have m0 := gU.mono
 have m1 := eH.mono
 have m2 := bK.mono
 have m3 := bZ.mono
 have m4 := dY.mono
 exact yL
end Go.Proofs.Ytlenihbmafkegaa.Q
end
section
set_option linter.unusedVariables false
set_option linter.unusedSimpArgs false
namespace Go.Proofs.Ytlenihbmafkegaa.Q
open Go Go.RowKit Go.Proofs.YtlenihbmafkegaaW.PrintWords Go.Proofs.YtlenihbmafkegaaW.PrintLast Go.Proofs.YtlenihbmafkegaaW.PrintMore
attribute [local go_sem] df cO dI dH bV bU cZ cu
set_option maxHeartbeats 8000000 in
set_option maxRecDepth 100000 in
theorem iE.calls (k : Nat) (a0 : ByteArray) (r1 : Int) (r2 : ByteArray) (r3 : Int) (r4 : Int) (r5 : Int) (r6 : Int) (w : World) (h : iE.f k a0 = some (r1, r2, r3, r4, r5, r6)) :
 Calls Try.prog 24 #[.string a0] w fun e w' => e = .returned (.tuple #[.agg #[.int .i64 r1, .string r2, .int .i64 r3, .int .i64 r4], .int .i64 r5, .int .i64 r6]) ∧ Below w.heap.size w w' := by
 unfold iE.f at h
 have HS := PS.new w
 have H := ae.mk h
 have hu := Try.underlying56
 clear h
 (repeat' (first | (with_reducible exact absurd H.out (Option.some_ne_none _).symm) | (first | replace H := qB1 H (by assumption) | replace H := qB0 H (by assumption) | replace H := qE1 H (by assumption) | replace H := qE0 H (by assumption) | replace H := qD1 H (by assumption) | replace H := qD0 H (by assumption)) | (refine qB H ?_ ?_ <;> clear H <;> intro cb_ H <;> (try subst cb_)) | (refine qE H ?_ ?_ <;> clear H <;> intro cb_ cn_ H) | (refine qD H ?_ ?_ <;> clear H <;> intro cp_ cb_ H <;> (try simp only [ge_iff_le, gt_iff_lt] at cp_ cb_))))
 have q0 : (0 < a0.size) = True := eq_true (by have := of_eq_true ‹(0 < (a0.size : Int)) = True›; omega)
 have hi : ∀ h : 0 < a0.size, ((a0[0]'h).toNat : Int) = bt a0 0 := lq a0 0
 go_enter Try.func24, Try.ntmps24
 go_wp2_with (first | ((with_reducible refine bF (N := 2) rfl ?_); refine OM (N := 2) (stP HS) (by first | (go_simp; done) | (go_simp; rfl)) ?_; (try clear hxa0 hxa1 hxa2 hxa3 hfa0 hfa1 hfa2 hfa3); (try clear hxb0 hxb1 hxb2 hxb3 hfb0 hfb1 hfb2 hfb3); (try clear n1_ n2_); clear HS; intro gb2 w' HS; (try obtain ⟨hxa0, hxa1, hxa2, hxa3, hfa0, hfa1, hfa2, hfa3⟩ := c4 HS.hd); (try obtain ⟨hxb0, hxb1, hxb2, hxb3, hfb0, hfb1, hfb2, hfb3⟩ := c4 HS.tl.hd); (try obtain ⟨n1_, n2_⟩ := HS.ne)) | ((with_reducible refine gC 46 rfl ?_); refine pV .bool 46 rfl Try.func46 (stP HS) H (fun t h => ofD (iF.calls _ t _ h)) ?_; (try clear hxa0 hxa1 hxa2 hxa3 hfa0 hfa1 hfa2 hfa3); (try clear hxb0 hxb1 hxb2 hxb3 hfb0 hfb1 hfb2 hfb3); (try clear n1_ n2_); clear HS H; intro t w' HS H; (try dsimp only at H); (try obtain ⟨hxa0, hxa1, hxa2, hxa3, hfa0, hfa1, hfa2, hfa3⟩ := c4 HS.hd); (try obtain ⟨hxb0, hxb1, hxb2, hxb3, hfb0, hfb1, hfb2, hfb3⟩ := c4 HS.tl.hd); (try obtain ⟨n1_, n2_⟩ := HS.ne); (repeat' (first | (with_reducible exact absurd H.out (Option.some_ne_none _).symm) | (first | replace H := qB1 H (by assumption) | replace H := qB0 H (by assumption) | replace H := qE1 H (by assumption) | replace H := qE0 H (by assumption) | replace H := qD1 H (by assumption) | replace H := qD0 H (by assumption)) | (refine qB H ?_ ?_ <;> clear H <;> intro cb_ H <;> (try subst cb_)) | (refine qE H ?_ ?_ <;> clear H <;> intro cb_ cn_ H) | (refine qD H ?_ ?_ <;> clear H <;> intro cp_ cb_ H <;> (try simp only [ge_iff_le, gt_iff_lt] at cp_ cb_))))) | ((with_reducible refine gC 43 rfl ?_); refine pV .string 43 rfl Try.func43 (stP HS) H (fun t h => jX.calls _ t _ h) ?_; (try clear hxa0 hxa1 hxa2 hxa3 hfa0 hfa1 hfa2 hfa3); (try clear hxb0 hxb1 hxb2 hxb3 hfb0 hfb1 hfb2 hfb3); (try clear n1_ n2_); clear HS H; intro t w' HS H; (try dsimp only at H); (try obtain ⟨hxa0, hxa1, hxa2, hxa3, hfa0, hfa1, hfa2, hfa3⟩ := c4 HS.hd); (try obtain ⟨hxb0, hxb1, hxb2, hxb3, hfb0, hfb1, hfb2, hfb3⟩ := c4 HS.tl.hd); (try obtain ⟨n1_, n2_⟩ := HS.ne); (repeat' (first | (with_reducible exact absurd H.out (Option.some_ne_none _).symm) | (first | replace H := qB1 H (by assumption) | replace H := qB0 H (by assumption) | replace H := qE1 H (by assumption) | replace H := qE0 H (by assumption) | replace H := qD1 H (by assumption) | replace H := qD0 H (by assumption)) | (refine qB H ?_ ?_ <;> clear H <;> intro cb_ H <;> (try subst cb_)) | (refine qE H ?_ ?_ <;> clear H <;> intro cb_ cn_ H) | (refine qD H ?_ ?_ <;> clear H <;> intro cp_ cb_ H <;> (try simp only [ge_iff_le, gt_iff_lt] at cp_ cb_))))) | ((with_reducible refine gC 43 rfl ?_); refine pV .string 43 rfl Try.func43 (stP HS) H (fun t h => mO.calls _ t _ h) ?_; (try clear hxa0 hxa1 hxa2 hxa3 hfa0 hfa1 hfa2 hfa3); (try clear hxb0 hxb1 hxb2 hxb3 hfb0 hfb1 hfb2 hfb3); (try clear n1_ n2_); clear HS H; intro t w' HS H; (try dsimp only at H); (try obtain ⟨hxa0, hxa1, hxa2, hxa3, hfa0, hfa1, hfa2, hfa3⟩ := c4 HS.hd); (try obtain ⟨hxb0, hxb1, hxb2, hxb3, hfb0, hfb1, hfb2, hfb3⟩ := c4 HS.tl.hd); (try obtain ⟨n1_, n2_⟩ := HS.ne); (repeat' (first | (with_reducible exact absurd H.out (Option.some_ne_none _).symm) | (first | replace H := qB1 H (by assumption) | replace H := qB0 H (by assumption) | replace H := qE1 H (by assumption) | replace H := qE0 H (by assumption) | replace H := qD1 H (by assumption) | replace H := qD0 H (by assumption)) | (refine qB H ?_ ?_ <;> clear H <;> intro cb_ H <;> (try subst cb_)) | (refine qE H ?_ ?_ <;> clear H <;> intro cb_ cn_ H) | (refine qD H ?_ ?_ <;> clear H <;> intro cp_ cb_ H <;> (try simp only [ge_iff_le, gt_iff_lt] at cp_ cb_))))) | ((with_reducible refine gC 48 rfl ?_); refine pV .bool 48 rfl Try.func48 (stP HS) H (fun t h => gU.calls _ _ t _ h) ?_; (try clear hxa0 hxa1 hxa2 hxa3 hfa0 hfa1 hfa2 hfa3); (try clear hxb0 hxb1 hxb2 hxb3 hfb0 hfb1 hfb2 hfb3); (try clear n1_ n2_); clear HS H; intro t w' HS H; (try dsimp only at H); (try obtain ⟨hxa0, hxa1, hxa2, hxa3, hfa0, hfa1, hfa2, hfa3⟩ := c4 HS.hd); (try obtain ⟨hxb0, hxb1, hxb2, hxb3, hfb0, hfb1, hfb2, hfb3⟩ := c4 HS.tl.hd); (try obtain ⟨n1_, n2_⟩ := HS.ne); (repeat' (first | (with_reducible exact absurd H.out (Option.some_ne_none _).symm) | (first | replace H := qB1 H (by assumption) | replace H := qB0 H (by assumption) | replace H := qE1 H (by assumption) | replace H := qE0 H (by assumption) | replace H := qD1 H (by assumption) | replace H := qD0 H (by assumption)) | (refine qB H ?_ ?_ <;> clear H <;> intro cb_ H <;> (try subst cb_)) | (refine qE H ?_ ?_ <;> clear H <;> intro cb_ cn_ H) | (refine qD H ?_ ?_ <;> clear H <;> intro cp_ cb_ H <;> (try simp only [ge_iff_le, gt_iff_lt] at cp_ cb_))))) | ((with_reducible refine gC 31 rfl ?_); refine pV .bool 31 rfl Try.func31 (stP HS) H (fun t h => eH.calls _ _ t _ h) ?_; (try clear hxa0 hxa1 hxa2 hxa3 hfa0 hfa1 hfa2 hfa3); (try clear hxb0 hxb1 hxb2 hxb3 hfb0 hfb1 hfb2 hfb3); (try clear n1_ n2_); clear HS H; intro t w' HS H; (try dsimp only at H); (try obtain ⟨hxa0, hxa1, hxa2, hxa3, hfa0, hfa1, hfa2, hfa3⟩ := c4 HS.hd); (try obtain ⟨hxb0, hxb1, hxb2, hxb3, hfb0, hfb1, hfb2, hfb3⟩ := c4 HS.tl.hd); (try obtain ⟨n1_, n2_⟩ := HS.ne); (repeat' (first | (with_reducible exact absurd H.out (Option.some_ne_none _).symm) | (first | replace H := qB1 H (by assumption) | replace H := qB0 H (by assumption) | replace H := qE1 H (by assumption) | replace H := qE0 H (by assumption) | replace H := qD1 H (by assumption) | replace H := qD0 H (by assumption)) | (refine qB H ?_ ?_ <;> clear H <;> intro cb_ H <;> (try subst cb_)) | (refine qE H ?_ ?_ <;> clear H <;> intro cb_ cn_ H) | (refine qD H ?_ ?_ <;> clear H <;> intro cp_ cb_ H <;> (try simp only [ge_iff_le, gt_iff_lt] at cp_ cb_))))) | ((with_reducible refine gC 49 rfl ?_); refine pV .bool 49 rfl Try.func49 (stP HS) H (fun t h => ofD (kP.calls _ t _ h)) ?_; (try clear hxa0 hxa1 hxa2 hxa3 hfa0 hfa1 hfa2 hfa3); (try clear hxb0 hxb1 hxb2 hxb3 hfb0 hfb1 hfb2 hfb3); (try clear n1_ n2_); clear HS H; intro t w' HS H; (try dsimp only at H); (try obtain ⟨hxa0, hxa1, hxa2, hxa3, hfa0, hfa1, hfa2, hfa3⟩ := c4 HS.hd); (try obtain ⟨hxb0, hxb1, hxb2, hxb3, hfb0, hfb1, hfb2, hfb3⟩ := c4 HS.tl.hd); (try obtain ⟨n1_, n2_⟩ := HS.ne); (repeat' (first | (with_reducible exact absurd H.out (Option.some_ne_none _).symm) | (first | replace H := qB1 H (by assumption) | replace H := qB0 H (by assumption) | replace H := qE1 H (by assumption) | replace H := qE0 H (by assumption) | replace H := qD1 H (by assumption) | replace H := qD0 H (by assumption)) | (refine qB H ?_ ?_ <;> clear H <;> intro cb_ H <;> (try subst cb_)) | (refine qE H ?_ ?_ <;> clear H <;> intro cb_ cn_ H) | (refine qD H ?_ ?_ <;> clear H <;> intro cp_ cb_ H <;> (try simp only [ge_iff_le, gt_iff_lt] at cp_ cb_))))) | ((with_reducible refine gC 50 rfl ?_); refine pV (fun t : Int × Bool => .tuple #[.int .i64 t.1, .bool t.2]) 50 rfl Try.func50 (stP HS) H (fun t h => ofD (bK.calls _ _ t.1 t.2 _ h)) ?_; (try clear hxa0 hxa1 hxa2 hxa3 hfa0 hfa1 hfa2 hfa3); (try clear hxb0 hxb1 hxb2 hxb3 hfb0 hfb1 hfb2 hfb3); (try clear n1_ n2_); clear HS H; intro t w' HS H; (try dsimp only at H); (try obtain ⟨hxa0, hxa1, hxa2, hxa3, hfa0, hfa1, hfa2, hfa3⟩ := c4 HS.hd); (try obtain ⟨hxb0, hxb1, hxb2, hxb3, hfb0, hfb1, hfb2, hfb3⟩ := c4 HS.tl.hd); (try obtain ⟨n1_, n2_⟩ := HS.ne); (repeat' (first | (with_reducible exact absurd H.out (Option.some_ne_none _).symm) | (first | replace H := qB1 H (by assumption) | replace H := qB0 H (by assumption) | replace H := qE1 H (by assumption) | replace H := qE0 H (by assumption) | replace H := qD1 H (by assumption) | replace H := qD0 H (by assumption)) | (refine qB H ?_ ?_ <;> clear H <;> intro cb_ H <;> (try subst cb_)) | (refine qE H ?_ ?_ <;> clear H <;> intro cb_ cn_ H) | (refine qD H ?_ ?_ <;> clear H <;> intro cp_ cb_ H <;> (try simp only [ge_iff_le, gt_iff_lt] at cp_ cb_))))) | ((with_reducible refine gC 51 rfl ?_); refine pV (fun t : ByteArray × Int => .tuple #[.string t.1, .int .i64 t.2]) 51 rfl Try.func51 (stP HS) H (fun t h => bZ.calls _ _ t.1 t.2 _ h) ?_; (try clear hxa0 hxa1 hxa2 hxa3 hfa0 hfa1 hfa2 hfa3); (try clear hxb0 hxb1 hxb2 hxb3 hfb0 hfb1 hfb2 hfb3); (try clear n1_ n2_); clear HS H; intro t w' HS H; (try dsimp only at H); (try obtain ⟨hxa0, hxa1, hxa2, hxa3, hfa0, hfa1, hfa2, hfa3⟩ := c4 HS.hd); (try obtain ⟨hxb0, hxb1, hxb2, hxb3, hfb0, hfb1, hfb2, hfb3⟩ := c4 HS.tl.hd); (try obtain ⟨n1_, n2_⟩ := HS.ne); (repeat' (first | (with_reducible exact absurd H.out (Option.some_ne_none _).symm) | (first | replace H := qB1 H (by assumption) | replace H := qB0 H (by assumption) | replace H := qE1 H (by assumption) | replace H := qE0 H (by assumption) | replace H := qD1 H (by assumption) | replace H := qD0 H (by assumption)) | (refine qB H ?_ ?_ <;> clear H <;> intro cb_ H <;> (try subst cb_)) | (refine qE H ?_ ?_ <;> clear H <;> intro cb_ cn_ H) | (refine qD H ?_ ?_ <;> clear H <;> intro cp_ cb_ H <;> (try simp only [ge_iff_le, gt_iff_lt] at cp_ cb_))))) | ((with_reducible refine gC 52 rfl ?_); refine pV .string 52 rfl Try.func52 (stP HS) H (fun t h => ofD (dY.calls _ _ t _ h)) ?_; (try clear hxa0 hxa1 hxa2 hxa3 hfa0 hfa1 hfa2 hfa3); (try clear hxb0 hxb1 hxb2 hxb3 hfb0 hfb1 hfb2 hfb3); (try clear n1_ n2_); clear HS H; intro t w' HS H; (try dsimp only at H); (try obtain ⟨hxa0, hxa1, hxa2, hxa3, hfa0, hfa1, hfa2, hfa3⟩ := c4 HS.hd); (try obtain ⟨hxb0, hxb1, hxb2, hxb3, hfb0, hfb1, hfb2, hfb3⟩ := c4 HS.tl.hd); (try obtain ⟨n1_, n2_⟩ := HS.ne); (repeat' (first | (with_reducible exact absurd H.out (Option.some_ne_none _).symm) | (first | replace H := qB1 H (by assumption) | replace H := qB0 H (by assumption) | replace H := qE1 H (by assumption) | replace H := qE0 H (by assumption) | replace H := qD1 H (by assumption) | replace H := qD0 H (by assumption)) | (refine qB H ?_ ?_ <;> clear H <;> intro cb_ H <;> (try subst cb_)) | (refine qE H ?_ ?_ <;> clear H <;> intro cb_ cn_ H) | (refine qD H ?_ ?_ <;> clear H <;> intro cp_ cb_ H <;> (try simp only [ge_iff_le, gt_iff_lt] at cp_ cb_))))))
 all_goals (have h_ := H.out; simp only [Option.some.injEq, Prod.mk.injEq] at h_; obtain ⟨rfl, rfl, rfl, rfl, rfl, rfl⟩ := h_; refine bodyPost_ret (zO rfl _ _ gb2 56 _ (0, 0) _ rfl (by exact PS.hd (stP HS)) Try.underlying56 rfl (by kernel_rfl)) rfl ?_; exact ⟨by first | rfl | (simp; done) | (simp [*]; done), (stP HS).below⟩)
end Go.Proofs.Ytlenihbmafkegaa.Q
end
section
set_option linter.unusedVariables false
set_option linter.unusedSimpArgs false
namespace Go.Proofs.Ytlenihbmafkegaa.Q
open Go.RowKit Go.Proofs.YtlenihbmafkegaaW.PrintWords Go.Proofs.YtlenihbmafkegaaW.PrintLast Go.Proofs.YtlenihbmafkegaaW.PrintMore
def jy.f (s0 : List S56) (s1 : Int) (s2 : Bool) : Option (Int × ByteArray × Int × Int × Bool × Int × Bool) :=
 if s2 = true then some (0, (⟨#[]⟩ : ByteArray), 0, 0, false, s1, s2) else if s1 ≥ (s0.length : Int) then some (0, (⟨#[]⟩ : ByteArray), 0, 0, false, s1, s2)
 else if 0 ≤ s1 then some ((dF s0 s1).f0, (dF s0 s1).f1, (dF s0 s1).f2, (dF s0 s1).f3, true, s1, s2) else none
set_option maxHeartbeats 8000000 in
set_option maxRecDepth 100000 in
theorem jy.calls (g : Nat) (s0_0 : List S56) (s0_1 : Int) (s0_2 : Bool) (r1 : Int) (r2 : ByteArray) (r3 : Int) (r4 : Int) (r5 : Bool) (r6 : Int) (r7 : Bool) (w0 w : World) (hI : aY w0 w g s0_0 s0_1 s0_2) (hB : Below w0.heap.size w0 w) (h : jy.f s0_0 s0_1 s0_2 = some (r1, r2, r3, r4, r5, r6, r7)) :
 Calls Try.prog 74 #[.pointer (some ⟨g, 0, none⟩)] w fun e w' => e = .returned (.tuple #[.agg #[.int .i64 r1, .string r2, .int .i64 r3, .int .i64 r4], .bool r5]) ∧ aY w0 w' g s0_0 r6 r7 ∧ Below w0.heap.size w0 w' ∧ aQ w w' g none := by
 have HI0 := ae.mk hI
 have HB := ae.mk hB
 clear hI hB
 unfold jy.f at h
 have HQ := ae.mk h
 clear h
 go_enter Try.func74, Try.ntmps74
 go_upto_region 1 with (first | ((with_reducible refine bF (N := 2) rfl ?_); refine dS ?hg (N := 2) ?hd (cs := #[.int .i64 0, .string (⟨#[]⟩ : ByteArray), .int .i64 0, .int .i64 0]) (t := 56) ?hr ?_; (case hd => rfl); (case hg => rfl); (case hr => first | (go_simp; done) | (go_simp; rfl)); intro gb hg w1 hbox hb; have HI1 := ae.mk (HI0.out.below hb); have HB1 := ae.mk (aj HB.out hb); have HK1 := ae.mk (aQ.of_below hb g none); have BX := ae.mk hbox; have GB := ae.mk (show w.heap.size ≤ gb by rw [hg]; exact Nat.le_refl _); have GW := ae.mk (show w0.heap.size ≤ gb by rw [hg]; exact HB.out.size); have GN := ae.mk (show gb ≠ g by rw [hg]; exact HI0.out.fresh _ (Nat.le_refl _)); clear hbox hb hg))
 obtain ⟨ASz, cSz, HGz, hgz, HSz⟩ := HI1.out
 have hcz0 := jl HGz
 have hcz1 := jk HGz
 have hcz2 := ji HGz
 clear HGz hgz
 have hcb0 : w1.cell? ⟨gb, 0, none⟩ = some (.int .i64 0) := (ah BX.out 0).trans rfl
 have hcb1 : w1.cell? ⟨gb, 1, none⟩ = some (.string (⟨#[]⟩ : ByteArray)) := (ah BX.out 1).trans rfl
 have hcb2 : w1.cell? ⟨gb, 2, none⟩ = some (.int .i64 0) := (ah BX.out 2).trans rfl
 have hcb3 : w1.cell? ⟨gb, 3, none⟩ = some (.int .i64 0) := (ah BX.out 3).trans rfl
 have hfb0 := af BX.out 0
 have hfb1 := af BX.out 1
 have hfb2 := af BX.out 2
 have hfb3 := af BX.out 3
 have h := HQ.out
 clear HQ
 by_cases c1 : s0_2 = true
 ·rw [if_pos c1] at h
  subst c1
  cases h
  go_quiet (fail)
  go_wp2
  refine bodyPost_ret (rH rfl _ _ gb 56 #[.int .i64 0, .string (⟨#[]⟩ : ByteArray), .int .i64 0, .int .i64 0] (0, 0) _ rfl (by (with_reducible repeat (first | refine mW ?_ _ | refine oG ?_)); refine dm (cs := #[.int .i64 0, .string (⟨#[]⟩ : ByteArray), .int .i64 0, .int .i64 0]) ?_ 3 _ rfl; refine dm (cs := #[.int .i64 0, .string (⟨#[]⟩ : ByteArray), .int .i64 0, .int .i64 0]) ?_ 2 _ rfl; refine dm (cs := #[.int .i64 0, .string (⟨#[]⟩ : ByteArray), .int .i64 0, .int .i64 0]) ?_ 1 _ rfl; refine dm (cs := #[.int .i64 0, .string (⟨#[]⟩ : ByteArray), .int .i64 0, .int .i64 0]) ?_ 0 _ rfl; (with_reducible repeat (first | refine mW ?_ _ | refine oG ?_)); exact BX.out) Try.underlying56 rfl (by kernel_rfl)) rfl ?_
  exact ⟨rfl, Z15, Z16, Z17⟩
 have c1' : s0_2 = false := Bool.eq_false_iff.2 c1
 rw [if_neg c1] at h
 subst c1'
 clear c1
 by_cases c2 : s0_1 ≥ (s0_0.length : Int)
 ·rw [if_pos c2] at h
  cases h
  have c2b : decide ((s0_0.length : Int) ≤ s0_1) = true := decide_eq_true c2
  go_quiet (fail)
  go_wp2
  refine bodyPost_ret (rH rfl _ _ gb 56 #[.int .i64 0, .string (⟨#[]⟩ : ByteArray), .int .i64 0, .int .i64 0] (0, 0) _ rfl (by (with_reducible repeat (first | refine mW ?_ _ | refine oG ?_)); refine dm (cs := #[.int .i64 0, .string (⟨#[]⟩ : ByteArray), .int .i64 0, .int .i64 0]) ?_ 3 _ rfl; refine dm (cs := #[.int .i64 0, .string (⟨#[]⟩ : ByteArray), .int .i64 0, .int .i64 0]) ?_ 2 _ rfl; refine dm (cs := #[.int .i64 0, .string (⟨#[]⟩ : ByteArray), .int .i64 0, .int .i64 0]) ?_ 1 _ rfl; refine dm (cs := #[.int .i64 0, .string (⟨#[]⟩ : ByteArray), .int .i64 0, .int .i64 0]) ?_ 0 _ rfl; (with_reducible repeat (first | refine mW ?_ _ | refine oG ?_)); exact BX.out) Try.underlying56 rfl (by kernel_rfl)) rfl ?_
  exact ⟨rfl, Z15, Z16, Z17⟩
 rw [if_neg c2] at h
 have c2b : decide ((s0_0.length : Int) ≤ s0_1) = false := decide_eq_false c2
 by_cases c3 : 0 ≤ s0_1
 ·rw [if_pos c3] at h
  cases h
  obtain ⟨ad, ead, hx0, hx1, hx2, hx3⟩ := rV HSz s0_1 c3 (by omega)
  cases ead
  replace hx0 := aN HB1.out hx0
  replace hx1 := aN HB1.out hx1
  replace hx2 := aN HB1.out hx2
  replace hx3 := aN HB1.out hx3
  have p3 := eq_true c3
  have q3 := eq_true (show s0_1 < (s0_0.length : Int) by omega)
  clear c2 c3
  go_quiet (fail)
  go_wp2
  go_region
  go_wp2
  refine bodyPost_ret (rH rfl _ _ gb 56 #[.int .i64 (dF s0_0 s0_1).f0, .string (dF s0_0 s0_1).f1, .int .i64 (dF s0_0 s0_1).f2, .int .i64 (dF s0_0 s0_1).f3] (0, 0) _ rfl (by (with_reducible repeat (first | refine mW ?_ _ | refine oG ?_)); refine dm (cs := #[.int .i64 (dF s0_0 s0_1).f0, .string (dF s0_0 s0_1).f1, .int .i64 (dF s0_0 s0_1).f2, .int .i64 0]) ?_ 3 _ rfl; refine dm (cs := #[.int .i64 (dF s0_0 s0_1).f0, .string (dF s0_0 s0_1).f1, .int .i64 0, .int .i64 0]) ?_ 2 _ rfl; refine dm (cs := #[.int .i64 (dF s0_0 s0_1).f0, .string (⟨#[]⟩ : ByteArray), .int .i64 0, .int .i64 0]) ?_ 1 _ rfl; refine dm (cs := #[.int .i64 0, .string (⟨#[]⟩ : ByteArray), .int .i64 0, .int .i64 0]) ?_ 0 _ rfl; (with_reducible repeat (first | refine mW ?_ _ | refine oG ?_)); exact BX.out) Try.underlying56 rfl (by kernel_rfl)) rfl ?_
  exact ⟨rfl, Z15, Z16, Z17⟩
 rw [if_neg c3] at h
 cases h
end Go.Proofs.Ytlenihbmafkegaa.Q
end
