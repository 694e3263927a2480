/- Walks over functions of the program, words for them, and what the functions come to; of each text only what this claim uses; no condition. -/
import Derived.Test.YtkbhkonenkgfoaaGreatZPX0
import Derived.Test.YtkbhkonenkgfoaaGreatZPX1
import Derived.Test.YtkbhkonenkgfoaaGreatZPX3
import Derived.Test.YtkbhkonenkgfoaaGreatZPX4
import Derived.Test.YtkbhkonenkgfoaaGreatZPX5
import Derived.Test.YtkbhkonenkgfoaaGreatZPX6
import Derived.Test.YtkbhkonenkgfoaaGreatZPX7
section
namespace Go.Proofs.YtkbhkonenkgfoaaGreat.Q
open Go.RowKit Go.Proofs.YtkbhkonenkgfoaaGreatW.PrintWords Go.Proofs.YtkbhkonenkgfoaaGreatW.PrintLast Go.Proofs.YtkbhkonenkgfoaaGreatW.PrintMore
attribute [local go_sem] dJ dH dW dV dh df dI dG
set_option linter.unusedVariables false
set_option linter.unusedSimpArgs false
/-! ### dP: function 32 -/
mutual
def dP.j0 : Nat → Int → Int → Int → Bool → Int → Int → ByteArray → Int → ByteArray → Option (Bool)
 | 0, _, _, _, _, _, _, _, _, _ => none
 | k + 1, x3, x5, x6, x19, x531000, x531001, x531002, x531003, x531004 => if x19 = true then (some false) else ((iH.f k x531002).bind fun t536 => (if (((Go.bits .and .i64 x3 1) != 0) != t536) = true then (dP.j1 k x3 x5 x6 true x531000 x531001 x531002 x531003 x531004) else (if (Go.bits .and .i64 x3 1) = 0 then (dP.j1 k x3 x5 x6 (x531002.toList != ([] : List UInt8)) x531000 x531001 x531002 x531003 x531004) else (dP.j1 k x3 x5 x6 false x531000 x531001 x531002 x531003 x531004))))
def dP.j1 : Nat → Int → Int → Int → Bool → Int → Int → ByteArray → Int → ByteArray → Option (Bool)
 | 0, _, _, _, _, _, _, _, _, _ => none
 | k + 1, x3, x5, x6, x29, x531000, x531001, x531002, x531003, x531004 => if x29 = true then (some false) else (if (Go.bits .and .i64 x3 4) = 0 then (some (x531003 == 0)) else (if x531003 ≥ x5 then (some (decide (x531003 ≤ x6))) else (some false)))
end
def dP.f (k : Nat) (a0_0 : Int) (a0_1 : Int) (a0_2 : ByteArray) (a0_3 : Int) (a0_4 : ByteArray) : Option (Bool) := (gy.f k a0_0).bind fun bt531 => ((jU.f a0_0).bind fun bt533 => (if bt531.2 = true then ((jq.f k bt531.1 a0_4).bind fun t535 => (dP.j0 k bt531.1 bt533.1 bt533.2 (!t535) a0_0 a0_1 a0_2 a0_3 a0_4)) else (dP.j0 k bt531.1 bt533.1 bt533.2 true a0_0 a0_1 a0_2 a0_3 a0_4)))
theorem dP.bP : ∀ k, (∀ y0 y1 y2 y3 y4 y5 y6 y7 y8, LeO (dP.j0 k y0 y1 y2 y3 y4 y5 y6 y7 y8) (dP.j0 (k + 1) y0 y1 y2 y3 y4 y5 y6 y7 y8)) ∧ (∀ y0 y1 y2 y3 y4 y5 y6 y7 y8, LeO (dP.j1 k y0 y1 y2 y3 y4 y5 y6 y7 y8) (dP.j1 (k + 1) y0 y1 y2 y3 y4 y5 y6 y7 y8))
 | 0 => ⟨fun _ _ _ _ _ _ _ _ _ r h => by simp [dP.j0] at h, fun _ _ _ _ _ _ _ _ _ r h => by simp [dP.j1] at h⟩
 | k + 1 => by
  obtain ⟨ih0, ih1⟩ := dP.bP k
  refine ⟨?_, ?_⟩
  ·intro y0 y1 y2 y3 y4 y5 y6 y7 y8
   unfold dP.j0
   have m0 := iH.mono
   have m1 := gy.mono
   have m2 := jq.mono
   exact yL
  intro y0 y1 y2 y3 y4 y5 y6 y7 y8
  unfold dP.j1
  have m0 := iH.mono
  have m1 := gy.mono
  have m2 := jq.mono
  exact yL
theorem dP.mono : ∀ a0 a1 a2 a3 a4 k, LeO (dP.f k a0 a1 a2 a3 a4) (dP.f (k + 1) a0 a1 a2 a3 a4) := by
 intro a0 a1 a2 a3 a4 k
 obtain ⟨ih0, ih1⟩ := dP.bP k
 unfold dP.f
 have m0 := iH.mono
 have m1 := gy.mono
 have m2 := jq.mono
 exact yL
set_option maxHeartbeats 8000000 in
set_option maxRecDepth 100000 in
theorem dP.calls (k : Nat) (a0_0 : Int) (a0_1 : Int) (a0_2 : ByteArray) (a0_3 : Int) (a0_4 : ByteArray) (r : Bool) (w : World) (h : dP.f k a0_0 a0_1 a0_2 a0_3 a0_4 = some r) :
 Calls Tryz.prog 32 #[.agg #[.int .i64 a0_0, .int .i64 a0_1, .string a0_2, .int .i64 a0_3, .string a0_4]] w fun e w' => e = .returned (.bool r) ∧ Below w.heap.size w w' := by
 have hu29 := Tryz.underlying29
 have HB := ae.mk (Below.refl w.heap.size w)
 have H := h
 clear h
 unfold dP.f at H
 revert H
 refine yB2 fun t531 t532 A2 H => ?_
 try dsimp only at H
 revert H
 refine yB2 fun t533 t534 A3 H => ?_
 try dsimp only at H
 have HC4 := ae.mk H
 clear H
 go_enter Tryz.func32, Tryz.ntmps32
 go_upto_region 3 with (first | ((with_reducible refine bH (N := 1) rfl ?_); refine gp ?hg (N := 1) ?hd (cs := #[.int .i64 a0_0, .int .i64 a0_1, .string a0_2, .int .i64 a0_3, .string a0_4]) (t := 29) ?hr ?_; (case hd => rfl); (case hg => rfl); (case hr => first | (go_simp; done) | (go_simp; rfl)); intro gb530 hg w5 hbox hb; refine yA4 (aY (bT HB) hb) (hbox) ((by rw [hg]; exact (bY (bT HB)) : w.heap.size ≤ gb530)) ((by rw [hg]; exact (bY (bT HB)) : w.heap.size ≤ gb530)) ?_; clear HB; intro HB BK530 GW530 GE530; clear hb hbox hg; have hcz6_0 : w5.cell? ⟨gb530, 0, none⟩ = some (.int .i64 a0_0) := (aj BK530.out 0).trans rfl; have hcz6_1 : w5.cell? ⟨gb530, 1, none⟩ = some (.int .i64 a0_1) := (aj BK530.out 1).trans rfl; have hcz6_2 : w5.cell? ⟨gb530, 2, none⟩ = some (.string a0_2) := (aj BK530.out 2).trans rfl; have hcz6_3 : w5.cell? ⟨gb530, 3, none⟩ = some (.int .i64 a0_3) := (aj BK530.out 3).trans rfl; have hcz6_4 : w5.cell? ⟨gb530, 4, none⟩ = some (.string a0_4) := (aj BK530.out 4).trans rfl; have hfz6_0 := ag BK530.out 0; have hfz6_1 := ag BK530.out 1; have hfz6_2 := ag BK530.out 2; have hfz6_3 := ag BK530.out 3; have hfz6_4 := ag BK530.out 4) | ((with_reducible refine gC 68 rfl ?_); refine gM 68 10 rfl Tryz.func68 (gy.calls k a0_0 t531 t532 _ A2.out) ?_; rintro _ w' ⟨rfl, ⟨nd, rfl⟩⟩; refine ⟨_, rfl, ?_⟩) | ((with_reducible refine gC 69 rfl ?_); refine gM 69 16 rfl Tryz.func69 (jU.calls a0_0 t533 t534 _ A3.out) ?_; rintro _ w' ⟨rfl, ⟨nd, rfl⟩⟩; refine ⟨_, rfl, ?_⟩))
 (try simp only [Act.put, List.setIfInBounds_toArray, List.set_cons_zero, List.set_cons_succ])
 go_cut [19] (fun v19 wc => ∃ (kq : Nat) (x19_3 : Bool), v19 = .bool x19_3 ∧ ae (dP.j0 kq t531 t533 t534 x19_3 a0_0 a0_1 a0_2 a0_3 a0_4 = some r) ∧ ae (kq ≤ k) ∧ ae (wc.heap[gb530]? = some (.cells #[.int .i64 a0_0, .int .i64 a0_1, .string a0_2, .int .i64 a0_3, .string a0_4] 29 (0, 0))) ∧ ae (Below w.heap.size w wc))
 case first =>
  have H := HC4.out
  clear HC4
  cases t532
  rotate_left
  ·replace H := yT H
   revert H
   refine yB1 fun t535 A8 H => ?_
   have H' := ae.mk H
   clear H
   have hcz9_0 : w5.cell? ⟨gb530, 0, none⟩ = some (.int .i64 a0_0) := (aj BK530.out 0).trans rfl
   have hcz9_1 : w5.cell? ⟨gb530, 1, none⟩ = some (.int .i64 a0_1) := (aj BK530.out 1).trans rfl
   have hcz9_2 : w5.cell? ⟨gb530, 2, none⟩ = some (.string a0_2) := (aj BK530.out 2).trans rfl
   have hcz9_3 : w5.cell? ⟨gb530, 3, none⟩ = some (.int .i64 a0_3) := (aj BK530.out 3).trans rfl
   have hcz9_4 : w5.cell? ⟨gb530, 4, none⟩ = some (.string a0_4) := (aj BK530.out 4).trans rfl
   have hfz9_0 := ag BK530.out 0
   have hfz9_1 := ag BK530.out 1
   have hfz9_2 := ag BK530.out 2
   have hfz9_3 := ag BK530.out 3
   have hfz9_4 := ag BK530.out 4
   go_wp2_with (first | (go_at_call 70; (with_reducible refine (jq.calls k t531 a0_4 t535 _ A8.out).mono ?_); rintro e w10 ⟨rfl, hb⟩; refine yA2 (iY (g := gb530) (o := .cells #[.int .i64 a0_0, .int .i64 a0_1, .string a0_2, .int .i64 a0_3, .string a0_4] 29 (0, 0)) (by exact BK530.out) hb) (aY (bT HB) hb) ?_; clear BK530 HB; intro BK530 HB; (try clear hb)))
   go_meet
   case rel => exact ⟨_, (!t535), fT, H', ⟨Z11⟩, ⟨by exact BK530.out⟩, ⟨bT HB⟩⟩
  replace H := yF H
  have H' := ae.mk H
  clear H
  go_wp2
  go_meet
  case rel => exact ⟨_, (true), fT, H', ⟨Z11⟩, ⟨by exact BK530.out⟩, ⟨bT HB⟩⟩
 case rest =>
  clear HC4
  try clear p2
  try clear c3
  try clear c6
  try clear c7
  try clear hcz6_0
  try clear hcz6_1
  try clear hcz6_2
  try clear hcz6_3
  try clear hcz6_4
  try clear hcz9_0
  try clear hcz9_1
  try clear hcz9_2
  try clear hcz9_3
  try clear hcz9_4
  try clear hfz6_0
  try clear hfz6_1
  try clear hfz6_2
  try clear hfz6_3
  try clear hfz6_4
  try clear hfz9_0
  try clear hfz9_1
  try clear hfz9_2
  try clear hfz9_3
  try clear hfz9_4
  obtain ⟨kq, x19_3, rfl, HA, HJ3, BK530, HB⟩ := hcut
  cases kq with
  | zero => exact absurd HA.out (by simp [dP.j0])
  | succ kj3 =>
   have H := HA.out
   clear HA
   simp only [dP.j0] at H
   cases x19_3
   rotate_left
   ·replace H := yT H
    obtain rfl := Option.some.inj H
    go_wp2
    go_ret
    exact ⟨eT, bT HB⟩
   replace H := yF H
   have HC12 := ae.mk H
   clear H
   go_upto_region 5 with (fail)
   go_cut [29] (fun v29 wc => ∃ (kq : Nat) (x29_11 : Bool), v29 = .bool x29_11 ∧ ae (dP.j1 kq t531 t533 t534 x29_11 a0_0 a0_1 a0_2 a0_3 a0_4 = some r) ∧ ae (kq ≤ kj3) ∧ ae (wc.heap[gb530]? = some (.cells #[.int .i64 a0_0, .int .i64 a0_1, .string a0_2, .int .i64 a0_3, .string a0_4] 29 (0, 0))) ∧ ae (Below w.heap.size w wc))
   case first =>
    have H := HC12.out
    clear HC12
    revert H
    refine yB1 fun t536 A13 H => ?_
    revert H
    refine iC (fun c14 H => ?_) fun c14 H => ?_
    ·have c14b0 : (((Go.bits .and .i64 t531 1) != 0) != t536) = true := c14
     (try (have c14b1 : decide (((Go.bits .and .i64 t531 1) != 0) = t536) = false := by simpa using c14))
     (try (have c14b2 : (((Go.bits .and .i64 t531 1) != 0) == t536) = false := by simpa using c14))
     (try (have c14b3 : ¬ (((Go.bits .and .i64 t531 1) != 0) = t536) := by simpa using c14))
     clear c14
     (first | rw [c14b0] | (simp only [gX, iP]; rw [c14b0]) | skip)
     have H' := ae.mk H
     clear H
     have hcz15_0 : wc.cell? ⟨gb530, 0, none⟩ = some (.int .i64 a0_0) := (aj BK530.out 0).trans rfl
     have hcz15_1 : wc.cell? ⟨gb530, 1, none⟩ = some (.int .i64 a0_1) := (aj BK530.out 1).trans rfl
     have hcz15_2 : wc.cell? ⟨gb530, 2, none⟩ = some (.string a0_2) := (aj BK530.out 2).trans rfl
     have hcz15_3 : wc.cell? ⟨gb530, 3, none⟩ = some (.int .i64 a0_3) := (aj BK530.out 3).trans rfl
     have hcz15_4 : wc.cell? ⟨gb530, 4, none⟩ = some (.string a0_4) := (aj BK530.out 4).trans rfl
     have hfz15_0 := ag BK530.out 0
     have hfz15_1 := ag BK530.out 1
     have hfz15_2 := ag BK530.out 2
     have hfz15_3 := ag BK530.out 3
     have hfz15_4 := ag BK530.out 4
     go_wp2_with (first | ((with_reducible refine gC 50 rfl ?_); refine gM 50 35 rfl Tryz.func50 (iH.calls kj3 a0_2 t536 _ A13.out) ?_; rintro _ w16 ⟨rfl, hb⟩; refine ⟨_, rfl, yA2 (iY (g := gb530) (o := .cells #[.int .i64 a0_0, .int .i64 a0_1, .string a0_2, .int .i64 a0_3, .string a0_4] 29 (0, 0)) (by exact BK530.out) hb) (aY (bT HB) hb) ?_⟩; clear BK530 HB hb; intro BK530 HB))
     go_meet
     case rel => exact ⟨_, (true), fT, H', ⟨by have := HJ3.out; first | omega | exact Nat.le_refl _⟩, ⟨by exact BK530.out⟩, ⟨bT HB⟩⟩
    have c14b0 : (((Go.bits .and .i64 t531 1) != 0) != t536) = false := by simpa using c14
    (try (have c14b1 : decide (((Go.bits .and .i64 t531 1) != 0) = t536) = true := by simpa using c14))
    (try (have c14b2 : (((Go.bits .and .i64 t531 1) != 0) == t536) = true := by simpa using c14))
    clear c14
    (first | rw [c14b0] | (simp only [gX, iP]; rw [c14b0]) | skip)
    revert H
    refine yA (fun c17 c17b0 c17b1 H => ?_) fun c17 c17b0 c17b1 H => ?_
    ·have ct_ : t536 = false := by have q_ := c14b0; rw [c17b1] at q_; simpa using q_
     clear c17
     have H' := ae.mk H
     clear H
     have hcz18_0 : wc.cell? ⟨gb530, 0, none⟩ = some (.int .i64 a0_0) := (aj BK530.out 0).trans rfl
     have hcz18_1 : wc.cell? ⟨gb530, 1, none⟩ = some (.int .i64 a0_1) := (aj BK530.out 1).trans rfl
     have hcz18_2 : wc.cell? ⟨gb530, 2, none⟩ = some (.string a0_2) := (aj BK530.out 2).trans rfl
     have hcz18_3 : wc.cell? ⟨gb530, 3, none⟩ = some (.int .i64 a0_3) := (aj BK530.out 3).trans rfl
     have hcz18_4 : wc.cell? ⟨gb530, 4, none⟩ = some (.string a0_4) := (aj BK530.out 4).trans rfl
     have hfz18_0 := ag BK530.out 0
     have hfz18_1 := ag BK530.out 1
     have hfz18_2 := ag BK530.out 2
     have hfz18_3 := ag BK530.out 3
     have hfz18_4 := ag BK530.out 4
     have hem : (a0_2.toList != ([] : List UInt8)) = (!a0_2.toList.isEmpty) := by cases a0_2.toList <;> rfl
     cases hempt : a0_2.toList.isEmpty
     ·simp only [hem, hempt, Bool.not_false, Bool.not_true] at H'
      have hemq : (a0_2.toList == ([] : List UInt8)) = false := by rw [← hempt]; cases a0_2.toList <;> rfl
      clear hem
      go_wp2_with (first | ((with_reducible refine gC 50 rfl ?_); refine gM 50 35 rfl Tryz.func50 (iH.calls kj3 a0_2 t536 _ A13.out) ?_; rintro _ w19 ⟨rfl, hb⟩; refine ⟨_, rfl, yA2 (iY (g := gb530) (o := .cells #[.int .i64 a0_0, .int .i64 a0_1, .string a0_2, .int .i64 a0_3, .string a0_4] 29 (0, 0)) (by exact BK530.out) hb) (aY (bT HB) hb) ?_⟩; clear BK530 HB hb; intro BK530 HB; have hcz20_0 : w19.cell? ⟨gb530, 0, none⟩ = some (.int .i64 a0_0) := (aj BK530.out 0).trans rfl; have hcz20_1 : w19.cell? ⟨gb530, 1, none⟩ = some (.int .i64 a0_1) := (aj BK530.out 1).trans rfl; have hcz20_2 : w19.cell? ⟨gb530, 2, none⟩ = some (.string a0_2) := (aj BK530.out 2).trans rfl; have hcz20_3 : w19.cell? ⟨gb530, 3, none⟩ = some (.int .i64 a0_3) := (aj BK530.out 3).trans rfl; have hcz20_4 : w19.cell? ⟨gb530, 4, none⟩ = some (.string a0_4) := (aj BK530.out 4).trans rfl; have hfz20_0 := ag BK530.out 0; have hfz20_1 := ag BK530.out 1; have hfz20_2 := ag BK530.out 2; have hfz20_3 := ag BK530.out 3; have hfz20_4 := ag BK530.out 4))
      go_meet
      case rel => exact ⟨_, (true), fT, H', ⟨by have := HJ3.out; first | omega | exact Nat.le_refl _⟩, ⟨by exact BK530.out⟩, ⟨bT HB⟩⟩
     simp only [hem, hempt, Bool.not_false, Bool.not_true] at H'
     have hemq : (a0_2.toList == ([] : List UInt8)) = true := by rw [← hempt]; cases a0_2.toList <;> rfl
     clear hem
     go_wp2_with (first | ((with_reducible refine gC 50 rfl ?_); refine gM 50 35 rfl Tryz.func50 (iH.calls kj3 a0_2 t536 _ A13.out) ?_; rintro _ w19 ⟨rfl, hb⟩; refine ⟨_, rfl, yA2 (iY (g := gb530) (o := .cells #[.int .i64 a0_0, .int .i64 a0_1, .string a0_2, .int .i64 a0_3, .string a0_4] 29 (0, 0)) (by exact BK530.out) hb) (aY (bT HB) hb) ?_⟩; clear BK530 HB hb; intro BK530 HB; have hcz20_0 : w19.cell? ⟨gb530, 0, none⟩ = some (.int .i64 a0_0) := (aj BK530.out 0).trans rfl; have hcz20_1 : w19.cell? ⟨gb530, 1, none⟩ = some (.int .i64 a0_1) := (aj BK530.out 1).trans rfl; have hcz20_2 : w19.cell? ⟨gb530, 2, none⟩ = some (.string a0_2) := (aj BK530.out 2).trans rfl; have hcz20_3 : w19.cell? ⟨gb530, 3, none⟩ = some (.int .i64 a0_3) := (aj BK530.out 3).trans rfl; have hcz20_4 : w19.cell? ⟨gb530, 4, none⟩ = some (.string a0_4) := (aj BK530.out 4).trans rfl; have hfz20_0 := ag BK530.out 0; have hfz20_1 := ag BK530.out 1; have hfz20_2 := ag BK530.out 2; have hfz20_3 := ag BK530.out 3; have hfz20_4 := ag BK530.out 4))
     go_meet
     case rel => exact ⟨_, (false), fT, H', ⟨by have := HJ3.out; first | omega | exact Nat.le_refl _⟩, ⟨by exact BK530.out⟩, ⟨bT HB⟩⟩
    have ct_ : t536 = true := by have q_ := c14b0; rw [c17b1] at q_; simpa using q_
    have H' := ae.mk H
    clear H
    have hcz21_0 : wc.cell? ⟨gb530, 0, none⟩ = some (.int .i64 a0_0) := (aj BK530.out 0).trans rfl
    have hcz21_1 : wc.cell? ⟨gb530, 1, none⟩ = some (.int .i64 a0_1) := (aj BK530.out 1).trans rfl
    have hcz21_2 : wc.cell? ⟨gb530, 2, none⟩ = some (.string a0_2) := (aj BK530.out 2).trans rfl
    have hcz21_3 : wc.cell? ⟨gb530, 3, none⟩ = some (.int .i64 a0_3) := (aj BK530.out 3).trans rfl
    have hcz21_4 : wc.cell? ⟨gb530, 4, none⟩ = some (.string a0_4) := (aj BK530.out 4).trans rfl
    have hfz21_0 := ag BK530.out 0
    have hfz21_1 := ag BK530.out 1
    have hfz21_2 := ag BK530.out 2
    have hfz21_3 := ag BK530.out 3
    have hfz21_4 := ag BK530.out 4
    go_wp2_with (first | ((with_reducible refine gC 50 rfl ?_); refine gM 50 35 rfl Tryz.func50 (iH.calls kj3 a0_2 t536 _ A13.out) ?_; rintro _ w22 ⟨rfl, hb⟩; refine ⟨_, rfl, yA2 (iY (g := gb530) (o := .cells #[.int .i64 a0_0, .int .i64 a0_1, .string a0_2, .int .i64 a0_3, .string a0_4] 29 (0, 0)) (by exact BK530.out) hb) (aY (bT HB) hb) ?_⟩; clear BK530 HB hb; intro BK530 HB))
    go_meet
    case rel => exact ⟨_, (false), fT, H', ⟨by have := HJ3.out; first | omega | exact Nat.le_refl _⟩, ⟨by exact BK530.out⟩, ⟨bT HB⟩⟩
   case rest =>
    clear HC12
    try clear c1
    try clear p2
    try clear c3
    try clear c5
    try clear c6
    try clear c7
    try clear c11
    try clear c14
    try clear c14b0
    try clear c14b1
    try clear c14b2
    try clear c17
    try clear c17b0
    try clear c17b1
    try clear hcz15_0
    try clear hcz15_1
    try clear hcz15_2
    try clear hcz15_3
    try clear hcz15_4
    try clear hcz18_0
    try clear hcz18_1
    try clear hcz18_2
    try clear hcz18_3
    try clear hcz18_4
    try clear hcz20_0
    try clear hcz20_1
    try clear hcz20_2
    try clear hcz20_3
    try clear hcz20_4
    try clear hcz21_0
    try clear hcz21_1
    try clear hcz21_2
    try clear hcz21_3
    try clear hcz21_4
    try clear hcz6_0
    try clear hcz6_1
    try clear hcz6_2
    try clear hcz6_3
    try clear hcz6_4
    try clear hcz9_0
    try clear hcz9_1
    try clear hcz9_2
    try clear hcz9_3
    try clear hcz9_4
    try clear hfz15_0
    try clear hfz15_1
    try clear hfz15_2
    try clear hfz15_3
    try clear hfz15_4
    try clear hfz18_0
    try clear hfz18_1
    try clear hfz18_2
    try clear hfz18_3
    try clear hfz18_4
    try clear hfz20_0
    try clear hfz20_1
    try clear hfz20_2
    try clear hfz20_3
    try clear hfz20_4
    try clear hfz21_0
    try clear hfz21_1
    try clear hfz21_2
    try clear hfz21_3
    try clear hfz21_4
    try clear hfz6_0
    try clear hfz6_1
    try clear hfz6_2
    try clear hfz6_3
    try clear hfz6_4
    try clear hfz9_0
    try clear hfz9_1
    try clear hfz9_2
    try clear hfz9_3
    try clear hfz9_4
    try clear p2
    obtain ⟨kq, x29_11, rfl, HA, HJ11, BK530, HB⟩ := hcut
    cases kq with
    | zero => exact absurd HA.out (by simp [dP.j1])
    | succ kj11 =>
     have H := HA.out
     clear HA
     simp only [dP.j1] at H
     cases x29_11
     rotate_left
     ·replace H := yT H
      obtain rfl := Option.some.inj H
      go_wp2
      go_ret
      exact ⟨eT, bT HB⟩
     replace H := yF H
     revert H
     refine cZ (fun c24b0 c24b1 H => ?_) fun c24 c24b0 c24b1 H => ?_
     ·obtain rfl := Option.some.inj H
      have hcz25_0 : wc.cell? ⟨gb530, 0, none⟩ = some (.int .i64 a0_0) := (aj BK530.out 0).trans rfl
      have hcz25_1 : wc.cell? ⟨gb530, 1, none⟩ = some (.int .i64 a0_1) := (aj BK530.out 1).trans rfl
      have hcz25_2 : wc.cell? ⟨gb530, 2, none⟩ = some (.string a0_2) := (aj BK530.out 2).trans rfl
      have hcz25_3 : wc.cell? ⟨gb530, 3, none⟩ = some (.int .i64 a0_3) := (aj BK530.out 3).trans rfl
      have hcz25_4 : wc.cell? ⟨gb530, 4, none⟩ = some (.string a0_4) := (aj BK530.out 4).trans rfl
      have hfz25_0 := ag BK530.out 0
      have hfz25_1 := ag BK530.out 1
      have hfz25_2 := ag BK530.out 2
      have hfz25_3 := ag BK530.out 3
      have hfz25_4 := ag BK530.out 4
      go_wp2
      go_ret
      exact ⟨eT, bT HB⟩
     revert H
     refine iC (fun c26 H => ?_) fun c26 H => ?_
     ·have c26b0 : decide (t533 ≤ a0_3) = true := decide_eq_true c26
      clear c26
      obtain rfl := Option.some.inj H
      have hcz27_0 : wc.cell? ⟨gb530, 0, none⟩ = some (.int .i64 a0_0) := (aj BK530.out 0).trans rfl
      have hcz27_1 : wc.cell? ⟨gb530, 1, none⟩ = some (.int .i64 a0_1) := (aj BK530.out 1).trans rfl
      have hcz27_2 : wc.cell? ⟨gb530, 2, none⟩ = some (.string a0_2) := (aj BK530.out 2).trans rfl
      have hcz27_3 : wc.cell? ⟨gb530, 3, none⟩ = some (.int .i64 a0_3) := (aj BK530.out 3).trans rfl
      have hcz27_4 : wc.cell? ⟨gb530, 4, none⟩ = some (.string a0_4) := (aj BK530.out 4).trans rfl
      have hfz27_0 := ag BK530.out 0
      have hfz27_1 := ag BK530.out 1
      have hfz27_2 := ag BK530.out 2
      have hfz27_3 := ag BK530.out 3
      have hfz27_4 := ag BK530.out 4
      go_wp2
      go_ret
      exact ⟨eT, bT HB⟩
     have c26b0 : decide (t533 ≤ a0_3) = false := decide_eq_false c26
     clear c26
     obtain rfl := Option.some.inj H
     have hcz28_0 : wc.cell? ⟨gb530, 0, none⟩ = some (.int .i64 a0_0) := (aj BK530.out 0).trans rfl
     have hcz28_1 : wc.cell? ⟨gb530, 1, none⟩ = some (.int .i64 a0_1) := (aj BK530.out 1).trans rfl
     have hcz28_2 : wc.cell? ⟨gb530, 2, none⟩ = some (.string a0_2) := (aj BK530.out 2).trans rfl
     have hcz28_3 : wc.cell? ⟨gb530, 3, none⟩ = some (.int .i64 a0_3) := (aj BK530.out 3).trans rfl
     have hcz28_4 : wc.cell? ⟨gb530, 4, none⟩ = some (.string a0_4) := (aj BK530.out 4).trans rfl
     have hfz28_0 := ag BK530.out 0
     have hfz28_1 := ag BK530.out 1
     have hfz28_2 := ag BK530.out 2
     have hfz28_3 := ag BK530.out 3
     have hfz28_4 := ag BK530.out 4
     go_wp2
     go_ret
     exact ⟨eT, bT HB⟩
end Go.Proofs.YtkbhkonenkgfoaaGreat.Q
end
section
namespace Go.Proofs.YtkbhkonenkgfoaaGreat.Q
open Go.RowKit Go.Proofs.YtkbhkonenkgfoaaGreatW.PrintWords Go.Proofs.YtkbhkonenkgfoaaGreatW.PrintLast Go.Proofs.YtkbhkonenkgfoaaGreatW.PrintMore
attribute [local go_sem] dJ dH dW dV dh df dI dG
set_option linter.unusedVariables false
set_option linter.unusedSimpArgs false
/-! ### dE: function 16 -/
mutual
def dE.j0 : Nat → List (S29) → Bool → Option (Int × Int)
 | 0, _, _ => none
 | k + 1, x0, x13 => if x13 = true then (some (2, 0)) else ((dM.f k x0).bind fun t564 => (if t564 > 60 then (some (3, 0)) else (if 0 < (x0.length : Int) then (if ((ax x0 0).f0) = 1 then (dE.l0 k x0 x0 (x0.length : Int) 0) else (some (4, 0))) else (none))))
def dE.l0 : Nat → List (S29) → List (S29) → Int → Int → Option (Int × Int)
 | 0, _, _, _, _ => none
 | k + 1, x0, x34, x35, x36 => if x36 < x35 then (if 0 ≤ x36 then (if x36 < (x34.length : Int) then ((fE.f k x0 x36).bind fun t568 => (dE.l1 k x0 x36 ([] : List Int) x34 x35 x36 t568 (t568.length : Int) 0 ((ax x34 x36).f0) ((ax x34 x36).f1) ((ax x34 x36).f2) ((ax x34 x36).f3) ((ax x34 x36).f4))) else (none)) else (none)) else (some (0, 0))
def dE.l1 : Nat → List (S29) → Int → List Int → List (S29) → Int → Int → List Int → Int → Int → Int → Int → ByteArray → Int → ByteArray → Option (Int × Int)
 | 0, _, _, _, _, _, _, _, _, _, _, _, _, _, _ => none
 | k + 1, x0, x4, x6, x34, x35, x36, x43, x44, x45, x568000, x568001, x568002, x568003, x568004 => if x45 < x44 then (if 0 ≤ x45 then (if x45 < (x43.length : Int) then (if 0 ≤ (rd x43 x45) then (if (rd x43 x45) < (x0.length : Int) then (if x6.length < 17592186044416 then (dE.l1 k x0 x4 (x6 ++ [(ax x0 (rd x43 x45)).f0]) x34 x35 x36 x43 x44 (wrap64 (x45 + 1)) x568000 x568001 x568002 x568003 x568004) else (none)) else (none)) else (none)) else (none)) else (none)) else ((dP.f k x568000 x568001 x568002 x568003 x568004).bind fun t576 => (if t576 = true then ((dw.f k x568000 x6).bind fun t577 => (if t577 = true then (dE.l0 k x0 x34 x35 (wrap64 (x36 + 1))) else (some (4, x4)))) else (some (4, x4))))
end
def dE.f (k : Nat) (l0 : List (S29)) : Option (Int × Int) := if (l0.length : Int) > 2000 then (some (3, 0)) else (if (l0.length : Int) = 0 then (dE.j0 k l0 true) else ((dX.f k l0 0).bind fun t563 => (dE.j0 k l0 (t563 != (l0.length : Int)))))
theorem dE.bP : ∀ k, (∀ y0 y1, LeO (dE.j0 k y0 y1) (dE.j0 (k + 1) y0 y1)) ∧ (∀ y0 y1 y2 y3, LeO (dE.l0 k y0 y1 y2 y3) (dE.l0 (k + 1) y0 y1 y2 y3)) ∧ (∀ y0 y1 y2 y3 y4 y5 y6 y7 y8 y9 y10 y11 y12 y13, LeO (dE.l1 k y0 y1 y2 y3 y4 y5 y6 y7 y8 y9 y10 y11 y12 y13) (dE.l1 (k + 1) y0 y1 y2 y3 y4 y5 y6 y7 y8 y9 y10 y11 y12 y13))
 | 0 => ⟨fun _ _ r h => by simp [dE.j0] at h, fun _ _ _ _ r h => by simp [dE.l0] at h, fun _ _ _ _ _ _ _ _ _ _ _ _ _ _ r h => by simp [dE.l1] at h⟩
 | k + 1 => by
  obtain ⟨ih0, ih1, ih2⟩ := dE.bP k
  refine ⟨?_, ?_, ?_⟩
  ·intro y0 y1
   unfold dE.j0
   have m0 := dM.mono
   have m1 := dX.mono
   have m2 := fE.mono
   have m3 := dP.mono
   have m4 := dw.mono
   exact yL
  ·intro y0 y1 y2 y3
   unfold dE.l0
   have m0 := dM.mono
   have m1 := dX.mono
   have m2 := fE.mono
   have m3 := dP.mono
   have m4 := dw.mono
   exact yL
  intro y0 y1 y2 y3 y4 y5 y6 y7 y8 y9 y10 y11 y12 y13
  unfold dE.l1
  have m0 := dM.mono
  have m1 := dX.mono
  have m2 := fE.mono
  have m3 := dP.mono
  have m4 := dw.mono
  exact yL
theorem dE.mono : ∀ a0 k, LeO (dE.f k a0) (dE.f (k + 1) a0) := by
 intro a0 k
 obtain ⟨ih0, ih1, ih2⟩ := dE.bP k
 unfold dE.f
 have m0 := dM.mono
 have m1 := dX.mono
 have m2 := fE.mono
 have m3 := dP.mono
 have m4 := dw.mono
 exact yL
set_option maxHeartbeats 8000000 in
set_option maxRecDepth 100000 in
theorem dE.calls (k : Nat) (A0 : Option Addr) (c0 : Nat) (l0 : List (S29)) (r1 : Int) (r2 : Int) (w : World) (hr0 : Kd.C k29 w A0 l0.length l0) (hc0 : l0.length ≤ c0) (h : dE.f k l0 = some (r1, r2)) :
 Calls Tryz.prog 16 #[.slice A0 l0.length c0] w fun e w' => e = .returned (.tuple #[.int .i64 r1, .int .i64 r2]) ∧ Below w.heap.size w w' := by
 have hu29 := Tryz.underlying29
 have HR0 := ae.mk hr0
 have HC0 := ae.mk hc0
 clear hr0 hc0
 have HB := ae.mk (Below.refl w.heap.size w)
 have H := h
 clear h
 unfold dE.f at H
 revert H
 refine iC (fun c2 H => ?_) fun c2 H => ?_
 ·have c2b0 : decide (2000 < (l0.length : Int)) = true := decide_eq_true c2
  have c2b1 : decide (2000 < l0.length) = true := decide_eq_true (by omega)
  clear c2
  simp only [Option.some.injEq, Prod.mk.injEq] at H
  obtain ⟨rfl, rfl⟩ := H
  go_enter Tryz.func16, Tryz.ntmps16
  go_wp2
  go_ret2
  exact ⟨eT, bT HB⟩
 have c2b0 : decide (2000 < (l0.length : Int)) = false := decide_eq_false c2
 have c2b1 : decide (2000 < l0.length) = false := decide_eq_false (by omega)
 clear c2
 have HC3 := ae.mk H
 clear H
 go_enter Tryz.func16, Tryz.ntmps16
 go_upto_region 3 with (fail)
 go_cut [13] (fun v13 wc => ∃ (kq : Nat) (x13_2 : Bool), v13 = .bool x13_2 ∧ ae (dE.j0 kq l0 x13_2 = some (r1, r2)) ∧ ae (kq ≤ k) ∧ ae (Below w.heap.size w wc))
 case first =>
  have H := HC3.out
  clear HC3
  revert H
  refine cZ (fun c4b0 c4b1 H => ?_) fun c4 c4b0 c4b1 H => ?_
  ·(first | rw [c4b0] | (simp only [gX, iP]; rw [c4b0]) | skip)
   have H' := ae.mk H
   clear H
   go_wp2
   go_meet
   case rel => exact ⟨_, (true), fT, H', ⟨Z11⟩, ⟨bT HB⟩⟩
  have c4b2 : ¬ (l0 = []) := fun h_ => c4 (by rw [h_]; rfl)
  (first | rw [c4b0] | (simp only [gX, iP]; rw [c4b0]) | skip)
  revert H
  refine yB1 fun t563 A5 H => ?_
  have H' := ae.mk H
  clear H
  go_wp2_with (first | (go_at_call 29; (with_reducible refine (dX.calls k _ _ l0 0 t563 _ ?side1 ?side2 A5.out).mono ?_); (case side1 => exact Z6); (case side2 => exact HC0.out); rintro e w' ⟨rfl, ⟨nd, rfl⟩⟩))
  go_meet
  case rel => exact ⟨_, ((t563 != (l0.length : Int))), fT, H', ⟨Z11⟩, ⟨bT HB⟩⟩
 case rest =>
  clear HC3
  try clear c1
  try clear c2
  try clear c2b0
  try clear c2b1
  try clear p2
  try clear c4
  try clear c4b0
  try clear c4b1
  try clear c4b2
  obtain ⟨kq, x13_2, rfl, HA, HJ2, HB⟩ := hcut
  cases kq with
  | zero => exact absurd HA.out (by simp [dE.j0])
  | succ kj2 =>
   have H := HA.out
   clear HA
   simp only [dE.j0] at H
   cases x13_2
   rotate_left
   ·replace H := yT H
    simp only [Option.some.injEq, Prod.mk.injEq] at H
    obtain ⟨rfl, rfl⟩ := H
    go_wp2
    go_ret2
    exact ⟨eT, bT HB⟩
   replace H := yF H
   revert H
   refine yB1 fun t564 A7 H => ?_
   revert H
   refine iC (fun c8 H => ?_) fun c8 H => ?_
   ·have c8b0 : decide (60 < t564) = true := decide_eq_true c8
    clear c8
    simp only [Option.some.injEq, Prod.mk.injEq] at H
    obtain ⟨rfl, rfl⟩ := H
    go_wp2_with (first | ((with_reducible refine gC 30 rfl ?_); refine gM 30 26 rfl Tryz.func30 (dM.calls kj2 _ _ l0 t564 _ Z6 HC0.out A7.out) ?_; rintro _ w9 ⟨rfl, hb⟩; refine ⟨_, rfl, yA1 (aY (bT HB) hb) ?_⟩; clear HB hb; intro HB))
    go_ret2
    exact ⟨eT, bT HB⟩
   have c8b0 : decide (60 < t564) = false := decide_eq_false c8
   clear c8
   revert H
   refine pX (fun c10 c10b0 H => ?_) fun c10 H => ?_
   ·have c10b1 : decide (0 < l0.length) = true := decide_eq_true (by omega)
    clear c10
    revert H
    refine cZ (fun c11b0 c11b1 H => ?_) fun c11 c11b0 c11b1 H => ?_
    ·have H' := ae.mk H
     clear H
     go_wp2_with (first | ((with_reducible refine gC 30 rfl ?_); refine gM 30 26 rfl Tryz.func30 (dM.calls kj2 _ _ l0 t564 _ Z6 HC0.out A7.out) ?_; rintro _ w12 ⟨rfl, hb⟩; refine ⟨_, rfl, yA1 (aY (bT HB) hb) ?_⟩; clear HB hb; intro HB; have p565 : 0 ≤ (0 : Int) := (by omega); have q565 : 0 < (l0.length : Int) := of_decide_eq_true aT; obtain ⟨ad565, e565, hx565_0, hx565_1, hx565_2, hx565_3, hx565_4⟩ := ja HR0.out 0 p565 q565; cases e565; have qi565 : (0 < l0.length) = True := eq_true (by omega); (try rw [show ((0 : Int)).toNat = 0 from rfl] at hx565_0); (try rw [show 0 * 5 = 0 from rfl] at hx565_0); (try rw [Addr.add_zero'] at hx565_0); (try rw [show ((0 : Int)).toNat = 0 from rfl] at hx565_1); (try rw [show 0 * 5 = 0 from rfl] at hx565_1); (try rw [Addr.add_zero'] at hx565_1); (try rw [show ((0 : Int)).toNat = 0 from rfl] at hx565_2); (try rw [show 0 * 5 = 0 from rfl] at hx565_2); (try rw [Addr.add_zero'] at hx565_2); (try rw [show ((0 : Int)).toNat = 0 from rfl] at hx565_3); (try rw [show 0 * 5 = 0 from rfl] at hx565_3); (try rw [Addr.add_zero'] at hx565_3); (try rw [show ((0 : Int)).toNat = 0 from rfl] at hx565_4); (try rw [show 0 * 5 = 0 from rfl] at hx565_4); (try rw [Addr.add_zero'] at hx565_4); replace hx565_0 := (HB.out.cell (World.block_lt_of_cell? w _ hx565_0)).trans hx565_0; replace hx565_1 := (HB.out.cell (World.block_lt_of_cell? w _ hx565_1)).trans hx565_1; replace hx565_2 := (HB.out.cell (World.block_lt_of_cell? w _ hx565_2)).trans hx565_2; replace hx565_3 := (HB.out.cell (World.block_lt_of_cell? w _ hx565_3)).trans hx565_3; replace hx565_4 := (HB.out.cell (World.block_lt_of_cell? w _ hx565_4)).trans hx565_4; replace p565 := eq_true p565; replace q565 := eq_true q565))
     go_loopg [36] kj2 (fun kq v36 w' => ∃ (x36_2 : Int), v36 = .int .i64 x36_2 ∧ ae (dE.l0 kq l0 l0 (l0.length : Int) x36_2 = some (r1, r2)) ∧ ae (kq ≤ kj2) ∧ ae (Below w.heap.size w w'))
     case atStart => exact ⟨(0), fT, H', ⟨Nat.le_refl _⟩, ⟨bT HB⟩⟩
     case round =>
      clear H'
      try clear c1
      try clear c2
      try clear c2b0
      try clear c2b1
      try clear p2
      try clear c3
      try clear c4
      try clear c4b0
      try clear c4b1
      try clear c4b2
      try clear p5
      try clear q5
      try clear hx5
      try clear qi5
      try clear c6
      try clear c8
      try clear c8b0
      try clear c10
      try clear c10b0
      try clear c10b1
      try clear c11
      try clear c11b0
      try clear c11b1
      try clear hx565_0
      try clear hx565_1
      try clear hx565_2
      try clear hx565_3
      try clear hx565_4
      try clear p2
      try clear p565
      try clear q565
      obtain ⟨x36_2, rfl, HA, HK2, HB⟩ := hrel
      cases gk with
      | zero => exact absurd HA.out (by simp [dE.l0])
      | succ k2 =>
       have H := HA.out
       clear HA
       simp only [dE.l0] at H
       revert H
       refine iQ (fun c13b0 H => ?_) fun c13b0 H => ?_
       ·revert H
        refine gJ (fun c14b0 H => ?_) fun c14 H => ?_
        ·revert H
         refine gJ (fun c15b0 H => ?_) fun c15 H => ?_
         ·revert H
          refine yB1 fun t568 A16 H => ?_
          have H' := ae.mk H
          clear H
          have p566 : 0 ≤ (x36_2 : Int) := of_decide_eq_true aT
          have q566 : x36_2 < (l0.length : Int) := of_decide_eq_true aT
          obtain ⟨ad566, e566, hx566_0, hx566_1, hx566_2, hx566_3, hx566_4⟩ := ja HR0.out x36_2 p566 q566
          obtain rfl : ad565 = ad566 := (by injection e566)
          replace hx566_0 := (HB.out.cell (World.block_lt_of_cell? w _ hx566_0)).trans hx566_0
          replace hx566_1 := (HB.out.cell (World.block_lt_of_cell? w _ hx566_1)).trans hx566_1
          replace hx566_2 := (HB.out.cell (World.block_lt_of_cell? w _ hx566_2)).trans hx566_2
          replace hx566_3 := (HB.out.cell (World.block_lt_of_cell? w _ hx566_3)).trans hx566_3
          replace hx566_4 := (HB.out.cell (World.block_lt_of_cell? w _ hx566_4)).trans hx566_4
          replace p566 := eq_true p566
          replace q566 := eq_true q566
          go_wp2_with (first | ((with_reducible refine bH (N := 5) rfl ?_); (try (refine lT (by rfl) ?_; dsimp only)); refine gp ?hg (N := 5) ?hd (cs := #[.int .i64 0, .int .i64 0, .string (⟨#[]⟩ : ByteArray), .int .i64 0, .string (⟨#[]⟩ : ByteArray)]) (t := 29) ?hr ?_; (case hd => rfl); (case hg => rfl); (case hr => first | (go_simp; done) | (go_simp; rfl)); intro gb567 hg w17 hbox hb; refine yA4 (aY (bT HB) hb) (hbox) ((by rw [hg]; exact (bY (bT HB)) : w.heap.size ≤ gb567)) ((by rw [hg]; exact (bY (bT HB)) : w.heap.size ≤ gb567)) ?_; clear HB; intro HB BK567 GW567 GE567; clear hb hbox hg; have hcz18_0 : w17.cell? ⟨gb567, 0, none⟩ = some (.int .i64 0) := (aj BK567.out 0).trans rfl; have hcz18_1 : w17.cell? ⟨gb567, 1, none⟩ = some (.int .i64 0) := (aj BK567.out 1).trans rfl; have hcz18_2 : w17.cell? ⟨gb567, 2, none⟩ = some (.string (⟨#[]⟩ : ByteArray)) := (aj BK567.out 2).trans rfl; have hcz18_3 : w17.cell? ⟨gb567, 3, none⟩ = some (.int .i64 0) := (aj BK567.out 3).trans rfl; have hcz18_4 : w17.cell? ⟨gb567, 4, none⟩ = some (.string (⟨#[]⟩ : ByteArray)) := (aj BK567.out 4).trans rfl; have hfz18_0 := ag BK567.out 0; have hfz18_1 := ag BK567.out 1; have hfz18_2 := ag BK567.out 2; have hfz18_3 := ag BK567.out 3; have hfz18_4 := ag BK567.out 4) | ((with_reducible refine gC 31 rfl ?_); refine gM 31 43 rfl Tryz.func31 (fE.calls k2 _ _ l0 x36_2 t568 _ (Kd.lh HR0.out (bT HB)) HC0.out A16.out) ?_; rintro _ w19 ⟨v569, rfl, ho0, hb⟩; refine ⟨_, rfl, yA3 (Kd.ig ho0 (bY (bT HB))) (iY (g := gb567) (o := .cells #[.int .i64 ((ax l0 x36_2).f0), .int .i64 ((ax l0 x36_2).f1), .string ((ax l0 x36_2).f2), .int .i64 ((ax l0 x36_2).f3), .string ((ax l0 x36_2).f4)] 29 (0, 0)) (by refine eQ (cs := #[.int .i64 ((ax l0 x36_2).f0), .int .i64 ((ax l0 x36_2).f1), .string ((ax l0 x36_2).f2), .int .i64 ((ax l0 x36_2).f3), .string (⟨#[]⟩ : ByteArray)]) ?_ 4 _ rfl; refine eQ (cs := #[.int .i64 ((ax l0 x36_2).f0), .int .i64 ((ax l0 x36_2).f1), .string ((ax l0 x36_2).f2), .int .i64 0, .string (⟨#[]⟩ : ByteArray)]) ?_ 3 _ rfl; refine eQ (cs := #[.int .i64 ((ax l0 x36_2).f0), .int .i64 ((ax l0 x36_2).f1), .string (⟨#[]⟩ : ByteArray), .int .i64 0, .string (⟨#[]⟩ : ByteArray)]) ?_ 2 _ rfl; refine eQ (cs := #[.int .i64 ((ax l0 x36_2).f0), .int .i64 0, .string (⟨#[]⟩ : ByteArray), .int .i64 0, .string (⟨#[]⟩ : ByteArray)]) ?_ 1 _ rfl; refine eQ (cs := #[.int .i64 0, .int .i64 0, .string (⟨#[]⟩ : ByteArray), .int .i64 0, .string (⟨#[]⟩ : ByteArray)]) ?_ 0 _ rfl; exact BK567.out) hb) (aY (bT HB) hb) ?_⟩; clear BK567 HB hb ho0; intro HO570 BK567 HB; obtain ⟨Ao20, co20, rfl⟩ := Kd.eU HO570.out))
          go_loopg [6, 45] k2 (fun kq v6 v45 w' => ∃ (x6_3 : List Int) (x45_3 : Int), v45 = .int .i64 x45_3 ∧ ae (dE.l1 kq l0 x36_2 x6_3 l0 (l0.length : Int) x36_2 t568 (t568.length : Int) x45_3 ((ax l0 x36_2).f0) ((ax l0 x36_2).f1) ((ax l0 x36_2).f2) ((ax l0 x36_2).f3) ((ax l0 x36_2).f4) = some (r1, r2)) ∧ ae (kq ≤ k2) ∧ ae (Kd.R (Kd.int .i64) 3 w' w.heap.size (fun k_ => some k_ ≠ ((.slice Ao20 t568.length co20) : Value).ownBlock) v6 x6_3) ∧ ae (Kd.R (Kd.int .i64) 3 w' w.heap.size (fun k_ => some k_ ≠ (v6 : Value).ownBlock) (.slice Ao20 t568.length co20) t568) ∧ ae (w'.heap[gb567]? = some (.cells #[.int .i64 ((ax l0 x36_2).f0), .int .i64 ((ax l0 x36_2).f1), .string ((ax l0 x36_2).f2), .int .i64 ((ax l0 x36_2).f3), .string ((ax l0 x36_2).f4)] 29 (0, 0))) ∧ ae (Below w.heap.size w w'))
          case atStart => exact ⟨(([] : List Int)), (0), fT, H', ⟨Nat.le_refl _⟩, ⟨Z4⟩, ⟨by (with_reducible repeat (first | apply Kd.iw | apply Kd.ik | apply Kd.jb)); exact Kd.iO HO570.out (fun _ hk => (by simp [Value.ownBlock]))⟩, ⟨by exact BK567.out⟩, ⟨bT HB⟩⟩
          case round =>
           clear H'
           try clear c1
           try clear c2
           try clear c2b0
           try clear c2b1
           try clear p2
           try clear c3
           try clear c4
           try clear c4b0
           try clear c4b1
           try clear c4b2
           try clear p5
           try clear q5
           try clear hx5
           try clear qi5
           try clear c6
           try clear c8
           try clear c8b0
           try clear c10
           try clear c10b0
           try clear c10b1
           try clear c11
           try clear c11b0
           try clear c11b1
           try clear c13
           try clear c13b0
           try clear c14
           try clear c14b0
           try clear c15
           try clear c15b0
           try clear c16
           try clear hcz18_0
           try clear hcz18_1
           try clear hcz18_2
           try clear hcz18_3
           try clear hcz18_4
           try clear hfz18_0
           try clear hfz18_1
           try clear hfz18_2
           try clear hfz18_3
           try clear hfz18_4
           try clear hx565_0
           try clear hx565_1
           try clear hx565_2
           try clear hx565_3
           try clear hx565_4
           try clear hx566_0
           try clear hx566_1
           try clear hx566_2
           try clear hx566_3
           try clear hx566_4
           try clear p2
           try clear p5
           try clear p565
           try clear p566
           try clear q5
           try clear q565
           try clear q566
           obtain ⟨x6_3, x45_3, rfl, HA, HK3, HO_6, HO_43, BK567, HB⟩ := hrel
           cases gk with
           | zero => exact absurd HA.out (by simp [dE.l1])
           | succ k3 =>
            have H := HA.out
            clear HA
            simp only [dE.l1] at H
            revert H
            refine iQ (fun c21b0 H => ?_) fun c21b0 H => ?_
            ·revert H
             refine gJ (fun c22b0 H => ?_) fun c22 H => ?_
             ·revert H
              refine gJ (fun c23b0 H => ?_) fun c23 H => ?_
              ·revert H
               refine gJ (fun c24b0 H => ?_) fun c24 H => ?_
               ·revert H
                refine gJ (fun c25b0 H => ?_) fun c25 H => ?_
                ·revert H
                 refine iC (fun c26 H => ?_) fun c26 H => ?_
                 ·have LMc26 := ae.mk c26
                  clear c26
                  obtain ⟨y573, hy573⟩ : ∃ y_ : List Int, y_ = (x6_3 ++ [(ax l0 (rd t568 x45_3)).f0]) := ⟨_, rfl⟩
                  replace H : (dE.l1 k3 l0 x36_2 y573 l0 (l0.length : Int) x36_2 t568 (t568.length : Int) (wrap64 (x45_3 + 1)) ((ax l0 x36_2).f0) ((ax l0 x36_2).f1) ((ax l0 x36_2).f2) ((ax l0 x36_2).f3) ((ax l0 x36_2).f4)) = some (r1, r2) := by first | (rw [hy573]; with_reducible exact H) | (have H2_ := (Option.bind_some _ _).symm.trans H; rw [hy573]; with_reducible exact H2_) | (have H2_ := (Option.bind_some _ _).symm.trans H; with_reducible exact H2_) | with_reducible exact H | (rw [hy573]; exact H) | exact H
                  have Ny573 := ae.mk hy573
                  clear hy573
                  have H' := ae.mk H
                  clear H
                  have p571 : 0 ≤ (x45_3 : Int) := of_decide_eq_true aT
                  have q571 : x45_3 < (t568.length : Int) := of_decide_eq_true aT
                  obtain ⟨ad571, e571, hx571_0⟩ := Kd.jv (Kd.dL HO_43.out).2.2 x45_3 p571 q571
                  cases e571
                  replace p571 := eq_true p571
                  replace q571 := eq_true q571
                  have p572 : 0 ≤ ((rd t568 x45_3) : Int) := of_decide_eq_true aT
                  have q572 : (rd t568 x45_3) < (l0.length : Int) := of_decide_eq_true aT
                  obtain ⟨ad572, e572, hx572_0, hx572_1, hx572_2, hx572_3, hx572_4⟩ := ja HR0.out (rd t568 x45_3) p572 q572
                  obtain rfl : ad565 = ad572 := (by injection e572)
                  replace hx572_0 := (HB.out.cell (World.block_lt_of_cell? w _ hx572_0)).trans hx572_0
                  replace hx572_1 := (HB.out.cell (World.block_lt_of_cell? w _ hx572_1)).trans hx572_1
                  replace hx572_2 := (HB.out.cell (World.block_lt_of_cell? w _ hx572_2)).trans hx572_2
                  replace hx572_3 := (HB.out.cell (World.block_lt_of_cell? w _ hx572_3)).trans hx572_3
                  replace hx572_4 := (HB.out.cell (World.block_lt_of_cell? w _ hx572_4)).trans hx572_4
                  replace p572 := eq_true p572
                  replace q572 := eq_true q572
                  go_wp2_with (first | ((with_reducible refine eu (b := .append) (xs := #[.tmp 49, .tmp 55]) rfl ?_); (try (refine lT (by rfl) ?_; dsimp only)); at_builtin; refine Kd.jW (Kd.int .i64) (w0 := w) w.heap.size rfl (.tmp 49) (.tmp 55) 60 3 (.int .i64 0) 8 rfl Tryz.underlying60 info3 rfl (by decide) (by omega) u6 x6_3 ((ax l0 (rd t568 x45_3)).f0) [.int .i64 ((ax l0 (rd t568 x45_3)).f0)] (fun k_ => some k_ ≠ (.slice (some ad571) t568.length co20 : Value).ownBlock) (fun _ => False) rfl rfl ?aP (fun _ hk => hk.elim) ?aF ?aO ?aB ?aS ?aL ?_; (case aP => exact rfl); (case aB => exact (bT HB)); (case aF => exact (fun k_ hk => Kd.fresh' (Kd.xN (qR HO_43)) k_ hk)); (case aO => exact (qR HO_6)); (case aS => exact (bY (bT HB))); (case aL => have := LMc26.out; omega); intro v574 w27 ho hb hg hat; rw [← Ny573.out] at ho; refine yA4 (Kd.zI (ok := (fun _ => True)) (by (with_reducible repeat (first | apply Kd.iw | apply Kd.ik | apply Kd.jb)); exact Kd.iO HO_43.out (fun _ hk => ⟨trivial, hk⟩)) hg hat) (kN (g := gb567) (o := .cells #[.int .i64 ((ax l0 x36_2).f0), .int .i64 ((ax l0 x36_2).f1), .string ((ax l0 x36_2).f2), .int .i64 ((ax l0 x36_2).f3), .string ((ax l0 x36_2).f4)] 29 (0, 0)) (by exact BK567.out) hg (Kd.EM HO_6.out BK567.out (by decide))) (hb) (ho) ?_; clear HO_43 BK567 HB HO_6; intro HO_43 BK567 HB HO575; clear ho hb hg hat))
                  go_roundg k3
                  case measure => have := HJ2.out; have := HK2.out; have := HK3.out; omega
                  case rel => exact ⟨(y573), (wrap64 (x45_3 + 1)), fT, H', ⟨by have := HJ2.out; have := HK2.out; have := HK3.out; omega⟩, ⟨qR HO575⟩, ⟨by (with_reducible repeat (first | apply Kd.iw | apply Kd.ik | apply Kd.jb)); exact Kd.iO HO_43.out (fun _ hk => hk.2)⟩, ⟨by exact BK567.out⟩, ⟨bT HB⟩⟩
                 exact absurd H (by simp)
                exact absurd H (by simp)
               exact absurd H (by simp)
              exact absurd H (by simp)
             exact absurd H (by simp)
            revert H
            refine yB1 fun t576 A28 H => ?_
            cases t576
            rotate_left
            ·replace H := yT H
             revert H
             refine yB1 fun t577 A30 H => ?_
             cases t577
             rotate_left
             ·replace H := yT H
              have H' := ae.mk H
              clear H
              have hcz32_0 : wr.cell? ⟨gb567, 0, none⟩ = some (.int .i64 ((ax l0 x36_2).f0)) := (aj BK567.out 0).trans rfl
              have hcz32_1 : wr.cell? ⟨gb567, 1, none⟩ = some (.int .i64 ((ax l0 x36_2).f1)) := (aj BK567.out 1).trans rfl
              have hcz32_2 : wr.cell? ⟨gb567, 2, none⟩ = some (.string ((ax l0 x36_2).f2)) := (aj BK567.out 2).trans rfl
              have hcz32_3 : wr.cell? ⟨gb567, 3, none⟩ = some (.int .i64 ((ax l0 x36_2).f3)) := (aj BK567.out 3).trans rfl
              have hcz32_4 : wr.cell? ⟨gb567, 4, none⟩ = some (.string ((ax l0 x36_2).f4)) := (aj BK567.out 4).trans rfl
              have hfz32_0 := ag BK567.out 0
              have hfz32_1 := ag BK567.out 1
              have hfz32_2 := ag BK567.out 2
              have hfz32_3 := ag BK567.out 3
              have hfz32_4 := ag BK567.out 4
              go_wp2_with (first | ((with_reducible refine gC 32 rfl ?_); refine gM 32 59 rfl Tryz.func32 (dP.calls k3 ((ax l0 x36_2).f0) ((ax l0 x36_2).f1) ((ax l0 x36_2).f2) ((ax l0 x36_2).f3) ((ax l0 x36_2).f4) true _ A28.out) ?_; rintro _ w33 ⟨rfl, hb⟩; refine ⟨_, rfl, yA4 (Kd.gK (qR HO_6) hb) (Kd.gK (qR HO_43) hb) (iY (g := gb567) (o := .cells #[.int .i64 ((ax l0 x36_2).f0), .int .i64 ((ax l0 x36_2).f1), .string ((ax l0 x36_2).f2), .int .i64 ((ax l0 x36_2).f3), .string ((ax l0 x36_2).f4)] 29 (0, 0)) (by exact BK567.out) hb) (aY (bT HB) hb) ?_⟩; clear HO_6 HO_43 BK567 HB hb; intro HO_6 HO_43 BK567 HB; have hcz34_0 : w33.cell? ⟨gb567, 0, none⟩ = some (.int .i64 ((ax l0 x36_2).f0)) := (aj BK567.out 0).trans rfl; have hcz34_1 : w33.cell? ⟨gb567, 1, none⟩ = some (.int .i64 ((ax l0 x36_2).f1)) := (aj BK567.out 1).trans rfl; have hcz34_2 : w33.cell? ⟨gb567, 2, none⟩ = some (.string ((ax l0 x36_2).f2)) := (aj BK567.out 2).trans rfl; have hcz34_3 : w33.cell? ⟨gb567, 3, none⟩ = some (.int .i64 ((ax l0 x36_2).f3)) := (aj BK567.out 3).trans rfl; have hcz34_4 : w33.cell? ⟨gb567, 4, none⟩ = some (.string ((ax l0 x36_2).f4)) := (aj BK567.out 4).trans rfl; have hfz34_0 := ag BK567.out 0; have hfz34_1 := ag BK567.out 1; have hfz34_2 := ag BK567.out 2; have hfz34_3 := ag BK567.out 3; have hfz34_4 := ag BK567.out 4; obtain ⟨Ao35, co35, rfl⟩ := Kd.eU HO_6.out) | (go_at_call 33; (with_reducible refine (dw.calls k3 ((ax l0 x36_2).f0) _ _ x6_3 true _ ?side1 ?side2 A30.out).mono ?_); (case side1 => exact Z13); (case side2 => exact (Kd.dL HO_6.out).2.1); rintro e w36 ⟨rfl, hb⟩; refine yA4 (Kd.gK (qR HO_6) hb) (Kd.gK (qR HO_43) hb) (iY (g := gb567) (o := .cells #[.int .i64 ((ax l0 x36_2).f0), .int .i64 ((ax l0 x36_2).f1), .string ((ax l0 x36_2).f2), .int .i64 ((ax l0 x36_2).f3), .string ((ax l0 x36_2).f4)] 29 (0, 0)) (by exact BK567.out) hb) (aY (bT HB) hb) ?_; clear HO_6 HO_43 BK567 HB; intro HO_6 HO_43 BK567 HB; (try clear hb)))
              go_roundg k3
              case measure => have := HJ2.out; have := HK2.out; have := HK3.out; omega
              case rel => exact ⟨(wrap64 (x36_2 + 1)), fT, H', ⟨by have := HJ2.out; have := HK2.out; have := HK3.out; omega⟩, ⟨bT HB⟩⟩
             replace H := yF H
             simp only [Option.some.injEq, Prod.mk.injEq] at H
             obtain ⟨rfl, rfl⟩ := H
             have hcz37_0 : wr.cell? ⟨gb567, 0, none⟩ = some (.int .i64 ((ax l0 x36_2).f0)) := (aj BK567.out 0).trans rfl
             have hcz37_1 : wr.cell? ⟨gb567, 1, none⟩ = some (.int .i64 ((ax l0 x36_2).f1)) := (aj BK567.out 1).trans rfl
             have hcz37_2 : wr.cell? ⟨gb567, 2, none⟩ = some (.string ((ax l0 x36_2).f2)) := (aj BK567.out 2).trans rfl
             have hcz37_3 : wr.cell? ⟨gb567, 3, none⟩ = some (.int .i64 ((ax l0 x36_2).f3)) := (aj BK567.out 3).trans rfl
             have hcz37_4 : wr.cell? ⟨gb567, 4, none⟩ = some (.string ((ax l0 x36_2).f4)) := (aj BK567.out 4).trans rfl
             have hfz37_0 := ag BK567.out 0
             have hfz37_1 := ag BK567.out 1
             have hfz37_2 := ag BK567.out 2
             have hfz37_3 := ag BK567.out 3
             have hfz37_4 := ag BK567.out 4
             go_wp2_with (first | ((with_reducible refine gC 32 rfl ?_); refine gM 32 59 rfl Tryz.func32 (dP.calls k3 ((ax l0 x36_2).f0) ((ax l0 x36_2).f1) ((ax l0 x36_2).f2) ((ax l0 x36_2).f3) ((ax l0 x36_2).f4) true _ A28.out) ?_; rintro _ w38 ⟨rfl, hb⟩; refine ⟨_, rfl, yA4 (Kd.gK (qR HO_6) hb) (Kd.gK (qR HO_43) hb) (iY (g := gb567) (o := .cells #[.int .i64 ((ax l0 x36_2).f0), .int .i64 ((ax l0 x36_2).f1), .string ((ax l0 x36_2).f2), .int .i64 ((ax l0 x36_2).f3), .string ((ax l0 x36_2).f4)] 29 (0, 0)) (by exact BK567.out) hb) (aY (bT HB) hb) ?_⟩; clear HO_6 HO_43 BK567 HB hb; intro HO_6 HO_43 BK567 HB; have hcz39_0 : w38.cell? ⟨gb567, 0, none⟩ = some (.int .i64 ((ax l0 x36_2).f0)) := (aj BK567.out 0).trans rfl; have hcz39_1 : w38.cell? ⟨gb567, 1, none⟩ = some (.int .i64 ((ax l0 x36_2).f1)) := (aj BK567.out 1).trans rfl; have hcz39_2 : w38.cell? ⟨gb567, 2, none⟩ = some (.string ((ax l0 x36_2).f2)) := (aj BK567.out 2).trans rfl; have hcz39_3 : w38.cell? ⟨gb567, 3, none⟩ = some (.int .i64 ((ax l0 x36_2).f3)) := (aj BK567.out 3).trans rfl; have hcz39_4 : w38.cell? ⟨gb567, 4, none⟩ = some (.string ((ax l0 x36_2).f4)) := (aj BK567.out 4).trans rfl; have hfz39_0 := ag BK567.out 0; have hfz39_1 := ag BK567.out 1; have hfz39_2 := ag BK567.out 2; have hfz39_3 := ag BK567.out 3; have hfz39_4 := ag BK567.out 4; obtain ⟨Ao40, co40, rfl⟩ := Kd.eU HO_6.out) | (go_at_call 33; (with_reducible refine (dw.calls k3 ((ax l0 x36_2).f0) _ _ x6_3 false _ ?side1 ?side2 A30.out).mono ?_); (case side1 => exact Z13); (case side2 => exact (Kd.dL HO_6.out).2.1); rintro e w41 ⟨rfl, hb⟩; refine yA4 (Kd.gK (qR HO_6) hb) (Kd.gK (qR HO_43) hb) (iY (g := gb567) (o := .cells #[.int .i64 ((ax l0 x36_2).f0), .int .i64 ((ax l0 x36_2).f1), .string ((ax l0 x36_2).f2), .int .i64 ((ax l0 x36_2).f3), .string ((ax l0 x36_2).f4)] 29 (0, 0)) (by exact BK567.out) hb) (aY (bT HB) hb) ?_; clear HO_6 HO_43 BK567 HB; intro HO_6 HO_43 BK567 HB; (try clear hb)))
             go_ret2
             exact ⟨eT, bT HB⟩
            replace H := yF H
            simp only [Option.some.injEq, Prod.mk.injEq] at H
            obtain ⟨rfl, rfl⟩ := H
            have hcz42_0 : wr.cell? ⟨gb567, 0, none⟩ = some (.int .i64 ((ax l0 x36_2).f0)) := (aj BK567.out 0).trans rfl
            have hcz42_1 : wr.cell? ⟨gb567, 1, none⟩ = some (.int .i64 ((ax l0 x36_2).f1)) := (aj BK567.out 1).trans rfl
            have hcz42_2 : wr.cell? ⟨gb567, 2, none⟩ = some (.string ((ax l0 x36_2).f2)) := (aj BK567.out 2).trans rfl
            have hcz42_3 : wr.cell? ⟨gb567, 3, none⟩ = some (.int .i64 ((ax l0 x36_2).f3)) := (aj BK567.out 3).trans rfl
            have hcz42_4 : wr.cell? ⟨gb567, 4, none⟩ = some (.string ((ax l0 x36_2).f4)) := (aj BK567.out 4).trans rfl
            have hfz42_0 := ag BK567.out 0
            have hfz42_1 := ag BK567.out 1
            have hfz42_2 := ag BK567.out 2
            have hfz42_3 := ag BK567.out 3
            have hfz42_4 := ag BK567.out 4
            go_wp2_with (first | ((with_reducible refine gC 32 rfl ?_); refine gM 32 59 rfl Tryz.func32 (dP.calls k3 ((ax l0 x36_2).f0) ((ax l0 x36_2).f1) ((ax l0 x36_2).f2) ((ax l0 x36_2).f3) ((ax l0 x36_2).f4) false _ A28.out) ?_; rintro _ w43 ⟨rfl, hb⟩; refine ⟨_, rfl, yA4 (Kd.gK (qR HO_6) hb) (Kd.gK (qR HO_43) hb) (iY (g := gb567) (o := .cells #[.int .i64 ((ax l0 x36_2).f0), .int .i64 ((ax l0 x36_2).f1), .string ((ax l0 x36_2).f2), .int .i64 ((ax l0 x36_2).f3), .string ((ax l0 x36_2).f4)] 29 (0, 0)) (by exact BK567.out) hb) (aY (bT HB) hb) ?_⟩; clear HO_6 HO_43 BK567 HB hb; intro HO_6 HO_43 BK567 HB))
            go_ret2
            exact ⟨eT, bT HB⟩
         exact absurd H (by simp)
        exact absurd H (by simp)
       simp only [Option.some.injEq, Prod.mk.injEq] at H
       obtain ⟨rfl, rfl⟩ := H
       go_wp2
       go_ret2
       exact ⟨eT, bT HB⟩
    simp only [Option.some.injEq, Prod.mk.injEq] at H
    obtain ⟨rfl, rfl⟩ := H
    go_wp2_with (first | ((with_reducible refine gC 30 rfl ?_); refine gM 30 26 rfl Tryz.func30 (dM.calls kj2 _ _ l0 t564 _ Z6 HC0.out A7.out) ?_; rintro _ w44 ⟨rfl, hb⟩; refine ⟨_, rfl, yA1 (aY (bT HB) hb) ?_⟩; clear HB hb; intro HB; have p565 : 0 ≤ (0 : Int) := (by omega); have q565 : 0 < (l0.length : Int) := of_decide_eq_true aT; obtain ⟨ad565, e565, hx565_0, hx565_1, hx565_2, hx565_3, hx565_4⟩ := ja HR0.out 0 p565 q565; cases e565; have qi565 : (0 < l0.length) = True := eq_true (by omega); (try rw [show ((0 : Int)).toNat = 0 from rfl] at hx565_0); (try rw [show 0 * 5 = 0 from rfl] at hx565_0); (try rw [Addr.add_zero'] at hx565_0); (try rw [show ((0 : Int)).toNat = 0 from rfl] at hx565_1); (try rw [show 0 * 5 = 0 from rfl] at hx565_1); (try rw [Addr.add_zero'] at hx565_1); (try rw [show ((0 : Int)).toNat = 0 from rfl] at hx565_2); (try rw [show 0 * 5 = 0 from rfl] at hx565_2); (try rw [Addr.add_zero'] at hx565_2); (try rw [show ((0 : Int)).toNat = 0 from rfl] at hx565_3); (try rw [show 0 * 5 = 0 from rfl] at hx565_3); (try rw [Addr.add_zero'] at hx565_3); (try rw [show ((0 : Int)).toNat = 0 from rfl] at hx565_4); (try rw [show 0 * 5 = 0 from rfl] at hx565_4); (try rw [Addr.add_zero'] at hx565_4); replace hx565_0 := (HB.out.cell (World.block_lt_of_cell? w _ hx565_0)).trans hx565_0; replace hx565_1 := (HB.out.cell (World.block_lt_of_cell? w _ hx565_1)).trans hx565_1; replace hx565_2 := (HB.out.cell (World.block_lt_of_cell? w _ hx565_2)).trans hx565_2; replace hx565_3 := (HB.out.cell (World.block_lt_of_cell? w _ hx565_3)).trans hx565_3; replace hx565_4 := (HB.out.cell (World.block_lt_of_cell? w _ hx565_4)).trans hx565_4; replace p565 := eq_true p565; replace q565 := eq_true q565))
    go_ret2
    exact ⟨eT, bT HB⟩
   exact absurd H (by simp)
end Go.Proofs.YtkbhkonenkgfoaaGreat.Q
end
section
set_option linter.unusedVariables false
set_option linter.unusedSimpArgs false
namespace Go.Proofs.YtkbhkonenkgfoaaGreat.Q
open Go.RowKit Go.Proofs.YtkbhkonenkgfoaaGreatW.PrintWords Go.Proofs.YtkbhkonenkgfoaaGreatW.PrintLast Go.Proofs.YtkbhkonenkgfoaaGreatW.PrintMore
def jH.f (k : Nat) (l0 : List S37) : Option (List S29 × Int × Int) :=
 (bf.f (fam k) k l0 0 false).bind fun t => if t.2.2 = true then ((gZ.f l0 t.2.1 t.2.2).bind fun p => some (([] : List S29), 10, p.1))
  else if t.2.1 < (l0.length : Int) then ((gZ.f l0 t.2.1 t.2.2).bind fun p => some (([] : List S29), 10, p.1))
  else (dE.f k t.1).bind fun c => if c.1 = 0 then some (t.1, 0, 0) else some (([] : List S29), c.1, 0)
theorem jH.mono (a0 : List S37) (k : Nat) : LeO (jH.f k a0) (jH.f (k + 1) a0) := by
 unfold jH.f
 repeat' first
 | exact bf.mono (xA k) _ _ _ k
 | exact dE.mono _ k
 | exact LeO.refl _
 | exact LeO.none _
 | refine LeO.ite ?_ ?_
 | refine LeO.bind ?_ (fun _ => ?_)
set_option maxHeartbeats 8000000 in
set_option maxRecDepth 100000 in
theorem jH.calls (k : Nat) (A0 : Option Addr) (c0 : Nat) (l0 : List S37) (r1 : List S29) (r2 : Int) (r3 : Int) (w : World) (hr0 : Kd.C k37 w A0 l0.length l0) (hc0 : l0.length ≤ c0) (h : jH.f k l0 = some (r1, r2, r3)) :
 Calls Tryz.prog 10 #[.slice A0 l0.length c0] w fun e w' => ∃ v0_ : Value, e = .returned (.tuple #[v0_, .int .i64 r2, .int .i64 r3]) ∧ Kd.R k29 29 w' w.heap.size (fun _ => True) v0_ r1 ∧ Below w.heap.size w w' := by
 have HR0 := ae.mk hr0
 have HB := ae.mk (Below.refl w.heap.size w)
 clear hr0 hc0
 unfold jH.f at h
 obtain ⟨⟨t, u, b⟩, hm, h⟩ := Option.bind_eq_some_iff.mp h
 have AM := ae.mk hm
 have HQ := ae.mk h
 clear hm h
 have hu40 := Tryz.underlying40
 go_enter Tryz.func10, Tryz.ntmps10
 go_upto_region 3 with (first
  | ((with_reducible refine bH (N := 11) rfl ?_); refine gp ?hg (N := 11) ?hd (cs := #[.slice A0 l0.length c0, .int .i64 0, .bool false]) (t := 40) ?hr ?_; (case hd => rfl); (case hg => rfl); (case hr => first | (go_simp; done) | (go_simp; rfl)); intro g hg w1 hbox hb; have HI1 := ae.mk (show dB w w1 g l0 0 false from ⟨A0, c0, hbox, by rw [hg]; exact Nat.le_refl _, HR0.out⟩); have HB1 := ae.mk hb; clear hbox hb hg)
  | ((with_reducible refine nJ (f := 14) rfl ?_); refine kJ (some 13) rfl rfl Tryz.func14 (by kernel_rfl) rfl #[.pointer (some ⟨g, 0, none⟩)] rfl Z17 ?_; (with_reducible refine (bf.calls (fam k) (xy k) k g l0 0 false t u b w _ ?side1 ?side2 AM.out).mono ?_); (case side1 => exact HI1.out); (case side2 => exact HB1.out); rintro e w2 ⟨v, rfl, ho, hi, hb, hk⟩; refine ⟨_, rfl, ?_⟩; have HO := ae.mk (Kd.ig ho HB1.out.size); have HI2 := ae.mk hi; have HB2 := ae.mk hb; clear ho hi hb hk))
 obtain ⟨ASz, cSz, HGz, hgz, HSz⟩ := HI2.out
 have hcz0 := kM HGz
 have hcz1 := kL HGz
 have hcz2 := kK HGz
 clear HGz hgz HSz
 have h := HQ.out
 clear HQ
 dsimp only at h
 by_cases c1 : b = true
 ·rw [if_pos c1] at h
  subst c1
  obtain ⟨⟨p1, p2, p3⟩, hp, h⟩ := Option.bind_eq_some_iff.mp h
  have AP := ae.mk hp
  clear hp
  cases h
  go_wp2_with (first | ((with_reducible refine nJ (f := 15) rfl ?_); refine kJ (some 28) rfl rfl Tryz.func15 (by kernel_rfl) rfl #[.pointer (some ⟨g, 0, none⟩)] rfl Z17 ?_; (with_reducible refine (gZ.calls g l0 u true p1 p2 p3 w _ ?side1 ?side2 AP.out).mono ?_); (case side1 => exact HI2.out); (case side2 => exact HB2.out); rintro e w3 ⟨rfl, hi, hb, hk⟩; refine ⟨_, rfl, ?_⟩; have HB3 := ae.mk hb; clear hi hb hk))
  go_ret3
  exact ⟨_, rfl, Kd.oG _ _ _ _ _, HB3.out⟩
 rw [if_neg c1] at h
 replace c1 := Bool.eq_false_iff.mpr c1
 subst c1
 by_cases c2 : u < (l0.length : Int)
 ·rw [if_pos c2] at h
  have c2b : decide (u < (l0.length : Int)) = true := decide_eq_true c2
  clear c2
  obtain ⟨⟨p1, p2, p3⟩, hp, h⟩ := Option.bind_eq_some_iff.mp h
  have AP := ae.mk hp
  clear hp
  cases h
  go_wp2_with (first | ((with_reducible refine nJ (f := 15) rfl ?_); refine kJ (some 28) rfl rfl Tryz.func15 (by kernel_rfl) rfl #[.pointer (some ⟨g, 0, none⟩)] rfl Z17 ?_; (with_reducible refine (gZ.calls g l0 u false p1 p2 p3 w _ ?side1 ?side2 AP.out).mono ?_); (case side1 => exact HI2.out); (case side2 => exact HB2.out); rintro e w3 ⟨rfl, hi, hb, hk⟩; refine ⟨_, rfl, ?_⟩; have HB3 := ae.mk hb; clear hi hb hk))
  go_ret3
  exact ⟨_, rfl, Kd.oG _ _ _ _ _, HB3.out⟩
 rw [if_neg c2] at h
 have c2b : decide (u < (l0.length : Int)) = false := decide_eq_false c2
 clear c2
 obtain ⟨⟨p1, p2⟩, hp, h⟩ := Option.bind_eq_some_iff.mp h
 have AP := ae.mk hp
 clear hp
 obtain ⟨Ao, co, eo⟩ := Kd.eU HO.out
 subst eo
 dsimp only at h
 have HC := ae.mk (Kd.dL HO.out).2.2
 have HL := ae.mk (Kd.dL HO.out).2.1
 by_cases c3 : p1 = 0
 ·rw [if_pos c3] at h
  have c3b0 : (p1 == 0) = true := beq_iff_eq.mpr c3
  have c3b1 : (p1 != 0) = false := bne_eq_false_iff_eq.mpr c3
  clear c3
  simp only [Option.some.injEq, Prod.mk.injEq] at h
  obtain ⟨h1, h2, h3⟩ := h
  subst h1
  subst h2
  subst h3
  go_wp2_with (first | ((with_reducible refine nJ (f := 16) rfl ?_); refine kJ (some 31) rfl rfl Tryz.func16 (by kernel_rfl) rfl #[.slice Ao t.length co] rfl Z17 ?_; (with_reducible refine (dE.calls k _ _ t p1 p2 _ ?side1 ?side2 AP.out).mono ?_); (case side1 => exact HC.out); (case side2 => exact HL.out); rintro e w3 ⟨rfl, hb⟩; refine ⟨_, rfl, ?_⟩; have HB3 := ae.mk (aY HB2.out hb); have HO3 := ae.mk (Kd.gK HO.out hb); clear hb))
  go_ret3
  exact ⟨_, rfl, HO3.out, HB3.out⟩
 rw [if_neg c3] at h
 have c3b0 : (p1 == 0) = false := beq_eq_false_iff_ne.mpr c3
 have c3b1 : (p1 != 0) = true := bne_iff_ne.mpr c3
 clear c3
 simp only [Option.some.injEq, Prod.mk.injEq] at h
 obtain ⟨h1, h2, h3⟩ := h
 subst h1
 subst h2
 subst h3
 go_wp2_with (first | ((with_reducible refine nJ (f := 16) rfl ?_); refine kJ (some 31) rfl rfl Tryz.func16 (by kernel_rfl) rfl #[.slice Ao t.length co] rfl Z17 ?_; (with_reducible refine (dE.calls k _ _ t p1 p2 _ ?side1 ?side2 AP.out).mono ?_); (case side1 => exact HC.out); (case side2 => exact HL.out); rintro e w3 ⟨rfl, hb⟩; refine ⟨_, rfl, ?_⟩; have HB3 := ae.mk (aY HB2.out hb); have HO3 := ae.mk (Kd.gK HO.out hb); clear hb))
 go_ret3
 exact ⟨_, rfl, Kd.oG _ _ _ _ _, HB3.out⟩
end Go.Proofs.YtkbhkonenkgfoaaGreat.Q
end
section
namespace Go.Proofs.YtkbhkonenkgfoaaGreat.Q
open Go.RowKit Go.Proofs.YtkbhkonenkgfoaaGreatW.PrintWords Go.Proofs.YtkbhkonenkgfoaaGreatW.PrintLast Go.Proofs.YtkbhkonenkgfoaaGreatW.PrintMore
attribute [local go_sem] dJ dH dW dV dh df dI dG
set_option linter.unusedVariables false
set_option linter.unusedSimpArgs false
/-! ### gu: function 6 -/
def gu.f (k : Nat) (a0 : ByteArray) : Option ((List (S29)) × Int × Int) := (gU.f k a0).bind fun bt791 => (if bt791.2.1 = 0 then ((jH.f k bt791.1).bind fun bt796 => (some (bt796.1, bt796.2.1, bt796.2.2))) else (some (([] : List (S29)), bt791.2.1, bt791.2.2)))
theorem gu.mono : ∀ a0 k, LeO (gu.f k a0) (gu.f (k + 1) a0) := by
 intro a0 k
 unfold gu.f
 have m0 := gU.mono
 have m1 := jH.mono
 exact yL
set_option maxHeartbeats 8000000 in
set_option maxRecDepth 100000 in
theorem gu.calls (k : Nat) (a0 : ByteArray) (r1 : List (S29)) (r2 : Int) (r3 : Int) (w : World) (h : gu.f k a0 = some (r1, r2, r3)) :
 Calls Tryz.prog 6 #[.string a0] w fun e w' => ∃ v0_ : Value, e = .returned (.tuple #[v0_, .int .i64 r2, .int .i64 r3]) ∧ Kd.R k29 29 w' w.heap.size (fun _ => True) v0_ r1 ∧ Below w.heap.size w w' := by
 have HB := ae.mk (Below.refl w.heap.size w)
 have H := h
 clear h
 unfold gu.f at H
 revert H
 refine yB3 fun t791 t792 t793 A2 H => ?_
 try dsimp only at H
 revert H
 refine cZ (fun c3b0 c3b1 H => ?_) fun c3 c3b0 c3b1 H => ?_
 ·revert H
  refine yB3 fun t796 t797 t798 A4 H => ?_
  try dsimp only at H
  simp only [Option.some.injEq, Prod.mk.injEq] at H
  obtain ⟨rfl, rfl, rfl⟩ := H
  go_enter Tryz.func6, Tryz.ntmps6
  go_wp2_with (first | ((with_reducible refine gC 12 rfl ?_); refine gM 12 10 rfl Tryz.func12 (gU.calls k a0 t791 t792 t793 _ A2.out) ?_; rintro _ w5 ⟨v794, rfl, ho0, hb⟩; refine ⟨_, rfl, yA2 (Kd.ig ho0 (bY (bT HB))) (aY (bT HB) hb) ?_⟩; clear HB hb ho0; intro HO795 HB; obtain ⟨Ao6, co6, rfl⟩ := Kd.eU HO795.out) | ((with_reducible refine gC 10 rfl ?_); refine gM 10 19 rfl Tryz.func10 (jH.calls k _ _ t791 t796 t797 t798 _ (by repeat (first | exact (Kd.dL HO795.out).2.2 | (with_reducible refine Kd.jY ?_ _) | (with_reducible refine Kd.jX ?_ _) | (with_reducible refine Kd.lu ?_))) ((Kd.dL HO795.out).2.1) A4.out) ?_; rintro _ w7 ⟨v799, rfl, ho0, hb⟩; refine ⟨_, rfl, yA3 (Kd.gK (qR HO795) hb) (Kd.ig ho0 (bY (bT HB))) (aY (bT HB) hb) ?_⟩; clear HO795 HB hb ho0; intro HO795 HO800 HB))
  go_ret3
  exact ⟨_, eT, qR HO800, bT HB⟩
 simp only [Option.some.injEq, Prod.mk.injEq] at H
 obtain ⟨rfl, rfl, rfl⟩ := H
 go_enter Tryz.func6, Tryz.ntmps6
 go_wp2_with (first | ((with_reducible refine gC 12 rfl ?_); refine gM 12 10 rfl Tryz.func12 (gU.calls k a0 t791 t792 t793 _ A2.out) ?_; rintro _ w8 ⟨v794, rfl, ho0, hb⟩; refine ⟨_, rfl, yA2 (Kd.ig ho0 (bY (bT HB))) (aY (bT HB) hb) ?_⟩; clear HB hb ho0; intro HO795 HB))
 go_ret3
 exact ⟨_, eT, Z4, bT HB⟩
/-! ### bV: function 5 -/
def bV.f (k : Nat)  : Option (Bool) := (gu.f k (⟨#[109, 111, 100, 117, 108, 101, 32, 109, 32, 49, 59, 32, 102, 110, 32, 102, 40, 97, 41, 32, 123, 32, 114, 101, 116, 117, 114, 110, 32, 97, 32, 43, 32, 49, 32, 42, 32, 50, 59, 32, 125]⟩ : ByteArray)).bind fun bt801 => ((gu.f k (⟨#[109, 111, 100, 117, 108, 101, 32, 109, 32, 49, 59, 32, 102, 110, 32, 102, 40, 41, 32, 123, 32, 49, 32, 61, 32, 50, 59, 32, 125]⟩ : ByteArray)).bind fun bt806 => (if bt801.2.1 = 0 then (if (bt801.1.length : Int) = 10 then (if 5 < (bt801.1.length : Int) then (if ((ax bt801.1 5).f4).toList = ([43] : List UInt8) then (if 7 < (bt801.1.length : Int) then (if ((ax bt801.1 7).f4).toList = ([42] : List UInt8) then (if 0 < (bt801.1.length : Int) then (if ((ax bt801.1 0).f2).toList = ([109] : List UInt8) then (if ((ax bt801.1 0).f3) = 1 then (if bt806.2.1 = 10 then (some (bt806.2.2 == 23)) else (some false)) else (some false)) else (some false)) else (none)) else (some false)) else (none)) else (some false)) else (none)) else (some false)) else (some false)))
theorem bV.mono : ∀ k, LeO (bV.f k ) (bV.f (k + 1) ) := by
 intro  k
 unfold bV.f
 have m0 := gu.mono
 exact yL
theorem bV.more : ∀ (d k : Nat) (r : Bool), bV.f k = some r → bV.f (k + d) = some r
 | 0, _, _, h => h
 | d + 1, k, r, h => bV.mono (k + d) r (bV.more d k r h)
set_option maxRecDepth 100000 in
theorem bV.at : bV.f 300 = some true := by kernel_rfl
theorem bV.KQ (k : Nat) (r : Bool) (h : bV.f k = some r) : r = true := by
 have h1 := bV.more 300 k r h
 have h2 := bV.more k 300 true bV.at
 rw [Nat.add_comm 300 k, h1] at h2
 exact Option.some.inj h2
set_option maxHeartbeats 8000000 in
set_option maxRecDepth 100000 in
theorem bV.calls (k : Nat)  (r : Bool) (w : World) (h : bV.f k  = some r) :
 Calls Tryz.prog 5 #[] w fun e w' => e = .returned (.bool r) ∧ Below w.heap.size w w' := by
 have HB := ae.mk (Below.refl w.heap.size w)
 have HR := ae.mk (bV.KQ k r h)
 have H := h
 clear h
 unfold bV.f at H
 revert H
 refine yB3 fun t801 t802 t803 A1 H => ?_
 try dsimp only at H
 revert H
 refine yB3 fun t806 t807 t808 A2 H => ?_
 try dsimp only at H
 revert H
 refine cZ (fun c3b0 c3b1 H => ?_) fun c3 c3b0 c3b1 H => ?_
 ·revert H
  refine cZ (fun c4b0 c4b1 H => ?_) fun c4 c4b0 c4b1 H => ?_
  ·revert H
   refine pX (fun c5 c5b0 H => ?_) fun c5 H => ?_
   ·have c5b1 : decide (5 < t801.length) = true := decide_eq_true (by omega)
    clear c5
    revert H
    refine cZ (fun c6b0 c6b1 H => ?_) fun c6 c6b0 c6b1 H => ?_
    ·revert H
     refine pX (fun c7 c7b0 H => ?_) fun c7 H => ?_
     ·have c7b1 : decide (7 < t801.length) = true := decide_eq_true (by omega)
      clear c7
      revert H
      refine cZ (fun c8b0 c8b1 H => ?_) fun c8 c8b0 c8b1 H => ?_
      ·revert H
       refine pX (fun c9 c9b0 H => ?_) fun c9 H => ?_
       ·have c9b1 : decide (0 < t801.length) = true := decide_eq_true (by omega)
        clear c9
        revert H
        refine cZ (fun c10b0 c10b1 H => ?_) fun c10 c10b0 c10b1 H => ?_
        ·revert H
         refine cZ (fun c11b0 c11b1 H => ?_) fun c11 c11b0 c11b1 H => ?_
         ·revert H
          refine cZ (fun c12b0 c12b1 H => ?_) fun c12 c12b0 c12b1 H => ?_
          ·obtain rfl := Option.some.inj H
           go_enter Tryz.func5, Tryz.ntmps5
           go_wp2_with (first | ((with_reducible refine gC 6 rfl ?_); refine gM 6 8 rfl Tryz.func6 (gu.calls k (⟨#[109, 111, 100, 117, 108, 101, 32, 109, 32, 49, 59, 32, 102, 110, 32, 102, 40, 97, 41, 32, 123, 32, 114, 101, 116, 117, 114, 110, 32, 97, 32, 43, 32, 49, 32, 42, 32, 50, 59, 32, 125]⟩ : ByteArray) t801 t802 t803 _ A1.out) ?_; rintro _ w13 ⟨v804, rfl, ho0, hb⟩; refine ⟨_, rfl, yA2 (Kd.ig ho0 (bY (bT HB))) (aY (bT HB) hb) ?_⟩; clear HB hb ho0; intro HO805 HB) | ((with_reducible refine gC 6 rfl ?_); refine gM 6 13 rfl Tryz.func6 (gu.calls k (⟨#[109, 111, 100, 117, 108, 101, 32, 109, 32, 49, 59, 32, 102, 110, 32, 102, 40, 41, 32, 123, 32, 49, 32, 61, 32, 50, 59, 32, 125]⟩ : ByteArray) t806 t807 t808 _ A2.out) ?_; rintro _ w14 ⟨v809, rfl, ho0, hb⟩; refine ⟨_, rfl, yA3 (Kd.nK (qR HO805) (Kd.qP ho0) hb) (Kd.ig (Kd.qO ho0 (Kd.xN (qR HO805))) (bY (bT HB))) (aY (bT HB) hb) ?_⟩; clear HO805 HB hb ho0; intro HO805 HO810 HB; obtain ⟨Ao15, co15, rfl⟩ := Kd.eU HO805.out; have p811 : 0 ≤ (5 : Int) := (by omega); have q811 : 5 < (t801.length : Int) := of_decide_eq_true aT; obtain ⟨ad811, e811, hx811_0, hx811_1, hx811_2, hx811_3, hx811_4⟩ := ja (Kd.dL HO805.out).2.2 5 p811 q811; cases e811; (try simp only [show (5 : Int).toNat = 5 from rfl, Nat.reduceMul, Nat.reduceEqDiff, Go.Addr.add, ↓reduceIte] at hx811_0); (try simp only [show (5 : Int).toNat = 5 from rfl, Nat.reduceMul, Nat.reduceEqDiff, Go.Addr.add, ↓reduceIte] at hx811_1); (try simp only [show (5 : Int).toNat = 5 from rfl, Nat.reduceMul, Nat.reduceEqDiff, Go.Addr.add, ↓reduceIte] at hx811_2); (try simp only [show (5 : Int).toNat = 5 from rfl, Nat.reduceMul, Nat.reduceEqDiff, Go.Addr.add, ↓reduceIte] at hx811_3); (try simp only [show (5 : Int).toNat = 5 from rfl, Nat.reduceMul, Nat.reduceEqDiff, Go.Addr.add, ↓reduceIte] at hx811_4); have qi811 : (5 < t801.length) = True := eq_true (by omega); (try rw [show ((5 : Int)).toNat = 5 from rfl] at hx811_0); (try rw [show 5 * 5 = 25 from rfl] at hx811_0); (try rw [show ((5 : Int)).toNat = 5 from rfl] at hx811_1); (try rw [show 5 * 5 = 25 from rfl] at hx811_1); (try rw [show ((5 : Int)).toNat = 5 from rfl] at hx811_2); (try rw [show 5 * 5 = 25 from rfl] at hx811_2); (try rw [show ((5 : Int)).toNat = 5 from rfl] at hx811_3); (try rw [show 5 * 5 = 25 from rfl] at hx811_3); (try rw [show ((5 : Int)).toNat = 5 from rfl] at hx811_4); (try rw [show 5 * 5 = 25 from rfl] at hx811_4); replace p811 := eq_true p811; replace q811 := eq_true q811; have p812 : 0 ≤ (7 : Int) := (by omega); have q812 : 7 < (t801.length : Int) := of_decide_eq_true aT; obtain ⟨ad812, e812, hx812_0, hx812_1, hx812_2, hx812_3, hx812_4⟩ := ja (Kd.dL HO805.out).2.2 7 p812 q812; obtain rfl : ad811 = ad812 := (by injection e812); (try simp only [show (7 : Int).toNat = 7 from rfl, Nat.reduceMul, Nat.reduceEqDiff, Go.Addr.add, ↓reduceIte] at hx812_0); (try simp only [show (7 : Int).toNat = 7 from rfl, Nat.reduceMul, Nat.reduceEqDiff, Go.Addr.add, ↓reduceIte] at hx812_1); (try simp only [show (7 : Int).toNat = 7 from rfl, Nat.reduceMul, Nat.reduceEqDiff, Go.Addr.add, ↓reduceIte] at hx812_2); (try simp only [show (7 : Int).toNat = 7 from rfl, Nat.reduceMul, Nat.reduceEqDiff, Go.Addr.add, ↓reduceIte] at hx812_3); (try simp only [show (7 : Int).toNat = 7 from rfl, Nat.reduceMul, Nat.reduceEqDiff, Go.Addr.add, ↓reduceIte] at hx812_4); have qi812 : (7 < t801.length) = True := eq_true (by omega); (try rw [show ((7 : Int)).toNat = 7 from rfl] at hx812_0); (try rw [show 7 * 5 = 35 from rfl] at hx812_0); (try rw [show ((7 : Int)).toNat = 7 from rfl] at hx812_1); (try rw [show 7 * 5 = 35 from rfl] at hx812_1); (try rw [show ((7 : Int)).toNat = 7 from rfl] at hx812_2); (try rw [show 7 * 5 = 35 from rfl] at hx812_2); (try rw [show ((7 : Int)).toNat = 7 from rfl] at hx812_3); (try rw [show 7 * 5 = 35 from rfl] at hx812_3); (try rw [show ((7 : Int)).toNat = 7 from rfl] at hx812_4); (try rw [show 7 * 5 = 35 from rfl] at hx812_4); replace p812 := eq_true p812; replace q812 := eq_true q812; have p813 : 0 ≤ (0 : Int) := (by omega); have q813 : 0 < (t801.length : Int) := of_decide_eq_true aT; obtain ⟨ad813, e813, hx813_0, hx813_1, hx813_2, hx813_3, hx813_4⟩ := ja (Kd.dL HO805.out).2.2 0 p813 q813; obtain rfl : ad811 = ad813 := (by injection e813); have qi813 : (0 < t801.length) = True := eq_true (by omega); (try rw [show ((0 : Int)).toNat = 0 from rfl] at hx813_0); (try rw [show 0 * 5 = 0 from rfl] at hx813_0); (try rw [Addr.add_zero'] at hx813_0); (try rw [show ((0 : Int)).toNat = 0 from rfl] at hx813_1); (try rw [show 0 * 5 = 0 from rfl] at hx813_1); (try rw [Addr.add_zero'] at hx813_1); (try rw [show ((0 : Int)).toNat = 0 from rfl] at hx813_2); (try rw [show 0 * 5 = 0 from rfl] at hx813_2); (try rw [Addr.add_zero'] at hx813_2); (try rw [show ((0 : Int)).toNat = 0 from rfl] at hx813_3); (try rw [show 0 * 5 = 0 from rfl] at hx813_3); (try rw [Addr.add_zero'] at hx813_3); (try rw [show ((0 : Int)).toNat = 0 from rfl] at hx813_4); (try rw [show 0 * 5 = 0 from rfl] at hx813_4); (try rw [Addr.add_zero'] at hx813_4); replace p813 := eq_true p813; replace q813 := eq_true q813; have p814 : 0 ≤ (0 : Int) := (by omega); have q814 : 0 < (t801.length : Int) := of_decide_eq_true aT; obtain ⟨ad814, e814, hx814_0, hx814_1, hx814_2, hx814_3, hx814_4⟩ := ja (Kd.dL HO805.out).2.2 0 p814 q814; obtain rfl : ad811 = ad814 := (by injection e814); have qi814 : (0 < t801.length) = True := eq_true (by omega); (try rw [show ((0 : Int)).toNat = 0 from rfl] at hx814_0); (try rw [show 0 * 5 = 0 from rfl] at hx814_0); (try rw [Addr.add_zero'] at hx814_0); (try rw [show ((0 : Int)).toNat = 0 from rfl] at hx814_1); (try rw [show 0 * 5 = 0 from rfl] at hx814_1); (try rw [Addr.add_zero'] at hx814_1); (try rw [show ((0 : Int)).toNat = 0 from rfl] at hx814_2); (try rw [show 0 * 5 = 0 from rfl] at hx814_2); (try rw [Addr.add_zero'] at hx814_2); (try rw [show ((0 : Int)).toNat = 0 from rfl] at hx814_3); (try rw [show 0 * 5 = 0 from rfl] at hx814_3); (try rw [Addr.add_zero'] at hx814_3); (try rw [show ((0 : Int)).toNat = 0 from rfl] at hx814_4); (try rw [show 0 * 5 = 0 from rfl] at hx814_4); (try rw [Addr.add_zero'] at hx814_4); replace p814 := eq_true p814; replace q814 := eq_true q814))
           go_ret
           exact ⟨eT, bT HB⟩
          exact absurd ((Option.some.inj H).trans HR.out) (by decide)
         exact absurd ((Option.some.inj H).trans HR.out) (by decide)
        exact absurd ((Option.some.inj H).trans HR.out) (by decide)
       exact absurd H (by simp)
      exact absurd ((Option.some.inj H).trans HR.out) (by decide)
     exact absurd H (by simp)
    exact absurd ((Option.some.inj H).trans HR.out) (by decide)
   exact absurd H (by simp)
  exact absurd ((Option.some.inj H).trans HR.out) (by decide)
 exact absurd ((Option.some.inj H).trans HR.out) (by decide)
end Go.Proofs.YtkbhkonenkgfoaaGreat.Q
end
section
namespace Go.Proofs.YtkbhkonenkgfoaaGreat.Q
open Go.RowKit Go.Proofs.YtkbhkonenkgfoaaGreatW.PrintWords Go.Proofs.YtkbhkonenkgfoaaGreatW.PrintLast Go.Proofs.YtkbhkonenkgfoaaGreatW.PrintMore
attribute [local go_sem] dJ dH dW dV dh df dI dG
set_option linter.unusedVariables false
set_option linter.unusedSimpArgs false
theorem LP (d : Nat) (w : World) (x0 y0 : Int) (x1 y1 : Int) (x2 y2 : ByteArray) (x3 y3 : Int) (x4 y4 : ByteArray) :
 (Op.equalIn (d + 2) 29 (.agg #[.int .i64 x0, .int .i64 x1, .string x2, .int .i64 x3, .string x4]) (.agg #[.int .i64 y0, .int .i64 y1, .string y2, .int .i64 y3, .string y4])).run Tryz.prog w = .ok (x0 == y0 && (x1 == y1 && (x2.toList == y2.toList && (x3 == y3 && (x4.toList == y4.toList))))) w := by
 refine KX Tryz.underlying29 (by kernel_rfl) ?_
 refine uo (by rfl) (by go_simp; rfl) (by go_simp; rfl) (by go_simp) ?_
 refine uo (by rfl) (by go_simp; rfl) (by go_simp; rfl) (by go_simp) ?_
 refine uo (by rfl) (by go_simp; rfl) (by go_simp; rfl) (by go_simp) ?_
 refine uo (by rfl) (by go_simp; rfl) (by go_simp; rfl) (by go_simp) ?_
 exact G6 (by rfl) (by go_simp; rfl) (by go_simp; rfl) (by go_simp)
end Go.Proofs.YtkbhkonenkgfoaaGreat.Q
end
section
namespace Go.Proofs.YtkbhkonenkgfoaaGreat.Q
open Go.RowKit Go.Proofs.YtkbhkonenkgfoaaGreatW.PrintWords Go.Proofs.YtkbhkonenkgfoaaGreatW.PrintLast Go.Proofs.YtkbhkonenkgfoaaGreatW.PrintMore
attribute [local go_sem] dJ dH dW dV dh df dI dG
set_option linter.unusedVariables false
set_option linter.unusedSimpArgs false
attribute [local go_sem high] LP
/-! ### bK: function 8 -/
def bK.l0 : Nat → List (S29) → List (S29) → Int → Option (Bool)
 | 0, _, _, _ => none
 | k + 1, x0, x1, x5 => if x5 < (x0.length : Int) then (if 0 ≤ x5 then (if x5 < (x1.length : Int) then (if (!(((ax x0 x5).f0) == ((ax x1 x5).f0)) || (!(((ax x0 x5).f1) == ((ax x1 x5).f1)) || (!((((ax x0 x5).f2).toList) == (((ax x1 x5).f2).toList)) || (!(((ax x0 x5).f3) == ((ax x1 x5).f3)) || (!((((ax x0 x5).f4).toList) == (((ax x1 x5).f4).toList))))))) = true then (some false) else (bK.l0 k x0 x1 (wrap64 (x5 + 1)))) else (none)) else (none)) else (some true)
def bK.f (k : Nat) (l0 : List (S29)) (l1 : List (S29)) : Option (Bool) := if (l0.length : Int) = (l1.length : Int) then (bK.l0 k l0 l1 0) else (some false)
theorem bK.bP : ∀ k, (∀ y0 y1 y2, LeO (bK.l0 k y0 y1 y2) (bK.l0 (k + 1) y0 y1 y2))
 | 0 => fun _ _ _ r h => by simp [bK.l0] at h
 | k + 1 => by
  have ih0 := bK.bP k
  intro y0 y1 y2
  unfold bK.l0
  exact yL
theorem bK.mono : ∀ a0 a1 k, LeO (bK.f k a0 a1) (bK.f (k + 1) a0 a1) := by
 intro a0 a1 k
 have ih0 := bK.bP k
 unfold bK.f
 exact yL
set_option maxHeartbeats 8000000 in
set_option maxRecDepth 100000 in
theorem bK.calls (k : Nat) (A0 : Option Addr) (c0 : Nat) (l0 : List (S29)) (A1 : Option Addr) (c1 : Nat) (l1 : List (S29)) (r : Bool) (w : World) (hr0 : Kd.C k29 w A0 l0.length l0) (hc0 : l0.length ≤ c0) (hr1 : Kd.C k29 w A1 l1.length l1) (hc1 : l1.length ≤ c1) (h : bK.f k l0 l1 = some r) :
 Calls Tryz.prog 8 #[.slice A0 l0.length c0, .slice A1 l1.length c1] w fun e w' => e = .returned (.bool r) ∧ eF w w' := by
 have hu29 := Tryz.underlying29
 have HR0 := ae.mk hr0
 have HC0 := ae.mk hc0
 clear hr0 hc0
 have HR1 := ae.mk hr1
 have HC1 := ae.mk hc1
 clear hr1 hc1
 have H := h
 clear h
 unfold bK.f at H
 revert H
 refine yA (fun c3 c3b0 c3b1 H => ?_) fun c3 c3b0 c3b1 H => ?_
 ·have c3b2 : (l0.length == l1.length) = true := by first | simpa using c3 | (simp at c3 ⊢; omega)
  clear c3
  have H' := ae.mk H
  clear H
  go_enter Tryz.func8, Tryz.ntmps8
  go_wp2
  repeat (go_quiet (fail); try go_wp2)
  go_loopg [5] k (fun kq v5 w' => ∃ (x5_1 : Int), v5 = .int .i64 x5_1 ∧ ae (bK.l0 kq l0 l1 x5_1 = some r) ∧ ae (kq ≤ k) ∧ eF w w')
  case atStart => exact ⟨(0), fT, H', ⟨Nat.le_refl _⟩, Z0⟩
  case round =>
   clear H'
   try clear c1
   try clear p2
   try clear c3
   try clear c3b0
   try clear c3b1
   try clear c3b2
   obtain ⟨x5_1, rfl, HA, HK1, ⟨m1, rfl⟩⟩ := hrel
   cases gk with
   | zero => exact absurd HA.out (by simp [bK.l0])
   | succ k1 =>
    have H := HA.out
    clear HA
    simp only [bK.l0] at H
    revert H
    refine iQ (fun c4b0 H => ?_) fun c4b0 H => ?_
    ·revert H
     refine gJ (fun c5b0 H => ?_) fun c5 H => ?_
     ·revert H
      refine gJ (fun c6b0 H => ?_) fun c6 H => ?_
      ·revert H
       refine iC (fun c7 H => ?_) fun c7 H => ?_
       ·have c7b0 : (!(((ax l0 x5_1).f0) == ((ax l1 x5_1).f0)) || (!(((ax l0 x5_1).f1) == ((ax l1 x5_1).f1)) || (!((((ax l0 x5_1).f2).toList) == (((ax l1 x5_1).f2).toList)) || (!(((ax l0 x5_1).f3) == ((ax l1 x5_1).f3)) || (!((((ax l0 x5_1).f4).toList) == (((ax l1 x5_1).f4).toList))))))) = true := c7
        clear c7
        obtain rfl := Option.some.inj H
        have p815 : 0 ≤ (x5_1 : Int) := of_decide_eq_true aT
        have q815 : x5_1 < (l0.length : Int) := of_decide_eq_true aT
        obtain ⟨ad815, e815, hx815_0, hx815_1, hx815_2, hx815_3, hx815_4⟩ := ja HR0.out x5_1 p815 q815
        cases e815
        replace p815 := eq_true p815
        replace q815 := eq_true q815
        have p816 : 0 ≤ (x5_1 : Int) := of_decide_eq_true aT
        have q816 : x5_1 < (l1.length : Int) := of_decide_eq_true aT
        obtain ⟨ad816, e816, hx816_0, hx816_1, hx816_2, hx816_3, hx816_4⟩ := ja HR1.out x5_1 p816 q816
        cases e816
        replace p816 := eq_true p816
        replace q816 := eq_true q816
        go_wp2
        repeat (go_quiet (fail); try go_wp2)
        go_ret
        exact ⟨fT, Z0⟩
       have c7b0 : (!(((ax l0 x5_1).f0) == ((ax l1 x5_1).f0)) || (!(((ax l0 x5_1).f1) == ((ax l1 x5_1).f1)) || (!((((ax l0 x5_1).f2).toList) == (((ax l1 x5_1).f2).toList)) || (!(((ax l0 x5_1).f3) == ((ax l1 x5_1).f3)) || (!((((ax l0 x5_1).f4).toList) == (((ax l1 x5_1).f4).toList))))))) = false := by simpa using c7
       clear c7
       have H' := ae.mk H
       clear H
       have p815 : 0 ≤ (x5_1 : Int) := of_decide_eq_true aT
       have q815 : x5_1 < (l0.length : Int) := of_decide_eq_true aT
       obtain ⟨ad815, e815, hx815_0, hx815_1, hx815_2, hx815_3, hx815_4⟩ := ja HR0.out x5_1 p815 q815
       cases e815
       replace p815 := eq_true p815
       replace q815 := eq_true q815
       have p816 : 0 ≤ (x5_1 : Int) := of_decide_eq_true aT
       have q816 : x5_1 < (l1.length : Int) := of_decide_eq_true aT
       obtain ⟨ad816, e816, hx816_0, hx816_1, hx816_2, hx816_3, hx816_4⟩ := ja HR1.out x5_1 p816 q816
       cases e816
       replace p816 := eq_true p816
       replace q816 := eq_true q816
       go_wp2
       repeat (go_quiet (fail); try go_wp2)
       go_roundg k1
       case measure => have := HK1.out; omega
       case rel => exact ⟨(wrap64 (x5_1 + 1)), fT, H', ⟨by have := HK1.out; omega⟩, Z0⟩
      exact absurd H (by simp)
     exact absurd H (by simp)
    obtain rfl := Option.some.inj H
    go_wp2
    repeat (go_quiet (fail); try go_wp2)
    go_ret
    exact ⟨fT, Z0⟩
 have c3b2 : (l0.length == l1.length) = false := by first | simpa using c3 | (simp at c3 ⊢; omega)
 obtain rfl := Option.some.inj H
 go_enter Tryz.func8, Tryz.ntmps8
 go_wp2
 repeat (go_quiet (fail); try go_wp2)
 go_ret
 exact ⟨fT, Z0⟩
end Go.Proofs.YtkbhkonenkgfoaaGreat.Q
end
section
namespace Go.Proofs.YtkbhkonenkgfoaaGreat.Q
open Go.RowKit Go.Proofs.YtkbhkonenkgfoaaGreatW.PrintWords Go.Proofs.YtkbhkonenkgfoaaGreatW.PrintLast Go.Proofs.YtkbhkonenkgfoaaGreatW.PrintMore
attribute [local go_sem] dJ dH dW dV dh df dI dG
set_option linter.unusedVariables false
set_option linter.unusedSimpArgs false
/-! ### fD: function 56 -/
def fD.f (a0 : Int) : Option (Bool) := if a0 ≥ 97 then (some (decide (a0 ≤ 122))) else (some false)
set_option maxHeartbeats 8000000 in
set_option maxRecDepth 100000 in
theorem fD.calls (a0 : Int) (r : Bool) (w : World) (h : fD.f a0 = some r) :
 Calls Tryz.prog 56 #[.int .u8 a0] w fun e w' => e = .returned (.bool r) ∧ eF w w' := by
 have H := h
 clear h
 unfold fD.f at H
 revert H
 refine iC (fun c2 H => ?_) fun c2 H => ?_
 ·have c2b0 : decide (97 ≤ a0) = true := decide_eq_true c2
  clear c2
  obtain rfl := Option.some.inj H
  go_enter Tryz.func56, Tryz.ntmps56
  go_wp2
  go_ret
  exact ⟨fT, Z0⟩
 have c2b0 : decide (97 ≤ a0) = false := decide_eq_false c2
 clear c2
 obtain rfl := Option.some.inj H
 go_enter Tryz.func56, Tryz.ntmps56
 go_wp2
 go_ret
 exact ⟨fT, Z0⟩
/-! ### fK: function 59 -/
def fK.f (a0 : Int) : Option (Bool) := if a0 ≥ 48 then (some (decide (a0 ≤ 57))) else (some false)
set_option maxHeartbeats 8000000 in
set_option maxRecDepth 100000 in
theorem fK.calls (a0 : Int) (r : Bool) (w : World) (h : fK.f a0 = some r) :
 Calls Tryz.prog 59 #[.int .u8 a0] w fun e w' => e = .returned (.bool r) ∧ eF w w' := by
 have H := h
 clear h
 unfold fK.f at H
 revert H
 refine iC (fun c2 H => ?_) fun c2 H => ?_
 ·have c2b0 : decide (48 ≤ a0) = true := decide_eq_true c2
  clear c2
  obtain rfl := Option.some.inj H
  go_enter Tryz.func59, Tryz.ntmps59
  go_wp2
  go_ret
  exact ⟨fT, Z0⟩
 have c2b0 : decide (48 ≤ a0) = false := decide_eq_false c2
 clear c2
 obtain rfl := Option.some.inj H
 go_enter Tryz.func59, Tryz.ntmps59
 go_wp2
 go_ret
 exact ⟨fT, Z0⟩
/-! ### bu: function 57 -/
def bu.l0 : Nat → ByteArray → Int → Int → Option (Int)
 | 0, _, _, _ => none
 | k + 1, x0, x1, x5 => if (wrap64 (x1 + x5)) < (x0.size : Int) then (if 0 ≤ (wrap64 (x1 + x5)) then ((fD.f (bt x0 (wrap64 (x1 + x5)))).bind fun t1189 => (if t1189 = true then (bu.l0 k x0 x1 (wrap64 (x5 + 1))) else (if x5 > 0 then ((fK.f (bt x0 (wrap64 (x1 + x5)))).bind fun t1190 => (if t1190 = true then (bu.l0 k x0 x1 (wrap64 (x5 + 1))) else (if (bt x0 (wrap64 (x1 + x5))) = 95 then (bu.l0 k x0 x1 (wrap64 (x5 + 1))) else (some x5)))) else (some x5)))) else (none)) else (some x5)
def bu.f (k : Nat) (a0 : ByteArray) (a1 : Int) : Option (Int) := bu.l0 k a0 a1 0
theorem bu.bP : ∀ k, (∀ y0 y1 y2, LeO (bu.l0 k y0 y1 y2) (bu.l0 (k + 1) y0 y1 y2))
 | 0 => fun _ _ _ r h => by simp [bu.l0] at h
 | k + 1 => by
  have ih0 := bu.bP k
  intro y0 y1 y2
  unfold bu.l0
  exact yL
theorem bu.mono : ∀ a0 a1 k, LeO (bu.f k a0 a1) (bu.f (k + 1) a0 a1) := by
 intro a0 a1 k
 have ih0 := bu.bP k
 unfold bu.f
 exact yL
set_option maxHeartbeats 8000000 in
set_option maxRecDepth 100000 in
theorem bu.calls (k : Nat) (a0 : ByteArray) (a1 : Int) (r : Int) (w : World) (h : bu.f k a0 a1 = some r) :
 Calls Tryz.prog 57 #[.string a0, .int .i64 a1] w fun e w' => e = .returned (.int .i64 r) ∧ eF w w' := by
 have H := h
 clear h
 unfold bu.f at H
 have H' := ae.mk H
 clear H
 go_enter Tryz.func57, Tryz.ntmps57
 go_wp2
 go_loopg [5] k (fun kq v5 w' => ∃ (x5_1 : Int), v5 = .int .i64 x5_1 ∧ ae (bu.l0 kq a0 a1 x5_1 = some r) ∧ ae (kq ≤ k) ∧ eF w w')
 case atStart => exact ⟨(0), fT, H', ⟨Nat.le_refl _⟩, Z0⟩
 case round =>
  clear H'
  try clear p2
  obtain ⟨x5_1, rfl, HA, HK1, ⟨m1, rfl⟩⟩ := hrel
  cases gk with
  | zero => exact absurd HA.out (by simp [bu.l0])
  | succ k1 =>
   have H := HA.out
   clear HA
   simp only [bu.l0] at H
   revert H
   refine iQ (fun c3b0 H => ?_) fun c3b0 H => ?_
   ·obtain ⟨ji4, hji4⟩ : ∃ j_ : Int, (wrap64 (a1 + x5_1)) = j_ := ⟨_, rfl⟩
    replace H : (if 0 ≤ (ji4) then ((fD.f (bt a0 (ji4))).bind fun t1189 => (if t1189 = true then (bu.l0 k1 a0 a1 (wrap64 (x5_1 + 1))) else (if x5_1 > 0 then ((fK.f (bt a0 (ji4))).bind fun t1190 => (if t1190 = true then (bu.l0 k1 a0 a1 (wrap64 (x5_1 + 1))) else (if (bt a0 (ji4)) = 95 then (bu.l0 k1 a0 a1 (wrap64 (x5_1 + 1))) else (some x5_1)))) else (some x5_1)))) else (none)) = some r := by first | (rw [hji4] at H; exact H) | (simp only [hji4] at H ⊢; exact H)
    (try rw [hji4] at c3b0)
    have hji4w : (IntKind.i64.wrap (a1 + x5_1)) = ji4 := (gX _).trans hji4
    revert H
    refine gJ (fun c5b0 H => ?_) fun c5 H => ?_
    ·revert H
     refine yB1 fun t1189 A7 H => ?_
     cases t1189
     rotate_left
     ·replace H := yT H
      have H' := ae.mk H
      clear H
      have p6 : 0 ≤ ((ji4) : Int) := of_decide_eq_true aT
      have q6 : (ji4) < (a0.size : Int) := of_decide_eq_true aT
      have hx6 := iE a0 (ji4)
      replace p6 := eq_true p6
      replace q6 := eq_true q6
      go_wp2_with (first | (go_at_call 56; (with_reducible refine (fD.calls (bt a0 (ji4)) true _ A7.out).mono ?_); rintro e w' ⟨rfl, ⟨nd, rfl⟩⟩))
      go_roundg k1
      case measure => have := HK1.out; omega
      case rel => exact ⟨(wrap64 (x5_1 + 1)), fT, H', ⟨by have := HK1.out; omega⟩, Z0⟩
     replace H := yF H
     revert H
     refine iC (fun c9 H => ?_) fun c9 H => ?_
     ·have c9b0 : decide (0 < x5_1) = true := decide_eq_true c9
      clear c9
      revert H
      refine yB1 fun t1190 A11 H => ?_
      cases t1190
      rotate_left
      ·replace H := yT H
       have H' := ae.mk H
       clear H
       have p6 : 0 ≤ ((ji4) : Int) := of_decide_eq_true aT
       have q6 : (ji4) < (a0.size : Int) := of_decide_eq_true aT
       have hx6 := iE a0 (ji4)
       replace p6 := eq_true p6
       replace q6 := eq_true q6
       go_wp2_with (first | (go_at_call 56; (with_reducible refine (fD.calls (bt a0 (ji4)) false _ A7.out).mono ?_); rintro e w' ⟨rfl, ⟨nd, rfl⟩⟩; have p10 : 0 ≤ ((ji4) : Int) := of_decide_eq_true aT; have q10 : (ji4) < (a0.size : Int) := of_decide_eq_true aT; have hx10 := iE a0 (ji4); replace p10 := eq_true p10; replace q10 := eq_true q10) | (go_at_call 59; (with_reducible refine (fK.calls (bt a0 (ji4)) true _ A11.out).mono ?_); rintro e w' ⟨rfl, ⟨nd, rfl⟩⟩))
       go_roundg k1
       case measure => have := HK1.out; omega
       case rel => exact ⟨(wrap64 (x5_1 + 1)), fT, H', ⟨by have := HK1.out; omega⟩, Z0⟩
      replace H := yF H
      revert H
      refine cZ (fun c14b0 c14b1 H => ?_) fun c14 c14b0 c14b1 H => ?_
      ·have H' := ae.mk H
       clear H
       have p6 : 0 ≤ ((ji4) : Int) := of_decide_eq_true aT
       have q6 : (ji4) < (a0.size : Int) := of_decide_eq_true aT
       have hx6 := iE a0 (ji4)
       replace p6 := eq_true p6
       replace q6 := eq_true q6
       go_wp2_with (first | (go_at_call 56; (with_reducible refine (fD.calls (bt a0 (ji4)) false _ A7.out).mono ?_); rintro e w' ⟨rfl, ⟨nd, rfl⟩⟩; have p10 : 0 ≤ ((ji4) : Int) := of_decide_eq_true aT; have q10 : (ji4) < (a0.size : Int) := of_decide_eq_true aT; have hx10 := iE a0 (ji4); replace p10 := eq_true p10; replace q10 := eq_true q10) | (go_at_call 59; (with_reducible refine (fK.calls (bt a0 (ji4)) false _ A11.out).mono ?_); rintro e w' ⟨rfl, ⟨nd, rfl⟩⟩; have p13 : 0 ≤ ((ji4) : Int) := of_decide_eq_true aT; have q13 : (ji4) < (a0.size : Int) := of_decide_eq_true aT; have hx13 := iE a0 (ji4); replace p13 := eq_true p13; replace q13 := eq_true q13))
       go_roundg k1
       case measure => have := HK1.out; omega
       case rel => exact ⟨(wrap64 (x5_1 + 1)), fT, H', ⟨by have := HK1.out; omega⟩, Z0⟩
      obtain rfl := Option.some.inj H
      have p6 : 0 ≤ ((ji4) : Int) := of_decide_eq_true aT
      have q6 : (ji4) < (a0.size : Int) := of_decide_eq_true aT
      have hx6 := iE a0 (ji4)
      replace p6 := eq_true p6
      replace q6 := eq_true q6
      go_wp2_with (first | (go_at_call 56; (with_reducible refine (fD.calls (bt a0 (ji4)) false _ A7.out).mono ?_); rintro e w' ⟨rfl, ⟨nd, rfl⟩⟩; have p10 : 0 ≤ ((ji4) : Int) := of_decide_eq_true aT; have q10 : (ji4) < (a0.size : Int) := of_decide_eq_true aT; have hx10 := iE a0 (ji4); replace p10 := eq_true p10; replace q10 := eq_true q10) | (go_at_call 59; (with_reducible refine (fK.calls (bt a0 (ji4)) false _ A11.out).mono ?_); rintro e w' ⟨rfl, ⟨nd, rfl⟩⟩; have p13 : 0 ≤ ((ji4) : Int) := of_decide_eq_true aT; have q13 : (ji4) < (a0.size : Int) := of_decide_eq_true aT; have hx13 := iE a0 (ji4); replace p13 := eq_true p13; replace q13 := eq_true q13))
      go_ret
      exact ⟨by first | rfl | (simp; done) | (simp only [← hji4] <;> (first | rfl | simp)) | (simp [*]; done), Z0⟩
     have c9b0 : decide (0 < x5_1) = false := decide_eq_false c9
     clear c9
     obtain rfl := Option.some.inj H
     have p6 : 0 ≤ ((ji4) : Int) := of_decide_eq_true aT
     have q6 : (ji4) < (a0.size : Int) := of_decide_eq_true aT
     have hx6 := iE a0 (ji4)
     replace p6 := eq_true p6
     replace q6 := eq_true q6
     go_wp2_with (first | (go_at_call 56; (with_reducible refine (fD.calls (bt a0 (ji4)) false _ A7.out).mono ?_); rintro e w' ⟨rfl, ⟨nd, rfl⟩⟩))
     go_ret
     exact ⟨by first | rfl | (simp; done) | (simp only [← hji4] <;> (first | rfl | simp)) | (simp [*]; done), Z0⟩
    exact absurd H (by simp)
   obtain rfl := Option.some.inj H
   go_wp2
   go_ret
   exact ⟨fT, Z0⟩
end Go.Proofs.YtkbhkonenkgfoaaGreat.Q
end
