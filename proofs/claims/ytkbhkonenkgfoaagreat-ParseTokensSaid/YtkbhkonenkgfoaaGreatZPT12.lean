/- Walks over functions of the program, words for them, and what the functions come to; of each text only what this claim uses; no condition. -/
import Derived.Test.YtkbhkonenkgfoaaGreatZPT0
import Derived.Test.YtkbhkonenkgfoaaGreatZPT1
import Derived.Test.YtkbhkonenkgfoaaGreatZPT3
section
namespace Go.Proofs.YtkbhkonenkgfoaaGreat.Q
open Go.RowKit Go.Proofs.YtkbhkonenkgfoaaGreatW.PrintWords Go.Proofs.YtkbhkonenkgfoaaGreatW.PrintLast Go.Proofs.YtkbhkonenkgfoaaGreatW.PrintMore
attribute [local go_sem] dJ dH dS dR cZ cO dI dG
set_option linter.unusedVariables false
set_option linter.unusedSimpArgs false
/-! ### gm: function 68 -/
def gm.j0 : Nat → Int → Int → Bool → Option (Int × Bool)
 | 0, _, _, _ => none
 | k + 1, x0, x4, x9 => if x9 = true then (some (1, true)) else (if x4 = 19 then (some (4, true)) else (if x4 = 20 then (some (32, true)) else (if x4 = 23 then (some (3, true)) else (if x4 = 27 then (some (8, true)) else (if x4 = 28 then (some (16, true)) else (if x0 ≥ 1 then (some (0, decide (x0 ≤ 30))) else (some (0, false))))))))
def gm.f (k : Nat) (a0 : Int) : Option (Int × Bool) := if a0 = 1 then (some (5, true)) else (if a0 = 2 then (some (7, true)) else (if a0 = 3 then (gm.j0 k a0 a0 (a0 == 3)) else (if a0 = 4 then (gm.j0 k a0 a0 (a0 == 4)) else (if a0 = 6 then (gm.j0 k a0 a0 (a0 == 6)) else (if a0 = 7 then (gm.j0 k a0 a0 (a0 == 7)) else (gm.j0 k a0 a0 (a0 == 21)))))))
theorem gm.bZ : ∀ k, (∀ y0 y1 y2, LeO (gm.j0 k y0 y1 y2) (gm.j0 (k + 1) y0 y1 y2))
 | 0 => fun _ _ _ r h => by simp [gm.j0] at h
 | k + 1 => by
  have ih0 := gm.bZ k
  intro y0 y1 y2
  unfold gm.j0
  exact yL
theorem gm.mono : ∀ a0 k, LeO (gm.f k a0) (gm.f (k + 1) a0) := by
 intro a0 k
 have ih0 := gm.bZ k
 unfold gm.f
 exact yL
set_option maxHeartbeats 8000000 in
set_option maxRecDepth 100000 in
theorem gm.calls (k : Nat) (a0 : Int) (r1 : Int) (r2 : Bool) (w : World) (h : gm.f k a0 = some (r1, r2)) :
 Calls Tryz.prog 68 #[.int .i64 a0] w fun e w' => e = .returned (.tuple #[.int .i64 r1, .bool r2]) ∧ dZ w w' := by
 have H := h
 clear h
 unfold gm.f at H
 revert H
 refine aU (fun c2b0 c2b1 H => ?_) fun c2 c2b0 c2b1 H => ?_
 ·simp only [Option.some.injEq, Prod.mk.injEq] at H
  obtain ⟨rfl, rfl⟩ := H
  go_enter Tryz.func68, Tryz.ntmps68
  go_wp2
  go_ret2
  exact ⟨fT, Z0⟩
 revert H
 refine aU (fun c3b0 c3b1 H => ?_) fun c3 c3b0 c3b1 H => ?_
 ·simp only [Option.some.injEq, Prod.mk.injEq] at H
  obtain ⟨rfl, rfl⟩ := H
  go_enter Tryz.func68, Tryz.ntmps68
  go_wp2
  go_ret2
  exact ⟨fT, Z0⟩
 have HC4 := af.mk H
 clear H
 go_enter Tryz.func68, Tryz.ntmps68
 go_upto_if 9 with (fail)
 go_cut [9] (fun v9 wc => ∃ (kq : Nat) (x9_3 : Bool), v9 = .bool x9_3 ∧ af (gm.j0 kq a0 a0 x9_3 = some (r1, r2)) ∧ af (kq ≤ k) ∧ dZ w wc)
 case first =>
  have H := HC4.out
  clear HC4
  revert H
  refine aU (fun c5b0 c5b1 H => ?_) fun c5 c5b0 c5b1 H => ?_
  ·(first | rw [c5b0] | (simp only [fP, gG]; rw [c5b0]) | skip)
   have H' := af.mk H
   clear H
   go_wp2
   go_meet
   case rel => exact ⟨_, ((a0 == 3)), fT, H', ⟨Z11⟩, Z0⟩
  (first | rw [c5b0] | (simp only [fP, gG]; rw [c5b0]) | skip)
  revert H
  refine aU (fun c6b0 c6b1 H => ?_) fun c6 c6b0 c6b1 H => ?_
  ·have H' := af.mk H
   clear H
   go_wp2
   go_meet
   case rel => exact ⟨_, ((a0 == 4)), fT, H', ⟨Z11⟩, Z0⟩
  revert H
  refine aU (fun c7b0 c7b1 H => ?_) fun c7 c7b0 c7b1 H => ?_
  ·have H' := af.mk H
   clear H
   go_wp2
   go_meet
   case rel => exact ⟨_, ((a0 == 6)), fT, H', ⟨Z11⟩, Z0⟩
  revert H
  refine aU (fun c8b0 c8b1 H => ?_) fun c8 c8b0 c8b1 H => ?_
  ·have H' := af.mk H
   clear H
   go_wp2
   go_meet
   case rel => exact ⟨_, ((a0 == 7)), fT, H', ⟨Z11⟩, Z0⟩
  have H' := af.mk H
  clear H
  go_wp2
  go_meet
  case rel => exact ⟨_, ((a0 == 21)), fT, H', ⟨Z11⟩, Z0⟩
 case rest =>
  clear HC4
  try clear c2
  try clear c2b0
  try clear c2b1
  try clear p2
  try clear c3
  try clear c3b0
  try clear c3b1
  try clear c5
  try clear c5b0
  try clear c5b1
  try clear c6
  try clear c6b0
  try clear c6b1
  try clear c7
  try clear c7b0
  try clear c7b1
  try clear c8
  try clear c8b0
  try clear c8b1
  obtain ⟨kq, x9_3, rfl, HA, HJ3, ⟨mc3, rfl⟩⟩ := hcut
  cases kq with
  | zero => exact absurd HA.out (by simp [gm.j0])
  | succ kj3 =>
   have H := HA.out
   clear HA
   simp only [gm.j0] at H
   cases x9_3
   rotate_left
   ·replace H := yT H
    simp only [Option.some.injEq, Prod.mk.injEq] at H
    obtain ⟨rfl, rfl⟩ := H
    go_wp2
    go_ret2
    exact ⟨fT, Z0⟩
   replace H := yF H
   revert H
   refine aU (fun c10b0 c10b1 H => ?_) fun c10 c10b0 c10b1 H => ?_
   ·simp only [Option.some.injEq, Prod.mk.injEq] at H
    obtain ⟨rfl, rfl⟩ := H
    go_wp2
    go_ret2
    exact ⟨fT, Z0⟩
   revert H
   refine aU (fun c11b0 c11b1 H => ?_) fun c11 c11b0 c11b1 H => ?_
   ·simp only [Option.some.injEq, Prod.mk.injEq] at H
    obtain ⟨rfl, rfl⟩ := H
    go_wp2
    go_ret2
    exact ⟨fT, Z0⟩
   revert H
   refine aU (fun c12b0 c12b1 H => ?_) fun c12 c12b0 c12b1 H => ?_
   ·simp only [Option.some.injEq, Prod.mk.injEq] at H
    obtain ⟨rfl, rfl⟩ := H
    go_wp2
    go_ret2
    exact ⟨fT, Z0⟩
   revert H
   refine aU (fun c13b0 c13b1 H => ?_) fun c13 c13b0 c13b1 H => ?_
   ·simp only [Option.some.injEq, Prod.mk.injEq] at H
    obtain ⟨rfl, rfl⟩ := H
    go_wp2
    go_ret2
    exact ⟨fT, Z0⟩
   revert H
   refine aU (fun c14b0 c14b1 H => ?_) fun c14 c14b0 c14b1 H => ?_
   ·simp only [Option.some.injEq, Prod.mk.injEq] at H
    obtain ⟨rfl, rfl⟩ := H
    go_wp2
    go_ret2
    exact ⟨fT, Z0⟩
   revert H
   refine gU (fun c15 H => ?_) fun c15 H => ?_
   ·have c15b0 : decide (1 ≤ a0) = true := decide_eq_true c15
    clear c15
    simp only [Option.some.injEq, Prod.mk.injEq] at H
    obtain ⟨rfl, rfl⟩ := H
    go_wp2
    go_ret2
    exact ⟨fT, Z0⟩
   have c15b0 : decide (1 ≤ a0) = false := decide_eq_false c15
   clear c15
   simp only [Option.some.injEq, Prod.mk.injEq] at H
   obtain ⟨rfl, rfl⟩ := H
   go_wp2
   go_ret2
   exact ⟨fT, Z0⟩
end Go.Proofs.YtkbhkonenkgfoaaGreat.Q
end
section
namespace Go.Proofs.YtkbhkonenkgfoaaGreat.Q
open Go.RowKit Go.Proofs.YtkbhkonenkgfoaaGreatW.PrintWords Go.Proofs.YtkbhkonenkgfoaaGreatW.PrintLast Go.Proofs.YtkbhkonenkgfoaaGreatW.PrintMore
attribute [local go_sem] dJ dH dS dR cZ cO dI dG
set_option linter.unusedVariables false
set_option linter.unusedSimpArgs false
/-! ### jL: function 69 -/
def jL.f (a0 : Int) : Option (Int × Int) := if a0 = 1 then (some (1, 2147483647)) else (if a0 = 2 then (some (0, 8)) else (some (0, 9223372036854775807)))
set_option maxHeartbeats 8000000 in
set_option maxRecDepth 100000 in
theorem jL.calls (a0 : Int) (r1 : Int) (r2 : Int) (w : World) (h : jL.f a0 = some (r1, r2)) :
 Calls Tryz.prog 69 #[.int .i64 a0] w fun e w' => e = .returned (.tuple #[.int .i64 r1, .int .i64 r2]) ∧ dZ w w' := by
 have H := h
 clear h
 unfold jL.f at H
 revert H
 refine aU (fun c2b0 c2b1 H => ?_) fun c2 c2b0 c2b1 H => ?_
 ·simp only [Option.some.injEq, Prod.mk.injEq] at H
  obtain ⟨rfl, rfl⟩ := H
  go_enter Tryz.func69, Tryz.ntmps69
  go_wp2
  go_ret2
  exact ⟨fT, Z0⟩
 revert H
 refine aU (fun c3b0 c3b1 H => ?_) fun c3 c3b0 c3b1 H => ?_
 ·simp only [Option.some.injEq, Prod.mk.injEq] at H
  obtain ⟨rfl, rfl⟩ := H
  go_enter Tryz.func69, Tryz.ntmps69
  go_wp2
  go_ret2
  exact ⟨fT, Z0⟩
 simp only [Option.some.injEq, Prod.mk.injEq] at H
 obtain ⟨rfl, rfl⟩ := H
 go_enter Tryz.func69, Tryz.ntmps69
 go_wp2
 go_ret2
 exact ⟨fT, Z0⟩
end Go.Proofs.YtkbhkonenkgfoaaGreat.Q
end
section
namespace Go.Proofs.YtkbhkonenkgfoaaGreat.Q
open Go.RowKit Go.Proofs.YtkbhkonenkgfoaaGreatW.PrintWords Go.Proofs.YtkbhkonenkgfoaaGreatW.PrintLast Go.Proofs.YtkbhkonenkgfoaaGreatW.PrintMore
attribute [local go_sem] dJ dH dS dR cZ cO dI dG
set_option linter.unusedVariables false
set_option linter.unusedSimpArgs false
/-! ### dB: function 92 -/
mutual
def dB.l0 : Nat → ByteArray → ByteArray → Int → Int → Option (Bool)
 | 0, _, _, _, _ => none
 | k + 1, x0, x1, x9, x10 => if x10 < x9 then (if 0 ≤ x10 then (if x10 < (x1.size : Int) then (if (bt x1 x10) = 32 then (some false) else (dB.l0 k x0 x1 x9 (wrap64 (x10 + 1)))) else (none)) else (none)) else (dB.l1 k x0 x1 (wrap64 ((x1.size : Int) + 2)) 0)
def dB.l1 : Nat → ByteArray → ByteArray → Int → Int → Option (Bool)
 | 0, _, _, _, _ => none
 | k + 1, x0, x1, x6, x7 => if x1.toList = ([] : List UInt8) then (dB.j2 k x0 x1 x6 x7 false) else (dB.j2 k x0 x1 x6 x7 (decide ((wrap64 (x7 + x6)) ≤ (x0.size : Int))))
def dB.j2 : Nat → ByteArray → ByteArray → Int → Int → Bool → Option (Bool)
 | 0, _, _, _, _, _ => none
 | k + 1, x0, x1, x6, x7, x30 => if x30 = true then (if 0 ≤ x7 then (if x7 ≤ (wrap64 (x7 + x6)) then (if (wrap64 (x7 + x6)) ≤ (x0.size : Int) then (if 1 + x1.size ≤ 9223372036854775807 then (if ((⟨#[32]⟩ : ByteArray) ++ x1).size + 1 ≤ 9223372036854775807 then (if (x0.extract (x7 : Int).toNat ((wrap64 (x7 + x6)) : Int).toNat).toList = (((⟨#[32]⟩ : ByteArray) ++ x1) ++ (⟨#[32]⟩ : ByteArray)).toList then (some true) else (dB.l1 k x0 x1 x6 (wrap64 (x7 + 1)))) else (none)) else (none)) else (none)) else (none)) else (none)) else (some false)
end
def dB.f (k : Nat) (a0 : ByteArray) (a1 : ByteArray) : Option (Bool) := dB.l0 k a0 a1 (a1.size : Int) 0
theorem dB.bZ : ∀ k, (∀ y0 y1 y2 y3, LeO (dB.l0 k y0 y1 y2 y3) (dB.l0 (k + 1) y0 y1 y2 y3)) ∧ (∀ y0 y1 y2 y3, LeO (dB.l1 k y0 y1 y2 y3) (dB.l1 (k + 1) y0 y1 y2 y3)) ∧ (∀ y0 y1 y2 y3 y4, LeO (dB.j2 k y0 y1 y2 y3 y4) (dB.j2 (k + 1) y0 y1 y2 y3 y4))
 | 0 => ⟨fun _ _ _ _ r h => by simp [dB.l0] at h, fun _ _ _ _ r h => by simp [dB.l1] at h, fun _ _ _ _ _ r h => by simp [dB.j2] at h⟩
 | k + 1 => by
  obtain ⟨ih0, ih1, ih2⟩ := dB.bZ k
  refine ⟨?_, ?_, ?_⟩
  ·intro y0 y1 y2 y3
   unfold dB.l0
   exact yL
  ·intro y0 y1 y2 y3
   unfold dB.l1
   exact yL
  intro y0 y1 y2 y3 y4
  unfold dB.j2
  exact yL
theorem dB.mono : ∀ a0 a1 k, LeO (dB.f k a0 a1) (dB.f (k + 1) a0 a1) := by
 intro a0 a1 k
 obtain ⟨ih0, ih1, ih2⟩ := dB.bZ k
 unfold dB.f
 exact yL
set_option maxHeartbeats 8000000 in
set_option maxRecDepth 100000 in
theorem dB.calls (k : Nat) (a0 : ByteArray) (a1 : ByteArray) (r : Bool) (w : World) (h : dB.f k a0 a1 = some r) :
 Calls Tryz.prog 92 #[.string a0, .string a1] w fun e w' => e = .returned (.bool r) ∧ dZ w w' := by
 have H := h
 clear h
 unfold dB.f at H
 have H' := af.mk H
 clear H
 go_enter Tryz.func92, Tryz.ntmps92
 go_wp2
 go_loopg [10] k (fun kq v10 w' => ∃ (x10_1 : Int), v10 = .int .i64 x10_1 ∧ af (dB.l0 kq a0 a1 (a1.size : Int) x10_1 = some r) ∧ af (kq ≤ k) ∧ dZ w w')
 case atStart => exact ⟨(0), fT, H', ⟨Nat.le_refl _⟩, Z0⟩
 case round =>
  clear H'
  try clear p2
  obtain ⟨x10_1, rfl, HA, HK1, ⟨m1, rfl⟩⟩ := hrel
  cases gk with
  | zero => exact absurd HA.out (by simp [dB.l0])
  | succ k1 =>
   have H := HA.out
   clear HA
   simp only [dB.l0] at H
   revert H
   refine iR (fun c3b0 H => ?_) fun c3b0 H => ?_
   ·revert H
    refine gB (fun c4b0 H => ?_) fun c4 H => ?_
    ·revert H
     refine gB (fun c5b0 H => ?_) fun c5 H => ?_
     ·revert H
      refine aU (fun c7b0 c7b1 H => ?_) fun c7 c7b0 c7b1 H => ?_
      ·obtain rfl := Option.some.inj H
       have p6 : 0 ≤ (x10_1 : Int) := of_decide_eq_true aT
       have q6 : x10_1 < (a1.size : Int) := of_decide_eq_true aT
       have hx6 := jr a1 x10_1
       replace p6 := eq_true p6
       replace q6 := eq_true q6
       go_wp2
       go_ret
       exact ⟨fT, Z0⟩
      have H' := af.mk H
      clear H
      have p6 : 0 ≤ (x10_1 : Int) := of_decide_eq_true aT
      have q6 : x10_1 < (a1.size : Int) := of_decide_eq_true aT
      have hx6 := jr a1 x10_1
      replace p6 := eq_true p6
      replace q6 := eq_true q6
      go_wp2
      go_roundg k1
      case measure => have := HK1.out; omega
      case rel => exact ⟨(wrap64 (x10_1 + 1)), fT, H', ⟨by have := HK1.out; omega⟩, Z0⟩
     exact absurd H (by simp)
    exact absurd H (by simp)
   have H' := af.mk H
   clear H
   go_wp2
   go_loopg [7] k1 (fun kq v7 w' => ∃ (x7_2 : Int), v7 = .int .i64 x7_2 ∧ af (dB.l1 kq a0 a1 (wrap64 ((a1.size : Int) + 2)) x7_2 = some r) ∧ af (kq ≤ k1) ∧ dZ w w')
   case atStart => exact ⟨(0), fT, H', ⟨Nat.le_refl _⟩, Z0⟩
   case round =>
    clear H'
    try clear p2
    try clear c3
    try clear c3b0
    try clear c4
    try clear c4b0
    try clear c5
    try clear c5b0
    try clear p6
    try clear q6
    try clear hx6
    try clear c7
    try clear c7b0
    try clear c7b1
    try clear p2
    try clear p6
    try clear q6
    obtain ⟨x7_2, rfl, HA, HK2, ⟨m2, rfl⟩⟩ := hrel
    cases gk with
    | zero => exact absurd HA.out (by simp [dB.l1])
    | succ k2 =>
     have H := HA.out
     clear HA
     simp only [dB.l1] at H
     have HC8 := af.mk H
     clear H
     go_upto_region 9 with (fail)
     go_cut [30] (fun v30 wc => ∃ (kq : Nat) (x30_7 : Bool), v30 = .bool x30_7 ∧ af (dB.j2 kq a0 a1 (wrap64 ((a1.size : Int) + 2)) x7_2 x30_7 = some r) ∧ af (kq ≤ k2) ∧ dZ w wc)
     case first =>
      have H := HC8.out
      clear HC8
      revert H
      refine aU (fun c9b0 c9b1 H => ?_) fun c9 c9b0 c9b1 H => ?_
      ·(first | rw [c9b0] | (simp only [fP, gG]; rw [c9b0]) | skip)
       have H' := af.mk H
       clear H
       go_wp2
       go_meet
       case rel => exact ⟨_, (false), fT, H', ⟨by have := HK1.out; have := HK2.out; first | omega | exact Nat.le_refl _⟩, Z0⟩
      (first | rw [c9b0] | (simp only [fP, gG]; rw [c9b0]) | skip)
      have H' := af.mk H
      clear H
      go_wp2
      go_meet
      case rel => exact ⟨_, (decide ((wrap64 (x7_2 + (wrap64 ((a1.size : Int) + 2)))) ≤ (a0.size : Int))), fT, H', ⟨by have := HK1.out; have := HK2.out; first | omega | exact Nat.le_refl _⟩, Z0⟩
     case rest =>
      clear HC8
      try clear p2
      try clear c3
      try clear c3b0
      try clear c4
      try clear c4b0
      try clear c5
      try clear c5b0
      try clear p6
      try clear q6
      try clear hx6
      try clear c7
      try clear c7b0
      try clear c7b1
      try clear c9
      try clear c9b0
      try clear c9b1
      try clear p2
      try clear p6
      try clear q6
      obtain ⟨kq, x30_7, rfl, HA, HJ7, ⟨mc7, rfl⟩⟩ := hcut
      cases kq with
      | zero => exact absurd HA.out (by simp [dB.j2])
      | succ kj7 =>
       have H := HA.out
       clear HA
       simp only [dB.j2] at H
       cases x30_7
       rotate_left
       ·replace H := yT H
        revert H
        refine jm (fun c11b0 c11b1 H => ?_) fun c11 H => ?_
        ·revert H
         refine oz (fun c12 c12b0 c12b1 H => ?_) fun c12 H => ?_
         ·revert H
          refine oz (fun c13 c13b0 c13b1 H => ?_) fun c13 H => ?_
          ·revert H
           refine oz (fun c14 c14b0 c14b1 H => ?_) fun c14 H => ?_
           ·try have c14b2 : (9223372036854775807 < 1 + a1.size) = False := eq_false (Nat.not_lt.2 c14)
            revert H
            refine oz (fun c15 c15b0 c15b1 H => ?_) fun c15 H => ?_
            ·have c15s := c15
             simp only [ByteArray.size_append, show ((⟨#[32]⟩ : ByteArray)).size = 1 from rfl] at c15s
             have c15t := eq_true c15s
             have c15u := eq_false (Nat.not_lt.2 c15s)
             clear c15s
             try have c15b2 : (9223372036854775807 < ((⟨#[32]⟩ : ByteArray) ++ a1).size + 1) = False := eq_false (Nat.not_lt.2 c15)
             revert H
             refine aU (fun c16b0 c16b1 H => ?_) fun c16 c16b0 c16b1 H => ?_
             ·obtain rfl := Option.some.inj H
              go_wp2
              go_ret
              exact ⟨fT, Z0⟩
             have H' := af.mk H
             clear H
             go_wp2
             go_roundg kj7
             case measure => have := HK1.out; have := HK2.out; have := HJ7.out; omega
             case rel => exact ⟨(wrap64 (x7_2 + 1)), fT, H', ⟨by have := HK1.out; have := HK2.out; have := HJ7.out; omega⟩, Z0⟩
            exact absurd H (by simp)
           exact absurd H (by simp)
          exact absurd H (by simp)
         exact absurd H (by simp)
        exact absurd H (by simp)
       replace H := yF H
       obtain rfl := Option.some.inj H
       go_wp2
       go_ret
       exact ⟨fT, Z0⟩
end Go.Proofs.YtkbhkonenkgfoaaGreat.Q
end
section
namespace Go.Proofs.YtkbhkonenkgfoaaGreat.Q
open Go.RowKit Go.Proofs.YtkbhkonenkgfoaaGreatW.PrintWords Go.Proofs.YtkbhkonenkgfoaaGreatW.PrintLast Go.Proofs.YtkbhkonenkgfoaaGreatW.PrintMore
attribute [local go_sem] dJ dH dS dR cZ cO dI dG
set_option linter.unusedVariables false
set_option linter.unusedSimpArgs false
/-! ### jd: function 70 -/
def jd.f (k : Nat) (a0 : Int) (a1 : ByteArray) : Option (Bool) := if (Go.bits .and .i64 a0 2) = 0 then (if (Go.bits .and .i64 a0 8) = 0 then (if (Go.bits .and .i64 a0 16) = 0 then (if (Go.bits .and .i64 a0 32) = 0 then (some (a1.toList == ([] : List UInt8))) else (some (decide ((a1.size : Int) ≤ 1024)))) else ((dB.f k (⟨#[32, 45, 32, 110, 111, 116, 32, 108, 101, 110, 32]⟩ : ByteArray) a1).bind fun t527 => (some t527))) else ((dB.f k (⟨#[32, 43, 32, 45, 32, 42, 32, 47, 32, 37, 32, 46, 46, 32, 61, 61, 32, 33, 61, 32, 60, 32, 60, 61, 32, 97, 110, 100, 32, 111, 114, 32]⟩ : ByteArray) a1).bind fun t528 => (some t528))) else ((iy.f k a1).bind fun t529 => (some t529))
theorem jd.mono : ∀ a0 a1 k, LeO (jd.f k a0 a1) (jd.f (k + 1) a0 a1) := by
 intro a0 a1 k
 unfold jd.f
 have m0 := iy.mono
 have m1 := dB.mono
 exact yL
set_option maxHeartbeats 8000000 in
set_option maxRecDepth 100000 in
theorem jd.calls (k : Nat) (a0 : Int) (a1 : ByteArray) (r : Bool) (w : World) (h : jd.f k a0 a1 = some r) :
 Calls Tryz.prog 70 #[.int .i64 a0, .string a1] w fun e w' => e = .returned (.bool r) ∧ Below w.heap.size w w' := by
 have HB := af.mk (Below.refl w.heap.size w)
 have H := h
 clear h
 unfold jd.f at H
 revert H
 refine aU (fun c3b0 c3b1 H => ?_) fun c3 c3b0 c3b1 H => ?_
 ·revert H
  refine aU (fun c4b0 c4b1 H => ?_) fun c4 c4b0 c4b1 H => ?_
  ·revert H
   refine aU (fun c5b0 c5b1 H => ?_) fun c5 c5b0 c5b1 H => ?_
   ·revert H
    refine aU (fun c6b0 c6b1 H => ?_) fun c6 c6b0 c6b1 H => ?_
    ·obtain rfl := Option.some.inj H
     go_enter Tryz.func70, Tryz.ntmps70
     go_wp2
     go_ret
     exact ⟨eT, bT HB⟩
    obtain rfl := Option.some.inj H
    go_enter Tryz.func70, Tryz.ntmps70
    go_wp2
    go_ret
    exact ⟨eT, bT HB⟩
   revert H
   refine yB1 fun t527 A7 H => ?_
   obtain rfl := Option.some.inj H
   go_enter Tryz.func70, Tryz.ntmps70
   go_wp2_with (first | ((with_reducible refine gC 92 rfl ?_); refine gM 92 22 rfl Tryz.func92 (dB.calls k (⟨#[32, 45, 32, 110, 111, 116, 32, 108, 101, 110, 32]⟩ : ByteArray) a1 t527 _ A7.out) ?_; rintro _ w' ⟨rfl, ⟨nd, rfl⟩⟩; refine ⟨_, rfl, ?_⟩))
   go_ret
   exact ⟨eT, bT HB⟩
  revert H
  refine yB1 fun t528 A8 H => ?_
  obtain rfl := Option.some.inj H
  go_enter Tryz.func70, Tryz.ntmps70
  go_wp2_with (first | ((with_reducible refine gC 92 rfl ?_); refine gM 92 16 rfl Tryz.func92 (dB.calls k (⟨#[32, 43, 32, 45, 32, 42, 32, 47, 32, 37, 32, 46, 46, 32, 61, 61, 32, 33, 61, 32, 60, 32, 60, 61, 32, 97, 110, 100, 32, 111, 114, 32]⟩ : ByteArray) a1 t528 _ A8.out) ?_; rintro _ w' ⟨rfl, ⟨nd, rfl⟩⟩; refine ⟨_, rfl, ?_⟩))
  go_ret
  exact ⟨eT, bT HB⟩
 revert H
 refine yB1 fun t529 A9 H => ?_
 obtain rfl := Option.some.inj H
 go_enter Tryz.func70, Tryz.ntmps70
 go_wp2_with (first | ((with_reducible refine gC 50 rfl ?_); refine gM 50 10 rfl Tryz.func50 (iy.calls k a1 t529 _ A9.out) ?_; rintro _ w10 ⟨rfl, hb⟩; refine ⟨_, rfl, yA1 (aA (bT HB) hb) ?_⟩; clear HB hb; intro HB))
 go_ret
 exact ⟨eT, bT HB⟩
end Go.Proofs.YtkbhkonenkgfoaaGreat.Q
end
section
namespace Go.Proofs.YtkbhkonenkgfoaaGreat.Q
open Go.RowKit Go.Proofs.YtkbhkonenkgfoaaGreatW.PrintWords Go.Proofs.YtkbhkonenkgfoaaGreatW.PrintLast Go.Proofs.YtkbhkonenkgfoaaGreatW.PrintMore
attribute [local go_sem] dJ dH dS dR cZ cO dI dG
set_option linter.unusedVariables false
set_option linter.unusedSimpArgs false
/-! ### dK: function 32 -/
mutual
def dK.j0 : Nat → Int → Int → Int → Bool → Int → Int → ByteArray → Int → ByteArray → Option (Bool)
 | 0, _, _, _, _, _, _, _, _, _ => none
 | k + 1, x3, x5, x6, x19, x531000, x531001, x531002, x531003, x531004 => if x19 = true then (some false) else ((iy.f k x531002).bind fun t536 => (if (((Go.bits .and .i64 x3 1) != 0) != t536) = true then (dK.j1 k x3 x5 x6 true x531000 x531001 x531002 x531003 x531004) else (if (Go.bits .and .i64 x3 1) = 0 then (dK.j1 k x3 x5 x6 (x531002.toList != ([] : List UInt8)) x531000 x531001 x531002 x531003 x531004) else (dK.j1 k x3 x5 x6 false x531000 x531001 x531002 x531003 x531004))))
def dK.j1 : Nat → Int → Int → Int → Bool → Int → Int → ByteArray → Int → ByteArray → Option (Bool)
 | 0, _, _, _, _, _, _, _, _, _ => none
 | k + 1, x3, x5, x6, x29, x531000, x531001, x531002, x531003, x531004 => if x29 = true then (some false) else (if (Go.bits .and .i64 x3 4) = 0 then (some (x531003 == 0)) else (if x531003 ≥ x5 then (some (decide (x531003 ≤ x6))) else (some false)))
end
def dK.f (k : Nat) (a0_0 : Int) (a0_1 : Int) (a0_2 : ByteArray) (a0_3 : Int) (a0_4 : ByteArray) : Option (Bool) := (gm.f k a0_0).bind fun bt531 => ((jL.f a0_0).bind fun bt533 => (if bt531.2 = true then ((jd.f k bt531.1 a0_4).bind fun t535 => (dK.j0 k bt531.1 bt533.1 bt533.2 (!t535) a0_0 a0_1 a0_2 a0_3 a0_4)) else (dK.j0 k bt531.1 bt533.1 bt533.2 true a0_0 a0_1 a0_2 a0_3 a0_4)))
theorem dK.bZ : ∀ k, (∀ y0 y1 y2 y3 y4 y5 y6 y7 y8, LeO (dK.j0 k y0 y1 y2 y3 y4 y5 y6 y7 y8) (dK.j0 (k + 1) y0 y1 y2 y3 y4 y5 y6 y7 y8)) ∧ (∀ y0 y1 y2 y3 y4 y5 y6 y7 y8, LeO (dK.j1 k y0 y1 y2 y3 y4 y5 y6 y7 y8) (dK.j1 (k + 1) y0 y1 y2 y3 y4 y5 y6 y7 y8))
 | 0 => ⟨fun _ _ _ _ _ _ _ _ _ r h => by simp [dK.j0] at h, fun _ _ _ _ _ _ _ _ _ r h => by simp [dK.j1] at h⟩
 | k + 1 => by
  obtain ⟨ih0, ih1⟩ := dK.bZ k
  refine ⟨?_, ?_⟩
  ·intro y0 y1 y2 y3 y4 y5 y6 y7 y8
   unfold dK.j0
   have m0 := iy.mono
   have m1 := gm.mono
   have m2 := jd.mono
   exact yL
  intro y0 y1 y2 y3 y4 y5 y6 y7 y8
  unfold dK.j1
  have m0 := iy.mono
  have m1 := gm.mono
  have m2 := jd.mono
  exact yL
theorem dK.mono : ∀ a0 a1 a2 a3 a4 k, LeO (dK.f k a0 a1 a2 a3 a4) (dK.f (k + 1) a0 a1 a2 a3 a4) := by
 intro a0 a1 a2 a3 a4 k
 obtain ⟨ih0, ih1⟩ := dK.bZ k
 unfold dK.f
 have m0 := iy.mono
 have m1 := gm.mono
 have m2 := jd.mono
 exact yL
set_option maxHeartbeats 8000000 in
set_option maxRecDepth 100000 in
theorem dK.calls (k : Nat) (a0_0 : Int) (a0_1 : Int) (a0_2 : ByteArray) (a0_3 : Int) (a0_4 : ByteArray) (r : Bool) (w : World) (h : dK.f k a0_0 a0_1 a0_2 a0_3 a0_4 = some r) :
 Calls Tryz.prog 32 #[.agg #[.int .i64 a0_0, .int .i64 a0_1, .string a0_2, .int .i64 a0_3, .string a0_4]] w fun e w' => e = .returned (.bool r) ∧ Below w.heap.size w w' := by
 have hu29 := Tryz.underlying29
 have HB := af.mk (Below.refl w.heap.size w)
 have H := h
 clear h
 unfold dK.f at H
 revert H
 refine yB2 fun t531 t532 A2 H => ?_
 try dsimp only at H
 revert H
 refine yB2 fun t533 t534 A3 H => ?_
 try dsimp only at H
 have HC4 := af.mk H
 clear H
 go_enter Tryz.func32, Tryz.ntmps32
 go_upto_region 3 with (first | ((with_reducible refine bH (N := 1) rfl ?_); refine fA ?hg (N := 1) ?hd (cs := #[.int .i64 a0_0, .int .i64 a0_1, .string a0_2, .int .i64 a0_3, .string a0_4]) (t := 29) ?hr ?_; (case hd => rfl); (case hg => rfl); (case hr => first | (go_simp; done) | (go_simp; rfl)); intro gb530 hg w5 hbox hb; refine yA4 (aA (bT HB) hb) (hbox) ((by rw [hg]; exact (bD (bT HB)) : w.heap.size ≤ gb530)) ((by rw [hg]; exact (bD (bT HB)) : w.heap.size ≤ gb530)) ?_; clear HB; intro HB BK530 GW530 GE530; clear hb hbox hg; have hcz6_0 : w5.cell? ⟨gb530, 0, none⟩ = some (.int .i64 a0_0) := (ag BK530.out 0).trans rfl; have hcz6_1 : w5.cell? ⟨gb530, 1, none⟩ = some (.int .i64 a0_1) := (ag BK530.out 1).trans rfl; have hcz6_2 : w5.cell? ⟨gb530, 2, none⟩ = some (.string a0_2) := (ag BK530.out 2).trans rfl; have hcz6_3 : w5.cell? ⟨gb530, 3, none⟩ = some (.int .i64 a0_3) := (ag BK530.out 3).trans rfl; have hcz6_4 : w5.cell? ⟨gb530, 4, none⟩ = some (.string a0_4) := (ag BK530.out 4).trans rfl; have hfz6_0 := ae BK530.out 0; have hfz6_1 := ae BK530.out 1; have hfz6_2 := ae BK530.out 2; have hfz6_3 := ae BK530.out 3; have hfz6_4 := ae BK530.out 4) | ((with_reducible refine gC 68 rfl ?_); refine gM 68 10 rfl Tryz.func68 (gm.calls k a0_0 t531 t532 _ A2.out) ?_; rintro _ w' ⟨rfl, ⟨nd, rfl⟩⟩; refine ⟨_, rfl, ?_⟩) | ((with_reducible refine gC 69 rfl ?_); refine gM 69 16 rfl Tryz.func69 (jL.calls a0_0 t533 t534 _ A3.out) ?_; rintro _ w' ⟨rfl, ⟨nd, rfl⟩⟩; refine ⟨_, rfl, ?_⟩))
 (try simp only [Act.put, List.setIfInBounds_toArray, List.set_cons_zero, List.set_cons_succ])
 go_cut [19] (fun v19 wc => ∃ (kq : Nat) (x19_3 : Bool), v19 = .bool x19_3 ∧ af (dK.j0 kq t531 t533 t534 x19_3 a0_0 a0_1 a0_2 a0_3 a0_4 = some r) ∧ af (kq ≤ k) ∧ af (wc.heap[gb530]? = some (.cells #[.int .i64 a0_0, .int .i64 a0_1, .string a0_2, .int .i64 a0_3, .string a0_4] 29 (0, 0))) ∧ af (Below w.heap.size w wc))
 case first =>
  have H := HC4.out
  clear HC4
  cases t532
  rotate_left
  ·replace H := yT H
   revert H
   refine yB1 fun t535 A8 H => ?_
   have H' := af.mk H
   clear H
   have hcz9_0 : w5.cell? ⟨gb530, 0, none⟩ = some (.int .i64 a0_0) := (ag BK530.out 0).trans rfl
   have hcz9_1 : w5.cell? ⟨gb530, 1, none⟩ = some (.int .i64 a0_1) := (ag BK530.out 1).trans rfl
   have hcz9_2 : w5.cell? ⟨gb530, 2, none⟩ = some (.string a0_2) := (ag BK530.out 2).trans rfl
   have hcz9_3 : w5.cell? ⟨gb530, 3, none⟩ = some (.int .i64 a0_3) := (ag BK530.out 3).trans rfl
   have hcz9_4 : w5.cell? ⟨gb530, 4, none⟩ = some (.string a0_4) := (ag BK530.out 4).trans rfl
   have hfz9_0 := ae BK530.out 0
   have hfz9_1 := ae BK530.out 1
   have hfz9_2 := ae BK530.out 2
   have hfz9_3 := ae BK530.out 3
   have hfz9_4 := ae BK530.out 4
   go_wp2_with (first | (go_at_call 70; (with_reducible refine (jd.calls k t531 a0_4 t535 _ A8.out).mono ?_); rintro e w10 ⟨rfl, hb⟩; refine yA2 (dL (g := gb530) (o := .cells #[.int .i64 a0_0, .int .i64 a0_1, .string a0_2, .int .i64 a0_3, .string a0_4] 29 (0, 0)) (by exact BK530.out) hb) (aA (bT HB) hb) ?_; clear BK530 HB; intro BK530 HB; (try clear hb)))
   go_meet
   case rel => exact ⟨_, (!t535), fT, H', ⟨Z11⟩, ⟨by exact BK530.out⟩, ⟨bT HB⟩⟩
  replace H := yF H
  have H' := af.mk H
  clear H
  go_wp2
  go_meet
  case rel => exact ⟨_, (true), fT, H', ⟨Z11⟩, ⟨by exact BK530.out⟩, ⟨bT HB⟩⟩
 case rest =>
  clear HC4
  try clear p2
  try clear c3
  try clear c6
  try clear c7
  try clear hcz6_0
  try clear hcz6_1
  try clear hcz6_2
  try clear hcz6_3
  try clear hcz6_4
  try clear hcz9_0
  try clear hcz9_1
  try clear hcz9_2
  try clear hcz9_3
  try clear hcz9_4
  try clear hfz6_0
  try clear hfz6_1
  try clear hfz6_2
  try clear hfz6_3
  try clear hfz6_4
  try clear hfz9_0
  try clear hfz9_1
  try clear hfz9_2
  try clear hfz9_3
  try clear hfz9_4
  obtain ⟨kq, x19_3, rfl, HA, HJ3, BK530, HB⟩ := hcut
  cases kq with
  | zero => exact absurd HA.out (by simp [dK.j0])
  | succ kj3 =>
   have H := HA.out
   clear HA
   simp only [dK.j0] at H
   cases x19_3
   rotate_left
   ·replace H := yT H
    obtain rfl := Option.some.inj H
    go_wp2
    go_ret
    exact ⟨eT, bT HB⟩
   replace H := yF H
   have HC12 := af.mk H
   clear H
   go_upto_region 5 with (fail)
   go_cut [29] (fun v29 wc => ∃ (kq : Nat) (x29_11 : Bool), v29 = .bool x29_11 ∧ af (dK.j1 kq t531 t533 t534 x29_11 a0_0 a0_1 a0_2 a0_3 a0_4 = some r) ∧ af (kq ≤ kj3) ∧ af (wc.heap[gb530]? = some (.cells #[.int .i64 a0_0, .int .i64 a0_1, .string a0_2, .int .i64 a0_3, .string a0_4] 29 (0, 0))) ∧ af (Below w.heap.size w wc))
   case first =>
    have H := HC12.out
    clear HC12
    revert H
    refine yB1 fun t536 A13 H => ?_
    revert H
    refine gU (fun c14 H => ?_) fun c14 H => ?_
    ·have c14b0 : (((Go.bits .and .i64 t531 1) != 0) != t536) = true := c14
     (try (have c14b1 : decide (((Go.bits .and .i64 t531 1) != 0) = t536) = false := by simpa using c14))
     (try (have c14b2 : (((Go.bits .and .i64 t531 1) != 0) == t536) = false := by simpa using c14))
     (try (have c14b3 : ¬ (((Go.bits .and .i64 t531 1) != 0) = t536) := by simpa using c14))
     clear c14
     (first | rw [c14b0] | (simp only [fP, gG]; rw [c14b0]) | skip)
     have H' := af.mk H
     clear H
     have hcz15_0 : wc.cell? ⟨gb530, 0, none⟩ = some (.int .i64 a0_0) := (ag BK530.out 0).trans rfl
     have hcz15_1 : wc.cell? ⟨gb530, 1, none⟩ = some (.int .i64 a0_1) := (ag BK530.out 1).trans rfl
     have hcz15_2 : wc.cell? ⟨gb530, 2, none⟩ = some (.string a0_2) := (ag BK530.out 2).trans rfl
     have hcz15_3 : wc.cell? ⟨gb530, 3, none⟩ = some (.int .i64 a0_3) := (ag BK530.out 3).trans rfl
     have hcz15_4 : wc.cell? ⟨gb530, 4, none⟩ = some (.string a0_4) := (ag BK530.out 4).trans rfl
     have hfz15_0 := ae BK530.out 0
     have hfz15_1 := ae BK530.out 1
     have hfz15_2 := ae BK530.out 2
     have hfz15_3 := ae BK530.out 3
     have hfz15_4 := ae BK530.out 4
     go_wp2_with (first | ((with_reducible refine gC 50 rfl ?_); refine gM 50 35 rfl Tryz.func50 (iy.calls kj3 a0_2 t536 _ A13.out) ?_; rintro _ w16 ⟨rfl, hb⟩; refine ⟨_, rfl, yA2 (dL (g := gb530) (o := .cells #[.int .i64 a0_0, .int .i64 a0_1, .string a0_2, .int .i64 a0_3, .string a0_4] 29 (0, 0)) (by exact BK530.out) hb) (aA (bT HB) hb) ?_⟩; clear BK530 HB hb; intro BK530 HB))
     go_meet
     case rel => exact ⟨_, (true), fT, H', ⟨by have := HJ3.out; first | omega | exact Nat.le_refl _⟩, ⟨by exact BK530.out⟩, ⟨bT HB⟩⟩
    have c14b0 : (((Go.bits .and .i64 t531 1) != 0) != t536) = false := by simpa using c14
    (try (have c14b1 : decide (((Go.bits .and .i64 t531 1) != 0) = t536) = true := by simpa using c14))
    (try (have c14b2 : (((Go.bits .and .i64 t531 1) != 0) == t536) = true := by simpa using c14))
    clear c14
    (first | rw [c14b0] | (simp only [fP, gG]; rw [c14b0]) | skip)
    revert H
    refine wV (fun c17 c17b0 c17b1 H => ?_) fun c17 c17b0 c17b1 H => ?_
    ·have ct_ : t536 = false := by have q_ := c14b0; rw [c17b1] at q_; simpa using q_
     clear c17
     have H' := af.mk H
     clear H
     have hcz18_0 : wc.cell? ⟨gb530, 0, none⟩ = some (.int .i64 a0_0) := (ag BK530.out 0).trans rfl
     have hcz18_1 : wc.cell? ⟨gb530, 1, none⟩ = some (.int .i64 a0_1) := (ag BK530.out 1).trans rfl
     have hcz18_2 : wc.cell? ⟨gb530, 2, none⟩ = some (.string a0_2) := (ag BK530.out 2).trans rfl
     have hcz18_3 : wc.cell? ⟨gb530, 3, none⟩ = some (.int .i64 a0_3) := (ag BK530.out 3).trans rfl
     have hcz18_4 : wc.cell? ⟨gb530, 4, none⟩ = some (.string a0_4) := (ag BK530.out 4).trans rfl
     have hfz18_0 := ae BK530.out 0
     have hfz18_1 := ae BK530.out 1
     have hfz18_2 := ae BK530.out 2
     have hfz18_3 := ae BK530.out 3
     have hfz18_4 := ae BK530.out 4
     have hem : (a0_2.toList != ([] : List UInt8)) = (!a0_2.toList.isEmpty) := by cases a0_2.toList <;> rfl
     cases hempt : a0_2.toList.isEmpty
     ·simp only [hem, hempt, Bool.not_false, Bool.not_true] at H'
      have hemq : (a0_2.toList == ([] : List UInt8)) = false := by rw [← hempt]; cases a0_2.toList <;> rfl
      clear hem
      go_wp2_with (first | ((with_reducible refine gC 50 rfl ?_); refine gM 50 35 rfl Tryz.func50 (iy.calls kj3 a0_2 t536 _ A13.out) ?_; rintro _ w19 ⟨rfl, hb⟩; refine ⟨_, rfl, yA2 (dL (g := gb530) (o := .cells #[.int .i64 a0_0, .int .i64 a0_1, .string a0_2, .int .i64 a0_3, .string a0_4] 29 (0, 0)) (by exact BK530.out) hb) (aA (bT HB) hb) ?_⟩; clear BK530 HB hb; intro BK530 HB; have hcz20_0 : w19.cell? ⟨gb530, 0, none⟩ = some (.int .i64 a0_0) := (ag BK530.out 0).trans rfl; have hcz20_1 : w19.cell? ⟨gb530, 1, none⟩ = some (.int .i64 a0_1) := (ag BK530.out 1).trans rfl; have hcz20_2 : w19.cell? ⟨gb530, 2, none⟩ = some (.string a0_2) := (ag BK530.out 2).trans rfl; have hcz20_3 : w19.cell? ⟨gb530, 3, none⟩ = some (.int .i64 a0_3) := (ag BK530.out 3).trans rfl; have hcz20_4 : w19.cell? ⟨gb530, 4, none⟩ = some (.string a0_4) := (ag BK530.out 4).trans rfl; have hfz20_0 := ae BK530.out 0; have hfz20_1 := ae BK530.out 1; have hfz20_2 := ae BK530.out 2; have hfz20_3 := ae BK530.out 3; have hfz20_4 := ae BK530.out 4))
      go_meet
      case rel => exact ⟨_, (true), fT, H', ⟨by have := HJ3.out; first | omega | exact Nat.le_refl _⟩, ⟨by exact BK530.out⟩, ⟨bT HB⟩⟩
     simp only [hem, hempt, Bool.not_false, Bool.not_true] at H'
     have hemq : (a0_2.toList == ([] : List UInt8)) = true := by rw [← hempt]; cases a0_2.toList <;> rfl
     clear hem
     go_wp2_with (first | ((with_reducible refine gC 50 rfl ?_); refine gM 50 35 rfl Tryz.func50 (iy.calls kj3 a0_2 t536 _ A13.out) ?_; rintro _ w19 ⟨rfl, hb⟩; refine ⟨_, rfl, yA2 (dL (g := gb530) (o := .cells #[.int .i64 a0_0, .int .i64 a0_1, .string a0_2, .int .i64 a0_3, .string a0_4] 29 (0, 0)) (by exact BK530.out) hb) (aA (bT HB) hb) ?_⟩; clear BK530 HB hb; intro BK530 HB; have hcz20_0 : w19.cell? ⟨gb530, 0, none⟩ = some (.int .i64 a0_0) := (ag BK530.out 0).trans rfl; have hcz20_1 : w19.cell? ⟨gb530, 1, none⟩ = some (.int .i64 a0_1) := (ag BK530.out 1).trans rfl; have hcz20_2 : w19.cell? ⟨gb530, 2, none⟩ = some (.string a0_2) := (ag BK530.out 2).trans rfl; have hcz20_3 : w19.cell? ⟨gb530, 3, none⟩ = some (.int .i64 a0_3) := (ag BK530.out 3).trans rfl; have hcz20_4 : w19.cell? ⟨gb530, 4, none⟩ = some (.string a0_4) := (ag BK530.out 4).trans rfl; have hfz20_0 := ae BK530.out 0; have hfz20_1 := ae BK530.out 1; have hfz20_2 := ae BK530.out 2; have hfz20_3 := ae BK530.out 3; have hfz20_4 := ae BK530.out 4))
     go_meet
     case rel => exact ⟨_, (false), fT, H', ⟨by have := HJ3.out; first | omega | exact Nat.le_refl _⟩, ⟨by exact BK530.out⟩, ⟨bT HB⟩⟩
    have ct_ : t536 = true := by have q_ := c14b0; rw [c17b1] at q_; simpa using q_
    have H' := af.mk H
    clear H
    have hcz21_0 : wc.cell? ⟨gb530, 0, none⟩ = some (.int .i64 a0_0) := (ag BK530.out 0).trans rfl
    have hcz21_1 : wc.cell? ⟨gb530, 1, none⟩ = some (.int .i64 a0_1) := (ag BK530.out 1).trans rfl
    have hcz21_2 : wc.cell? ⟨gb530, 2, none⟩ = some (.string a0_2) := (ag BK530.out 2).trans rfl
    have hcz21_3 : wc.cell? ⟨gb530, 3, none⟩ = some (.int .i64 a0_3) := (ag BK530.out 3).trans rfl
    have hcz21_4 : wc.cell? ⟨gb530, 4, none⟩ = some (.string a0_4) := (ag BK530.out 4).trans rfl
    have hfz21_0 := ae BK530.out 0
    have hfz21_1 := ae BK530.out 1
    have hfz21_2 := ae BK530.out 2
    have hfz21_3 := ae BK530.out 3
    have hfz21_4 := ae BK530.out 4
    go_wp2_with (first | ((with_reducible refine gC 50 rfl ?_); refine gM 50 35 rfl Tryz.func50 (iy.calls kj3 a0_2 t536 _ A13.out) ?_; rintro _ w22 ⟨rfl, hb⟩; refine ⟨_, rfl, yA2 (dL (g := gb530) (o := .cells #[.int .i64 a0_0, .int .i64 a0_1, .string a0_2, .int .i64 a0_3, .string a0_4] 29 (0, 0)) (by exact BK530.out) hb) (aA (bT HB) hb) ?_⟩; clear BK530 HB hb; intro BK530 HB))
    go_meet
    case rel => exact ⟨_, (false), fT, H', ⟨by have := HJ3.out; first | omega | exact Nat.le_refl _⟩, ⟨by exact BK530.out⟩, ⟨bT HB⟩⟩
   case rest =>
    clear HC12
    try clear c1
    try clear p2
    try clear c3
    try clear c5
    try clear c6
    try clear c7
    try clear c11
    try clear c14
    try clear c14b0
    try clear c14b1
    try clear c14b2
    try clear c17
    try clear c17b0
    try clear c17b1
    try clear hcz15_0
    try clear hcz15_1
    try clear hcz15_2
    try clear hcz15_3
    try clear hcz15_4
    try clear hcz18_0
    try clear hcz18_1
    try clear hcz18_2
    try clear hcz18_3
    try clear hcz18_4
    try clear hcz20_0
    try clear hcz20_1
    try clear hcz20_2
    try clear hcz20_3
    try clear hcz20_4
    try clear hcz21_0
    try clear hcz21_1
    try clear hcz21_2
    try clear hcz21_3
    try clear hcz21_4
    try clear hcz6_0
    try clear hcz6_1
    try clear hcz6_2
    try clear hcz6_3
    try clear hcz6_4
    try clear hcz9_0
    try clear hcz9_1
    try clear hcz9_2
    try clear hcz9_3
    try clear hcz9_4
    try clear hfz15_0
    try clear hfz15_1
    try clear hfz15_2
    try clear hfz15_3
    try clear hfz15_4
    try clear hfz18_0
    try clear hfz18_1
    try clear hfz18_2
    try clear hfz18_3
    try clear hfz18_4
    try clear hfz20_0
    try clear hfz20_1
    try clear hfz20_2
    try clear hfz20_3
    try clear hfz20_4
    try clear hfz21_0
    try clear hfz21_1
    try clear hfz21_2
    try clear hfz21_3
    try clear hfz21_4
    try clear hfz6_0
    try clear hfz6_1
    try clear hfz6_2
    try clear hfz6_3
    try clear hfz6_4
    try clear hfz9_0
    try clear hfz9_1
    try clear hfz9_2
    try clear hfz9_3
    try clear hfz9_4
    try clear p2
    obtain ⟨kq, x29_11, rfl, HA, HJ11, BK530, HB⟩ := hcut
    cases kq with
    | zero => exact absurd HA.out (by simp [dK.j1])
    | succ kj11 =>
     have H := HA.out
     clear HA
     simp only [dK.j1] at H
     cases x29_11
     rotate_left
     ·replace H := yT H
      obtain rfl := Option.some.inj H
      go_wp2
      go_ret
      exact ⟨eT, bT HB⟩
     replace H := yF H
     revert H
     refine aU (fun c24b0 c24b1 H => ?_) fun c24 c24b0 c24b1 H => ?_
     ·obtain rfl := Option.some.inj H
      have hcz25_0 : wc.cell? ⟨gb530, 0, none⟩ = some (.int .i64 a0_0) := (ag BK530.out 0).trans rfl
      have hcz25_1 : wc.cell? ⟨gb530, 1, none⟩ = some (.int .i64 a0_1) := (ag BK530.out 1).trans rfl
      have hcz25_2 : wc.cell? ⟨gb530, 2, none⟩ = some (.string a0_2) := (ag BK530.out 2).trans rfl
      have hcz25_3 : wc.cell? ⟨gb530, 3, none⟩ = some (.int .i64 a0_3) := (ag BK530.out 3).trans rfl
      have hcz25_4 : wc.cell? ⟨gb530, 4, none⟩ = some (.string a0_4) := (ag BK530.out 4).trans rfl
      have hfz25_0 := ae BK530.out 0
      have hfz25_1 := ae BK530.out 1
      have hfz25_2 := ae BK530.out 2
      have hfz25_3 := ae BK530.out 3
      have hfz25_4 := ae BK530.out 4
      go_wp2
      go_ret
      exact ⟨eT, bT HB⟩
     revert H
     refine gU (fun c26 H => ?_) fun c26 H => ?_
     ·have c26b0 : decide (t533 ≤ a0_3) = true := decide_eq_true c26
      clear c26
      obtain rfl := Option.some.inj H
      have hcz27_0 : wc.cell? ⟨gb530, 0, none⟩ = some (.int .i64 a0_0) := (ag BK530.out 0).trans rfl
      have hcz27_1 : wc.cell? ⟨gb530, 1, none⟩ = some (.int .i64 a0_1) := (ag BK530.out 1).trans rfl
      have hcz27_2 : wc.cell? ⟨gb530, 2, none⟩ = some (.string a0_2) := (ag BK530.out 2).trans rfl
      have hcz27_3 : wc.cell? ⟨gb530, 3, none⟩ = some (.int .i64 a0_3) := (ag BK530.out 3).trans rfl
      have hcz27_4 : wc.cell? ⟨gb530, 4, none⟩ = some (.string a0_4) := (ag BK530.out 4).trans rfl
      have hfz27_0 := ae BK530.out 0
      have hfz27_1 := ae BK530.out 1
      have hfz27_2 := ae BK530.out 2
      have hfz27_3 := ae BK530.out 3
      have hfz27_4 := ae BK530.out 4
      go_wp2
      go_ret
      exact ⟨eT, bT HB⟩
     have c26b0 : decide (t533 ≤ a0_3) = false := decide_eq_false c26
     clear c26
     obtain rfl := Option.some.inj H
     have hcz28_0 : wc.cell? ⟨gb530, 0, none⟩ = some (.int .i64 a0_0) := (ag BK530.out 0).trans rfl
     have hcz28_1 : wc.cell? ⟨gb530, 1, none⟩ = some (.int .i64 a0_1) := (ag BK530.out 1).trans rfl
     have hcz28_2 : wc.cell? ⟨gb530, 2, none⟩ = some (.string a0_2) := (ag BK530.out 2).trans rfl
     have hcz28_3 : wc.cell? ⟨gb530, 3, none⟩ = some (.int .i64 a0_3) := (ag BK530.out 3).trans rfl
     have hcz28_4 : wc.cell? ⟨gb530, 4, none⟩ = some (.string a0_4) := (ag BK530.out 4).trans rfl
     have hfz28_0 := ae BK530.out 0
     have hfz28_1 := ae BK530.out 1
     have hfz28_2 := ae BK530.out 2
     have hfz28_3 := ae BK530.out 3
     have hfz28_4 := ae BK530.out 4
     go_wp2
     go_ret
     exact ⟨eT, bT HB⟩
end Go.Proofs.YtkbhkonenkgfoaaGreat.Q
end
section
namespace Go.Proofs.YtkbhkonenkgfoaaGreat.Q
open Go.RowKit Go.Proofs.YtkbhkonenkgfoaaGreatW.PrintWords Go.Proofs.YtkbhkonenkgfoaaGreatW.PrintLast Go.Proofs.YtkbhkonenkgfoaaGreatW.PrintMore
attribute [local go_sem] dJ dH dS dR cZ cO dI dG
set_option linter.unusedVariables false
set_option linter.unusedSimpArgs false
/-! ### eP: function 71 -/
def eP.l0 : Nat → List Int → Int → Option (Bool)
 | 0, _, _ => none
 | k + 1, x0, x3 => if x3 < (x0.length : Int) then (if 0 ≤ x3 then (if (rd x0 x3) = 2 then (eP.l0 k x0 (wrap64 (x3 + 1))) else (if x3 ≤ (x0.length : Int) then ((lK.f (x0.drop (x3 : Int).toNat) 3).bind fun t539 => (some t539)) else (none))) else (none)) else (if 0 ≤ x3 then (if x3 ≤ (x0.length : Int) then ((lK.f (x0.drop (x3 : Int).toNat) 3).bind fun t541 => (some t541)) else (none)) else (none))
def eP.f (k : Nat) (l0 : List Int) : Option (Bool) := eP.l0 k l0 0
theorem eP.bZ : ∀ k, (∀ y0 y1, LeO (eP.l0 k y0 y1) (eP.l0 (k + 1) y0 y1))
 | 0 => fun _ _ r h => by simp [eP.l0] at h
 | k + 1 => by
  have ih0 := eP.bZ k
  intro y0 y1
  unfold eP.l0
  exact yL
theorem eP.mono : ∀ a0 k, LeO (eP.f k a0) (eP.f (k + 1) a0) := by
 intro a0 k
 have ih0 := eP.bZ k
 unfold eP.f
 exact yL
set_option maxHeartbeats 8000000 in
set_option maxRecDepth 100000 in
theorem eP.calls (k : Nat) (A0 : Option Addr) (c0 : Nat) (l0 : List Int) (r : Bool) (w : World) (hr0 : Kd.C (Kd.int .i64) w A0 l0.length l0) (hc0 : l0.length ≤ c0) (h : eP.f k l0 = some r) :
 Calls Tryz.prog 71 #[.slice A0 l0.length c0] w fun e w' => e = .returned (.bool r) ∧ Below w.heap.size w w' := by
 have HR0 := af.mk hr0
 have HC0 := af.mk hc0
 clear hr0 hc0
 have HB := af.mk (Below.refl w.heap.size w)
 have H := h
 clear h
 unfold eP.f at H
 have H' := af.mk H
 clear H
 go_enter Tryz.func71, Tryz.ntmps71
 go_wp2
 go_loopg [3] k (fun kq v3 w' => ∃ (x3_1 : Int), v3 = .int .i64 x3_1 ∧ af (eP.l0 kq l0 x3_1 = some r) ∧ af (kq ≤ k) ∧ af (Below w.heap.size w w'))
 case atStart => exact ⟨(0), fT, H', ⟨Nat.le_refl _⟩, ⟨bT HB⟩⟩
 case round =>
  clear H'
  obtain ⟨x3_1, rfl, HA, HK1, HB⟩ := hrel
  cases gk with
  | zero => exact absurd HA.out (by simp [eP.l0])
  | succ k1 =>
   have H := HA.out
   clear HA
   simp only [eP.l0] at H
   revert H
   refine iR (fun c2b0 H => ?_) fun c2b0 H => ?_
   ·revert H
    refine gB (fun c3b0 H => ?_) fun c3 H => ?_
    ·revert H
     refine aU (fun c4b0 c4b1 H => ?_) fun c4 c4b0 c4b1 H => ?_
     ·have H' := af.mk H
      clear H
      have p537 : 0 ≤ (x3_1 : Int) := of_decide_eq_true aT
      have q537 : x3_1 < (l0.length : Int) := of_decide_eq_true aT
      obtain ⟨ad537, e537, hx537_0⟩ := Kd.fO HR0.out x3_1 p537 q537
      cases e537
      replace hx537_0 := (HB.out.cell (World.block_lt_of_cell? w _ hx537_0)).trans hx537_0
      replace p537 := eq_true p537
      replace q537 := eq_true q537
      go_wp2
      go_roundg k1
      case measure => have := HK1.out; omega
      case rel => exact ⟨(wrap64 (x3_1 + 1)), fT, H', ⟨by have := HK1.out; omega⟩, ⟨bT HB⟩⟩
     have c5b0 := eq_true (of_decide_eq_true aT : 0 ≤ x3_1)
     revert H
     refine jm (fun c6b0 c6b1 H => ?_) fun c6 H => ?_
     ·revert H
      refine yB1 fun t539 A7 H => ?_
      obtain rfl := Option.some.inj H
      have p537 : 0 ≤ (x3_1 : Int) := of_decide_eq_true aT
      have q537 : x3_1 < (l0.length : Int) := of_decide_eq_true aT
      obtain ⟨ad537, e537, hx537_0⟩ := Kd.fO HR0.out x3_1 p537 q537
      cases e537
      replace hx537_0 := (HB.out.cell (World.block_lt_of_cell? w _ hx537_0)).trans hx537_0
      replace p537 := eq_true p537
      replace q537 := eq_true q537
      try go_wp2
      refine yA1 (fV HB.out) ?_
      clear HB
      intro HB
      obtain ⟨i09, hi09, _, hsz9, _⟩ := info_parts info3
      obtain ⟨A9, hcut9, hA9, hC9⟩ := mM (P := Tryz.prog) (Value.int .i64) 0 60 3 .i64 Tryz.underlying60 hi09 hsz9 (some ad537) c0 l0 x3_1 (of_decide_eq_true aT) (of_decide_eq_true aT) HC0.out
      have HR538 := af.mk (Kd.nU (h1 := fun _ => rfl) (hA9 _ (Kd.lH HR0.out)))
      have HC538 := af.mk hC9
      clear hA9 hC9 hi09 hsz9
      refine lS (n := 6) (S := fun w' => True) (ds := []) #[false, false, false, false, false, false] (by kernel_rfl) rfl rfl trivial (fun hHeld => ?_)
      generalize wr.drew = w8 at HB HR538 hHeld ⊢
      refine pA 0 17 (bQ 6 1) ?_
      refine pA 1 18 (bQ 6 3) ?_
      refine pA 2 19 (bQ 6 7) ?_
      refine rG (i := 3) (N := some 20) (bQ 6 15) rfl rfl (by kernel_rfl) (by decide) (fun K hK => ?_)
      refine o5 Tryz.func76 (by kernel_rfl) rfl #[.int .i64 3] (by rfl) rfl rfl Z17 ?_
      with_reducible refine (qj 3 _).mono ?_
      rintro e wIs ⟨gIs, rfl, hbk, hge, hb⟩
      refine ⟨_, rfl, ?_⟩
      have n0_ := af.mk (aA (bT HB) hb)
      have BKIs := af.mk hbk
      clear HB
      have HB := n0_
      clear n0_ hbk hge
      (try clear hb)
      refine hK.out _ _ trivial (fun hHeld => ?_)
      clear hK K
      refine oh (a' := ?_) ?_ ?_
      rotate_left
      ·show Act.put _ (some 20) _ = _
       simp only [Act.put, List.setIfInBounds_toArray, List.set_cons_zero, List.set_cons_succ, fP, gG]
       rfl
      refine rG (i := 4) (N := some 21) (bQ 6 31) rfl rfl (by kernel_rfl) (by decide) (fun K hK => ?_)
      refine o5 Tryz.func73 (by kernel_rfl) rfl #[.slice A9 (l0.drop (x3_1 : Int).toNat).length (c0 - x3_1.toNat), .func (.func 93) #[] #[.pointer (some ⟨gIs, 0, none⟩)]] (by rfl) rfl rfl (by (try simp only [List.map_toArray, List.map_cons, List.map_nil]); first | done | (rw [show (l0.drop (x3_1 : Int).toNat).length = (l0.length - x3_1.toNat) from List.length_drop] <;> rfl) | rfl | (simp only [List.length_drop, List.length_take]; rfl)) ?_
      with_reducible refine (lK.calls _ _ (l0.drop (x3_1 : Int).toNat) 3 t539 _ ?side1 ?side2 A7.out (hj := ?side3)).mono ?_
      (case side3 => exact BKIs.out)
      (case side1 => repeat (first | exact (Kd.jW HR538.out HB.out) | (with_reducible refine Kd.jR ?_ _) | (with_reducible refine Kd.jQ ?_ _) | (with_reducible refine Kd.kV ?_)))
      (case side2 => exact HC538.out)
      rintro e w10 ⟨rfl, hb⟩
      refine ⟨_, rfl, ?_⟩
      refine yA1 (aA (bT HB) hb) ?_
      clear HB
      intro HB
      (try clear hb)
      (try clear hb2)
      (try clear hk)
      (try clear hi)
      refine hK.out _ _ trivial (fun hHeld => ?_)
      clear hK K
      refine oh (a' := ?_) ?_ ?_
      rotate_left
      ·show Act.put _ (some 21) _ = _
       simp only [Act.put, List.setIfInBounds_toArray, List.set_cons_zero, List.set_cons_succ, fP, gG]
       rfl
      refine pA 5 2 (bQ 6 63) ?_
      refine o6 (by kernel_rfl) ?_
      try go_wp2
      go_ret
      exact ⟨eT, bT HB⟩
     exact absurd H (by simp)
    exact absurd H (by simp)
   revert H
   refine jm (fun c11b0 c11b1 H => ?_) fun c11 H => ?_
   ·revert H
    refine jm (fun c12b0 c12b1 H => ?_) fun c12 H => ?_
    ·revert H
     refine yB1 fun t541 A13 H => ?_
     obtain rfl := Option.some.inj H
     try go_wp2
     refine yA1 (fV HB.out) ?_
     clear HB
     intro HB
     obtain ⟨i015, hi015, _, hsz15, _⟩ := info_parts info3
     obtain ⟨A15, hcut15, hA15, hC15⟩ := mM (P := Tryz.prog) (Value.int .i64) 0 60 3 .i64 Tryz.underlying60 hi015 hsz15 A0 c0 l0 x3_1 (of_decide_eq_true aT) (of_decide_eq_true aT) HC0.out
     have HR540 := af.mk (Kd.nU (h1 := fun _ => rfl) (hA15 _ (Kd.lH HR0.out)))
     have HC540 := af.mk hC15
     clear hA15 hC15 hi015 hsz15
     refine lS (n := 6) (S := fun w' => True) (ds := []) #[false, false, false, false, false, false] (by kernel_rfl) rfl rfl trivial (fun hHeld => ?_)
     generalize wr.drew = w14 at HB HR540 hHeld ⊢
     refine pA 0 17 (bQ 6 1) ?_
     refine pA 1 18 (bQ 6 3) ?_
     refine pA 2 19 (bQ 6 7) ?_
     refine rG (i := 3) (N := some 20) (bQ 6 15) rfl rfl (by kernel_rfl) (by decide) (fun K hK => ?_)
     refine o5 Tryz.func76 (by kernel_rfl) rfl #[.int .i64 3] (by rfl) rfl rfl Z17 ?_
     with_reducible refine (qj 3 _).mono ?_
     rintro e wIs ⟨gIs, rfl, hbk, hge, hb⟩
     refine ⟨_, rfl, ?_⟩
     have n0_ := af.mk (aA (bT HB) hb)
     have BKIs := af.mk hbk
     clear HB
     have HB := n0_
     clear n0_ hbk hge
     (try clear hb)
     refine hK.out _ _ trivial (fun hHeld => ?_)
     clear hK K
     refine oh (a' := ?_) ?_ ?_
     rotate_left
     ·show Act.put _ (some 20) _ = _
      simp only [Act.put, List.setIfInBounds_toArray, List.set_cons_zero, List.set_cons_succ, fP, gG]
      rfl
     refine rG (i := 4) (N := some 21) (bQ 6 31) rfl rfl (by kernel_rfl) (by decide) (fun K hK => ?_)
     refine o5 Tryz.func73 (by kernel_rfl) rfl #[.slice A15 (l0.drop (x3_1 : Int).toNat).length (c0 - x3_1.toNat), .func (.func 93) #[] #[.pointer (some ⟨gIs, 0, none⟩)]] (by rfl) rfl rfl (by (try simp only [List.map_toArray, List.map_cons, List.map_nil]); first | done | (rw [show (l0.drop (x3_1 : Int).toNat).length = (l0.length - x3_1.toNat) from List.length_drop] <;> rfl) | rfl | (simp only [List.length_drop, List.length_take]; rfl)) ?_
     with_reducible refine (lK.calls _ _ (l0.drop (x3_1 : Int).toNat) 3 t541 _ ?side1 ?side2 A13.out (hj := ?side3)).mono ?_
     (case side3 => exact BKIs.out)
     (case side1 => repeat (first | exact (Kd.jW HR540.out HB.out) | (with_reducible refine Kd.jR ?_ _) | (with_reducible refine Kd.jQ ?_ _) | (with_reducible refine Kd.kV ?_)))
     (case side2 => exact HC540.out)
     rintro e w16 ⟨rfl, hb⟩
     refine ⟨_, rfl, ?_⟩
     refine yA1 (aA (bT HB) hb) ?_
     clear HB
     intro HB
     (try clear hb)
     (try clear hb2)
     (try clear hk)
     (try clear hi)
     refine hK.out _ _ trivial (fun hHeld => ?_)
     clear hK K
     refine oh (a' := ?_) ?_ ?_
     rotate_left
     ·show Act.put _ (some 21) _ = _
      simp only [Act.put, List.setIfInBounds_toArray, List.set_cons_zero, List.set_cons_succ, fP, gG]
      rfl
     refine pA 5 2 (bQ 6 63) ?_
     refine o6 (by kernel_rfl) ?_
     try go_wp2
     go_ret
     exact ⟨eT, bT HB⟩
    exact absurd H (by simp)
   exact absurd H (by simp)
end Go.Proofs.YtkbhkonenkgfoaaGreat.Q
end
section
namespace Go.Proofs.YtkbhkonenkgfoaaGreat.Q
open Go.RowKit Go.Proofs.YtkbhkonenkgfoaaGreatW.PrintWords Go.Proofs.YtkbhkonenkgfoaaGreatW.PrintLast Go.Proofs.YtkbhkonenkgfoaaGreatW.PrintMore
attribute [local go_sem] dJ dH dS dR cZ cO dI dG
set_option linter.unusedVariables false
set_option linter.unusedSimpArgs false
/-! ### fC: function 72 -/
def fC.f (l0 : List Int) : Option (Bool) := if (wrap64 ((l0.length : Int) - 1)) ≥ 0 then (if (wrap64 ((l0.length : Int) - 1)) ≤ 8 then (if 0 ≤ (wrap64 ((l0.length : Int) - 1)) then (if (wrap64 ((l0.length : Int) - 1)) < (l0.length : Int) then (if (rd l0 (wrap64 ((l0.length : Int) - 1))) = 5 then (if (wrap64 ((l0.length : Int) - 1)) ≤ (l0.length : Int) then ((lK.f (l0.take ((wrap64 ((l0.length : Int) - 1)) : Int).toNat) 4).bind fun t544 => (some t544)) else (none)) else (some false)) else (none)) else (none)) else (some false)) else (some false)
def fC.T2 : Bool × List (List Nat × List Nat) := (true, [([], []), ([0], [0]), ([1], [1]), ([2], [2]), ([3, 2], [2, 3]), ([2, 4], [2, 4]), ([5, 2], [5]), ([6], [6]), ([6], [6]), ([7, 8, 6], [6, 7, 8]), ([9, 6], [6, 9]), ([10, 6], [6, 10]), ([6, 11], [6, 11]), ([12, 6], [12]), ([13], [13]), ([13], [13]), ([14, 15, 13], [13, 14, 15]), ([13, 13], [13]), ([16, 17, 17, 13], [13, 16, 17]), ([13, 18], [13, 18]), ([19, 18, 0, 1, 2, 3, 4, 5, 6, 7, 8, 9, 10, 11, 12, 13, 14, 15, 16, 17, 18, 19], [19])])
def fC.B2 : List Nat := [0, 1, 3, 7, 15, 31, 63, 127, 127, 511, 1023, 2047, 4095, 8191, 16383, 16383, 65535, 16383, 262143, 524287, 1048575]
theorem fC.D5 : nI .any (opsOf Tryz.f72 2) = fC.T2 := by kernel_rfl
theorem fC.zx : oQ fC.T2.2 fC.B2 = true := by kernel_rfl
set_option maxHeartbeats 8000000 in
set_option maxRecDepth 100000 in
theorem fC.calls (A0 : Option Addr) (c0 : Nat) (l0 : List Int) (r : Bool) (w : World) (hr0 : Kd.C (Kd.int .i64) w A0 l0.length l0) (hc0 : l0.length ≤ c0) (h : fC.f l0 = some r) :
 Calls Tryz.prog 72 #[.slice A0 l0.length c0] w fun e w' => e = .returned (.bool r) ∧ Below w.heap.size w w' := by
 have HR0 := af.mk hr0
 have HC0 := af.mk hc0
 clear hr0 hc0
 have HB := af.mk (Below.refl w.heap.size w)
 have H := h
 clear h
 unfold fC.f at H
 revert H
 refine gU (fun c2 H => ?_) fun c2 H => ?_
 ·have c2b0 : decide (0 ≤ (wrap64 ((l0.length : Int) - 1))) = true := decide_eq_true c2
  clear c2
  revert H
  refine iR (fun c3b0 H => ?_) fun c3b0 H => ?_
  ·obtain ⟨ji4, hji4⟩ : ∃ j_ : Int, (wrap64 ((l0.length : Int) - 1)) = j_ := ⟨_, rfl⟩
   replace H : (if 0 ≤ (ji4) then (if (ji4) < (l0.length : Int) then (if (rd l0 (ji4)) = 5 then (if (ji4) ≤ (l0.length : Int) then ((lK.f (l0.take ((ji4) : Int).toNat) 4).bind fun t544 => (some t544)) else (none)) else (some false)) else (none)) else (none)) = some r := by first | (rw [hji4] at H; exact H) | (simp only [hji4] at H ⊢; exact H)
   (try rw [hji4] at c2b0)
   (try rw [hji4] at c3b0)
   have hji4w : (IntKind.i64.wrap ((l0.length : Int) - 1)) = ji4 := (fP _).trans hji4
   revert H
   refine gB (fun c5b0 H => ?_) fun c5 H => ?_
   ·revert H
    refine gB (fun c6b0 H => ?_) fun c6 H => ?_
    ·revert H
     refine aU (fun c7b0 c7b1 H => ?_) fun c7 c7b0 c7b1 H => ?_
     ·have c8b0 := eq_true (of_decide_eq_true aT : 0 ≤ (ji4))
      revert H
      refine jm (fun c9b0 c9b1 H => ?_) fun c9 H => ?_
      ·revert H
       refine yB1 fun t544 A10 H => ?_
       obtain rfl := Option.some.inj H
       go_enter Tryz.func72, Tryz.ntmps72
       try go_wp2
       refine yA1 (fV HB.out) ?_
       clear HB
       intro HB
       have p542 : 0 ≤ ((ji4) : Int) := of_decide_eq_true aT
       have q542 : (ji4) < (l0.length : Int) := of_decide_eq_true aT
       obtain ⟨ad542, e542, hx542_0⟩ := Kd.fO HR0.out (ji4) p542 q542
       have hw542_0 := hx542_0
       cases e542
       replace hx542_0 := (HB.out.cell (World.block_lt_of_cell? w _ hx542_0)).trans hx542_0
       replace p542 := eq_true p542
       replace q542 := eq_true q542
       obtain ⟨i012, hi012, _, hsz12, _⟩ := info_parts info3
       obtain ⟨hcut12, hA12, hC12⟩ := wE (P := Tryz.prog) (Value.int .i64) 0 60 3 .i64 Tryz.underlying60 hi012 hsz12 (some ad542) c0 l0 (ji4) (of_decide_eq_true aT) (of_decide_eq_true aT) HC0.out
       have HR543 := af.mk (Kd.nU (h1 := fun _ => rfl) (hA12 _ (Kd.lH HR0.out)))
       have HC543 := af.mk hC12
       clear hA12 hC12 hi012 hsz12
       refine lS (n := 21) (S := fun w' => w'.cell? (ad542.add ((ji4)).toNat) = some (.int .i64 (rd l0 (ji4)))) (ds := []) #[false, false, false, false, false, false, false, false, false, false, false, false, false, false, false, false, false, false, false, false, false] (by kernel_rfl) rfl rfl (((HB.out.cell (World.block_lt_of_cell? w _ hw542_0)).trans hw542_0)) (fun hHeld => ?_); refine jK fC.D5 fC.zx (fun HT_ HW_ => ?_)
       generalize w.drew = w11 at HB HR543 hx542_0 hHeld ⊢
       refine pA 0 7 (bQ 21 1) ?_
       refine pA 1 8 (bQ 21 3) ?_
       refine pA 2 9 (bQ 21 7) ?_
       refine pA 3 10 (bQ 21 15) ?_
       refine pA 4 11 (bQ 21 31) ?_
       refine pA 5 12 (bQ 21 63) ?_
       refine pA 6 13 (bQ 21 127) ?_
       refine pA 7 14 (bQ 21 255) ?_
       refine pA 8 15 (bQ 21 511) ?_
       refine pA 9 16 (bQ 21 1023) ?_
       refine tV (i := 10) (N := some 17) (v := ?_) (a' := ?_) #[true, true, true, true, true, true, true, true, true, true, true, false, false, false, false, false, false, false, false, false, false] rfl rfl (oJ HT_.out HW_.out (by kernel_rfl)) (fun _ _ _ h => h) (Or.inl ⟨by rfl, ?_⟩) hHeld ?_ ?_
       rotate_left
       ·intro w' s0
        go_simp
        with_reducible rfl
       rotate_left
       ·simp only [Act.put, List.setIfInBounds_toArray, List.set_cons_zero, List.set_cons_succ, fP, gG]
        rfl
       refine pA 11 18 (bQ 21 4095) ?_
       refine pA 12 19 (bQ 21 8191) ?_
       refine pA 13 20 (bQ 21 16383) ?_
       refine pA 14 21 (bQ 21 32767) ?_
       refine pA 15 22 (bQ 21 65535) ?_
       refine pA 16 23 (bQ 21 131071) ?_
       refine rG (i := 17) (N := some 24) (bQ 21 262143) rfl rfl (oD HT_.out (by kernel_rfl)) (by decide) (fun K hK => ?_)
       refine o5 Tryz.func76 (by kernel_rfl) rfl #[.int .i64 4] (by rfl) rfl rfl Z17 ?_
       with_reducible refine (qj 4 _).mono ?_
       rintro e wIs ⟨gIs, rfl, hbk, hge, hb⟩
       refine ⟨_, rfl, ?_⟩
       have n0_ := af.mk (aA (bT HB) hb)
       have BKIs := af.mk hbk
       clear HB
       have HB := n0_
       clear n0_ hbk hge
       (try clear hb)
       refine hK.out _ _ (((HB.out.cell (World.block_lt_of_cell? w _ hw542_0)).trans hw542_0)) (fun hHeld => ?_)
       clear hK K
       refine oh (a' := ?_) ?_ ?_
       rotate_left
       ·show Act.put _ (some 24) _ = _
        simp only [Act.put, List.setIfInBounds_toArray, List.set_cons_zero, List.set_cons_succ, fP, gG]
        rfl
       refine rG (i := 18) (N := some 25) (bQ 21 524287) rfl rfl (oD HT_.out (by kernel_rfl)) (by decide) (fun K hK => ?_)
       refine o5 Tryz.func73 (by kernel_rfl) rfl #[.slice (some ad542) (l0.take ((ji4) : Int).toNat).length c0, .func (.func 93) #[] #[.pointer (some ⟨gIs, 0, none⟩)]] (by rfl) rfl rfl (by (try simp only [List.map_toArray, List.map_cons, List.map_nil]); first | done | (rw [show (l0.take ((ji4) : Int).toNat).length = (ji4).toNat from (by rw [List.length_take]; have h_ : ((ji4) : Int) ≤ (l0.length : Int) := of_decide_eq_true aT; omega)] <;> rfl) | (simp only [hji4]; rfl) | rfl | (simp only [List.length_drop, List.length_take]; rfl)) ?_
       with_reducible refine (lK.calls _ _ (l0.take ((ji4) : Int).toNat) 4 t544 _ ?side1 ?side2 A10.out (hj := ?side3)).mono ?_
       (case side3 => exact BKIs.out)
       (case side1 => repeat (first | exact (Kd.jW HR543.out HB.out) | (with_reducible refine Kd.jR ?_ _) | (with_reducible refine Kd.jQ ?_ _) | (with_reducible refine Kd.kV ?_)))
       (case side2 => exact HC543.out)
       rintro e w13 ⟨rfl, hb⟩
       refine ⟨_, rfl, ?_⟩
       refine yA1 (aA (bT HB) hb) ?_
       clear HB
       intro HB
       (try clear hb)
       (try clear hb2)
       (try clear hk)
       (try clear hi)
       refine hK.out _ _ (((HB.out.cell (World.block_lt_of_cell? w _ hw542_0)).trans hw542_0)) (fun hHeld => ?_)
       clear hK K
       refine oh (a' := ?_) ?_ ?_
       rotate_left
       ·show Act.put _ (some 25) _ = _
        simp only [Act.put, List.setIfInBounds_toArray, List.set_cons_zero, List.set_cons_succ, fP, gG]
        rfl
       refine pA 19 26 (bQ 21 1048575) ?_
       refine pA 20 2 (bQ 21 2097151) ?_
       refine o6 (lF HT_.out (by kernel_rfl)) ?_
       try go_wp2
       go_ret
       exact ⟨by first | rfl | (simp [jA, jy] <;> rfl) | (simp only [← hji4]; first | rfl | (simp [jA, jy] <;> rfl)) | (simp [*, jA, jy] <;> rfl), bT HB⟩
      exact absurd H (by simp)
     obtain rfl := Option.some.inj H
     go_enter Tryz.func72, Tryz.ntmps72
     try go_wp2
     refine yA1 (fV HB.out) ?_
     clear HB
     intro HB
     have p542 : 0 ≤ ((ji4) : Int) := of_decide_eq_true aT
     have q542 : (ji4) < (l0.length : Int) := of_decide_eq_true aT
     obtain ⟨ad542, e542, hx542_0⟩ := Kd.fO HR0.out (ji4) p542 q542
     have hw542_0 := hx542_0
     cases e542
     replace hx542_0 := (HB.out.cell (World.block_lt_of_cell? w _ hx542_0)).trans hx542_0
     replace p542 := eq_true p542
     replace q542 := eq_true q542
     refine lS (n := 21) (S := fun w' => w'.cell? (ad542.add ((ji4)).toNat) = some (.int .i64 (rd l0 (ji4)))) (ds := []) #[false, false, false, false, false, false, false, false, false, false, false, false, false, false, false, false, false, false, false, false, false] (by kernel_rfl) rfl rfl (((HB.out.cell (World.block_lt_of_cell? w _ hw542_0)).trans hw542_0)) (fun hHeld => ?_); refine jK fC.D5 fC.zx (fun HT_ HW_ => ?_)
     generalize w.drew = w14 at HB hx542_0 hHeld ⊢
     refine pA 0 7 (bQ 21 1) ?_
     refine pA 1 8 (bQ 21 3) ?_
     refine pA 2 9 (bQ 21 7) ?_
     refine pA 3 10 (bQ 21 15) ?_
     refine pA 4 11 (bQ 21 31) ?_
     refine pA 5 12 (bQ 21 63) ?_
     refine pA 6 13 (bQ 21 127) ?_
     refine pA 7 14 (bQ 21 255) ?_
     refine pA 8 15 (bQ 21 511) ?_
     refine pA 9 16 (bQ 21 1023) ?_
     refine tV (i := 10) (N := some 17) (v := ?_) (a' := ?_) #[true, true, true, true, true, true, true, true, true, true, true, false, false, false, false, false, false, false, false, false, false] rfl rfl (oJ HT_.out HW_.out (by kernel_rfl)) (fun _ _ _ h => h) (Or.inl ⟨by rfl, ?_⟩) hHeld ?_ ?_
     rotate_left
     ·intro w' s0
      go_simp
      with_reducible rfl
     rotate_left
     ·simp only [Act.put, List.setIfInBounds_toArray, List.set_cons_zero, List.set_cons_succ, fP, gG]
      rfl
     refine pA 11 18 (bQ 21 4095) ?_
     refine pA 12 19 (bQ 21 8191) ?_
     refine pA 13 20 (bQ 21 16383) ?_
     refine pU 14 21 (bQ 21 32767) ?_
     refine pU 15 22 (bQ 21 65535) ?_
     refine pU 16 23 (bQ 21 131071) ?_
     refine pU 17 24 (bQ 21 262143) ?_
     refine pU 18 25 (bQ 21 524287) ?_
     refine pA 19 26 (bQ 21 1048575) ?_
     refine pA 20 2 (bQ 21 2097151) ?_
     refine o6 (lF HT_.out (by kernel_rfl)) ?_
     try go_wp2
     go_ret
     exact ⟨by first | rfl | (simp [jA, jy] <;> rfl) | (simp only [← hji4]; first | rfl | (simp [jA, jy] <;> rfl)) | (simp [*, jA, jy] <;> rfl), bT HB⟩
    exact absurd H (by simp)
   exact absurd H (by simp)
  obtain rfl := Option.some.inj H
  go_enter Tryz.func72, Tryz.ntmps72
  try go_wp2
  refine yA1 (fV HB.out) ?_
  clear HB
  intro HB
  refine lS (n := 21) (S := fun w' => True) (ds := []) #[false, false, false, false, false, false, false, false, false, false, false, false, false, false, false, false, false, false, false, false, false] (by kernel_rfl) rfl rfl trivial (fun hHeld => ?_); refine jK fC.D5 fC.zx (fun HT_ HW_ => ?_)
  generalize w.drew = w15 at HB hHeld ⊢
  refine pA 0 7 (bQ 21 1) ?_
  refine pA 1 8 (bQ 21 3) ?_
  refine pA 2 9 (bQ 21 7) ?_
  refine pA 3 10 (bQ 21 15) ?_
  refine pA 4 11 (bQ 21 31) ?_
  refine pA 5 12 (bQ 21 63) ?_
  refine pA 6 13 (bQ 21 127) ?_
  refine pU 7 14 (bQ 21 255) ?_
  refine pU 8 15 (bQ 21 511) ?_
  refine pU 9 16 (bQ 21 1023) ?_
  refine pU 10 17 (bQ 21 2047) ?_
  refine pU 11 18 (bQ 21 4095) ?_
  refine pA 12 19 (bQ 21 8191) ?_
  refine pA 13 20 (bQ 21 16383) ?_
  refine pU 14 21 (bQ 21 32767) ?_
  refine pU 15 22 (bQ 21 65535) ?_
  refine pU 16 23 (bQ 21 131071) ?_
  refine pU 17 24 (bQ 21 262143) ?_
  refine pU 18 25 (bQ 21 524287) ?_
  refine pA 19 26 (bQ 21 1048575) ?_
  refine pA 20 2 (bQ 21 2097151) ?_
  refine o6 (lF HT_.out (by kernel_rfl)) ?_
  try go_wp2
  go_ret
  exact ⟨eT, bT HB⟩
 have c2b0 : decide (0 ≤ (wrap64 ((l0.length : Int) - 1))) = false := decide_eq_false c2
 clear c2
 obtain rfl := Option.some.inj H
 go_enter Tryz.func72, Tryz.ntmps72
 try go_wp2
 refine yA1 (fV HB.out) ?_
 clear HB
 intro HB
 refine lS (n := 21) (S := fun w' => True) (ds := []) #[false, false, false, false, false, false, false, false, false, false, false, false, false, false, false, false, false, false, false, false, false] (by kernel_rfl) rfl rfl trivial (fun hHeld => ?_); refine jK fC.D5 fC.zx (fun HT_ HW_ => ?_)
 generalize w.drew = w16 at HB hHeld ⊢
 refine pA 0 7 (bQ 21 1) ?_
 refine pA 1 8 (bQ 21 3) ?_
 refine pA 2 9 (bQ 21 7) ?_
 refine pU 3 10 (bQ 21 15) ?_
 refine pU 4 11 (bQ 21 31) ?_
 refine pA 5 12 (bQ 21 63) ?_
 refine pA 6 13 (bQ 21 127) ?_
 refine pU 7 14 (bQ 21 255) ?_
 refine pU 8 15 (bQ 21 511) ?_
 refine pU 9 16 (bQ 21 1023) ?_
 refine pU 10 17 (bQ 21 2047) ?_
 refine pU 11 18 (bQ 21 4095) ?_
 refine pA 12 19 (bQ 21 8191) ?_
 refine pA 13 20 (bQ 21 16383) ?_
 refine pU 14 21 (bQ 21 32767) ?_
 refine pU 15 22 (bQ 21 65535) ?_
 refine pU 16 23 (bQ 21 131071) ?_
 refine pU 17 24 (bQ 21 262143) ?_
 refine pU 18 25 (bQ 21 524287) ?_
 refine pA 19 26 (bQ 21 1048575) ?_
 refine pA 20 2 (bQ 21 2097151) ?_
 refine o6 (lF HT_.out (by kernel_rfl)) ?_
 try go_wp2
 go_ret
 exact ⟨eT, bT HB⟩
end Go.Proofs.YtkbhkonenkgfoaaGreat.Q
end
section
namespace Go.Proofs.YtkbhkonenkgfoaaGreat.Q
open Go.RowKit Go.Proofs.YtkbhkonenkgfoaaGreatW.PrintWords Go.Proofs.YtkbhkonenkgfoaaGreatW.PrintLast Go.Proofs.YtkbhkonenkgfoaaGreatW.PrintMore
attribute [local go_sem] dJ dH dS dR cZ cO dI dG
set_option linter.unusedVariables false
set_option linter.unusedSimpArgs false
/-! ### tree_Stmt: function 74 -/
/-! ### jv: function 75 -/
def jv.f (a0 : Int) : Option (Bool) := if a0 ≥ 18 then (some (decide (a0 ≤ 30))) else (some false)
set_option maxHeartbeats 8000000 in
set_option maxRecDepth 100000 in
theorem jv.calls (a0 : Int) (r : Bool) (w : World) (h : jv.f a0 = some r) :
 Calls Tryz.prog 75 #[.int .i64 a0] w fun e w' => e = .returned (.bool r) ∧ dZ w w' := by
 have H := h
 clear h
 unfold jv.f at H
 revert H
 refine gU (fun c2 H => ?_) fun c2 H => ?_
 ·have c2b0 : decide (18 ≤ a0) = true := decide_eq_true c2
  clear c2
  obtain rfl := Option.some.inj H
  go_enter Tryz.func75, Tryz.ntmps75
  go_wp2
  go_ret
  exact ⟨fT, Z0⟩
 have c2b0 : decide (18 ≤ a0) = false := decide_eq_false c2
 clear c2
 obtain rfl := Option.some.inj H
 go_enter Tryz.func75, Tryz.ntmps75
 go_wp2
 go_ret
 exact ⟨fT, Z0⟩
/-! ### iF: function 77 -/
def iF.f (l0 : List Int) (a1 : Int) (a2 : Int) : Option (Bool) := if (l0.length : Int) ≥ a1 then (if (l0.length : Int) ≤ a2 then ((qm.f l0).bind fun t545 => (some t545)) else (some false)) else (some false)
set_option maxHeartbeats 8000000 in
set_option maxRecDepth 100000 in
theorem iF.calls (A0 : Option Addr) (c0 : Nat) (l0 : List Int) (a1 : Int) (a2 : Int) (r : Bool) (w : World) (hr0 : Kd.C (Kd.int .i64) w A0 l0.length l0) (hc0 : l0.length ≤ c0) (h : iF.f l0 a1 a2 = some r) :
 Calls Tryz.prog 77 #[.slice A0 l0.length c0, .int .i64 a1, .int .i64 a2] w fun e w' => e = .returned (.bool r) ∧ dZ w w' := by
 have HR0 := af.mk hr0
 have HC0 := af.mk hc0
 clear hr0 hc0
 have H := h
 clear h
 unfold iF.f at H
 revert H
 refine gU (fun c4 H => ?_) fun c4 H => ?_
 ·have c4b0 : decide (a1 ≤ (l0.length : Int)) = true := decide_eq_true c4
  clear c4
  revert H
  refine iR (fun c5b0 H => ?_) fun c5b0 H => ?_
  ·revert H
   refine yB1 fun t545 A6 H => ?_
   obtain rfl := Option.some.inj H
   go_enter Tryz.func77, Tryz.ntmps77
   go_wp2_with (first | (go_at_call 73; (with_reducible refine (qm.calls _ _ l0 t545 _ ?side1 ?side2 A6.out).mono ?_); (case side1 => exact Z5); (case side2 => exact HC0.out); rintro e w' ⟨rfl, ⟨nd, rfl⟩⟩))
   go_ret
   exact ⟨fT, Z0⟩
  obtain rfl := Option.some.inj H
  go_enter Tryz.func77, Tryz.ntmps77
  go_wp2
  go_ret
  exact ⟨fT, Z0⟩
 have c4b0 : decide (a1 ≤ (l0.length : Int)) = false := decide_eq_false c4
 clear c4
 obtain rfl := Option.some.inj H
 go_enter Tryz.func77, Tryz.ntmps77
 go_wp2
 go_ret
 exact ⟨fT, Z0⟩
end Go.Proofs.YtkbhkonenkgfoaaGreat.Q
end
