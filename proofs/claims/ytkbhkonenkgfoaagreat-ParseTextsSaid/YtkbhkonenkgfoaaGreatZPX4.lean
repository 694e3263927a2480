/- Walks over functions of the program, words for them, and what the functions come to; of each text only what this claim uses; no condition. -/
import Derived.Test.YtkbhkonenkgfoaaGreatZPX0
import Derived.Test.YtkbhkonenkgfoaaGreatZPX1
import Derived.Test.YtkbhkonenkgfoaaGreatZPX2
import Derived.Test.YtkbhkonenkgfoaaGreatZPX3
section
namespace Go.Proofs.YtkbhkonenkgfoaaGreat.Q
open Go.RowKit Go.Proofs.YtkbhkonenkgfoaaGreatW.PrintWords Go.Proofs.YtkbhkonenkgfoaaGreatW.PrintLast Go.Proofs.YtkbhkonenkgfoaaGreatW.PrintMore
attribute [local go_sem] dJ dH dW dV dh df dI dG
set_option linter.unusedVariables false
set_option linter.unusedSimpArgs false
/-! ### kD: function 49 -/
def kD.f (k : Nat) (a0 : ByteArray) : Option (Bool) := (kG.f a0).bind fun t105 => (if t105 = true then (if 1 + a0.size ≤ 9223372036854775807 then (if ((⟨#[32]⟩ : ByteArray) ++ a0).size + 1 ≤ 9223372036854775807 then ((eH.f k (⟨#[32, 109, 111, 100, 117, 108, 101, 32, 117, 115, 101, 32, 102, 110, 32, 108, 101, 116, 32, 105, 102, 32, 101, 108, 115, 101, 32, 119, 104, 105, 108, 101, 32, 98, 114, 101, 97, 107, 32, 99, 111, 110, 116, 105, 110, 117, 101, 32, 114, 101, 116, 117, 114, 110, 32, 112, 117, 116, 32, 101, 109, 105, 116, 32, 121, 105, 101, 108, 100, 32, 110, 105, 108, 32, 115, 116, 97, 116, 101, 32, 115, 112, 97, 119, 110, 32, 108, 101, 110, 32, 110, 111, 116, 32, 97, 110, 100, 32, 111, 114, 32]⟩ : ByteArray) (((⟨#[32]⟩ : ByteArray) ++ a0) ++ (⟨#[32]⟩ : ByteArray))).bind fun t106 => (some t106)) else (none)) else (none)) else (some false))
theorem kD.mono : ∀ a0 k, LeO (kD.f k a0) (kD.f (k + 1) a0) := by
 intro a0 k
 unfold kD.f
 have m0 := eH.mono
 exact yL
set_option maxHeartbeats 8000000 in
set_option maxRecDepth 100000 in
theorem kD.calls (k : Nat) (a0 : ByteArray) (r : Bool) (w : World) (h : kD.f k a0 = some r) :
 Calls Tryz.prog 49 #[.string a0] w fun e w' => e = .returned (.bool r) ∧ Below w.heap.size w w' := by
 have HB := ae.mk (Below.refl w.heap.size w)
 have H := h
 clear h
 unfold kD.f at H
 revert H
 refine yB1 fun t105 A2 H => ?_
 cases t105
 rotate_left
 ·replace H := yT H
  revert H
  refine nD (fun c4 c4b0 c4b1 H => ?_) fun c4 H => ?_
  ·try have c4b2 : (9223372036854775807 < 1 + a0.size) = False := eq_false (Nat.not_lt.2 c4)
   revert H
   refine nD (fun c5 c5b0 c5b1 H => ?_) fun c5 H => ?_
   ·have c5s := c5
    simp only [ByteArray.size_append, show ((⟨#[32]⟩ : ByteArray)).size = 1 from rfl] at c5s
    have c5t := eq_true c5s
    have c5u := eq_false (Nat.not_lt.2 c5s)
    clear c5s
    try have c5b2 : (9223372036854775807 < ((⟨#[32]⟩ : ByteArray) ++ a0).size + 1) = False := eq_false (Nat.not_lt.2 c5)
    revert H
    refine yB1 fun t106 A6 H => ?_
    obtain rfl := Option.some.inj H
    go_enter Tryz.func49, Tryz.ntmps49
    go_wp2_with (first | ((with_reducible refine gC 88 rfl ?_); refine gM 88 4 rfl Tryz.func88 (kG.calls a0 true _ A2.out) ?_; rintro _ w7 ⟨rfl, hb⟩; refine ⟨_, rfl, yA1 (aY (bT HB) hb) ?_⟩; clear HB hb; intro HB) | (go_at_call 89; (with_reducible refine (eH.calls k (⟨#[32, 109, 111, 100, 117, 108, 101, 32, 117, 115, 101, 32, 102, 110, 32, 108, 101, 116, 32, 105, 102, 32, 101, 108, 115, 101, 32, 119, 104, 105, 108, 101, 32, 98, 114, 101, 97, 107, 32, 99, 111, 110, 116, 105, 110, 117, 101, 32, 114, 101, 116, 117, 114, 110, 32, 112, 117, 116, 32, 101, 109, 105, 116, 32, 121, 105, 101, 108, 100, 32, 110, 105, 108, 32, 115, 116, 97, 116, 101, 32, 115, 112, 97, 119, 110, 32, 108, 101, 110, 32, 110, 111, 116, 32, 97, 110, 100, 32, 111, 114, 32]⟩ : ByteArray) (((⟨#[32]⟩ : ByteArray) ++ a0) ++ (⟨#[32]⟩ : ByteArray)) t106 _ A6.out).mono ?_); rintro e w' ⟨rfl, ⟨nd, rfl⟩⟩))
    go_ret
    exact ⟨eT, bT HB⟩
   exact absurd H (by simp)
  exact absurd H (by simp)
 replace H := yF H
 obtain rfl := Option.some.inj H
 go_enter Tryz.func49, Tryz.ntmps49
 go_wp2_with (first | ((with_reducible refine gC 88 rfl ?_); refine gM 88 4 rfl Tryz.func88 (kG.calls a0 false _ A2.out) ?_; rintro _ w8 ⟨rfl, hb⟩; refine ⟨_, rfl, yA1 (aY (bT HB) hb) ?_⟩; clear HB hb; intro HB))
 go_ret
 exact ⟨eT, bT HB⟩
/-! ### iH: function 50 -/
def iH.f (k : Nat) (a0 : ByteArray) : Option (Bool) := (kG.f a0).bind fun t107 => (if t107 = true then (if (a0.size : Int) ≤ 16 then ((kD.f k a0).bind fun t108 => (some (!t108))) else (some false)) else (some false))
theorem iH.mono : ∀ a0 k, LeO (iH.f k a0) (iH.f (k + 1) a0) := by
 intro a0 k
 unfold iH.f
 have m0 := kD.mono
 exact yL
set_option maxHeartbeats 8000000 in
set_option maxRecDepth 100000 in
theorem iH.calls (k : Nat) (a0 : ByteArray) (r : Bool) (w : World) (h : iH.f k a0 = some r) :
 Calls Tryz.prog 50 #[.string a0] w fun e w' => e = .returned (.bool r) ∧ Below w.heap.size w w' := by
 have HB := ae.mk (Below.refl w.heap.size w)
 have H := h
 clear h
 unfold iH.f at H
 revert H
 refine yB1 fun t107 A2 H => ?_
 cases t107
 rotate_left
 ·replace H := yT H
  revert H
  refine zq (fun c4 c4b0 H => ?_) fun c4 c4b0 H => ?_
  ·have c4b1 : decide (a0.size ≤ 16) = true := decide_eq_true (by omega)
   clear c4
   revert H
   refine yB1 fun t108 A5 H => ?_
   obtain rfl := Option.some.inj H
   go_enter Tryz.func50, Tryz.ntmps50
   go_wp2_with (first | ((with_reducible refine gC 88 rfl ?_); refine gM 88 4 rfl Tryz.func88 (kG.calls a0 true _ A2.out) ?_; rintro _ w6 ⟨rfl, hb⟩; refine ⟨_, rfl, yA1 (aY (bT HB) hb) ?_⟩; clear HB hb; intro HB) | (go_at_call 49; (with_reducible refine (kD.calls k a0 t108 _ A5.out).mono ?_); rintro e w7 ⟨rfl, hb⟩; refine yA1 (aY (bT HB) hb) ?_; clear HB; intro HB; (try clear hb)))
   go_ret
   exact ⟨eT, bT HB⟩
  have c4b1 : decide (a0.size ≤ 16) = false := decide_eq_false (by omega)
  clear c4
  obtain rfl := Option.some.inj H
  go_enter Tryz.func50, Tryz.ntmps50
  go_wp2_with (first | ((with_reducible refine gC 88 rfl ?_); refine gM 88 4 rfl Tryz.func88 (kG.calls a0 true _ A2.out) ?_; rintro _ w8 ⟨rfl, hb⟩; refine ⟨_, rfl, yA1 (aY (bT HB) hb) ?_⟩; clear HB hb; intro HB))
  go_ret
  exact ⟨eT, bT HB⟩
 replace H := yF H
 obtain rfl := Option.some.inj H
 go_enter Tryz.func50, Tryz.ntmps50
 go_wp2_with (first | ((with_reducible refine gC 88 rfl ?_); refine gM 88 4 rfl Tryz.func88 (kG.calls a0 false _ A2.out) ?_; rintro _ w9 ⟨rfl, hb⟩; refine ⟨_, rfl, yA1 (aY (bT HB) hb) ?_⟩; clear HB hb; intro HB))
 go_ret
 exact ⟨eT, bT HB⟩
end Go.Proofs.YtkbhkonenkgfoaaGreat.Q
end
section
namespace Go.Proofs.YtkbhkonenkgfoaaGreat.Q
open Go.RowKit Go.Proofs.YtkbhkonenkgfoaaGreatW.PrintWords Go.Proofs.YtkbhkonenkgfoaaGreatW.PrintLast Go.Proofs.YtkbhkonenkgfoaaGreatW.PrintMore
attribute [local go_sem] dJ dH dW dV dh df dI dG
set_option linter.unusedVariables false
set_option linter.unusedSimpArgs false
/-! ### dY: function 52 -/
mutual
def dY.j0 : Nat → ByteArray → Bool → Option (Int × Bool)
 | 0, _, _ => none
 | k + 1, x0, x18 => if x18 = true then (some (0, false)) else (dY.l0 k x0 0 (x0.size : Int) 0)
def dY.l0 : Nat → ByteArray → Int → Int → Int → Option (Int × Bool)
 | 0, _, _, _, _ => none
 | k + 1, x0, x4, x20, x21 => if x21 < x20 then (if 0 ≤ x21 then (if x21 < (x0.size : Int) then (dY.l0 k x0 (IntKind.u64.wrap ((IntKind.u64.wrap (10 * x4)) + (((bt x0 x21) - 48) % 256))) x20 (wrap64 (x21 + 1))) else (none)) else (none)) else (some (wrap64 (x4), ((x4 / 9223372036854775808) == 0)))
end
def dY.f (k : Nat) (a0 : ByteArray) : Option (Int × Bool) := if (a0.size : Int) > 19 then (dY.j0 k a0 true) else (if (a0.size : Int) > 1 then (if 0 < (a0.size : Int) then (dY.j0 k a0 ((bt a0 0) == 48)) else (none)) else (dY.j0 k a0 false))
theorem dY.bP : ∀ k, (∀ y0 y1, LeO (dY.j0 k y0 y1) (dY.j0 (k + 1) y0 y1)) ∧ (∀ y0 y1 y2 y3, LeO (dY.l0 k y0 y1 y2 y3) (dY.l0 (k + 1) y0 y1 y2 y3))
 | 0 => ⟨fun _ _ r h => by simp [dY.j0] at h, fun _ _ _ _ r h => by simp [dY.l0] at h⟩
 | k + 1 => by
  obtain ⟨ih0, ih1⟩ := dY.bP k
  refine ⟨?_, ?_⟩
  ·intro y0 y1
   unfold dY.j0
   exact yL
  intro y0 y1 y2 y3
  unfold dY.l0
  exact yL
theorem dY.mono : ∀ a0 k, LeO (dY.f k a0) (dY.f (k + 1) a0) := by
 intro a0 k
 obtain ⟨ih0, ih1⟩ := dY.bP k
 unfold dY.f
 exact yL
set_option maxHeartbeats 8000000 in
set_option maxRecDepth 100000 in
theorem dY.calls (k : Nat) (a0 : ByteArray) (r1 : Int) (r2 : Bool) (w : World) (h : dY.f k a0 = some (r1, r2)) :
 Calls Tryz.prog 52 #[.string a0] w fun e w' => e = .returned (.tuple #[.int .i64 r1, .bool r2]) ∧ eF w w' := by
 have H := h
 clear h
 unfold dY.f at H
 have HC2 := ae.mk H
 clear H
 go_enter Tryz.func52, Tryz.ntmps52
 go_upto_region 1 with (fail)
 go_cut [18] (fun v18 wc => ∃ (kq : Nat) (x18_1 : Bool), v18 = .bool x18_1 ∧ ae (dY.j0 kq a0 x18_1 = some (r1, r2)) ∧ ae (kq ≤ k) ∧ eF w wc)
 case first =>
  have H := HC2.out
  clear HC2
  revert H
  refine iC (fun c3 H => ?_) fun c3 H => ?_
  ·have c3b0 : decide (19 < (a0.size : Int)) = true := decide_eq_true c3
   have c3b1 : decide (19 < a0.size) = true := decide_eq_true (by omega)
   clear c3
   (first | rw [c3b0] | (simp only [gX, iP]; rw [c3b0]) | skip)
   have H' := ae.mk H
   clear H
   go_wp2
   go_meet
   case rel => exact ⟨_, (true), fT, H', ⟨Z11⟩, Z0⟩
  have c3b0 : decide (19 < (a0.size : Int)) = false := decide_eq_false c3
  have c3b1 : decide (19 < a0.size) = false := decide_eq_false (by omega)
  clear c3
  (first | rw [c3b0] | (simp only [gX, iP]; rw [c3b0]) | skip)
  revert H
  refine iC (fun c4 H => ?_) fun c4 H => ?_
  ·have c4b0 : decide (1 < (a0.size : Int)) = true := decide_eq_true c4
   have c4b1 : decide (1 < a0.size) = true := decide_eq_true (by omega)
   clear c4
   revert H
   refine pX (fun c5 c5b0 H => ?_) fun c5 H => ?_
   ·have c5b1 : decide (0 < a0.size) = true := decide_eq_true (by omega)
    clear c5
    have H' := ae.mk H
    clear H
    have p6 : 0 ≤ (0 : Int) := (by omega)
    have q6 : 0 < a0.size := (by have : (0 : Int) < (a0.size : Int) := of_decide_eq_true aT; omega)
    have hx6 : ∀ h : 0 < a0.size, ((a0[0]'h).toNat : Int) = bt a0 0 := iE a0 0
    clear p6
    have qi6 : (0 < (a0.size : Int)) = True := eq_true (of_decide_eq_true aT)
    replace q6 := eq_true q6
    go_wp2
    go_meet
    case rel => exact ⟨_, (((bt a0 0) == 48)), fT, H', ⟨Z11⟩, Z0⟩
   exact absurd H (by simp)
  have c4b0 : decide (1 < (a0.size : Int)) = false := decide_eq_false c4
  have c4b1 : decide (1 < a0.size) = false := decide_eq_false (by omega)
  clear c4
  have H' := ae.mk H
  clear H
  go_wp2
  go_meet
  case rel => exact ⟨_, (false), fT, H', ⟨Z11⟩, Z0⟩
 case rest =>
  clear HC2
  try clear p2
  try clear c3
  try clear c3b0
  try clear c3b1
  try clear c4
  try clear c4b0
  try clear c4b1
  try clear c5
  try clear c5b0
  try clear c5b1
  try clear p6
  try clear q6
  try clear hx6
  try clear qi6
  try clear p6
  try clear q6
  obtain ⟨kq, x18_1, rfl, HA, HJ1, ⟨mc1, rfl⟩⟩ := hcut
  cases kq with
  | zero => exact absurd HA.out (by simp [dY.j0])
  | succ kj1 =>
   have H := HA.out
   clear HA
   simp only [dY.j0] at H
   cases x18_1
   rotate_left
   ·replace H := yT H
    simp only [Option.some.injEq, Prod.mk.injEq] at H
    obtain ⟨rfl, rfl⟩ := H
    go_wp2
    go_ret2
    exact ⟨fT, Z0⟩
   replace H := yF H
   have H' := ae.mk H
   clear H
   go_wp2
   go_loopg [4, 21] kj1 (fun kq v4 v21 w' => ∃ (x4_2 : Int) (x21_2 : Int), v4 = .int .u64 x4_2 ∧ v21 = .int .i64 x21_2 ∧ ae (dY.l0 kq a0 x4_2 (a0.size : Int) x21_2 = some (r1, r2)) ∧ ae (kq ≤ kj1) ∧ eF w w')
   case atStart => exact ⟨(0), (0), fT, fT, H', ⟨Nat.le_refl _⟩, Z0⟩
   case round =>
    clear H'
    try clear c1
    try clear p2
    try clear c3
    try clear c3b0
    try clear c3b1
    try clear c4
    try clear c4b0
    try clear c4b1
    try clear c5
    try clear c5b0
    try clear c5b1
    try clear p6
    try clear q6
    try clear hx6
    try clear qi6
    try clear c7
    try clear p2
    try clear p6
    try clear q6
    obtain ⟨x4_2, x21_2, rfl, rfl, HA, HK2, ⟨m2, rfl⟩⟩ := hrel
    cases gk with
    | zero => exact absurd HA.out (by simp [dY.l0])
    | succ k2 =>
     have H := HA.out
     clear HA
     simp only [dY.l0] at H
     revert H
     refine iQ (fun c8b0 H => ?_) fun c8b0 H => ?_
     ·revert H
      refine gJ (fun c9b0 H => ?_) fun c9 H => ?_
      ·revert H
       refine gJ (fun c10b0 H => ?_) fun c10 H => ?_
       ·have H' := ae.mk H
        clear H
        have p11 : 0 ≤ (x21_2 : Int) := of_decide_eq_true aT
        have q11 : x21_2 < (a0.size : Int) := of_decide_eq_true aT
        have hx11 := iE a0 x21_2
        replace p11 := eq_true p11
        replace q11 := eq_true q11
        go_wp2
        go_roundg k2
        case measure => have := HJ1.out; have := HK2.out; omega
        case rel => exact ⟨(IntKind.u64.wrap ((IntKind.u64.wrap (10 * x4_2)) + (((bt a0 x21_2) - 48) % 256))), (wrap64 (x21_2 + 1)), fT, fT, H', ⟨by have := HJ1.out; have := HK2.out; omega⟩, Z0⟩
       exact absurd H (by simp)
      exact absurd H (by simp)
     simp only [Option.some.injEq, Prod.mk.injEq] at H
     obtain ⟨rfl, rfl⟩ := H
     go_wp2
     go_ret2
     exact ⟨fT, Z0⟩
/-! ### kU: function 90 -/
def kU.f (a0 : Int) : Option (Int × Bool) := if a0 = 110 then (some (10, true)) else (if a0 = 34 then (some (a0, true)) else (if a0 = 92 then (some (a0, true)) else (some (0, false))))
set_option maxHeartbeats 8000000 in
set_option maxRecDepth 100000 in
theorem kU.calls (a0 : Int) (r1 : Int) (r2 : Bool) (w : World) (h : kU.f a0 = some (r1, r2)) :
 Calls Tryz.prog 90 #[.int .u8 a0] w fun e w' => e = .returned (.tuple #[.int .u8 r1, .bool r2]) ∧ eF w w' := by
 have H := h
 clear h
 unfold kU.f at H
 revert H
 refine cZ (fun c2b0 c2b1 H => ?_) fun c2 c2b0 c2b1 H => ?_
 ·simp only [Option.some.injEq, Prod.mk.injEq] at H
  obtain ⟨rfl, rfl⟩ := H
  go_enter Tryz.func90, Tryz.ntmps90
  go_wp2
  go_ret2
  exact ⟨fT, Z0⟩
 revert H
 refine cZ (fun c3b0 c3b1 H => ?_) fun c3 c3b0 c3b1 H => ?_
 ·simp only [Option.some.injEq, Prod.mk.injEq] at H
  obtain ⟨rfl, rfl⟩ := H
  go_enter Tryz.func90, Tryz.ntmps90
  go_wp2
  go_ret2
  exact ⟨fT, Z0⟩
 revert H
 refine cZ (fun c4b0 c4b1 H => ?_) fun c4 c4b0 c4b1 H => ?_
 ·simp only [Option.some.injEq, Prod.mk.injEq] at H
  obtain ⟨rfl, rfl⟩ := H
  go_enter Tryz.func90, Tryz.ntmps90
  go_wp2
  go_ret2
  exact ⟨fT, Z0⟩
 simp only [Option.some.injEq, Prod.mk.injEq] at H
 obtain ⟨rfl, rfl⟩ := H
 go_enter Tryz.func90, Tryz.ntmps90
 go_wp2
 go_ret2
 exact ⟨fT, Z0⟩
end Go.Proofs.YtkbhkonenkgfoaaGreat.Q
end
section
namespace Go.Proofs.YtkbhkonenkgfoaaGreat.Q
open Go.RowKit Go.Proofs.YtkbhkonenkgfoaaGreatW.PrintWords Go.Proofs.YtkbhkonenkgfoaaGreatW.PrintLast Go.Proofs.YtkbhkonenkgfoaaGreatW.PrintMore
attribute [local go_sem] dJ dH dW dV dh df dI dG
set_option linter.unusedVariables false
set_option linter.unusedSimpArgs false
/-! ### eP: function 53 -/
def eP.l0 : Nat → ByteArray → List Int → Bool → Int → Option (ByteArray × Int)
 | 0, _, _, _, _ => none
 | k + 1, x0, x4, x5, x6 => if x6 < (x0.size : Int) then (if 0 ≤ x6 then (if x5 = true then ((kU.f (bt x0 x6)).bind fun bt109 => (if bt109.2 = true then (if x4.length < 140737488355328 then (eP.l0 k x0 (x4 ++ [bt109.1]) false (wrap64 (x6 + 1))) else (none)) else (some ((⟨#[]⟩ : ByteArray), 0)))) else (if (bt x0 x6) = 34 then (some (strOfNums x4, wrap64 (x6 + 1))) else (if (bt x0 x6) = 10 then (some ((⟨#[]⟩ : ByteArray), 0)) else (if (bt x0 x6) = 92 then (eP.l0 k x0 x4 true (wrap64 (x6 + 1))) else (if x4.length < 140737488355328 then (eP.l0 k x0 (x4 ++ [bt x0 x6]) x5 (wrap64 (x6 + 1))) else (none)))))) else (none)) else (some ((⟨#[]⟩ : ByteArray), 0))
def eP.f (k : Nat) (a0 : ByteArray) : Option (ByteArray × Int) := eP.l0 k a0 ([] : List Int) false 1
theorem eP.bP : ∀ k, (∀ y0 y1 y2 y3, LeO (eP.l0 k y0 y1 y2 y3) (eP.l0 (k + 1) y0 y1 y2 y3))
 | 0 => fun _ _ _ _ r h => by simp [eP.l0] at h
 | k + 1 => by
  have ih0 := eP.bP k
  intro y0 y1 y2 y3
  unfold eP.l0
  exact yL
theorem eP.mono : ∀ a0 k, LeO (eP.f k a0) (eP.f (k + 1) a0) := by
 intro a0 k
 have ih0 := eP.bP k
 unfold eP.f
 exact yL
set_option maxHeartbeats 8000000 in
set_option maxRecDepth 100000 in
theorem eP.calls (k : Nat) (a0 : ByteArray) (r1 : ByteArray) (r2 : Int) (w : World) (h : eP.f k a0 = some (r1, r2)) :
 Calls Tryz.prog 53 #[.string a0] w fun e w' => e = .returned (.tuple #[.string r1, .int .i64 r2]) ∧ Below w.heap.size w w' := by
 have HB := ae.mk (Below.refl w.heap.size w)
 have H := h
 clear h
 unfold eP.f at H
 have H' := ae.mk H
 clear H
 go_enter Tryz.func53, Tryz.ntmps53
 go_wp2
 go_loopg [4, 5, 6] k (fun kq v4 v5 v6 w' => ∃ (x4_1 : List Int) (x5_1 : Bool) (x6_1 : Int), v5 = .bool x5_1 ∧ v6 = .int .i64 x6_1 ∧ ae (eP.l0 kq a0 x4_1 x5_1 x6_1 = some (r1, r2)) ∧ ae (kq ≤ k) ∧ ae (Kd.R (Kd.int .u8) 5 w' w.heap.size (fun _ => True) v4 x4_1) ∧ ae (Below w.heap.size w w'))
 case atStart => exact ⟨(([] : List Int)), (false), (1), fT, fT, H', ⟨Nat.le_refl _⟩, ⟨Z4⟩, ⟨bT HB⟩⟩
 case round =>
  clear H'
  obtain ⟨x4_1, x5_1, x6_1, rfl, rfl, HA, HK1, HO_4, HB⟩ := hrel
  cases gk with
  | zero => exact absurd HA.out (by simp [eP.l0])
  | succ k1 =>
   have H := HA.out
   clear HA
   simp only [eP.l0] at H
   revert H
   refine iQ (fun c2b0 H => ?_) fun c2b0 H => ?_
   ·revert H
    refine gJ (fun c3b0 H => ?_) fun c3 H => ?_
    ·cases x5_1
     rotate_left
     ·replace H := yT H
      revert H
      refine yB2 fun t109 t110 A6 H => ?_
      try dsimp only at H
      cases t110
      rotate_left
      ·replace H := yT H
       revert H
       refine iC (fun c8 H => ?_) fun c8 H => ?_
       ·have LMc8 := ae.mk c8
        clear c8
        obtain ⟨y111, hy111⟩ : ∃ y_ : List Int, y_ = (x4_1 ++ [t109]) := ⟨_, rfl⟩
        replace H : (eP.l0 k1 a0 y111 false (wrap64 (x6_1 + 1))) = some (r1, r2) := by first | (rw [hy111]; with_reducible exact H) | (have H2_ := (Option.bind_some _ _).symm.trans H; rw [hy111]; with_reducible exact H2_) | (have H2_ := (Option.bind_some _ _).symm.trans H; with_reducible exact H2_) | with_reducible exact H | (rw [hy111]; exact H) | exact H
        have Ny111 := ae.mk hy111
        clear hy111
        have H' := ae.mk H
        clear H
        have p4 : 0 ≤ (x6_1 : Int) := of_decide_eq_true aT
        have q4 : x6_1 < (a0.size : Int) := of_decide_eq_true aT
        have hx4 := iE a0 x6_1
        replace p4 := eq_true p4
        replace q4 := eq_true q4
        go_wp2_with (first | ((with_reducible refine gC 90 rfl ?_); refine gM 90 27 rfl Tryz.func90 (kU.calls (bt a0 x6_1) t109 true _ A6.out) ?_; rintro _ w' ⟨rfl, ⟨nd, rfl⟩⟩; refine ⟨_, rfl, ?_⟩) | ((with_reducible refine eu (b := .append) (xs := #[.tmp 32, .tmp 34]) rfl ?_); at_builtin; refine Kd.jW (Kd.int .u8) (w0 := w) w.heap.size rfl (.tmp 32) (.tmp 34) 91 5 (.int .u8 0) 1 rfl Tryz.underlying91 info5 rfl (by decide) (by omega) u4 x4_1 t109 [.int .u8 t109] (fun _ => True) (fun _ => False) rfl rfl ?aP (fun _ hk => hk.elim) ?aF ?aO ?aB ?aS ?aL ?_; (case aP => exact rfl); (case aB => exact (bT HB)); (case aF => exact (fun _ _ => trivial)); (case aO => exact (qR HO_4)); (case aS => exact (bY (bT HB))); (case aL => have := LMc8.out; omega); intro v112 w9 ho hb hg hat; rw [← Ny111.out] at ho; refine yA2 (hb) (ho) ?_; clear HB HO_4; intro HB HO113; clear ho hb hg hat))
        go_roundg k1
        case measure => have := HK1.out; omega
        case rel => exact ⟨(y111), (false), (wrap64 (x6_1 + 1)), fT, fT, H', ⟨by have := HK1.out; omega⟩, ⟨qR HO113⟩, ⟨bT HB⟩⟩
       exact absurd H (by simp)
      replace H := yF H
      simp only [Option.some.injEq, Prod.mk.injEq] at H
      obtain ⟨rfl, rfl⟩ := H
      have p4 : 0 ≤ (x6_1 : Int) := of_decide_eq_true aT
      have q4 : x6_1 < (a0.size : Int) := of_decide_eq_true aT
      have hx4 := iE a0 x6_1
      replace p4 := eq_true p4
      replace q4 := eq_true q4
      go_wp2_with (first | ((with_reducible refine gC 90 rfl ?_); refine gM 90 27 rfl Tryz.func90 (kU.calls (bt a0 x6_1) t109 false _ A6.out) ?_; rintro _ w' ⟨rfl, ⟨nd, rfl⟩⟩; refine ⟨_, rfl, ?_⟩))
      go_ret2
      exact ⟨eT, bT HB⟩
     replace H := yF H
     revert H
     refine cZ (fun c10b0 c10b1 H => ?_) fun c10 c10b0 c10b1 H => ?_
     ·simp only [Option.some.injEq, Prod.mk.injEq] at H
      obtain ⟨rfl, rfl⟩ := H
      have p4 : 0 ≤ (x6_1 : Int) := of_decide_eq_true aT
      have q4 : x6_1 < (a0.size : Int) := of_decide_eq_true aT
      have hx4 := iE a0 x6_1
      replace p4 := eq_true p4
      replace q4 := eq_true q4
      have hcv11 := wR (P := Tryz.prog) Tryz.underlying91 Tryz.underlying5 Tryz.underlying9 (Kd.tV HO_4.out)
      go_wp2
      go_ret2
      exact ⟨eT, bT HB⟩
     revert H
     refine cZ (fun c12b0 c12b1 H => ?_) fun c12 c12b0 c12b1 H => ?_
     ·simp only [Option.some.injEq, Prod.mk.injEq] at H
      obtain ⟨rfl, rfl⟩ := H
      have p4 : 0 ≤ (x6_1 : Int) := of_decide_eq_true aT
      have q4 : x6_1 < (a0.size : Int) := of_decide_eq_true aT
      have hx4 := iE a0 x6_1
      replace p4 := eq_true p4
      replace q4 := eq_true q4
      go_wp2
      go_ret2
      exact ⟨eT, bT HB⟩
     revert H
     refine cZ (fun c13b0 c13b1 H => ?_) fun c13 c13b0 c13b1 H => ?_
     ·have H' := ae.mk H
      clear H
      have p4 : 0 ≤ (x6_1 : Int) := of_decide_eq_true aT
      have q4 : x6_1 < (a0.size : Int) := of_decide_eq_true aT
      have hx4 := iE a0 x6_1
      replace p4 := eq_true p4
      replace q4 := eq_true q4
      go_wp2
      go_roundg k1
      case measure => have := HK1.out; omega
      case rel => exact ⟨(x4_1), (true), (wrap64 (x6_1 + 1)), fT, fT, H', ⟨by have := HK1.out; omega⟩, ⟨qR HO_4⟩, ⟨bT HB⟩⟩
     revert H
     refine iC (fun c14 H => ?_) fun c14 H => ?_
     ·have LMc14 := ae.mk c14
      clear c14
      obtain ⟨y114, hy114⟩ : ∃ y_ : List Int, y_ = (x4_1 ++ [bt a0 x6_1]) := ⟨_, rfl⟩
      replace H : (eP.l0 k1 a0 y114 false (wrap64 (x6_1 + 1))) = some (r1, r2) := by first | (rw [hy114]; with_reducible exact H) | (have H2_ := (Option.bind_some _ _).symm.trans H; rw [hy114]; with_reducible exact H2_) | (have H2_ := (Option.bind_some _ _).symm.trans H; with_reducible exact H2_) | with_reducible exact H | (rw [hy114]; exact H) | exact H
      have Ny114 := ae.mk hy114
      clear hy114
      have H' := ae.mk H
      clear H
      have p4 : 0 ≤ (x6_1 : Int) := of_decide_eq_true aT
      have q4 : x6_1 < (a0.size : Int) := of_decide_eq_true aT
      have hx4 := iE a0 x6_1
      replace p4 := eq_true p4
      replace q4 := eq_true q4
      go_wp2_with (first | ((with_reducible refine eu (b := .append) (xs := #[.tmp 19, .tmp 21]) rfl ?_); at_builtin; refine Kd.jW (Kd.int .u8) (w0 := w) w.heap.size rfl (.tmp 19) (.tmp 21) 91 5 (.int .u8 0) 1 rfl Tryz.underlying91 info5 rfl (by decide) (by omega) u4 x4_1 (bt a0 x6_1) [.int .u8 (bt a0 x6_1)] (fun _ => True) (fun _ => False) rfl rfl ?aP (fun _ hk => hk.elim) ?aF ?aO ?aB ?aS ?aL ?_; (case aP => exact rfl); (case aB => exact (bT HB)); (case aF => exact (fun _ _ => trivial)); (case aO => exact (qR HO_4)); (case aS => exact (bY (bT HB))); (case aL => have := LMc14.out; omega); intro v115 w15 ho hb hg hat; rw [← Ny114.out] at ho; refine yA2 (hb) (ho) ?_; clear HB HO_4; intro HB HO116; clear ho hb hg hat))
      go_roundg k1
      case measure => have := HK1.out; omega
      case rel => exact ⟨(y114), (false), (wrap64 (x6_1 + 1)), fT, fT, H', ⟨by have := HK1.out; omega⟩, ⟨qR HO116⟩, ⟨bT HB⟩⟩
     exact absurd H (by simp)
    exact absurd H (by simp)
   simp only [Option.some.injEq, Prod.mk.injEq] at H
   obtain ⟨rfl, rfl⟩ := H
   go_wp2
   go_ret2
   exact ⟨eT, bT HB⟩
end Go.Proofs.YtkbhkonenkgfoaaGreat.Q
end
section
namespace Go.Proofs.YtkbhkonenkgfoaaGreat.Q
open Go.RowKit Go.Proofs.YtkbhkonenkgfoaaGreatW.PrintWords Go.Proofs.YtkbhkonenkgfoaaGreatW.PrintLast Go.Proofs.YtkbhkonenkgfoaaGreatW.PrintMore
attribute [local go_sem] dJ dH dW dV dh df dI dG
set_option linter.unusedVariables false
set_option linter.unusedSimpArgs false
/-! ### gB: function 54 -/
def gB.j0 : Nat → ByteArray → Bool → Option (ByteArray)
 | 0, _, _ => none
 | k + 1, x0, x16 => if x16 = true then (if 0 ≤ 2 then (if 2 ≤ (x0.size : Int) then (some (x0.extract 0 2)) else (none)) else (none)) else (if 0 ≤ 1 then (if 1 ≤ (x0.size : Int) then ((eH.f k (⟨#[40, 41, 123, 125, 91, 93, 44, 59, 46, 47, 61, 60, 43, 45, 42, 37]⟩ : ByteArray) (x0.extract 0 1)).bind fun t118 => (if t118 = true then (some (x0.extract 0 1)) else (some (⟨#[]⟩ : ByteArray)))) else (none)) else (none))
def gB.f (k : Nat) (a0 : ByteArray) : Option (ByteArray) := if (a0.size : Int) > 1 then (if 0 ≤ 2 then (if 2 ≤ (a0.size : Int) then (if (a0.extract 0 2).size + 1 ≤ 9223372036854775807 then ((eH.f k (⟨#[61, 61, 32, 33, 61, 32, 60, 61, 32, 46, 46, 32]⟩ : ByteArray) ((a0.extract 0 2) ++ (⟨#[32]⟩ : ByteArray))).bind fun t117 => (if t117 = true then (if 1 < (a0.size : Int) then (gB.j0 k a0 ((bt a0 1) != 32)) else (none)) else (gB.j0 k a0 false))) else (none)) else (none)) else (none)) else (gB.j0 k a0 false)
theorem gB.bP : ∀ k, (∀ y0 y1, LeO (gB.j0 k y0 y1) (gB.j0 (k + 1) y0 y1))
 | 0 => fun _ _ r h => by simp [gB.j0] at h
 | k + 1 => by
  have ih0 := gB.bP k
  intro y0 y1
  unfold gB.j0
  have m0 := eH.mono
  exact yL
theorem gB.mono : ∀ a0 k, LeO (gB.f k a0) (gB.f (k + 1) a0) := by
 intro a0 k
 have ih0 := gB.bP k
 unfold gB.f
 have m0 := eH.mono
 exact yL
set_option maxHeartbeats 8000000 in
set_option maxRecDepth 100000 in
theorem gB.calls (k : Nat) (a0 : ByteArray) (r : ByteArray) (w : World) (h : gB.f k a0 = some r) :
 Calls Tryz.prog 54 #[.string a0] w fun e w' => e = .returned (.string r) ∧ eF w w' := by
 have H := h
 clear h
 unfold gB.f at H
 have HC2 := ae.mk H
 clear H
 go_enter Tryz.func54, Tryz.ntmps54
 go_upto_region 1 with (fail)
 go_cut [16] (fun v16 wc => ∃ (kq : Nat) (x16_1 : Bool), v16 = .bool x16_1 ∧ ae (gB.j0 kq a0 x16_1 = some r) ∧ ae (kq ≤ k) ∧ eF w wc)
 case first =>
  have H := HC2.out
  clear HC2
  revert H
  refine iC (fun c3 H => ?_) fun c3 H => ?_
  ·have c3b0 : decide (1 < (a0.size : Int)) = true := decide_eq_true c3
   have c3b1 : decide (1 < a0.size) = true := decide_eq_true (by omega)
   clear c3
   (first | rw [c3b0] | (simp only [gX, iP]; rw [c3b0]) | skip)
   revert H
   refine jO (fun c4b0 c4b1 H => ?_) fun c4 H => ?_
   ·revert H
    refine jO (fun c5b0 c5b1 H => ?_) fun c5 H => ?_
    ·revert H
     refine nD (fun c6 c6b0 c6b1 H => ?_) fun c6 H => ?_
     ·try have c6b2 : (9223372036854775807 < (a0.extract 0 2).size + 1) = False := eq_false (Nat.not_lt.2 c6)
      revert H
      refine yB1 fun t117 A7 H => ?_
      cases t117
      rotate_left
      ·replace H := yT H
       revert H
       refine pX (fun c9 c9b0 H => ?_) fun c9 H => ?_
       ·have c9b1 : decide (1 < a0.size) = true := decide_eq_true (by omega)
        clear c9
        have H' := ae.mk H
        clear H
        go_wp2_with (first | (go_at_call 89; (with_reducible refine (eH.calls k (⟨#[61, 61, 32, 33, 61, 32, 60, 61, 32, 46, 46, 32]⟩ : ByteArray) ((a0.extract 0 2) ++ (⟨#[32]⟩ : ByteArray)) true _ A7.out).mono ?_); rintro e w' ⟨rfl, ⟨nd, rfl⟩⟩; have p10 : 0 ≤ (1 : Int) := (by omega); have q10 : 1 < a0.size := (by have : (1 : Int) < (a0.size : Int) := of_decide_eq_true aT; omega); have hx10 : ∀ h : 1 < a0.size, ((a0[1]'h).toNat : Int) = bt a0 1 := iE a0 1; clear p10; have qi10 : (1 < (a0.size : Int)) = True := eq_true (of_decide_eq_true aT); replace q10 := eq_true q10))
        go_meet
        case rel => exact ⟨_, (((bt a0 1) != 32)), fT, H', ⟨Z11⟩, Z0⟩
       exact absurd H (by simp)
      replace H := yF H
      have H' := ae.mk H
      clear H
      go_wp2_with (first | (go_at_call 89; (with_reducible refine (eH.calls k (⟨#[61, 61, 32, 33, 61, 32, 60, 61, 32, 46, 46, 32]⟩ : ByteArray) ((a0.extract 0 2) ++ (⟨#[32]⟩ : ByteArray)) false _ A7.out).mono ?_); rintro e w' ⟨rfl, ⟨nd, rfl⟩⟩))
      go_meet
      case rel => exact ⟨_, (false), fT, H', ⟨Z11⟩, Z0⟩
     exact absurd H (by simp)
    exact absurd H (by simp)
   exact absurd H (by simp)
  have c3b0 : decide (1 < (a0.size : Int)) = false := decide_eq_false c3
  have c3b1 : decide (1 < a0.size) = false := decide_eq_false (by omega)
  clear c3
  (first | rw [c3b0] | (simp only [gX, iP]; rw [c3b0]) | skip)
  have H' := ae.mk H
  clear H
  go_wp2
  go_meet
  case rel => exact ⟨_, (false), fT, H', ⟨Z11⟩, Z0⟩
 case rest =>
  clear HC2
  try clear p1
  try clear q1
  try clear hx1
  try clear qi1
  try clear p2
  try clear c3
  try clear c3b0
  try clear c3b1
  try clear c4
  try clear c4b0
  try clear c4b1
  try clear c5
  try clear c5b0
  try clear c5b1
  try clear c6
  try clear c6b0
  try clear c6b1
  try clear c6b2
  try clear c8
  try clear c9
  try clear c9b0
  try clear c9b1
  try clear p10
  try clear q10
  try clear hx10
  try clear qi10
  try clear p10
  try clear q10
  obtain ⟨kq, x16_1, rfl, HA, HJ1, ⟨mc1, rfl⟩⟩ := hcut
  cases kq with
  | zero => exact absurd HA.out (by simp [gB.j0])
  | succ kj1 =>
   have H := HA.out
   clear HA
   simp only [gB.j0] at H
   cases x16_1
   rotate_left
   ·replace H := yT H
    revert H
    refine jO (fun c12b0 c12b1 H => ?_) fun c12 H => ?_
    ·revert H
     refine jO (fun c13b0 c13b1 H => ?_) fun c13 H => ?_
     ·obtain rfl := Option.some.inj H
      go_wp2
      go_ret
      exact ⟨fT, Z0⟩
     exact absurd H (by simp)
    exact absurd H (by simp)
   replace H := yF H
   revert H
   refine jO (fun c14b0 c14b1 H => ?_) fun c14 H => ?_
   ·revert H
    refine jO (fun c15b0 c15b1 H => ?_) fun c15 H => ?_
    ·revert H
     refine yB1 fun t118 A16 H => ?_
     cases t118
     rotate_left
     ·replace H := yT H
      have c18b0 := eq_true (of_decide_eq_true aT : 0 ≤ 1)
      have c19b0 := eq_true (of_decide_eq_true aT : 1 ≤ (a0.size : Int))
      obtain rfl := Option.some.inj H
      go_wp2_with (first | ((with_reducible refine gC 89 rfl ?_); refine gM 89 21 rfl Tryz.func89 (eH.calls kj1 (⟨#[40, 41, 123, 125, 91, 93, 44, 59, 46, 47, 61, 60, 43, 45, 42, 37]⟩ : ByteArray) (a0.extract 0 1) true _ A16.out) ?_; rintro _ w' ⟨rfl, ⟨nd, rfl⟩⟩; refine ⟨_, rfl, ?_⟩))
      go_ret
      exact ⟨fT, Z0⟩
     replace H := yF H
     obtain rfl := Option.some.inj H
     go_wp2_with (first | ((with_reducible refine gC 89 rfl ?_); refine gM 89 21 rfl Tryz.func89 (eH.calls kj1 (⟨#[40, 41, 123, 125, 91, 93, 44, 59, 46, 47, 61, 60, 43, 45, 42, 37]⟩ : ByteArray) (a0.extract 0 1) false _ A16.out) ?_; rintro _ w' ⟨rfl, ⟨nd, rfl⟩⟩; refine ⟨_, rfl, ?_⟩))
     go_ret
     exact ⟨fT, Z0⟩
    exact absurd H (by simp)
   exact absurd H (by simp)
end Go.Proofs.YtkbhkonenkgfoaaGreat.Q
end
section
namespace Go.Proofs.YtkbhkonenkgfoaaGreat.Q
open Go.RowKit Go.Proofs.YtkbhkonenkgfoaaGreatW.PrintWords Go.Proofs.YtkbhkonenkgfoaaGreatW.PrintLast Go.Proofs.YtkbhkonenkgfoaaGreatW.PrintMore
attribute [local go_sem] dJ dH dW dV dh df dI dG
set_option linter.unusedVariables false
set_option linter.unusedSimpArgs false
/-! ### jK: function 20 -/
def jK.f (k : Nat) (a0 : ByteArray) : Option (Int × ByteArray × Int × Int × Int × Int) := if 0 < (a0.size : Int) then ((jL.f (wrap32 (bt a0 0))).bind fun t120 => (if t120 = true then ((lC.f a0).bind fun t121 => ((kD.f k t121).bind fun t122 => (if t122 = true then (some (5, t121, 0, 0, (t121.size : Int), 0)) else ((iH.f k t121).bind fun t123 => (if t123 = true then (some (1, t121, 0, 0, (t121.size : Int), 0)) else (some (0, (⟨#[]⟩ : ByteArray), 0, 0, 0, 10))))))) else ((lW.f (wrap32 (bt a0 0))).bind fun t124 => (if t124 = true then ((nU.f a0).bind fun t125 => ((dY.f k t125).bind fun bt126 => (if bt126.2 = true then (some (2, t125, bt126.1, 0, (t125.size : Int), 0)) else (some (0, (⟨#[]⟩ : ByteArray), 0, 0, 0, 10))))) else (if (wrap32 (bt a0 0)) = 34 then ((eP.f k a0).bind fun bt128 => (if bt128.2 > 0 then (some (3, bt128.1, 0, 0, bt128.2, 0)) else (some (0, (⟨#[]⟩ : ByteArray), 0, 0, 0, 10)))) else ((gB.f k a0).bind fun t130 => (if t130.toList = ([] : List UInt8) then (some (0, (⟨#[]⟩ : ByteArray), 0, 0, 0, 9)) else (some (4, t130, 0, 0, (t130.size : Int), 0))))))))) else (none)
theorem jK.mono : ∀ a0 k, LeO (jK.f k a0) (jK.f (k + 1) a0) := by
 intro a0 k
 unfold jK.f
 have m0 := kD.mono
 have m1 := iH.mono
 have m2 := dY.mono
 have m3 := eP.mono
 have m4 := gB.mono
 exact yL
end Go.Proofs.YtkbhkonenkgfoaaGreat.Q
end
section
set_option linter.unusedVariables false
set_option linter.unusedSimpArgs false
namespace Go.Proofs.YtkbhkonenkgfoaaGreat.Q
open Go Go.RowKit Go.Proofs.YtkbhkonenkgfoaaGreatW.PrintWords Go.Proofs.YtkbhkonenkgfoaaGreatW.PrintLast Go.Proofs.YtkbhkonenkgfoaaGreatW.PrintMore
attribute [local go_sem] dJ dH dW dV dh df dI dG
set_option maxHeartbeats 8000000 in
set_option maxRecDepth 100000 in
theorem jK.calls (k : Nat) (a0 : ByteArray) (r1 : Int) (r2 : ByteArray) (r3 : Int) (r4 : Int) (r5 : Int) (r6 : Int) (w : World) (h : jK.f k a0 = some (r1, r2, r3, r4, r5, r6)) :
 Calls Tryz.prog 20 #[.string a0] w fun e w' => e = .returned (.tuple #[.agg #[.int .i64 r1, .string r2, .int .i64 r3, .int .i64 r4], .int .i64 r5, .int .i64 r6]) ∧ Below w.heap.size w w' := by
 unfold jK.f at h
 have HS := PS.new w
 have H := ae.mk h
 have hu := Tryz.underlying37
 clear h
 (repeat' (first | (with_reducible exact absurd H.out (Option.some_ne_none _).symm) | (first | replace H := qB1 H (by assumption) | replace H := qB0 H (by assumption) | replace H := qE1 H (by assumption) | replace H := qE0 H (by assumption) | replace H := qD1 H (by assumption) | replace H := qD0 H (by assumption)) | (refine qB H ?_ ?_ <;> clear H <;> intro cb_ H <;> (try subst cb_)) | (refine qE H ?_ ?_ <;> clear H <;> intro cb_ cn_ H) | (refine qD H ?_ ?_ <;> clear H <;> intro cp_ cb_ H <;> (try simp only [ge_iff_le, gt_iff_lt] at cp_ cb_))))
 have q0 : (0 < a0.size) = True := eq_true (by have := of_eq_true ‹(0 < (a0.size : Int)) = True›; omega)
 have hi : ∀ h : 0 < a0.size, ((a0[0]'h).toNat : Int) = bt a0 0 := iE a0 0
 go_enter Tryz.func20, Tryz.ntmps20
 go_wp2_with (first | ((with_reducible refine bH (N := 2) rfl ?_); refine GH (N := 2) (stP HS) (by first | (go_simp; done) | (go_simp; rfl)) ?_; (try clear hxa0 hxa1 hxa2 hxa3 hfa0 hfa1 hfa2 hfa3); (try clear hxb0 hxb1 hxb2 hxb3 hfb0 hfb1 hfb2 hfb3); (try clear n1_ n2_); clear HS; intro gb2 w' HS; (try obtain ⟨hxa0, hxa1, hxa2, hxa3, hfa0, hfa1, hfa2, hfa3⟩ := c4 HS.hd); (try obtain ⟨hxb0, hxb1, hxb2, hxb3, hfb0, hfb1, hfb2, hfb3⟩ := c4 HS.tl.hd); (try obtain ⟨n1_, n2_⟩ := HS.ne)) | ((with_reducible refine gC 47 rfl ?_); refine pV .bool 47 rfl Tryz.func47 (stP HS) H (fun t h => ofD (jL.calls _ t _ h)) ?_; (try clear hxa0 hxa1 hxa2 hxa3 hfa0 hfa1 hfa2 hfa3); (try clear hxb0 hxb1 hxb2 hxb3 hfb0 hfb1 hfb2 hfb3); (try clear n1_ n2_); clear HS H; intro t w' HS H; (try dsimp only at H); (try obtain ⟨hxa0, hxa1, hxa2, hxa3, hfa0, hfa1, hfa2, hfa3⟩ := c4 HS.hd); (try obtain ⟨hxb0, hxb1, hxb2, hxb3, hfb0, hfb1, hfb2, hfb3⟩ := c4 HS.tl.hd); (try obtain ⟨n1_, n2_⟩ := HS.ne); (repeat' (first | (with_reducible exact absurd H.out (Option.some_ne_none _).symm) | (first | replace H := qB1 H (by assumption) | replace H := qB0 H (by assumption) | replace H := qE1 H (by assumption) | replace H := qE0 H (by assumption) | replace H := qD1 H (by assumption) | replace H := qD0 H (by assumption)) | (refine qB H ?_ ?_ <;> clear H <;> intro cb_ H <;> (try subst cb_)) | (refine qE H ?_ ?_ <;> clear H <;> intro cb_ cn_ H) | (refine qD H ?_ ?_ <;> clear H <;> intro cp_ cb_ H <;> (try simp only [ge_iff_le, gt_iff_lt] at cp_ cb_))))) | ((with_reducible refine gC 44 rfl ?_); refine pV .string 44 rfl Tryz.func44 (stP HS) H (fun t h => lC.calls _ t _ h) ?_; (try clear hxa0 hxa1 hxa2 hxa3 hfa0 hfa1 hfa2 hfa3); (try clear hxb0 hxb1 hxb2 hxb3 hfb0 hfb1 hfb2 hfb3); (try clear n1_ n2_); clear HS H; intro t w' HS H; (try dsimp only at H); (try obtain ⟨hxa0, hxa1, hxa2, hxa3, hfa0, hfa1, hfa2, hfa3⟩ := c4 HS.hd); (try obtain ⟨hxb0, hxb1, hxb2, hxb3, hfb0, hfb1, hfb2, hfb3⟩ := c4 HS.tl.hd); (try obtain ⟨n1_, n2_⟩ := HS.ne); (repeat' (first | (with_reducible exact absurd H.out (Option.some_ne_none _).symm) | (first | replace H := qB1 H (by assumption) | replace H := qB0 H (by assumption) | replace H := qE1 H (by assumption) | replace H := qE0 H (by assumption) | replace H := qD1 H (by assumption) | replace H := qD0 H (by assumption)) | (refine qB H ?_ ?_ <;> clear H <;> intro cb_ H <;> (try subst cb_)) | (refine qE H ?_ ?_ <;> clear H <;> intro cb_ cn_ H) | (refine qD H ?_ ?_ <;> clear H <;> intro cp_ cb_ H <;> (try simp only [ge_iff_le, gt_iff_lt] at cp_ cb_))))) | ((with_reducible refine gC 44 rfl ?_); refine pV .string 44 rfl Tryz.func44 (stP HS) H (fun t h => nU.calls _ t _ h) ?_; (try clear hxa0 hxa1 hxa2 hxa3 hfa0 hfa1 hfa2 hfa3); (try clear hxb0 hxb1 hxb2 hxb3 hfb0 hfb1 hfb2 hfb3); (try clear n1_ n2_); clear HS H; intro t w' HS H; (try dsimp only at H); (try obtain ⟨hxa0, hxa1, hxa2, hxa3, hfa0, hfa1, hfa2, hfa3⟩ := c4 HS.hd); (try obtain ⟨hxb0, hxb1, hxb2, hxb3, hfb0, hfb1, hfb2, hfb3⟩ := c4 HS.tl.hd); (try obtain ⟨n1_, n2_⟩ := HS.ne); (repeat' (first | (with_reducible exact absurd H.out (Option.some_ne_none _).symm) | (first | replace H := qB1 H (by assumption) | replace H := qB0 H (by assumption) | replace H := qE1 H (by assumption) | replace H := qE0 H (by assumption) | replace H := qD1 H (by assumption) | replace H := qD0 H (by assumption)) | (refine qB H ?_ ?_ <;> clear H <;> intro cb_ H <;> (try subst cb_)) | (refine qE H ?_ ?_ <;> clear H <;> intro cb_ cn_ H) | (refine qD H ?_ ?_ <;> clear H <;> intro cp_ cb_ H <;> (try simp only [ge_iff_le, gt_iff_lt] at cp_ cb_))))) | ((with_reducible refine gC 49 rfl ?_); refine pV .bool 49 rfl Tryz.func49 (stP HS) H (fun t h => kD.calls _ _ t _ h) ?_; (try clear hxa0 hxa1 hxa2 hxa3 hfa0 hfa1 hfa2 hfa3); (try clear hxb0 hxb1 hxb2 hxb3 hfb0 hfb1 hfb2 hfb3); (try clear n1_ n2_); clear HS H; intro t w' HS H; (try dsimp only at H); (try obtain ⟨hxa0, hxa1, hxa2, hxa3, hfa0, hfa1, hfa2, hfa3⟩ := c4 HS.hd); (try obtain ⟨hxb0, hxb1, hxb2, hxb3, hfb0, hfb1, hfb2, hfb3⟩ := c4 HS.tl.hd); (try obtain ⟨n1_, n2_⟩ := HS.ne); (repeat' (first | (with_reducible exact absurd H.out (Option.some_ne_none _).symm) | (first | replace H := qB1 H (by assumption) | replace H := qB0 H (by assumption) | replace H := qE1 H (by assumption) | replace H := qE0 H (by assumption) | replace H := qD1 H (by assumption) | replace H := qD0 H (by assumption)) | (refine qB H ?_ ?_ <;> clear H <;> intro cb_ H <;> (try subst cb_)) | (refine qE H ?_ ?_ <;> clear H <;> intro cb_ cn_ H) | (refine qD H ?_ ?_ <;> clear H <;> intro cp_ cb_ H <;> (try simp only [ge_iff_le, gt_iff_lt] at cp_ cb_))))) | ((with_reducible refine gC 50 rfl ?_); refine pV .bool 50 rfl Tryz.func50 (stP HS) H (fun t h => iH.calls _ _ t _ h) ?_; (try clear hxa0 hxa1 hxa2 hxa3 hfa0 hfa1 hfa2 hfa3); (try clear hxb0 hxb1 hxb2 hxb3 hfb0 hfb1 hfb2 hfb3); (try clear n1_ n2_); clear HS H; intro t w' HS H; (try dsimp only at H); (try obtain ⟨hxa0, hxa1, hxa2, hxa3, hfa0, hfa1, hfa2, hfa3⟩ := c4 HS.hd); (try obtain ⟨hxb0, hxb1, hxb2, hxb3, hfb0, hfb1, hfb2, hfb3⟩ := c4 HS.tl.hd); (try obtain ⟨n1_, n2_⟩ := HS.ne); (repeat' (first | (with_reducible exact absurd H.out (Option.some_ne_none _).symm) | (first | replace H := qB1 H (by assumption) | replace H := qB0 H (by assumption) | replace H := qE1 H (by assumption) | replace H := qE0 H (by assumption) | replace H := qD1 H (by assumption) | replace H := qD0 H (by assumption)) | (refine qB H ?_ ?_ <;> clear H <;> intro cb_ H <;> (try subst cb_)) | (refine qE H ?_ ?_ <;> clear H <;> intro cb_ cn_ H) | (refine qD H ?_ ?_ <;> clear H <;> intro cp_ cb_ H <;> (try simp only [ge_iff_le, gt_iff_lt] at cp_ cb_))))) | ((with_reducible refine gC 51 rfl ?_); refine pV .bool 51 rfl Tryz.func51 (stP HS) H (fun t h => ofD (lW.calls _ t _ h)) ?_; (try clear hxa0 hxa1 hxa2 hxa3 hfa0 hfa1 hfa2 hfa3); (try clear hxb0 hxb1 hxb2 hxb3 hfb0 hfb1 hfb2 hfb3); (try clear n1_ n2_); clear HS H; intro t w' HS H; (try dsimp only at H); (try obtain ⟨hxa0, hxa1, hxa2, hxa3, hfa0, hfa1, hfa2, hfa3⟩ := c4 HS.hd); (try obtain ⟨hxb0, hxb1, hxb2, hxb3, hfb0, hfb1, hfb2, hfb3⟩ := c4 HS.tl.hd); (try obtain ⟨n1_, n2_⟩ := HS.ne); (repeat' (first | (with_reducible exact absurd H.out (Option.some_ne_none _).symm) | (first | replace H := qB1 H (by assumption) | replace H := qB0 H (by assumption) | replace H := qE1 H (by assumption) | replace H := qE0 H (by assumption) | replace H := qD1 H (by assumption) | replace H := qD0 H (by assumption)) | (refine qB H ?_ ?_ <;> clear H <;> intro cb_ H <;> (try subst cb_)) | (refine qE H ?_ ?_ <;> clear H <;> intro cb_ cn_ H) | (refine qD H ?_ ?_ <;> clear H <;> intro cp_ cb_ H <;> (try simp only [ge_iff_le, gt_iff_lt] at cp_ cb_))))) | ((with_reducible refine gC 52 rfl ?_); refine pV (fun t : Int × Bool => .tuple #[.int .i64 t.1, .bool t.2]) 52 rfl Tryz.func52 (stP HS) H (fun t h => ofD (dY.calls _ _ t.1 t.2 _ h)) ?_; (try clear hxa0 hxa1 hxa2 hxa3 hfa0 hfa1 hfa2 hfa3); (try clear hxb0 hxb1 hxb2 hxb3 hfb0 hfb1 hfb2 hfb3); (try clear n1_ n2_); clear HS H; intro t w' HS H; (try dsimp only at H); (try obtain ⟨hxa0, hxa1, hxa2, hxa3, hfa0, hfa1, hfa2, hfa3⟩ := c4 HS.hd); (try obtain ⟨hxb0, hxb1, hxb2, hxb3, hfb0, hfb1, hfb2, hfb3⟩ := c4 HS.tl.hd); (try obtain ⟨n1_, n2_⟩ := HS.ne); (repeat' (first | (with_reducible exact absurd H.out (Option.some_ne_none _).symm) | (first | replace H := qB1 H (by assumption) | replace H := qB0 H (by assumption) | replace H := qE1 H (by assumption) | replace H := qE0 H (by assumption) | replace H := qD1 H (by assumption) | replace H := qD0 H (by assumption)) | (refine qB H ?_ ?_ <;> clear H <;> intro cb_ H <;> (try subst cb_)) | (refine qE H ?_ ?_ <;> clear H <;> intro cb_ cn_ H) | (refine qD H ?_ ?_ <;> clear H <;> intro cp_ cb_ H <;> (try simp only [ge_iff_le, gt_iff_lt] at cp_ cb_))))) | ((with_reducible refine gC 53 rfl ?_); refine pV (fun t : ByteArray × Int => .tuple #[.string t.1, .int .i64 t.2]) 53 rfl Tryz.func53 (stP HS) H (fun t h => eP.calls _ _ t.1 t.2 _ h) ?_; (try clear hxa0 hxa1 hxa2 hxa3 hfa0 hfa1 hfa2 hfa3); (try clear hxb0 hxb1 hxb2 hxb3 hfb0 hfb1 hfb2 hfb3); (try clear n1_ n2_); clear HS H; intro t w' HS H; (try dsimp only at H); (try obtain ⟨hxa0, hxa1, hxa2, hxa3, hfa0, hfa1, hfa2, hfa3⟩ := c4 HS.hd); (try obtain ⟨hxb0, hxb1, hxb2, hxb3, hfb0, hfb1, hfb2, hfb3⟩ := c4 HS.tl.hd); (try obtain ⟨n1_, n2_⟩ := HS.ne); (repeat' (first | (with_reducible exact absurd H.out (Option.some_ne_none _).symm) | (first | replace H := qB1 H (by assumption) | replace H := qB0 H (by assumption) | replace H := qE1 H (by assumption) | replace H := qE0 H (by assumption) | replace H := qD1 H (by assumption) | replace H := qD0 H (by assumption)) | (refine qB H ?_ ?_ <;> clear H <;> intro cb_ H <;> (try subst cb_)) | (refine qE H ?_ ?_ <;> clear H <;> intro cb_ cn_ H) | (refine qD H ?_ ?_ <;> clear H <;> intro cp_ cb_ H <;> (try simp only [ge_iff_le, gt_iff_lt] at cp_ cb_))))) | ((with_reducible refine gC 54 rfl ?_); refine pV .string 54 rfl Tryz.func54 (stP HS) H (fun t h => ofD (gB.calls _ _ t _ h)) ?_; (try clear hxa0 hxa1 hxa2 hxa3 hfa0 hfa1 hfa2 hfa3); (try clear hxb0 hxb1 hxb2 hxb3 hfb0 hfb1 hfb2 hfb3); (try clear n1_ n2_); clear HS H; intro t w' HS H; (try dsimp only at H); (try obtain ⟨hxa0, hxa1, hxa2, hxa3, hfa0, hfa1, hfa2, hfa3⟩ := c4 HS.hd); (try obtain ⟨hxb0, hxb1, hxb2, hxb3, hfb0, hfb1, hfb2, hfb3⟩ := c4 HS.tl.hd); (try obtain ⟨n1_, n2_⟩ := HS.ne); (repeat' (first | (with_reducible exact absurd H.out (Option.some_ne_none _).symm) | (first | replace H := qB1 H (by assumption) | replace H := qB0 H (by assumption) | replace H := qE1 H (by assumption) | replace H := qE0 H (by assumption) | replace H := qD1 H (by assumption) | replace H := qD0 H (by assumption)) | (refine qB H ?_ ?_ <;> clear H <;> intro cb_ H <;> (try subst cb_)) | (refine qE H ?_ ?_ <;> clear H <;> intro cb_ cn_ H) | (refine qD H ?_ ?_ <;> clear H <;> intro cp_ cb_ H <;> (try simp only [ge_iff_le, gt_iff_lt] at cp_ cb_))))))
 all_goals (have h_ := H.out; simp only [Option.some.injEq, Prod.mk.injEq] at h_; obtain ⟨rfl, rfl, rfl, rfl, rfl, rfl⟩ := h_; refine bodyPost_ret (qw rfl _ _ gb2 37 _ (0, 0) _ rfl (by exact PS.hd (stP HS)) Tryz.underlying37 rfl (by kernel_rfl)) rfl ?_; exact ⟨Z19, (stP HS).below⟩)
end Go.Proofs.YtkbhkonenkgfoaaGreat.Q
end
section
set_option linter.unusedVariables false
set_option linter.unusedSimpArgs false
namespace Go.Proofs.YtkbhkonenkgfoaaGreat.Q
open Go.RowKit Go.Proofs.YtkbhkonenkgfoaaGreatW.PrintWords Go.Proofs.YtkbhkonenkgfoaaGreatW.PrintLast Go.Proofs.YtkbhkonenkgfoaaGreatW.PrintMore
def kR.f (s0 : List S37) (s1 : Int) (s2 : Bool) : Option (Int × ByteArray × Int × Int × Bool × Int × Bool) :=
 if s2 = true then some (0, (⟨#[]⟩ : ByteArray), 0, 0, false, s1, s2) else if s1 ≥ (s0.length : Int) then some (0, (⟨#[]⟩ : ByteArray), 0, 0, false, s1, s2)
 else if 0 ≤ s1 then some ((fF s0 s1).f0, (fF s0 s1).f1, (fF s0 s1).f2, (fF s0 s1).f3, true, s1, s2) else none
set_option maxHeartbeats 8000000 in
set_option maxRecDepth 100000 in
theorem kR.calls (g : Nat) (s0_0 : List S37) (s0_1 : Int) (s0_2 : Bool) (r1 : Int) (r2 : ByteArray) (r3 : Int) (r4 : Int) (r5 : Bool) (r6 : Int) (r7 : Bool) (w0 w : World) (hI : dB w0 w g s0_0 s0_1 s0_2) (hB : Below w0.heap.size w0 w) (h : kR.f s0_0 s0_1 s0_2 = some (r1, r2, r3, r4, r5, r6, r7)) :
 Calls Tryz.prog 63 #[.pointer (some ⟨g, 0, none⟩)] w fun e w' => e = .returned (.tuple #[.agg #[.int .i64 r1, .string r2, .int .i64 r3, .int .i64 r4], .bool r5]) ∧ dB w0 w' g s0_0 r6 r7 ∧ Below w0.heap.size w0 w' ∧ cO w w' g none := by
 have HI0 := ae.mk hI
 have HB := ae.mk hB
 clear hI hB
 unfold kR.f at h
 have HQ := ae.mk h
 clear h
 go_enter Tryz.func63, Tryz.ntmps63
 go_upto_region 1 with (first | ((with_reducible refine bH (N := 2) rfl ?_); refine gp ?hg (N := 2) ?hd (cs := #[.int .i64 0, .string (⟨#[]⟩ : ByteArray), .int .i64 0, .int .i64 0]) (t := 37) ?hr ?_; (case hd => rfl); (case hg => rfl); (case hr => first | (go_simp; done) | (go_simp; rfl)); intro gb hg w1 hbox hb; have HI1 := ae.mk (HI0.out.below hb); have HB1 := ae.mk (aY HB.out hb); have HK1 := ae.mk (cO.of_below hb g none); have BX := ae.mk hbox; have GB := ae.mk (show w.heap.size ≤ gb by rw [hg]; exact Nat.le_refl _); have GW := ae.mk (show w0.heap.size ≤ gb by rw [hg]; exact HB.out.size); have GN := ae.mk (show gb ≠ g by rw [hg]; exact HI0.out.fresh _ (Nat.le_refl _)); clear hbox hb hg))
 obtain ⟨ASz, cSz, HGz, hgz, HSz⟩ := HI1.out
 have hcz0 := kM HGz
 have hcz1 := kL HGz
 have hcz2 := kK HGz
 clear HGz hgz
 have hcb0 : w1.cell? ⟨gb, 0, none⟩ = some (.int .i64 0) := (aj BX.out 0).trans rfl
 have hcb1 : w1.cell? ⟨gb, 1, none⟩ = some (.string (⟨#[]⟩ : ByteArray)) := (aj BX.out 1).trans rfl
 have hcb2 : w1.cell? ⟨gb, 2, none⟩ = some (.int .i64 0) := (aj BX.out 2).trans rfl
 have hcb3 : w1.cell? ⟨gb, 3, none⟩ = some (.int .i64 0) := (aj BX.out 3).trans rfl
 have hfb0 := ag BX.out 0
 have hfb1 := ag BX.out 1
 have hfb2 := ag BX.out 2
 have hfb3 := ag BX.out 3
 have h := HQ.out
 clear HQ
 by_cases c1 : s0_2 = true
 ·rw [if_pos c1] at h
  subst c1
  cases h
  go_quiet (fail)
  go_wp2
  refine bodyPost_ret (rW rfl _ _ gb 37 #[.int .i64 0, .string (⟨#[]⟩ : ByteArray), .int .i64 0, .int .i64 0] (0, 0) _ rfl (by (with_reducible repeat (first | refine jd ?_ _ | refine jk ?_)); refine eQ (cs := #[.int .i64 0, .string (⟨#[]⟩ : ByteArray), .int .i64 0, .int .i64 0]) ?_ 3 _ rfl; refine eQ (cs := #[.int .i64 0, .string (⟨#[]⟩ : ByteArray), .int .i64 0, .int .i64 0]) ?_ 2 _ rfl; refine eQ (cs := #[.int .i64 0, .string (⟨#[]⟩ : ByteArray), .int .i64 0, .int .i64 0]) ?_ 1 _ rfl; refine eQ (cs := #[.int .i64 0, .string (⟨#[]⟩ : ByteArray), .int .i64 0, .int .i64 0]) ?_ 0 _ rfl; (with_reducible repeat (first | refine jd ?_ _ | refine jk ?_)); exact BX.out) Tryz.underlying37 rfl (by kernel_rfl)) rfl ?_
  exact ⟨rfl, Z28, Z30, Z31⟩
 have c1' : s0_2 = false := Bool.eq_false_iff.2 c1
 rw [if_neg c1] at h
 subst c1'
 clear c1
 by_cases c2 : s0_1 ≥ (s0_0.length : Int)
 ·rw [if_pos c2] at h
  cases h
  have c2b : decide ((s0_0.length : Int) ≤ s0_1) = true := decide_eq_true c2
  go_quiet (fail)
  go_wp2
  refine bodyPost_ret (rW rfl _ _ gb 37 #[.int .i64 0, .string (⟨#[]⟩ : ByteArray), .int .i64 0, .int .i64 0] (0, 0) _ rfl (by (with_reducible repeat (first | refine jd ?_ _ | refine jk ?_)); refine eQ (cs := #[.int .i64 0, .string (⟨#[]⟩ : ByteArray), .int .i64 0, .int .i64 0]) ?_ 3 _ rfl; refine eQ (cs := #[.int .i64 0, .string (⟨#[]⟩ : ByteArray), .int .i64 0, .int .i64 0]) ?_ 2 _ rfl; refine eQ (cs := #[.int .i64 0, .string (⟨#[]⟩ : ByteArray), .int .i64 0, .int .i64 0]) ?_ 1 _ rfl; refine eQ (cs := #[.int .i64 0, .string (⟨#[]⟩ : ByteArray), .int .i64 0, .int .i64 0]) ?_ 0 _ rfl; (with_reducible repeat (first | refine jd ?_ _ | refine jk ?_)); exact BX.out) Tryz.underlying37 rfl (by kernel_rfl)) rfl ?_
  exact ⟨rfl, Z28, Z30, Z31⟩
 rw [if_neg c2] at h
 have c2b : decide ((s0_0.length : Int) ≤ s0_1) = false := decide_eq_false c2
 by_cases c3 : 0 ≤ s0_1
 ·rw [if_pos c3] at h
  cases h
  obtain ⟨ad, ead, hx0, hx1, hx2, hx3⟩ := lM HSz s0_1 c3 (by omega)
  cases ead
  replace hx0 := bI HB1.out hx0
  replace hx1 := bI HB1.out hx1
  replace hx2 := bI HB1.out hx2
  replace hx3 := bI HB1.out hx3
  have p3 := eq_true c3
  have q3 := eq_true (show s0_1 < (s0_0.length : Int) by omega)
  clear c2 c3
  go_quiet (fail)
  go_wp2
  go_region
  go_wp2
  refine bodyPost_ret (rW rfl _ _ gb 37 #[.int .i64 (fF s0_0 s0_1).f0, .string (fF s0_0 s0_1).f1, .int .i64 (fF s0_0 s0_1).f2, .int .i64 (fF s0_0 s0_1).f3] (0, 0) _ rfl (by (with_reducible repeat (first | refine jd ?_ _ | refine jk ?_)); refine eQ (cs := #[.int .i64 (fF s0_0 s0_1).f0, .string (fF s0_0 s0_1).f1, .int .i64 (fF s0_0 s0_1).f2, .int .i64 0]) ?_ 3 _ rfl; refine eQ (cs := #[.int .i64 (fF s0_0 s0_1).f0, .string (fF s0_0 s0_1).f1, .int .i64 0, .int .i64 0]) ?_ 2 _ rfl; refine eQ (cs := #[.int .i64 (fF s0_0 s0_1).f0, .string (⟨#[]⟩ : ByteArray), .int .i64 0, .int .i64 0]) ?_ 1 _ rfl; refine eQ (cs := #[.int .i64 0, .string (⟨#[]⟩ : ByteArray), .int .i64 0, .int .i64 0]) ?_ 0 _ rfl; (with_reducible repeat (first | refine jd ?_ _ | refine jk ?_)); exact BX.out) Tryz.underlying37 rfl (by kernel_rfl)) rfl ?_
  exact ⟨rfl, Z28, Z30, Z31⟩
 rw [if_neg c3] at h
 cases h
end Go.Proofs.YtkbhkonenkgfoaaGreat.Q
end
section
namespace Go.Proofs.YtkbhkonenkgfoaaGreat.Q
open Go.RowKit Go.Proofs.YtkbhkonenkgfoaaGreatW.PrintWords Go.Proofs.YtkbhkonenkgfoaaGreatW.PrintLast Go.Proofs.YtkbhkonenkgfoaaGreatW.PrintMore
attribute [local go_sem] iW iV iU iR dJ dH dW dV dh df dI dG
set_option linter.unusedVariables false
set_option linter.unusedSimpArgs false
/-! ### gU: function 12 -/
def gU.l0 : Nat → ByteArray → List (S37) → ByteArray → Option ((List (S37)) × Int × Int)
 | 0, _, _, _ => none
 | k + 1, x0, x5, x6 => if x6.toList = ([] : List UInt8) then (some (x5, 0, 0)) else ((jK.f k x6).bind fun bt132 => (if bt132.2.2.2.2.2 = 0 then (if x5.length < 3518437208883 then (if 0 ≤ bt132.2.2.2.2.1 then (if bt132.2.2.2.2.1 ≤ (x6.size : Int) then ((nP.f (x6.extract (bt132.2.2.2.2.1 : Int).toNat x6.size)).bind fun t142 => (gU.l0 k x0 (x5 ++ [(⟨bt132.1, bt132.2.1, bt132.2.2.1, wrap64 ((x0.size : Int) - (x6.size : Int))⟩ : S37)]) t142)) else (none)) else (none)) else (none)) else (some (([] : List (S37)), bt132.2.2.2.2.2, wrap64 ((x0.size : Int) - (x6.size : Int))))))
def gU.f (k : Nat) (a0 : ByteArray) : Option ((List (S37)) × Int × Int) := if (a0.size : Int) > 8192 then (some (([] : List (S37)), 3, 0)) else ((nP.f a0).bind fun t131 => (gU.l0 k a0 ([] : List (S37)) t131))
theorem gU.bP : ∀ k, (∀ y0 y1 y2, LeO (gU.l0 k y0 y1 y2) (gU.l0 (k + 1) y0 y1 y2))
 | 0 => fun _ _ _ r h => by simp [gU.l0] at h
 | k + 1 => by
  have ih0 := gU.bP k
  intro y0 y1 y2
  unfold gU.l0
  have m0 := jK.mono
  exact yL
theorem gU.mono : ∀ a0 k, LeO (gU.f k a0) (gU.f (k + 1) a0) := by
 intro a0 k
 have ih0 := gU.bP k
 unfold gU.f
 have m0 := jK.mono
 exact yL
set_option maxHeartbeats 8000000 in
set_option maxRecDepth 100000 in
theorem gU.calls (k : Nat) (a0 : ByteArray) (r1 : List (S37)) (r2 : Int) (r3 : Int) (w : World) (h : gU.f k a0 = some (r1, r2, r3)) :
 Calls Tryz.prog 12 #[.string a0] w fun e w' => ∃ v0_ : Value, e = .returned (.tuple #[v0_, .int .i64 r2, .int .i64 r3]) ∧ Kd.R k37 37 w' w.heap.size (fun _ => True) v0_ r1 ∧ Below w.heap.size w w' := by
 have hu37 := Tryz.underlying37
 have HB := ae.mk (Below.refl w.heap.size w)
 have H := h
 clear h
 unfold gU.f at H
 revert H
 refine iC (fun c2 H => ?_) fun c2 H => ?_
 ·have c2b0 : decide (8192 < (a0.size : Int)) = true := decide_eq_true c2
  have c2b1 : decide (8192 < a0.size) = true := decide_eq_true (by omega)
  clear c2
  simp only [Option.some.injEq, Prod.mk.injEq] at H
  obtain ⟨rfl, rfl, rfl⟩ := H
  go_enter Tryz.func12, Tryz.ntmps12
  go_wp2
  go_ret3
  exact ⟨_, eT, Z4, bT HB⟩
 have c2b0 : decide (8192 < (a0.size : Int)) = false := decide_eq_false c2
 have c2b1 : decide (8192 < a0.size) = false := decide_eq_false (by omega)
 clear c2
 revert H
 refine yB1 fun t131 A3 H => ?_
 have H' := ae.mk H
 clear H
 go_enter Tryz.func12, Tryz.ntmps12
 go_wp2_with (first | ((with_reducible refine gC 19 rfl ?_); refine gM 19 15 rfl Tryz.func19 (nP.calls a0 t131 _ A3.out) ?_; rintro _ w4 ⟨rfl, hb⟩; refine ⟨_, rfl, yA1 (aY (bT HB) hb) ?_⟩; clear HB hb; intro HB))
 (try simp only [Act.put, List.setIfInBounds_toArray, List.set_cons_zero, List.set_cons_succ])
 go_loopg [5, 6] k (fun kq v5 v6 w' => ∃ (x5_1 : List (S37)) (x6_1 : ByteArray), v6 = .string x6_1 ∧ ae (gU.l0 kq a0 x5_1 x6_1 = some (r1, r2, r3)) ∧ ae (kq ≤ k) ∧ ae (Kd.R k37 37 w' w.heap.size (fun _ => True) v5 x5_1) ∧ ae (Below w.heap.size w w'))
 case atStart => exact ⟨(([] : List (S37))), (t131), fT, H', ⟨Nat.le_refl _⟩, ⟨Z4⟩, ⟨bT HB⟩⟩
 case round =>
  clear H'
  try clear c1
  try clear c2
  try clear c2b0
  try clear c2b1
  try clear p2
  obtain ⟨x5_1, x6_1, rfl, HA, HK1, HO_5, HB⟩ := hrel
  cases gk with
  | zero => exact absurd HA.out (by simp [gU.l0])
  | succ k1 =>
   have H := HA.out
   clear HA
   simp only [gU.l0] at H
   revert H
   refine cZ (fun c5b0 c5b1 H => ?_) fun c5 c5b0 c5b1 H => ?_
   ·simp only [Option.some.injEq, Prod.mk.injEq] at H
    obtain ⟨rfl, rfl, rfl⟩ := H
    go_wp2
    go_ret3
    exact ⟨_, eT, qR HO_5, bT HB⟩
   revert H
   refine yB6 fun t132 t133 t134 t135 t136 t137 A6 H => ?_
   try dsimp only at H
   revert H
   refine cZ (fun c7b0 c7b1 H => ?_) fun c7 c7b0 c7b1 H => ?_
   ·revert H
    refine iC (fun c8 H => ?_) fun c8 H => ?_
    ·have LMc8 := ae.mk c8
     clear c8
     obtain ⟨y139, hy139⟩ : ∃ y_ : List (S37), y_ = (x5_1 ++ [(⟨t132, t133, t134, wrap64 ((a0.size : Int) - (x6_1.size : Int))⟩ : S37)]) := ⟨_, rfl⟩
     replace H : (if 0 ≤ t136 then (if t136 ≤ (x6_1.size : Int) then ((nP.f (x6_1.extract (t136 : Int).toNat x6_1.size)).bind fun t142 => (gU.l0 k1 a0 y139 t142)) else (none)) else (none)) = some (r1, r2, r3) := by first | (rw [hy139]; with_reducible exact H) | (have H2_ := (Option.bind_some _ _).symm.trans H; rw [hy139]; with_reducible exact H2_) | (have H2_ := (Option.bind_some _ _).symm.trans H; with_reducible exact H2_) | with_reducible exact H | (rw [hy139]; exact H) | exact H
     have Ny139 := ae.mk hy139
     clear hy139
     revert H
     refine jO (fun c9b0 c9b1 H => ?_) fun c9 H => ?_
     ·revert H
      refine jO (fun c10b0 c10b1 H => ?_) fun c10 H => ?_
      ·revert H
       refine yB1 fun t142 A11 H => ?_
       have H' := ae.mk H
       clear H
       go_wp2_with (first | ((with_reducible refine gC 20 rfl ?_); refine gM 20 25 rfl Tryz.func20 (jK.calls k1 x6_1 t132 t133 t134 t135 t136 t137 _ A6.out) ?_; rintro _ w12 ⟨rfl, hb⟩; refine ⟨_, rfl, yA2 (Kd.gK (qR HO_5) hb) (aY (bT HB) hb) ?_⟩; clear HO_5 HB hb; intro HO_5 HB) | ((with_reducible refine bH (N := 8) rfl ?_); refine gp ?hg (N := 8) ?hd (cs := #[.int .i64 0, .string (⟨#[]⟩ : ByteArray), .int .i64 0, .int .i64 0]) (t := 37) ?hr ?_; (case hd => rfl); (case hg => rfl); (case hr => first | (go_simp; done) | (go_simp; rfl)); intro gb138 hg w13 hbox hb; refine yA5 (Kd.gK (Kd.uA (qR HO_5) gb138 (Nat.le_of_eq hg.symm)) hb) (aY (bT HB) hb) (hbox) ((by rw [hg]; exact (bY (bT HB)) : w.heap.size ≤ gb138)) ((by rw [hg]; exact (bY (bT HB)) : w.heap.size ≤ gb138)) ?_; clear HO_5 HB; intro HO_5 HB BK138 GW138 GE138; clear hb hbox hg; have hcz14_0 : w13.cell? ⟨gb138, 0, none⟩ = some (.int .i64 0) := (aj BK138.out 0).trans rfl; have hcz14_1 : w13.cell? ⟨gb138, 1, none⟩ = some (.string (⟨#[]⟩ : ByteArray)) := (aj BK138.out 1).trans rfl; have hcz14_2 : w13.cell? ⟨gb138, 2, none⟩ = some (.int .i64 0) := (aj BK138.out 2).trans rfl; have hcz14_3 : w13.cell? ⟨gb138, 3, none⟩ = some (.int .i64 0) := (aj BK138.out 3).trans rfl; have hfz14_0 := ag BK138.out 0; have hfz14_1 := ag BK138.out 1; have hfz14_2 := ag BK138.out 2; have hfz14_3 := ag BK138.out 3; have hdd14 := yK hcz14_3) | ((with_reducible refine eu (b := .append) (xs := #[.tmp 35, .tmp 37]) rfl ?_); at_builtin; refine Kd.jW k37 (w0 := w) w.heap.size rfl (.tmp 35) (.tmp 37) 31 37 (.agg #[(.int .i64 0), (.string ⟨#[]⟩), (.int .i64 0), (.int .i64 0)]) 40 rfl Tryz.underlying31 Gy rfl (by decide) (by omega) u5 x5_1 (⟨t132, t133, t134, wrap64 ((a0.size : Int) - (x6_1.size : Int))⟩ : S37) [.int .i64 t132, .string t133, .int .i64 t134, .int .i64 (wrap64 ((a0.size : Int) - (x6_1.size : Int)))] (fun k_ => k_ ≠ gb138) (fun _ => False) rfl (by first | (go_simp; done) | (go_simp; rfl)) ?aP (fun _ hk => hk.elim) ?aF ?aO ?aB ?aS ?aL ?_; (case aP => exact D6 _ _ _ (⟨t132, t133, t134, wrap64 ((a0.size : Int) - (x6_1.size : Int))⟩ : S37)); (case aB => exact (bT HB)); (case aF => exact (fun k_ hk => Kd.uK (g := gb138) (o := .cells #[.int .i64 t132, .string t133, .int .i64 t134, .int .i64 (wrap64 ((a0.size : Int) - (x6_1.size : Int)))] 37 (0, 0)) (by refine eQ (cs := #[.int .i64 t132, .string t133, .int .i64 t134, .int .i64 t135]) ?_ 3 _ rfl; refine eQ (cs := #[.int .i64 t132, .string t133, .int .i64 t134, .int .i64 0]) ?_ 3 _ rfl; refine eQ (cs := #[.int .i64 t132, .string t133, .int .i64 0, .int .i64 0]) ?_ 2 _ rfl; refine eQ (cs := #[.int .i64 t132, .string (⟨#[]⟩ : ByteArray), .int .i64 0, .int .i64 0]) ?_ 1 _ rfl; refine eQ (cs := #[.int .i64 0, .string (⟨#[]⟩ : ByteArray), .int .i64 0, .int .i64 0]) ?_ 0 _ rfl; exact BK138.out) k_ hk)); (case aO => exact (by (with_reducible repeat (first | apply Kd.iw | apply Kd.ik | apply Kd.jb)); exact Kd.iO (Kd.oQ (p := ⟨gb138, 3, none⟩) (Kd.oQ (p := ⟨gb138, 3, none⟩) (Kd.oQ (p := ⟨gb138, 2, none⟩) (Kd.oQ (p := ⟨gb138, 1, none⟩) (Kd.oQ (p := ⟨gb138, 0, none⟩) (Kd.iO HO_5.out (fun k_ hk => (⟨hk, hk.2⟩ : _ ∧ k_ ≠ gb138))) (fun _ hk => hk.2) (.int .i64 t132)) (fun _ hk => hk.2) (.string t133)) (fun _ hk => hk.2) (.int .i64 t134)) (fun _ hk => hk.2) (.int .i64 t135)) (fun _ hk => hk.2) (.int .i64 (wrap64 ((a0.size : Int) - (x6_1.size : Int))))) (fun _ hk => hk.1.2))); (case aS => exact (bY (bT HB))); (case aL => have := LMc8.out; omega); intro v140 w15 ho hb hg hat; rw [← Ny139.out] at ho; refine yA3 (kN (g := gb138) (o := .cells #[.int .i64 t132, .string t133, .int .i64 t134, .int .i64 (wrap64 ((a0.size : Int) - (x6_1.size : Int)))] 37 (0, 0)) (by refine eQ (cs := #[.int .i64 t132, .string t133, .int .i64 t134, .int .i64 t135]) ?_ 3 _ rfl; refine eQ (cs := #[.int .i64 t132, .string t133, .int .i64 t134, .int .i64 0]) ?_ 3 _ rfl; refine eQ (cs := #[.int .i64 t132, .string t133, .int .i64 0, .int .i64 0]) ?_ 2 _ rfl; refine eQ (cs := #[.int .i64 t132, .string (⟨#[]⟩ : ByteArray), .int .i64 0, .int .i64 0]) ?_ 1 _ rfl; refine eQ (cs := #[.int .i64 0, .string (⟨#[]⟩ : ByteArray), .int .i64 0, .int .i64 0]) ?_ 0 _ rfl; exact BK138.out) hg (Kd.zH HO_5.out (fun _ hk => hk.2))) (hb) (ho) ?_; clear BK138 HB HO_5; intro BK138 HB HO141; clear ho hb hg hat) | ((with_reducible refine gC 19 rfl ?_); refine gM 19 42 rfl Tryz.func19 (nP.calls (x6_1.extract (t136 : Int).toNat x6_1.size) t142 _ A11.out) ?_; rintro _ w16 ⟨rfl, hb⟩; refine ⟨_, rfl, yA3 (Kd.gK (qR HO141) hb) (iY (g := gb138) (o := .cells #[.int .i64 t132, .string t133, .int .i64 t134, .int .i64 (wrap64 ((a0.size : Int) - (x6_1.size : Int)))] 37 (0, 0)) (by exact BK138.out) hb) (aY (bT HB) hb) ?_⟩; clear HO141 BK138 HB hb; intro HO141 BK138 HB))
       go_roundg k1
       case measure => have := HK1.out; omega
       case rel => exact ⟨(y139), (t142), fT, H', ⟨by have := HK1.out; omega⟩, ⟨by (with_reducible repeat (first | apply Kd.iw | apply Kd.ik | apply Kd.jb)); exact Kd.iO HO141.out (fun _ hk => trivial)⟩, ⟨bT HB⟩⟩
      exact absurd H (by simp)
     exact absurd H (by simp)
    exact absurd H (by simp)
   simp only [Option.some.injEq, Prod.mk.injEq] at H
   obtain ⟨rfl, rfl, rfl⟩ := H
   go_wp2_with (first | ((with_reducible refine gC 20 rfl ?_); refine gM 20 25 rfl Tryz.func20 (jK.calls k1 x6_1 t132 t133 t134 t135 t136 t137 _ A6.out) ?_; rintro _ w17 ⟨rfl, hb⟩; refine ⟨_, rfl, yA2 (Kd.gK (qR HO_5) hb) (aY (bT HB) hb) ?_⟩; clear HO_5 HB hb; intro HO_5 HB) | ((with_reducible refine bH (N := 8) rfl ?_); refine gp ?hg (N := 8) ?hd (cs := #[.int .i64 0, .string (⟨#[]⟩ : ByteArray), .int .i64 0, .int .i64 0]) (t := 37) ?hr ?_; (case hd => rfl); (case hg => rfl); (case hr => first | (go_simp; done) | (go_simp; rfl)); intro gb138 hg w18 hbox hb; refine yA5 (Kd.gK (Kd.uA (qR HO_5) gb138 (Nat.le_of_eq hg.symm)) hb) (aY (bT HB) hb) (hbox) ((by rw [hg]; exact (bY (bT HB)) : w.heap.size ≤ gb138)) ((by rw [hg]; exact (bY (bT HB)) : w.heap.size ≤ gb138)) ?_; clear HO_5 HB; intro HO_5 HB BK138 GW138 GE138; clear hb hbox hg; have hcz19_0 : w18.cell? ⟨gb138, 0, none⟩ = some (.int .i64 0) := (aj BK138.out 0).trans rfl; have hcz19_1 : w18.cell? ⟨gb138, 1, none⟩ = some (.string (⟨#[]⟩ : ByteArray)) := (aj BK138.out 1).trans rfl; have hcz19_2 : w18.cell? ⟨gb138, 2, none⟩ = some (.int .i64 0) := (aj BK138.out 2).trans rfl; have hcz19_3 : w18.cell? ⟨gb138, 3, none⟩ = some (.int .i64 0) := (aj BK138.out 3).trans rfl; have hfz19_0 := ag BK138.out 0; have hfz19_1 := ag BK138.out 1; have hfz19_2 := ag BK138.out 2; have hfz19_3 := ag BK138.out 3; have hdd19 := yK hcz19_3))
   go_ret3
   exact ⟨_, eT, Z4, bT HB⟩
-- BY HAND: function 63 (parse_reader_next)
/-! ### dN: function 64 -/
def dN.f (s0_0 : List (S37)) (s0_1 : Int) (s0_2 : Bool) : Option (ByteArray × Int × Bool) := (kR.f s0_0 s0_1 s0_2).bind fun bt143 => (if bt143.2.2.2.2.1 = true then (if bt143.1 = 5 then (some (bt143.2.1, bt143.2.2.2.2.2.1, bt143.2.2.2.2.2.2)) else (if bt143.1 = 4 then (some (bt143.2.1, bt143.2.2.2.2.2.1, bt143.2.2.2.2.2.2)) else (some ((⟨#[]⟩ : ByteArray), bt143.2.2.2.2.2.1, bt143.2.2.2.2.2.2)))) else (some ((⟨#[]⟩ : ByteArray), bt143.2.2.2.2.2.1, bt143.2.2.2.2.2.2)))
set_option maxHeartbeats 8000000 in
set_option maxRecDepth 100000 in
theorem dN.calls (g : Nat) (s0_0 : List (S37)) (s0_1 : Int) (s0_2 : Bool) (r1 : ByteArray) (r2 : Int) (r3 : Bool) (w0 w : World) (hI : dB w0 w g s0_0 s0_1 s0_2) (hB : Below w0.heap.size w0 w) (h : dN.f s0_0 s0_1 s0_2 = some (r1, r2, r3)) :
 Calls Tryz.prog 64 #[.pointer (some ⟨g, 0, none⟩)] w fun e w' => e = .returned (.string r1) ∧ dB w0 w' g s0_0 r2 r3 ∧ Below w0.heap.size w0 w' ∧ cO w w' g none := by
 have hu37 := Tryz.underlying37
 have HI0 := ae.mk hI
 have HK := ae.mk (cO.refl w g none)
 have HL := ae.mk hB.size
 clear hI
 have HW0 := ae.mk hB.size
 have HB := ae.mk hB
 clear hB
 have H := h
 clear h
 unfold dN.f at H
 revert H
 refine yB7 fun t143 t144 t145 t146 t147 t148 t149 A2 H => ?_
 try dsimp only at H
 cases t147
 rotate_left
 ·replace H := yT H
  revert H
  refine cZ (fun c4b0 c4b1 H => ?_) fun c4 c4b0 c4b1 H => ?_
  ·simp only [Option.some.injEq, Prod.mk.injEq] at H
   obtain ⟨rfl, rfl, rfl⟩ := H
   go_enter Tryz.func64, Tryz.ntmps64
   go_wp2_with (first | ((with_reducible refine gC 63 rfl ?_); refine gM 63 7 rfl Tryz.func63 (kR.calls g s0_0 s0_1 s0_2 t143 t144 t145 t146 true t148 t149 w0 _ (iT HI0) (bT HB) A2.out) ?_; rintro _ w5 ⟨rfl, hi, hb, hk⟩; refine ⟨_, rfl, yA3 (cO.trans (kT HK) hk (.inl rfl)) (hb) (hi) ?_⟩; clear HK HB HI0 hb; intro HK HB HI0) | ((with_reducible refine bH (N := 3) rfl ?_); refine gp ?hg (N := 3) ?hd (cs := #[.int .i64 0, .string (⟨#[]⟩ : ByteArray), .int .i64 0, .int .i64 0]) (t := 37) ?hr ?_; (case hd => rfl); (case hg => rfl); (case hr => first | (go_simp; done) | (go_simp; rfl)); intro gb150 hg w6 hbox hb; refine yA8 (dB.below (iT HI0) hb) (cO.trans (kT HK) (cO.of_below hb g none) (.inl rfl)) (aY (bT HB) hb) (hbox) ((by rw [hg]; exact (fG (w := w) (g := g) (row := none) (kT HK)) : w.heap.size ≤ gb150)) ((Nat.le_trans HW0.out (by rw [hg]; exact (fG (w := w) (g := g) (row := none) (kT HK)) : w.heap.size ≤ gb150) : w0.heap.size ≤ gb150)) ((by rw [hg]; exact Nat.ne_of_lt (dB.lt (show dB w0 _ g s0_0 t148 t149 from iT HI0)) : g ≠ gb150)) ((by rw [hg]; exact Nat.ne_of_gt (dB.lt (show dB w0 _ g s0_0 t148 t149 from iT HI0)) : gb150 ≠ g)) ?_; clear HI0 HK HB; intro HI0 HK HB BK150 GW150 GE150 NB0_150 NB150_0; clear hb hbox hg; have hnb7 := NB150_0.out; have hnc7 := NB0_150.out; have hcz8_0 : w6.cell? ⟨gb150, 0, none⟩ = some (.int .i64 0) := (aj BK150.out 0).trans rfl; have hcz8_1 : w6.cell? ⟨gb150, 1, none⟩ = some (.string (⟨#[]⟩ : ByteArray)) := (aj BK150.out 1).trans rfl; have hcz8_2 : w6.cell? ⟨gb150, 2, none⟩ = some (.int .i64 0) := (aj BK150.out 2).trans rfl; have hcz8_3 : w6.cell? ⟨gb150, 3, none⟩ = some (.int .i64 0) := (aj BK150.out 3).trans rfl; have hfz8_0 := ag BK150.out 0; have hfz8_1 := ag BK150.out 1; have hfz8_2 := ag BK150.out 2; have hfz8_3 := ag BK150.out 3))
   go_ret
   exact ⟨eT, iT HI0, bT HB, kT HK⟩
  revert H
  refine cZ (fun c9b0 c9b1 H => ?_) fun c9 c9b0 c9b1 H => ?_
  ·simp only [Option.some.injEq, Prod.mk.injEq] at H
   obtain ⟨rfl, rfl, rfl⟩ := H
   go_enter Tryz.func64, Tryz.ntmps64
   go_wp2_with (first | ((with_reducible refine gC 63 rfl ?_); refine gM 63 7 rfl Tryz.func63 (kR.calls g s0_0 s0_1 s0_2 t143 t144 t145 t146 true t148 t149 w0 _ (iT HI0) (bT HB) A2.out) ?_; rintro _ w10 ⟨rfl, hi, hb, hk⟩; refine ⟨_, rfl, yA3 (cO.trans (kT HK) hk (.inl rfl)) (hb) (hi) ?_⟩; clear HK HB HI0 hb; intro HK HB HI0) | ((with_reducible refine bH (N := 3) rfl ?_); refine gp ?hg (N := 3) ?hd (cs := #[.int .i64 0, .string (⟨#[]⟩ : ByteArray), .int .i64 0, .int .i64 0]) (t := 37) ?hr ?_; (case hd => rfl); (case hg => rfl); (case hr => first | (go_simp; done) | (go_simp; rfl)); intro gb150 hg w11 hbox hb; refine yA8 (dB.below (iT HI0) hb) (cO.trans (kT HK) (cO.of_below hb g none) (.inl rfl)) (aY (bT HB) hb) (hbox) ((by rw [hg]; exact (fG (w := w) (g := g) (row := none) (kT HK)) : w.heap.size ≤ gb150)) ((Nat.le_trans HW0.out (by rw [hg]; exact (fG (w := w) (g := g) (row := none) (kT HK)) : w.heap.size ≤ gb150) : w0.heap.size ≤ gb150)) ((by rw [hg]; exact Nat.ne_of_lt (dB.lt (show dB w0 _ g s0_0 t148 t149 from iT HI0)) : g ≠ gb150)) ((by rw [hg]; exact Nat.ne_of_gt (dB.lt (show dB w0 _ g s0_0 t148 t149 from iT HI0)) : gb150 ≠ g)) ?_; clear HI0 HK HB; intro HI0 HK HB BK150 GW150 GE150 NB0_150 NB150_0; clear hb hbox hg; have hnb12 := NB150_0.out; have hnc12 := NB0_150.out; have hcz13_0 : w11.cell? ⟨gb150, 0, none⟩ = some (.int .i64 0) := (aj BK150.out 0).trans rfl; have hcz13_1 : w11.cell? ⟨gb150, 1, none⟩ = some (.string (⟨#[]⟩ : ByteArray)) := (aj BK150.out 1).trans rfl; have hcz13_2 : w11.cell? ⟨gb150, 2, none⟩ = some (.int .i64 0) := (aj BK150.out 2).trans rfl; have hcz13_3 : w11.cell? ⟨gb150, 3, none⟩ = some (.int .i64 0) := (aj BK150.out 3).trans rfl; have hfz13_0 := ag BK150.out 0; have hfz13_1 := ag BK150.out 1; have hfz13_2 := ag BK150.out 2; have hfz13_3 := ag BK150.out 3))
   go_ret
   exact ⟨eT, iT HI0, bT HB, kT HK⟩
  simp only [Option.some.injEq, Prod.mk.injEq] at H
  obtain ⟨rfl, rfl, rfl⟩ := H
  go_enter Tryz.func64, Tryz.ntmps64
  go_wp2_with (first | ((with_reducible refine gC 63 rfl ?_); refine gM 63 7 rfl Tryz.func63 (kR.calls g s0_0 s0_1 s0_2 t143 t144 t145 t146 true t148 t149 w0 _ (iT HI0) (bT HB) A2.out) ?_; rintro _ w14 ⟨rfl, hi, hb, hk⟩; refine ⟨_, rfl, yA3 (cO.trans (kT HK) hk (.inl rfl)) (hb) (hi) ?_⟩; clear HK HB HI0 hb; intro HK HB HI0) | ((with_reducible refine bH (N := 3) rfl ?_); refine gp ?hg (N := 3) ?hd (cs := #[.int .i64 0, .string (⟨#[]⟩ : ByteArray), .int .i64 0, .int .i64 0]) (t := 37) ?hr ?_; (case hd => rfl); (case hg => rfl); (case hr => first | (go_simp; done) | (go_simp; rfl)); intro gb150 hg w15 hbox hb; refine yA8 (dB.below (iT HI0) hb) (cO.trans (kT HK) (cO.of_below hb g none) (.inl rfl)) (aY (bT HB) hb) (hbox) ((by rw [hg]; exact (fG (w := w) (g := g) (row := none) (kT HK)) : w.heap.size ≤ gb150)) ((Nat.le_trans HW0.out (by rw [hg]; exact (fG (w := w) (g := g) (row := none) (kT HK)) : w.heap.size ≤ gb150) : w0.heap.size ≤ gb150)) ((by rw [hg]; exact Nat.ne_of_lt (dB.lt (show dB w0 _ g s0_0 t148 t149 from iT HI0)) : g ≠ gb150)) ((by rw [hg]; exact Nat.ne_of_gt (dB.lt (show dB w0 _ g s0_0 t148 t149 from iT HI0)) : gb150 ≠ g)) ?_; clear HI0 HK HB; intro HI0 HK HB BK150 GW150 GE150 NB0_150 NB150_0; clear hb hbox hg; have hnb16 := NB150_0.out; have hnc16 := NB0_150.out; have hcz17_0 : w15.cell? ⟨gb150, 0, none⟩ = some (.int .i64 0) := (aj BK150.out 0).trans rfl; have hcz17_1 : w15.cell? ⟨gb150, 1, none⟩ = some (.string (⟨#[]⟩ : ByteArray)) := (aj BK150.out 1).trans rfl; have hcz17_2 : w15.cell? ⟨gb150, 2, none⟩ = some (.int .i64 0) := (aj BK150.out 2).trans rfl; have hcz17_3 : w15.cell? ⟨gb150, 3, none⟩ = some (.int .i64 0) := (aj BK150.out 3).trans rfl; have hfz17_0 := ag BK150.out 0; have hfz17_1 := ag BK150.out 1; have hfz17_2 := ag BK150.out 2; have hfz17_3 := ag BK150.out 3))
  go_ret
  exact ⟨eT, iT HI0, bT HB, kT HK⟩
 replace H := yF H
 simp only [Option.some.injEq, Prod.mk.injEq] at H
 obtain ⟨rfl, rfl, rfl⟩ := H
 go_enter Tryz.func64, Tryz.ntmps64
 go_wp2_with (first | ((with_reducible refine gC 63 rfl ?_); refine gM 63 7 rfl Tryz.func63 (kR.calls g s0_0 s0_1 s0_2 t143 t144 t145 t146 false t148 t149 w0 _ (iT HI0) (bT HB) A2.out) ?_; rintro _ w18 ⟨rfl, hi, hb, hk⟩; refine ⟨_, rfl, yA3 (cO.trans (kT HK) hk (.inl rfl)) (hb) (hi) ?_⟩; clear HK HB HI0 hb; intro HK HB HI0) | ((with_reducible refine bH (N := 3) rfl ?_); refine gp ?hg (N := 3) ?hd (cs := #[.int .i64 0, .string (⟨#[]⟩ : ByteArray), .int .i64 0, .int .i64 0]) (t := 37) ?hr ?_; (case hd => rfl); (case hg => rfl); (case hr => first | (go_simp; done) | (go_simp; rfl)); intro gb150 hg w19 hbox hb; refine yA8 (dB.below (iT HI0) hb) (cO.trans (kT HK) (cO.of_below hb g none) (.inl rfl)) (aY (bT HB) hb) (hbox) ((by rw [hg]; exact (fG (w := w) (g := g) (row := none) (kT HK)) : w.heap.size ≤ gb150)) ((Nat.le_trans HW0.out (by rw [hg]; exact (fG (w := w) (g := g) (row := none) (kT HK)) : w.heap.size ≤ gb150) : w0.heap.size ≤ gb150)) ((by rw [hg]; exact Nat.ne_of_lt (dB.lt (show dB w0 _ g s0_0 t148 t149 from iT HI0)) : g ≠ gb150)) ((by rw [hg]; exact Nat.ne_of_gt (dB.lt (show dB w0 _ g s0_0 t148 t149 from iT HI0)) : gb150 ≠ g)) ?_; clear HI0 HK HB; intro HI0 HK HB BK150 GW150 GE150 NB0_150 NB150_0; clear hb hbox hg; have hnb20 := NB150_0.out; have hnc20 := NB0_150.out; have hcz21_0 : w19.cell? ⟨gb150, 0, none⟩ = some (.int .i64 0) := (aj BK150.out 0).trans rfl; have hcz21_1 : w19.cell? ⟨gb150, 1, none⟩ = some (.string (⟨#[]⟩ : ByteArray)) := (aj BK150.out 1).trans rfl; have hcz21_2 : w19.cell? ⟨gb150, 2, none⟩ = some (.int .i64 0) := (aj BK150.out 2).trans rfl; have hcz21_3 : w19.cell? ⟨gb150, 3, none⟩ = some (.int .i64 0) := (aj BK150.out 3).trans rfl; have hfz21_0 := ag BK150.out 0; have hfz21_1 := ag BK150.out 1; have hfz21_2 := ag BK150.out 2; have hfz21_3 := ag BK150.out 3))
 go_ret
 exact ⟨eT, iT HI0, bT HB, kT HK⟩
end Go.Proofs.YtkbhkonenkgfoaaGreat.Q
end
section
namespace Go.Proofs.YtkbhkonenkgfoaaGreat.Q
open Go.RowKit Go.Proofs.YtkbhkonenkgfoaaGreatW.PrintWords Go.Proofs.YtkbhkonenkgfoaaGreatW.PrintLast Go.Proofs.YtkbhkonenkgfoaaGreatW.PrintMore
attribute [local go_sem] dJ dH dW dV dh df dI dG
set_option linter.unusedVariables false
set_option linter.unusedSimpArgs false
/-- A state of type 47 at block g of W; what its slices lead to came in by w0. -/
def gz (w0 W : World) (g : Nat) (f0 : List (S37)) (f1 : Int) (f2 : Bool) : Prop := ∃ A0 c0, W.heap[g]? = some (.cells #[.slice A0 f0.length c0, .int .i64 f1, .bool f2] 47 (0, 0)) ∧ w0.heap.size ≤ g ∧ Kd.C k37 w0 A0 f0.length f0
theorem gz.grown {w0 W : World} {g : Nat} {f0 : List (S37)} {f1 : Int} {f2 : Bool} {W1 : World} {row : Option Nat} (h : gz w0 W g f0 f1 f2) (hw : W.grownBy W1 row) (hne : some g ≠ row) : gz w0 W1 g f0 f1 f2 := by
 obtain ⟨A0, c0, hb, hg, hr0⟩ := h
 exact ⟨A0, c0, kN hb hw hne, hg, hr0⟩
theorem gz.fresh {w0 W : World} {g : Nat} {f0 : List (S37)} {f1 : Int} {f2 : Bool} (h : gz w0 W g f0 f1 f2) : ∀ k, W.heap.size ≤ k → k ≠ g := by
 obtain ⟨A0, c0, hb, hg, hr0⟩ := h
 exact Kd.uK hb
theorem gz.kept {w0 W : World} {g : Nat} {f0 : List (S37)} {f1 : Int} {f2 : Bool} {W1 : World} {S : Nat → Prop} (h : gz w0 W g f0 f1 f2) (hk : Kept W W1 S) (hne : ¬ S g) : gz w0 W1 g f0 f1 f2 := by
 obtain ⟨A0, c0, hb, hg, hr0⟩ := h
 exact ⟨A0, c0, Bj hb hk hne, hg, hr0⟩
theorem gz.below {w0 W : World} {g : Nat} {f0 : List (S37)} {f1 : Int} {f2 : Bool} {W1 : World} (h : gz w0 W g f0 f1 f2) (hw : Below W.heap.size W W1) : gz w0 W1 g f0 f1 f2 := h.grown (oC hw none) (by simp)
theorem gz.alloc {w0 W : World} {g : Nat} {f0 : List (S37)} {f1 : Int} {f2 : Bool} (h : gz w0 W g f0 f1 f2) (o : Obj) : gz w0 (W.alloc o) g f0 f1 f2 := h.below (iF (Below.refl _ _) o)
theorem gz.drewN {w0 W : World} {g : Nat} {f0 : List (S37)} {f1 : Int} {f2 : Bool} (h : gz w0 W g f0 f1 f2) (m : Nat) : gz w0 (W.drewN m) g f0 f1 f2 := h
theorem gz.drew {w0 W : World} {g : Nat} {f0 : List (S37)} {f1 : Int} {f2 : Bool} (h : gz w0 W g f0 f1 f2) : gz w0 W.drew g f0 f1 f2 := h
theorem gz.at_ {w0 W : World} {g : Nat} {f0 : List (S37)} {f1 : Int} {f2 : Bool} {w' : World} {m : Nat} (hq : W.drewN m = w') (h : gz w0 W g f0 f1 f2) : gz w0 w' g f0 f1 f2 := by subst hq; exact gz.drewN h m
theorem gz.apart {w0 W : World} {g : Nat} {f0 : List (S37)} {f1 : Int} {f2 : Bool} {α : Type} {d : Kd α} {e : Nat} {base : Nat} {ok : Nat → Prop} {v : Value} {xs : List α} (h : gz w0 W g f0 f1 f2) (ho : d.R e W base ok v xs) (ht : ∀ q, q ∈ e :: d.E → q ≠ 47) : d.R e W base (fun k => ok k ∧ k ≠ g) v xs := by
 obtain ⟨A0, c0, hb, hg, hr0⟩ := h
 exact Kd.rD ho hb ht
theorem gz.own_ne {w0 W : World} {g : Nat} {f0 : List (S37)} {f1 : Int} {f2 : Bool} {α : Type} {d : Kd α} {e : Nat} {base : Nat} {ok : Nat → Prop} {v : Value} {xs : List α} (h : gz w0 W g f0 f1 f2) (ho : d.R e W base ok v xs) (ht : e ≠ 47) : some g ≠ v.ownBlock := by
 obtain ⟨A0, c0, hb, hg, hr0⟩ := h
 exact Kd.EM ho hb ht
theorem gz.lt {w0 W : World} {g : Nat} {f0 : List (S37)} {f1 : Int} {f2 : Bool} (h : gz w0 W g f0 f1 f2) : g < W.heap.size := by
 obtain ⟨A0, c0, hb, hg, hr0⟩ := h
 exact kY hb
theorem gz.ge {w0 W : World} {g : Nat} {f0 : List (S37)} {f1 : Int} {f2 : Bool} (h : gz w0 W g f0 f1 f2) : w0.heap.size ≤ g := by
 obtain ⟨A0, c0, hb, hg, hr0⟩ := h
 exact hg
theorem gz.far {w0 W : World} {g : Nat} {f0 : List (S37)} {f1 : Int} {f2 : Bool} {p : Addr} (h : gz w0 W g f0 f1 f2) (hne : g ≠ p.block) (u : Value) : gz w0 (W.setCell p u) g f0 f1 f2 := by
 obtain ⟨A0, c0, hb, hg, hr0⟩ := h
 exact ⟨A0, c0, jC hb hne u, hg, hr0⟩
theorem ni {W : World} {g : Nat} {A0 : Option Addr} {c0 : Nat} {f0 : List (S37)} {f1 : Int} {f2 : Bool} (h : W.heap[g]? = some (.cells #[.slice A0 f0.length c0, .int .i64 f1, .bool f2] 47 (0, 0))) : W.cell? ⟨g, 0, none⟩ = some (.slice A0 f0.length c0) := (aj h 0).trans rfl
theorem ng {W : World} {g : Nat} {A0 : Option Addr} {c0 : Nat} {f0 : List (S37)} {f1 : Int} {f2 : Bool} (h : W.heap[g]? = some (.cells #[.slice A0 f0.length c0, .int .i64 f1, .bool f2] 47 (0, 0))) : W.cell? ⟨g, 1, none⟩ = some (.int .i64 f1) := (aj h 1).trans rfl
theorem gz.uS {w0 W : World} {g : Nat} {f0 : List (S37)} {f1 : Int} {f2 : Bool} (h : gz w0 W g f0 f1 f2) (x : Int) : gz w0 (W.setCell ⟨g, 1, none⟩ (.int .i64 x)) g f0 x f2 := by
 obtain ⟨A0, c0, hb, hg, hr0⟩ := h
 exact ⟨A0, c0, by simpa using mM hb 1 (.int .i64 x), hg, hr0⟩
theorem nY {W : World} {g : Nat} {A0 : Option Addr} {c0 : Nat} {f0 : List (S37)} {f1 : Int} {f2 : Bool} (h : W.heap[g]? = some (.cells #[.slice A0 f0.length c0, .int .i64 f1, .bool f2] 47 (0, 0))) : W.cell? ⟨g, 2, none⟩ = some (.bool f2) := (aj h 2).trans rfl
theorem gz.wG {w0 W : World} {g : Nat} {f0 : List (S37)} {f1 : Int} {f2 : Bool} (h : gz w0 W g f0 f1 f2) (x : Bool) : gz w0 (W.setCell ⟨g, 2, none⟩ (.bool x)) g f0 f1 x := by
 obtain ⟨A0, c0, hb, hg, hr0⟩ := h
 exact ⟨A0, c0, by simpa using mM hb 2 (.bool x), hg, hr0⟩
theorem gz.new (w0 W : World) (A0 : Option Addr) (c0 : Nat) (f0 : List (S37)) (f1 : Int) (f2 : Bool) (hB : Below w0.heap.size w0 W) (hr0 : Kd.C k37 w0 A0 f0.length f0) : gz w0 (W.alloc (.cells #[.slice A0 f0.length c0, .int .i64 f1, .bool f2] 47)) W.heap.size f0 f1 f2 := ⟨A0, c0, by simpa using heap_alloc_new W _, hB.size, hr0⟩
theorem gz.G5 {w0 W : World} {g : Nat} {f0 : List (S37)} {f1 : Int} {f2 : Bool} {b j : Nat} {u : Value} (h : gz w0 W g f0 f1 f2) (hne : g ≠ b) : gz w0 (W.setCell ⟨b, j, none⟩ u) g f0 f1 f2 := gz.far h (p := ⟨b, j, none⟩) hne u
end Go.Proofs.YtkbhkonenkgfoaaGreat.Q
end
