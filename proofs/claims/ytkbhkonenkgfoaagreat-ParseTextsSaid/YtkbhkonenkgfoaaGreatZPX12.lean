/- Walks over functions of the program, words for them, and what the functions come to; of each text only what this claim uses; no condition. -/
import Derived.Test.YtkbhkonenkgfoaaGreatZPX0
import Derived.Test.YtkbhkonenkgfoaaGreatZPX1
import Derived.Test.YtkbhkonenkgfoaaGreatZPX3
import Derived.Test.YtkbhkonenkgfoaaGreatZPX9
import Derived.Test.YtkbhkonenkgfoaaGreatZPX10
import Derived.Test.YtkbhkonenkgfoaaGreatZPX11
section
namespace Go.Proofs.YtkbhkonenkgfoaaGreat.Q
open Go.RowKit Go.Proofs.YtkbhkonenkgfoaaGreatW.PrintWords Go.Proofs.YtkbhkonenkgfoaaGreatW.PrintLast Go.Proofs.YtkbhkonenkgfoaaGreatW.PrintMore
attribute [local go_sem] dJ dH dW dV dh df dI dG
set_option linter.unusedVariables false
set_option linter.unusedSimpArgs false
/-! ### fU: function 87 -/
def fU.f (a0 : Int) : Option (Bool) := if a0 ≥ 18 then (some (decide (a0 ≤ 30))) else (some false)
set_option maxHeartbeats 8000000 in
set_option maxRecDepth 100000 in
theorem fU.calls (a0 : Int) (r : Bool) (w : World) (h : fU.f a0 = some r) :
 Calls Tryz.prog 87 #[.int .i64 a0] w fun e w' => e = .returned (.bool r) ∧ eF w w' := by
 have H := h
 clear h
 unfold fU.f at H
 revert H
 refine iC (fun c2 H => ?_) fun c2 H => ?_
 ·have c2b0 : decide (18 ≤ a0) = true := decide_eq_true c2
  clear c2
  obtain rfl := Option.some.inj H
  go_enter Tryz.func87, Tryz.ntmps87
  go_wp2
  go_ret
  exact ⟨fT, Z0⟩
 have c2b0 : decide (18 ≤ a0) = false := decide_eq_false c2
 clear c2
 obtain rfl := Option.some.inj H
 go_enter Tryz.func87, Tryz.ntmps87
 go_wp2
 go_ret
 exact ⟨fT, Z0⟩
/-! ### bC: function 86 -/
def bC.l0 : Nat → List Int → Int → Int → Int → Option (Bool)
 | 0, _, _, _, _ => none
 | k + 1, x0, x1, x2, x7 => if x7 < (x0.length : Int) then (if 0 ≤ x7 then ((fU.f (rd x0 x7)).bind fun t1221 => (if t1221 = true then (bC.l0 k x0 x1 x2 (wrap64 (x7 + 1))) else (some false))) else (none)) else (if (x0.length : Int) ≥ x1 then (some (decide ((x0.length : Int) ≤ x2))) else (some false))
def bC.f (k : Nat) (l0 : List Int) (a1 : Int) (a2 : Int) : Option (Bool) := bC.l0 k l0 a1 a2 0
theorem bC.bP : ∀ k, (∀ y0 y1 y2 y3, LeO (bC.l0 k y0 y1 y2 y3) (bC.l0 (k + 1) y0 y1 y2 y3))
 | 0 => fun _ _ _ _ r h => by simp [bC.l0] at h
 | k + 1 => by
  have ih0 := bC.bP k
  intro y0 y1 y2 y3
  unfold bC.l0
  exact yL
theorem bC.mono : ∀ a0 a1 a2 k, LeO (bC.f k a0 a1 a2) (bC.f (k + 1) a0 a1 a2) := by
 intro a0 a1 a2 k
 have ih0 := bC.bP k
 unfold bC.f
 exact yL
set_option maxHeartbeats 8000000 in
set_option maxRecDepth 100000 in
theorem bC.calls (k : Nat) (A0 : Option Addr) (c0 : Nat) (l0 : List Int) (a1 : Int) (a2 : Int) (r : Bool) (w : World) (hr0 : Kd.C (Kd.int .i64) w A0 l0.length l0) (hc0 : l0.length ≤ c0) (h : bC.f k l0 a1 a2 = some r) :
 Calls Tryz.prog 86 #[.slice A0 l0.length c0, .int .i64 a1, .int .i64 a2] w fun e w' => e = .returned (.bool r) ∧ eF w w' := by
 have HR0 := ae.mk hr0
 have HC0 := ae.mk hc0
 clear hr0 hc0
 have H := h
 clear h
 unfold bC.f at H
 have H' := ae.mk H
 clear H
 go_enter Tryz.func86, Tryz.ntmps86
 go_wp2
 go_loopg [7] k (fun kq v7 w' => ∃ (x7_1 : Int), v7 = .int .i64 x7_1 ∧ ae (bC.l0 kq l0 a1 a2 x7_1 = some r) ∧ ae (kq ≤ k) ∧ eF w w')
 case atStart => exact ⟨(0), fT, H', ⟨Nat.le_refl _⟩, Z0⟩
 case round =>
  clear H'
  try clear p2
  obtain ⟨x7_1, rfl, HA, HK1, ⟨m1, rfl⟩⟩ := hrel
  cases gk with
  | zero => exact absurd HA.out (by simp [bC.l0])
  | succ k1 =>
   have H := HA.out
   clear HA
   simp only [bC.l0] at H
   revert H
   refine iQ (fun c4b0 H => ?_) fun c4b0 H => ?_
   ·revert H
    refine gJ (fun c5b0 H => ?_) fun c5 H => ?_
    ·revert H
     refine yB1 fun t1221 A6 H => ?_
     cases t1221
     rotate_left
     ·replace H := yT H
      have H' := ae.mk H
      clear H
      have p1220 : 0 ≤ (x7_1 : Int) := of_decide_eq_true aT
      have q1220 : x7_1 < (l0.length : Int) := of_decide_eq_true aT
      obtain ⟨ad1220, e1220, hx1220_0⟩ := Kd.jv HR0.out x7_1 p1220 q1220
      cases e1220
      replace p1220 := eq_true p1220
      replace q1220 := eq_true q1220
      go_wp2_with (first | ((with_reducible refine gC 87 rfl ?_); refine gM 87 18 rfl Tryz.func87 (fU.calls (rd l0 x7_1) true _ A6.out) ?_; rintro _ w' ⟨rfl, ⟨nd, rfl⟩⟩; refine ⟨_, rfl, ?_⟩))
      go_roundg k1
      case measure => have := HK1.out; omega
      case rel => exact ⟨(wrap64 (x7_1 + 1)), fT, H', ⟨by have := HK1.out; omega⟩, Z0⟩
     replace H := yF H
     obtain rfl := Option.some.inj H
     have p1220 : 0 ≤ (x7_1 : Int) := of_decide_eq_true aT
     have q1220 : x7_1 < (l0.length : Int) := of_decide_eq_true aT
     obtain ⟨ad1220, e1220, hx1220_0⟩ := Kd.jv HR0.out x7_1 p1220 q1220
     cases e1220
     replace p1220 := eq_true p1220
     replace q1220 := eq_true q1220
     go_wp2_with (first | ((with_reducible refine gC 87 rfl ?_); refine gM 87 18 rfl Tryz.func87 (fU.calls (rd l0 x7_1) false _ A6.out) ?_; rintro _ w' ⟨rfl, ⟨nd, rfl⟩⟩; refine ⟨_, rfl, ?_⟩))
     go_ret
     exact ⟨fT, Z0⟩
    exact absurd H (by simp)
   revert H
   refine iC (fun c8 H => ?_) fun c8 H => ?_
   ·have c8b0 : decide (a1 ≤ (l0.length : Int)) = true := decide_eq_true c8
    clear c8
    obtain rfl := Option.some.inj H
    go_wp2
    go_ret
    exact ⟨fT, Z0⟩
   have c8b0 : decide (a1 ≤ (l0.length : Int)) = false := decide_eq_false c8
   clear c8
   obtain rfl := Option.some.inj H
   go_wp2
   go_ret
   exact ⟨fT, Z0⟩
end Go.Proofs.YtkbhkonenkgfoaaGreat.Q
end
section
namespace Go.Proofs.YtkbhkonenkgfoaaGreat.Q
open Go.RowKit Go.Proofs.YtkbhkonenkgfoaaGreatW.PrintWords Go.Proofs.YtkbhkonenkgfoaaGreatW.PrintLast Go.Proofs.YtkbhkonenkgfoaaGreatW.PrintMore
attribute [local go_sem] dJ dH dW dV dh df dI dG
set_option linter.unusedVariables false
set_option linter.unusedSimpArgs false
/-! ### au: function 43 -/
mutual
def au.l0 : Nat → List Int → Int → Int → Option (Bool)
 | 0, _, _, _ => none
 | k + 1, x1, x5, x6 => if x6 < x5 then (if 0 ≤ x6 then (if x6 < (x1.length : Int) then (if (rd x1 x6) = 2 then (if x6 > 0 then (if 0 ≤ (wrap64 (x6 - 1)) then (if (wrap64 (x6 - 1)) < (x1.length : Int) then (if (rd x1 (wrap64 (x6 - 1))) = 3 then (some false) else (au.l0 k x1 x5 (wrap64 (x6 + 1)))) else (none)) else (none)) else (au.l0 k x1 x5 (wrap64 (x6 + 1)))) else (if (rd x1 x6) = 3 then (if x6 > 0 then (au.l0 k x1 x5 (wrap64 (x6 + 1))) else (au.l0 k x1 x5 (wrap64 (x6 + 1)))) else (some false))) else (none)) else (none)) else (some true)
def au.j1 : Nat → List Int → Int → Int → Bool → Option (Bool)
 | 0, _, _, _, _ => none
 | k + 1, x1, x5, x10, x49 => if x49 = true then ((aQ.f k x1).bind fun t1227 => (some t1227)) else (if x10 = 5 then (au.l1 k x1 x5 0) else (if x10 = 8 then ((bC.f k x1 3 3).bind fun t1230 => (some t1230)) else (if x10 = 9 then (if x5 = 2 then (if 0 < (x1.length : Int) then ((fU.f (rd x1 0)).bind fun t1232 => (if t1232 = true then (if 1 < (x1.length : Int) then (some ((rd x1 1) == 5)) else (none)) else (some false))) else (none)) else (if x5 = 3 then (if 2 < (x1.length : Int) then (if (rd x1 2) = 5 then (if 0 < (x1.length : Int) then ((fU.f (rd x1 0)).bind fun t1236 => (if t1236 = true then (if 1 < (x1.length : Int) then (some ((rd x1 1) == 5)) else (none)) else (some false))) else (none)) else (some false)) else (none)) else (some false))) else (if x10 = 10 then (if x5 = 2 then (if 0 < (x1.length : Int) then ((fU.f (rd x1 0)).bind fun t1239 => (if t1239 = true then (if 1 < (x1.length : Int) then (some ((rd x1 1) == 5)) else (none)) else (some false))) else (none)) else (some false)) else (if x10 = 6 then (au.j3 k x1 x5 x10 (x10 == 6)) else (if x10 = 7 then (au.j3 k x1 x5 x10 (x10 == 7)) else (if x10 = 13 then (au.j3 k x1 x5 x10 (x10 == 13)) else (if x10 = 14 then (au.j3 k x1 x5 x10 (x10 == 14)) else (if x10 = 15 then (au.j3 k x1 x5 x10 (x10 == 15)) else (if x10 = 17 then (au.j3 k x1 x5 x10 (x10 == 17)) else (if x10 = 28 then (au.j3 k x1 x5 x10 (x10 == 28)) else (au.j3 k x1 x5 x10 (x10 == 30)))))))))))))
def au.l1 : Nat → List Int → Int → Int → Option (Bool)
 | 0, _, _, _ => none
 | k + 1, x1, x5, x7 => if x7 < x5 then (if 0 ≤ x7 then (if x7 < (x1.length : Int) then ((iK.f (rd x1 x7)).bind fun t1229 => (if t1229 = true then (au.l1 k x1 x5 (wrap64 (x7 + 1))) else (some false))) else (none)) else (none)) else (some true)
def au.j3 : Nat → List Int → Int → Int → Bool → Option (Bool)
 | 0, _, _, _, _ => none
 | k + 1, x1, x5, x10, x113 => if x113 = true then ((bC.f k x1 1 1).bind fun t1241 => (some t1241)) else (if x10 = 22 then ((bC.f k x1 1 9).bind fun t1242 => (some t1242)) else (if x10 = 23 then ((bC.f k x1 0 8).bind fun t1243 => (some t1243)) else (if x10 = 26 then ((bC.f k x1 2 2).bind fun t1244 => (some t1244)) else (if x10 = 27 then ((bC.f k x1 2 2).bind fun t1245 => (some t1245)) else (some (x5 == 0))))))
end
def au.f (k : Nat) (a0 : Int) (l1 : List Int) : Option (Bool) := if a0 = 1 then (au.l0 k l1 (l1.length : Int) 0) else (if a0 = 3 then (au.j1 k l1 (l1.length : Int) a0 (a0 == 3)) else (au.j1 k l1 (l1.length : Int) a0 (a0 == 24)))
theorem au.bP : ∀ k, (∀ y0 y1 y2, LeO (au.l0 k y0 y1 y2) (au.l0 (k + 1) y0 y1 y2)) ∧ (∀ y0 y1 y2 y3, LeO (au.j1 k y0 y1 y2 y3) (au.j1 (k + 1) y0 y1 y2 y3)) ∧ (∀ y0 y1 y2, LeO (au.l1 k y0 y1 y2) (au.l1 (k + 1) y0 y1 y2)) ∧ (∀ y0 y1 y2 y3, LeO (au.j3 k y0 y1 y2 y3) (au.j3 (k + 1) y0 y1 y2 y3))
 | 0 => ⟨fun _ _ _ r h => by simp [au.l0] at h, fun _ _ _ _ r h => by simp [au.j1] at h, fun _ _ _ r h => by simp [au.l1] at h, fun _ _ _ _ r h => by simp [au.j3] at h⟩
 | k + 1 => by
  obtain ⟨ih0, ih1, ih2, ih3⟩ := au.bP k
  refine ⟨?_, ?_, ?_, ?_⟩
  ·intro y0 y1 y2
   unfold au.l0
   have m0 := bC.mono
   have m1 := aQ.mono
   exact yL
  ·intro y0 y1 y2 y3
   unfold au.j1
   have m0 := bC.mono
   have m1 := aQ.mono
   exact yL
  ·intro y0 y1 y2
   unfold au.l1
   have m0 := bC.mono
   have m1 := aQ.mono
   exact yL
  intro y0 y1 y2 y3
  unfold au.j3
  have m0 := bC.mono
  have m1 := aQ.mono
  exact yL
theorem au.mono : ∀ a0 a1 k, LeO (au.f k a0 a1) (au.f (k + 1) a0 a1) := by
 intro a0 a1 k
 obtain ⟨ih0, ih1, ih2, ih3⟩ := au.bP k
 unfold au.f
 have m0 := bC.mono
 have m1 := aQ.mono
 exact yL
end Go.Proofs.YtkbhkonenkgfoaaGreat.Q
end
section
set_option linter.unusedVariables false
set_option linter.unusedSimpArgs false
namespace Go.Proofs.YtkbhkonenkgfoaaGreat.Q
open Go Go.RowKit Go.Proofs.YtkbhkonenkgfoaaGreatW.PrintWords Go.Proofs.YtkbhkonenkgfoaaGreatW.PrintLast Go.Proofs.YtkbhkonenkgfoaaGreatW.PrintMore
attribute [local go_sem] dJ dH dW dV dh df dI dG
set_option maxHeartbeats 8000000 in
set_option maxRecDepth 100000 in
theorem au.calls (k : Nat) (a0 : Int) (A1 : Option Addr) (c1 : Nat) (l1 : List Int) (r : Bool) (w : World) (hr1 : Kd.C (Kd.int .i64) w A1 l1.length l1) (hc1 : l1.length ≤ c1) (h : au.f k a0 l1 = some r) :
 Calls Tryz.prog 43 #[.int .i64 a0, .slice A1 l1.length c1] w fun e w' => e = .returned (.bool r) ∧ eF w w' := by
 have HR := ae.mk hr1
 have HC := ae.mk hc1
 unfold au.f at h
 have H := ae.mk h
 clear h hr1 hc1
 (repeat' (first | (with_reducible exact absurd H.out (Option.some_ne_none _).symm) | (first | replace H := qB1 H (by assumption) | replace H := qB0 H (by assumption) | replace H := qE1 H (by assumption) | replace H := qE0 H (by assumption) | replace H := qD1 H (by assumption) | replace H := qD0 H (by assumption)) | (refine qB H ?_ ?_ <;> clear H <;> intro cb_ H <;> (try subst cb_)) | (refine qE H ?_ ?_ <;> clear H <;> intro cb_ cn_ H) | (refine qD H ?_ ?_ <;> clear H <;> intro cp_ cb_ H <;> (try simp only [ge_iff_le, gt_iff_lt] at cp_ cb_)) | (rcases k with _ | k; (simp only [au.j1] at H; first | exact H.out.elim | exact absurd H.out (Option.some_ne_none _).symm); simp only [au.j1] at H) | (rcases k with _ | k; (simp only [au.j3] at H; first | exact H.out.elim | exact absurd H.out (Option.some_ne_none _).symm); simp only [au.j3] at H)))
 all_goals
  (try have e9_ := L9 (n := l1.length) (by assumption)); (try (have e_ := at0 HR (by assumption); obtain ⟨ad, e_, hx0, q0⟩ := e_; cases e_)); (try (have e_ := atN 1 HR (by assumption); obtain ⟨hx1, q1⟩ := e_; (try simp only [Addr.add, Nat.reduceEqDiff, ↓reduceIte] at hx1))); (try (have e_ := atN 2 HR (by assumption); obtain ⟨hx2, q2⟩ := e_; (try simp only [Addr.add, Nat.reduceEqDiff, ↓reduceIte] at hx2)))
  go_enter Tryz.func43, Tryz.ntmps43
  go_wp2_with (first | ((with_reducible refine gC 84 rfl ?_); refine pD .bool 84 rfl Tryz.func84 H (fun t h => aQ.calls _ _ _ _ t _ (cT HR) HC.out h) ?_; clear H; intro t nd_ H; (try dsimp only at H)) | ((with_reducible refine gC 86 rfl ?_); refine pD .bool 86 rfl Tryz.func86 H (fun t h => bC.calls _ _ _ _ _ _ t _ (cT HR) HC.out h) ?_; clear H; intro t nd_ H; (try dsimp only at H)) | (go_at_call 87; refine cD .bool H (fun t h => fU.calls _ t _ h) ?_; clear H; intro t nd_ H; (try dsimp only at H); (repeat' (first | (with_reducible exact absurd H.out (Option.some_ne_none _).symm) | (first | replace H := qB1 H (by assumption) | replace H := qB0 H (by assumption) | replace H := qE1 H (by assumption) | replace H := qE0 H (by assumption) | replace H := qD1 H (by assumption) | replace H := qD0 H (by assumption)) | (refine qB H ?_ ?_ <;> clear H <;> intro cb_ H <;> (try subst cb_)) | (refine qE H ?_ ?_ <;> clear H <;> intro cb_ cn_ H) | (refine qD H ?_ ?_ <;> clear H <;> intro cp_ cb_ H <;> (try simp only [ge_iff_le, gt_iff_lt] at cp_ cb_)))); (try have e9_ := L9 (n := l1.length) (by assumption)); (try (have e_ := at0 HR (by assumption); obtain ⟨ad, e_, hx0, q0⟩ := e_; cases e_)); (try (have e_ := atN 1 HR (by assumption); obtain ⟨hx1, q1⟩ := e_; (try simp only [Addr.add, Nat.reduceEqDiff, ↓reduceIte] at hx1))); (try (have e_ := atN 2 HR (by assumption); obtain ⟨hx2, q2⟩ := e_; (try simp only [Addr.add, Nat.reduceEqDiff, ↓reduceIte] at hx2)))))
 all_goals first
  | (obtain rfl := Option.some.inj H.out; go_ret; exact ⟨Z19, dT⟩)
  | skip
 all_goals (try simp only [Act.put, List.setIfInBounds_toArray, List.set_cons_zero, List.set_cons_succ])
 ·go_loopg [6] k (fun kq v6 w' => ∃ x : Int, v6 = .int .i64 x ∧ ae (au.l0 kq l1 (l1.length : Int) x = some r) ∧ ae (kq ≤ k) ∧ eF w w')
  case atStart => exact ⟨_, rfl, H, ⟨Nat.le_refl _⟩, dT⟩
  case round =>
   clear H
   obtain ⟨x, rfl, H, HK1, ⟨m1, rfl⟩⟩ := hrel
   cases gk with
   | zero => exact absurd H.out (by simp [au.l0])
   | succ k1 =>
    simp only [au.l0] at H
    obtain ⟨j, hj⟩ : ∃ j, wrap64 (x - 1) = j := ⟨_, rfl⟩
    simp only [hj] at H
    have hjw : IntKind.i64.wrap (x - 1) = j := (gX _).trans hj
    (repeat' (first | (with_reducible exact absurd H.out (Option.some_ne_none _).symm) | (first | replace H := qB1 H (by assumption) | replace H := qB0 H (by assumption) | replace H := qE1 H (by assumption) | replace H := qE0 H (by assumption) | replace H := qD1 H (by assumption) | replace H := qD0 H (by assumption)) | (refine qB H ?_ ?_ <;> clear H <;> intro cb_ H <;> (try subst cb_)) | (refine qE H ?_ ?_ <;> clear H <;> intro cb_ cn_ H) | (refine qD H ?_ ?_ <;> clear H <;> intro cp_ cb_ H <;> (try simp only [ge_iff_le, gt_iff_lt] at cp_ cb_))))
    all_goals
     (try (have e_ := atS HR (i := x) (by assumption) (by assumption); obtain ⟨ad, rfl, hx⟩ := e_; (try have hy := atI HR (i := j) (by assumption) (by assumption))))
     go_wp2
    all_goals first
     | (go_roundg k1; (case measure => have := HK1.out; omega); (case rel => exact ⟨_, by first | rfl | simp, H, ⟨by have := HK1.out; omega⟩, dT⟩))
     | (obtain rfl := Option.some.inj H.out; go_ret; exact ⟨Z19, dT⟩)
 go_loopg [7] k (fun kq v7 w' => ∃ x : Int, v7 = .int .i64 x ∧ ae (au.l1 kq l1 (l1.length : Int) x = some r) ∧ ae (kq ≤ k) ∧ eF w w')
 case atStart => exact ⟨_, rfl, H, ⟨Nat.le_refl _⟩, dT⟩
 case round =>
  clear H
  obtain ⟨x, rfl, H, HK1, ⟨m1, rfl⟩⟩ := hrel
  cases gk with
  | zero => exact absurd H.out (by simp [au.l1])
  | succ k1 =>
   simp only [au.l1] at H
   (repeat' (first | (with_reducible exact absurd H.out (Option.some_ne_none _).symm) | (first | replace H := qB1 H (by assumption) | replace H := qB0 H (by assumption) | replace H := qE1 H (by assumption) | replace H := qE0 H (by assumption) | replace H := qD1 H (by assumption) | replace H := qD0 H (by assumption)) | (refine qB H ?_ ?_ <;> clear H <;> intro cb_ H <;> (try subst cb_)) | (refine qE H ?_ ?_ <;> clear H <;> intro cb_ cn_ H) | (refine qD H ?_ ?_ <;> clear H <;> intro cp_ cb_ H <;> (try simp only [ge_iff_le, gt_iff_lt] at cp_ cb_))))
   all_goals
    (try (have e_ := atS HR (i := x) (by assumption) (by assumption); obtain ⟨ad, rfl, hx⟩ := e_))
    go_wp2_with ((with_reducible refine gC 85 rfl ?_); refine pD .bool 85 rfl Tryz.func85 H (fun t h => iK.calls _ t _ h) ?_; clear H; intro t nd_ H; (try dsimp only at H); (repeat' (first | (with_reducible exact absurd H.out (Option.some_ne_none _).symm) | (first | replace H := qB1 H (by assumption) | replace H := qB0 H (by assumption) | replace H := qE1 H (by assumption) | replace H := qE0 H (by assumption) | replace H := qD1 H (by assumption) | replace H := qD0 H (by assumption)) | (refine qB H ?_ ?_ <;> clear H <;> intro cb_ H <;> (try subst cb_)) | (refine qE H ?_ ?_ <;> clear H <;> intro cb_ cn_ H) | (refine qD H ?_ ?_ <;> clear H <;> intro cp_ cb_ H <;> (try simp only [ge_iff_le, gt_iff_lt] at cp_ cb_)))))
   all_goals first
    | (go_roundg k1; (case measure => have := HK1.out; omega); (case rel => exact ⟨_, by first | rfl | simp, H, ⟨by have := HK1.out; omega⟩, dT⟩))
    | (obtain rfl := Option.some.inj H.out; go_ret; exact ⟨Z19, dT⟩)
end Go.Proofs.YtkbhkonenkgfoaaGreat.Q
end
section
namespace Go.Proofs.YtkbhkonenkgfoaaGreat.Q
open Go.RowKit Go.Proofs.YtkbhkonenkgfoaaGreatW.PrintWords Go.Proofs.YtkbhkonenkgfoaaGreatW.PrintLast Go.Proofs.YtkbhkonenkgfoaaGreatW.PrintMore
attribute [local go_sem] dJ dH dW dV dh df dI dG
set_option linter.unusedVariables false
set_option linter.unusedSimpArgs false
/-! ### dC: function 83 -/
def dC.l0 : Nat → ByteArray → List ByteArray → Int → Option (Bool)
 | 0, _, _, _ => none
 | k + 1, x0, x3, x4 => if x4 < (x3.length : Int) then (if 0 ≤ x4 then (if (lZ ByteArray.empty x3 x4).toList = x0.toList then (some true) else (dC.l0 k x0 x3 (wrap64 (x4 + 1)))) else (none)) else (some false)
def dC.f (k : Nat) (a0 : ByteArray) : Option (Bool) := dC.l0 k a0 (([(⟨#[43]⟩ : ByteArray), (⟨#[45]⟩ : ByteArray), (⟨#[42]⟩ : ByteArray), (⟨#[47]⟩ : ByteArray), (⟨#[37]⟩ : ByteArray), (⟨#[46, 46]⟩ : ByteArray), (⟨#[61, 61]⟩ : ByteArray), (⟨#[33, 61]⟩ : ByteArray), (⟨#[60]⟩ : ByteArray), (⟨#[60, 61]⟩ : ByteArray), (⟨#[97, 110, 100]⟩ : ByteArray), (⟨#[111, 114]⟩ : ByteArray)] : List ByteArray)) 0
theorem dC.bP : ∀ k, (∀ y0 y1 y2, LeO (dC.l0 k y0 y1 y2) (dC.l0 (k + 1) y0 y1 y2))
 | 0 => fun _ _ _ r h => by simp [dC.l0] at h
 | k + 1 => by
  have ih0 := dC.bP k
  intro y0 y1 y2
  unfold dC.l0
  exact yL
theorem dC.mono : ∀ a0 k, LeO (dC.f k a0) (dC.f (k + 1) a0) := by
 intro a0 k
 have ih0 := dC.bP k
 unfold dC.f
 exact yL
set_option maxHeartbeats 8000000 in
set_option maxRecDepth 100000 in
theorem dC.calls (k : Nat) (a0 : ByteArray) (r : Bool) (w : World) (h : dC.f k a0 = some r) :
 Calls Tryz.prog 83 #[.string a0] w fun e w' => e = .returned (.bool r) ∧ Below w.heap.size w w' := by
 have HB := ae.mk (Below.refl w.heap.size w)
 have H := h
 clear h
 unfold dC.f at H
 obtain ⟨y1198, hy1198⟩ : ∃ y_ : List ByteArray, y_ = (([(⟨#[43]⟩ : ByteArray), (⟨#[45]⟩ : ByteArray), (⟨#[42]⟩ : ByteArray), (⟨#[47]⟩ : ByteArray), (⟨#[37]⟩ : ByteArray), (⟨#[46, 46]⟩ : ByteArray), (⟨#[61, 61]⟩ : ByteArray), (⟨#[33, 61]⟩ : ByteArray), (⟨#[60]⟩ : ByteArray), (⟨#[60, 61]⟩ : ByteArray), (⟨#[97, 110, 100]⟩ : ByteArray), (⟨#[111, 114]⟩ : ByteArray)] : List ByteArray)) := ⟨_, rfl⟩
 replace H : (dC.l0 k a0 y1198 0) = some r := by first | (rw [hy1198]; with_reducible exact H) | (have H2_ := (Option.bind_some _ _).symm.trans H; rw [hy1198]; with_reducible exact H2_) | (have H2_ := (Option.bind_some _ _).symm.trans H; with_reducible exact H2_) | with_reducible exact H | (rw [hy1198]; exact H) | exact H
 have Ny1198 := ae.mk hy1198
 clear hy1198
 have H' := ae.mk H
 clear H
 go_enter Tryz.func83, Tryz.ntmps83
 go_wp2_with (first | ((with_reducible refine bH (N := 5) rfl ?_); refine Kd.oH Kd.string _ 9 ?hg (N := 5) ?hd (xs := ([(⟨#[43]⟩ : ByteArray), (⟨#[45]⟩ : ByteArray), (⟨#[42]⟩ : ByteArray), (⟨#[47]⟩ : ByteArray), (⟨#[37]⟩ : ByteArray), (⟨#[46, 46]⟩ : ByteArray), (⟨#[61, 61]⟩ : ByteArray), (⟨#[33, 61]⟩ : ByteArray), (⟨#[60]⟩ : ByteArray), (⟨#[60, 61]⟩ : ByteArray), (⟨#[97, 110, 100]⟩ : ByteArray), (⟨#[111, 114]⟩ : ByteArray)] : List ByteArray)) (inner := [.string (⟨#[43]⟩ : ByteArray), .string (⟨#[45]⟩ : ByteArray), .string (⟨#[42]⟩ : ByteArray), .string (⟨#[47]⟩ : ByteArray), .string (⟨#[37]⟩ : ByteArray), .string (⟨#[46, 46]⟩ : ByteArray), .string (⟨#[61, 61]⟩ : ByteArray), .string (⟨#[33, 61]⟩ : ByteArray), .string (⟨#[60]⟩ : ByteArray), .string (⟨#[60, 61]⟩ : ByteArray), .string (⟨#[97, 110, 100]⟩ : ByteArray), .string (⟨#[111, 114]⟩ : ByteArray)]) (ok := fun _ => True) (okp := fun _ => True) ?hr ?hp (fun _ hk => hk) trivial (Below.refl _ _) (Nat.le_refl _) (by simp) ?_; (case hd => rfl); (case hg => rfl); (case hr => first | (go_simp; done) | (go_simp; rfl)); (case hp => exact (dQ.one (show Kd.M Kd.string _ _ _ (⟨#[43]⟩ : ByteArray) [.string (⟨#[43]⟩ : ByteArray)] from rfl) (dQ.one (show Kd.M Kd.string _ _ _ (⟨#[45]⟩ : ByteArray) [.string (⟨#[45]⟩ : ByteArray)] from rfl) (dQ.one (show Kd.M Kd.string _ _ _ (⟨#[42]⟩ : ByteArray) [.string (⟨#[42]⟩ : ByteArray)] from rfl) (dQ.one (show Kd.M Kd.string _ _ _ (⟨#[47]⟩ : ByteArray) [.string (⟨#[47]⟩ : ByteArray)] from rfl) (dQ.one (show Kd.M Kd.string _ _ _ (⟨#[37]⟩ : ByteArray) [.string (⟨#[37]⟩ : ByteArray)] from rfl) (dQ.one (show Kd.M Kd.string _ _ _ (⟨#[46, 46]⟩ : ByteArray) [.string (⟨#[46, 46]⟩ : ByteArray)] from rfl) (dQ.one (show Kd.M Kd.string _ _ _ (⟨#[61, 61]⟩ : ByteArray) [.string (⟨#[61, 61]⟩ : ByteArray)] from rfl) (dQ.one (show Kd.M Kd.string _ _ _ (⟨#[33, 61]⟩ : ByteArray) [.string (⟨#[33, 61]⟩ : ByteArray)] from rfl) (dQ.one (show Kd.M Kd.string _ _ _ (⟨#[60]⟩ : ByteArray) [.string (⟨#[60]⟩ : ByteArray)] from rfl) (dQ.one (show Kd.M Kd.string _ _ _ (⟨#[60, 61]⟩ : ByteArray) [.string (⟨#[60, 61]⟩ : ByteArray)] from rfl) (dQ.one (show Kd.M Kd.string _ _ _ (⟨#[97, 110, 100]⟩ : ByteArray) [.string (⟨#[97, 110, 100]⟩ : ByteArray)] from rfl) (dQ.one (show Kd.M Kd.string _ _ _ (⟨#[111, 114]⟩ : ByteArray) [.string (⟨#[111, 114]⟩ : ByteArray)] from rfl) (dQ.none _ _)))))))))))))); intro v1199 w2 ho3 hb hg_ hnew_; clear hg_ hnew_; (first | rw [← Ny1198.out] at ho3 | (simp only [Int.reduceToNat] at ho3; rw [← Ny1198.out] at ho3)); refine yA2 (Kd.ig ho3 (bY (bT HB))) (aY (bT HB) hb) ?_; clear HB; intro HO1200 HB; clear hb ho3))
 go_loopg [4] k (fun kq v4 w' => ∃ (x4_1 : Int), v4 = .int .i64 x4_1 ∧ ae (dC.l0 kq a0 y1198 x4_1 = some r) ∧ ae (kq ≤ k) ∧ ae (Kd.R Kd.string 9 w' w.heap.size (fun _ => True) v1199 y1198) ∧ ae (Below w.heap.size w w'))
 case atStart => exact ⟨(0), fT, H', ⟨Nat.le_refl _⟩, ⟨qR HO1200⟩, ⟨bT HB⟩⟩
 case round =>
  clear H'
  try clear p2
  obtain ⟨x4_1, rfl, HA, HK1, HO_3, HB⟩ := hrel
  cases gk with
  | zero => exact absurd HA.out (by simp [dC.l0])
  | succ k1 =>
   have H := HA.out
   clear HA
   simp only [dC.l0] at H
   revert H
   refine iQ (fun c4b0 H => ?_) fun c4b0 H => ?_
   ·revert H
    refine gJ (fun c5b0 H => ?_) fun c5 H => ?_
    ·revert H
     refine cZ (fun c6b0 c6b1 H => ?_) fun c6 c6b0 c6b1 H => ?_
     ·obtain rfl := Option.some.inj H
      obtain ⟨Ao7, co7, eo7⟩ := Kd.eU HO_3.out
      subst eo7
      have p1201 : 0 ≤ (x4_1 : Int) := of_decide_eq_true aT
      have q1201 : x4_1 < (y1198.length : Int) := of_decide_eq_true aT
      obtain ⟨ad1201, e1201, hx1201_0⟩ := Kd.jI (Kd.dL HO_3.out).2.2 x4_1 p1201 q1201
      cases e1201
      replace p1201 := eq_true p1201
      replace q1201 := eq_true q1201
      go_wp2
      go_ret
      exact ⟨eT, bT HB⟩
     have H' := ae.mk H
     clear H
     obtain ⟨Ao8, co8, eo8⟩ := Kd.eU HO_3.out
     subst eo8
     have p1201 : 0 ≤ (x4_1 : Int) := of_decide_eq_true aT
     have q1201 : x4_1 < (y1198.length : Int) := of_decide_eq_true aT
     obtain ⟨ad1201, e1201, hx1201_0⟩ := Kd.jI (Kd.dL HO_3.out).2.2 x4_1 p1201 q1201
     cases e1201
     replace p1201 := eq_true p1201
     replace q1201 := eq_true q1201
     go_wp2
     go_roundg k1
     case measure => have := HK1.out; omega
     case rel => exact ⟨(wrap64 (x4_1 + 1)), fT, H', ⟨by have := HK1.out; omega⟩, ⟨qR HO_3⟩, ⟨bT HB⟩⟩
    exact absurd H (by simp)
   obtain rfl := Option.some.inj H
   obtain ⟨Ao9, co9, eo9⟩ := Kd.eU HO_3.out
   subst eo9
   go_wp2
   go_ret
   exact ⟨eT, bT HB⟩
end Go.Proofs.YtkbhkonenkgfoaaGreat.Q
end
section
namespace Go.Proofs.YtkbhkonenkgfoaaGreat.Q
open Go.RowKit Go.Proofs.YtkbhkonenkgfoaaGreatW.PrintWords Go.Proofs.YtkbhkonenkgfoaaGreatW.PrintLast Go.Proofs.YtkbhkonenkgfoaaGreatW.PrintMore
attribute [local go_sem] dJ dH dW dV dh df dI dG
set_option linter.unusedVariables false
set_option linter.unusedSimpArgs false
/-! ### bz: function 42 -/
def bz.j0 : Nat → Bool → Bool → Int → Bool → Int → Int → ByteArray → Int → ByteArray → Int → Int → ByteArray → Int → ByteArray → Option (Bool)
 | 0, _, _, _, _, _, _, _, _, _, _, _, _, _, _ => none
 | k + 1, x3, x4, x14, x57, x1203000, x1203001, x1203002, x1203003, x1203004, x1206000, x1206001, x1206002, x1206003, x1206004 => if x57 = true then (if x3 = true then ((eG.f x1206000 x1206001 (⟨#[]⟩ : ByteArray) x1206003 x1206004).bind fun t1208 => (some t1208)) else (some false)) else (if x14 = 19 then (if x1203003 ≥ 0 then ((eG.f x1206000 x1206001 x1206002 0 x1206004).bind fun t1209 => (some t1209)) else (some false)) else (if x14 = 20 then (if (x1203004.size : Int) ≤ 1024 then ((eG.f x1206000 x1206001 x1206002 x1206003 (⟨#[]⟩ : ByteArray)).bind fun t1210 => (some t1210)) else (some false)) else (if x14 = 23 then (if x3 = true then (if x4 = true then ((eG.f x1206000 x1206001 (⟨#[]⟩ : ByteArray) x1206003 (⟨#[]⟩ : ByteArray)).bind fun t1211 => (some t1211)) else (some false)) else (some false)) else (if x14 = 27 then ((dC.f k x1203004).bind fun t1212 => (if t1212 = true then ((eG.f x1206000 x1206001 x1206002 x1206003 (⟨#[]⟩ : ByteArray)).bind fun t1213 => (some t1213)) else (some false))) else (if x14 = 28 then (if x1203004.toList = ([45] : List UInt8) then ((eG.f x1206000 x1206001 x1206002 x1206003 (⟨#[]⟩ : ByteArray)).bind fun t1214 => (some t1214)) else (if x1203004.toList = ([110, 111, 116] : List UInt8) then ((eG.f x1206000 x1206001 x1206002 x1206003 (⟨#[]⟩ : ByteArray)).bind fun t1215 => (some t1215)) else (if x1203004.toList = ([108, 101, 110] : List UInt8) then ((eG.f x1206000 x1206001 x1206002 x1206003 (⟨#[]⟩ : ByteArray)).bind fun t1216 => (some t1216)) else (some false)))) else (if x1203000 ≥ 1 then (if x1203000 ≤ 30 then ((eG.f x1203000 x1203001 x1203002 x1203003 x1203004).bind fun t1217 => (some t1217)) else (some false)) else (some false)))))))
def bz.f (k : Nat) (a0_0 : Int) (a0_1 : Int) (a0_2 : ByteArray) (a0_3 : Int) (a0_4 : ByteArray) : Option (Bool) := (eY.f k a0_2).bind fun t1203 => ((eY.f k a0_4).bind fun t1204 => (if a0_0 = 1 then (if t1203 = true then (if a0_3 ≥ 1 then (if a0_3 ≤ 2147483647 then ((eG.f a0_0 a0_1 (⟨#[]⟩ : ByteArray) 0 a0_4).bind fun t1206 => (some t1206)) else (some false)) else (some false)) else (some false)) else (if a0_0 = 2 then (if t1203 = true then (if t1204 = true then (if a0_3 ≥ 0 then (if a0_3 ≤ 8 then ((eG.f a0_0 a0_1 (⟨#[]⟩ : ByteArray) 0 (⟨#[]⟩ : ByteArray)).bind fun t1207 => (some t1207)) else (some false)) else (some false)) else (some false)) else (some false)) else (if a0_0 = 3 then (bz.j0 k t1203 t1204 a0_0 (a0_0 == 3) a0_0 a0_1 a0_2 a0_3 a0_4 a0_0 a0_1 a0_2 a0_3 a0_4) else (if a0_0 = 4 then (bz.j0 k t1203 t1204 a0_0 (a0_0 == 4) a0_0 a0_1 a0_2 a0_3 a0_4 a0_0 a0_1 a0_2 a0_3 a0_4) else (if a0_0 = 6 then (bz.j0 k t1203 t1204 a0_0 (a0_0 == 6) a0_0 a0_1 a0_2 a0_3 a0_4 a0_0 a0_1 a0_2 a0_3 a0_4) else (if a0_0 = 7 then (bz.j0 k t1203 t1204 a0_0 (a0_0 == 7) a0_0 a0_1 a0_2 a0_3 a0_4 a0_0 a0_1 a0_2 a0_3 a0_4) else (bz.j0 k t1203 t1204 a0_0 (a0_0 == 21) a0_0 a0_1 a0_2 a0_3 a0_4 a0_0 a0_1 a0_2 a0_3 a0_4))))))))
theorem bz.bP : ∀ k, (∀ y0 y1 y2 y3 y4 y5 y6 y7 y8 y9 y10 y11 y12 y13, LeO (bz.j0 k y0 y1 y2 y3 y4 y5 y6 y7 y8 y9 y10 y11 y12 y13) (bz.j0 (k + 1) y0 y1 y2 y3 y4 y5 y6 y7 y8 y9 y10 y11 y12 y13))
 | 0 => fun _ _ _ _ _ _ _ _ _ _ _ _ _ _ r h => by simp [bz.j0] at h
 | k + 1 => by
  have ih0 := bz.bP k
  intro y0 y1 y2 y3 y4 y5 y6 y7 y8 y9 y10 y11 y12 y13
  unfold bz.j0
  have m0 := eY.mono
  have m1 := dC.mono
  exact yL
theorem bz.mono : ∀ a0 a1 a2 a3 a4 k, LeO (bz.f k a0 a1 a2 a3 a4) (bz.f (k + 1) a0 a1 a2 a3 a4) := by
 intro a0 a1 a2 a3 a4 k
 have ih0 := bz.bP k
 unfold bz.f
 have m0 := eY.mono
 have m1 := dC.mono
 exact yL
end Go.Proofs.YtkbhkonenkgfoaaGreat.Q
end
section
set_option linter.unusedVariables false
set_option linter.unusedSimpArgs false
namespace Go.Proofs.YtkbhkonenkgfoaaGreat.Q
open Go Go.RowKit Go.Proofs.YtkbhkonenkgfoaaGreatW.PrintWords Go.Proofs.YtkbhkonenkgfoaaGreatW.PrintLast Go.Proofs.YtkbhkonenkgfoaaGreatW.PrintMore
attribute [local go_sem] dJ dH dW dV dh df dI dG
set_option maxHeartbeats 8000000 in
set_option maxRecDepth 100000 in
theorem bz.calls (k : Nat) (a0 a1 : Int) (a2 : ByteArray) (a3 : Int) (a4 : ByteArray) (r : Bool) (w : World) (h : bz.f k a0 a1 a2 a3 a4 = some r) :
 Calls Tryz.prog 42 #[.agg #[.int .i64 a0, .int .i64 a1, .string a2, .int .i64 a3, .string a4]] w fun e w' => e = .returned (.bool r) ∧ Below w.heap.size w w' := by
 unfold bz.f at h
 have HS := PS.new w
 have H := ae.mk h
 clear h
 go_enter Tryz.func42, Tryz.ntmps42
 go_upto_if 15 with (first | ((with_reducible refine bH (N := 1) rfl ?_); refine GH (N := 1) (stP HS) (by first | (go_simp; done) | (go_simp; rfl)) ?_; clear HS; intro gb1 w' HS; obtain ⟨hxa0, hxa1, hxa2, hxa3, hxa4, hfa0, hfa1, hfa2, hfa3, hfa4⟩ := c5 HS.hd) | ((with_reducible refine bH (N := 8) rfl ?_); (with_reducible refine gC 81 rfl ?_); refine pV .bool 81 rfl Tryz.func81 (stP HS) H (fun t h => eY.calls _ _ t _ h) ?_; clear hxa0 hfa0 hxa1 hfa1 hxa2 hfa2 hxa3 hfa3 hxa4 hfa4; clear HS H; intro n1 w' HS H; (try dsimp only at H); obtain ⟨hxa0, hxa1, hxa2, hxa3, hxa4, hfa0, hfa1, hfa2, hfa3, hfa4⟩ := c5 HS.hd) | ((with_reducible refine bH (N := 11) rfl ?_); (with_reducible refine gC 81 rfl ?_); refine pV .bool 81 rfl Tryz.func81 (stP HS) H (fun t h => eY.calls _ _ t _ h) ?_; clear hxa0 hfa0 hxa1 hfa1 hxa2 hfa2 hxa3 hfa3 hxa4 hfa4; clear HS H; intro n2 w' HS H; (try dsimp only at H); obtain ⟨hxa0, hxa1, hxa2, hxa3, hxa4, hfa0, hfa1, hfa2, hfa3, hfa4⟩ := c5 HS.hd) | ((with_reducible refine bH (N := 5) rfl ?_); refine GH (N := 5) (stP HS) (by first | (go_simp; done) | (go_simp; rfl)) ?_; clear HS; intro gb5 w' HS; obtain ⟨hxb0, hxb1, hxb2, hxb3, hxb4, hfb0, hfb1, hfb2, hfb3, hfb4⟩ := c5 HS.hd; obtain ⟨n1_, n2_⟩ := HS.ne; clear hxa0 hfa0 hxa1 hfa1 hxa2 hfa2 hxa3 hfa3 hxa4 hfa4; obtain ⟨hxa0, hxa1, hxa2, hxa3, hxa4, hfa0, hfa1, hfa2, hfa3, hfa4⟩ := c5 HS.tl.hd))
 (try simp only [Act.put, List.setIfInBounds_toArray, List.set_cons_zero, List.set_cons_succ])
 refine MV (stP HS) fun W HS => ?_
 replace HS : PS w W [(gb5, .cells #[.int .i64 a0, .int .i64 a1, .string a2, .int .i64 a3, .string a4] 29 (0, 0)), (gb1, .cells #[.int .i64 a0, .int .i64 a1, .string a2, .int .i64 a3, .string a4] 29 (0, 0))] := HS
 (try clear hxa0 hfa0 hxa1 hfa1 hxa2 hfa2 hxa3 hfa3 hxa4 hfa4; clear n1_ n2_)
 (try clear hxb0 hfb0 hxb1 hfb1 hxb2 hfb2 hxb3 hfb3 hxb4 hfb4)
 obtain ⟨hxb0, hxb1, hxb2, hxb3, hxb4, hfb0, hfb1, hfb2, hfb3, hfb4⟩ := c5 HS.hd
 obtain ⟨hxa0, hxa1, hxa2, hxa3, hxa4, hfa0, hfa1, hfa2, hfa3, hfa4⟩ := c5 HS.tl.hd
 obtain ⟨n1_, n2_⟩ := HS.ne
 (repeat' (first | (with_reducible exact absurd H.out (Option.some_ne_none _).symm) | (first | replace H := qB1 H (by assumption) | replace H := qB0 H (by assumption) | replace H := qE1 H (by assumption) | replace H := qE0 H (by assumption) | replace H := qD1 H (by assumption) | replace H := qD0 H (by assumption)) | (refine qB H ?_ ?_ <;> clear H <;> intro cb_ H <;> (try subst cb_)) | (refine qE H ?_ ?_ <;> clear H <;> intro cb_ cn_ H) | (refine qD H ?_ ?_ <;> clear H <;> intro cp_ cb_ H <;> (try simp only [ge_iff_le, gt_iff_lt] at cp_ cb_)) | (rcases k with _ | k; (simp only [bz.j0] at H; first | exact H.out.elim | exact absurd H.out (Option.some_ne_none _).symm); simp only [bz.j0] at H)))
 all_goals go_wp2_with (first | (go_at_call 82; refine cV .bool (stP HS) H (fun t h => eG.calls _ _ _ _ _ t _ h) ?_; clear HS H; intro t w' HS H; (try dsimp only at H)) | (go_at_call 83; refine cV .bool (stP HS) H (fun t h => dC.calls _ _ t _ h) ?_; clear HS H; intro t w' HS H; (try dsimp only at H); clear hxa0 hfa0 hxa1 hfa1 hxa2 hfa2 hxa3 hfa3 hxa4 hfa4; clear hxb0 hfb0 hxb1 hfb1 hxb2 hfb2 hxb3 hfb3 hxb4 hfb4; obtain ⟨hxb0, hxb1, hxb2, hxb3, hxb4, hfb0, hfb1, hfb2, hfb3, hfb4⟩ := c5 HS.hd; obtain ⟨hxa0, hxa1, hxa2, hxa3, hxa4, hfa0, hfa1, hfa2, hfa3, hfa4⟩ := c5 HS.tl.hd; (repeat' (first | (with_reducible exact absurd H.out (Option.some_ne_none _).symm) | (first | replace H := qB1 H (by assumption) | replace H := qB0 H (by assumption) | replace H := qE1 H (by assumption) | replace H := qE0 H (by assumption) | replace H := qD1 H (by assumption) | replace H := qD0 H (by assumption)) | (refine qB H ?_ ?_ <;> clear H <;> intro cb_ H <;> (try subst cb_)) | (refine qE H ?_ ?_ <;> clear H <;> intro cb_ cn_ H) | (refine qD H ?_ ?_ <;> clear H <;> intro cp_ cb_ H <;> (try simp only [ge_iff_le, gt_iff_lt] at cp_ cb_))))))
 all_goals obtain rfl := Option.some.inj H.out; go_ret; exact ⟨Z19, (stP HS).below⟩
end Go.Proofs.YtkbhkonenkgfoaaGreat.Q
end
section
namespace Go.Proofs.YtkbhkonenkgfoaaGreat.Q
open Go.RowKit Go.Proofs.YtkbhkonenkgfoaaGreatW.PrintWords Go.Proofs.YtkbhkonenkgfoaaGreatW.PrintLast Go.Proofs.YtkbhkonenkgfoaaGreatW.PrintMore
attribute [local go_sem] dJ dH dW dV dh df dI dG
set_option linter.unusedVariables false
set_option linter.unusedSimpArgs false
/-! ### ak: function 40 -/
mutual
def ak.l0 : Nat → List (S29) → List Int → Int → Int → Option (Int)
 | 0, _, _, _, _ => none
 | k + 1, x0, x3, x4, x5 => if x5 < (x0.length : Int) then ((aI.f k x0 x5).bind fun t1178 => (if t1178 < 0 then (some (-1)) else (if (x3.length : Int) > 0 then (if 0 ≤ (wrap64 ((x3.length : Int) - 1)) then (if (wrap64 ((x3.length : Int) - 1)) < (x3.length : Int) then (ak.j1 k x0 (x3.set ((wrap64 ((x3.length : Int) - 1)) : Int).toNat (wrap64 ((rd x3 (wrap64 ((x3.length : Int) - 1))) - 1))) x4 x5) else (none)) else (none)) else (ak.j1 k x0 x3 x4 x5)))) else (some x4)
def ak.j1 : Nat → List (S29) → List Int → Int → Int → Option (Int)
 | 0, _, _, _, _ => none
 | k + 1, x0, x3, x4, x5 => if 0 ≤ x5 then (if x5 < (x0.length : Int) then (if x3.length < 17592186044416 then ((some (x3 ++ [(ax x0 x5).f1] : List Int)).bind fun y1182 => (if (y1182.length : Int) > x4 then (ak.j2 k x0 y1182 (y1182.length : Int) x5) else (ak.j2 k x0 y1182 x4 x5))) else (none)) else (none)) else (none)
def ak.j2 : Nat → List (S29) → List Int → Int → Int → Option (Int)
 | 0, _, _, _, _ => none
 | k + 1, x0, x3, x4, x5 => ak.l1 k x0 x3 x4 x5
def ak.l1 : Nat → List (S29) → List Int → Int → Int → Option (Int)
 | 0, _, _, _, _ => none
 | k + 1, x0, x3, x4, x5 => if (x3.length : Int) > 0 then (if 0 ≤ (wrap64 ((x3.length : Int) - 1)) then (if (wrap64 ((x3.length : Int) - 1)) < (x3.length : Int) then (if (rd x3 (wrap64 ((x3.length : Int) - 1))) = 0 then (if (wrap64 ((x3.length : Int) - 1)) ≤ (x3.length : Int) then (ak.l1 k x0 (x3.take ((wrap64 ((x3.length : Int) - 1)) : Int).toNat) x4 x5) else (none)) else (ak.l0 k x0 x3 x4 (wrap64 (x5 + 1)))) else (none)) else (none)) else (ak.l0 k x0 x3 x4 (wrap64 (x5 + 1)))
end
def ak.f (k : Nat) (l0 : List (S29)) : Option (Int) := ak.l0 k l0 ([] : List Int) 0 0
theorem ak.bP : ∀ k, (∀ y0 y1 y2 y3, LeO (ak.l0 k y0 y1 y2 y3) (ak.l0 (k + 1) y0 y1 y2 y3)) ∧ (∀ y0 y1 y2 y3, LeO (ak.j1 k y0 y1 y2 y3) (ak.j1 (k + 1) y0 y1 y2 y3)) ∧ (∀ y0 y1 y2 y3, LeO (ak.j2 k y0 y1 y2 y3) (ak.j2 (k + 1) y0 y1 y2 y3)) ∧ (∀ y0 y1 y2 y3, LeO (ak.l1 k y0 y1 y2 y3) (ak.l1 (k + 1) y0 y1 y2 y3))
 | 0 => ⟨fun _ _ _ _ r h => by simp [ak.l0] at h, fun _ _ _ _ r h => by simp [ak.j1] at h, fun _ _ _ _ r h => by simp [ak.j2] at h, fun _ _ _ _ r h => by simp [ak.l1] at h⟩
 | k + 1 => by
  obtain ⟨ih0, ih1, ih2, ih3⟩ := ak.bP k
  refine ⟨?_, ?_, ?_, ?_⟩
  ·intro y0 y1 y2 y3
   unfold ak.l0
   have m0 := aI.mono
   exact yL
  ·intro y0 y1 y2 y3
   unfold ak.j1
   have m0 := aI.mono
   exact yL
  ·intro y0 y1 y2 y3
   unfold ak.j2
   have m0 := aI.mono
   exact yL
  intro y0 y1 y2 y3
  unfold ak.l1
  have m0 := aI.mono
  exact yL
theorem ak.mono : ∀ a0 k, LeO (ak.f k a0) (ak.f (k + 1) a0) := by
 intro a0 k
 obtain ⟨ih0, ih1, ih2, ih3⟩ := ak.bP k
 unfold ak.f
 have m0 := aI.mono
 exact yL
set_option maxHeartbeats 8000000 in
set_option maxRecDepth 100000 in
theorem ak.calls (k : Nat) (A0 : Option Addr) (c0 : Nat) (l0 : List (S29)) (r : Int) (w : World) (hr0 : Kd.C k29 w A0 l0.length l0) (hc0 : l0.length ≤ c0) (h : ak.f k l0 = some r) :
 Calls Tryz.prog 40 #[.slice A0 l0.length c0] w fun e w' => e = .returned (.int .i64 r) ∧ Below w.heap.size w w' := by
 have HR0 := ae.mk hr0
 have HC0 := ae.mk hc0
 clear hr0 hc0
 have HB := ae.mk (Below.refl w.heap.size w)
 have H := h
 clear h
 unfold ak.f at H
 have H' := ae.mk H
 clear H
 go_enter Tryz.func40, Tryz.ntmps40
 go_wp2
 go_loopg [3, 4, 5] k (fun kq v3 v4 v5 w' => ∃ (x3_1 : List Int) (x4_1 : Int) (x5_1 : Int), v4 = .int .i64 x4_1 ∧ v5 = .int .i64 x5_1 ∧ ae (ak.l0 kq l0 x3_1 x4_1 x5_1 = some r) ∧ ae (kq ≤ k) ∧ ae (Kd.R (Kd.int .i64) 3 w' w.heap.size (fun _ => True) v3 x3_1) ∧ ae (Below w.heap.size w w'))
 case atStart => exact ⟨(([] : List Int)), (0), (0), fT, fT, H', ⟨Nat.le_refl _⟩, ⟨Z4⟩, ⟨bT HB⟩⟩
 case round =>
  clear H'
  obtain ⟨x3_1, x4_1, x5_1, rfl, rfl, HA, HK1, HO_3, HB⟩ := hrel
  cases gk with
  | zero => exact absurd HA.out (by simp [ak.l0])
  | succ k1 =>
   have H := HA.out
   clear HA
   simp only [ak.l0] at H
   revert H
   refine iQ (fun c2b0 H => ?_) fun c2b0 H => ?_
   ·revert H
    refine yB1 fun t1178 A3 H => ?_
    revert H
    refine iQ (fun c4b0 H => ?_) fun c4b0 H => ?_
    ·obtain rfl := Option.some.inj H
     go_wp2_with (first | ((with_reducible refine gC 39 rfl ?_); refine gM 39 14 rfl Tryz.func39 (aI.calls k1 _ _ l0 x5_1 t1178 _ Z6 HC0.out A3.out) ?_; rintro _ w' ⟨rfl, ⟨nd, rfl⟩⟩; refine ⟨_, rfl, ?_⟩))
     go_ret
     exact ⟨eT, bT HB⟩
    have HC5 := ae.mk H
    clear H
    go_upto_if 18 with (first | ((with_reducible refine gC 39 rfl ?_); refine gM 39 14 rfl Tryz.func39 (aI.calls k1 _ _ l0 x5_1 t1178 _ Z6 HC0.out A3.out) ?_; rintro _ w' ⟨rfl, ⟨nd, rfl⟩⟩; refine ⟨_, rfl, ?_⟩; obtain ⟨Ao6, co6, rfl⟩ := Kd.eU HO_3.out))
    (try simp only [Act.put, List.setIfInBounds_toArray, List.set_cons_zero, List.set_cons_succ])
    go_cut [] (fun wc => ∃ (kq : Nat) (x3_4 : List Int), ae (ak.j1 kq l0 x3_4 x4_1 x5_1 = some r) ∧ ae (kq ≤ k1) ∧ ae (Kd.R (Kd.int .i64) 3 wc w.heap.size (fun _ => True) (.slice Ao6 x3_1.length co6) x3_4) ∧ ae (Below w.heap.size w wc))
    case first =>
     have H := HC5.out
     clear HC5
     revert H
     refine iC (fun c7 H => ?_) fun c7 H => ?_
     ·have c7b0 : decide (0 < (x3_1.length : Int)) = true := decide_eq_true c7
      have c7b1 : decide (0 < x3_1.length) = true := decide_eq_true (by omega)
      clear c7
      (first | rw [c7b1] | rw [c7b0] | (simp only [gX, iP]; rw [c7b0]) | skip)
      obtain ⟨ji8, hji8⟩ : ∃ j_ : Int, (wrap64 ((x3_1.length : Int) - 1)) = j_ := ⟨_, rfl⟩
      replace H : (if 0 ≤ (ji8) then (if (ji8) < (x3_1.length : Int) then (ak.j1 k1 l0 (x3_1.set ((ji8) : Int).toNat (wrap64 ((rd x3_1 (ji8)) - 1))) x4_1 x5_1) else (none)) else (none)) = some r := by first | (rw [hji8] at H; exact H) | (simp only [hji8] at H ⊢; exact H)
      have hji8w : (IntKind.i64.wrap ((x3_1.length : Int) - 1)) = ji8 := (gX _).trans hji8
      revert H
      refine gJ (fun c9b0 H => ?_) fun c9 H => ?_
      ·revert H
       refine gJ (fun c10b0 H => ?_) fun c10 H => ?_
       ·obtain ⟨y1180, hy1180⟩ : ∃ y_ : List Int, y_ = (x3_1.set ((ji8) : Int).toNat (wrap64 ((rd x3_1 (ji8)) - 1))) := ⟨_, rfl⟩
        replace H : (ak.j1 k1 l0 y1180 x4_1 x5_1) = some r := by first | (rw [hy1180]; with_reducible exact H) | (have H2_ := (Option.bind_some _ _).symm.trans H; rw [hy1180]; with_reducible exact H2_) | (have H2_ := (Option.bind_some _ _).symm.trans H; with_reducible exact H2_) | with_reducible exact H | (rw [hy1180]; exact H) | exact H
        have Ny1180 := ae.mk hy1180
        clear hy1180
        have H' := ae.mk H
        clear H
        have p1179 : 0 ≤ ((ji8) : Int) := of_decide_eq_true aT
        have q1179 : (ji8) < (x3_1.length : Int) := of_decide_eq_true aT
        obtain ⟨ad1179, e1179, hx1179_0⟩ := Kd.jv (Kd.dL HO_3.out).2.2 (ji8) p1179 q1179
        cases e1179
        replace p1179 := eq_true p1179
        replace q1179 := eq_true q1179
        have p11 : 0 ≤ ((ji8) : Int) := of_decide_eq_true aT
        have q11 : ((ji8) : Int) < ((x3_1.length : Int) : Int) := of_decide_eq_true aT
        obtain ⟨go11, co11, eo11, gb11, gl11, cl11, HG11⟩ := Kd.CU HO_3.out (by omega)
        (first | cases eo11 | (injection eo11 with ea_ en_ ec_; (first | subst ea_ | (injection ea_ with ea_; subst ea_)); subst ec_; clear en_))
        have GB11 := ae.mk gb11
        have GG11 := ae.mk HG11
        clear gb11 gl11 HG11
        (first | simp only [add_plain] at hx1179_0 | skip)
        obtain ⟨hx11_0, hf11_0⟩ := Kd.DR 0 HO_3.out ((ji8) : Int) p11 q11
        replace p11 := eq_true p11
        replace q11 := eq_true q11
        have HP12 := Kd.Hl HO_3.out ((ji8) : Int) (wrap64 ((rd x3_1 (ji8)) - 1))
        go_wp2
        go_meet
        case rel => exact ⟨_, (y1180), H', ⟨by have := HK1.out; first | omega | exact Nat.le_refl _⟩, ⟨by first | (rw [dwS, Ny1180.out]; exact Kd.ik HP12.1 _) | exact HO_3.out⟩, ⟨by first | (rw [dwS]; exact gQ (iZ HB.out GB11.out) _) | repeat (first | (with_reducible first | exact HB.out | apply iF | apply gQ | apply jc) | exact HB.out)⟩⟩
       exact absurd H (by simp)
      exact absurd H (by simp)
     have c7b0 : decide (0 < (x3_1.length : Int)) = false := decide_eq_false c7
     have c7b1 : decide (0 < x3_1.length) = false := decide_eq_false (by omega)
     clear c7
     (first | rw [c7b1] | rw [c7b0] | (simp only [gX, iP]; rw [c7b0]) | skip)
     have H' := ae.mk H
     clear H
     go_wp2
     go_meet
     case rel => exact ⟨_, (x3_1), H', ⟨by have := HK1.out; first | omega | exact Nat.le_refl _⟩, ⟨qR HO_3⟩, ⟨bT HB⟩⟩
    case rest =>
     clear HC5
     try clear c1
     try clear p1
     try clear q1
     try clear hx1
     try clear hf1
     try clear c2
     try clear c2b0
     try clear p2
     try clear c3
     try clear c4
     try clear c4b0
     try clear p6
     try clear c7
     try clear c7b0
     try clear c7b1
     try clear c9
     try clear c9b0
     try clear c10
     try clear c10b0
     try clear p11
     try clear q11
     try clear hx11
     try clear hf11
     try clear hx1179_0
     try clear hx11_0
     try clear p11
     try clear p1179
     try clear q11
     try clear q1179
     obtain ⟨kq, x3_4, HA, HJ4, HO_3, HB⟩ := hcut
     have hl3_4 := (Kd.dL HO_3.out).1
     rw [hl3_4] at HO_3
     (try simp only [hl3_4])
     cases kq with
     | zero => exact absurd HA.out (by simp [ak.j1])
     | succ kj4 =>
      have H := HA.out
      clear HA
      simp only [ak.j1] at H
      revert H
      refine gJ (fun c14b0 H => ?_) fun c14 H => ?_
      ·revert H
       refine gJ (fun c15b0 H => ?_) fun c15 H => ?_
       ·revert H
        refine iC (fun c16 H => ?_) fun c16 H => ?_
        ·have LMc16 := ae.mk c16
         clear c16
         obtain ⟨y1182, hy1182⟩ : ∃ y_ : List Int, y_ = (x3_4 ++ [(ax l0 x5_1).f1]) := ⟨_, rfl⟩
         replace H : (if (y1182.length : Int) > x4_1 then (ak.j2 kj4 l0 y1182 (y1182.length : Int) x5_1) else (ak.j2 kj4 l0 y1182 x4_1 x5_1)) = some r := by first | (rw [hy1182]; with_reducible exact H) | (have H2_ := (Option.bind_some _ _).symm.trans H; rw [hy1182]; with_reducible exact H2_) | (have H2_ := (Option.bind_some _ _).symm.trans H; with_reducible exact H2_) | with_reducible exact H | (rw [hy1182]; exact H) | exact H
         have Ny1182 := ae.mk hy1182
         clear hy1182
         have HC17 := ae.mk H
         clear H
         have p1181 : 0 ≤ (x5_1 : Int) := of_decide_eq_true aT
         have q1181 : x5_1 < (l0.length : Int) := of_decide_eq_true aT
         obtain ⟨ad1181, e1181, hx1181_0, hx1181_1, hx1181_2, hx1181_3, hx1181_4⟩ := ja HR0.out x5_1 p1181 q1181
         cases e1181
         replace hx1181_0 := (HB.out.cell (World.block_lt_of_cell? w _ hx1181_0)).trans hx1181_0
         replace hx1181_1 := (HB.out.cell (World.block_lt_of_cell? w _ hx1181_1)).trans hx1181_1
         replace hx1181_2 := (HB.out.cell (World.block_lt_of_cell? w _ hx1181_2)).trans hx1181_2
         replace hx1181_3 := (HB.out.cell (World.block_lt_of_cell? w _ hx1181_3)).trans hx1181_3
         replace hx1181_4 := (HB.out.cell (World.block_lt_of_cell? w _ hx1181_4)).trans hx1181_4
         replace p1181 := eq_true p1181
         replace q1181 := eq_true q1181
         go_upto_if 42 with (first | ((with_reducible refine eu (b := .append) (xs := #[.tmp 31, .tmp 37]) rfl ?_); (try (refine lT (by rfl) ?_; dsimp only)); at_builtin; refine Kd.jW (Kd.int .i64) (w0 := w) w.heap.size rfl (.tmp 31) (.tmp 37) 60 3 (.int .i64 0) 8 rfl Tryz.underlying60 info3 rfl (by decide) (by omega) (.slice Ao6 x3_4.length co6) x3_4 ((ax l0 x5_1).f1) [.int .i64 ((ax l0 x5_1).f1)] (fun _ => True) (fun _ => False) rfl rfl ?aP (fun _ hk => hk.elim) ?aF ?aO ?aB ?aS ?aL ?_; (case aP => exact rfl); (case aB => exact (bT HB)); (case aF => exact (fun _ _ => trivial)); (case aO => exact (qR HO_3)); (case aS => exact (bY (bT HB))); (case aL => have := LMc16.out; omega); intro v1183 w18 ho hb hg hat; rw [← Ny1182.out] at ho; refine yA2 (hb) (ho) ?_; clear HB HO_3; intro HB HO1184; clear ho hb hg hat; obtain ⟨Ao19, co19, rfl⟩ := Kd.eU HO1184.out))
         (try simp only [Act.put, List.setIfInBounds_toArray, List.set_cons_zero, List.set_cons_succ])
         go_cut [4] (fun v4 wc => ∃ (kq : Nat) (x4_16 : Int), v4 = .int .i64 x4_16 ∧ ae (ak.j2 kq l0 y1182 x4_16 x5_1 = some r) ∧ ae (kq ≤ kj4) ∧ ae (Kd.R (Kd.int .i64) 3 wc w.heap.size (fun _ => True) (.slice Ao19 y1182.length co19) y1182) ∧ ae (Below w.heap.size w wc))
         case first =>
          have H := HC17.out
          clear HC17
          revert H
          refine iC (fun c20 H => ?_) fun c20 H => ?_
          ·have c20b0 : decide (x4_1 < (y1182.length : Int)) = true := decide_eq_true c20
           clear c20
           (first | rw [c20b0] | (simp only [gX, iP]; rw [c20b0]) | skip)
           have H' := ae.mk H
           clear H
           go_wp2
           go_meet
           case rel => exact ⟨_, ((y1182.length : Int)), fT, H', ⟨by have := HK1.out; have := HJ4.out; first | omega | exact Nat.le_refl _⟩, ⟨by (try simp only [hl3_4]); (with_reducible repeat (first | apply Kd.iw | apply Kd.ik | apply Kd.jb)); exact HO1184.out⟩, ⟨bT HB⟩⟩
          have c20b0 : decide (x4_1 < (y1182.length : Int)) = false := decide_eq_false c20
          clear c20
          (first | rw [c20b0] | (simp only [gX, iP]; rw [c20b0]) | skip)
          have H' := ae.mk H
          clear H
          go_wp2
          go_meet
          case rel => exact ⟨_, (x4_1), fT, H', ⟨by have := HK1.out; have := HJ4.out; first | omega | exact Nat.le_refl _⟩, ⟨by (try simp only [hl3_4]); (with_reducible repeat (first | apply Kd.iw | apply Kd.ik | apply Kd.jb)); exact HO1184.out⟩, ⟨bT HB⟩⟩
         case rest =>
          clear HC17
          try clear c1
          try clear p1
          try clear q1
          try clear hx1
          try clear hf1
          try clear c2
          try clear c2b0
          try clear p2
          try clear c3
          try clear c4
          try clear c4b0
          try clear p6
          try clear c7
          try clear c7b0
          try clear c7b1
          try clear c9
          try clear c9b0
          try clear c10
          try clear c10b0
          try clear p11
          try clear q11
          try clear hx11
          try clear hf11
          try clear c14
          try clear c14b0
          try clear c15
          try clear c15b0
          try clear c16
          try clear c20
          try clear c20b0
          try clear hx1179_0
          try clear hx1181_0
          try clear hx1181_1
          try clear hx1181_2
          try clear hx1181_3
          try clear hx1181_4
          try clear hx11_0
          try clear p1
          try clear p11
          try clear p1179
          try clear p1181
          try clear p2
          try clear p6
          try clear q1
          try clear q11
          try clear q1179
          try clear q1181
          obtain ⟨kq, x4_16, rfl, HA, HJ16, HO_3, HB⟩ := hcut
          cases kq with
          | zero => exact absurd HA.out (by simp [ak.j2])
          | succ kj16 =>
           have H := HA.out
           clear HA
           simp only [ak.j2] at H
           have H' := ae.mk H
           clear H
           go_wp2
           go_loopg [3] kj16 (fun kq v3 w' => ∃ (x3_4 : List Int), ae (ak.l1 kq l0 x3_4 x4_16 x5_1 = some r) ∧ ae (kq ≤ kj16) ∧ ae (Kd.R (Kd.int .i64) 3 w' w.heap.size (fun _ => True) v3 x3_4) ∧ ae (Below w.heap.size w w'))
           case atStart => exact ⟨(y1182), H', ⟨Nat.le_refl _⟩, ⟨Z27⟩, ⟨bT HB⟩⟩
           case round =>
            clear H'
            try clear c1
            try clear p1
            try clear q1
            try clear hx1
            try clear hf1
            try clear c2
            try clear c2b0
            try clear p2
            try clear c3
            try clear c4
            try clear c4b0
            try clear p6
            try clear c7
            try clear c7b0
            try clear c7b1
            try clear c9
            try clear c9b0
            try clear c10
            try clear c10b0
            try clear p11
            try clear q11
            try clear hx11
            try clear hf11
            try clear c14
            try clear c14b0
            try clear c15
            try clear c15b0
            try clear c16
            try clear c20
            try clear c20b0
            try clear hx1179_0
            try clear hx1181_0
            try clear hx1181_1
            try clear hx1181_2
            try clear hx1181_3
            try clear hx1181_4
            try clear hx11_0
            try clear p1
            try clear p11
            try clear p1179
            try clear p1181
            try clear p2
            try clear p6
            try clear q1
            try clear q11
            try clear q1179
            try clear q1181
            obtain ⟨x3_4, HA, HK4, HO_3, HB⟩ := hrel
            cases gk with
            | zero => exact absurd HA.out (by simp [ak.l1])
            | succ k4 =>
             have H := HA.out
             clear HA
             simp only [ak.l1] at H
             revert H
             refine iC (fun c21 H => ?_) fun c21 H => ?_
             ·have c21b0 : decide (0 < (x3_4.length : Int)) = true := decide_eq_true c21
              have c21b1 : decide (0 < x3_4.length) = true := decide_eq_true (by omega)
              clear c21
              obtain ⟨ji22, hji22⟩ : ∃ j_ : Int, (wrap64 ((x3_4.length : Int) - 1)) = j_ := ⟨_, rfl⟩
              replace H : (if 0 ≤ (ji22) then (if (ji22) < (x3_4.length : Int) then (if (rd x3_4 (ji22)) = 0 then (if (ji22) ≤ (x3_4.length : Int) then (ak.l1 k4 l0 (x3_4.take ((ji22) : Int).toNat) x4_16 x5_1) else (none)) else (ak.l0 k4 l0 x3_4 x4_16 (wrap64 (x5_1 + 1)))) else (none)) else (none)) = some r := by first | (rw [hji22] at H; exact H) | (simp only [hji22] at H ⊢; exact H)
              have hji22w : (IntKind.i64.wrap ((x3_4.length : Int) - 1)) = ji22 := (gX _).trans hji22
              revert H
              refine gJ (fun c23b0 H => ?_) fun c23 H => ?_
              ·revert H
               refine gJ (fun c24b0 H => ?_) fun c24 H => ?_
               ·revert H
                refine cZ (fun c25b0 c25b1 H => ?_) fun c25 c25b0 c25b1 H => ?_
                ·revert H
                 refine jO (fun c26b0 c26b1 H => ?_) fun c26 H => ?_
                 ·obtain ⟨y1186, hy1186⟩ : ∃ y_ : List Int, y_ = (x3_4.take ((ji22) : Int).toNat) := ⟨_, rfl⟩
                  replace H : (ak.l1 k4 l0 y1186 x4_16 x5_1) = some r := by first | (rw [hy1186]; with_reducible exact H) | (have H2_ := (Option.bind_some _ _).symm.trans H; rw [hy1186]; with_reducible exact H2_) | (have H2_ := (Option.bind_some _ _).symm.trans H; with_reducible exact H2_) | with_reducible exact H | (rw [hy1186]; exact H) | exact H
                  have Ny1186 := ae.mk hy1186
                  clear hy1186
                  have H' := ae.mk H
                  clear H
                  obtain ⟨Ao27, co27, eo27⟩ := Kd.eU HO_3.out
                  subst eo27
                  have p1185 : 0 ≤ ((ji22) : Int) := of_decide_eq_true aT
                  have q1185 : (ji22) < (x3_4.length : Int) := of_decide_eq_true aT
                  obtain ⟨ad1185, e1185, hx1185_0⟩ := Kd.jv (Kd.dL HO_3.out).2.2 (ji22) p1185 q1185
                  cases e1185
                  replace p1185 := eq_true p1185
                  replace q1185 := eq_true q1185
                  have q28 : ((ji22) : Int) ≤ ((x3_4.length : Int) : Int) := of_decide_eq_true aT
                  obtain ⟨i028, hi028, _, hsz28, _⟩ := info_parts info3
                  have hcut28 := CG (P := Tryz.prog) 60 3 .i64 Tryz.underlying60 hi028 (some ad1185) x3_4.length co27 (ji22) (of_decide_eq_true aT) q28 (Kd.dL HO_3.out).2.1
                  have hr28 := Kd.CQ (m := ((ji22) : Int).toNat) HO_3.out (by omega)
                  have hy28 : y1186.length = ((ji22) : Int).toNat := (by rw [Ny1186.out, List.length_take]; omega)
                  rw [← Ny1186.out] at hr28
                  rw [← hy28] at hr28 hcut28
                  clear hy28 hi028 hsz28 HO_3
                  have HO1188 := ae.mk hr28
                  clear hr28
                  replace q28 := eq_true q28
                  go_wp2
                  go_roundg k4
                  case measure => have := HK1.out; have := HJ4.out; have := HJ16.out; have := HK4.out; omega
                  case rel => exact ⟨(y1186), H', ⟨by have := HK1.out; have := HJ4.out; have := HJ16.out; have := HK4.out; omega⟩, ⟨by (try simp only [hl3_4]); (with_reducible repeat (first | apply Kd.iw | apply Kd.ik | apply Kd.jb)); exact HO1188.out⟩, ⟨bT HB⟩⟩
                 exact absurd H (by simp)
                have H' := ae.mk H
                clear H
                obtain ⟨Ao29, co29, eo29⟩ := Kd.eU HO_3.out
                subst eo29
                have p1185 : 0 ≤ ((ji22) : Int) := of_decide_eq_true aT
                have q1185 : (ji22) < (x3_4.length : Int) := of_decide_eq_true aT
                obtain ⟨ad1185, e1185, hx1185_0⟩ := Kd.jv (Kd.dL HO_3.out).2.2 (ji22) p1185 q1185
                cases e1185
                replace p1185 := eq_true p1185
                replace q1185 := eq_true q1185
                go_wp2
                (try simp only [← hl3_4])
                go_roundg k4
                case measure => have := HK1.out; have := HJ4.out; have := HJ16.out; have := HK4.out; omega
                case rel => exact ⟨(x3_4), (x4_16), (wrap64 (x5_1 + 1)), fT, fT, H', ⟨by have := HK1.out; have := HJ4.out; have := HJ16.out; have := HK4.out; omega⟩, ⟨Z27⟩, ⟨bT HB⟩⟩
               exact absurd H (by simp)
              exact absurd H (by simp)
             have c21b0 : decide (0 < (x3_4.length : Int)) = false := decide_eq_false c21
             have c21b1 : decide (0 < x3_4.length) = false := decide_eq_false (by omega)
             clear c21
             have H' := ae.mk H
             clear H
             obtain ⟨Ao30, co30, eo30⟩ := Kd.eU HO_3.out
             subst eo30
             go_wp2
             (try simp only [← hl3_4])
             go_roundg k4
             case measure => have := HK1.out; have := HJ4.out; have := HJ16.out; have := HK4.out; omega
             case rel => exact ⟨(x3_4), (x4_16), (wrap64 (x5_1 + 1)), fT, fT, H', ⟨by have := HK1.out; have := HJ4.out; have := HJ16.out; have := HK4.out; omega⟩, ⟨Z27⟩, ⟨bT HB⟩⟩
        exact absurd H (by simp)
       exact absurd H (by simp)
      exact absurd H (by simp)
   obtain rfl := Option.some.inj H
   go_wp2
   go_ret
   exact ⟨eT, bT HB⟩
end Go.Proofs.YtkbhkonenkgfoaaGreat.Q
end
section
namespace Go.Proofs.YtkbhkonenkgfoaaGreat.Q
open Go.RowKit Go.Proofs.YtkbhkonenkgfoaaGreatW.PrintWords Go.Proofs.YtkbhkonenkgfoaaGreatW.PrintLast Go.Proofs.YtkbhkonenkgfoaaGreatW.PrintMore
attribute [local go_sem] dJ dH dW dV dh df dI dG
set_option linter.unusedVariables false
set_option linter.unusedSimpArgs false
/-! ### aU: function 18 -/
mutual
def aU.j0 : Nat → List (S29) → Bool → Option (Int × Int)
 | 0, _, _ => none
 | k + 1, x0, x20 => if x20 = true then (some (2, 0)) else ((ak.f k x0).bind fun t1247 => (if t1247 > 60 then (some (3, 0)) else (if 0 < (x0.length : Int) then (if ((ax x0 0).f0) = 1 then (aU.l0 k x0 0) else (some (4, 0))) else (none))))
def aU.l0 : Nat → List (S29) → Int → Option (Int × Int)
 | 0, _, _ => none
 | k + 1, x0, x4 => if x4 < (x0.length : Int) then ((bF.f k x0 x4).bind fun t1249 => (aU.l1 k x0 x4 t1249 ([] : List Int) 0)) else (some (0, 0))
def aU.l1 : Nat → List (S29) → Int → List Int → List Int → Int → Option (Int × Int)
 | 0, _, _, _, _, _ => none
 | k + 1, x0, x4, x5, x6, x7 => if x7 < (x5.length : Int) then (if 0 ≤ x7 then (if 0 ≤ (rd x5 x7) then (if (rd x5 x7) < (x0.length : Int) then (if x6.length < 17592186044416 then (aU.l1 k x0 x4 x5 (x6 ++ [(ax x0 (rd x5 x7)).f0]) (wrap64 (x7 + 1))) else (none)) else (none)) else (none)) else (none)) else (if 0 ≤ x4 then (if x4 < (x0.length : Int) then ((bz.f k ((ax x0 x4).f0) ((ax x0 x4).f1) ((ax x0 x4).f2) ((ax x0 x4).f3) ((ax x0 x4).f4)).bind fun t1258 => (if t1258 = true then ((au.f k ((ax x0 x4).f0) x6).bind fun t1260 => (if t1260 = true then (aU.l0 k x0 (wrap64 (x4 + 1))) else (some (4, x4)))) else (some (4, x4)))) else (none)) else (none))
end
def aU.f (k : Nat) (l0 : List (S29)) : Option (Int × Int) := if (l0.length : Int) > 2000 then (some (3, 0)) else ((aI.f k l0 0).bind fun t1246 => (if t1246 = (l0.length : Int) then (aU.j0 k l0 ((l0.length : Int) == 0)) else (aU.j0 k l0 true)))
theorem aU.bP : ∀ k, (∀ y0 y1, LeO (aU.j0 k y0 y1) (aU.j0 (k + 1) y0 y1)) ∧ (∀ y0 y1, LeO (aU.l0 k y0 y1) (aU.l0 (k + 1) y0 y1)) ∧ (∀ y0 y1 y2 y3 y4, LeO (aU.l1 k y0 y1 y2 y3 y4) (aU.l1 (k + 1) y0 y1 y2 y3 y4))
 | 0 => ⟨fun _ _ r h => by simp [aU.j0] at h, fun _ _ r h => by simp [aU.l0] at h, fun _ _ _ _ _ r h => by simp [aU.l1] at h⟩
 | k + 1 => by
  obtain ⟨ih0, ih1, ih2⟩ := aU.bP k
  refine ⟨?_, ?_, ?_⟩
  ·intro y0 y1
   unfold aU.j0
   have m0 := ak.mono
   have m1 := aI.mono
   have m2 := bF.mono
   have m3 := bz.mono
   have m4 := au.mono
   exact yL
  ·intro y0 y1
   unfold aU.l0
   have m0 := ak.mono
   have m1 := aI.mono
   have m2 := bF.mono
   have m3 := bz.mono
   have m4 := au.mono
   exact yL
  intro y0 y1 y2 y3 y4
  unfold aU.l1
  have m0 := ak.mono
  have m1 := aI.mono
  have m2 := bF.mono
  have m3 := bz.mono
  have m4 := au.mono
  exact yL
theorem aU.mono : ∀ a0 k, LeO (aU.f k a0) (aU.f (k + 1) a0) := by
 intro a0 k
 obtain ⟨ih0, ih1, ih2⟩ := aU.bP k
 unfold aU.f
 have m0 := ak.mono
 have m1 := aI.mono
 have m2 := bF.mono
 have m3 := bz.mono
 have m4 := au.mono
 exact yL
set_option maxHeartbeats 8000000 in
set_option maxRecDepth 100000 in
theorem aU.calls (k : Nat) (A0 : Option Addr) (c0 : Nat) (l0 : List (S29)) (r1 : Int) (r2 : Int) (w : World) (hr0 : Kd.C k29 w A0 l0.length l0) (hc0 : l0.length ≤ c0) (h : aU.f k l0 = some (r1, r2)) :
 Calls Tryz.prog 18 #[.slice A0 l0.length c0] w fun e w' => e = .returned (.tuple #[.int .i64 r1, .int .i64 r2]) ∧ Below w.heap.size w w' := by
 have hu29 := Tryz.underlying29
 have HR0 := ae.mk hr0
 have HC0 := ae.mk hc0
 clear hr0 hc0
 have HB := ae.mk (Below.refl w.heap.size w)
 have H := h
 clear h
 unfold aU.f at H
 revert H
 refine iC (fun c2 H => ?_) fun c2 H => ?_
 ·have c2b0 : decide (2000 < (l0.length : Int)) = true := decide_eq_true c2
  have c2b1 : decide (2000 < l0.length) = true := decide_eq_true (by omega)
  clear c2
  simp only [Option.some.injEq, Prod.mk.injEq] at H
  obtain ⟨rfl, rfl⟩ := H
  go_enter Tryz.func18, Tryz.ntmps18
  go_wp2
  go_ret2
  exact ⟨eT, bT HB⟩
 have c2b0 : decide (2000 < (l0.length : Int)) = false := decide_eq_false c2
 have c2b1 : decide (2000 < l0.length) = false := decide_eq_false (by omega)
 clear c2
 have HC3 := ae.mk H
 clear H
 go_enter Tryz.func18, Tryz.ntmps18
 go_upto_region 3 with (fail)
 go_cut [20] (fun v20 wc => ∃ (kq : Nat) (x20_2 : Bool), v20 = .bool x20_2 ∧ ae (aU.j0 kq l0 x20_2 = some (r1, r2)) ∧ ae (kq ≤ k) ∧ ae (Below w.heap.size w wc))
 case first =>
  have H := HC3.out
  clear HC3
  revert H
  refine yB1 fun t1246 A4 H => ?_
  revert H
  refine cZ (fun c5b0 c5b1 H => ?_) fun c5 c5b0 c5b1 H => ?_
  ·(first | rw [c5b0] | (simp only [gX, iP]; rw [c5b0]) | skip)
   have H' := ae.mk H
   clear H
   go_wp2_with (first | ((with_reducible refine gC 39 rfl ?_); refine gM 39 12 rfl Tryz.func39 (aI.calls k _ _ l0 0 t1246 _ Z6 HC0.out A4.out) ?_; rintro _ w' ⟨rfl, ⟨nd, rfl⟩⟩; refine ⟨_, rfl, ?_⟩))
   go_meet
   case rel => exact ⟨_, (((l0.length : Int) == 0)), fT, H', ⟨Z11⟩, ⟨bT HB⟩⟩
  (first | rw [c5b0] | (simp only [gX, iP]; rw [c5b0]) | skip)
  have H' := ae.mk H
  clear H
  go_wp2_with (first | ((with_reducible refine gC 39 rfl ?_); refine gM 39 12 rfl Tryz.func39 (aI.calls k _ _ l0 0 t1246 _ Z6 HC0.out A4.out) ?_; rintro _ w' ⟨rfl, ⟨nd, rfl⟩⟩; refine ⟨_, rfl, ?_⟩))
  go_meet
  case rel => exact ⟨_, (true), fT, H', ⟨Z11⟩, ⟨bT HB⟩⟩
 case rest =>
  clear HC3
  try clear c1
  try clear c2
  try clear c2b0
  try clear c2b1
  try clear p2
  try clear c3
  try clear c5
  try clear c5b0
  try clear c5b1
  obtain ⟨kq, x20_2, rfl, HA, HJ2, HB⟩ := hcut
  cases kq with
  | zero => exact absurd HA.out (by simp [aU.j0])
  | succ kj2 =>
   have H := HA.out
   clear HA
   simp only [aU.j0] at H
   cases x20_2
   rotate_left
   ·replace H := yT H
    simp only [Option.some.injEq, Prod.mk.injEq] at H
    obtain ⟨rfl, rfl⟩ := H
    go_wp2
    go_ret2
    exact ⟨eT, bT HB⟩
   replace H := yF H
   revert H
   refine yB1 fun t1247 A7 H => ?_
   revert H
   refine iC (fun c8 H => ?_) fun c8 H => ?_
   ·have c8b0 : decide (60 < t1247) = true := decide_eq_true c8
    clear c8
    simp only [Option.some.injEq, Prod.mk.injEq] at H
    obtain ⟨rfl, rfl⟩ := H
    go_wp2_with (first | ((with_reducible refine gC 40 rfl ?_); refine gM 40 22 rfl Tryz.func40 (ak.calls kj2 _ _ l0 t1247 _ Z6 HC0.out A7.out) ?_; rintro _ w9 ⟨rfl, hb⟩; refine ⟨_, rfl, yA1 (aY (bT HB) hb) ?_⟩; clear HB hb; intro HB))
    go_ret2
    exact ⟨eT, bT HB⟩
   have c8b0 : decide (60 < t1247) = false := decide_eq_false c8
   clear c8
   revert H
   refine pX (fun c10 c10b0 H => ?_) fun c10 H => ?_
   ·have c10b1 : decide (0 < l0.length) = true := decide_eq_true (by omega)
    clear c10
    revert H
    refine cZ (fun c11b0 c11b1 H => ?_) fun c11 c11b0 c11b1 H => ?_
    ·have H' := ae.mk H
     clear H
     go_wp2_with (first | ((with_reducible refine gC 40 rfl ?_); refine gM 40 22 rfl Tryz.func40 (ak.calls kj2 _ _ l0 t1247 _ Z6 HC0.out A7.out) ?_; rintro _ w12 ⟨rfl, hb⟩; refine ⟨_, rfl, yA1 (aY (bT HB) hb) ?_⟩; clear HB hb; intro HB; have p1248 : 0 ≤ (0 : Int) := (by omega); have q1248 : 0 < (l0.length : Int) := of_decide_eq_true aT; obtain ⟨ad1248, e1248, hx1248_0, hx1248_1, hx1248_2, hx1248_3, hx1248_4⟩ := ja HR0.out 0 p1248 q1248; cases e1248; have qi1248 : (0 < l0.length) = True := eq_true (by omega); (try rw [show ((0 : Int)).toNat = 0 from rfl] at hx1248_0); (try rw [show 0 * 5 = 0 from rfl] at hx1248_0); (try rw [Addr.add_zero'] at hx1248_0); (try rw [show ((0 : Int)).toNat = 0 from rfl] at hx1248_1); (try rw [show 0 * 5 = 0 from rfl] at hx1248_1); (try rw [Addr.add_zero'] at hx1248_1); (try rw [show ((0 : Int)).toNat = 0 from rfl] at hx1248_2); (try rw [show 0 * 5 = 0 from rfl] at hx1248_2); (try rw [Addr.add_zero'] at hx1248_2); (try rw [show ((0 : Int)).toNat = 0 from rfl] at hx1248_3); (try rw [show 0 * 5 = 0 from rfl] at hx1248_3); (try rw [Addr.add_zero'] at hx1248_3); (try rw [show ((0 : Int)).toNat = 0 from rfl] at hx1248_4); (try rw [show 0 * 5 = 0 from rfl] at hx1248_4); (try rw [Addr.add_zero'] at hx1248_4); replace hx1248_0 := (HB.out.cell (World.block_lt_of_cell? w _ hx1248_0)).trans hx1248_0; replace hx1248_1 := (HB.out.cell (World.block_lt_of_cell? w _ hx1248_1)).trans hx1248_1; replace hx1248_2 := (HB.out.cell (World.block_lt_of_cell? w _ hx1248_2)).trans hx1248_2; replace hx1248_3 := (HB.out.cell (World.block_lt_of_cell? w _ hx1248_3)).trans hx1248_3; replace hx1248_4 := (HB.out.cell (World.block_lt_of_cell? w _ hx1248_4)).trans hx1248_4; replace p1248 := eq_true p1248; replace q1248 := eq_true q1248))
     go_loopg [4] kj2 (fun kq v4 w' => ∃ (x4_2 : Int), v4 = .int .i64 x4_2 ∧ ae (aU.l0 kq l0 x4_2 = some (r1, r2)) ∧ ae (kq ≤ kj2) ∧ ae (Below w.heap.size w w'))
     case atStart => exact ⟨(0), fT, H', ⟨Nat.le_refl _⟩, ⟨bT HB⟩⟩
     case round =>
      clear H'
      try clear c1
      try clear p1
      try clear q1
      try clear hx1
      try clear qi1
      try clear c2
      try clear c2b0
      try clear c2b1
      try clear p2
      try clear c3
      try clear c4
      try clear c5
      try clear c5b0
      try clear c5b1
      try clear c6
      try clear c8
      try clear c8b0
      try clear c10
      try clear c10b0
      try clear c10b1
      try clear c11
      try clear c11b0
      try clear c11b1
      try clear p12
      try clear q12
      try clear hx12
      try clear qi12
      try clear hx1248_0
      try clear hx1248_1
      try clear hx1248_2
      try clear hx1248_3
      try clear hx1248_4
      try clear p1248
      try clear p2
      try clear q1248
      obtain ⟨x4_2, rfl, HA, HK2, HB⟩ := hrel
      cases gk with
      | zero => exact absurd HA.out (by simp [aU.l0])
      | succ k2 =>
       have H := HA.out
       clear HA
       simp only [aU.l0] at H
       revert H
       refine iQ (fun c13b0 H => ?_) fun c13b0 H => ?_
       ·revert H
        refine yB1 fun t1249 A14 H => ?_
        have H' := ae.mk H
        clear H
        go_wp2_with (first | ((with_reducible refine gC 41 rfl ?_); refine gM 41 37 rfl Tryz.func41 (bF.calls k2 _ _ l0 x4_2 t1249 _ Z6 HC0.out A14.out) ?_; rintro _ w15 ⟨v1250, rfl, ho0, hb⟩; refine ⟨_, rfl, yA2 (Kd.ig ho0 (bY (bT HB))) (aY (bT HB) hb) ?_⟩; clear HB hb ho0; intro HO1251 HB))
        go_loopg [6, 7] k2 (fun kq v6 v7 w' => ∃ (x6_3 : List Int) (x7_3 : Int), v7 = .int .i64 x7_3 ∧ ae (aU.l1 kq l0 x4_2 t1249 x6_3 x7_3 = some (r1, r2)) ∧ ae (kq ≤ k2) ∧ ae (Kd.R (Kd.int .i64) 3 w' w.heap.size (fun k_ => some k_ ≠ (v6 : Value).ownBlock) v1250 t1249) ∧ ae (Kd.R (Kd.int .i64) 3 w' w.heap.size (fun k_ => some k_ ≠ (v1250 : Value).ownBlock) v6 x6_3) ∧ ae (Below w.heap.size w w'))
        case atStart => exact ⟨(([] : List Int)), (0), fT, H', ⟨Nat.le_refl _⟩, ⟨by (with_reducible repeat (first | apply Kd.iw | apply Kd.ik | apply Kd.jb)); exact Kd.iO HO1251.out (fun _ hk => (by simp [Value.ownBlock]))⟩, ⟨Z4⟩, ⟨bT HB⟩⟩
        case round =>
         clear H'
         try clear c1
         try clear p1
         try clear q1
         try clear hx1
         try clear qi1
         try clear c2
         try clear c2b0
         try clear c2b1
         try clear p2
         try clear c3
         try clear c4
         try clear c5
         try clear c5b0
         try clear c5b1
         try clear c6
         try clear c8
         try clear c8b0
         try clear c10
         try clear c10b0
         try clear c10b1
         try clear c11
         try clear c11b0
         try clear c11b1
         try clear p12
         try clear q12
         try clear hx12
         try clear qi12
         try clear c13
         try clear c13b0
         try clear hx1248_0
         try clear hx1248_1
         try clear hx1248_2
         try clear hx1248_3
         try clear hx1248_4
         try clear p1
         try clear p12
         try clear p1248
         try clear p2
         try clear q1
         try clear q12
         try clear q1248
         obtain ⟨x6_3, x7_3, rfl, HA, HK3, HO_5, HO_6, HB⟩ := hrel
         cases gk with
         | zero => exact absurd HA.out (by simp [aU.l1])
         | succ k3 =>
          have H := HA.out
          clear HA
          simp only [aU.l1] at H
          revert H
          refine iQ (fun c16b0 H => ?_) fun c16b0 H => ?_
          ·revert H
           refine gJ (fun c17b0 H => ?_) fun c17 H => ?_
           ·revert H
            refine gJ (fun c18b0 H => ?_) fun c18 H => ?_
            ·revert H
             refine gJ (fun c19b0 H => ?_) fun c19 H => ?_
             ·revert H
              refine iC (fun c20 H => ?_) fun c20 H => ?_
              ·have LMc20 := ae.mk c20
               clear c20
               obtain ⟨y1254, hy1254⟩ : ∃ y_ : List Int, y_ = (x6_3 ++ [(ax l0 (rd t1249 x7_3)).f0]) := ⟨_, rfl⟩
               replace H : (aU.l1 k3 l0 x4_2 t1249 y1254 (wrap64 (x7_3 + 1))) = some (r1, r2) := by first | (rw [hy1254]; with_reducible exact H) | (have H2_ := (Option.bind_some _ _).symm.trans H; rw [hy1254]; with_reducible exact H2_) | (have H2_ := (Option.bind_some _ _).symm.trans H; with_reducible exact H2_) | with_reducible exact H | (rw [hy1254]; exact H) | exact H
               have Ny1254 := ae.mk hy1254
               clear hy1254
               have H' := ae.mk H
               clear H
               obtain ⟨Ao21, co21, eo21⟩ := Kd.eU HO_5.out
               subst eo21
               have p1252 : 0 ≤ (x7_3 : Int) := of_decide_eq_true aT
               have q1252 : x7_3 < (t1249.length : Int) := of_decide_eq_true aT
               obtain ⟨ad1252, e1252, hx1252_0⟩ := Kd.jv (Kd.dL HO_5.out).2.2 x7_3 p1252 q1252
               cases e1252
               replace p1252 := eq_true p1252
               replace q1252 := eq_true q1252
               have p1253 : 0 ≤ ((rd t1249 x7_3) : Int) := of_decide_eq_true aT
               have q1253 : (rd t1249 x7_3) < (l0.length : Int) := of_decide_eq_true aT
               obtain ⟨ad1253, e1253, hx1253_0, hx1253_1, hx1253_2, hx1253_3, hx1253_4⟩ := ja HR0.out (rd t1249 x7_3) p1253 q1253
               obtain rfl : ad1248 = ad1253 := (by injection e1253)
               replace hx1253_0 := (HB.out.cell (World.block_lt_of_cell? w _ hx1253_0)).trans hx1253_0
               replace hx1253_1 := (HB.out.cell (World.block_lt_of_cell? w _ hx1253_1)).trans hx1253_1
               replace hx1253_2 := (HB.out.cell (World.block_lt_of_cell? w _ hx1253_2)).trans hx1253_2
               replace hx1253_3 := (HB.out.cell (World.block_lt_of_cell? w _ hx1253_3)).trans hx1253_3
               replace hx1253_4 := (HB.out.cell (World.block_lt_of_cell? w _ hx1253_4)).trans hx1253_4
               replace p1253 := eq_true p1253
               replace q1253 := eq_true q1253
               go_wp2_with (first | ((with_reducible refine eu (b := .append) (xs := #[.tmp 44, .tmp 53]) rfl ?_); (try (refine lT (by rfl) ?_; dsimp only)); at_builtin; refine Kd.jW (Kd.int .i64) (w0 := w) w.heap.size rfl (.tmp 44) (.tmp 53) 60 3 (.int .i64 0) 8 rfl Tryz.underlying60 info3 rfl (by decide) (by omega) u6 x6_3 ((ax l0 (rd t1249 x7_3)).f0) [.int .i64 ((ax l0 (rd t1249 x7_3)).f0)] (fun k_ => some k_ ≠ (.slice (some ad1252) t1249.length co21 : Value).ownBlock) (fun _ => False) rfl rfl ?aP (fun _ hk => hk.elim) ?aF ?aO ?aB ?aS ?aL ?_; (case aP => exact rfl); (case aB => exact (bT HB)); (case aF => exact (fun k_ hk => Kd.fresh' (Kd.xN (qR HO_5)) k_ hk)); (case aO => exact (qR HO_6)); (case aS => exact (bY (bT HB))); (case aL => have := LMc20.out; omega); intro v1255 w22 ho hb hg hat; rw [← Ny1254.out] at ho; refine yA3 (Kd.zI (ok := (fun _ => True)) (by (with_reducible repeat (first | apply Kd.iw | apply Kd.ik | apply Kd.jb)); exact Kd.iO HO_5.out (fun _ hk => ⟨trivial, hk⟩)) hg hat) (hb) (ho) ?_; clear HO_5 HB HO_6; intro HO_5 HB HO1256; clear ho hb hg hat))
               go_roundg k3
               case measure => have := HJ2.out; have := HK2.out; have := HK3.out; omega
               case rel => exact ⟨(y1254), (wrap64 (x7_3 + 1)), fT, H', ⟨by have := HJ2.out; have := HK2.out; have := HK3.out; omega⟩, ⟨by (with_reducible repeat (first | apply Kd.iw | apply Kd.ik | apply Kd.jb)); exact Kd.iO HO_5.out (fun _ hk => hk.2)⟩, ⟨qR HO1256⟩, ⟨bT HB⟩⟩
              exact absurd H (by simp)
             exact absurd H (by simp)
            exact absurd H (by simp)
           exact absurd H (by simp)
          revert H
          refine gJ (fun c23b0 H => ?_) fun c23 H => ?_
          ·revert H
           refine gJ (fun c24b0 H => ?_) fun c24 H => ?_
           ·revert H
            refine yB1 fun t1258 A25 H => ?_
            cases t1258
            rotate_left
            ·replace H := yT H
             revert H
             refine yB1 fun t1260 A27 H => ?_
             cases t1260
             rotate_left
             ·replace H := yT H
              have H' := ae.mk H
              clear H
              obtain ⟨Ao29, co29, eo29⟩ := Kd.eU HO_5.out
              subst eo29
              have p1257 : 0 ≤ (x4_2 : Int) := of_decide_eq_true aT
              have q1257 : x4_2 < (l0.length : Int) := of_decide_eq_true aT
              obtain ⟨ad1257, e1257, hx1257_0, hx1257_1, hx1257_2, hx1257_3, hx1257_4⟩ := ja HR0.out x4_2 p1257 q1257
              obtain rfl : ad1248 = ad1257 := (by injection e1257)
              replace hx1257_0 := (HB.out.cell (World.block_lt_of_cell? w _ hx1257_0)).trans hx1257_0
              replace hx1257_1 := (HB.out.cell (World.block_lt_of_cell? w _ hx1257_1)).trans hx1257_1
              replace hx1257_2 := (HB.out.cell (World.block_lt_of_cell? w _ hx1257_2)).trans hx1257_2
              replace hx1257_3 := (HB.out.cell (World.block_lt_of_cell? w _ hx1257_3)).trans hx1257_3
              replace hx1257_4 := (HB.out.cell (World.block_lt_of_cell? w _ hx1257_4)).trans hx1257_4
              replace p1257 := eq_true p1257
              replace q1257 := eq_true q1257
              go_wp2_with (first | ((with_reducible refine gC 42 rfl ?_); refine gM 42 59 rfl Tryz.func42 (bz.calls k3 ((ax l0 x4_2).f0) ((ax l0 x4_2).f1) ((ax l0 x4_2).f2) ((ax l0 x4_2).f3) ((ax l0 x4_2).f4) true _ A25.out) ?_; rintro _ w30 ⟨rfl, hb⟩; refine ⟨_, rfl, yA3 (Kd.gK (qR HO_5) hb) (Kd.gK (qR HO_6) hb) (aY (bT HB) hb) ?_⟩; clear HO_5 HO_6 HB hb; intro HO_5 HO_6 HB; have p1259 : 0 ≤ (x4_2 : Int) := of_decide_eq_true aT; have q1259 : x4_2 < (l0.length : Int) := of_decide_eq_true aT; obtain ⟨ad1259, e1259, hx1259_0, hx1259_1, hx1259_2, hx1259_3, hx1259_4⟩ := ja HR0.out x4_2 p1259 q1259; obtain rfl : ad1248 = ad1259 := (by injection e1259); replace hx1259_0 := (HB.out.cell (World.block_lt_of_cell? w _ hx1259_0)).trans hx1259_0; replace hx1259_1 := (HB.out.cell (World.block_lt_of_cell? w _ hx1259_1)).trans hx1259_1; replace hx1259_2 := (HB.out.cell (World.block_lt_of_cell? w _ hx1259_2)).trans hx1259_2; replace hx1259_3 := (HB.out.cell (World.block_lt_of_cell? w _ hx1259_3)).trans hx1259_3; replace hx1259_4 := (HB.out.cell (World.block_lt_of_cell? w _ hx1259_4)).trans hx1259_4; replace p1259 := eq_true p1259; replace q1259 := eq_true q1259; obtain ⟨Ao31, co31, rfl⟩ := Kd.eU HO_6.out) | (go_at_call 43; (with_reducible refine (au.calls k3 ((ax l0 x4_2).f0) _ _ x6_3 true _ ?side1 ?side2 A27.out).mono ?_); (case side1 => exact Z13); (case side2 => exact (Kd.dL HO_6.out).2.1); rintro e w' ⟨rfl, ⟨nd, rfl⟩⟩))
              go_roundg k3
              case measure => have := HJ2.out; have := HK2.out; have := HK3.out; omega
              case rel => exact ⟨(wrap64 (x4_2 + 1)), fT, H', ⟨by have := HJ2.out; have := HK2.out; have := HK3.out; omega⟩, ⟨bT HB⟩⟩
             replace H := yF H
             simp only [Option.some.injEq, Prod.mk.injEq] at H
             obtain ⟨rfl, rfl⟩ := H
             obtain ⟨Ao32, co32, eo32⟩ := Kd.eU HO_5.out
             subst eo32
             have p1257 : 0 ≤ (x4_2 : Int) := of_decide_eq_true aT
             have q1257 : x4_2 < (l0.length : Int) := of_decide_eq_true aT
             obtain ⟨ad1257, e1257, hx1257_0, hx1257_1, hx1257_2, hx1257_3, hx1257_4⟩ := ja HR0.out x4_2 p1257 q1257
             obtain rfl : ad1248 = ad1257 := (by injection e1257)
             replace hx1257_0 := (HB.out.cell (World.block_lt_of_cell? w _ hx1257_0)).trans hx1257_0
             replace hx1257_1 := (HB.out.cell (World.block_lt_of_cell? w _ hx1257_1)).trans hx1257_1
             replace hx1257_2 := (HB.out.cell (World.block_lt_of_cell? w _ hx1257_2)).trans hx1257_2
             replace hx1257_3 := (HB.out.cell (World.block_lt_of_cell? w _ hx1257_3)).trans hx1257_3
             replace hx1257_4 := (HB.out.cell (World.block_lt_of_cell? w _ hx1257_4)).trans hx1257_4
             replace p1257 := eq_true p1257
             replace q1257 := eq_true q1257
             go_wp2_with (first | ((with_reducible refine gC 42 rfl ?_); refine gM 42 59 rfl Tryz.func42 (bz.calls k3 ((ax l0 x4_2).f0) ((ax l0 x4_2).f1) ((ax l0 x4_2).f2) ((ax l0 x4_2).f3) ((ax l0 x4_2).f4) true _ A25.out) ?_; rintro _ w33 ⟨rfl, hb⟩; refine ⟨_, rfl, yA3 (Kd.gK (qR HO_5) hb) (Kd.gK (qR HO_6) hb) (aY (bT HB) hb) ?_⟩; clear HO_5 HO_6 HB hb; intro HO_5 HO_6 HB; have p1259 : 0 ≤ (x4_2 : Int) := of_decide_eq_true aT; have q1259 : x4_2 < (l0.length : Int) := of_decide_eq_true aT; obtain ⟨ad1259, e1259, hx1259_0, hx1259_1, hx1259_2, hx1259_3, hx1259_4⟩ := ja HR0.out x4_2 p1259 q1259; obtain rfl : ad1248 = ad1259 := (by injection e1259); replace hx1259_0 := (HB.out.cell (World.block_lt_of_cell? w _ hx1259_0)).trans hx1259_0; replace hx1259_1 := (HB.out.cell (World.block_lt_of_cell? w _ hx1259_1)).trans hx1259_1; replace hx1259_2 := (HB.out.cell (World.block_lt_of_cell? w _ hx1259_2)).trans hx1259_2; replace hx1259_3 := (HB.out.cell (World.block_lt_of_cell? w _ hx1259_3)).trans hx1259_3; replace hx1259_4 := (HB.out.cell (World.block_lt_of_cell? w _ hx1259_4)).trans hx1259_4; replace p1259 := eq_true p1259; replace q1259 := eq_true q1259; obtain ⟨Ao34, co34, rfl⟩ := Kd.eU HO_6.out) | (go_at_call 43; (with_reducible refine (au.calls k3 ((ax l0 x4_2).f0) _ _ x6_3 false _ ?side1 ?side2 A27.out).mono ?_); (case side1 => exact Z13); (case side2 => exact (Kd.dL HO_6.out).2.1); rintro e w' ⟨rfl, ⟨nd, rfl⟩⟩))
             go_ret2
             exact ⟨eT, bT HB⟩
            replace H := yF H
            simp only [Option.some.injEq, Prod.mk.injEq] at H
            obtain ⟨rfl, rfl⟩ := H
            obtain ⟨Ao35, co35, eo35⟩ := Kd.eU HO_5.out
            subst eo35
            have p1257 : 0 ≤ (x4_2 : Int) := of_decide_eq_true aT
            have q1257 : x4_2 < (l0.length : Int) := of_decide_eq_true aT
            obtain ⟨ad1257, e1257, hx1257_0, hx1257_1, hx1257_2, hx1257_3, hx1257_4⟩ := ja HR0.out x4_2 p1257 q1257
            obtain rfl : ad1248 = ad1257 := (by injection e1257)
            replace hx1257_0 := (HB.out.cell (World.block_lt_of_cell? w _ hx1257_0)).trans hx1257_0
            replace hx1257_1 := (HB.out.cell (World.block_lt_of_cell? w _ hx1257_1)).trans hx1257_1
            replace hx1257_2 := (HB.out.cell (World.block_lt_of_cell? w _ hx1257_2)).trans hx1257_2
            replace hx1257_3 := (HB.out.cell (World.block_lt_of_cell? w _ hx1257_3)).trans hx1257_3
            replace hx1257_4 := (HB.out.cell (World.block_lt_of_cell? w _ hx1257_4)).trans hx1257_4
            replace p1257 := eq_true p1257
            replace q1257 := eq_true q1257
            go_wp2_with (first | ((with_reducible refine gC 42 rfl ?_); refine gM 42 59 rfl Tryz.func42 (bz.calls k3 ((ax l0 x4_2).f0) ((ax l0 x4_2).f1) ((ax l0 x4_2).f2) ((ax l0 x4_2).f3) ((ax l0 x4_2).f4) false _ A25.out) ?_; rintro _ w36 ⟨rfl, hb⟩; refine ⟨_, rfl, yA3 (Kd.gK (qR HO_5) hb) (Kd.gK (qR HO_6) hb) (aY (bT HB) hb) ?_⟩; clear HO_5 HO_6 HB hb; intro HO_5 HO_6 HB))
            go_ret2
            exact ⟨eT, bT HB⟩
           exact absurd H (by simp)
          exact absurd H (by simp)
       simp only [Option.some.injEq, Prod.mk.injEq] at H
       obtain ⟨rfl, rfl⟩ := H
       go_wp2
       go_ret2
       exact ⟨eT, bT HB⟩
    simp only [Option.some.injEq, Prod.mk.injEq] at H
    obtain ⟨rfl, rfl⟩ := H
    go_wp2_with (first | ((with_reducible refine gC 40 rfl ?_); refine gM 40 22 rfl Tryz.func40 (ak.calls kj2 _ _ l0 t1247 _ Z6 HC0.out A7.out) ?_; rintro _ w37 ⟨rfl, hb⟩; refine ⟨_, rfl, yA1 (aY (bT HB) hb) ?_⟩; clear HB hb; intro HB; have p1248 : 0 ≤ (0 : Int) := (by omega); have q1248 : 0 < (l0.length : Int) := of_decide_eq_true aT; obtain ⟨ad1248, e1248, hx1248_0, hx1248_1, hx1248_2, hx1248_3, hx1248_4⟩ := ja HR0.out 0 p1248 q1248; cases e1248; have qi1248 : (0 < l0.length) = True := eq_true (by omega); (try rw [show ((0 : Int)).toNat = 0 from rfl] at hx1248_0); (try rw [show 0 * 5 = 0 from rfl] at hx1248_0); (try rw [Addr.add_zero'] at hx1248_0); (try rw [show ((0 : Int)).toNat = 0 from rfl] at hx1248_1); (try rw [show 0 * 5 = 0 from rfl] at hx1248_1); (try rw [Addr.add_zero'] at hx1248_1); (try rw [show ((0 : Int)).toNat = 0 from rfl] at hx1248_2); (try rw [show 0 * 5 = 0 from rfl] at hx1248_2); (try rw [Addr.add_zero'] at hx1248_2); (try rw [show ((0 : Int)).toNat = 0 from rfl] at hx1248_3); (try rw [show 0 * 5 = 0 from rfl] at hx1248_3); (try rw [Addr.add_zero'] at hx1248_3); (try rw [show ((0 : Int)).toNat = 0 from rfl] at hx1248_4); (try rw [show 0 * 5 = 0 from rfl] at hx1248_4); (try rw [Addr.add_zero'] at hx1248_4); replace hx1248_0 := (HB.out.cell (World.block_lt_of_cell? w _ hx1248_0)).trans hx1248_0; replace hx1248_1 := (HB.out.cell (World.block_lt_of_cell? w _ hx1248_1)).trans hx1248_1; replace hx1248_2 := (HB.out.cell (World.block_lt_of_cell? w _ hx1248_2)).trans hx1248_2; replace hx1248_3 := (HB.out.cell (World.block_lt_of_cell? w _ hx1248_3)).trans hx1248_3; replace hx1248_4 := (HB.out.cell (World.block_lt_of_cell? w _ hx1248_4)).trans hx1248_4; replace p1248 := eq_true p1248; replace q1248 := eq_true q1248))
    go_ret2
    exact ⟨eT, bT HB⟩
   exact absurd H (by simp)
end Go.Proofs.YtkbhkonenkgfoaaGreat.Q
end
