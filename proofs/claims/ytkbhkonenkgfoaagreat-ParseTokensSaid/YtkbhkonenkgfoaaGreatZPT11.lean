/- Walks over functions of the program, words for them, and what the functions come to; of each text only what this claim uses; no condition. -/
import Derived.Test.YtkbhkonenkgfoaaGreatZPT0
import Derived.Test.YtkbhkonenkgfoaaGreatZPT1
import Derived.Test.YtkbhkonenkgfoaaGreatZPT3
import Derived.Test.YtkbhkonenkgfoaaGreatZPT8
import Derived.Test.YtkbhkonenkgfoaaGreatZPT9
import Derived.Test.YtkbhkonenkgfoaaGreatZPT10
section
namespace Go.Proofs.YtkbhkonenkgfoaaGreat.Q
open Go.RowKit Go.Proofs.YtkbhkonenkgfoaaGreatW.PrintWords Go.Proofs.YtkbhkonenkgfoaaGreatW.PrintLast Go.Proofs.YtkbhkonenkgfoaaGreatW.PrintMore
attribute [local go_sem] dJ dH dS dR cZ cO dI dG
set_option linter.unusedVariables false
set_option linter.unusedSimpArgs false
/-! ### au: function 43 -/
mutual
def au.l0 : Nat → List Int → Int → Int → Option (Bool)
 | 0, _, _, _ => none
 | k + 1, x1, x5, x6 => if x6 < x5 then (if 0 ≤ x6 then (if x6 < (x1.length : Int) then (if (rd x1 x6) = 2 then (if x6 > 0 then (if 0 ≤ (wrap64 (x6 - 1)) then (if (wrap64 (x6 - 1)) < (x1.length : Int) then (if (rd x1 (wrap64 (x6 - 1))) = 3 then (some false) else (au.l0 k x1 x5 (wrap64 (x6 + 1)))) else (none)) else (none)) else (au.l0 k x1 x5 (wrap64 (x6 + 1)))) else (if (rd x1 x6) = 3 then (if x6 > 0 then (au.l0 k x1 x5 (wrap64 (x6 + 1))) else (au.l0 k x1 x5 (wrap64 (x6 + 1)))) else (some false))) else (none)) else (none)) else (some true)
def au.j1 : Nat → List Int → Int → Int → Bool → Option (Bool)
 | 0, _, _, _, _ => none
 | k + 1, x1, x5, x10, x49 => if x49 = true then ((aK.f k x1).bind fun t1227 => (some t1227)) else (if x10 = 5 then (au.l1 k x1 x5 0) else (if x10 = 8 then ((aZ.f k x1 3 3).bind fun t1230 => (some t1230)) else (if x10 = 9 then (if x5 = 2 then (if 0 < (x1.length : Int) then ((dX.f (rd x1 0)).bind fun t1232 => (if t1232 = true then (if 1 < (x1.length : Int) then (some ((rd x1 1) == 5)) else (none)) else (some false))) else (none)) else (if x5 = 3 then (if 2 < (x1.length : Int) then (if (rd x1 2) = 5 then (if 0 < (x1.length : Int) then ((dX.f (rd x1 0)).bind fun t1236 => (if t1236 = true then (if 1 < (x1.length : Int) then (some ((rd x1 1) == 5)) else (none)) else (some false))) else (none)) else (some false)) else (none)) else (some false))) else (if x10 = 10 then (if x5 = 2 then (if 0 < (x1.length : Int) then ((dX.f (rd x1 0)).bind fun t1239 => (if t1239 = true then (if 1 < (x1.length : Int) then (some ((rd x1 1) == 5)) else (none)) else (some false))) else (none)) else (some false)) else (if x10 = 6 then (au.j3 k x1 x5 x10 (x10 == 6)) else (if x10 = 7 then (au.j3 k x1 x5 x10 (x10 == 7)) else (if x10 = 13 then (au.j3 k x1 x5 x10 (x10 == 13)) else (if x10 = 14 then (au.j3 k x1 x5 x10 (x10 == 14)) else (if x10 = 15 then (au.j3 k x1 x5 x10 (x10 == 15)) else (if x10 = 17 then (au.j3 k x1 x5 x10 (x10 == 17)) else (if x10 = 28 then (au.j3 k x1 x5 x10 (x10 == 28)) else (au.j3 k x1 x5 x10 (x10 == 30)))))))))))))
def au.l1 : Nat → List Int → Int → Int → Option (Bool)
 | 0, _, _, _ => none
 | k + 1, x1, x5, x7 => if x7 < x5 then (if 0 ≤ x7 then (if x7 < (x1.length : Int) then ((gQ.f (rd x1 x7)).bind fun t1229 => (if t1229 = true then (au.l1 k x1 x5 (wrap64 (x7 + 1))) else (some false))) else (none)) else (none)) else (some true)
def au.j3 : Nat → List Int → Int → Int → Bool → Option (Bool)
 | 0, _, _, _, _ => none
 | k + 1, x1, x5, x10, x113 => if x113 = true then ((aZ.f k x1 1 1).bind fun t1241 => (some t1241)) else (if x10 = 22 then ((aZ.f k x1 1 9).bind fun t1242 => (some t1242)) else (if x10 = 23 then ((aZ.f k x1 0 8).bind fun t1243 => (some t1243)) else (if x10 = 26 then ((aZ.f k x1 2 2).bind fun t1244 => (some t1244)) else (if x10 = 27 then ((aZ.f k x1 2 2).bind fun t1245 => (some t1245)) else (some (x5 == 0))))))
end
def au.f (k : Nat) (a0 : Int) (l1 : List Int) : Option (Bool) := if a0 = 1 then (au.l0 k l1 (l1.length : Int) 0) else (if a0 = 3 then (au.j1 k l1 (l1.length : Int) a0 (a0 == 3)) else (au.j1 k l1 (l1.length : Int) a0 (a0 == 24)))
theorem au.bZ : ∀ k, (∀ y0 y1 y2, LeO (au.l0 k y0 y1 y2) (au.l0 (k + 1) y0 y1 y2)) ∧ (∀ y0 y1 y2 y3, LeO (au.j1 k y0 y1 y2 y3) (au.j1 (k + 1) y0 y1 y2 y3)) ∧ (∀ y0 y1 y2, LeO (au.l1 k y0 y1 y2) (au.l1 (k + 1) y0 y1 y2)) ∧ (∀ y0 y1 y2 y3, LeO (au.j3 k y0 y1 y2 y3) (au.j3 (k + 1) y0 y1 y2 y3))
 | 0 => ⟨fun _ _ _ r h => by simp [au.l0] at h, fun _ _ _ _ r h => by simp [au.j1] at h, fun _ _ _ r h => by simp [au.l1] at h, fun _ _ _ _ r h => by simp [au.j3] at h⟩
 | k + 1 => by
  obtain ⟨ih0, ih1, ih2, ih3⟩ := au.bZ k
  refine ⟨?_, ?_, ?_, ?_⟩
  ·intro y0 y1 y2
   unfold au.l0
   have m0 := aZ.mono
   have m1 := aK.mono
   exact yL
  ·intro y0 y1 y2 y3
   unfold au.j1
   have m0 := aZ.mono
   have m1 := aK.mono
   exact yL
  ·intro y0 y1 y2
   unfold au.l1
   have m0 := aZ.mono
   have m1 := aK.mono
   exact yL
  intro y0 y1 y2 y3
  unfold au.j3
  have m0 := aZ.mono
  have m1 := aK.mono
  exact yL
theorem au.mono : ∀ a0 a1 k, LeO (au.f k a0 a1) (au.f (k + 1) a0 a1) := by
 intro a0 a1 k
 obtain ⟨ih0, ih1, ih2, ih3⟩ := au.bZ k
 unfold au.f
 have m0 := aZ.mono
 have m1 := aK.mono
 exact yL
set_option maxHeartbeats 8000000 in
set_option maxRecDepth 100000 in
theorem au.calls (k : Nat) (a0 : Int) (A1 : Option Addr) (c1 : Nat) (l1 : List Int) (r : Bool) (w : World) (hr1 : Kd.C (Kd.int .i64) w A1 l1.length l1) (hc1 : l1.length ≤ c1) (h : au.f k a0 l1 = some r) :
 Calls Tryz.prog 43 #[.int .i64 a0, .slice A1 l1.length c1] w fun e w' => e = .returned (.bool r) ∧ dZ w w' := by
 have HR1 := af.mk hr1
 have HC1 := af.mk hc1
 clear hr1 hc1
 have H := h
 clear h
 unfold au.f at H
 revert H
 refine aU (fun c3b0 c3b1 H => ?_) fun c3 c3b0 c3b1 H => ?_
 ·have H' := af.mk H
  clear H
  go_enter Tryz.func43, Tryz.ntmps43
  go_wp2
  go_loopg [6] k (fun kq v6 w' => ∃ (x6_1 : Int), v6 = .int .i64 x6_1 ∧ af (au.l0 kq l1 (l1.length : Int) x6_1 = some r) ∧ af (kq ≤ k) ∧ dZ w w')
  case atStart => exact ⟨(0), fT, H', ⟨Nat.le_refl _⟩, Z0⟩
  case round =>
   clear H'
   try clear c1
   try clear p2
   try clear c3
   try clear c3b0
   try clear c3b1
   obtain ⟨x6_1, rfl, HA, HK1, ⟨m1, rfl⟩⟩ := hrel
   cases gk with
   | zero => exact absurd HA.out (by simp [au.l0])
   | succ k1 =>
    have H := HA.out
    clear HA
    simp only [au.l0] at H
    revert H
    refine iR (fun c4b0 H => ?_) fun c4b0 H => ?_
    ·revert H
     refine gB (fun c5b0 H => ?_) fun c5 H => ?_
     ·revert H
      refine gB (fun c6b0 H => ?_) fun c6 H => ?_
      ·revert H
       refine aU (fun c7b0 c7b1 H => ?_) fun c7 c7b0 c7b1 H => ?_
       ·revert H
        refine gU (fun c8 H => ?_) fun c8 H => ?_
        ·have c8b0 : decide (0 < x6_1) = true := decide_eq_true c8
         clear c8
         obtain ⟨ji9, hji9⟩ : ∃ j_ : Int, (wrap64 (x6_1 - 1)) = j_ := ⟨_, rfl⟩
         replace H : (if 0 ≤ (ji9) then (if (ji9) < (l1.length : Int) then (if (rd l1 (ji9)) = 3 then (some false) else (au.l0 k1 l1 (l1.length : Int) (wrap64 (x6_1 + 1)))) else (none)) else (none)) = some r := by first | (rw [hji9] at H; exact H) | (simp only [hji9] at H ⊢; exact H)
         have hji9w : (IntKind.i64.wrap (x6_1 - 1)) = ji9 := (fP _).trans hji9
         revert H
         refine gB (fun c10b0 H => ?_) fun c10 H => ?_
         ·revert H
          refine gB (fun c11b0 H => ?_) fun c11 H => ?_
          ·revert H
           refine aU (fun c12b0 c12b1 H => ?_) fun c12 c12b0 c12b1 H => ?_
           ·obtain rfl := Option.some.inj H
            have p1222 : 0 ≤ (x6_1 : Int) := of_decide_eq_true aT
            have q1222 : x6_1 < (l1.length : Int) := of_decide_eq_true aT
            obtain ⟨ad1222, e1222, hx1222_0⟩ := Kd.fO HR1.out x6_1 p1222 q1222
            cases e1222
            replace p1222 := eq_true p1222
            replace q1222 := eq_true q1222
            have p1223 : 0 ≤ (x6_1 : Int) := of_decide_eq_true aT
            have q1223 : x6_1 < (l1.length : Int) := of_decide_eq_true aT
            obtain ⟨ad1223, e1223, hx1223_0⟩ := Kd.fO HR1.out x6_1 p1223 q1223
            obtain rfl : ad1222 = ad1223 := (by injection e1223)
            replace p1223 := eq_true p1223
            replace q1223 := eq_true q1223
            have p1224 : 0 ≤ ((ji9) : Int) := of_decide_eq_true aT
            have q1224 : (ji9) < (l1.length : Int) := of_decide_eq_true aT
            obtain ⟨ad1224, e1224, hx1224_0⟩ := Kd.fO HR1.out (ji9) p1224 q1224
            obtain rfl : ad1222 = ad1224 := (by injection e1224)
            replace p1224 := eq_true p1224
            replace q1224 := eq_true q1224
            go_wp2
            go_ret
            exact ⟨by first | rfl | (simp; done) | (simp only [← hji9] <;> (first | rfl | simp)) | (simp [*]; done), Z0⟩
           have H' := af.mk H
           clear H
           have p1222 : 0 ≤ (x6_1 : Int) := of_decide_eq_true aT
           have q1222 : x6_1 < (l1.length : Int) := of_decide_eq_true aT
           obtain ⟨ad1222, e1222, hx1222_0⟩ := Kd.fO HR1.out x6_1 p1222 q1222
           cases e1222
           replace p1222 := eq_true p1222
           replace q1222 := eq_true q1222
           have p1223 : 0 ≤ (x6_1 : Int) := of_decide_eq_true aT
           have q1223 : x6_1 < (l1.length : Int) := of_decide_eq_true aT
           obtain ⟨ad1223, e1223, hx1223_0⟩ := Kd.fO HR1.out x6_1 p1223 q1223
           obtain rfl : ad1222 = ad1223 := (by injection e1223)
           replace p1223 := eq_true p1223
           replace q1223 := eq_true q1223
           have p1224 : 0 ≤ ((ji9) : Int) := of_decide_eq_true aT
           have q1224 : (ji9) < (l1.length : Int) := of_decide_eq_true aT
           obtain ⟨ad1224, e1224, hx1224_0⟩ := Kd.fO HR1.out (ji9) p1224 q1224
           obtain rfl : ad1222 = ad1224 := (by injection e1224)
           replace p1224 := eq_true p1224
           replace q1224 := eq_true q1224
           go_wp2
           go_roundg k1
           case measure => have := HK1.out; omega
           case rel => exact ⟨(wrap64 (x6_1 + 1)), fT, H', ⟨by have := HK1.out; omega⟩, Z0⟩
          exact absurd H (by simp)
         exact absurd H (by simp)
        have c8b0 : decide (0 < x6_1) = false := decide_eq_false c8
        clear c8
        have H' := af.mk H
        clear H
        have p1222 : 0 ≤ (x6_1 : Int) := of_decide_eq_true aT
        have q1222 : x6_1 < (l1.length : Int) := of_decide_eq_true aT
        obtain ⟨ad1222, e1222, hx1222_0⟩ := Kd.fO HR1.out x6_1 p1222 q1222
        cases e1222
        replace p1222 := eq_true p1222
        replace q1222 := eq_true q1222
        go_wp2
        go_roundg k1
        case measure => have := HK1.out; omega
        case rel => exact ⟨(wrap64 (x6_1 + 1)), fT, H', ⟨by have := HK1.out; omega⟩, Z0⟩
       revert H
       refine aU (fun c13b0 c13b1 H => ?_) fun c13 c13b0 c13b1 H => ?_
       ·revert H
        refine gU (fun c14 H => ?_) fun c14 H => ?_
        ·have c14b0 : decide (0 < x6_1) = true := decide_eq_true c14
         clear c14
         have H' := af.mk H
         clear H
         have p1222 : 0 ≤ (x6_1 : Int) := of_decide_eq_true aT
         have q1222 : x6_1 < (l1.length : Int) := of_decide_eq_true aT
         obtain ⟨ad1222, e1222, hx1222_0⟩ := Kd.fO HR1.out x6_1 p1222 q1222
         cases e1222
         replace p1222 := eq_true p1222
         replace q1222 := eq_true q1222
         have p1225 : 0 ≤ (x6_1 : Int) := of_decide_eq_true aT
         have q1225 : x6_1 < (l1.length : Int) := of_decide_eq_true aT
         obtain ⟨ad1225, e1225, hx1225_0⟩ := Kd.fO HR1.out x6_1 p1225 q1225
         obtain rfl : ad1222 = ad1225 := (by injection e1225)
         replace p1225 := eq_true p1225
         replace q1225 := eq_true q1225
         have p1226 : 0 ≤ (x6_1 : Int) := of_decide_eq_true aT
         have q1226 : x6_1 < (l1.length : Int) := of_decide_eq_true aT
         obtain ⟨ad1226, e1226, hx1226_0⟩ := Kd.fO HR1.out x6_1 p1226 q1226
         obtain rfl : ad1222 = ad1226 := (by injection e1226)
         replace p1226 := eq_true p1226
         replace q1226 := eq_true q1226
         go_wp2
         go_roundg k1
         case measure => have := HK1.out; omega
         case rel => exact ⟨(wrap64 (x6_1 + 1)), fT, H', ⟨by have := HK1.out; omega⟩, Z0⟩
        have c14b0 : decide (0 < x6_1) = false := decide_eq_false c14
        clear c14
        have H' := af.mk H
        clear H
        have p1222 : 0 ≤ (x6_1 : Int) := of_decide_eq_true aT
        have q1222 : x6_1 < (l1.length : Int) := of_decide_eq_true aT
        obtain ⟨ad1222, e1222, hx1222_0⟩ := Kd.fO HR1.out x6_1 p1222 q1222
        cases e1222
        replace p1222 := eq_true p1222
        replace q1222 := eq_true q1222
        have p1225 : 0 ≤ (x6_1 : Int) := of_decide_eq_true aT
        have q1225 : x6_1 < (l1.length : Int) := of_decide_eq_true aT
        obtain ⟨ad1225, e1225, hx1225_0⟩ := Kd.fO HR1.out x6_1 p1225 q1225
        obtain rfl : ad1222 = ad1225 := (by injection e1225)
        replace p1225 := eq_true p1225
        replace q1225 := eq_true q1225
        go_wp2
        go_roundg k1
        case measure => have := HK1.out; omega
        case rel => exact ⟨(wrap64 (x6_1 + 1)), fT, H', ⟨by have := HK1.out; omega⟩, Z0⟩
       obtain rfl := Option.some.inj H
       have p1222 : 0 ≤ (x6_1 : Int) := of_decide_eq_true aT
       have q1222 : x6_1 < (l1.length : Int) := of_decide_eq_true aT
       obtain ⟨ad1222, e1222, hx1222_0⟩ := Kd.fO HR1.out x6_1 p1222 q1222
       cases e1222
       replace p1222 := eq_true p1222
       replace q1222 := eq_true q1222
       have p1225 : 0 ≤ (x6_1 : Int) := of_decide_eq_true aT
       have q1225 : x6_1 < (l1.length : Int) := of_decide_eq_true aT
       obtain ⟨ad1225, e1225, hx1225_0⟩ := Kd.fO HR1.out x6_1 p1225 q1225
       obtain rfl : ad1222 = ad1225 := (by injection e1225)
       replace p1225 := eq_true p1225
       replace q1225 := eq_true q1225
       go_wp2
       go_ret
       exact ⟨fT, Z0⟩
      exact absurd H (by simp)
     exact absurd H (by simp)
    obtain rfl := Option.some.inj H
    go_wp2
    go_ret
    exact ⟨fT, Z0⟩
 have HC15 := af.mk H
 clear H
 go_enter Tryz.func43, Tryz.ntmps43
 go_upto_if 49 with (fail)
 go_cut [49] (fun v49 wc => ∃ (kq : Nat) (x49_14 : Bool), v49 = .bool x49_14 ∧ af (au.j1 kq l1 (l1.length : Int) a0 x49_14 = some r) ∧ af (kq ≤ k) ∧ dZ w wc)
 case first =>
  have H := HC15.out
  clear HC15
  revert H
  refine aU (fun c16b0 c16b1 H => ?_) fun c16 c16b0 c16b1 H => ?_
  ·(first | rw [c16b0] | (simp only [fP, gG]; rw [c16b0]) | skip)
   have H' := af.mk H
   clear H
   go_wp2
   go_meet
   case rel => exact ⟨_, ((a0 == 3)), fT, H', ⟨Z11⟩, Z0⟩
  (first | rw [c16b0] | (simp only [fP, gG]; rw [c16b0]) | skip)
  have H' := af.mk H
  clear H
  go_wp2
  go_meet
  case rel => exact ⟨_, ((a0 == 24)), fT, H', ⟨Z11⟩, Z0⟩
 case rest =>
  clear HC15
  try clear c1
  try clear p1
  try clear q1
  try clear hx1
  try clear p2
  try clear c3
  try clear c3b0
  try clear c3b1
  try clear c4
  try clear c4b0
  try clear c5
  try clear c5b0
  try clear c6
  try clear c6b0
  try clear p6
  try clear c7
  try clear c7b0
  try clear c7b1
  try clear c8
  try clear c8b0
  try clear c10
  try clear c10b0
  try clear c11
  try clear c11b0
  try clear c12
  try clear c12b0
  try clear c12b1
  try clear p12
  try clear q12
  try clear hx12
  try clear c13
  try clear c13b0
  try clear c13b1
  try clear c14
  try clear c14b0
  try clear c16
  try clear c16b0
  try clear c16b1
  try clear hx1222_0
  try clear hx1223_0
  try clear hx1224_0
  try clear hx1225_0
  try clear hx1226_0
  try clear p1222
  try clear p1223
  try clear p1224
  try clear p1225
  try clear p1226
  try clear p2
  try clear q1222
  try clear q1223
  try clear q1224
  try clear q1225
  try clear q1226
  obtain ⟨kq, x49_14, rfl, HA, HJ14, ⟨mc14, rfl⟩⟩ := hcut
  cases kq with
  | zero => exact absurd HA.out (by simp [au.j1])
  | succ kj14 =>
   have H := HA.out
   clear HA
   simp only [au.j1] at H
   cases x49_14
   rotate_left
   ·replace H := yT H
    revert H
    refine yB1 fun t1227 A18 H => ?_
    obtain rfl := Option.some.inj H
    go_wp2_with (first | ((with_reducible refine gC 84 rfl ?_); refine gM 84 53 rfl Tryz.func84 (aK.calls kj14 _ _ l1 t1227 _ Z10 HC1.out A18.out) ?_; rintro _ w' ⟨rfl, ⟨nd, rfl⟩⟩; refine ⟨_, rfl, ?_⟩))
    go_ret
    exact ⟨fT, Z0⟩
   replace H := yF H
   revert H
   refine aU (fun c19b0 c19b1 H => ?_) fun c19 c19b0 c19b1 H => ?_
   ·have H' := af.mk H
    clear H
    go_wp2
    go_loopg [7] kj14 (fun kq v7 w' => ∃ (x7_2 : Int), v7 = .int .i64 x7_2 ∧ af (au.l1 kq l1 (l1.length : Int) x7_2 = some r) ∧ af (kq ≤ kj14) ∧ dZ w w')
    case atStart => exact ⟨(0), fT, H', ⟨Nat.le_refl _⟩, Z0⟩
    case round =>
     clear H'
     try clear c1
     try clear p1
     try clear q1
     try clear hx1
     try clear p2
     try clear c3
     try clear c3b0
     try clear c3b1
     try clear c4
     try clear c4b0
     try clear c5
     try clear c5b0
     try clear c6
     try clear c6b0
     try clear p6
     try clear c7
     try clear c7b0
     try clear c7b1
     try clear c8
     try clear c8b0
     try clear c10
     try clear c10b0
     try clear c11
     try clear c11b0
     try clear c12
     try clear c12b0
     try clear c12b1
     try clear p12
     try clear q12
     try clear hx12
     try clear c13
     try clear c13b0
     try clear c13b1
     try clear c14
     try clear c14b0
     try clear c16
     try clear c16b0
     try clear c16b1
     try clear c17
     try clear c19
     try clear c19b0
     try clear c19b1
     try clear hx1222_0
     try clear hx1223_0
     try clear hx1224_0
     try clear hx1225_0
     try clear hx1226_0
     try clear p1
     try clear p12
     try clear p1222
     try clear p1223
     try clear p1224
     try clear p1225
     try clear p1226
     try clear p2
     try clear p6
     try clear q1
     try clear q12
     try clear q1222
     try clear q1223
     try clear q1224
     try clear q1225
     try clear q1226
     obtain ⟨x7_2, rfl, HA, HK2, ⟨m2, rfl⟩⟩ := hrel
     cases gk with
     | zero => exact absurd HA.out (by simp [au.l1])
     | succ k2 =>
      have H := HA.out
      clear HA
      simp only [au.l1] at H
      revert H
      refine iR (fun c20b0 H => ?_) fun c20b0 H => ?_
      ·revert H
       refine gB (fun c21b0 H => ?_) fun c21 H => ?_
       ·revert H
        refine gB (fun c22b0 H => ?_) fun c22 H => ?_
        ·revert H
         refine yB1 fun t1229 A23 H => ?_
         cases t1229
         rotate_left
         ·replace H := yT H
          have H' := af.mk H
          clear H
          have p1228 : 0 ≤ (x7_2 : Int) := of_decide_eq_true aT
          have q1228 : x7_2 < (l1.length : Int) := of_decide_eq_true aT
          obtain ⟨ad1228, e1228, hx1228_0⟩ := Kd.fO HR1.out x7_2 p1228 q1228
          cases e1228
          replace p1228 := eq_true p1228
          replace q1228 := eq_true q1228
          go_wp2_with (first | ((with_reducible refine gC 85 rfl ?_); refine gM 85 65 rfl Tryz.func85 (gQ.calls (rd l1 x7_2) true _ A23.out) ?_; rintro _ w' ⟨rfl, ⟨nd, rfl⟩⟩; refine ⟨_, rfl, ?_⟩))
          go_roundg k2
          case measure => have := HJ14.out; have := HK2.out; omega
          case rel => exact ⟨(wrap64 (x7_2 + 1)), fT, H', ⟨by have := HJ14.out; have := HK2.out; omega⟩, Z0⟩
         replace H := yF H
         obtain rfl := Option.some.inj H
         have p1228 : 0 ≤ (x7_2 : Int) := of_decide_eq_true aT
         have q1228 : x7_2 < (l1.length : Int) := of_decide_eq_true aT
         obtain ⟨ad1228, e1228, hx1228_0⟩ := Kd.fO HR1.out x7_2 p1228 q1228
         cases e1228
         replace p1228 := eq_true p1228
         replace q1228 := eq_true q1228
         go_wp2_with (first | ((with_reducible refine gC 85 rfl ?_); refine gM 85 65 rfl Tryz.func85 (gQ.calls (rd l1 x7_2) false _ A23.out) ?_; rintro _ w' ⟨rfl, ⟨nd, rfl⟩⟩; refine ⟨_, rfl, ?_⟩))
         go_ret
         exact ⟨fT, Z0⟩
        exact absurd H (by simp)
       exact absurd H (by simp)
      obtain rfl := Option.some.inj H
      go_wp2
      go_ret
      exact ⟨fT, Z0⟩
   revert H
   refine aU (fun c25b0 c25b1 H => ?_) fun c25 c25b0 c25b1 H => ?_
   ·revert H
    refine yB1 fun t1230 A26 H => ?_
    obtain rfl := Option.some.inj H
    go_wp2_with (first | ((with_reducible refine gC 86 rfl ?_); refine gM 86 70 rfl Tryz.func86 (aZ.calls kj14 _ _ l1 3 3 t1230 _ Z10 HC1.out A26.out) ?_; rintro _ w' ⟨rfl, ⟨nd, rfl⟩⟩; refine ⟨_, rfl, ?_⟩))
    go_ret
    exact ⟨fT, Z0⟩
   revert H
   refine aU (fun c27b0 c27b1 H => ?_) fun c27 c27b0 c27b1 H => ?_
   ·revert H
    refine aU (fun c28b0 c28b1 H => ?_) fun c28 c28b0 c28b1 H => ?_
    ·revert H
     refine kP (fun c29 c29b0 H => ?_) fun c29 H => ?_
     ·have c29b1 : decide (0 < l1.length) = true := decide_eq_true (by omega)
      clear c29
      revert H
      refine yB1 fun t1232 A30 H => ?_
      cases t1232
      rotate_left
      ·replace H := yT H
       revert H
       refine kP (fun c32 c32b0 H => ?_) fun c32 H => ?_
       ·have c32b1 : decide (1 < l1.length) = true := decide_eq_true (by omega)
        clear c32
        obtain rfl := Option.some.inj H
        have p1231 : 0 ≤ (0 : Int) := (by omega)
        have q1231 : 0 < (l1.length : Int) := of_decide_eq_true aT
        obtain ⟨ad1231, e1231, hx1231_0⟩ := Kd.fO HR1.out 0 p1231 q1231
        cases e1231
        have qi1231 : (0 < l1.length) = True := eq_true (by omega)
        (try rw [show ((0 : Int)).toNat = 0 from rfl] at hx1231_0)
        (try rw [Addr.add_zero'] at hx1231_0)
        replace p1231 := eq_true p1231
        replace q1231 := eq_true q1231
        go_wp2_with (first | (go_at_call 87; (with_reducible refine (dX.calls (rd l1 0) true _ A30.out).mono ?_); rintro e w' ⟨rfl, ⟨nd, rfl⟩⟩; have p1233 : 0 ≤ (1 : Int) := (by omega); have q1233 : 1 < (l1.length : Int) := of_decide_eq_true aT; obtain ⟨ad1233, e1233, hx1233_0⟩ := Kd.fO HR1.out 1 p1233 q1233; obtain rfl : ad1231 = ad1233 := (by injection e1233); (try simp only [show (1 : Int).toNat = 1 from rfl, Nat.reduceMul, Nat.reduceEqDiff, Go.Addr.add, ↓reduceIte] at hx1233_0); have qi1233 : (1 < l1.length) = True := eq_true (by omega); (try rw [show ((1 : Int)).toNat = 1 from rfl] at hx1233_0); replace p1233 := eq_true p1233; replace q1233 := eq_true q1233))
        go_ret
        exact ⟨fT, Z0⟩
       exact absurd H (by simp)
      replace H := yF H
      obtain rfl := Option.some.inj H
      have p1231 : 0 ≤ (0 : Int) := (by omega)
      have q1231 : 0 < (l1.length : Int) := of_decide_eq_true aT
      obtain ⟨ad1231, e1231, hx1231_0⟩ := Kd.fO HR1.out 0 p1231 q1231
      cases e1231
      have qi1231 : (0 < l1.length) = True := eq_true (by omega)
      (try rw [show ((0 : Int)).toNat = 0 from rfl] at hx1231_0)
      (try rw [Addr.add_zero'] at hx1231_0)
      replace p1231 := eq_true p1231
      replace q1231 := eq_true q1231
      go_wp2_with (first | (go_at_call 87; (with_reducible refine (dX.calls (rd l1 0) false _ A30.out).mono ?_); rintro e w' ⟨rfl, ⟨nd, rfl⟩⟩))
      go_ret
      exact ⟨fT, Z0⟩
     exact absurd H (by simp)
    revert H
    refine aU (fun c33b0 c33b1 H => ?_) fun c33 c33b0 c33b1 H => ?_
    ·revert H
     refine kP (fun c34 c34b0 H => ?_) fun c34 H => ?_
     ·have c34b1 : decide (2 < l1.length) = true := decide_eq_true (by omega)
      clear c34
      revert H
      refine aU (fun c35b0 c35b1 H => ?_) fun c35 c35b0 c35b1 H => ?_
      ·revert H
       refine kP (fun c36 c36b0 H => ?_) fun c36 H => ?_
       ·have c36b1 : decide (0 < l1.length) = true := decide_eq_true (by omega)
        clear c36
        revert H
        refine yB1 fun t1236 A37 H => ?_
        cases t1236
        rotate_left
        ·replace H := yT H
         revert H
         refine kP (fun c39 c39b0 H => ?_) fun c39 H => ?_
         ·have c39b1 : decide (1 < l1.length) = true := decide_eq_true (by omega)
          clear c39
          obtain rfl := Option.some.inj H
          have p1234 : 0 ≤ (2 : Int) := (by omega)
          have q1234 : 2 < (l1.length : Int) := of_decide_eq_true aT
          obtain ⟨ad1234, e1234, hx1234_0⟩ := Kd.fO HR1.out 2 p1234 q1234
          cases e1234
          (try simp only [show (2 : Int).toNat = 2 from rfl, Nat.reduceMul, Nat.reduceEqDiff, Go.Addr.add, ↓reduceIte] at hx1234_0)
          have qi1234 : (2 < l1.length) = True := eq_true (by omega)
          (try rw [show ((2 : Int)).toNat = 2 from rfl] at hx1234_0)
          replace p1234 := eq_true p1234
          replace q1234 := eq_true q1234
          have p1235 : 0 ≤ (0 : Int) := (by omega)
          have q1235 : 0 < (l1.length : Int) := of_decide_eq_true aT
          obtain ⟨ad1235, e1235, hx1235_0⟩ := Kd.fO HR1.out 0 p1235 q1235
          obtain rfl : ad1234 = ad1235 := (by injection e1235)
          have qi1235 : (0 < l1.length) = True := eq_true (by omega)
          (try rw [show ((0 : Int)).toNat = 0 from rfl] at hx1235_0)
          (try rw [Addr.add_zero'] at hx1235_0)
          replace p1235 := eq_true p1235
          replace q1235 := eq_true q1235
          go_wp2_with (first | (go_at_call 87; (with_reducible refine (dX.calls (rd l1 0) true _ A37.out).mono ?_); rintro e w' ⟨rfl, ⟨nd, rfl⟩⟩; have p1237 : 0 ≤ (1 : Int) := (by omega); have q1237 : 1 < (l1.length : Int) := of_decide_eq_true aT; obtain ⟨ad1237, e1237, hx1237_0⟩ := Kd.fO HR1.out 1 p1237 q1237; obtain rfl : ad1234 = ad1237 := (by injection e1237); (try simp only [show (1 : Int).toNat = 1 from rfl, Nat.reduceMul, Nat.reduceEqDiff, Go.Addr.add, ↓reduceIte] at hx1237_0); have qi1237 : (1 < l1.length) = True := eq_true (by omega); (try rw [show ((1 : Int)).toNat = 1 from rfl] at hx1237_0); replace p1237 := eq_true p1237; replace q1237 := eq_true q1237))
          go_ret
          exact ⟨fT, Z0⟩
         exact absurd H (by simp)
        replace H := yF H
        obtain rfl := Option.some.inj H
        have p1234 : 0 ≤ (2 : Int) := (by omega)
        have q1234 : 2 < (l1.length : Int) := of_decide_eq_true aT
        obtain ⟨ad1234, e1234, hx1234_0⟩ := Kd.fO HR1.out 2 p1234 q1234
        cases e1234
        (try simp only [show (2 : Int).toNat = 2 from rfl, Nat.reduceMul, Nat.reduceEqDiff, Go.Addr.add, ↓reduceIte] at hx1234_0)
        have qi1234 : (2 < l1.length) = True := eq_true (by omega)
        (try rw [show ((2 : Int)).toNat = 2 from rfl] at hx1234_0)
        replace p1234 := eq_true p1234
        replace q1234 := eq_true q1234
        have p1235 : 0 ≤ (0 : Int) := (by omega)
        have q1235 : 0 < (l1.length : Int) := of_decide_eq_true aT
        obtain ⟨ad1235, e1235, hx1235_0⟩ := Kd.fO HR1.out 0 p1235 q1235
        obtain rfl : ad1234 = ad1235 := (by injection e1235)
        have qi1235 : (0 < l1.length) = True := eq_true (by omega)
        (try rw [show ((0 : Int)).toNat = 0 from rfl] at hx1235_0)
        (try rw [Addr.add_zero'] at hx1235_0)
        replace p1235 := eq_true p1235
        replace q1235 := eq_true q1235
        go_wp2_with (first | (go_at_call 87; (with_reducible refine (dX.calls (rd l1 0) false _ A37.out).mono ?_); rintro e w' ⟨rfl, ⟨nd, rfl⟩⟩))
        go_ret
        exact ⟨fT, Z0⟩
       exact absurd H (by simp)
      obtain rfl := Option.some.inj H
      have p1234 : 0 ≤ (2 : Int) := (by omega)
      have q1234 : 2 < (l1.length : Int) := of_decide_eq_true aT
      obtain ⟨ad1234, e1234, hx1234_0⟩ := Kd.fO HR1.out 2 p1234 q1234
      cases e1234
      (try simp only [show (2 : Int).toNat = 2 from rfl, Nat.reduceMul, Nat.reduceEqDiff, Go.Addr.add, ↓reduceIte] at hx1234_0)
      have qi1234 : (2 < l1.length) = True := eq_true (by omega)
      (try rw [show ((2 : Int)).toNat = 2 from rfl] at hx1234_0)
      replace p1234 := eq_true p1234
      replace q1234 := eq_true q1234
      go_wp2
      go_ret
      exact ⟨fT, Z0⟩
     exact absurd H (by simp)
    obtain rfl := Option.some.inj H
    go_wp2
    go_ret
    exact ⟨fT, Z0⟩
   revert H
   refine aU (fun c40b0 c40b1 H => ?_) fun c40 c40b0 c40b1 H => ?_
   ·revert H
    refine aU (fun c41b0 c41b1 H => ?_) fun c41 c41b0 c41b1 H => ?_
    ·revert H
     refine kP (fun c42 c42b0 H => ?_) fun c42 H => ?_
     ·have c42b1 : decide (0 < l1.length) = true := decide_eq_true (by omega)
      clear c42
      revert H
      refine yB1 fun t1239 A43 H => ?_
      cases t1239
      rotate_left
      ·replace H := yT H
       revert H
       refine kP (fun c45 c45b0 H => ?_) fun c45 H => ?_
       ·have c45b1 : decide (1 < l1.length) = true := decide_eq_true (by omega)
        clear c45
        obtain rfl := Option.some.inj H
        have p1238 : 0 ≤ (0 : Int) := (by omega)
        have q1238 : 0 < (l1.length : Int) := of_decide_eq_true aT
        obtain ⟨ad1238, e1238, hx1238_0⟩ := Kd.fO HR1.out 0 p1238 q1238
        cases e1238
        have qi1238 : (0 < l1.length) = True := eq_true (by omega)
        (try rw [show ((0 : Int)).toNat = 0 from rfl] at hx1238_0)
        (try rw [Addr.add_zero'] at hx1238_0)
        replace p1238 := eq_true p1238
        replace q1238 := eq_true q1238
        go_wp2_with (first | (go_at_call 87; (with_reducible refine (dX.calls (rd l1 0) true _ A43.out).mono ?_); rintro e w' ⟨rfl, ⟨nd, rfl⟩⟩; have p1240 : 0 ≤ (1 : Int) := (by omega); have q1240 : 1 < (l1.length : Int) := of_decide_eq_true aT; obtain ⟨ad1240, e1240, hx1240_0⟩ := Kd.fO HR1.out 1 p1240 q1240; obtain rfl : ad1238 = ad1240 := (by injection e1240); (try simp only [show (1 : Int).toNat = 1 from rfl, Nat.reduceMul, Nat.reduceEqDiff, Go.Addr.add, ↓reduceIte] at hx1240_0); have qi1240 : (1 < l1.length) = True := eq_true (by omega); (try rw [show ((1 : Int)).toNat = 1 from rfl] at hx1240_0); replace p1240 := eq_true p1240; replace q1240 := eq_true q1240))
        go_ret
        exact ⟨fT, Z0⟩
       exact absurd H (by simp)
      replace H := yF H
      obtain rfl := Option.some.inj H
      have p1238 : 0 ≤ (0 : Int) := (by omega)
      have q1238 : 0 < (l1.length : Int) := of_decide_eq_true aT
      obtain ⟨ad1238, e1238, hx1238_0⟩ := Kd.fO HR1.out 0 p1238 q1238
      cases e1238
      have qi1238 : (0 < l1.length) = True := eq_true (by omega)
      (try rw [show ((0 : Int)).toNat = 0 from rfl] at hx1238_0)
      (try rw [Addr.add_zero'] at hx1238_0)
      replace p1238 := eq_true p1238
      replace q1238 := eq_true q1238
      go_wp2_with (first | (go_at_call 87; (with_reducible refine (dX.calls (rd l1 0) false _ A43.out).mono ?_); rintro e w' ⟨rfl, ⟨nd, rfl⟩⟩))
      go_ret
      exact ⟨fT, Z0⟩
     exact absurd H (by simp)
    obtain rfl := Option.some.inj H
    go_wp2
    go_ret
    exact ⟨fT, Z0⟩
   have HC46 := af.mk H
   clear H
   go_upto_if 113 with (fail)
   go_cut [113] (fun v113 wc => ∃ (kq : Nat) (x113_45 : Bool), v113 = .bool x113_45 ∧ af (au.j3 kq l1 (l1.length : Int) a0 x113_45 = some r) ∧ af (kq ≤ kj14) ∧ dZ w wc)
   case first =>
    have H := HC46.out
    clear HC46
    revert H
    refine aU (fun c47b0 c47b1 H => ?_) fun c47 c47b0 c47b1 H => ?_
    ·(first | rw [c47b0] | (simp only [fP, gG]; rw [c47b0]) | skip)
     have H' := af.mk H
     clear H
     go_wp2
     go_meet
     case rel => exact ⟨_, ((a0 == 6)), fT, H', ⟨by have := HJ14.out; first | omega | exact Nat.le_refl _⟩, Z0⟩
    (first | rw [c47b0] | (simp only [fP, gG]; rw [c47b0]) | skip)
    revert H
    refine aU (fun c48b0 c48b1 H => ?_) fun c48 c48b0 c48b1 H => ?_
    ·have H' := af.mk H
     clear H
     go_wp2
     go_meet
     case rel => exact ⟨_, ((a0 == 7)), fT, H', ⟨by have := HJ14.out; first | omega | exact Nat.le_refl _⟩, Z0⟩
    revert H
    refine aU (fun c49b0 c49b1 H => ?_) fun c49 c49b0 c49b1 H => ?_
    ·have H' := af.mk H
     clear H
     go_wp2
     go_meet
     case rel => exact ⟨_, ((a0 == 13)), fT, H', ⟨by have := HJ14.out; first | omega | exact Nat.le_refl _⟩, Z0⟩
    revert H
    refine aU (fun c50b0 c50b1 H => ?_) fun c50 c50b0 c50b1 H => ?_
    ·have H' := af.mk H
     clear H
     go_wp2
     go_meet
     case rel => exact ⟨_, ((a0 == 14)), fT, H', ⟨by have := HJ14.out; first | omega | exact Nat.le_refl _⟩, Z0⟩
    revert H
    refine aU (fun c51b0 c51b1 H => ?_) fun c51 c51b0 c51b1 H => ?_
    ·have H' := af.mk H
     clear H
     go_wp2
     go_meet
     case rel => exact ⟨_, ((a0 == 15)), fT, H', ⟨by have := HJ14.out; first | omega | exact Nat.le_refl _⟩, Z0⟩
    revert H
    refine aU (fun c52b0 c52b1 H => ?_) fun c52 c52b0 c52b1 H => ?_
    ·have H' := af.mk H
     clear H
     go_wp2
     go_meet
     case rel => exact ⟨_, ((a0 == 17)), fT, H', ⟨by have := HJ14.out; first | omega | exact Nat.le_refl _⟩, Z0⟩
    revert H
    refine aU (fun c53b0 c53b1 H => ?_) fun c53 c53b0 c53b1 H => ?_
    ·have H' := af.mk H
     clear H
     go_wp2
     go_meet
     case rel => exact ⟨_, ((a0 == 28)), fT, H', ⟨by have := HJ14.out; first | omega | exact Nat.le_refl _⟩, Z0⟩
    have H' := af.mk H
    clear H
    go_wp2
    go_meet
    case rel => exact ⟨_, ((a0 == 30)), fT, H', ⟨by have := HJ14.out; first | omega | exact Nat.le_refl _⟩, Z0⟩
   case rest =>
    clear HC46
    try clear c1
    try clear p1
    try clear q1
    try clear hx1
    try clear qi1
    try clear c2
    try clear p2
    try clear c3
    try clear c3b0
    try clear c3b1
    try clear c4
    try clear c4b0
    try clear c5
    try clear c5b0
    try clear c6
    try clear c6b0
    try clear p6
    try clear c7
    try clear c7b0
    try clear c7b1
    try clear c8
    try clear c8b0
    try clear c10
    try clear c10b0
    try clear c11
    try clear c11b0
    try clear c12
    try clear c12b0
    try clear c12b1
    try clear p12
    try clear q12
    try clear hx12
    try clear qi12
    try clear c13
    try clear c13b0
    try clear c13b1
    try clear c14
    try clear c14b0
    try clear c16
    try clear c16b0
    try clear c16b1
    try clear c17
    try clear c19
    try clear c19b0
    try clear c19b1
    try clear c20
    try clear c20b0
    try clear c21
    try clear c21b0
    try clear c22
    try clear c22b0
    try clear c24
    try clear c25
    try clear c25b0
    try clear c25b1
    try clear c27
    try clear c27b0
    try clear c27b1
    try clear c28
    try clear c28b0
    try clear c28b1
    try clear c29
    try clear c29b0
    try clear c29b1
    try clear c31
    try clear c32
    try clear c32b0
    try clear c32b1
    try clear c33
    try clear c33b0
    try clear c33b1
    try clear c34
    try clear c34b0
    try clear c34b1
    try clear c35
    try clear c35b0
    try clear c35b1
    try clear c36
    try clear c36b0
    try clear c36b1
    try clear c38
    try clear c39
    try clear c39b0
    try clear c39b1
    try clear c40
    try clear c40b0
    try clear c40b1
    try clear c41
    try clear c41b0
    try clear c41b1
    try clear c42
    try clear c42b0
    try clear c42b1
    try clear c44
    try clear c45
    try clear c45b0
    try clear c45b1
    try clear c47
    try clear c47b0
    try clear c47b1
    try clear c48
    try clear c48b0
    try clear c48b1
    try clear c49
    try clear c49b0
    try clear c49b1
    try clear c50
    try clear c50b0
    try clear c50b1
    try clear c51
    try clear c51b0
    try clear c51b1
    try clear c52
    try clear c52b0
    try clear c52b1
    try clear c53
    try clear c53b0
    try clear c53b1
    try clear hx1222_0
    try clear hx1223_0
    try clear hx1224_0
    try clear hx1225_0
    try clear hx1226_0
    try clear hx1228_0
    try clear hx1231_0
    try clear hx1233_0
    try clear hx1234_0
    try clear hx1235_0
    try clear hx1237_0
    try clear hx1238_0
    try clear hx1240_0
    try clear p1
    try clear p12
    try clear p1222
    try clear p1223
    try clear p1224
    try clear p1225
    try clear p1226
    try clear p1228
    try clear p1231
    try clear p1233
    try clear p1234
    try clear p1235
    try clear p1237
    try clear p1238
    try clear p1240
    try clear p2
    try clear p6
    try clear q1
    try clear q12
    try clear q1222
    try clear q1223
    try clear q1224
    try clear q1225
    try clear q1226
    try clear q1228
    try clear q1231
    try clear q1233
    try clear q1234
    try clear q1235
    try clear q1237
    try clear q1238
    try clear q1240
    obtain ⟨kq, x113_45, rfl, HA, HJ45, ⟨mc45, rfl⟩⟩ := hcut
    cases kq with
    | zero => exact absurd HA.out (by simp [au.j3])
    | succ kj45 =>
     have H := HA.out
     clear HA
     simp only [au.j3] at H
     cases x113_45
     rotate_left
     ·replace H := yT H
      revert H
      refine yB1 fun t1241 A55 H => ?_
      obtain rfl := Option.some.inj H
      go_wp2_with (first | ((with_reducible refine gC 86 rfl ?_); refine gM 86 123 rfl Tryz.func86 (aZ.calls kj45 _ _ l1 1 1 t1241 _ Z10 HC1.out A55.out) ?_; rintro _ w' ⟨rfl, ⟨nd, rfl⟩⟩; refine ⟨_, rfl, ?_⟩))
      go_ret
      exact ⟨fT, Z0⟩
     replace H := yF H
     revert H
     refine aU (fun c56b0 c56b1 H => ?_) fun c56 c56b0 c56b1 H => ?_
     ·revert H
      refine yB1 fun t1242 A57 H => ?_
      obtain rfl := Option.some.inj H
      go_wp2_with (first | ((with_reducible refine gC 86 rfl ?_); refine gM 86 127 rfl Tryz.func86 (aZ.calls kj45 _ _ l1 1 9 t1242 _ Z10 HC1.out A57.out) ?_; rintro _ w' ⟨rfl, ⟨nd, rfl⟩⟩; refine ⟨_, rfl, ?_⟩))
      go_ret
      exact ⟨fT, Z0⟩
     revert H
     refine aU (fun c58b0 c58b1 H => ?_) fun c58 c58b0 c58b1 H => ?_
     ·revert H
      refine yB1 fun t1243 A59 H => ?_
      obtain rfl := Option.some.inj H
      go_wp2_with (first | ((with_reducible refine gC 86 rfl ?_); refine gM 86 131 rfl Tryz.func86 (aZ.calls kj45 _ _ l1 0 8 t1243 _ Z10 HC1.out A59.out) ?_; rintro _ w' ⟨rfl, ⟨nd, rfl⟩⟩; refine ⟨_, rfl, ?_⟩))
      go_ret
      exact ⟨fT, Z0⟩
     revert H
     refine aU (fun c60b0 c60b1 H => ?_) fun c60 c60b0 c60b1 H => ?_
     ·revert H
      refine yB1 fun t1244 A61 H => ?_
      obtain rfl := Option.some.inj H
      go_wp2_with (first | ((with_reducible refine gC 86 rfl ?_); refine gM 86 136 rfl Tryz.func86 (aZ.calls kj45 _ _ l1 2 2 t1244 _ Z10 HC1.out A61.out) ?_; rintro _ w' ⟨rfl, ⟨nd, rfl⟩⟩; refine ⟨_, rfl, ?_⟩))
      go_ret
      exact ⟨fT, Z0⟩
     revert H
     refine aU (fun c62b0 c62b1 H => ?_) fun c62 c62b0 c62b1 H => ?_
     ·revert H
      refine yB1 fun t1245 A63 H => ?_
      obtain rfl := Option.some.inj H
      go_wp2_with (first | ((with_reducible refine gC 86 rfl ?_); refine gM 86 136 rfl Tryz.func86 (aZ.calls kj45 _ _ l1 2 2 t1245 _ Z10 HC1.out A63.out) ?_; rintro _ w' ⟨rfl, ⟨nd, rfl⟩⟩; refine ⟨_, rfl, ?_⟩))
      go_ret
      exact ⟨fT, Z0⟩
     obtain rfl := Option.some.inj H
     go_wp2
     go_ret
     exact ⟨fT, Z0⟩
end Go.Proofs.YtkbhkonenkgfoaaGreat.Q
end
section
namespace Go.Proofs.YtkbhkonenkgfoaaGreat.Q
open Go.RowKit Go.Proofs.YtkbhkonenkgfoaaGreatW.PrintWords Go.Proofs.YtkbhkonenkgfoaaGreatW.PrintLast Go.Proofs.YtkbhkonenkgfoaaGreatW.PrintMore
attribute [local go_sem] dJ dH dS dR cZ cO dI dG
set_option linter.unusedVariables false
set_option linter.unusedSimpArgs false
/-! ### aN: function 18 -/
mutual
def aN.j0 : Nat → List (S29) → Bool → Option (Int × Int)
 | 0, _, _ => none
 | k + 1, x0, x20 => if x20 = true then (some (2, 0)) else ((ak.f k x0).bind fun t1247 => (if t1247 > 60 then (some (3, 0)) else (if 0 < (x0.length : Int) then (if ((ax x0 0).f0) = 1 then (aN.l0 k x0 0) else (some (4, 0))) else (none))))
def aN.l0 : Nat → List (S29) → Int → Option (Int × Int)
 | 0, _, _ => none
 | k + 1, x0, x4 => if x4 < (x0.length : Int) then ((bz.f k x0 x4).bind fun t1249 => (aN.l1 k x0 x4 t1249 ([] : List Int) 0)) else (some (0, 0))
def aN.l1 : Nat → List (S29) → Int → List Int → List Int → Int → Option (Int × Int)
 | 0, _, _, _, _, _ => none
 | k + 1, x0, x4, x5, x6, x7 => if x7 < (x5.length : Int) then (if 0 ≤ x7 then (if 0 ≤ (rd x5 x7) then (if (rd x5 x7) < (x0.length : Int) then (if x6.length < 17592186044416 then (aN.l1 k x0 x4 x5 (x6 ++ [(ax x0 (rd x5 x7)).f0]) (wrap64 (x7 + 1))) else (none)) else (none)) else (none)) else (none)) else (if 0 ≤ x4 then (if x4 < (x0.length : Int) then ((bi.f k ((ax x0 x4).f0) ((ax x0 x4).f1) ((ax x0 x4).f2) ((ax x0 x4).f3) ((ax x0 x4).f4)).bind fun t1258 => (if t1258 = true then ((au.f k ((ax x0 x4).f0) x6).bind fun t1260 => (if t1260 = true then (aN.l0 k x0 (wrap64 (x4 + 1))) else (some (4, x4)))) else (some (4, x4)))) else (none)) else (none))
end
def aN.f (k : Nat) (l0 : List (S29)) : Option (Int × Int) := if (l0.length : Int) > 2000 then (some (3, 0)) else ((aG.f k l0 0).bind fun t1246 => (if t1246 = (l0.length : Int) then (aN.j0 k l0 ((l0.length : Int) == 0)) else (aN.j0 k l0 true)))
theorem aN.bZ : ∀ k, (∀ y0 y1, LeO (aN.j0 k y0 y1) (aN.j0 (k + 1) y0 y1)) ∧ (∀ y0 y1, LeO (aN.l0 k y0 y1) (aN.l0 (k + 1) y0 y1)) ∧ (∀ y0 y1 y2 y3 y4, LeO (aN.l1 k y0 y1 y2 y3 y4) (aN.l1 (k + 1) y0 y1 y2 y3 y4))
 | 0 => ⟨fun _ _ r h => by simp [aN.j0] at h, fun _ _ r h => by simp [aN.l0] at h, fun _ _ _ _ _ r h => by simp [aN.l1] at h⟩
 | k + 1 => by
  obtain ⟨ih0, ih1, ih2⟩ := aN.bZ k
  refine ⟨?_, ?_, ?_⟩
  ·intro y0 y1
   unfold aN.j0
   have m0 := ak.mono
   have m1 := aG.mono
   have m2 := bz.mono
   have m3 := bi.mono
   have m4 := au.mono
   exact yL
  ·intro y0 y1
   unfold aN.l0
   have m0 := ak.mono
   have m1 := aG.mono
   have m2 := bz.mono
   have m3 := bi.mono
   have m4 := au.mono
   exact yL
  intro y0 y1 y2 y3 y4
  unfold aN.l1
  have m0 := ak.mono
  have m1 := aG.mono
  have m2 := bz.mono
  have m3 := bi.mono
  have m4 := au.mono
  exact yL
theorem aN.mono : ∀ a0 k, LeO (aN.f k a0) (aN.f (k + 1) a0) := by
 intro a0 k
 obtain ⟨ih0, ih1, ih2⟩ := aN.bZ k
 unfold aN.f
 have m0 := ak.mono
 have m1 := aG.mono
 have m2 := bz.mono
 have m3 := bi.mono
 have m4 := au.mono
 exact yL
set_option maxHeartbeats 8000000 in
set_option maxRecDepth 100000 in
theorem aN.calls (k : Nat) (A0 : Option Addr) (c0 : Nat) (l0 : List (S29)) (r1 : Int) (r2 : Int) (w : World) (hr0 : Kd.C k29 w A0 l0.length l0) (hc0 : l0.length ≤ c0) (h : aN.f k l0 = some (r1, r2)) :
 Calls Tryz.prog 18 #[.slice A0 l0.length c0] w fun e w' => e = .returned (.tuple #[.int .i64 r1, .int .i64 r2]) ∧ Below w.heap.size w w' := by
 have hu29 := Tryz.underlying29
 have HR0 := af.mk hr0
 have HC0 := af.mk hc0
 clear hr0 hc0
 have HB := af.mk (Below.refl w.heap.size w)
 have H := h
 clear h
 unfold aN.f at H
 revert H
 refine gU (fun c2 H => ?_) fun c2 H => ?_
 ·have c2b0 : decide (2000 < (l0.length : Int)) = true := decide_eq_true c2
  have c2b1 : decide (2000 < l0.length) = true := decide_eq_true (by omega)
  clear c2
  simp only [Option.some.injEq, Prod.mk.injEq] at H
  obtain ⟨rfl, rfl⟩ := H
  go_enter Tryz.func18, Tryz.ntmps18
  go_wp2
  go_ret2
  exact ⟨eT, bT HB⟩
 have c2b0 : decide (2000 < (l0.length : Int)) = false := decide_eq_false c2
 have c2b1 : decide (2000 < l0.length) = false := decide_eq_false (by omega)
 clear c2
 have HC3 := af.mk H
 clear H
 go_enter Tryz.func18, Tryz.ntmps18
 go_upto_region 3 with (fail)
 go_cut [20] (fun v20 wc => ∃ (kq : Nat) (x20_2 : Bool), v20 = .bool x20_2 ∧ af (aN.j0 kq l0 x20_2 = some (r1, r2)) ∧ af (kq ≤ k) ∧ af (Below w.heap.size w wc))
 case first =>
  have H := HC3.out
  clear HC3
  revert H
  refine yB1 fun t1246 A4 H => ?_
  revert H
  refine aU (fun c5b0 c5b1 H => ?_) fun c5 c5b0 c5b1 H => ?_
  ·(first | rw [c5b0] | (simp only [fP, gG]; rw [c5b0]) | skip)
   have H' := af.mk H
   clear H
   go_wp2_with (first | ((with_reducible refine gC 39 rfl ?_); refine gM 39 12 rfl Tryz.func39 (aG.calls k _ _ l0 0 t1246 _ Z3 HC0.out A4.out) ?_; rintro _ w' ⟨rfl, ⟨nd, rfl⟩⟩; refine ⟨_, rfl, ?_⟩))
   go_meet
   case rel => exact ⟨_, (((l0.length : Int) == 0)), fT, H', ⟨Z11⟩, ⟨bT HB⟩⟩
  (first | rw [c5b0] | (simp only [fP, gG]; rw [c5b0]) | skip)
  have H' := af.mk H
  clear H
  go_wp2_with (first | ((with_reducible refine gC 39 rfl ?_); refine gM 39 12 rfl Tryz.func39 (aG.calls k _ _ l0 0 t1246 _ Z3 HC0.out A4.out) ?_; rintro _ w' ⟨rfl, ⟨nd, rfl⟩⟩; refine ⟨_, rfl, ?_⟩))
  go_meet
  case rel => exact ⟨_, (true), fT, H', ⟨Z11⟩, ⟨bT HB⟩⟩
 case rest =>
  clear HC3
  try clear c1
  try clear c2
  try clear c2b0
  try clear c2b1
  try clear p2
  try clear c3
  try clear c5
  try clear c5b0
  try clear c5b1
  obtain ⟨kq, x20_2, rfl, HA, HJ2, HB⟩ := hcut
  cases kq with
  | zero => exact absurd HA.out (by simp [aN.j0])
  | succ kj2 =>
   have H := HA.out
   clear HA
   simp only [aN.j0] at H
   cases x20_2
   rotate_left
   ·replace H := yT H
    simp only [Option.some.injEq, Prod.mk.injEq] at H
    obtain ⟨rfl, rfl⟩ := H
    go_wp2
    go_ret2
    exact ⟨eT, bT HB⟩
   replace H := yF H
   revert H
   refine yB1 fun t1247 A7 H => ?_
   revert H
   refine gU (fun c8 H => ?_) fun c8 H => ?_
   ·have c8b0 : decide (60 < t1247) = true := decide_eq_true c8
    clear c8
    simp only [Option.some.injEq, Prod.mk.injEq] at H
    obtain ⟨rfl, rfl⟩ := H
    go_wp2_with (first | ((with_reducible refine gC 40 rfl ?_); refine gM 40 22 rfl Tryz.func40 (ak.calls kj2 _ _ l0 t1247 _ Z3 HC0.out A7.out) ?_; rintro _ w9 ⟨rfl, hb⟩; refine ⟨_, rfl, yA1 (aA (bT HB) hb) ?_⟩; clear HB hb; intro HB))
    go_ret2
    exact ⟨eT, bT HB⟩
   have c8b0 : decide (60 < t1247) = false := decide_eq_false c8
   clear c8
   revert H
   refine kP (fun c10 c10b0 H => ?_) fun c10 H => ?_
   ·have c10b1 : decide (0 < l0.length) = true := decide_eq_true (by omega)
    clear c10
    revert H
    refine aU (fun c11b0 c11b1 H => ?_) fun c11 c11b0 c11b1 H => ?_
    ·have H' := af.mk H
     clear H
     go_wp2_with (first | ((with_reducible refine gC 40 rfl ?_); refine gM 40 22 rfl Tryz.func40 (ak.calls kj2 _ _ l0 t1247 _ Z3 HC0.out A7.out) ?_; rintro _ w12 ⟨rfl, hb⟩; refine ⟨_, rfl, yA1 (aA (bT HB) hb) ?_⟩; clear HB hb; intro HB; have p1248 : 0 ≤ (0 : Int) := (by omega); have q1248 : 0 < (l0.length : Int) := of_decide_eq_true aT; obtain ⟨ad1248, e1248, hx1248_0, hx1248_1, hx1248_2, hx1248_3, hx1248_4⟩ := iO HR0.out 0 p1248 q1248; cases e1248; have qi1248 : (0 < l0.length) = True := eq_true (by omega); (try rw [show ((0 : Int)).toNat = 0 from rfl] at hx1248_0); (try rw [show 0 * 5 = 0 from rfl] at hx1248_0); (try rw [Addr.add_zero'] at hx1248_0); (try rw [show ((0 : Int)).toNat = 0 from rfl] at hx1248_1); (try rw [show 0 * 5 = 0 from rfl] at hx1248_1); (try rw [Addr.add_zero'] at hx1248_1); (try rw [show ((0 : Int)).toNat = 0 from rfl] at hx1248_2); (try rw [show 0 * 5 = 0 from rfl] at hx1248_2); (try rw [Addr.add_zero'] at hx1248_2); (try rw [show ((0 : Int)).toNat = 0 from rfl] at hx1248_3); (try rw [show 0 * 5 = 0 from rfl] at hx1248_3); (try rw [Addr.add_zero'] at hx1248_3); (try rw [show ((0 : Int)).toNat = 0 from rfl] at hx1248_4); (try rw [show 0 * 5 = 0 from rfl] at hx1248_4); (try rw [Addr.add_zero'] at hx1248_4); replace hx1248_0 := (HB.out.cell (World.block_lt_of_cell? w _ hx1248_0)).trans hx1248_0; replace hx1248_1 := (HB.out.cell (World.block_lt_of_cell? w _ hx1248_1)).trans hx1248_1; replace hx1248_2 := (HB.out.cell (World.block_lt_of_cell? w _ hx1248_2)).trans hx1248_2; replace hx1248_3 := (HB.out.cell (World.block_lt_of_cell? w _ hx1248_3)).trans hx1248_3; replace hx1248_4 := (HB.out.cell (World.block_lt_of_cell? w _ hx1248_4)).trans hx1248_4; replace p1248 := eq_true p1248; replace q1248 := eq_true q1248))
     go_loopg [4] kj2 (fun kq v4 w' => ∃ (x4_2 : Int), v4 = .int .i64 x4_2 ∧ af (aN.l0 kq l0 x4_2 = some (r1, r2)) ∧ af (kq ≤ kj2) ∧ af (Below w.heap.size w w'))
     case atStart => exact ⟨(0), fT, H', ⟨Nat.le_refl _⟩, ⟨bT HB⟩⟩
     case round =>
      clear H'
      try clear c1
      try clear p1
      try clear q1
      try clear hx1
      try clear qi1
      try clear c2
      try clear c2b0
      try clear c2b1
      try clear p2
      try clear c3
      try clear c4
      try clear c5
      try clear c5b0
      try clear c5b1
      try clear c6
      try clear c8
      try clear c8b0
      try clear c10
      try clear c10b0
      try clear c10b1
      try clear c11
      try clear c11b0
      try clear c11b1
      try clear p12
      try clear q12
      try clear hx12
      try clear qi12
      try clear hx1248_0
      try clear hx1248_1
      try clear hx1248_2
      try clear hx1248_3
      try clear hx1248_4
      try clear p1248
      try clear p2
      try clear q1248
      obtain ⟨x4_2, rfl, HA, HK2, HB⟩ := hrel
      cases gk with
      | zero => exact absurd HA.out (by simp [aN.l0])
      | succ k2 =>
       have H := HA.out
       clear HA
       simp only [aN.l0] at H
       revert H
       refine iR (fun c13b0 H => ?_) fun c13b0 H => ?_
       ·revert H
        refine yB1 fun t1249 A14 H => ?_
        have H' := af.mk H
        clear H
        go_wp2_with (first | ((with_reducible refine gC 41 rfl ?_); refine gM 41 37 rfl Tryz.func41 (bz.calls k2 _ _ l0 x4_2 t1249 _ Z3 HC0.out A14.out) ?_; rintro _ w15 ⟨v1250, rfl, ho0, hb⟩; refine ⟨_, rfl, yA2 (Kd.iw ho0 (bD (bT HB))) (aA (bT HB) hb) ?_⟩; clear HB hb ho0; intro HO1251 HB))
        go_loopg [6, 7] k2 (fun kq v6 v7 w' => ∃ (x6_3 : List Int) (x7_3 : Int), v7 = .int .i64 x7_3 ∧ af (aN.l1 kq l0 x4_2 t1249 x6_3 x7_3 = some (r1, r2)) ∧ af (kq ≤ k2) ∧ af (Kd.R (Kd.int .i64) 3 w' w.heap.size (fun k_ => some k_ ≠ (v6 : Value).ownBlock) v1250 t1249) ∧ af (Kd.R (Kd.int .i64) 3 w' w.heap.size (fun k_ => some k_ ≠ (v1250 : Value).ownBlock) v6 x6_3) ∧ af (Below w.heap.size w w'))
        case atStart => exact ⟨(([] : List Int)), (0), fT, H', ⟨Nat.le_refl _⟩, ⟨by (with_reducible repeat (first | apply Kd.iP | apply Kd.iI | apply Kd.jf)); exact Kd.jb HO1251.out (fun _ hk => (by simp [Value.ownBlock]))⟩, ⟨Z7⟩, ⟨bT HB⟩⟩
        case round =>
         clear H'
         try clear c1
         try clear p1
         try clear q1
         try clear hx1
         try clear qi1
         try clear c2
         try clear c2b0
         try clear c2b1
         try clear p2
         try clear c3
         try clear c4
         try clear c5
         try clear c5b0
         try clear c5b1
         try clear c6
         try clear c8
         try clear c8b0
         try clear c10
         try clear c10b0
         try clear c10b1
         try clear c11
         try clear c11b0
         try clear c11b1
         try clear p12
         try clear q12
         try clear hx12
         try clear qi12
         try clear c13
         try clear c13b0
         try clear hx1248_0
         try clear hx1248_1
         try clear hx1248_2
         try clear hx1248_3
         try clear hx1248_4
         try clear p1
         try clear p12
         try clear p1248
         try clear p2
         try clear q1
         try clear q12
         try clear q1248
         obtain ⟨x6_3, x7_3, rfl, HA, HK3, HO_5, HO_6, HB⟩ := hrel
         cases gk with
         | zero => exact absurd HA.out (by simp [aN.l1])
         | succ k3 =>
          have H := HA.out
          clear HA
          simp only [aN.l1] at H
          revert H
          refine iR (fun c16b0 H => ?_) fun c16b0 H => ?_
          ·revert H
           refine gB (fun c17b0 H => ?_) fun c17 H => ?_
           ·revert H
            refine gB (fun c18b0 H => ?_) fun c18 H => ?_
            ·revert H
             refine gB (fun c19b0 H => ?_) fun c19 H => ?_
             ·revert H
              refine gU (fun c20 H => ?_) fun c20 H => ?_
              ·have LMc20 := af.mk c20
               clear c20
               obtain ⟨y1254, hy1254⟩ : ∃ y_ : List Int, y_ = (x6_3 ++ [(ax l0 (rd t1249 x7_3)).f0]) := ⟨_, rfl⟩
               replace H : (aN.l1 k3 l0 x4_2 t1249 y1254 (wrap64 (x7_3 + 1))) = some (r1, r2) := by first | (rw [hy1254]; with_reducible exact H) | (have H2_ := (Option.bind_some _ _).symm.trans H; rw [hy1254]; with_reducible exact H2_) | (have H2_ := (Option.bind_some _ _).symm.trans H; with_reducible exact H2_) | with_reducible exact H | (rw [hy1254]; exact H) | exact H
               have Ny1254 := af.mk hy1254
               clear hy1254
               have H' := af.mk H
               clear H
               obtain ⟨Ao21, co21, eo21⟩ := Kd.fG HO_5.out
               subst eo21
               have p1252 : 0 ≤ (x7_3 : Int) := of_decide_eq_true aT
               have q1252 : x7_3 < (t1249.length : Int) := of_decide_eq_true aT
               obtain ⟨ad1252, e1252, hx1252_0⟩ := Kd.fO (Kd.dU HO_5.out).2.2 x7_3 p1252 q1252
               cases e1252
               replace p1252 := eq_true p1252
               replace q1252 := eq_true q1252
               have p1253 : 0 ≤ ((rd t1249 x7_3) : Int) := of_decide_eq_true aT
               have q1253 : (rd t1249 x7_3) < (l0.length : Int) := of_decide_eq_true aT
               obtain ⟨ad1253, e1253, hx1253_0, hx1253_1, hx1253_2, hx1253_3, hx1253_4⟩ := iO HR0.out (rd t1249 x7_3) p1253 q1253
               obtain rfl : ad1248 = ad1253 := (by injection e1253)
               replace hx1253_0 := (HB.out.cell (World.block_lt_of_cell? w _ hx1253_0)).trans hx1253_0
               replace hx1253_1 := (HB.out.cell (World.block_lt_of_cell? w _ hx1253_1)).trans hx1253_1
               replace hx1253_2 := (HB.out.cell (World.block_lt_of_cell? w _ hx1253_2)).trans hx1253_2
               replace hx1253_3 := (HB.out.cell (World.block_lt_of_cell? w _ hx1253_3)).trans hx1253_3
               replace hx1253_4 := (HB.out.cell (World.block_lt_of_cell? w _ hx1253_4)).trans hx1253_4
               replace p1253 := eq_true p1253
               replace q1253 := eq_true q1253
               go_wp2_with (first | ((with_reducible refine ed (b := .append) (xs := #[.tmp 44, .tmp 53]) rfl ?_); (try (refine pF (by rfl) ?_; dsimp only)); at_builtin; refine Kd.lZ (Kd.int .i64) (w0 := w) w.heap.size rfl (.tmp 44) (.tmp 53) 60 3 (.int .i64 0) 8 rfl Tryz.underlying60 info3 rfl (by decide) (by omega) u6 x6_3 ((ax l0 (rd t1249 x7_3)).f0) [.int .i64 ((ax l0 (rd t1249 x7_3)).f0)] (fun k_ => some k_ ≠ (.slice (some ad1252) t1249.length co21 : Value).ownBlock) (fun _ => False) rfl rfl ?aP (fun _ hk => hk.elim) ?aF ?aO ?aB ?aS ?aL ?_; (case aP => exact rfl); (case aB => exact (bT HB)); (case aF => exact (fun k_ hk => Kd.fresh' (Kd.zC (qR HO_5)) k_ hk)); (case aO => exact (qR HO_6)); (case aS => exact (bD (bT HB))); (case aL => have := LMc20.out; omega); intro v1255 w22 ho hb hg hat; rw [← Ny1254.out] at ho; refine yA3 (Kd.BN (ok := (fun _ => True)) (by (with_reducible repeat (first | apply Kd.iP | apply Kd.iI | apply Kd.jf)); exact Kd.jb HO_5.out (fun _ hk => ⟨trivial, hk⟩)) hg hat) (hb) (ho) ?_; clear HO_5 HB HO_6; intro HO_5 HB HO1256; clear ho hb hg hat))
               go_roundg k3
               case measure => have := HJ2.out; have := HK2.out; have := HK3.out; omega
               case rel => exact ⟨(y1254), (wrap64 (x7_3 + 1)), fT, H', ⟨by have := HJ2.out; have := HK2.out; have := HK3.out; omega⟩, ⟨by (with_reducible repeat (first | apply Kd.iP | apply Kd.iI | apply Kd.jf)); exact Kd.jb HO_5.out (fun _ hk => hk.2)⟩, ⟨qR HO1256⟩, ⟨bT HB⟩⟩
              exact absurd H (by simp)
             exact absurd H (by simp)
            exact absurd H (by simp)
           exact absurd H (by simp)
          revert H
          refine gB (fun c23b0 H => ?_) fun c23 H => ?_
          ·revert H
           refine gB (fun c24b0 H => ?_) fun c24 H => ?_
           ·revert H
            refine yB1 fun t1258 A25 H => ?_
            cases t1258
            rotate_left
            ·replace H := yT H
             revert H
             refine yB1 fun t1260 A27 H => ?_
             cases t1260
             rotate_left
             ·replace H := yT H
              have H' := af.mk H
              clear H
              obtain ⟨Ao29, co29, eo29⟩ := Kd.fG HO_5.out
              subst eo29
              have p1257 : 0 ≤ (x4_2 : Int) := of_decide_eq_true aT
              have q1257 : x4_2 < (l0.length : Int) := of_decide_eq_true aT
              obtain ⟨ad1257, e1257, hx1257_0, hx1257_1, hx1257_2, hx1257_3, hx1257_4⟩ := iO HR0.out x4_2 p1257 q1257
              obtain rfl : ad1248 = ad1257 := (by injection e1257)
              replace hx1257_0 := (HB.out.cell (World.block_lt_of_cell? w _ hx1257_0)).trans hx1257_0
              replace hx1257_1 := (HB.out.cell (World.block_lt_of_cell? w _ hx1257_1)).trans hx1257_1
              replace hx1257_2 := (HB.out.cell (World.block_lt_of_cell? w _ hx1257_2)).trans hx1257_2
              replace hx1257_3 := (HB.out.cell (World.block_lt_of_cell? w _ hx1257_3)).trans hx1257_3
              replace hx1257_4 := (HB.out.cell (World.block_lt_of_cell? w _ hx1257_4)).trans hx1257_4
              replace p1257 := eq_true p1257
              replace q1257 := eq_true q1257
              go_wp2_with (first | ((with_reducible refine gC 42 rfl ?_); refine gM 42 59 rfl Tryz.func42 (bi.calls k3 ((ax l0 x4_2).f0) ((ax l0 x4_2).f1) ((ax l0 x4_2).f2) ((ax l0 x4_2).f3) ((ax l0 x4_2).f4) true _ A25.out) ?_; rintro _ w30 ⟨rfl, hb⟩; refine ⟨_, rfl, yA3 (Kd.gW (qR HO_5) hb) (Kd.gW (qR HO_6) hb) (aA (bT HB) hb) ?_⟩; clear HO_5 HO_6 HB hb; intro HO_5 HO_6 HB; have p1259 : 0 ≤ (x4_2 : Int) := of_decide_eq_true aT; have q1259 : x4_2 < (l0.length : Int) := of_decide_eq_true aT; obtain ⟨ad1259, e1259, hx1259_0, hx1259_1, hx1259_2, hx1259_3, hx1259_4⟩ := iO HR0.out x4_2 p1259 q1259; obtain rfl : ad1248 = ad1259 := (by injection e1259); replace hx1259_0 := (HB.out.cell (World.block_lt_of_cell? w _ hx1259_0)).trans hx1259_0; replace hx1259_1 := (HB.out.cell (World.block_lt_of_cell? w _ hx1259_1)).trans hx1259_1; replace hx1259_2 := (HB.out.cell (World.block_lt_of_cell? w _ hx1259_2)).trans hx1259_2; replace hx1259_3 := (HB.out.cell (World.block_lt_of_cell? w _ hx1259_3)).trans hx1259_3; replace hx1259_4 := (HB.out.cell (World.block_lt_of_cell? w _ hx1259_4)).trans hx1259_4; replace p1259 := eq_true p1259; replace q1259 := eq_true q1259; obtain ⟨Ao31, co31, rfl⟩ := Kd.fG HO_6.out) | (go_at_call 43; (with_reducible refine (au.calls k3 ((ax l0 x4_2).f0) _ _ x6_3 true _ ?side1 ?side2 A27.out).mono ?_); (case side1 => exact Z23); (case side2 => exact (Kd.dU HO_6.out).2.1); rintro e w' ⟨rfl, ⟨nd, rfl⟩⟩))
              go_roundg k3
              case measure => have := HJ2.out; have := HK2.out; have := HK3.out; omega
              case rel => exact ⟨(wrap64 (x4_2 + 1)), fT, H', ⟨by have := HJ2.out; have := HK2.out; have := HK3.out; omega⟩, ⟨bT HB⟩⟩
             replace H := yF H
             simp only [Option.some.injEq, Prod.mk.injEq] at H
             obtain ⟨rfl, rfl⟩ := H
             obtain ⟨Ao32, co32, eo32⟩ := Kd.fG HO_5.out
             subst eo32
             have p1257 : 0 ≤ (x4_2 : Int) := of_decide_eq_true aT
             have q1257 : x4_2 < (l0.length : Int) := of_decide_eq_true aT
             obtain ⟨ad1257, e1257, hx1257_0, hx1257_1, hx1257_2, hx1257_3, hx1257_4⟩ := iO HR0.out x4_2 p1257 q1257
             obtain rfl : ad1248 = ad1257 := (by injection e1257)
             replace hx1257_0 := (HB.out.cell (World.block_lt_of_cell? w _ hx1257_0)).trans hx1257_0
             replace hx1257_1 := (HB.out.cell (World.block_lt_of_cell? w _ hx1257_1)).trans hx1257_1
             replace hx1257_2 := (HB.out.cell (World.block_lt_of_cell? w _ hx1257_2)).trans hx1257_2
             replace hx1257_3 := (HB.out.cell (World.block_lt_of_cell? w _ hx1257_3)).trans hx1257_3
             replace hx1257_4 := (HB.out.cell (World.block_lt_of_cell? w _ hx1257_4)).trans hx1257_4
             replace p1257 := eq_true p1257
             replace q1257 := eq_true q1257
             go_wp2_with (first | ((with_reducible refine gC 42 rfl ?_); refine gM 42 59 rfl Tryz.func42 (bi.calls k3 ((ax l0 x4_2).f0) ((ax l0 x4_2).f1) ((ax l0 x4_2).f2) ((ax l0 x4_2).f3) ((ax l0 x4_2).f4) true _ A25.out) ?_; rintro _ w33 ⟨rfl, hb⟩; refine ⟨_, rfl, yA3 (Kd.gW (qR HO_5) hb) (Kd.gW (qR HO_6) hb) (aA (bT HB) hb) ?_⟩; clear HO_5 HO_6 HB hb; intro HO_5 HO_6 HB; have p1259 : 0 ≤ (x4_2 : Int) := of_decide_eq_true aT; have q1259 : x4_2 < (l0.length : Int) := of_decide_eq_true aT; obtain ⟨ad1259, e1259, hx1259_0, hx1259_1, hx1259_2, hx1259_3, hx1259_4⟩ := iO HR0.out x4_2 p1259 q1259; obtain rfl : ad1248 = ad1259 := (by injection e1259); replace hx1259_0 := (HB.out.cell (World.block_lt_of_cell? w _ hx1259_0)).trans hx1259_0; replace hx1259_1 := (HB.out.cell (World.block_lt_of_cell? w _ hx1259_1)).trans hx1259_1; replace hx1259_2 := (HB.out.cell (World.block_lt_of_cell? w _ hx1259_2)).trans hx1259_2; replace hx1259_3 := (HB.out.cell (World.block_lt_of_cell? w _ hx1259_3)).trans hx1259_3; replace hx1259_4 := (HB.out.cell (World.block_lt_of_cell? w _ hx1259_4)).trans hx1259_4; replace p1259 := eq_true p1259; replace q1259 := eq_true q1259; obtain ⟨Ao34, co34, rfl⟩ := Kd.fG HO_6.out) | (go_at_call 43; (with_reducible refine (au.calls k3 ((ax l0 x4_2).f0) _ _ x6_3 false _ ?side1 ?side2 A27.out).mono ?_); (case side1 => exact Z23); (case side2 => exact (Kd.dU HO_6.out).2.1); rintro e w' ⟨rfl, ⟨nd, rfl⟩⟩))
             go_ret2
             exact ⟨eT, bT HB⟩
            replace H := yF H
            simp only [Option.some.injEq, Prod.mk.injEq] at H
            obtain ⟨rfl, rfl⟩ := H
            obtain ⟨Ao35, co35, eo35⟩ := Kd.fG HO_5.out
            subst eo35
            have p1257 : 0 ≤ (x4_2 : Int) := of_decide_eq_true aT
            have q1257 : x4_2 < (l0.length : Int) := of_decide_eq_true aT
            obtain ⟨ad1257, e1257, hx1257_0, hx1257_1, hx1257_2, hx1257_3, hx1257_4⟩ := iO HR0.out x4_2 p1257 q1257
            obtain rfl : ad1248 = ad1257 := (by injection e1257)
            replace hx1257_0 := (HB.out.cell (World.block_lt_of_cell? w _ hx1257_0)).trans hx1257_0
            replace hx1257_1 := (HB.out.cell (World.block_lt_of_cell? w _ hx1257_1)).trans hx1257_1
            replace hx1257_2 := (HB.out.cell (World.block_lt_of_cell? w _ hx1257_2)).trans hx1257_2
            replace hx1257_3 := (HB.out.cell (World.block_lt_of_cell? w _ hx1257_3)).trans hx1257_3
            replace hx1257_4 := (HB.out.cell (World.block_lt_of_cell? w _ hx1257_4)).trans hx1257_4
            replace p1257 := eq_true p1257
            replace q1257 := eq_true q1257
            go_wp2_with (first | ((with_reducible refine gC 42 rfl ?_); refine gM 42 59 rfl Tryz.func42 (bi.calls k3 ((ax l0 x4_2).f0) ((ax l0 x4_2).f1) ((ax l0 x4_2).f2) ((ax l0 x4_2).f3) ((ax l0 x4_2).f4) false _ A25.out) ?_; rintro _ w36 ⟨rfl, hb⟩; refine ⟨_, rfl, yA3 (Kd.gW (qR HO_5) hb) (Kd.gW (qR HO_6) hb) (aA (bT HB) hb) ?_⟩; clear HO_5 HO_6 HB hb; intro HO_5 HO_6 HB))
            go_ret2
            exact ⟨eT, bT HB⟩
           exact absurd H (by simp)
          exact absurd H (by simp)
       simp only [Option.some.injEq, Prod.mk.injEq] at H
       obtain ⟨rfl, rfl⟩ := H
       go_wp2
       go_ret2
       exact ⟨eT, bT HB⟩
    simp only [Option.some.injEq, Prod.mk.injEq] at H
    obtain ⟨rfl, rfl⟩ := H
    go_wp2_with (first | ((with_reducible refine gC 40 rfl ?_); refine gM 40 22 rfl Tryz.func40 (ak.calls kj2 _ _ l0 t1247 _ Z3 HC0.out A7.out) ?_; rintro _ w37 ⟨rfl, hb⟩; refine ⟨_, rfl, yA1 (aA (bT HB) hb) ?_⟩; clear HB hb; intro HB; have p1248 : 0 ≤ (0 : Int) := (by omega); have q1248 : 0 < (l0.length : Int) := of_decide_eq_true aT; obtain ⟨ad1248, e1248, hx1248_0, hx1248_1, hx1248_2, hx1248_3, hx1248_4⟩ := iO HR0.out 0 p1248 q1248; cases e1248; have qi1248 : (0 < l0.length) = True := eq_true (by omega); (try rw [show ((0 : Int)).toNat = 0 from rfl] at hx1248_0); (try rw [show 0 * 5 = 0 from rfl] at hx1248_0); (try rw [Addr.add_zero'] at hx1248_0); (try rw [show ((0 : Int)).toNat = 0 from rfl] at hx1248_1); (try rw [show 0 * 5 = 0 from rfl] at hx1248_1); (try rw [Addr.add_zero'] at hx1248_1); (try rw [show ((0 : Int)).toNat = 0 from rfl] at hx1248_2); (try rw [show 0 * 5 = 0 from rfl] at hx1248_2); (try rw [Addr.add_zero'] at hx1248_2); (try rw [show ((0 : Int)).toNat = 0 from rfl] at hx1248_3); (try rw [show 0 * 5 = 0 from rfl] at hx1248_3); (try rw [Addr.add_zero'] at hx1248_3); (try rw [show ((0 : Int)).toNat = 0 from rfl] at hx1248_4); (try rw [show 0 * 5 = 0 from rfl] at hx1248_4); (try rw [Addr.add_zero'] at hx1248_4); replace hx1248_0 := (HB.out.cell (World.block_lt_of_cell? w _ hx1248_0)).trans hx1248_0; replace hx1248_1 := (HB.out.cell (World.block_lt_of_cell? w _ hx1248_1)).trans hx1248_1; replace hx1248_2 := (HB.out.cell (World.block_lt_of_cell? w _ hx1248_2)).trans hx1248_2; replace hx1248_3 := (HB.out.cell (World.block_lt_of_cell? w _ hx1248_3)).trans hx1248_3; replace hx1248_4 := (HB.out.cell (World.block_lt_of_cell? w _ hx1248_4)).trans hx1248_4; replace p1248 := eq_true p1248; replace q1248 := eq_true q1248))
    go_ret2
    exact ⟨eT, bT HB⟩
   exact absurd H (by simp)
end Go.Proofs.YtkbhkonenkgfoaaGreat.Q
end
section
set_option linter.unusedVariables false
set_option linter.unusedSimpArgs false
namespace Go.Proofs.YtkbhkonenkgfoaaGreat.Q
open Go Go.RowKit Go.Proofs.YtkbhkonenkgfoaaGreatW.PrintWords Go.Proofs.YtkbhkonenkgfoaaGreatW.PrintLast Go.Proofs.YtkbhkonenkgfoaaGreatW.PrintMore
def mi : Nat → iC
 | 0 => ⟨fun _ _ _ => none, fun _ _ _ => none, fun _ _ _ _ => none, fun _ _ _ => none⟩
 | k + 1 => ⟨fun a b c => eF.f (mi k) k a b c, fun a b c => bu.f (mi k) k a b c, fun a b c d => aI.f (mi k) k a b c d, fun a b c => ay.f (mi k) k a b c⟩
theorem rU : ∀ k, nT (mi k)
 | 0 => ⟨fun _ _ _ _ _ _ _ _ _ _ _ h => (by simp [mi] at h), fun _ _ _ _ _ _ _ _ _ _ _ h => (by simp [mi] at h), fun _ _ _ _ _ _ _ _ _ _ _ _ h => (by simp [mi] at h), fun _ _ _ _ _ _ _ _ _ _ _ h => (by simp [mi] at h)⟩
 | k + 1 => ⟨fun g s0 s1 s2 r q b w0 w hI hB h => Jr (mi k) (rU k) k g s0 s1 s2 r q b w0 w hI hB h,
  fun g s0 s1 s2 r q b w0 w hI hB h => EL (mi k) (rU k) k g s0 s1 s2 r q b w0 w hI hB h,
  fun g s0 s1 s2 a r q b w0 w hI hB h => Jy (mi k) (rU k) k g s0 s1 s2 a r q b w0 w hI hB h,
  fun g s0 s1 s2 r q b w0 w hI hB h => Dv (mi k) (rU k) k g s0 s1 s2 r q b w0 w hI hB h⟩
theorem rV : ∀ k, jT (mi k) (mi (k + 1))
 | 0 => ⟨fun _ _ _ => LeO.none _, fun _ _ _ => LeO.none _, fun _ _ _ _ => LeO.none _, fun _ _ _ => LeO.none _⟩
 | k + 1 => ⟨fun a b c => eF.mono (rV k) a b c k, fun a b c => bu.mono (rV k) a b c k, fun a b c d => aI.mono (rV k) a b c d k, fun a b c => ay.mono (rV k) a b c k⟩
def qW (l : List S37) (q : Int) : Option Int :=
 if q < (l.length : Int) then (if 0 ≤ q then some (dY l q).f3 else none) else if 0 < (l.length : Int) then (if (l.length : Int) ≤ 9223372036854775807 then some (wrap64 ((dY l ((l.length : Int) - 1)).f3 + 1)) else none) else some 0
def jP.f (k : Nat) (l0 : List S37) : Option (List S29 × Int × Int) :=
 (aJ.f (mi k) k l0 0 false).bind fun t => if t.2.2 = true then ((qW l0 t.2.1).bind fun p => some (([] : List S29), 10, p))
  else if t.2.1 < (l0.length : Int) then ((qW l0 t.2.1).bind fun p => some (([] : List S29), 10, p))
  else (aN.f k t.1).bind fun c => if c.1 = 0 then some (t.1, 0, 0) else some (([] : List S29), c.1, 0)
theorem jP.mono (a0 : List S37) (k : Nat) : LeO (jP.f k a0) (jP.f (k + 1) a0) := by
 unfold jP.f
 repeat' first
 | exact aJ.mono (rV k) _ _ _ k
 | exact aN.mono _ k
 | exact LeO.refl _
 | exact LeO.none _
 | refine LeO.ite ?_ ?_
 | refine LeO.bind ?_ (fun _ => ?_)
set_option maxHeartbeats 8000000 in
set_option maxRecDepth 100000 in
theorem jP.calls (k : Nat) (A0 : Option Addr) (c0 : Nat) (l0 : List S37) (r1 : List S29) (r2 : Int) (r3 : Int) (w : World) (hr0 : Kd.C k37 w A0 l0.length l0) (hc0 : l0.length ≤ c0) (h : jP.f k l0 = some (r1, r2, r3)) :
 Calls Tryz.prog 11 #[.slice A0 l0.length c0] w fun e w' => ∃ v0_ : Value, e = .returned (.tuple #[v0_, .int .i64 r2, .int .i64 r3]) ∧ Kd.R k29 29 w' w.heap.size (fun _ => True) v0_ r1 ∧ Below w.heap.size w w' := by
 have HR := af.mk hr0
 unfold jP.f at h
 have H := af.mk h
 clear h hr0 hc0
 have hu47 := Tryz.underlying47
 go_enter Tryz.func11, Tryz.ntmps11
 go_upto_region 3 with (first
  | ((with_reducible refine bH (N := 12) rfl ?_); refine fA ?hg (N := 12) ?hd (cs := #[.slice A0 l0.length c0, .int .i64 0, .bool false]) (t := 47) ?hr ?_; (case hd => rfl); (case hg => rfl); (case hr => first | (go_simp; done) | (go_simp; rfl)); intro g hg w1 hbox hb; have HS := St.new (T := 47) (w0 := w) (w := w1) (g := g) (f0 := l0) (f1 := 0) (f2 := false) (by decide) ⟨A0, c0, hbox, by rw [hg]; exact Nat.le_refl _, HR.out⟩ hb; clear hbox hb hg)
  | ((with_reducible refine gC 17 rfl ?_); refine sL 17 rfl Tryz.func17 (stT HS) H (fun t q b hI hB => Gm (mi k) (rU k) k g _ _ _ t q b w _ hI hB) ?_; clear HS H; intro t q b w' A c HS H; (try dsimp only at H)))
 (try simp only [Act.put, List.setIfInBounds_toArray, List.set_cons_zero, List.set_cons_succ])
 have hc1 := HS.rd.cell1
 have hc2 := HS.rd.cell2
 by_cases cb : b = true ∨ q < (l0.length : Int)
 ·replace H : ((qW l0 q).bind fun p => some (([] : List S29), (10 : Int), p)) = some (r1, r2, r3) := by
   have h := H.out
   by_cases c : b = true
   ·rwa [if_pos c] at h
   rwa [if_neg c, if_pos (cb.resolve_left c)] at h
  have hb : b = true ∨ (b = false ∧ decide (q < (l0.length : Int)) = true) := by
   cases b
   ·exact .inr ⟨rfl, decide_eq_true (cb.resolve_left (by simp))⟩
   exact .inl rfl
  clear cb
  rcases hb with rfl | ⟨rfl, cq⟩
  rotate_left
  ·have c1 := of_decide_eq_true cq
   unfold qW at H
   have c1b : decide (q < (l0.length : Int)) = true := decide_eq_true c1
   rw [if_pos c1] at H
   by_cases c2 : 0 ≤ q
   rotate_left
   ·rw [if_neg c2] at H
    exact absurd H (by simp)
   rw [if_pos c2] at H
   obtain ⟨ad, rfl, hx0, hx1, hx2, hx3⟩ := jS HR.out q c2 c1
   replace hx3 := bG HS.below hx3
   have p3 := eq_true c2
   have q3 := eq_true c1
   clear hx0 hx1 hx2 c1 c2
   have H' := af.mk H
   clear H
   go_wp2
   have h_ := (Option.bind_some _ _).symm.trans H'.out
   simp only [Option.bind_some, Option.some.injEq, Prod.mk.injEq] at h_
   obtain ⟨rfl, rfl, rfl⟩ := h_
   go_ret3
   exact ⟨_, rfl, Kd.nR _ _ _ _ _, HS.below⟩
  unfold qW at H
  by_cases c1 : q < (l0.length : Int)
  ·have c1b : decide (q < (l0.length : Int)) = true := decide_eq_true c1
   rw [if_pos c1] at H
   by_cases c2 : 0 ≤ q
   rotate_left
   ·rw [if_neg c2] at H
    exact absurd H (by simp)
   rw [if_pos c2] at H
   obtain ⟨ad, rfl, hx0, hx1, hx2, hx3⟩ := jS HR.out q c2 c1
   replace hx3 := bG HS.below hx3
   have p3 := eq_true c2
   have q3 := eq_true c1
   clear hx0 hx1 hx2 c1 c2
   have H' := af.mk H
   clear H
   go_wp2
   have h_ := (Option.bind_some _ _).symm.trans H'.out
   simp only [Option.bind_some, Option.some.injEq, Prod.mk.injEq] at h_
   obtain ⟨rfl, rfl, rfl⟩ := h_
   go_ret3
   exact ⟨_, rfl, Kd.nR _ _ _ _ _, HS.below⟩
  rw [if_neg c1] at H
  have c1b : decide (q < (l0.length : Int)) = false := decide_eq_false c1
  by_cases c3 : 0 < (l0.length : Int)
  ·rw [if_pos c3] at H
   by_cases c4 : (l0.length : Int) ≤ 9223372036854775807
   rotate_left
   ·rw [if_neg c4] at H
    exact absurd H (by simp)
   rw [if_pos c4] at H
   obtain ⟨ad, rfl, hx0, hx1, hx2, hx3⟩ := jS HR.out ((l0.length : Int) - 1) (by omega) (by omega)
   replace hx3 := bG HS.below hx3
   have c3b : decide (0 < (l0.length : Int)) = true := decide_eq_true c3
   have c3c : decide (0 < l0.length) = true := decide_eq_true (by omega)
   have p3 := eq_true (show 0 ≤ (l0.length : Int) - 1 by omega)
   have p4 := eq_true (show 1 ≤ (l0.length : Int) by omega)
   have q3 := eq_true (show (l0.length : Int) - 1 < (l0.length : Int) by omega)
   have e0 : IntKind.i64.wrap ((l0.length : Int) - 1) = (l0.length : Int) - 1 := by rw [fP]; unfold wrap64; omega
   have hx3n := hx3
   rw [show ((l0.length : Int) - 1).toNat = l0.length - 1 by omega] at hx3n
   clear hx0 hx1 hx2 c1 c3 c4
   have H' := af.mk H
   clear H
   go_wp2
   have h_ := (Option.bind_some _ _).symm.trans H'.out
   simp only [Option.bind_some, Option.some.injEq, Prod.mk.injEq] at h_
   obtain ⟨rfl, rfl, rfl⟩ := h_
   go_ret3
   exact ⟨_, rfl, Kd.nR _ _ _ _ _, HS.below⟩
  rw [if_neg c3] at H
  have c3b : decide (0 < (l0.length : Int)) = false := decide_eq_false c3
  have c3c : decide (0 < l0.length) = false := decide_eq_false (by omega)
  clear c1 c3
  have H' := af.mk H
  clear H
  go_wp2
  have h_ := (Option.bind_some _ _).symm.trans H'.out
  simp only [Option.bind_some, Option.some.injEq, Prod.mk.injEq] at h_
  obtain ⟨rfl, rfl, rfl⟩ := h_
  go_ret3
  exact ⟨_, rfl, Kd.nR _ _ _ _ _, HS.below⟩
 have c1 : b = false := by cases b <;> simp_all
 have c2 : ¬ q < (l0.length : Int) := fun h => cb (.inr h)
 subst c1
 replace H := hE c2 (hE (by decide) H)
 have c2b : decide (q < (l0.length : Int)) = false := decide_eq_false c2
 clear cb c2
 obtain ⟨⟨p1, p2⟩, hp, h⟩ := Option.bind_eq_some_iff.mp H.out
 have AP := af.mk hp
 clear hp H
 dsimp only at h
 have HO := HS.o _ (.head _)
 have HC := af.mk (Kd.dU HO).2.2
 have HL := af.mk (Kd.dU HO).2.1
 have HO0 := af.mk HO
 clear HO
 by_cases c3 : p1 = 0
 all_goals
  first | (rw [if_pos c3] at h; have c3b : (p1 != 0) = false := bne_eq_false_iff_eq.mpr c3; have c3c : (p1 == 0) = true := beq_iff_eq.mpr c3) | (rw [if_neg c3] at h; have c3b : (p1 != 0) = true := bne_iff_ne.mpr c3; have c3c : (p1 == 0) = false := beq_eq_false_iff_ne.mpr c3)
  clear c3
  have H' := af.mk h
  clear h
  go_wp2_with ((with_reducible refine gC 18 rfl ?_); refine gM 18 57 rfl Tryz.func18 (aN.calls k _ _ t p1 p2 _ HC.out HL.out AP.out) ?_; rintro _ w3 ⟨rfl, hb⟩; refine ⟨_, rfl, ?_⟩; have HB3 := af.mk (aA HS.below hb); have HO3 := af.mk (Kd.gW HO0.out hb); clear hb)
  have h_ := H'.out
  simp only [Option.some.injEq, Prod.mk.injEq] at h_
  obtain ⟨rfl, rfl, rfl⟩ := h_
  go_ret3
  first | exact ⟨_, rfl, Kd.iw HO3.out HS.z, HB3.out⟩ | exact ⟨_, rfl, Kd.nR _ _ _ _ _, HB3.out⟩
end Go.Proofs.YtkbhkonenkgfoaaGreat.Q
end
