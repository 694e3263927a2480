/- Walks over functions of the program, words for them, and what the functions come to; of each text only what this claim uses; no condition. -/
import Derived.Test.YtkbhkonenkgfoaaGreatZPX0
import Derived.Test.YtkbhkonenkgfoaaGreatZPX1
import Derived.Test.YtkbhkonenkgfoaaGreatZPX3
import Derived.Test.YtkbhkonenkgfoaaGreatZPX8
import Derived.Test.YtkbhkonenkgfoaaGreatZPX9
import Derived.Test.YtkbhkonenkgfoaaGreatZPX11
import Derived.Test.YtkbhkonenkgfoaaGreatZPX12
section
set_option linter.unusedVariables false
set_option linter.unusedSimpArgs false
namespace Go.Proofs.YtkbhkonenkgfoaaGreat.Q
open Go Go.RowKit Go.Proofs.YtkbhkonenkgfoaaGreatW.PrintWords Go.Proofs.YtkbhkonenkgfoaaGreatW.PrintLast Go.Proofs.YtkbhkonenkgfoaaGreatW.PrintMore
def mY : Nat → iI
 | 0 => ⟨fun _ _ _ => none, fun _ _ _ => none, fun _ _ _ _ => none, fun _ _ _ => none⟩
 | k + 1 => ⟨fun a b c => eX.f (mY k) k a b c, fun a b c => bD.f (mY k) k a b c, fun a b c d => aK.f (mY k) k a b c d, fun a b c => az.f (mY k) k a b c⟩
theorem ul : ∀ k, oI (mY k)
 | 0 => ⟨fun _ _ _ _ _ _ _ _ _ _ _ h => (by simp [mY] at h), fun _ _ _ _ _ _ _ _ _ _ _ h => (by simp [mY] at h), fun _ _ _ _ _ _ _ _ _ _ _ _ h => (by simp [mY] at h), fun _ _ _ _ _ _ _ _ _ _ _ h => (by simp [mY] at h)⟩
 | k + 1 => ⟨fun g s0 s1 s2 r q b w0 w hI hB h => LK (mY k) (ul k) k g s0 s1 s2 r q b w0 w hI hB h,
  fun g s0 s1 s2 r q b w0 w hI hB h => GL (mY k) (ul k) k g s0 s1 s2 r q b w0 w hI hB h,
  fun g s0 s1 s2 a r q b w0 w hI hB h => LW (mY k) (ul k) k g s0 s1 s2 a r q b w0 w hI hB h,
  fun g s0 s1 s2 r q b w0 w hI hB h => EQ (mY k) (ul k) k g s0 s1 s2 r q b w0 w hI hB h⟩
theorem um : ∀ k, kw (mY k) (mY (k + 1))
 | 0 => ⟨fun _ _ _ => LeO.none _, fun _ _ _ => LeO.none _, fun _ _ _ _ => LeO.none _, fun _ _ _ => LeO.none _⟩
 | k + 1 => ⟨fun a b c => eX.mono (um k) a b c k, fun a b c => bD.mono (um k) a b c k, fun a b c d => aK.mono (um k) a b c d k, fun a b c => az.mono (um k) a b c k⟩
def rY (l : List S37) (q : Int) : Option Int :=
 if q < (l.length : Int) then (if 0 ≤ q then some (fF l q).f3 else none) else if 0 < (l.length : Int) then (if (l.length : Int) ≤ 9223372036854775807 then some (wrap64 ((fF l ((l.length : Int) - 1)).f3 + 1)) else none) else some 0
def l7.f (k : Nat) (l0 : List S37) : Option (List S29 × Int × Int) :=
 (aN.f (mY k) k l0 0 false).bind fun t => if t.2.2 = true then ((rY l0 t.2.1).bind fun p => some (([] : List S29), 10, p))
  else if t.2.1 < (l0.length : Int) then ((rY l0 t.2.1).bind fun p => some (([] : List S29), 10, p))
  else (aU.f k t.1).bind fun c => if c.1 = 0 then some (t.1, 0, 0) else some (([] : List S29), c.1, 0)
theorem l7.mono (a0 : List S37) (k : Nat) : LeO (l7.f k a0) (l7.f (k + 1) a0) := by
 unfold l7.f
 repeat' first
 | exact aN.mono (um k) _ _ _ k
 | exact aU.mono _ k
 | exact LeO.refl _
 | exact LeO.none _
 | refine LeO.ite ?_ ?_
 | refine LeO.bind ?_ (fun _ => ?_)
set_option maxHeartbeats 8000000 in
set_option maxRecDepth 100000 in
theorem l7.calls (k : Nat) (A0 : Option Addr) (c0 : Nat) (l0 : List S37) (r1 : List S29) (r2 : Int) (r3 : Int) (w : World) (hr0 : Kd.C k37 w A0 l0.length l0) (hc0 : l0.length ≤ c0) (h : l7.f k l0 = some (r1, r2, r3)) :
 Calls Tryz.prog 11 #[.slice A0 l0.length c0] w fun e w' => ∃ v0_ : Value, e = .returned (.tuple #[v0_, .int .i64 r2, .int .i64 r3]) ∧ Kd.R k29 29 w' w.heap.size (fun _ => True) v0_ r1 ∧ Below w.heap.size w w' := by
 have HR := ae.mk hr0
 unfold l7.f at h
 have H := ae.mk h
 clear h hr0 hc0
 have hu47 := Tryz.underlying47
 go_enter Tryz.func11, Tryz.ntmps11
 go_upto_region 3 with (first
  | ((with_reducible refine bH (N := 12) rfl ?_); refine gp ?hg (N := 12) ?hd (cs := #[.slice A0 l0.length c0, .int .i64 0, .bool false]) (t := 47) ?hr ?_; (case hd => rfl); (case hg => rfl); (case hr => first | (go_simp; done) | (go_simp; rfl)); intro g hg w1 hbox hb; have HS := St.new (T := 47) (w0 := w) (w := w1) (g := g) (f0 := l0) (f1 := 0) (f2 := false) (by decide) ⟨A0, c0, hbox, by rw [hg]; exact Nat.le_refl _, HR.out⟩ hb; clear hbox hb hg)
  | ((with_reducible refine gC 17 rfl ?_); refine sL 17 rfl Tryz.func17 (stT HS) H (fun t q b hI hB => IQ (mY k) (ul k) k g _ _ _ t q b w _ hI hB) ?_; clear HS H; intro t q b w' A c HS H; (try dsimp only at H)))
 (try simp only [Act.put, List.setIfInBounds_toArray, List.set_cons_zero, List.set_cons_succ])
 have hc1 := HS.rd.cell1
 have hc2 := HS.rd.cell2
 by_cases cb : b = true ∨ q < (l0.length : Int)
 ·replace H : ((rY l0 q).bind fun p => some (([] : List S29), (10 : Int), p)) = some (r1, r2, r3) := by
   have h := H.out
   by_cases c : b = true
   ·rwa [if_pos c] at h
   rwa [if_neg c, if_pos (cb.resolve_left c)] at h
  have hb : b = true ∨ (b = false ∧ decide (q < (l0.length : Int)) = true) := by
   cases b
   ·exact .inr ⟨rfl, decide_eq_true (cb.resolve_left (by simp))⟩
   exact .inl rfl
  clear cb
  rcases hb with rfl | ⟨rfl, cq⟩
  rotate_left
  ·have c1 := of_decide_eq_true cq
   unfold rY at H
   have c1b : decide (q < (l0.length : Int)) = true := decide_eq_true c1
   rw [if_pos c1] at H
   by_cases c2 : 0 ≤ q
   rotate_left
   ·rw [if_neg c2] at H
    exact absurd H (by simp)
   rw [if_pos c2] at H
   obtain ⟨ad, rfl, hx0, hx1, hx2, hx3⟩ := lM HR.out q c2 c1
   replace hx3 := bI HS.below hx3
   have p3 := eq_true c2
   have q3 := eq_true c1
   clear hx0 hx1 hx2 c1 c2
   have H' := ae.mk H
   clear H
   go_wp2
   have h_ := (Option.bind_some _ _).symm.trans H'.out
   simp only [Option.bind_some, Option.some.injEq, Prod.mk.injEq] at h_
   obtain ⟨rfl, rfl, rfl⟩ := h_
   go_ret3
   exact ⟨_, rfl, Kd.oG _ _ _ _ _, HS.below⟩
  unfold rY at H
  by_cases c1 : q < (l0.length : Int)
  ·have c1b : decide (q < (l0.length : Int)) = true := decide_eq_true c1
   rw [if_pos c1] at H
   by_cases c2 : 0 ≤ q
   rotate_left
   ·rw [if_neg c2] at H
    exact absurd H (by simp)
   rw [if_pos c2] at H
   obtain ⟨ad, rfl, hx0, hx1, hx2, hx3⟩ := lM HR.out q c2 c1
   replace hx3 := bI HS.below hx3
   have p3 := eq_true c2
   have q3 := eq_true c1
   clear hx0 hx1 hx2 c1 c2
   have H' := ae.mk H
   clear H
   go_wp2
   have h_ := (Option.bind_some _ _).symm.trans H'.out
   simp only [Option.bind_some, Option.some.injEq, Prod.mk.injEq] at h_
   obtain ⟨rfl, rfl, rfl⟩ := h_
   go_ret3
   exact ⟨_, rfl, Kd.oG _ _ _ _ _, HS.below⟩
  rw [if_neg c1] at H
  have c1b : decide (q < (l0.length : Int)) = false := decide_eq_false c1
  by_cases c3 : 0 < (l0.length : Int)
  ·rw [if_pos c3] at H
   by_cases c4 : (l0.length : Int) ≤ 9223372036854775807
   rotate_left
   ·rw [if_neg c4] at H
    exact absurd H (by simp)
   rw [if_pos c4] at H
   obtain ⟨ad, rfl, hx0, hx1, hx2, hx3⟩ := lM HR.out ((l0.length : Int) - 1) (by omega) (by omega)
   replace hx3 := bI HS.below hx3
   have c3b : decide (0 < (l0.length : Int)) = true := decide_eq_true c3
   have c3c : decide (0 < l0.length) = true := decide_eq_true (by omega)
   have p3 := eq_true (show 0 ≤ (l0.length : Int) - 1 by omega)
   have p4 := eq_true (show 1 ≤ (l0.length : Int) by omega)
   have q3 := eq_true (show (l0.length : Int) - 1 < (l0.length : Int) by omega)
   have e0 : IntKind.i64.wrap ((l0.length : Int) - 1) = (l0.length : Int) - 1 := by rw [gX]; unfold wrap64; omega
   have hx3n := hx3
   rw [show ((l0.length : Int) - 1).toNat = l0.length - 1 by omega] at hx3n
   clear hx0 hx1 hx2 c1 c3 c4
   have H' := ae.mk H
   clear H
   go_wp2
   have h_ := (Option.bind_some _ _).symm.trans H'.out
   simp only [Option.bind_some, Option.some.injEq, Prod.mk.injEq] at h_
   obtain ⟨rfl, rfl, rfl⟩ := h_
   go_ret3
   exact ⟨_, rfl, Kd.oG _ _ _ _ _, HS.below⟩
  rw [if_neg c3] at H
  have c3b : decide (0 < (l0.length : Int)) = false := decide_eq_false c3
  have c3c : decide (0 < l0.length) = false := decide_eq_false (by omega)
  clear c1 c3
  have H' := ae.mk H
  clear H
  go_wp2
  have h_ := (Option.bind_some _ _).symm.trans H'.out
  simp only [Option.bind_some, Option.some.injEq, Prod.mk.injEq] at h_
  obtain ⟨rfl, rfl, rfl⟩ := h_
  go_ret3
  exact ⟨_, rfl, Kd.oG _ _ _ _ _, HS.below⟩
 have c1 : b = false := by cases b <;> simp_all
 have c2 : ¬ q < (l0.length : Int) := fun h => cb (.inr h)
 subst c1
 replace H := hE c2 (hE (by decide) H)
 have c2b : decide (q < (l0.length : Int)) = false := decide_eq_false c2
 clear cb c2
 obtain ⟨⟨p1, p2⟩, hp, h⟩ := Option.bind_eq_some_iff.mp H.out
 have AP := ae.mk hp
 clear hp H
 dsimp only at h
 have HO := HS.o _ (.head _)
 have HC := ae.mk (Kd.dL HO).2.2
 have HL := ae.mk (Kd.dL HO).2.1
 have HO0 := ae.mk HO
 clear HO
 by_cases c3 : p1 = 0
 all_goals
  first | (rw [if_pos c3] at h; have c3b : (p1 != 0) = false := bne_eq_false_iff_eq.mpr c3; have c3c : (p1 == 0) = true := beq_iff_eq.mpr c3) | (rw [if_neg c3] at h; have c3b : (p1 != 0) = true := bne_iff_ne.mpr c3; have c3c : (p1 == 0) = false := beq_eq_false_iff_ne.mpr c3)
  clear c3
  have H' := ae.mk h
  clear h
  go_wp2_with ((with_reducible refine gC 18 rfl ?_); refine gM 18 57 rfl Tryz.func18 (aU.calls k _ _ t p1 p2 _ HC.out HL.out AP.out) ?_; rintro _ w3 ⟨rfl, hb⟩; refine ⟨_, rfl, ?_⟩; have HB3 := ae.mk (aY HS.below hb); have HO3 := ae.mk (Kd.gK HO0.out hb); clear hb)
  have h_ := H'.out
  simp only [Option.some.injEq, Prod.mk.injEq] at h_
  obtain ⟨rfl, rfl, rfl⟩ := h_
  go_ret3
  first | exact ⟨_, rfl, Kd.ig HO3.out HS.z, HB3.out⟩ | exact ⟨_, rfl, Kd.oG _ _ _ _ _, HB3.out⟩
end Go.Proofs.YtkbhkonenkgfoaaGreat.Q
end
section
namespace Go.Proofs.YtkbhkonenkgfoaaGreat.Q
open Go.RowKit Go.Proofs.YtkbhkonenkgfoaaGreatW.PrintWords Go.Proofs.YtkbhkonenkgfoaaGreatW.PrintLast Go.Proofs.YtkbhkonenkgfoaaGreatW.PrintMore
attribute [local go_sem] dJ dH dW dV dh df dI dG
set_option linter.unusedVariables false
set_option linter.unusedSimpArgs false
/-! ### gY: function 55 -/
def gY.f (a0 : Int) : Option (Bool) := if a0 = 32 then (some true) else (if a0 = 9 then (some true) else (if a0 = 10 then (some true) else (some (a0 == 13))))
set_option maxHeartbeats 8000000 in
set_option maxRecDepth 100000 in
theorem gY.calls (a0 : Int) (r : Bool) (w : World) (h : gY.f a0 = some r) :
 Calls Tryz.prog 55 #[.int .u8 a0] w fun e w' => e = .returned (.bool r) ∧ eF w w' := by
 have H := h
 clear h
 unfold gY.f at H
 revert H
 refine cZ (fun c2b0 c2b1 H => ?_) fun c2 c2b0 c2b1 H => ?_
 ·obtain rfl := Option.some.inj H
  go_enter Tryz.func55, Tryz.ntmps55
  go_wp2
  go_ret
  exact ⟨fT, Z0⟩
 revert H
 refine cZ (fun c3b0 c3b1 H => ?_) fun c3 c3b0 c3b1 H => ?_
 ·obtain rfl := Option.some.inj H
  go_enter Tryz.func55, Tryz.ntmps55
  go_wp2
  go_ret
  exact ⟨fT, Z0⟩
 revert H
 refine cZ (fun c4b0 c4b1 H => ?_) fun c4 c4b0 c4b1 H => ?_
 ·obtain rfl := Option.some.inj H
  go_enter Tryz.func55, Tryz.ntmps55
  go_wp2
  go_ret
  exact ⟨fT, Z0⟩
 obtain rfl := Option.some.inj H
 go_enter Tryz.func55, Tryz.ntmps55
 go_wp2
 go_ret
 exact ⟨fT, Z0⟩
end Go.Proofs.YtkbhkonenkgfoaaGreat.Q
end
section
namespace Go.Proofs.YtkbhkonenkgfoaaGreat.Q
open Go.RowKit Go.Proofs.YtkbhkonenkgfoaaGreatW.PrintWords Go.Proofs.YtkbhkonenkgfoaaGreatW.PrintLast Go.Proofs.YtkbhkonenkgfoaaGreatW.PrintMore
attribute [local go_sem] dJ dH dW dV dh df dI dG
set_option linter.unusedVariables false
set_option linter.unusedSimpArgs false
/-! ### aG: function 21 -/
mutual
def aG.l0 : Nat → ByteArray → Int → Option (Int)
 | 0, _, _ => none
 | k + 1, x0, x1 => if x1 < (x0.size : Int) then (if 0 ≤ x1 then ((gY.f (bt x0 x1)).bind fun t1423 => (if t1423 = true then (aG.j1 k x0 x1 true) else (aG.j1 k x0 x1 ((bt x0 x1) == 35)))) else (none)) else (aG.j1 k x0 x1 false)
def aG.j1 : Nat → ByteArray → Int → Bool → Option (Int)
 | 0, _, _, _ => none
 | k + 1, x0, x1, x20 => if x20 = true then (if 0 ≤ x1 then (if x1 < (x0.size : Int) then (if (bt x0 x1) = 35 then (aG.l1 k x0 x1) else (aG.l0 k x0 (wrap64 (x1 + 1)))) else (none)) else (none)) else (some x1)
def aG.l1 : Nat → ByteArray → Int → Option (Int)
 | 0, _, _ => none
 | k + 1, x0, x1 => if x1 < (x0.size : Int) then (if 0 ≤ x1 then (if (bt x0 x1) = 10 then (aG.l0 k x0 x1) else (aG.l1 k x0 (wrap64 (x1 + 1)))) else (none)) else (aG.l0 k x0 x1)
end
def aG.f (k : Nat) (a0 : ByteArray) (a1 : Int) : Option (Int) := aG.l0 k a0 a1
theorem aG.bP : ∀ k, (∀ y0 y1, LeO (aG.l0 k y0 y1) (aG.l0 (k + 1) y0 y1)) ∧ (∀ y0 y1 y2, LeO (aG.j1 k y0 y1 y2) (aG.j1 (k + 1) y0 y1 y2)) ∧ (∀ y0 y1, LeO (aG.l1 k y0 y1) (aG.l1 (k + 1) y0 y1))
 | 0 => ⟨fun _ _ r h => by simp [aG.l0] at h, fun _ _ _ r h => by simp [aG.j1] at h, fun _ _ r h => by simp [aG.l1] at h⟩
 | k + 1 => by
  obtain ⟨ih0, ih1, ih2⟩ := aG.bP k
  refine ⟨?_, ?_, ?_⟩
  ·intro y0 y1
   unfold aG.l0
   exact yL
  ·intro y0 y1 y2
   unfold aG.j1
   exact yL
  intro y0 y1
  unfold aG.l1
  exact yL
theorem aG.mono : ∀ a0 a1 k, LeO (aG.f k a0 a1) (aG.f (k + 1) a0 a1) := by
 intro a0 a1 k
 obtain ⟨ih0, ih1, ih2⟩ := aG.bP k
 unfold aG.f
 exact yL
set_option maxHeartbeats 8000000 in
set_option maxRecDepth 100000 in
theorem aG.calls (k : Nat) (a0 : ByteArray) (a1 : Int) (r : Int) (w : World) (h : aG.f k a0 a1 = some r) :
 Calls Tryz.prog 21 #[.string a0, .int .i64 a1] w fun e w' => e = .returned (.int .i64 r) ∧ eF w w' := by
 have H := h
 clear h
 unfold aG.f at H
 have H' := ae.mk H
 clear H
 go_enter Tryz.func21, Tryz.ntmps21
 go_wp2
 go_loopg [1] k (fun kq v1 w' => ∃ (x1_1 : Int), v1 = .int .i64 x1_1 ∧ ae (aG.l0 kq a0 x1_1 = some r) ∧ ae (kq ≤ k) ∧ eF w w')
 case atStart => exact ⟨(a1), fT, H', ⟨Nat.le_refl _⟩, Z0⟩
 case round =>
  clear H'
  try clear c2
  try clear p2
  obtain ⟨x1_1, rfl, HA, HK1, ⟨m1, rfl⟩⟩ := hrel
  cases gk with
  | zero => exact absurd HA.out (by simp [aG.l0])
  | succ k1 =>
   have H := HA.out
   clear HA
   simp only [aG.l0] at H
   have HC3 := ae.mk H
   clear H
   go_upto_region 1 with (fail)
   go_cut [20] (fun v20 wc => ∃ (kq : Nat) (x20_2 : Bool), v20 = .bool x20_2 ∧ ae (aG.j1 kq a0 x1_1 x20_2 = some r) ∧ ae (kq ≤ k1) ∧ eF w wc)
   case first =>
    have H := HC3.out
    clear HC3
    revert H
    refine iQ (fun c4b0 H => ?_) fun c4b0 H => ?_
    ·(first | rw [c4b0] | (simp only [gX, iP]; rw [c4b0]) | skip)
     revert H
     refine gJ (fun c5b0 H => ?_) fun c5 H => ?_
     ·revert H
      refine yB1 fun t1423 A7 H => ?_
      cases t1423
      rotate_left
      ·replace H := yT H
       have H' := ae.mk H
       clear H
       have p6 : 0 ≤ (x1_1 : Int) := of_decide_eq_true aT
       have q6 : x1_1 < (a0.size : Int) := of_decide_eq_true aT
       have hx6 := iE a0 x1_1
       replace p6 := eq_true p6
       replace q6 := eq_true q6
       go_wp2_with (first | (go_at_call 55; (with_reducible refine (gY.calls (bt a0 x1_1) true _ A7.out).mono ?_); rintro e w' ⟨rfl, ⟨nd, rfl⟩⟩))
       go_meet
       case rel => exact ⟨_, (true), fT, H', ⟨by have := HK1.out; first | omega | exact Nat.le_refl _⟩, Z0⟩
      replace H := yF H
      have H' := ae.mk H
      clear H
      have p6 : 0 ≤ (x1_1 : Int) := of_decide_eq_true aT
      have q6 : x1_1 < (a0.size : Int) := of_decide_eq_true aT
      have hx6 := iE a0 x1_1
      replace p6 := eq_true p6
      replace q6 := eq_true q6
      go_wp2_with (first | (go_at_call 55; (with_reducible refine (gY.calls (bt a0 x1_1) false _ A7.out).mono ?_); rintro e w' ⟨rfl, ⟨nd, rfl⟩⟩; have p9 : 0 ≤ (x1_1 : Int) := of_decide_eq_true aT; have q9 : x1_1 < (a0.size : Int) := of_decide_eq_true aT; have hx9 := iE a0 x1_1; replace p9 := eq_true p9; replace q9 := eq_true q9))
      go_meet
      case rel => exact ⟨_, (((bt a0 x1_1) == 35)), fT, H', ⟨by have := HK1.out; first | omega | exact Nat.le_refl _⟩, Z0⟩
     exact absurd H (by simp)
    (first | rw [c4b0] | (simp only [gX, iP]; rw [c4b0]) | skip)
    have H' := ae.mk H
    clear H
    go_wp2
    go_meet
    case rel => exact ⟨_, (false), fT, H', ⟨by have := HK1.out; first | omega | exact Nat.le_refl _⟩, Z0⟩
   case rest =>
    clear HC3
    try clear c2
    try clear p2
    try clear c4
    try clear c4b0
    try clear c5
    try clear c5b0
    try clear p6
    try clear q6
    try clear hx6
    try clear c8
    try clear p9
    try clear q9
    try clear hx9
    try clear p2
    try clear p6
    try clear p9
    try clear q6
    try clear q9
    obtain ⟨kq, x20_2, rfl, HA, HJ2, ⟨mc2, rfl⟩⟩ := hcut
    cases kq with
    | zero => exact absurd HA.out (by simp [aG.j1])
    | succ kj2 =>
     have H := HA.out
     clear HA
     simp only [aG.j1] at H
     cases x20_2
     rotate_left
     ·replace H := yT H
      revert H
      refine gJ (fun c11b0 H => ?_) fun c11 H => ?_
      ·revert H
       refine gJ (fun c12b0 H => ?_) fun c12 H => ?_
       ·revert H
        refine cZ (fun c14b0 c14b1 H => ?_) fun c14 c14b0 c14b1 H => ?_
        ·have H' := ae.mk H
         clear H
         have p13 : 0 ≤ (x1_1 : Int) := of_decide_eq_true aT
         have q13 : x1_1 < (a0.size : Int) := of_decide_eq_true aT
         have hx13 := iE a0 x1_1
         replace p13 := eq_true p13
         replace q13 := eq_true q13
         go_wp2
         go_loopg [1] kj2 (fun kq v1 w' => ∃ (x1_3 : Int), v1 = .int .i64 x1_3 ∧ ae (aG.l1 kq a0 x1_3 = some r) ∧ ae (kq ≤ kj2) ∧ eF w w')
         case atStart => exact ⟨(x1_1), fT, H', ⟨Nat.le_refl _⟩, Z0⟩
         case round =>
          clear H'
          try clear c1
          try clear p1
          try clear q1
          try clear hx1
          try clear c2
          try clear p2
          try clear c4
          try clear c4b0
          try clear c5
          try clear c5b0
          try clear p6
          try clear q6
          try clear hx6
          try clear c8
          try clear p9
          try clear q9
          try clear hx9
          try clear c10
          try clear c11
          try clear c11b0
          try clear c12
          try clear c12b0
          try clear p13
          try clear q13
          try clear hx13
          try clear c14
          try clear c14b0
          try clear c14b1
          try clear p13
          try clear p2
          try clear p6
          try clear p9
          try clear q13
          try clear q6
          try clear q9
          obtain ⟨x1_3, rfl, HA, HK3, ⟨m3, rfl⟩⟩ := hrel
          cases gk with
          | zero => exact absurd HA.out (by simp [aG.l1])
          | succ k3 =>
           have H := HA.out
           clear HA
           simp only [aG.l1] at H
           revert H
           refine iQ (fun c15b0 H => ?_) fun c15b0 H => ?_
           ·revert H
            refine gJ (fun c16b0 H => ?_) fun c16 H => ?_
            ·revert H
             refine cZ (fun c18b0 c18b1 H => ?_) fun c18 c18b0 c18b1 H => ?_
             ·have H' := ae.mk H
              clear H
              have p17 : 0 ≤ (x1_3 : Int) := of_decide_eq_true aT
              have q17 : x1_3 < (a0.size : Int) := of_decide_eq_true aT
              have hx17 := iE a0 x1_3
              replace p17 := eq_true p17
              replace q17 := eq_true q17
              go_wp2
              go_roundg k3
              case measure => have := HK1.out; have := HJ2.out; have := HK3.out; omega
              case rel => exact ⟨(x1_3), fT, H', ⟨by have := HK1.out; have := HJ2.out; have := HK3.out; omega⟩, Z0⟩
             have H' := ae.mk H
             clear H
             have p17 : 0 ≤ (x1_3 : Int) := of_decide_eq_true aT
             have q17 : x1_3 < (a0.size : Int) := of_decide_eq_true aT
             have hx17 := iE a0 x1_3
             replace p17 := eq_true p17
             replace q17 := eq_true q17
             go_wp2
             go_roundg k3
             case measure => have := HK1.out; have := HJ2.out; have := HK3.out; omega
             case rel => exact ⟨(wrap64 (x1_3 + 1)), fT, H', ⟨by have := HK1.out; have := HJ2.out; have := HK3.out; omega⟩, Z0⟩
            exact absurd H (by simp)
           have H' := ae.mk H
           clear H
           go_wp2
           go_roundg k3
           case measure => have := HK1.out; have := HJ2.out; have := HK3.out; omega
           case rel => exact ⟨(x1_3), fT, H', ⟨by have := HK1.out; have := HJ2.out; have := HK3.out; omega⟩, Z0⟩
        have H' := ae.mk H
        clear H
        have p13 : 0 ≤ (x1_1 : Int) := of_decide_eq_true aT
        have q13 : x1_1 < (a0.size : Int) := of_decide_eq_true aT
        have hx13 := iE a0 x1_1
        replace p13 := eq_true p13
        replace q13 := eq_true q13
        go_wp2
        go_roundg kj2
        case measure => have := HK1.out; have := HJ2.out; omega
        case rel => exact ⟨(wrap64 (x1_1 + 1)), fT, H', ⟨by have := HK1.out; have := HJ2.out; omega⟩, Z0⟩
       exact absurd H (by simp)
      exact absurd H (by simp)
     replace H := yF H
     obtain rfl := Option.some.inj H
     go_wp2
     go_ret
     exact ⟨fT, Z0⟩
end Go.Proofs.YtkbhkonenkgfoaaGreat.Q
end
section
namespace Go.Proofs.YtkbhkonenkgfoaaGreat.Q
open Go.RowKit Go.Proofs.YtkbhkonenkgfoaaGreatW.PrintWords Go.Proofs.YtkbhkonenkgfoaaGreatW.PrintLast Go.Proofs.YtkbhkonenkgfoaaGreatW.PrintMore
attribute [local go_sem] dJ dH dW dV dh df dI dG
set_option linter.unusedVariables false
set_option linter.unusedSimpArgs false
/-! ### dm: function 13 -/
def dm.l0 : Nat → ByteArray → List (S37) → Int → Option ((List (S37)) × Int × Int)
 | 0, _, _, _ => none
 | k + 1, x0, x5, x6 => if x6 < (x0.size : Int) then ((dn.f k x0 x6).bind fun bt1458 => (if bt1458.2.2.2.2.2 = 0 then (if x5.length < 3518437208883 then ((aG.f k x0 (wrap64 (x6 + bt1458.2.2.2.2.1))).bind fun t1468 => (dm.l0 k x0 (x5 ++ [(⟨bt1458.1, bt1458.2.1, bt1458.2.2.1, bt1458.2.2.2.1⟩ : S37)]) t1468)) else (none)) else (some (([] : List (S37)), bt1458.2.2.2.2.2, x6)))) else (some (x5, 0, 0))
def dm.f (k : Nat) (a0 : ByteArray) : Option ((List (S37)) × Int × Int) := if (a0.size : Int) > 8192 then (some (([] : List (S37)), 3, 0)) else ((aG.f k a0 0).bind fun t1457 => (dm.l0 k a0 ([] : List (S37)) t1457))
theorem dm.bP : ∀ k, (∀ y0 y1 y2, LeO (dm.l0 k y0 y1 y2) (dm.l0 (k + 1) y0 y1 y2))
 | 0 => fun _ _ _ r h => by simp [dm.l0] at h
 | k + 1 => by
  have ih0 := dm.bP k
  intro y0 y1 y2
  unfold dm.l0
  have m0 := dn.mono
  have m1 := aG.mono
  exact yL
theorem dm.mono : ∀ a0 k, LeO (dm.f k a0) (dm.f (k + 1) a0) := by
 intro a0 k
 have ih0 := dm.bP k
 unfold dm.f
 have m0 := dn.mono
 have m1 := aG.mono
 exact yL
set_option maxHeartbeats 8000000 in
set_option maxRecDepth 100000 in
theorem dm.calls (k : Nat) (a0 : ByteArray) (r1 : List (S37)) (r2 : Int) (r3 : Int) (w : World) (h : dm.f k a0 = some (r1, r2, r3)) :
 Calls Tryz.prog 13 #[.string a0] w fun e w' => ∃ v0_ : Value, e = .returned (.tuple #[v0_, .int .i64 r2, .int .i64 r3]) ∧ Kd.R k37 37 w' w.heap.size (fun _ => True) v0_ r1 ∧ Below w.heap.size w w' := by
 have hu37 := Tryz.underlying37
 have HB := ae.mk (Below.refl w.heap.size w)
 have H := h
 clear h
 unfold dm.f at H
 revert H
 refine iC (fun c2 H => ?_) fun c2 H => ?_
 ·have c2b0 : decide (8192 < (a0.size : Int)) = true := decide_eq_true c2
  have c2b1 : decide (8192 < a0.size) = true := decide_eq_true (by omega)
  clear c2
  simp only [Option.some.injEq, Prod.mk.injEq] at H
  obtain ⟨rfl, rfl, rfl⟩ := H
  go_enter Tryz.func13, Tryz.ntmps13
  go_wp2
  go_ret3
  exact ⟨_, eT, Z4, bT HB⟩
 have c2b0 : decide (8192 < (a0.size : Int)) = false := decide_eq_false c2
 have c2b1 : decide (8192 < a0.size) = false := decide_eq_false (by omega)
 clear c2
 revert H
 refine yB1 fun t1457 A3 H => ?_
 have H' := ae.mk H
 clear H
 go_enter Tryz.func13, Tryz.ntmps13
 go_wp2_with (first | ((with_reducible refine gC 21 rfl ?_); refine gM 21 14 rfl Tryz.func21 (aG.calls k a0 0 t1457 _ A3.out) ?_; rintro _ w' ⟨rfl, ⟨nd, rfl⟩⟩; refine ⟨_, rfl, ?_⟩))
 go_loopg [5, 6] k (fun kq v5 v6 w' => ∃ (x5_1 : List (S37)) (x6_1 : Int), v6 = .int .i64 x6_1 ∧ ae (dm.l0 kq a0 x5_1 x6_1 = some (r1, r2, r3)) ∧ ae (kq ≤ k) ∧ ae (Kd.R k37 37 w' w.heap.size (fun _ => True) v5 x5_1) ∧ ae (Below w.heap.size w w'))
 case atStart => exact ⟨(([] : List (S37))), (t1457), fT, H', ⟨Nat.le_refl _⟩, ⟨Z4⟩, ⟨bT HB⟩⟩
 case round =>
  clear H'
  try clear c1
  try clear c2
  try clear c2b0
  try clear c2b1
  try clear p2
  obtain ⟨x5_1, x6_1, rfl, HA, HK1, HO_5, HB⟩ := hrel
  cases gk with
  | zero => exact absurd HA.out (by simp [dm.l0])
  | succ k1 =>
   have H := HA.out
   clear HA
   simp only [dm.l0] at H
   revert H
   refine iQ (fun c4b0 H => ?_) fun c4b0 H => ?_
   ·revert H
    refine yB6 fun t1458 t1459 t1460 t1461 t1462 t1463 A5 H => ?_
    try dsimp only at H
    revert H
    refine cZ (fun c6b0 c6b1 H => ?_) fun c6 c6b0 c6b1 H => ?_
    ·revert H
     refine iC (fun c7 H => ?_) fun c7 H => ?_
     ·have LMc7 := ae.mk c7
      clear c7
      obtain ⟨y1465, hy1465⟩ : ∃ y_ : List (S37), y_ = (x5_1 ++ [(⟨t1458, t1459, t1460, t1461⟩ : S37)]) := ⟨_, rfl⟩
      replace H : ((aG.f k1 a0 (wrap64 (x6_1 + t1462))).bind fun t1468 => (dm.l0 k1 a0 y1465 t1468)) = some (r1, r2, r3) := by first | (rw [hy1465]; with_reducible exact H) | (have H2_ := (Option.bind_some _ _).symm.trans H; rw [hy1465]; with_reducible exact H2_) | (have H2_ := (Option.bind_some _ _).symm.trans H; with_reducible exact H2_) | with_reducible exact H | (rw [hy1465]; exact H) | exact H
      have Ny1465 := ae.mk hy1465
      clear hy1465
      revert H
      refine yB1 fun t1468 A8 H => ?_
      have H' := ae.mk H
      clear H
      go_wp2_with (first | ((with_reducible refine gC 22 rfl ?_); refine gM 22 22 rfl Tryz.func22 (dn.calls k1 a0 x6_1 t1458 t1459 t1460 t1461 t1462 t1463 _ A5.out) ?_; rintro _ w9 ⟨rfl, hb⟩; refine ⟨_, rfl, yA2 (Kd.gK (qR HO_5) hb) (aY (bT HB) hb) ?_⟩; clear HO_5 HB hb; intro HO_5 HB) | ((with_reducible refine bH (N := 7) rfl ?_); refine gp ?hg (N := 7) ?hd (cs := #[.int .i64 0, .string (⟨#[]⟩ : ByteArray), .int .i64 0, .int .i64 0]) (t := 37) ?hr ?_; (case hd => rfl); (case hg => rfl); (case hr => first | (go_simp; done) | (go_simp; rfl)); intro gb1464 hg w10 hbox hb; refine yA5 (Kd.gK (Kd.uA (qR HO_5) gb1464 (Nat.le_of_eq hg.symm)) hb) (aY (bT HB) hb) (hbox) ((by rw [hg]; exact (bY (bT HB)) : w.heap.size ≤ gb1464)) ((by rw [hg]; exact (bY (bT HB)) : w.heap.size ≤ gb1464)) ?_; clear HO_5 HB; intro HO_5 HB BK1464 GW1464 GE1464; clear hb hbox hg; have hcz11_0 : w10.cell? ⟨gb1464, 0, none⟩ = some (.int .i64 0) := (aj BK1464.out 0).trans rfl; have hcz11_1 : w10.cell? ⟨gb1464, 1, none⟩ = some (.string (⟨#[]⟩ : ByteArray)) := (aj BK1464.out 1).trans rfl; have hcz11_2 : w10.cell? ⟨gb1464, 2, none⟩ = some (.int .i64 0) := (aj BK1464.out 2).trans rfl; have hcz11_3 : w10.cell? ⟨gb1464, 3, none⟩ = some (.int .i64 0) := (aj BK1464.out 3).trans rfl; have hfz11_0 := ag BK1464.out 0; have hfz11_1 := ag BK1464.out 1; have hfz11_2 := ag BK1464.out 2; have hfz11_3 := ag BK1464.out 3) | ((with_reducible refine eu (b := .append) (xs := #[.tmp 30, .tmp 32]) rfl ?_); at_builtin; refine Kd.jW k37 (w0 := w) w.heap.size rfl (.tmp 30) (.tmp 32) 31 37 (.agg #[(.int .i64 0), (.string ⟨#[]⟩), (.int .i64 0), (.int .i64 0)]) 40 rfl Tryz.underlying31 Gy rfl (by decide) (by omega) u5 x5_1 (⟨t1458, t1459, t1460, t1461⟩ : S37) [.int .i64 t1458, .string t1459, .int .i64 t1460, .int .i64 t1461] (fun k_ => k_ ≠ gb1464) (fun _ => False) rfl (by first | (go_simp; done) | (go_simp; rfl)) ?aP (fun _ hk => hk.elim) ?aF ?aO ?aB ?aS ?aL ?_; (case aP => exact D6 _ _ _ (⟨t1458, t1459, t1460, t1461⟩ : S37)); (case aB => exact (bT HB)); (case aF => exact (fun k_ hk => Kd.uK (g := gb1464) (o := .cells #[.int .i64 t1458, .string t1459, .int .i64 t1460, .int .i64 t1461] 37 (0, 0)) (by refine eQ (cs := #[.int .i64 t1458, .string t1459, .int .i64 t1460, .int .i64 0]) ?_ 3 _ rfl; refine eQ (cs := #[.int .i64 t1458, .string t1459, .int .i64 0, .int .i64 0]) ?_ 2 _ rfl; refine eQ (cs := #[.int .i64 t1458, .string (⟨#[]⟩ : ByteArray), .int .i64 0, .int .i64 0]) ?_ 1 _ rfl; refine eQ (cs := #[.int .i64 0, .string (⟨#[]⟩ : ByteArray), .int .i64 0, .int .i64 0]) ?_ 0 _ rfl; exact BK1464.out) k_ hk)); (case aO => exact (by (with_reducible repeat (first | apply Kd.iw | apply Kd.ik | apply Kd.jb)); exact Kd.iO (Kd.oQ (p := ⟨gb1464, 3, none⟩) (Kd.oQ (p := ⟨gb1464, 2, none⟩) (Kd.oQ (p := ⟨gb1464, 1, none⟩) (Kd.oQ (p := ⟨gb1464, 0, none⟩) (Kd.iO HO_5.out (fun k_ hk => (⟨hk, hk.2⟩ : _ ∧ k_ ≠ gb1464))) (fun _ hk => hk.2) (.int .i64 t1458)) (fun _ hk => hk.2) (.string t1459)) (fun _ hk => hk.2) (.int .i64 t1460)) (fun _ hk => hk.2) (.int .i64 t1461)) (fun _ hk => hk.1.2))); (case aS => exact (bY (bT HB))); (case aL => have := LMc7.out; omega); intro v1466 w12 ho hb hg hat; rw [← Ny1465.out] at ho; refine yA3 (kN (g := gb1464) (o := .cells #[.int .i64 t1458, .string t1459, .int .i64 t1460, .int .i64 t1461] 37 (0, 0)) (by refine eQ (cs := #[.int .i64 t1458, .string t1459, .int .i64 t1460, .int .i64 0]) ?_ 3 _ rfl; refine eQ (cs := #[.int .i64 t1458, .string t1459, .int .i64 0, .int .i64 0]) ?_ 2 _ rfl; refine eQ (cs := #[.int .i64 t1458, .string (⟨#[]⟩ : ByteArray), .int .i64 0, .int .i64 0]) ?_ 1 _ rfl; refine eQ (cs := #[.int .i64 0, .string (⟨#[]⟩ : ByteArray), .int .i64 0, .int .i64 0]) ?_ 0 _ rfl; exact BK1464.out) hg (Kd.zH HO_5.out (fun _ hk => hk.2))) (hb) (ho) ?_; clear BK1464 HB HO_5; intro BK1464 HB HO1467; clear ho hb hg hat) | ((with_reducible refine gC 21 rfl ?_); refine gM 21 38 rfl Tryz.func21 (aG.calls k1 a0 (wrap64 (x6_1 + t1462)) t1468 _ A8.out) ?_; rintro _ w' ⟨rfl, ⟨nd, rfl⟩⟩; refine ⟨_, rfl, ?_⟩))
      go_roundg k1
      case measure => have := HK1.out; omega
      case rel => exact ⟨(y1465), (t1468), fT, H', ⟨by have := HK1.out; omega⟩, ⟨by (with_reducible repeat (first | apply Kd.iw | apply Kd.ik | apply Kd.jb)); exact Kd.iO HO1467.out (fun _ hk => trivial)⟩, ⟨bT HB⟩⟩
     exact absurd H (by simp)
    simp only [Option.some.injEq, Prod.mk.injEq] at H
    obtain ⟨rfl, rfl, rfl⟩ := H
    go_wp2_with (first | ((with_reducible refine gC 22 rfl ?_); refine gM 22 22 rfl Tryz.func22 (dn.calls k1 a0 x6_1 t1458 t1459 t1460 t1461 t1462 t1463 _ A5.out) ?_; rintro _ w13 ⟨rfl, hb⟩; refine ⟨_, rfl, yA2 (Kd.gK (qR HO_5) hb) (aY (bT HB) hb) ?_⟩; clear HO_5 HB hb; intro HO_5 HB) | ((with_reducible refine bH (N := 7) rfl ?_); refine gp ?hg (N := 7) ?hd (cs := #[.int .i64 0, .string (⟨#[]⟩ : ByteArray), .int .i64 0, .int .i64 0]) (t := 37) ?hr ?_; (case hd => rfl); (case hg => rfl); (case hr => first | (go_simp; done) | (go_simp; rfl)); intro gb1464 hg w14 hbox hb; refine yA5 (Kd.gK (Kd.uA (qR HO_5) gb1464 (Nat.le_of_eq hg.symm)) hb) (aY (bT HB) hb) (hbox) ((by rw [hg]; exact (bY (bT HB)) : w.heap.size ≤ gb1464)) ((by rw [hg]; exact (bY (bT HB)) : w.heap.size ≤ gb1464)) ?_; clear HO_5 HB; intro HO_5 HB BK1464 GW1464 GE1464; clear hb hbox hg; have hcz15_0 : w14.cell? ⟨gb1464, 0, none⟩ = some (.int .i64 0) := (aj BK1464.out 0).trans rfl; have hcz15_1 : w14.cell? ⟨gb1464, 1, none⟩ = some (.string (⟨#[]⟩ : ByteArray)) := (aj BK1464.out 1).trans rfl; have hcz15_2 : w14.cell? ⟨gb1464, 2, none⟩ = some (.int .i64 0) := (aj BK1464.out 2).trans rfl; have hcz15_3 : w14.cell? ⟨gb1464, 3, none⟩ = some (.int .i64 0) := (aj BK1464.out 3).trans rfl; have hfz15_0 := ag BK1464.out 0; have hfz15_1 := ag BK1464.out 1; have hfz15_2 := ag BK1464.out 2; have hfz15_3 := ag BK1464.out 3))
    go_ret3
    exact ⟨_, eT, Z4, bT HB⟩
   simp only [Option.some.injEq, Prod.mk.injEq] at H
   obtain ⟨rfl, rfl, rfl⟩ := H
   go_wp2
   go_ret3
   exact ⟨_, eT, qR HO_5, bT HB⟩
/-! ### fJ: function 7 -/
def fJ.f (k : Nat) (a0 : ByteArray) : Option ((List (S29)) × Int × Int) := (dm.f k a0).bind fun bt1469 => (if bt1469.2.1 = 0 then ((l7.f k bt1469.1).bind fun bt1474 => (some (bt1474.1, bt1474.2.1, bt1474.2.2))) else (some (([] : List (S29)), bt1469.2.1, bt1469.2.2)))
theorem fJ.mono : ∀ a0 k, LeO (fJ.f k a0) (fJ.f (k + 1) a0) := by
 intro a0 k
 unfold fJ.f
 have m0 := dm.mono
 have m1 := l7.mono
 exact yL
set_option maxHeartbeats 8000000 in
set_option maxRecDepth 100000 in
theorem fJ.calls (k : Nat) (a0 : ByteArray) (r1 : List (S29)) (r2 : Int) (r3 : Int) (w : World) (h : fJ.f k a0 = some (r1, r2, r3)) :
 Calls Tryz.prog 7 #[.string a0] w fun e w' => ∃ v0_ : Value, e = .returned (.tuple #[v0_, .int .i64 r2, .int .i64 r3]) ∧ Kd.R k29 29 w' w.heap.size (fun _ => True) v0_ r1 ∧ Below w.heap.size w w' := by
 have HB := ae.mk (Below.refl w.heap.size w)
 have H := h
 clear h
 unfold fJ.f at H
 revert H
 refine yB3 fun t1469 t1470 t1471 A2 H => ?_
 try dsimp only at H
 revert H
 refine cZ (fun c3b0 c3b1 H => ?_) fun c3 c3b0 c3b1 H => ?_
 ·revert H
  refine yB3 fun t1474 t1475 t1476 A4 H => ?_
  try dsimp only at H
  simp only [Option.some.injEq, Prod.mk.injEq] at H
  obtain ⟨rfl, rfl, rfl⟩ := H
  go_enter Tryz.func7, Tryz.ntmps7
  go_wp2_with (first | ((with_reducible refine gC 13 rfl ?_); refine gM 13 10 rfl Tryz.func13 (dm.calls k a0 t1469 t1470 t1471 _ A2.out) ?_; rintro _ w5 ⟨v1472, rfl, ho0, hb⟩; refine ⟨_, rfl, yA2 (Kd.ig ho0 (bY (bT HB))) (aY (bT HB) hb) ?_⟩; clear HB hb ho0; intro HO1473 HB; obtain ⟨Ao6, co6, rfl⟩ := Kd.eU HO1473.out) | ((with_reducible refine gC 11 rfl ?_); refine gM 11 19 rfl Tryz.func11 (l7.calls k _ _ t1469 t1474 t1475 t1476 _ (by repeat (first | exact (Kd.dL HO1473.out).2.2 | (with_reducible refine Kd.jY ?_ _) | (with_reducible refine Kd.jX ?_ _) | (with_reducible refine Kd.lu ?_))) ((Kd.dL HO1473.out).2.1) A4.out) ?_; rintro _ w7 ⟨v1477, rfl, ho0, hb⟩; refine ⟨_, rfl, yA3 (Kd.gK (qR HO1473) hb) (Kd.ig ho0 (bY (bT HB))) (aY (bT HB) hb) ?_⟩; clear HO1473 HB hb ho0; intro HO1473 HO1478 HB))
  go_ret3
  exact ⟨_, eT, qR HO1478, bT HB⟩
 simp only [Option.some.injEq, Prod.mk.injEq] at H
 obtain ⟨rfl, rfl, rfl⟩ := H
 go_enter Tryz.func7, Tryz.ntmps7
 go_wp2_with (first | ((with_reducible refine gC 13 rfl ?_); refine gM 13 10 rfl Tryz.func13 (dm.calls k a0 t1469 t1470 t1471 _ A2.out) ?_; rintro _ w8 ⟨v1472, rfl, ho0, hb⟩; refine ⟨_, rfl, yA2 (Kd.ig ho0 (bY (bT HB))) (aY (bT HB) hb) ?_⟩; clear HB hb ho0; intro HO1473 HB))
 go_ret3
 exact ⟨_, eT, Z4, bT HB⟩
end Go.Proofs.YtkbhkonenkgfoaaGreat.Q
end
section
namespace Go.Proofs.YtkbhkonenkgfoaaGreat.Q
open Go.RowKit Go.Proofs.YtkbhkonenkgfoaaGreatW.PrintWords Go.Proofs.YtkbhkonenkgfoaaGreatW.PrintLast Go.Proofs.YtkbhkonenkgfoaaGreatW.PrintMore
attribute [local go_sem] dJ dH dW dV dh df dI dG
set_option linter.unusedVariables false
set_option linter.unusedSimpArgs false
/-! ### aA: function 3 -/
mutual
def aA.j0 : Nat → ByteArray → List (S29) → List (S29) → Bool → Option (Bool)
 | 0, _, _, _, _ => none
 | k + 1, x0, x3, x6, x9 => aA.l0 k x0 x3 x6 x9 0
def aA.l0 : Nat → ByteArray → List (S29) → List (S29) → Bool → Int → Option (Bool)
 | 0, _, _, _, _, _ => none
 | k + 1, x0, x3, x6, x9, x10 => if x10 < (x3.length : Int) then (if 0 ≤ x10 then (aA.l0 k x0 (x3.set (x10 : Int).toNat (⟨99, (ax x3 x10).f1, (ax x3 x10).f2, (ax x3 x10).f3, (ax x3 x10).f4⟩ : S29)) x6 x9 (wrap64 (x10 + 1))) else (none)) else ((gu.f k x0).bind fun bt1492 => (if x9 = true then ((bK.f k bt1492.1 x6).bind fun t1497 => (if t1497 = true then ((bV.f k).bind fun t1498 => (some t1498)) else (some false))) else (some false)))
end
def aA.f (k : Nat) (a0 : ByteArray) : Option (Bool) := if (a0.size : Int) > 3000 then ((bV.f k).bind fun t1479 => (some t1479)) else ((gu.f k a0).bind fun bt1480 => ((fJ.f k a0).bind fun bt1485 => ((bK.f k bt1480.1 bt1485.1).bind fun t1490 => (if t1490 = true then (if bt1480.2.1 = bt1485.2.1 then (aA.j0 k a0 bt1480.1 bt1485.1 (bt1480.2.2 == bt1485.2.2)) else (aA.j0 k a0 bt1480.1 bt1485.1 false)) else (aA.j0 k a0 bt1480.1 bt1485.1 false)))))
theorem aA.bP : ∀ k, (∀ y0 y1 y2 y3, LeO (aA.j0 k y0 y1 y2 y3) (aA.j0 (k + 1) y0 y1 y2 y3)) ∧ (∀ y0 y1 y2 y3 y4, LeO (aA.l0 k y0 y1 y2 y3 y4) (aA.l0 (k + 1) y0 y1 y2 y3 y4))
 | 0 => ⟨fun _ _ _ _ r h => by simp [aA.j0] at h, fun _ _ _ _ _ r h => by simp [aA.l0] at h⟩
 | k + 1 => by
  obtain ⟨ih0, ih1⟩ := aA.bP k
  refine ⟨?_, ?_⟩
  ·intro y0 y1 y2 y3
   unfold aA.j0
   have m0 := bV.mono
   have m1 := bK.mono
   have m2 := fJ.mono
   have m3 := gu.mono
   exact yL
  intro y0 y1 y2 y3 y4
  unfold aA.l0
  have m0 := bV.mono
  have m1 := bK.mono
  have m2 := fJ.mono
  have m3 := gu.mono
  exact yL
theorem aA.mono : ∀ a0 k, LeO (aA.f k a0) (aA.f (k + 1) a0) := by
 intro a0 k
 obtain ⟨ih0, ih1⟩ := aA.bP k
 unfold aA.f
 have m0 := bV.mono
 have m1 := bK.mono
 have m2 := fJ.mono
 have m3 := gu.mono
 exact yL
set_option maxHeartbeats 8000000 in
set_option maxRecDepth 100000 in
theorem aA.calls (k : Nat) (a0 : ByteArray) (r : Bool) (w : World) (h : aA.f k a0 = some r) :
 Calls Tryz.prog 3 #[.string a0] w fun e w' => e = .returned (.bool r) ∧ Below w.heap.size w w' := by
 have HB := ae.mk (Below.refl w.heap.size w)
 have H := h
 clear h
 unfold aA.f at H
 revert H
 refine iC (fun c2 H => ?_) fun c2 H => ?_
 ·have c2b0 : decide (3000 < (a0.size : Int)) = true := decide_eq_true c2
  have c2b1 : decide (3000 < a0.size) = true := decide_eq_true (by omega)
  clear c2
  revert H
  refine yB1 fun t1479 A3 H => ?_
  obtain rfl := Option.some.inj H
  go_enter Tryz.func3, Tryz.ntmps3
  go_wp2_with (first | ((with_reducible refine gC 5 rfl ?_); refine gM 5 17 rfl Tryz.func5 (bV.calls k  t1479 _ A3.out) ?_; rintro _ w4 ⟨rfl, hb⟩; refine ⟨_, rfl, yA1 (aY (bT HB) hb) ?_⟩; clear HB hb; intro HB))
  go_ret
  exact ⟨eT, bT HB⟩
 have c2b0 : decide (3000 < (a0.size : Int)) = false := decide_eq_false c2
 have c2b1 : decide (3000 < a0.size) = false := decide_eq_false (by omega)
 clear c2
 revert H
 refine yB3 fun t1480 t1481 t1482 A5 H => ?_
 try dsimp only at H
 revert H
 refine yB3 fun t1485 t1486 t1487 A6 H => ?_
 try dsimp only at H
 have HC7 := ae.mk H
 clear H
 go_enter Tryz.func3, Tryz.ntmps3
 go_upto_region 5 with (first | ((with_reducible refine gC 6 rfl ?_); refine gM 6 20 rfl Tryz.func6 (gu.calls k a0 t1480 t1481 t1482 _ A5.out) ?_; rintro _ w8 ⟨v1483, rfl, ho0, hb⟩; refine ⟨_, rfl, yA2 (Kd.ig ho0 (bY (bT HB))) (aY (bT HB) hb) ?_⟩; clear HB hb ho0; intro HO1484 HB) | ((with_reducible refine gC 7 rfl ?_); refine gM 7 26 rfl Tryz.func7 (fJ.calls k a0 t1485 t1486 t1487 _ A6.out) ?_; rintro _ w9 ⟨v1488, rfl, ho0, hb⟩; refine ⟨_, rfl, yA3 (Kd.nK (qR HO1484) (Kd.qP ho0) hb) (Kd.ig (Kd.qO ho0 (Kd.xN (qR HO1484))) (bY (bT HB))) (aY (bT HB) hb) ?_⟩; clear HO1484 HB hb ho0; intro HO1484 HO1489 HB))
 (try simp only [Act.put, List.setIfInBounds_toArray, List.set_cons_zero, List.set_cons_succ])
 go_cut [9] (fun v9 wc => ∃ (kq : Nat) (x9_6 : Bool), v9 = .bool x9_6 ∧ ae (aA.j0 kq a0 t1480 t1485 x9_6 = some r) ∧ ae (kq ≤ k) ∧ ae (Kd.R k29 29 wc w.heap.size (fun k_ => some k_ ≠ (v1488 : Value).ownBlock) v1483 t1480) ∧ ae (Kd.R k29 29 wc w.heap.size (fun k_ => some k_ ≠ (v1483 : Value).ownBlock) v1488 t1485) ∧ ae (Below w.heap.size w wc))
 case first =>
  have H := HC7.out
  clear HC7
  revert H
  refine yB1 fun t1490 A10 H => ?_
  cases t1490
  rotate_left
  ·replace H := yT H
   revert H
   refine cZ (fun c12b0 c12b1 H => ?_) fun c12 c12b0 c12b1 H => ?_
   ·(first | rw [c12b0] | (simp only [gX, iP]; rw [c12b0]) | skip)
    have H' := ae.mk H
    clear H
    obtain ⟨Ao13, co13, eo13⟩ := Kd.eU HO1484.out
    subst eo13
    obtain ⟨Ao14, co14, eo14⟩ := Kd.eU HO1489.out
    subst eo14
    go_wp2_with (first | ((with_reducible refine gC 8 rfl ?_); refine gM 8 32 rfl Tryz.func8 (bK.calls k _ _ t1480 _ _ t1485 true _ Z21 ((Kd.dL HO1484.out).2.1) Z22 ((Kd.dL HO1489.out).2.1) A10.out) ?_; rintro _ w' ⟨rfl, ⟨nd, rfl⟩⟩; refine ⟨_, rfl, ?_⟩))
    go_meet
    case rel => exact ⟨_, ((t1482 == t1487)), fT, H', ⟨Z11⟩, ⟨Z25⟩, ⟨Z26⟩, ⟨bT HB⟩⟩
   (first | rw [c12b0] | (simp only [gX, iP]; rw [c12b0]) | skip)
   have H' := ae.mk H
   clear H
   obtain ⟨Ao15, co15, eo15⟩ := Kd.eU HO1484.out
   subst eo15
   obtain ⟨Ao16, co16, eo16⟩ := Kd.eU HO1489.out
   subst eo16
   go_wp2_with (first | ((with_reducible refine gC 8 rfl ?_); refine gM 8 32 rfl Tryz.func8 (bK.calls k _ _ t1480 _ _ t1485 true _ Z21 ((Kd.dL HO1484.out).2.1) Z22 ((Kd.dL HO1489.out).2.1) A10.out) ?_; rintro _ w' ⟨rfl, ⟨nd, rfl⟩⟩; refine ⟨_, rfl, ?_⟩))
   go_meet
   case rel => exact ⟨_, (false), fT, H', ⟨Z11⟩, ⟨Z25⟩, ⟨Z26⟩, ⟨bT HB⟩⟩
  replace H := yF H
  have H' := ae.mk H
  clear H
  obtain ⟨Ao17, co17, eo17⟩ := Kd.eU HO1484.out
  subst eo17
  obtain ⟨Ao18, co18, eo18⟩ := Kd.eU HO1489.out
  subst eo18
  go_wp2_with (first | ((with_reducible refine gC 8 rfl ?_); refine gM 8 32 rfl Tryz.func8 (bK.calls k _ _ t1480 _ _ t1485 false _ Z21 ((Kd.dL HO1484.out).2.1) Z22 ((Kd.dL HO1489.out).2.1) A10.out) ?_; rintro _ w' ⟨rfl, ⟨nd, rfl⟩⟩; refine ⟨_, rfl, ?_⟩))
  go_meet
  case rel => exact ⟨_, (false), fT, H', ⟨Z11⟩, ⟨Z25⟩, ⟨Z26⟩, ⟨bT HB⟩⟩
 case rest =>
  clear HC7
  try clear c1
  try clear c2
  try clear c2b0
  try clear c2b1
  try clear p2
  try clear c3
  try clear c5
  try clear c6
  try clear c7
  try clear c8
  try clear c11
  try clear c12
  try clear c12b0
  try clear c12b1
  obtain ⟨kq, x9_6, rfl, HA, HJ6, HO_3, HO_6, HB⟩ := hcut
  cases kq with
  | zero => exact absurd HA.out (by simp [aA.j0])
  | succ kj6 =>
   have H := HA.out
   clear HA
   simp only [aA.j0] at H
   have H' := ae.mk H
   clear H
   go_wp2
   go_loopg [10] kj6 (fun kq v10 w' => ∃ (x3_2 : List (S29)) (x10_2 : Int), v10 = .int .i64 x10_2 ∧ ae (aA.l0 kq a0 x3_2 t1485 x9_6 x10_2 = some r) ∧ ae (kq ≤ kj6) ∧ ae (Kd.R k29 29 w' w.heap.size (fun k_ => some k_ ≠ (v1488 : Value).ownBlock) v1483 x3_2) ∧ ae (Kd.R k29 29 w' w.heap.size (fun k_ => some k_ ≠ (v1483 : Value).ownBlock) v1488 t1485) ∧ ae (Below w.heap.size w w'))
   case atStart => exact ⟨(t1480), (0), fT, H', ⟨Nat.le_refl _⟩, ⟨qR HO_3⟩, ⟨qR HO_6⟩, ⟨bT HB⟩⟩
   case round =>
    clear H'
    try clear c1
    try clear c2
    try clear c2b0
    try clear c2b1
    try clear p2
    try clear c3
    try clear c5
    try clear c6
    try clear c7
    try clear c8
    try clear c11
    try clear c12
    try clear c12b0
    try clear c12b1
    try clear p2
    obtain ⟨x3_2, x10_2, rfl, HA, HK2, HO_3, HO_6, HB⟩ := hrel
    cases gk with
    | zero => exact absurd HA.out (by simp [aA.l0])
    | succ k2 =>
     have H := HA.out
     clear HA
     simp only [aA.l0] at H
     revert H
     refine iQ (fun c19b0 H => ?_) fun c19b0 H => ?_
     ·revert H
      refine gJ (fun c20b0 H => ?_) fun c20 H => ?_
      ·obtain ⟨y1491, hy1491⟩ : ∃ y_ : List (S29), y_ = (x3_2.set (x10_2 : Int).toNat (⟨99, (ax x3_2 x10_2).f1, (ax x3_2 x10_2).f2, (ax x3_2 x10_2).f3, (ax x3_2 x10_2).f4⟩ : S29)) := ⟨_, rfl⟩
       replace H : (aA.l0 k2 a0 y1491 t1485 x9_6 (wrap64 (x10_2 + 1))) = some r := by first | (rw [hy1491]; with_reducible exact H) | (have H2_ := (Option.bind_some _ _).symm.trans H; rw [hy1491]; with_reducible exact H2_) | (have H2_ := (Option.bind_some _ _).symm.trans H; with_reducible exact H2_) | with_reducible exact H | (rw [hy1491]; exact H) | exact H
       have Ny1491 := ae.mk hy1491
       clear hy1491
       have H' := ae.mk H
       clear H
       obtain ⟨Ao22, co22, eo22⟩ := Kd.eU HO_3.out
       subst eo22
       have p21 : 0 ≤ (x10_2 : Int) := of_decide_eq_true aT
       have q21 : (x10_2 : Int) < ((x3_2.length : Int) : Int) := of_decide_eq_true aT
       obtain ⟨go21, co21, eo21, gb21, gl21, cl21, HG21⟩ := Kd.CU HO_3.out (by omega)
       (first | cases eo21 | (injection eo21 with ea_ en_ ec_; (first | subst ea_ | (injection ea_ with ea_; subst ea_)); subst ec_; clear en_))
       have GB21 := ae.mk gb21
       have GG21 := ae.mk HG21
       clear gb21 gl21 HG21
       obtain ⟨ce21, hcl21, hM21, hcc21, hfr21⟩ := Kd.Hq HO_3.out z29 (x10_2 : Int) p21 q21
       obtain rfl := yx hM21
       have hx21_0 : wr.cell? ⟨go21, (x10_2 : Int).toNat * 5, none⟩ = some (.int .i64 ((ax x3_2 x10_2).f0)) := hcc21 0 _ rfl
       have hx21_1 : wr.cell? ⟨go21, (x10_2 : Int).toNat * 5 + 1, none⟩ = some (.int .i64 ((ax x3_2 x10_2).f1)) := hcc21 1 _ rfl
       have hx21_2 : wr.cell? ⟨go21, (x10_2 : Int).toNat * 5 + 2, none⟩ = some (.string ((ax x3_2 x10_2).f2)) := hcc21 2 _ rfl
       have hx21_3 : wr.cell? ⟨go21, (x10_2 : Int).toNat * 5 + 3, none⟩ = some (.int .i64 ((ax x3_2 x10_2).f3)) := hcc21 3 _ rfl
       have hx21_4 : wr.cell? ⟨go21, (x10_2 : Int).toNat * 5 + 4, none⟩ = some (.string ((ax x3_2 x10_2).f4)) := hcc21 4 _ rfl
       have hf21_0 : wr.frozen? ⟨go21, (x10_2 : Int).toNat * 5, none⟩ = false := hfr21 0
       have hf21_1 : wr.frozen? ⟨go21, (x10_2 : Int).toNat * 5 + 1, none⟩ = false := hfr21 1
       have hf21_2 : wr.frozen? ⟨go21, (x10_2 : Int).toNat * 5 + 2, none⟩ = false := hfr21 2
       have hf21_3 : wr.frozen? ⟨go21, (x10_2 : Int).toNat * 5 + 3, none⟩ = false := hfr21 3
       have hf21_4 : wr.frozen? ⟨go21, (x10_2 : Int).toNat * 5 + 4, none⟩ = false := hfr21 4
       clear hcl21 hcc21 hfr21 hM21
       replace p21 := eq_true p21
       replace q21 := eq_true q21
       have HX23 := ae.mk (show Kd.R k29 29 wr w.heap.size (fun k_ => some k_ ≠ (v1488 : Value).ownBlock) (.slice (some ⟨go21, 0, none⟩) x3_2.length co22) x3_2 from (qR HO_3))
       obtain ⟨ce23, hcl23, hM23, hcc23, hfr23⟩ := Kd.Hq HX23.out z29 (x10_2 : Int) (of_decide_eq_true aT) (by have h_ : (x10_2 : Int) < ((x3_2.length : Int) : Int) := of_decide_eq_true aT; first | exact h_ | (have e_ := (Kd.dL HO_3.out).1; omega) | simpa using h_)
       obtain rfl := yx hM23
       have HP23 := Kd.Mc HX23.out (x10_2 : Int) (of_decide_eq_true aT) (by have h_ : (x10_2 : Int) < ((x3_2.length : Int) : Int) := of_decide_eq_true aT; first | exact h_ | (have e_ := (Kd.dL HO_3.out).1; omega) | simpa using h_) (seg := [.int .i64 99]) (j := 0) hcl23 hcc23 (show 1 ≤ 5 from by decide) (x' := (⟨99, (ax x3_2 x10_2).f1, (ax x3_2 x10_2).f2, (ax x3_2 x10_2).f3, (ax x3_2 x10_2).f4⟩ : S29)) (vO _ _ _ (⟨99, (ax x3_2 x10_2).f1, (ax x3_2 x10_2).f2, (ax x3_2 x10_2).f3, (ax x3_2 x10_2).f4⟩ : S29) ) (fun _ hk => hk)
       have hx23_0 := hcc23 0 _ rfl
       (try simp only [show (k29).sz = 5 from rfl, Nat.mul_one, Nat.add_zero] at hx23_0)
       have hf23_0 := hfr23 0
       (try simp only [show (k29).sz = 5 from rfl, Nat.mul_one, Nat.add_zero] at hf23_0)
       clear hcl23 hcc23 hfr23 hM23
       go_wp2_with (first | ((with_reducible refine xu (t := 3) (p := 52) rfl ?_); refine uQ (t := 3) (p := 52) (v := ?vo_w24) (w1 := (wr.setCell ⟨go21, (x10_2 : Int).toNat * 5, none⟩ (.int .i64 99))) ?hg ?ho ?hn ?hr ?_; (case ho => rfl); (case hg => rfl); (case hn => rfl); (case hr => first | (go_simp; done) | (go_simp; rfl)); intro w24 hw; have hg : wr.grownBy w24 (some go21) := (by rw [hw]; exact HP23.2); have hp_ : Kd.R k29 29 w24 w.heap.size (fun k_ => some k_ ≠ (v1488 : Value).ownBlock) (.slice (some ⟨go21, 0, none⟩) x3_2.length co22) y1491 := (by rw [hw, Ny1491.out]; exact HP23.1); clear HP23; refine yA3 (hp_) (Kd.zI (v := (.slice (some ⟨go21, 0, none⟩) x3_2.length co22)) (v1 := (.slice (some ⟨go21, 0, none⟩) x3_2.length co22)) (ok := (fun _ => True)) (by (with_reducible repeat (first | apply Kd.iw | apply Kd.ik | apply Kd.jb)); exact Kd.iO HO_6.out (fun _ hk => ⟨trivial, hk⟩)) hg (.inl rfl)) ((by rw [hw]; exact iZ (HB.out) GB21.out : Below w.heap.size w w24)) ?_; clear HO_3 HO_6 HB; intro HO_3 HO_6 HB; clear hg hw hp_))
       go_roundg k2
       case measure => have := HJ6.out; have := HK2.out; omega
       case rel => exact ⟨(y1491), (wrap64 (x10_2 + 1)), fT, H', ⟨by have := HJ6.out; have := HK2.out; omega⟩, ⟨qR HO_3⟩, ⟨by (with_reducible repeat (first | apply Kd.iw | apply Kd.ik | apply Kd.jb)); exact Kd.iO HO_6.out (fun _ hk => hk.2)⟩, ⟨bT HB⟩⟩
      exact absurd H (by simp)
     revert H
     refine yB3 fun t1492 t1493 t1494 A25 H => ?_
     try dsimp only at H
     cases x9_6
     rotate_left
     ·replace H := yT H
      revert H
      refine yB1 fun t1497 A27 H => ?_
      cases t1497
      rotate_left
      ·replace H := yT H
       revert H
       refine yB1 fun t1498 A29 H => ?_
       obtain rfl := Option.some.inj H
       obtain ⟨Ao30, co30, eo30⟩ := Kd.eU HO_3.out
       subst eo30
       go_wp2_with (first | ((with_reducible refine gC 6 rfl ?_); refine gM 6 55 rfl Tryz.func6 (gu.calls k2 a0 t1492 t1493 t1494 _ A25.out) ?_; rintro _ w31 ⟨v1495, rfl, ho0, hb⟩; refine ⟨_, rfl, yA4 (Kd.nK (qR HO_3) (Kd.qP ho0) hb) (Kd.nK (qR HO_6) (Kd.qP ho0) hb) (Kd.ig (Kd.qO (Kd.qO ho0 (Kd.xN (qR HO_3))) (Kd.xN (qR HO_6))) (bY (bT HB))) (aY (bT HB) hb) ?_⟩; clear HO_3 HO_6 HB hb ho0; intro HO_3 HO_6 HO1496 HB; obtain ⟨Ao32, co32, rfl⟩ := Kd.eU HO1496.out; obtain ⟨Ao33, co33, rfl⟩ := Kd.eU HO_6.out) | (go_at_call 8; (with_reducible refine (bK.calls k2 _ _ t1492 _ _ t1485 true _ ?side1 ?side2 ?side3 ?side4 A27.out).mono ?_); (case side1 => repeat (first | exact (Kd.dL HO1496.out).2.2 | (with_reducible refine Kd.jY ?_ _) | (with_reducible refine Kd.jX ?_ _) | (with_reducible refine Kd.lu ?_))); (case side2 => exact (Kd.dL HO1496.out).2.1); (case side3 => exact Z13); (case side4 => exact (Kd.dL HO_6.out).2.1); rintro e w' ⟨rfl, ⟨nd, rfl⟩⟩) | (go_at_call 5; (with_reducible refine (bV.calls k2  t1498 _ A29.out).mono ?_); rintro e w34 ⟨rfl, hb⟩; refine yA4 (Kd.gK (qR HO_3) hb) (Kd.gK (qR HO_6) hb) (Kd.gK (qR HO1496) hb) (aY (bT HB) hb) ?_; clear HO_3 HO_6 HO1496 HB; intro HO_3 HO_6 HO1496 HB; (try clear hb)))
       go_ret
       exact ⟨eT, bT HB⟩
      replace H := yF H
      obtain rfl := Option.some.inj H
      obtain ⟨Ao35, co35, eo35⟩ := Kd.eU HO_3.out
      subst eo35
      go_wp2_with (first | ((with_reducible refine gC 6 rfl ?_); refine gM 6 55 rfl Tryz.func6 (gu.calls k2 a0 t1492 t1493 t1494 _ A25.out) ?_; rintro _ w36 ⟨v1495, rfl, ho0, hb⟩; refine ⟨_, rfl, yA4 (Kd.nK (qR HO_3) (Kd.qP ho0) hb) (Kd.nK (qR HO_6) (Kd.qP ho0) hb) (Kd.ig (Kd.qO (Kd.qO ho0 (Kd.xN (qR HO_3))) (Kd.xN (qR HO_6))) (bY (bT HB))) (aY (bT HB) hb) ?_⟩; clear HO_3 HO_6 HB hb ho0; intro HO_3 HO_6 HO1496 HB; obtain ⟨Ao37, co37, rfl⟩ := Kd.eU HO1496.out; obtain ⟨Ao38, co38, rfl⟩ := Kd.eU HO_6.out) | (go_at_call 8; (with_reducible refine (bK.calls k2 _ _ t1492 _ _ t1485 false _ ?side1 ?side2 ?side3 ?side4 A27.out).mono ?_); (case side1 => repeat (first | exact (Kd.dL HO1496.out).2.2 | (with_reducible refine Kd.jY ?_ _) | (with_reducible refine Kd.jX ?_ _) | (with_reducible refine Kd.lu ?_))); (case side2 => exact (Kd.dL HO1496.out).2.1); (case side3 => exact Z13); (case side4 => exact (Kd.dL HO_6.out).2.1); rintro e w' ⟨rfl, ⟨nd, rfl⟩⟩))
      go_ret
      exact ⟨eT, bT HB⟩
     replace H := yF H
     obtain rfl := Option.some.inj H
     obtain ⟨Ao39, co39, eo39⟩ := Kd.eU HO_3.out
     subst eo39
     go_wp2_with (first | ((with_reducible refine gC 6 rfl ?_); refine gM 6 55 rfl Tryz.func6 (gu.calls k2 a0 t1492 t1493 t1494 _ A25.out) ?_; rintro _ w40 ⟨v1495, rfl, ho0, hb⟩; refine ⟨_, rfl, yA4 (Kd.nK (qR HO_3) (Kd.qP ho0) hb) (Kd.nK (qR HO_6) (Kd.qP ho0) hb) (Kd.ig (Kd.qO (Kd.qO ho0 (Kd.xN (qR HO_3))) (Kd.xN (qR HO_6))) (bY (bT HB))) (aY (bT HB) hb) ?_⟩; clear HO_3 HO_6 HB hb ho0; intro HO_3 HO_6 HO1496 HB))
     go_ret
     exact ⟨eT, bT HB⟩
/-- THE ONE PURE STATEMENT of aA: yours. -/
def aA.Pure : Prop := ∀ (a0 : ByteArray), a0.size ≤ 140737488351232 → ∃ k, aA.f k a0 = some true
theorem aA.walk (P : aA.Pure) (a0 : ByteArray) (w : World) (w0 : a0.size ≤ 140737488351232) :
 Calls Tryz.prog 3 #[.string a0] w fun e w' => e = .returned (.bool true) ∧ Below w.heap.size w w' := by
 obtain ⟨k, h⟩ := P a0 w0
 refine (aA.calls k a0 true w h).mono ?_
 rintro e w' ⟨rfl, hd⟩
 exact ⟨rfl, hd⟩
end Go.Proofs.YtkbhkonenkgfoaaGreat.Q
end
