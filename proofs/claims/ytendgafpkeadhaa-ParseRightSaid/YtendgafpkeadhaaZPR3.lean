/- Walks over functions of the program, words for them, and what the functions come to; of each text only what this claim uses; no condition. -/
import Derived.Test.YtendgafpkeadhaaZPR0
import Derived.Test.YtendgafpkeadhaaZPR1
import Derived.Test.YtendgafpkeadhaaZPR2
import Derived.Test.YtendgafpkeadhaaProg
import Derived.Below
import Derived.Deep.Draws
import Derived.Deep.AppendLies
import Derived.Maps.AppendAt
import Derived.OwnWalk
import Derived.Laws.BytesArg
import Derived.Laws.MakeOwn
import Derived.Laws.OwnMore
import Derived.Deep.OwnRows
import Derived.Tactics
import Derived.Lib.ConvBytes
import Derived.Laws.Slices
import Derived.WalkKit
import Derived.KernelRfl
import Derived.RowKit3
import Derived.Deep.LoopGhost
import Derived.Deep.QuietTactic
import Derived.BigQuiet
import Derived.WideLaws
import Derived.Deep.DeepCutAuto
import Derived.Deep.CutBlock
import Derived.Deep.RegionHeld3
import Derived.Laws.Rows
import Derived.Lib.AppendStr
import Derived.ArgAppend
import Derived.Laws.IdiomCopy
import Derived.OrdersHeld
import Derived.Laws.BitsLemmas
import Derived.RowKit
section
namespace Go.Proofs.Ytendgafpkeadhaa.Q
open Go.RowKit Go.Proofs.YtendgafpkeadhaaW.PrintWords Go.Proofs.YtendgafpkeadhaaW.PrintLast Go.Proofs.YtendgafpkeadhaaW.PrintMore
attribute [local go_sem] max2_int min2_int max_two min_two max_three min_three max_four min_four
set_option linter.unusedVariables false
set_option linter.unusedSimpArgs false
def DN : Option Int → Value
 | none => .nilIface
 | some c => .iface 0 (.int .i64 c)
theorem gU : DN none = .nilIface := rfl
theorem gQ (c : Int) : DN (some c) = .iface 0 (.int .i64 c) := rfl
theorem info3 : (Try.prog.info? 3).map (fun i => (i.zero, i.size, i.bytes)) = some (some (.int .i64 0), 1, 8) := by kernel_rfl
theorem info5 : (Try.prog.info? 5).map (fun i => (i.zero, i.size, i.bytes)) = some (some (.int .u8 0), 1, 1) := by kernel_rfl
theorem info23 : (Try.prog.info? 23).map (fun i => (i.zero, i.size, i.bytes)) = some (some (.slice none 0 0), 1, 24) := by kernel_rfl
theorem info38 : (Try.prog.info? 38).map (fun i => (i.zero, i.size, i.bytes)) = some (some (.agg #[(.int .i64 0), (.string ⟨#[]⟩), (.int .i64 0), (.int .i64 0)]), 4, 40) := by kernel_rfl
theorem vW : (Try.prog.info? 41).map (fun i => (i.zero, i.size, i.bytes)) = some (some (.agg #[(.int .i64 0), (.int .i64 0), (.string ⟨#[]⟩), (.int .i64 0), (.string ⟨#[]⟩)]), 5, 56) := by kernel_rfl
-- the values' own types
/-! #### struct type 41 -/
structure S41 where
 f0 : Int
 f1 : Int
 f2 : ByteArray
 f3 : Int
 f4 : ByteArray
def z41 : S41 := ⟨(0 : Int), (0 : Int), (⟨#[]⟩ : ByteArray), (0 : Int), (⟨#[]⟩ : ByteArray)⟩
def k41 : Kd S41 := Kd.iso (Kd.pair (Kd.int .i64) (Kd.pair (Kd.int .i64) (Kd.pair Kd.string (Kd.pair (Kd.int .i64) Kd.string)))) (fun x : S41 => (x.f0, x.f1, x.f2, x.f3, x.f4))
theorem zt {w : World} {x : S41} {cs : List Value} (h : k41.K w x cs) : cs = [.int .i64 x.f0, .int .i64 x.f1, .string x.f2, .int .i64 x.f3, .string x.f4] := by
 obtain ⟨_, _, rfl, rfl, ⟨_, _, rfl, rfl, ⟨_, _, rfl, rfl, ⟨_, _, rfl, rfl, rfl⟩⟩⟩⟩ := h
 exact rfl
theorem AV (w : World) (base : Nat) (ok : Nat → Prop) (x : S41)  : k41.M w base ok x [.int .i64 x.f0, .int .i64 x.f1, .string x.f2, .int .i64 x.f3, .string x.f4] := ⟨[.int .i64 x.f0], [.int .i64 x.f1, .string x.f2, .int .i64 x.f3, .string x.f4], rfl, rfl, ⟨[.int .i64 x.f1], [.string x.f2, .int .i64 x.f3, .string x.f4], rfl, rfl, ⟨[.string x.f2], [.int .i64 x.f3, .string x.f4], rfl, rfl, ⟨[.int .i64 x.f3], [.string x.f4], rfl, rfl, rfl⟩⟩⟩⟩
def ax (xs : List S41) (i : Int) : S41 := xs.getD i.toNat z41
theorem iq {w : World} {A : Option Addr} {n : Nat} {xs : List S41} (h : Kd.C k41 w A n xs) (i : Int) (h0 : 0 ≤ i) (h1 : i < n) : ∃ ad , A = some ad ∧ w.cell? (ad.add (i.toNat * 5)) = some (.int .i64 (ax xs i).f0) ∧ w.cell? ⟨(ad.add (i.toNat * 5)).block, (ad.add (i.toNat * 5)).off + 1, none⟩ = some (.int .i64 (ax xs i).f1) ∧ w.cell? ⟨(ad.add (i.toNat * 5)).block, (ad.add (i.toNat * 5)).off + 2, none⟩ = some (.string (ax xs i).f2) ∧ w.cell? ⟨(ad.add (i.toNat * 5)).block, (ad.add (i.toNat * 5)).off + 3, none⟩ = some (.int .i64 (ax xs i).f3) ∧ w.cell? ⟨(ad.add (i.toNat * 5)).block, (ad.add (i.toNat * 5)).off + 4, none⟩ = some (.string (ax xs i).f4) := by
 obtain ⟨ad, c, e, _, hK, hc0⟩ := Kd.sH h z41 i h0 h1
 have hc : ∀ j u, c[j]? = some u → w.cell? (ad.add (i.toNat * 5 + j)) = some u := hc0
 obtain rfl := zt hK
 exact ⟨ad, e, hc 0 _ rfl, by rw [← jA _ _ 1 (by omega)]; exact hc 1 _ rfl, by rw [← jA _ _ 2 (by omega)]; exact hc 2 _ rfl, by rw [← jA _ _ 3 (by omega)]; exact hc 3 _ rfl, by rw [← jA _ _ 4 (by omega)]; exact hc 4 _ rfl⟩
/-! #### struct type 38 -/
structure S38 where
 f0 : Int
 f1 : ByteArray
 f2 : Int
 f3 : Int
def z38 : S38 := ⟨(0 : Int), (⟨#[]⟩ : ByteArray), (0 : Int), (0 : Int)⟩
def k38 : Kd S38 := Kd.iso (Kd.pair (Kd.int .i64) (Kd.pair Kd.string (Kd.pair (Kd.int .i64) (Kd.int .i64)))) (fun x : S38 => (x.f0, x.f1, x.f2, x.f3))
theorem zu {w : World} {x : S38} {cs : List Value} (h : k38.K w x cs) : cs = [.int .i64 x.f0, .string x.f1, .int .i64 x.f2, .int .i64 x.f3] := by
 obtain ⟨_, _, rfl, rfl, ⟨_, _, rfl, rfl, ⟨_, _, rfl, rfl, rfl⟩⟩⟩ := h
 exact rfl
theorem AX (w : World) (base : Nat) (ok : Nat → Prop) (x : S38)  : k38.M w base ok x [.int .i64 x.f0, .string x.f1, .int .i64 x.f2, .int .i64 x.f3] := ⟨[.int .i64 x.f0], [.string x.f1, .int .i64 x.f2, .int .i64 x.f3], rfl, rfl, ⟨[.string x.f1], [.int .i64 x.f2, .int .i64 x.f3], rfl, rfl, ⟨[.int .i64 x.f2], [.int .i64 x.f3], rfl, rfl, rfl⟩⟩⟩
def eu (xs : List S38) (i : Int) : S38 := xs.getD i.toNat z38
theorem wJ {w : World} {A : Option Addr} {n : Nat} {xs : List S38} (h : Kd.C k38 w A n xs) (i : Int) (h0 : 0 ≤ i) (h1 : i < n) : ∃ ad , A = some ad ∧ w.cell? (ad.add (i.toNat * 4)) = some (.int .i64 (eu xs i).f0) ∧ w.cell? ⟨(ad.add (i.toNat * 4)).block, (ad.add (i.toNat * 4)).off + 1, none⟩ = some (.string (eu xs i).f1) ∧ w.cell? ⟨(ad.add (i.toNat * 4)).block, (ad.add (i.toNat * 4)).off + 2, none⟩ = some (.int .i64 (eu xs i).f2) ∧ w.cell? ⟨(ad.add (i.toNat * 4)).block, (ad.add (i.toNat * 4)).off + 3, none⟩ = some (.int .i64 (eu xs i).f3) := by
 obtain ⟨ad, c, e, _, hK, hc0⟩ := Kd.sH h z38 i h0 h1
 have hc : ∀ j u, c[j]? = some u → w.cell? (ad.add (i.toNat * 4 + j)) = some u := hc0
 obtain rfl := zu hK
 exact ⟨ad, e, hc 0 _ rfl, by rw [← jA _ _ 1 (by omega)]; exact hc 1 _ rfl, by rw [← jA _ _ 2 (by omega)]; exact hc 2 _ rfl, by rw [← jA _ _ 3 (by omega)]; exact hc 3 _ rfl⟩
def lD (xs : List (List S41)) (i : Int) : (List S41) := xs.getD i.toNat ([] : List S41)
theorem DT {w : World} {A : Option Addr} {n : Nat} {xs : List (List S41)} (h : Kd.C (Kd.slice 41 k41) w A n xs) (i : Int) (h0 : 0 ≤ i) (h1 : i < n) : ∃ ad A0 c0, A = some ad ∧ w.cell? (ad.add i.toNat) = some (.slice A0 (lD xs i).length c0) ∧ (lD xs i).length ≤ c0 ∧ k41.C w A0 (lD xs i).length (lD xs i) := by
 obtain ⟨ad, c, e, _, hK, hc0⟩ := Kd.sH h ([] : List S41) i h0 h1
 have hc : ∀ j u, c[j]? = some u → w.cell? (ad.add (i.toNat * 1 + j)) = some u := hc0
 obtain ⟨A0, c0, rfl, l0, g0⟩ := hK
 exact ⟨ad, A0, c0, e, by have hq := hc 0 _ rfl; rwa [Nat.mul_one, Nat.add_zero] at hq, l0, g0⟩
end Go.Proofs.Ytendgafpkeadhaa.Q
end
section
namespace Go.Proofs.Ytendgafpkeadhaa.Q
open Go.RowKit Go.Proofs.YtendgafpkeadhaaW.PrintWords Go.Proofs.YtendgafpkeadhaaW.PrintLast Go.Proofs.YtendgafpkeadhaaW.PrintMore
attribute [local go_sem] max2_int min2_int max_two min_two max_three min_three max_four min_four
set_option linter.unusedVariables false
set_option linter.unusedSimpArgs false
/-! ### bC: function 17 -/
mutual
def bC.l0 : Nat → List (S41) → Int → Int → Option (Int)
 | 0, _, _, _ => none
 | k + 1, x0, x1, x5 => if x1 < (x0.length : Int) then (if 0 ≤ x1 then (if ((ax x0 x1).f1) < 0 then (bC.j1 k x0 x1 x5 ((ax x0 x1).f1) true) else (bC.j1 k x0 x1 x5 ((ax x0 x1).f1) (decide (((ax x0 x1).f1) > (x0.length : Int))))) else (none)) else (some (-1))
def bC.j1 : Nat → List (S41) → Int → Int → Int → Bool → Option (Int)
 | 0, _, _, _, _, _ => none
 | k + 1, x0, x1, x5, x6, x27 => if x27 = true then (some (-1)) else (if (wrap64 (x5 + (wrap64 (x6 - 1)))) = 0 then (some (wrap64 (x1 + 1))) else (bC.l0 k x0 (wrap64 (x1 + 1)) (wrap64 (x5 + (wrap64 (x6 - 1))))))
end
def bC.f (k : Nat) (l0 : List (S41)) (a1 : Int) : Option (Int) := if a1 < 0 then (some (-1)) else (bC.l0 k l0 a1 1)
theorem bC.mono_l : ∀ k, (∀ y0 y1 y2, LeO (bC.l0 k y0 y1 y2) (bC.l0 (k + 1) y0 y1 y2)) ∧ (∀ y0 y1 y2 y3 y4, LeO (bC.j1 k y0 y1 y2 y3 y4) (bC.j1 (k + 1) y0 y1 y2 y3 y4))
 | 0 => ⟨fun _ _ _ r h => by simp [bC.l0] at h, fun _ _ _ _ _ r h => by simp [bC.j1] at h⟩
 | k + 1 => by
  obtain ⟨ih0, ih1⟩ := bC.mono_l k
  refine ⟨?_, ?_⟩
  ·intro y0 y1 y2
   unfold bC.l0
   repeat' first
   | (with_reducible exact ih0 _ _ _)
   | (with_reducible exact ih1 _ _ _ _ _)
   | (with_reducible exact LeO.refl _)
   | (with_reducible exact LeO.none _)
   | (with_reducible refine LeO.ite ?_ ?_)
   | (with_reducible refine LeO.bind ?_ (fun _ => ?_))
   | exact ih0 _ _ _
   | exact ih1 _ _ _ _ _
   | exact LeO.none _
   | refine LeO.ite ?_ ?_
   | refine LeO.bind ?_ (fun _ => ?_)
  intro y0 y1 y2 y3 y4
  unfold bC.j1
  repeat' first
  | (with_reducible exact ih0 _ _ _)
  | (with_reducible exact ih1 _ _ _ _ _)
  | (with_reducible exact LeO.refl _)
  | (with_reducible exact LeO.none _)
  | (with_reducible refine LeO.ite ?_ ?_)
  | (with_reducible refine LeO.bind ?_ (fun _ => ?_))
  | exact ih0 _ _ _
  | exact ih1 _ _ _ _ _
  | exact LeO.none _
  | refine LeO.ite ?_ ?_
  | refine LeO.bind ?_ (fun _ => ?_)
theorem bC.mono : ∀ a0 a1 k, LeO (bC.f k a0 a1) (bC.f (k + 1) a0 a1) := by
 intro a0 a1 k
 obtain ⟨ih0, ih1⟩ := bC.mono_l k
 unfold bC.f
 repeat' first
  | (with_reducible exact ih0 _ _ _)
  | (with_reducible exact ih1 _ _ _ _ _)
  | (with_reducible exact LeO.refl _)
  | (with_reducible exact LeO.none _)
  | (with_reducible refine LeO.ite ?_ ?_)
  | (with_reducible refine LeO.bind ?_ (fun _ => ?_))
  | exact ih0 _ _ _
  | exact ih1 _ _ _ _ _
  | exact LeO.none _
  | refine LeO.ite ?_ ?_
  | refine LeO.bind ?_ (fun _ => ?_)
set_option maxHeartbeats 8000000 in
set_option maxRecDepth 100000 in
theorem bC.calls (k : Nat) (A0 : Option Addr) (c0 : Nat) (l0 : List (S41)) (a1 : Int) (r : Int) (w : World) (hr0 : Kd.C k41 w A0 l0.length l0) (hc0 : l0.length ≤ c0) (h : bC.f k l0 a1 = some r) :
 Calls Try.prog 17 #[.slice A0 l0.length c0, .int .i64 a1] w fun e w' => e = .returned (.int .i64 r) ∧ dA w w' := by
 have HR0 := Aside0.mk hr0
 have HC0 := Aside0.mk hc0
 clear hr0 hc0
 have H : (if a1 < 0 then (some (-1)) else (bC.l0 k l0 a1 1)) = some r := h
 clear h
 by_cases c3 : a1 < 0
 ·rw [if_pos c3] at H
  have c3b0 : decide (a1 < 0) = true := decide_eq_true c3
  clear c3
  obtain rfl := Option.some.inj H
  go_enter Try.func17, Try.ntmps17
  go_wp2
  go_ret
  exact ⟨Z7, Z10⟩
 rw [if_neg c3] at H
 have c3b0 : decide (a1 < 0) = false := decide_eq_false c3
 clear c3
 have H' := Aside0.mk H
 clear H
 go_enter Try.func17, Try.ntmps17
 go_wp2
 go_loopg [1, 5] k (fun kq v1 v5 w' => ∃ (x1_1 : Int) (x5_1 : Int), v1 = .int .i64 x1_1 ∧ v5 = .int .i64 x5_1 ∧ Aside0 (bC.l0 kq l0 x1_1 x5_1 = some r) ∧ Aside0 (kq ≤ k) ∧ dA w w')
 case atStart => exact ⟨(a1), (1), Z7, Z7, H', ⟨Nat.le_refl _⟩, Z10⟩
 case round =>
  clear H'
  try clear c1
  try clear p2
  try clear c3
  try clear c3b0
  obtain ⟨x1_1, x5_1, rfl, rfl, HA, HK1, ⟨m1, rfl⟩⟩ := hrel
  cases gk with
  | zero => exact absurd HA.out (by simp [bC.l0])
  | succ k1 =>
   have H := HA.out
   clear HA
   simp only [bC.l0] at H
   by_cases c4 : x1_1 < (l0.length : Int)
   ·rw [if_pos c4] at H
    have c4b0 : decide (x1_1 < (l0.length : Int)) = true := decide_eq_true c4
    clear c4
    by_cases c5 : 0 ≤ x1_1
    ·rw [if_pos c5] at H
     have c5b0 : decide (0 ≤ x1_1) = true := decide_eq_true c5
     clear c5
     have HC6 := Aside0.mk H
     clear H
     have p101 : 0 ≤ (x1_1 : Int) := of_decide_eq_true Z8
     have q101 : x1_1 < (l0.length : Int) := of_decide_eq_true Z8
     obtain ⟨ad101, e101, hx101_0, hx101_1, hx101_2, hx101_3, hx101_4⟩ := iq HR0.out x1_1 p101 q101
     cases e101
     replace p101 := eq_true p101
     replace q101 := eq_true q101
     go_upto_region 7 with (fail)
     go_cut [27] (fun v27 wc => ∃ (kq : Nat) (x27_5 : Bool), v27 = .bool x27_5 ∧ Aside0 (bC.j1 kq l0 x1_1 x5_1 ((ax l0 x1_1).f1) x27_5 = some r) ∧ Aside0 (kq ≤ k1) ∧ dA w wc)
     case first =>
      have H := HC6.out
      clear HC6
      by_cases c7 : ((ax l0 x1_1).f1) < 0
      ·rw [if_pos c7] at H
       have c7b0 : decide (((ax l0 x1_1).f1) < 0) = true := decide_eq_true c7
       clear c7
       (first | rw [c7b0] | (simp only [aC, aG]; rw [c7b0]) | skip)
       have H' := Aside0.mk H
       clear H
       go_wp2
       go_meet
       case rel => exact ⟨_, (true), Z7, H', ⟨by have := HK1.out; first | omega | exact Nat.le_refl _⟩, Z10⟩
      rw [if_neg c7] at H
      have c7b0 : decide (((ax l0 x1_1).f1) < 0) = false := decide_eq_false c7
      clear c7
      (first | rw [c7b0] | (simp only [aC, aG]; rw [c7b0]) | skip)
      have H' := Aside0.mk H
      clear H
      go_wp2
      go_meet
      case rel => exact ⟨_, (decide (((ax l0 x1_1).f1) > (l0.length : Int))), Z7, H', ⟨by have := HK1.out; first | omega | exact Nat.le_refl _⟩, Z10⟩
     case rest =>
      clear HC6
      try clear c1
      try clear p1
      try clear q1
      try clear hx1
      try clear p2
      try clear c3
      try clear c3b0
      try clear c4
      try clear c4b0
      try clear c5
      try clear c5b0
      try clear c7
      try clear c7b0
      try clear hx101_0
      try clear hx101_1
      try clear hx101_2
      try clear hx101_3
      try clear hx101_4
      try clear p101
      try clear p2
      try clear q101
      obtain ⟨kq, x27_5, rfl, HA, HJ5, ⟨mc5, rfl⟩⟩ := hcut
      cases kq with
      | zero => exact absurd HA.out (by simp [bC.j1])
      | succ kj5 =>
       have H := HA.out
       clear HA
       simp only [bC.j1] at H
       by_cases c8 : x27_5 = true
       ·subst c8
        have H1 : (some (-1)) = some r := by rw [if_pos rfl] at H; exact H
        clear H
        have H := H1
        clear H1
        obtain rfl := Option.some.inj H
        go_wp2
        go_ret
        exact ⟨Z7, Z10⟩
       replace c8 := Bool.eq_false_iff.mpr c8
       subst c8
       rw [if_neg (show ¬ (false = true) by decide)] at H
       have H1 := H
       clear H
       have H := H1
       clear H1
       by_cases c9 : (wrap64 (x5_1 + (wrap64 (((ax l0 x1_1).f1) - 1)))) = 0
       ·rw [if_pos c9] at H
        have c9b0 : ((wrap64 (x5_1 + (wrap64 (((ax l0 x1_1).f1) - 1)))) == 0) = true := beq_iff_eq.mpr c9
        have c9b1 : ((wrap64 (x5_1 + (wrap64 (((ax l0 x1_1).f1) - 1)))) != 0) = false := bne_eq_false_iff_eq.mpr c9
        clear c9
        obtain rfl := Option.some.inj H
        go_wp2
        go_ret
        exact ⟨Z7, Z10⟩
       rw [if_neg c9] at H
       have c9b0 : ((wrap64 (x5_1 + (wrap64 (((ax l0 x1_1).f1) - 1)))) == 0) = false := beq_eq_false_iff_ne.mpr c9
       have c9b1 : ((wrap64 (x5_1 + (wrap64 (((ax l0 x1_1).f1) - 1)))) != 0) = true := bne_iff_ne.mpr c9
       have H' := Aside0.mk H
       clear H
       go_wp2
       go_roundg kj5
       case measure => have := HK1.out; have := HJ5.out; omega
       case rel => exact ⟨(wrap64 (x1_1 + 1)), (wrap64 (x5_1 + (wrap64 (((ax l0 x1_1).f1) - 1)))), Z7, Z7, H', ⟨by have := HK1.out; have := HJ5.out; omega⟩, Z10⟩
    rw [if_neg c5] at H
    exact absurd H (by simp)
   rw [if_neg c4] at H
   have c4b0 : decide (x1_1 < (l0.length : Int)) = false := decide_eq_false c4
   clear c4
   obtain rfl := Option.some.inj H
   go_wp2
   go_ret
   exact ⟨Z7, Z10⟩
end Go.Proofs.Ytendgafpkeadhaa.Q
end
section
namespace Go.Proofs.Ytendgafpkeadhaa.Q
open Go.RowKit Go.Proofs.YtendgafpkeadhaaW.PrintWords Go.Proofs.YtendgafpkeadhaaW.PrintLast Go.Proofs.YtendgafpkeadhaaW.PrintMore
attribute [local go_sem] max2_int min2_int max_two min_two max_three min_three max_four min_four
set_option linter.unusedVariables false
set_option linter.unusedSimpArgs false
/-! ### bu: function 18 -/
mutual
def bu.l0 : Nat → List (S41) → Int → List Int → List (S41) → Int → Int → Option (Int)
 | 0, _, _, _, _, _, _ => none
 | k + 1, x0, x3, x4, x8, x9, x10 => if x10 < x9 then (if 0 ≤ x10 then (if x10 < (x8.length : Int) then ((bC.f k x0 x10).bind fun t104 => (if t104 < 0 then (some (-1)) else (if x4.length < 17592186044416 then ((some (x4 ++ [(ax x8 x10).f1] : List Int)).bind fun y105 => (bu.l1 k x0 (mx x3 (y105.length : Int)) y105 x8 x9 x10)) else (none)))) else (none)) else (none)) else (some x3)
def bu.l1 : Nat → List (S41) → Int → List Int → List (S41) → Int → Int → Option (Int)
 | 0, _, _, _, _, _, _ => none
 | k + 1, x0, x3, x4, x8, x9, x10 => if 0 ≤ (wrap64 ((x4.length : Int) - 1)) then (if (wrap64 ((x4.length : Int) - 1)) < (x4.length : Int) then (if (rd x4 (wrap64 ((x4.length : Int) - 1))) > 0 then (bu.l0 k x0 x3 (x4.set ((wrap64 ((x4.length : Int) - 1)) : Int).toNat (wrap64 ((rd x4 (wrap64 ((x4.length : Int) - 1))) - 1))) x8 x9 (wrap64 (x10 + 1))) else (if (wrap64 ((x4.length : Int) - 1)) ≤ (x4.length : Int) then ((some (x4.take ((wrap64 ((x4.length : Int) - 1)) : Int).toNat : List Int)).bind fun y111 => (if (wrap64 ((x4.length : Int) - 1)) = 0 then (bu.l0 k x0 x3 y111 x8 x9 (wrap64 (x10 + 1))) else (bu.l1 k x0 x3 y111 x8 x9 x10))) else (none))) else (none)) else (none)
end
def bu.f (k : Nat) (l0 : List (S41)) : Option (Int) := bu.l0 k l0 0 ([] : List Int) l0 (l0.length : Int) 0
theorem bu.mono_l : ∀ k, (∀ y0 y1 y2 y3 y4 y5, LeO (bu.l0 k y0 y1 y2 y3 y4 y5) (bu.l0 (k + 1) y0 y1 y2 y3 y4 y5)) ∧ (∀ y0 y1 y2 y3 y4 y5, LeO (bu.l1 k y0 y1 y2 y3 y4 y5) (bu.l1 (k + 1) y0 y1 y2 y3 y4 y5))
 | 0 => ⟨fun _ _ _ _ _ _ r h => by simp [bu.l0] at h, fun _ _ _ _ _ _ r h => by simp [bu.l1] at h⟩
 | k + 1 => by
  obtain ⟨ih0, ih1⟩ := bu.mono_l k
  refine ⟨?_, ?_⟩
  ·intro y0 y1 y2 y3 y4 y5
   unfold bu.l0
   repeat' first
   | (with_reducible exact ih0 _ _ _ _ _ _)
   | (with_reducible exact ih1 _ _ _ _ _ _)
   | (with_reducible exact bC.mono _ _ _)
   | (with_reducible exact LeO.refl _)
   | (with_reducible exact LeO.none _)
   | (with_reducible refine LeO.ite ?_ ?_)
   | (with_reducible refine LeO.bind ?_ (fun _ => ?_))
   | exact ih0 _ _ _ _ _ _
   | exact ih1 _ _ _ _ _ _
   | exact bC.mono _ _ _
   | exact LeO.none _
   | refine LeO.ite ?_ ?_
   | refine LeO.bind ?_ (fun _ => ?_)
  intro y0 y1 y2 y3 y4 y5
  unfold bu.l1
  repeat' first
  | (with_reducible exact ih0 _ _ _ _ _ _)
  | (with_reducible exact ih1 _ _ _ _ _ _)
  | (with_reducible exact bC.mono _ _ _)
  | (with_reducible exact LeO.refl _)
  | (with_reducible exact LeO.none _)
  | (with_reducible refine LeO.ite ?_ ?_)
  | (with_reducible refine LeO.bind ?_ (fun _ => ?_))
  | exact ih0 _ _ _ _ _ _
  | exact ih1 _ _ _ _ _ _
  | exact bC.mono _ _ _
  | exact LeO.none _
  | refine LeO.ite ?_ ?_
  | refine LeO.bind ?_ (fun _ => ?_)
theorem bu.mono : ∀ a0 k, LeO (bu.f k a0) (bu.f (k + 1) a0) := by
 intro a0 k
 obtain ⟨ih0, ih1⟩ := bu.mono_l k
 unfold bu.f
 repeat' first
  | (with_reducible exact ih0 _ _ _ _ _ _)
  | (with_reducible exact ih1 _ _ _ _ _ _)
  | (with_reducible exact bC.mono _ _ _)
  | (with_reducible exact LeO.refl _)
  | (with_reducible exact LeO.none _)
  | (with_reducible refine LeO.ite ?_ ?_)
  | (with_reducible refine LeO.bind ?_ (fun _ => ?_))
  | exact ih0 _ _ _ _ _ _
  | exact ih1 _ _ _ _ _ _
  | exact bC.mono _ _ _
  | exact LeO.none _
  | refine LeO.ite ?_ ?_
  | refine LeO.bind ?_ (fun _ => ?_)
set_option maxHeartbeats 8000000 in
set_option maxRecDepth 100000 in
theorem bu.calls (k : Nat) (A0 : Option Addr) (c0 : Nat) (l0 : List (S41)) (r : Int) (w : World) (hr0 : Kd.C k41 w A0 l0.length l0) (hc0 : l0.length ≤ c0) (h : bu.f k l0 = some r) :
 Calls Try.prog 18 #[.slice A0 l0.length c0] w fun e w' => e = .returned (.int .i64 r) ∧ Below w.heap.size w w' := by
 have hu41 := Try.underlying41
 have HR0 := Aside0.mk hr0
 have HC0 := Aside0.mk hc0
 clear hr0 hc0
 have HB := Aside0.mk (Below.refl w.heap.size w)
 have H : (bu.l0 k l0 0 ([] : List Int) l0 (l0.length : Int) 0) = some r := h
 clear h
 have H' := Aside0.mk H
 clear H
 go_enter Try.func18, Try.ntmps18
 go_wp2
 go_step3
 go_wp2
 go_step3
 go_wp2
 go_loopg [3, 4, 10] k (fun kq v3 v4 v10 w' => ∃ (x3_1 : Int) (x4_1 : List Int) (x10_1 : Int), v3 = .int .i64 x3_1 ∧ v10 = .int .i64 x10_1 ∧ Aside0 (bu.l0 kq l0 x3_1 x4_1 l0 (l0.length : Int) x10_1 = some r) ∧ Aside0 (kq ≤ k) ∧ Aside0 (Kd.R (Kd.int .i64) 3 w' w.heap.size (fun _ => True) v4 x4_1) ∧ Aside0 (Below w.heap.size w w'))
 case atStart => exact ⟨(0), (([] : List Int)), (0), Z7, Z7, H', ⟨Nat.le_refl _⟩, ⟨Z23⟩, ⟨Z4⟩⟩
 case round =>
  clear H'
  try clear c1
  obtain ⟨x3_1, x4_1, x10_1, rfl, rfl, HA, HK1, HO_4, HB⟩ := hrel
  cases gk with
  | zero => exact absurd HA.out (by simp [bu.l0])
  | succ k1 =>
   have H := HA.out
   clear HA
   simp only [bu.l0] at H
   by_cases c2 : x10_1 < (l0.length : Int)
   ·rw [if_pos c2] at H
    have c2b0 : decide (x10_1 < (l0.length : Int)) = true := decide_eq_true c2
    clear c2
    by_cases c3 : 0 ≤ x10_1
    ·rw [if_pos c3] at H
     have c3b0 : decide (0 ≤ x10_1) = true := decide_eq_true c3
     clear c3
     by_cases c4 : x10_1 < (l0.length : Int)
     ·rw [if_pos c4] at H
      have c4b0 : decide (x10_1 < (l0.length : Int)) = true := decide_eq_true c4
      clear c4
      replace H := Option.bind_eq_some_iff.mp H
      obtain ⟨t104, A50, H⟩ := H
      try dsimp only at H
      have A5 := Aside0.mk A50
      clear A50
      by_cases c6 : t104 < 0
      ·rw [if_pos c6] at H
       have c6b0 : decide (t104 < 0) = true := decide_eq_true c6
       clear c6
       obtain rfl := Option.some.inj H
       have p102 : 0 ≤ (x10_1 : Int) := of_decide_eq_true Z8
       have q102 : x10_1 < (l0.length : Int) := of_decide_eq_true Z8
       obtain ⟨ad102, e102, hx102_0, hx102_1, hx102_2, hx102_3, hx102_4⟩ := iq HR0.out x10_1 p102 q102
       cases e102
       replace hx102_0 := (HB.out.cell (World.block_lt_of_cell? w _ hx102_0)).trans hx102_0
       replace hx102_1 := (HB.out.cell (World.block_lt_of_cell? w _ hx102_1)).trans hx102_1
       replace hx102_2 := (HB.out.cell (World.block_lt_of_cell? w _ hx102_2)).trans hx102_2
       replace hx102_3 := (HB.out.cell (World.block_lt_of_cell? w _ hx102_3)).trans hx102_3
       replace hx102_4 := (HB.out.cell (World.block_lt_of_cell? w _ hx102_4)).trans hx102_4
       replace p102 := eq_true p102
       replace q102 := eq_true q102
       go_wp2_with (first | ((with_reducible refine bP (N := 6) rfl ?_); refine bT ?hg (N := 6) ?hd (cs := #[.int .i64 0, .int .i64 0, .string (⟨#[]⟩ : ByteArray), .int .i64 0, .string (⟨#[]⟩ : ByteArray)]) (t := 41) ?hr ?_; (case hd => rfl); (case hg => rfl); (case hr => first | (go_simp; done) | (go_simp; rfl)); intro gb103 hg w7 hbox hb; have n0_ := Aside0.mk (Kd.R_below Z29 hb); have n1_ := Aside0.mk (below_step Z4 hb); have n2_ := Aside0.mk (hbox); have n3_ := Aside0.mk ((by rw [hg]; exact (below_size Z4) : w.heap.size ≤ gb103)); have n4_ := Aside0.mk ((by rw [hg]; exact (below_size Z4) : w.heap.size ≤ gb103)); clear HO_4; clear HB; have HO_4 := n0_; have HB := n1_; have BK103 := n2_; have GW103 := n3_; have GE103 := n4_; clear n0_ n1_ n2_ n3_ n4_; clear hb hbox hg; have hcz8_0 : w7.cell? ⟨gb103, 0, none⟩ = some (.int .i64 0) := (ag BK103.out 0).trans rfl; have hcz8_1 : w7.cell? ⟨gb103, 1, none⟩ = some (.int .i64 0) := (ag BK103.out 1).trans rfl; have hcz8_2 : w7.cell? ⟨gb103, 2, none⟩ = some (.string (⟨#[]⟩ : ByteArray)) := (ag BK103.out 2).trans rfl; have hcz8_3 : w7.cell? ⟨gb103, 3, none⟩ = some (.int .i64 0) := (ag BK103.out 3).trans rfl; have hcz8_4 : w7.cell? ⟨gb103, 4, none⟩ = some (.string (⟨#[]⟩ : ByteArray)) := (ag BK103.out 4).trans rfl; have hfz8_0 := ae BK103.out 0; have hfz8_1 := ae BK103.out 1; have hfz8_2 := ae BK103.out 2; have hfz8_3 := ae BK103.out 3; have hfz8_4 := ae BK103.out 4) | ((with_reducible refine gate_callee (f := 17) rfl ?_); refine goesL_ (some 17) rfl rfl Try.func17 (by kernel_rfl) rfl #[.slice (some ad102) l0.length c0, .int .i64 x10_1] rfl Z3 ?_; (with_reducible refine (bC.calls k1 _ _ l0 x10_1 t104 _ ?side1 ?side2 A5.out).mono ?_); (case side1 => exact Kd.C_below HR0.out Z26); (case side2 => exact HC0.out); rintro e w' ⟨rfl, ⟨nd, rfl⟩⟩; refine ⟨_, rfl, ?_⟩))
       go_ret
       exact ⟨Z5, Z26⟩
      rw [if_neg c6] at H
      have c6b0 : decide (t104 < 0) = false := decide_eq_false c6
      clear c6
      by_cases c9 : x4_1.length < 17592186044416
      ·rw [if_pos c9] at H
       have LMc9 := Aside0.mk c9
       clear c9
       obtain ⟨y105, hy105⟩ : ∃ y_ : List Int, y_ = (x4_1 ++ [(ax l0 x10_1).f1]) := ⟨_, rfl⟩
       replace H : (bu.l1 k1 l0 (mx x3_1 (y105.length : Int)) y105 l0 (l0.length : Int) x10_1) = some r := by first | (rw [hy105]; with_reducible exact H) | (have H2_ := (Option.bind_some _ _).symm.trans H; rw [hy105]; with_reducible exact H2_) | (have H2_ := (Option.bind_some _ _).symm.trans H; with_reducible exact H2_) | with_reducible exact H | (rw [hy105]; exact H) | exact H
       have Ny105 := Aside0.mk hy105
       clear hy105
       obtain ⟨ji10, hji10⟩ : ∃ j_ : Int, (mx x3_1 (y105.length : Int)) = j_ := ⟨_, rfl⟩
       replace H : (bu.l1 k1 l0 ji10 y105 l0 (l0.length : Int) x10_1) = some r := by first | (rw [hji10] at H; exact H) | (simp only [hji10] at H ⊢; exact H)
       (try rw [hji10] at A5)
       have hji10_ : (if x3_1 < (y105.length : Int) then (y105.length : Int) else x3_1) = ji10 := hji10
       have H' := Aside0.mk H
       clear H
       have p102 : 0 ≤ (x10_1 : Int) := of_decide_eq_true Z8
       have q102 : x10_1 < (l0.length : Int) := of_decide_eq_true Z8
       obtain ⟨ad102, e102, hx102_0, hx102_1, hx102_2, hx102_3, hx102_4⟩ := iq HR0.out x10_1 p102 q102
       cases e102
       replace hx102_0 := (HB.out.cell (World.block_lt_of_cell? w _ hx102_0)).trans hx102_0
       replace hx102_1 := (HB.out.cell (World.block_lt_of_cell? w _ hx102_1)).trans hx102_1
       replace hx102_2 := (HB.out.cell (World.block_lt_of_cell? w _ hx102_2)).trans hx102_2
       replace hx102_3 := (HB.out.cell (World.block_lt_of_cell? w _ hx102_3)).trans hx102_3
       replace hx102_4 := (HB.out.cell (World.block_lt_of_cell? w _ hx102_4)).trans hx102_4
       replace p102 := eq_true p102
       replace q102 := eq_true q102
       go_wp2_with (first | ((with_reducible refine bP (N := 6) rfl ?_); refine bT ?hg (N := 6) ?hd (cs := #[.int .i64 0, .int .i64 0, .string (⟨#[]⟩ : ByteArray), .int .i64 0, .string (⟨#[]⟩ : ByteArray)]) (t := 41) ?hr ?_; (case hd => rfl); (case hg => rfl); (case hr => first | (go_simp; done) | (go_simp; rfl)); intro gb103 hg w11 hbox hb; have n0_ := Aside0.mk (Kd.R_below Z29 hb); have n1_ := Aside0.mk (below_step Z4 hb); have n2_ := Aside0.mk (hbox); have n3_ := Aside0.mk ((by rw [hg]; exact (below_size Z4) : w.heap.size ≤ gb103)); have n4_ := Aside0.mk ((by rw [hg]; exact (below_size Z4) : w.heap.size ≤ gb103)); clear HO_4; clear HB; have HO_4 := n0_; have HB := n1_; have BK103 := n2_; have GW103 := n3_; have GE103 := n4_; clear n0_ n1_ n2_ n3_ n4_; clear hb hbox hg; have hcz12_0 : w11.cell? ⟨gb103, 0, none⟩ = some (.int .i64 0) := (ag BK103.out 0).trans rfl; have hcz12_1 : w11.cell? ⟨gb103, 1, none⟩ = some (.int .i64 0) := (ag BK103.out 1).trans rfl; have hcz12_2 : w11.cell? ⟨gb103, 2, none⟩ = some (.string (⟨#[]⟩ : ByteArray)) := (ag BK103.out 2).trans rfl; have hcz12_3 : w11.cell? ⟨gb103, 3, none⟩ = some (.int .i64 0) := (ag BK103.out 3).trans rfl; have hcz12_4 : w11.cell? ⟨gb103, 4, none⟩ = some (.string (⟨#[]⟩ : ByteArray)) := (ag BK103.out 4).trans rfl; have hfz12_0 := ae BK103.out 0; have hfz12_1 := ae BK103.out 1; have hfz12_2 := ae BK103.out 2; have hfz12_3 := ae BK103.out 3; have hfz12_4 := ae BK103.out 4) | ((with_reducible refine gate_callee (f := 17) rfl ?_); refine goesL_ (some 17) rfl rfl Try.func17 (by kernel_rfl) rfl #[.slice (some ad102) l0.length c0, .int .i64 x10_1] rfl Z3 ?_; (with_reducible refine (bC.calls k1 _ _ l0 x10_1 t104 _ ?side1 ?side2 A5.out).mono ?_); (case side1 => exact Kd.C_below HR0.out Z26); (case side2 => exact HC0.out); rintro e w' ⟨rfl, ⟨nd, rfl⟩⟩; refine ⟨_, rfl, ?_⟩) | ((with_reducible refine dD (b := .append) (xs := #[.tmp 19, .tmp 22]) rfl ?_); at_builtin; refine Kd.jK (Kd.int .i64) (w0 := w) w.heap.size rfl (.tmp 19) (.tmp 22) 46 3 (.int .i64 0) 8 rfl Try.underlying46 info3 rfl (by decide) (by omega) u4 x4_1 ((ax l0 x10_1).f1) [.int .i64 ((ax l0 x10_1).f1)] (fun _ => True) (fun _ => False) rfl (by first | (go_simp; done) | (go_simp; rfl)) ?aP (fun _ hk => hk.elim) ?aF ?aO ?aB ?aS ?aL ?_; (case aP => exact rfl); (case aB => exact Z26); (case aF => exact (fun _ _ => trivial)); (case aO => exact (by (with_reducible repeat (first | apply Kd.R_alloc | apply Kd.R_drewN | apply Kd.R_drew)); exact Kd.bi (Kd.mO (p := ⟨gb103, 4, none⟩) (Kd.mO (p := ⟨gb103, 3, none⟩) (Kd.mO (p := ⟨gb103, 2, none⟩) (Kd.mO (p := ⟨gb103, 1, none⟩) (Kd.mO (p := ⟨gb103, 0, none⟩) (Kd.ug HO_4.out BK103.out (by decide)) (fun _ hk => hk.2) (.int .i64 ((ax l0 x10_1).f0))) (fun _ hk => hk.2) (.int .i64 ((ax l0 x10_1).f1))) (fun _ hk => hk.2) (.string ((ax l0 x10_1).f2))) (fun _ hk => hk.2) (.int .i64 ((ax l0 x10_1).f3))) (fun _ hk => hk.2) (.string ((ax l0 x10_1).f4))) (fun _ hk => trivial))); (case aS => exact (below_size Z26)); (case aL => have := LMc9.out; omega); intro v106 w13 ho hb hg hat; rw [← Ny105.out] at ho; have n0_ := Aside0.mk (iJ (g := gb103) (o := .cells #[.int .i64 ((ax l0 x10_1).f0), .int .i64 ((ax l0 x10_1).f1), .string ((ax l0 x10_1).f2), .int .i64 ((ax l0 x10_1).f3), .string ((ax l0 x10_1).f4)] 41 (0, 0)) (by refine aZ (cs := #[.int .i64 ((ax l0 x10_1).f0), .int .i64 ((ax l0 x10_1).f1), .string ((ax l0 x10_1).f2), .int .i64 ((ax l0 x10_1).f3), .string (⟨#[]⟩ : ByteArray)]) ?_ 4 _ rfl; refine aZ (cs := #[.int .i64 ((ax l0 x10_1).f0), .int .i64 ((ax l0 x10_1).f1), .string ((ax l0 x10_1).f2), .int .i64 0, .string (⟨#[]⟩ : ByteArray)]) ?_ 3 _ rfl; refine aZ (cs := #[.int .i64 ((ax l0 x10_1).f0), .int .i64 ((ax l0 x10_1).f1), .string (⟨#[]⟩ : ByteArray), .int .i64 0, .string (⟨#[]⟩ : ByteArray)]) ?_ 2 _ rfl; refine aZ (cs := #[.int .i64 ((ax l0 x10_1).f0), .int .i64 0, .string (⟨#[]⟩ : ByteArray), .int .i64 0, .string (⟨#[]⟩ : ByteArray)]) ?_ 1 _ rfl; refine aZ (cs := #[.int .i64 0, .int .i64 0, .string (⟨#[]⟩ : ByteArray), .int .i64 0, .string (⟨#[]⟩ : ByteArray)]) ?_ 0 _ rfl; exact BK103.out) hg (Kd.yw HO_4.out BK103.out (by decide))); have n1_ := Aside0.mk (hb); have n2_ := Aside0.mk (ho); clear BK103; clear HB; clear HO_4; have BK103 := n0_; have HB := n1_; have HO107 := n2_; clear n0_ n1_ n2_; clear ho hb hg hat; obtain ⟨Ao14, co14, eo14⟩ := Kd.R_slice HO107.out; subst eo14))
       go_loopg [4] k1 (fun kq v4 w' => ∃ (x4_2 : List Int), Aside0 (bu.l1 kq l0 ji10 x4_2 l0 (l0.length : Int) x10_1 = some r) ∧ Aside0 (kq ≤ k1) ∧ Aside0 (Kd.R (Kd.int .i64) 3 w' w.heap.size (fun _ => True) v4 x4_2) ∧ Aside0 (w'.heap[gb103]? = some (.cells #[.int .i64 ((ax l0 x10_1).f0), .int .i64 ((ax l0 x10_1).f1), .string ((ax l0 x10_1).f2), .int .i64 ((ax l0 x10_1).f3), .string ((ax l0 x10_1).f4)] 41 (0, 0))) ∧ Aside0 (Below w.heap.size w w'))
       case atStart => exact ⟨(y105), H', ⟨Nat.le_refl _⟩, ⟨by (with_reducible repeat (first | apply Kd.R_alloc | apply Kd.R_drewN | apply Kd.R_drew)); exact HO107.out⟩, ⟨by exact BK103.out⟩, ⟨Z26⟩⟩
       case round =>
        clear H'
        try clear c1
        try clear p1
        try clear q1
        try clear hx1
        try clear c2
        try clear c2b0
        try clear p2
        try clear c3
        try clear c3b0
        try clear c4
        try clear c4b0
        try clear c6
        try clear c6b0
        try clear c9
        try clear p10
        try clear q10
        try clear hx10
        try clear hcz12_0
        try clear hcz12_1
        try clear hcz12_2
        try clear hcz12_3
        try clear hcz12_4
        try clear hcz8_0
        try clear hcz8_1
        try clear hcz8_2
        try clear hcz8_3
        try clear hcz8_4
        try clear hfz12_0
        try clear hfz12_1
        try clear hfz12_2
        try clear hfz12_3
        try clear hfz12_4
        try clear hfz8_0
        try clear hfz8_1
        try clear hfz8_2
        try clear hfz8_3
        try clear hfz8_4
        try clear hx102_0
        try clear hx102_1
        try clear hx102_2
        try clear hx102_3
        try clear hx102_4
        try clear p102
        try clear q102
        obtain ⟨x4_2, HA, HK2, HO_4, BK103, HB⟩ := hrel
        cases gk with
        | zero => exact absurd HA.out (by simp [bu.l1])
        | succ k2 =>
         have H := HA.out
         clear HA
         simp only [bu.l1] at H
         obtain ⟨ji15, hji15⟩ : ∃ j_ : Int, (wrap64 ((x4_2.length : Int) - 1)) = j_ := ⟨_, rfl⟩
         replace H : (if 0 ≤ (ji15) then (if (ji15) < (x4_2.length : Int) then (if (rd x4_2 (ji15)) > 0 then (bu.l0 k2 l0 ji10 (x4_2.set ((ji15) : Int).toNat (wrap64 ((rd x4_2 (ji15)) - 1))) l0 (l0.length : Int) (wrap64 (x10_1 + 1))) else (if (ji15) ≤ (x4_2.length : Int) then ((some (x4_2.take ((ji15) : Int).toNat : List Int)).bind fun y111 => (if (ji15) = 0 then (bu.l0 k2 l0 ji10 y111 l0 (l0.length : Int) (wrap64 (x10_1 + 1))) else (bu.l1 k2 l0 ji10 y111 l0 (l0.length : Int) x10_1))) else (none))) else (none)) else (none)) = some r := by first | (rw [hji15] at H; exact H) | (simp only [hji15] at H ⊢; exact H)
         have hji15w : (IntKind.i64.wrap ((x4_2.length : Int) - 1)) = ji15 := (aC _).trans hji15
         by_cases c16 : 0 ≤ (ji15)
         ·rw [if_pos c16] at H
          have c16b0 : decide (0 ≤ (ji15)) = true := decide_eq_true c16
          clear c16
          by_cases c17 : (ji15) < (x4_2.length : Int)
          ·rw [if_pos c17] at H
           have c17b0 : decide ((ji15) < (x4_2.length : Int)) = true := decide_eq_true c17
           clear c17
           by_cases c18 : (rd x4_2 (ji15)) > 0
           ·rw [if_pos c18] at H
            have c18b0 : decide (0 < (rd x4_2 (ji15))) = true := decide_eq_true c18
            clear c18
            obtain ⟨y110, hy110⟩ : ∃ y_ : List Int, y_ = (x4_2.set ((ji15) : Int).toNat (wrap64 ((rd x4_2 (ji15)) - 1))) := ⟨_, rfl⟩
            replace H : (bu.l0 k2 l0 ji10 y110 l0 (l0.length : Int) (wrap64 (x10_1 + 1))) = some r := by first | (rw [hy110]; with_reducible exact H) | (have H2_ := (Option.bind_some _ _).symm.trans H; rw [hy110]; with_reducible exact H2_) | (have H2_ := (Option.bind_some _ _).symm.trans H; with_reducible exact H2_) | with_reducible exact H | (rw [hy110]; exact H) | exact H
            have Ny110 := Aside0.mk hy110
            clear hy110
            have H' := Aside0.mk H
            clear H
            obtain ⟨Ao20, co20, eo20⟩ := Kd.R_slice HO_4.out
            subst eo20
            have p108 : 0 ≤ ((ji15) : Int) := of_decide_eq_true Z8
            have q108 : (ji15) < (x4_2.length : Int) := of_decide_eq_true Z8
            obtain ⟨ad108, e108, hx108_0⟩ := Kd.iR (Kd.R_reads' HO_4.out).2.2 (ji15) p108 q108
            cases e108
            replace p108 := eq_true p108
            replace q108 := eq_true q108
            have p109 : 0 ≤ ((ji15) : Int) := of_decide_eq_true Z8
            have q109 : (ji15) < (x4_2.length : Int) := of_decide_eq_true Z8
            obtain ⟨ad109, e109, hx109_0⟩ := Kd.iR (Kd.R_reads' HO_4.out).2.2 (ji15) p109 q109
            obtain rfl : ad108 = ad109 := (by injection e109)
            replace p109 := eq_true p109
            replace q109 := eq_true q109
            have p19 : 0 ≤ ((ji15) : Int) := of_decide_eq_true Z8
            have q19 : ((ji15) : Int) < ((x4_2.length : Int) : Int) := of_decide_eq_true Z8
            obtain ⟨go19, co19, eo19, gb19, gl19, cl19, HG19⟩ := Kd.Dv HO_4.out (by omega)
            (first | cases eo19 | (injection eo19 with ea_ en_ ec_; (first | subst ea_ | (injection ea_ with ea_; subst ea_)); subst ec_; clear en_))
            have GB19 := Aside0.mk gb19
            have GG19 := Aside0.mk HG19
            clear gb19 gl19 HG19
            (first | simp only [add_plain] at hx108_0 | skip)
            (first | simp only [add_plain] at hx109_0 | skip)
            obtain ⟨hx19_0, hf19_0⟩ := Kd.Bq 0 HO_4.out ((ji15) : Int) p19 q19
            replace p19 := eq_true p19
            replace q19 := eq_true q19
            have HP21 := Kd.Du HO_4.out ((ji15) : Int) (wrap64 ((rd x4_2 (ji15)) - 1))
            go_wp2_with (first | ((with_reducible refine wo (t := 3) (p := 41) rfl ?_); refine uB (t := 3) (p := 41) (v := ?vo_w22) (w1 := (wr.setCell ⟨go19, ((ji15) : Int).toNat, none⟩ (.int .i64 (wrap64 ((rd x4_2 (ji15)) - 1))))) ?hg ?ho ?hn ?hr ?_; (case ho => rfl); (case hg => rfl); (case hn => rfl); (case hr => first | (go_simp; done) | (go_simp; rfl)); intro w22 hw; have hg : wr.grownBy w22 (some go19) := (by rw [hw]; exact HP21.2); have hp_ : Kd.R (Kd.int .i64) 3 w22 w.heap.size (fun _ => True) (.slice (some ⟨go19, 0, none⟩) x4_2.length co20) y110 := (by rw [hw, Ny110.out]; exact HP21.1); clear HP21; have n0_ := Aside0.mk (hp_); have n1_ := Aside0.mk (iJ (g := gb103) (o := .cells #[.int .i64 ((ax l0 x10_1).f0), .int .i64 ((ax l0 x10_1).f1), .string ((ax l0 x10_1).f2), .int .i64 ((ax l0 x10_1).f3), .string ((ax l0 x10_1).f4)] 41 (0, 0)) (by exact BK103.out) hg (Kd.yw HO_4.out BK103.out (by decide))); have n2_ := Aside0.mk ((by rw [hw]; exact dn (HB.out) GB19.out : Below w.heap.size w w22)); clear HO_4; clear BK103; clear HB; have HO_4 := n0_; have BK103 := n1_; have HB := n2_; clear n0_ n1_ n2_; clear hg hw hp_))
            go_roundg k2
            case measure => have := HK1.out; have := HK2.out; omega
            case rel => exact ⟨(ji10), (y110), (wrap64 (x10_1 + 1)), (by first | rfl | (simp; done) | (simp only [← hji10] <;> (first | rfl | simp)) | (simp [*]; done)), Z7, H', ⟨by have := HK1.out; have := HK2.out; omega⟩, ⟨Z29⟩, ⟨Z26⟩⟩
           rw [if_neg c18] at H
           have c18b0 : decide (0 < (rd x4_2 (ji15))) = false := decide_eq_false c18
           clear c18
           by_cases c23 : (ji15) ≤ (x4_2.length : Int)
           ·rw [if_pos c23] at H
            have c23b0 := eq_true c23
            have c23b1 : decide ((ji15) ≤ (x4_2.length : Int)) = true := decide_eq_true c23
            clear c23
            obtain ⟨y111, hy111⟩ : ∃ y_ : List Int, y_ = (x4_2.take ((ji15) : Int).toNat) := ⟨_, rfl⟩
            replace H : (if (ji15) = 0 then (bu.l0 k2 l0 ji10 y111 l0 (l0.length : Int) (wrap64 (x10_1 + 1))) else (bu.l1 k2 l0 ji10 y111 l0 (l0.length : Int) x10_1)) = some r := by first | (rw [hy111]; with_reducible exact H) | (have H2_ := (Option.bind_some _ _).symm.trans H; rw [hy111]; with_reducible exact H2_) | (have H2_ := (Option.bind_some _ _).symm.trans H; with_reducible exact H2_) | with_reducible exact H | (rw [hy111]; exact H) | exact H
            have Ny111 := Aside0.mk hy111
            clear hy111
            by_cases c24 : (ji15) = 0
            ·rw [if_pos c24] at H
             have c24b0 : ((ji15) == 0) = true := beq_iff_eq.mpr c24
             have c24b1 : ((ji15) != 0) = false := bne_eq_false_iff_eq.mpr c24
             clear c24
             have H' := Aside0.mk H
             clear H
             obtain ⟨Ao25, co25, eo25⟩ := Kd.R_slice HO_4.out
             subst eo25
             have p108 : 0 ≤ ((ji15) : Int) := of_decide_eq_true Z8
             have q108 : (ji15) < (x4_2.length : Int) := of_decide_eq_true Z8
             obtain ⟨ad108, e108, hx108_0⟩ := Kd.iR (Kd.R_reads' HO_4.out).2.2 (ji15) p108 q108
             cases e108
             replace p108 := eq_true p108
             replace q108 := eq_true q108
             have q26 : ((ji15) : Int) ≤ ((x4_2.length : Int) : Int) := of_decide_eq_true Z8
             obtain ⟨i026, hi026, _, hsz26, _⟩ := info_parts info3
             have hcut26 := zC (P := Try.prog) 46 3 .i64 Try.underlying46 hi026 (some ad108) x4_2.length co25 (ji15) (of_decide_eq_true Z8) q26 (Kd.R_reads' HO_4.out).2.1
             have hr26 := Kd.zM (m := ((ji15) : Int).toNat) HO_4.out (by omega)
             have hy26 : y111.length = ((ji15) : Int).toNat := (by rw [Ny111.out, List.length_take]; omega)
             rw [← Ny111.out] at hr26
             rw [← hy26] at hr26 hcut26
             clear hy26 hi026 hsz26 HO_4
             have HO113 := Aside0.mk hr26
             clear hr26
             replace q26 := eq_true q26
             go_wp2
             go_roundg k2
             case measure => have := HK1.out; have := HK2.out; omega
             case rel => exact ⟨(ji10), (y111), (wrap64 (x10_1 + 1)), (by first | rfl | (simp; done) | (simp only [← hji10] <;> (first | rfl | simp)) | (simp [*]; done)), Z7, H', ⟨by have := HK1.out; have := HK2.out; omega⟩, ⟨by (with_reducible repeat (first | apply Kd.R_alloc | apply Kd.R_drewN | apply Kd.R_drew)); exact HO113.out⟩, ⟨Z26⟩⟩
            rw [if_neg c24] at H
            have c24b0 : ((ji15) == 0) = false := beq_eq_false_iff_ne.mpr c24
            have c24b1 : ((ji15) != 0) = true := bne_iff_ne.mpr c24
            have H' := Aside0.mk H
            clear H
            obtain ⟨Ao27, co27, eo27⟩ := Kd.R_slice HO_4.out
            subst eo27
            have p108 : 0 ≤ ((ji15) : Int) := of_decide_eq_true Z8
            have q108 : (ji15) < (x4_2.length : Int) := of_decide_eq_true Z8
            obtain ⟨ad108, e108, hx108_0⟩ := Kd.iR (Kd.R_reads' HO_4.out).2.2 (ji15) p108 q108
            cases e108
            replace p108 := eq_true p108
            replace q108 := eq_true q108
            have q28 : ((ji15) : Int) ≤ ((x4_2.length : Int) : Int) := of_decide_eq_true Z8
            obtain ⟨i028, hi028, _, hsz28, _⟩ := info_parts info3
            have hcut28 := zC (P := Try.prog) 46 3 .i64 Try.underlying46 hi028 (some ad108) x4_2.length co27 (ji15) (of_decide_eq_true Z8) q28 (Kd.R_reads' HO_4.out).2.1
            have hr28 := Kd.zM (m := ((ji15) : Int).toNat) HO_4.out (by omega)
            have hy28 : y111.length = ((ji15) : Int).toNat := (by rw [Ny111.out, List.length_take]; omega)
            rw [← Ny111.out] at hr28
            rw [← hy28] at hr28 hcut28
            clear hy28 hi028 hsz28 HO_4
            have HO113 := Aside0.mk hr28
            clear hr28
            replace q28 := eq_true q28
            go_wp2
            go_roundg k2
            case measure => have := HK1.out; have := HK2.out; omega
            case rel => exact ⟨(y111), H', ⟨by have := HK1.out; have := HK2.out; omega⟩, ⟨by (with_reducible repeat (first | apply Kd.R_alloc | apply Kd.R_drewN | apply Kd.R_drew)); exact HO113.out⟩, ⟨by exact BK103.out⟩, ⟨Z26⟩⟩
           rw [if_neg c23] at H
           exact absurd H (by simp)
          rw [if_neg c17] at H
          exact absurd H (by simp)
         rw [if_neg c16] at H
         exact absurd H (by simp)
      rw [if_neg c9] at H
      exact absurd H (by simp)
     rw [if_neg c4] at H
     exact absurd H (by simp)
    rw [if_neg c3] at H
    exact absurd H (by simp)
   rw [if_neg c2] at H
   have c2b0 : decide (x10_1 < (l0.length : Int)) = false := decide_eq_false c2
   clear c2
   obtain rfl := Option.some.inj H
   go_wp2
   go_ret
   exact ⟨Z5, Z4⟩
end Go.Proofs.Ytendgafpkeadhaa.Q
end
section
namespace Go.Proofs.Ytendgafpkeadhaa.Q
open Go.RowKit Go.Proofs.YtendgafpkeadhaaW.PrintWords Go.Proofs.YtendgafpkeadhaaW.PrintLast Go.Proofs.YtendgafpkeadhaaW.PrintMore
attribute [local go_sem] max2_int min2_int max_two min_two max_three min_three max_four min_four
set_option linter.unusedVariables false
set_option linter.unusedSimpArgs false
/-! ### bJ: function 19 -/
def bJ.l0 : Nat → List (S41) → Int → List Int → Int → Option (List Int)
 | 0, _, _, _, _ => none
 | k + 1, x0, x1, x5, x6 => if 0 ≤ x1 then (if x1 < (x0.length : Int) then (if (x5.length : Int) < ((ax x0 x1).f1) then (if x5.length < 17592186044416 then ((bC.f k x0 x6).bind fun t119 => (bJ.l0 k x0 x1 (x5 ++ [x6]) t119)) else (none)) else (some x5)) else (none)) else (none)
def bJ.f (k : Nat) (l0 : List (S41)) (a1 : Int) : Option (List Int) := (bC.f k l0 a1).bind fun t114 => (if t114 < 0 then (some ([] : List Int)) else (bJ.l0 k l0 a1 ([] : List Int) (wrap64 (a1 + 1))))
theorem bJ.mono_l : ∀ k, (∀ y0 y1 y2 y3, LeO (bJ.l0 k y0 y1 y2 y3) (bJ.l0 (k + 1) y0 y1 y2 y3))
 | 0 => fun _ _ _ _ r h => by simp [bJ.l0] at h
 | k + 1 => by
  have ih0 := bJ.mono_l k
  intro y0 y1 y2 y3
  unfold bJ.l0
  repeat' first
  | (with_reducible exact ih0 _ _ _ _)
  | (with_reducible exact bC.mono _ _ _)
  | (with_reducible exact LeO.refl _)
  | (with_reducible exact LeO.none _)
  | (with_reducible refine LeO.ite ?_ ?_)
  | (with_reducible refine LeO.bind ?_ (fun _ => ?_))
  | exact ih0 _ _ _ _
  | exact bC.mono _ _ _
  | exact LeO.none _
  | refine LeO.ite ?_ ?_
  | refine LeO.bind ?_ (fun _ => ?_)
theorem bJ.mono : ∀ a0 a1 k, LeO (bJ.f k a0 a1) (bJ.f (k + 1) a0 a1) := by
 intro a0 a1 k
 have ih0 := bJ.mono_l k
 unfold bJ.f
 repeat' first
  | (with_reducible exact ih0 _ _ _ _)
  | (with_reducible exact bC.mono _ _ _)
  | (with_reducible exact LeO.refl _)
  | (with_reducible exact LeO.none _)
  | (with_reducible refine LeO.ite ?_ ?_)
  | (with_reducible refine LeO.bind ?_ (fun _ => ?_))
  | exact ih0 _ _ _ _
  | exact bC.mono _ _ _
  | exact LeO.none _
  | refine LeO.ite ?_ ?_
  | refine LeO.bind ?_ (fun _ => ?_)
set_option maxHeartbeats 8000000 in
set_option maxRecDepth 100000 in
theorem bJ.calls (k : Nat) (A0 : Option Addr) (c0 : Nat) (l0 : List (S41)) (a1 : Int) (r : List Int) (w : World) (hr0 : Kd.C k41 w A0 l0.length l0) (hc0 : l0.length ≤ c0) (h : bJ.f k l0 a1 = some r) :
 Calls Try.prog 19 #[.slice A0 l0.length c0, .int .i64 a1] w fun e w' => ∃ v0_ : Value, e = .returned (v0_) ∧ Kd.R (Kd.int .i64) 3 w' w.heap.size (fun _ => True) v0_ r ∧ Below w.heap.size w w' := by
 have HR0 := Aside0.mk hr0
 have HC0 := Aside0.mk hc0
 clear hr0 hc0
 have HB := Aside0.mk (Below.refl w.heap.size w)
 have H : ((bC.f k l0 a1).bind fun t114 => (if t114 < 0 then (some ([] : List Int)) else (bJ.l0 k l0 a1 ([] : List Int) (wrap64 (a1 + 1))))) = some r := h
 clear h
 replace H := Option.bind_eq_some_iff.mp H
 obtain ⟨t114, A30, H⟩ := H
 replace H : (if t114 < 0 then (some ([] : List Int)) else (bJ.l0 k l0 a1 ([] : List Int) (wrap64 (a1 + 1)))) = some r := H
 have A3 := Aside0.mk A30
 clear A30
 by_cases c4 : t114 < 0
 ·rw [if_pos c4] at H
  have c4b0 : decide (t114 < 0) = true := decide_eq_true c4
  clear c4
  obtain rfl := Option.some.inj H
  go_enter Try.func19, Try.ntmps19
  go_wp2_with (first | ((with_reducible refine gate_callee (f := 17) rfl ?_); refine goesL_ (some 9) rfl rfl Try.func17 (by kernel_rfl) rfl #[.slice A0 l0.length c0, .int .i64 a1] rfl Z3 ?_; (with_reducible refine (bC.calls k _ _ l0 a1 t114 _ ?side1 ?side2 A3.out).mono ?_); (case side1 => exact Z47); (case side2 => exact HC0.out); rintro e w' ⟨rfl, ⟨nd, rfl⟩⟩; refine ⟨_, rfl, ?_⟩))
  go_ret
  exact ⟨_, Z5, Z23, Z4⟩
 rw [if_neg c4] at H
 have c4b0 : decide (t114 < 0) = false := decide_eq_false c4
 clear c4
 have H' := Aside0.mk H
 clear H
 go_enter Try.func19, Try.ntmps19
 go_wp2_with (first | ((with_reducible refine gate_callee (f := 17) rfl ?_); refine goesL_ (some 9) rfl rfl Try.func17 (by kernel_rfl) rfl #[.slice A0 l0.length c0, .int .i64 a1] rfl Z3 ?_; (with_reducible refine (bC.calls k _ _ l0 a1 t114 _ ?side1 ?side2 A3.out).mono ?_); (case side1 => exact Z47); (case side2 => exact HC0.out); rintro e w' ⟨rfl, ⟨nd, rfl⟩⟩; refine ⟨_, rfl, ?_⟩))
 go_loopg [5, 6] k (fun kq v5 v6 w' => ∃ (x5_1 : List Int) (x6_1 : Int), v6 = .int .i64 x6_1 ∧ Aside0 (bJ.l0 kq l0 a1 x5_1 x6_1 = some r) ∧ Aside0 (kq ≤ k) ∧ Aside0 (Kd.R (Kd.int .i64) 3 w' w.heap.size (fun _ => True) v5 x5_1) ∧ Aside0 (Below w.heap.size w w'))
 case atStart => exact ⟨(([] : List Int)), (wrap64 (a1 + 1)), Z7, H', ⟨Nat.le_refl _⟩, ⟨Z23⟩, ⟨Z4⟩⟩
 case round =>
  clear H'
  try clear c1
  try clear p2
  try clear c4
  try clear c4b0
  obtain ⟨x5_1, x6_1, rfl, HA, HK1, HO_5, HB⟩ := hrel
  cases gk with
  | zero => exact absurd HA.out (by simp [bJ.l0])
  | succ k1 =>
   have H := HA.out
   clear HA
   simp only [bJ.l0] at H
   by_cases c5 : 0 ≤ a1
   ·rw [if_pos c5] at H
    have c5b0 : decide (0 ≤ a1) = true := decide_eq_true c5
    clear c5
    by_cases c6 : a1 < (l0.length : Int)
    ·rw [if_pos c6] at H
     have c6b0 : decide (a1 < (l0.length : Int)) = true := decide_eq_true c6
     clear c6
     by_cases c7 : (x5_1.length : Int) < ((ax l0 a1).f1)
     ·rw [if_pos c7] at H
      have c7b0 : decide ((x5_1.length : Int) < ((ax l0 a1).f1)) = true := decide_eq_true c7
      clear c7
      by_cases c8 : x5_1.length < 17592186044416
      ·rw [if_pos c8] at H
       have LMc8 := Aside0.mk c8
       clear c8
       obtain ⟨y116, hy116⟩ : ∃ y_ : List Int, y_ = (x5_1 ++ [x6_1]) := ⟨_, rfl⟩
       replace H : ((bC.f k1 l0 x6_1).bind fun t119 => (bJ.l0 k1 l0 a1 y116 t119)) = some r := by first | (rw [hy116]; with_reducible exact H) | (have H2_ := (Option.bind_some _ _).symm.trans H; rw [hy116]; with_reducible exact H2_) | (have H2_ := (Option.bind_some _ _).symm.trans H; with_reducible exact H2_) | with_reducible exact H | (rw [hy116]; exact H) | exact H
       have Ny116 := Aside0.mk hy116
       clear hy116
       replace H := Option.bind_eq_some_iff.mp H
       obtain ⟨t119, A90, H⟩ := H
       replace H : (bJ.l0 k1 l0 a1 y116 t119) = some r := H
       have A9 := Aside0.mk A90
       clear A90
       have H' := Aside0.mk H
       clear H
       obtain ⟨Ao10, co10, eo10⟩ := Kd.R_slice HO_5.out
       subst eo10
       have p115 : 0 ≤ (a1 : Int) := of_decide_eq_true Z8
       have q115 : a1 < (l0.length : Int) := of_decide_eq_true Z8
       obtain ⟨ad115, e115, hx115_0, hx115_1, hx115_2, hx115_3, hx115_4⟩ := iq HR0.out a1 p115 q115
       cases e115
       replace hx115_0 := (HB.out.cell (World.block_lt_of_cell? w _ hx115_0)).trans hx115_0
       replace hx115_1 := (HB.out.cell (World.block_lt_of_cell? w _ hx115_1)).trans hx115_1
       replace hx115_2 := (HB.out.cell (World.block_lt_of_cell? w _ hx115_2)).trans hx115_2
       replace hx115_3 := (HB.out.cell (World.block_lt_of_cell? w _ hx115_3)).trans hx115_3
       replace hx115_4 := (HB.out.cell (World.block_lt_of_cell? w _ hx115_4)).trans hx115_4
       replace p115 := eq_true p115
       replace q115 := eq_true q115
       go_wp2_with (first | ((with_reducible refine dD (b := .append) (xs := #[.tmp 24, .tmp 26]) rfl ?_); at_builtin; refine Kd.jK (Kd.int .i64) (w0 := w) w.heap.size rfl (.tmp 24) (.tmp 26) 46 3 (.int .i64 0) 8 rfl Try.underlying46 info3 rfl (by decide) (by omega) (.slice Ao10 x5_1.length co10) x5_1 x6_1 [.int .i64 x6_1] (fun _ => True) (fun _ => False) rfl rfl ?aP (fun _ hk => hk.elim) ?aF ?aO ?aB ?aS ?aL ?_; (case aP => exact rfl); (case aB => exact Z4); (case aF => exact (fun _ _ => trivial)); (case aO => exact Z21); (case aS => exact (below_size Z4)); (case aL => have := LMc8.out; omega); intro v117 w11 ho hb hg hat; rw [← Ny116.out] at ho; have n0_ := Aside0.mk (hb); have n1_ := Aside0.mk (ho); clear HB; clear HO_5; have HB := n0_; have HO118 := n1_; clear n0_ n1_; clear ho hb hg hat) | ((with_reducible refine gate_callee (f := 17) rfl ?_); refine goesL_ (some 23) rfl rfl Try.func17 (by kernel_rfl) rfl #[.slice (some ad115) l0.length c0, .int .i64 x6_1] rfl Z3 ?_; (with_reducible refine (bC.calls k1 _ _ l0 x6_1 t119 _ ?side1 ?side2 A9.out).mono ?_); (case side1 => exact Z40); (case side2 => exact HC0.out); rintro e w' ⟨rfl, ⟨nd, rfl⟩⟩; refine ⟨_, rfl, ?_⟩))
       go_roundg k1
       case measure => have := HK1.out; omega
       case rel => exact ⟨(y116), (t119), Z7, H', ⟨by have := HK1.out; omega⟩, ⟨by (with_reducible repeat (first | apply Kd.R_alloc | apply Kd.R_drewN | apply Kd.R_drew)); exact HO118.out⟩, ⟨Z4⟩⟩
      rw [if_neg c8] at H
      exact absurd H (by simp)
     rw [if_neg c7] at H
     have c7b0 : decide ((x5_1.length : Int) < ((ax l0 a1).f1)) = false := decide_eq_false c7
     clear c7
     obtain rfl := Option.some.inj H
     obtain ⟨Ao12, co12, eo12⟩ := Kd.R_slice HO_5.out
     subst eo12
     have p115 : 0 ≤ (a1 : Int) := of_decide_eq_true Z8
     have q115 : a1 < (l0.length : Int) := of_decide_eq_true Z8
     obtain ⟨ad115, e115, hx115_0, hx115_1, hx115_2, hx115_3, hx115_4⟩ := iq HR0.out a1 p115 q115
     cases e115
     replace hx115_0 := (HB.out.cell (World.block_lt_of_cell? w _ hx115_0)).trans hx115_0
     replace hx115_1 := (HB.out.cell (World.block_lt_of_cell? w _ hx115_1)).trans hx115_1
     replace hx115_2 := (HB.out.cell (World.block_lt_of_cell? w _ hx115_2)).trans hx115_2
     replace hx115_3 := (HB.out.cell (World.block_lt_of_cell? w _ hx115_3)).trans hx115_3
     replace hx115_4 := (HB.out.cell (World.block_lt_of_cell? w _ hx115_4)).trans hx115_4
     replace p115 := eq_true p115
     replace q115 := eq_true q115
     go_wp2
     go_ret
     exact ⟨_, Z5, Z21, Z4⟩
    rw [if_neg c6] at H
    exact absurd H (by simp)
   rw [if_neg c5] at H
   exact absurd H (by simp)
end Go.Proofs.Ytendgafpkeadhaa.Q
end
section
namespace Go.Proofs.Ytendgafpkeadhaa.Q
open Go.RowKit Go.Proofs.YtendgafpkeadhaaW.PrintWords Go.Proofs.YtendgafpkeadhaaW.PrintLast Go.Proofs.YtendgafpkeadhaaW.PrintMore
attribute [local go_sem] max2_int min2_int max_two min_two max_three min_three max_four min_four
set_option linter.unusedVariables false
set_option linter.unusedSimpArgs false
/-! ### bY: function 28 -/
def bY.j0 : Nat → Int → Int → Bool → Option (Int × Bool)
 | 0, _, _, _ => none
 | k + 1, x0, x4, x9 => if x9 = true then (some (1, true)) else (if x4 = 19 then (some (4, true)) else (if x4 = 20 then (some (32, true)) else (if x4 = 23 then (some (3, true)) else (if x4 = 27 then (some (8, true)) else (if x4 = 28 then (some (16, true)) else (if x0 ≥ 1 then (some (0, decide (x0 ≤ 30))) else (some (0, false))))))))
def bY.f (k : Nat) (a0 : Int) : Option (Int × Bool) := if a0 = 1 then (some (5, true)) else (if a0 = 2 then (some (7, true)) else (if a0 = 3 then (bY.j0 k a0 a0 (a0 == 3)) else (if a0 = 4 then (bY.j0 k a0 a0 (a0 == 4)) else (if a0 = 6 then (bY.j0 k a0 a0 (a0 == 6)) else (if a0 = 7 then (bY.j0 k a0 a0 (a0 == 7)) else (bY.j0 k a0 a0 (a0 == 21)))))))
theorem bY.mono_l : ∀ k, (∀ y0 y1 y2, LeO (bY.j0 k y0 y1 y2) (bY.j0 (k + 1) y0 y1 y2))
 | 0 => fun _ _ _ r h => by simp [bY.j0] at h
 | k + 1 => by
  have ih0 := bY.mono_l k
  intro y0 y1 y2
  unfold bY.j0
  repeat' first
  | (with_reducible exact ih0 _ _ _)
  | (with_reducible exact LeO.refl _)
  | (with_reducible exact LeO.none _)
  | (with_reducible refine LeO.ite ?_ ?_)
  | (with_reducible refine LeO.bind ?_ (fun _ => ?_))
  | exact ih0 _ _ _
  | exact LeO.none _
  | refine LeO.ite ?_ ?_
  | refine LeO.bind ?_ (fun _ => ?_)
theorem bY.mono : ∀ a0 k, LeO (bY.f k a0) (bY.f (k + 1) a0) := by
 intro a0 k
 have ih0 := bY.mono_l k
 unfold bY.f
 repeat' first
  | (with_reducible exact ih0 _ _ _)
  | (with_reducible exact LeO.refl _)
  | (with_reducible exact LeO.none _)
  | (with_reducible refine LeO.ite ?_ ?_)
  | (with_reducible refine LeO.bind ?_ (fun _ => ?_))
  | exact ih0 _ _ _
  | exact LeO.none _
  | refine LeO.ite ?_ ?_
  | refine LeO.bind ?_ (fun _ => ?_)
set_option maxHeartbeats 8000000 in
set_option maxRecDepth 100000 in
theorem bY.calls (k : Nat) (a0 : Int) (r1 : Int) (r2 : Bool) (w : World) (h : bY.f k a0 = some (r1, r2)) :
 Calls Try.prog 28 #[.int .i64 a0] w fun e w' => e = .returned (.tuple #[.int .i64 r1, .bool r2]) ∧ dA w w' := by
 have H : (if a0 = 1 then (some (5, true)) else (if a0 = 2 then (some (7, true)) else (if a0 = 3 then (bY.j0 k a0 a0 (a0 == 3)) else (if a0 = 4 then (bY.j0 k a0 a0 (a0 == 4)) else (if a0 = 6 then (bY.j0 k a0 a0 (a0 == 6)) else (if a0 = 7 then (bY.j0 k a0 a0 (a0 == 7)) else (bY.j0 k a0 a0 (a0 == 21)))))))) = some (r1, r2) := h
 clear h
 by_cases c2 : a0 = 1
 ·rw [if_pos c2] at H
  have c2b0 : (a0 == 1) = true := beq_iff_eq.mpr c2
  have c2b1 : (a0 != 1) = false := bne_eq_false_iff_eq.mpr c2
  clear c2
  simp only [Option.some.injEq, Prod.mk.injEq] at H
  obtain ⟨rfl, rfl⟩ := H
  go_enter Try.func28, Try.ntmps28
  go_wp2
  go_ret2
  exact ⟨Z7, Z10⟩
 rw [if_neg c2] at H
 have c2b0 : (a0 == 1) = false := beq_eq_false_iff_ne.mpr c2
 have c2b1 : (a0 != 1) = true := bne_iff_ne.mpr c2
 by_cases c3 : a0 = 2
 ·rw [if_pos c3] at H
  have c3b0 : (a0 == 2) = true := beq_iff_eq.mpr c3
  have c3b1 : (a0 != 2) = false := bne_eq_false_iff_eq.mpr c3
  clear c3
  simp only [Option.some.injEq, Prod.mk.injEq] at H
  obtain ⟨rfl, rfl⟩ := H
  go_enter Try.func28, Try.ntmps28
  go_wp2
  go_ret2
  exact ⟨Z7, Z10⟩
 rw [if_neg c3] at H
 have c3b0 : (a0 == 2) = false := beq_eq_false_iff_ne.mpr c3
 have c3b1 : (a0 != 2) = true := bne_iff_ne.mpr c3
 have HC4 := Aside0.mk H
 clear H
 go_enter Try.func28, Try.ntmps28
 go_upto_if 9 with (fail)
 go_cut [9] (fun v9 wc => ∃ (kq : Nat) (x9_3 : Bool), v9 = .bool x9_3 ∧ Aside0 (bY.j0 kq a0 a0 x9_3 = some (r1, r2)) ∧ Aside0 (kq ≤ k) ∧ dA w wc)
 case first =>
  have H := HC4.out
  clear HC4
  by_cases c5 : a0 = 3
  ·rw [if_pos c5] at H
   have c5b0 : (a0 == 3) = true := beq_iff_eq.mpr c5
   have c5b1 : (a0 != 3) = false := bne_eq_false_iff_eq.mpr c5
   clear c5
   (first | rw [c5b0] | (simp only [aC, aG]; rw [c5b0]) | skip)
   have H' := Aside0.mk H
   clear H
   go_wp2
   go_meet
   case rel => exact ⟨_, ((a0 == 3)), Z7, H', ⟨Z35⟩, Z10⟩
  rw [if_neg c5] at H
  have c5b0 : (a0 == 3) = false := beq_eq_false_iff_ne.mpr c5
  have c5b1 : (a0 != 3) = true := bne_iff_ne.mpr c5
  (first | rw [c5b0] | (simp only [aC, aG]; rw [c5b0]) | skip)
  by_cases c6 : a0 = 4
  ·rw [if_pos c6] at H
   have c6b0 : (a0 == 4) = true := beq_iff_eq.mpr c6
   have c6b1 : (a0 != 4) = false := bne_eq_false_iff_eq.mpr c6
   clear c6
   have H' := Aside0.mk H
   clear H
   go_wp2
   go_meet
   case rel => exact ⟨_, ((a0 == 4)), Z7, H', ⟨Z35⟩, Z10⟩
  rw [if_neg c6] at H
  have c6b0 : (a0 == 4) = false := beq_eq_false_iff_ne.mpr c6
  have c6b1 : (a0 != 4) = true := bne_iff_ne.mpr c6
  by_cases c7 : a0 = 6
  ·rw [if_pos c7] at H
   have c7b0 : (a0 == 6) = true := beq_iff_eq.mpr c7
   have c7b1 : (a0 != 6) = false := bne_eq_false_iff_eq.mpr c7
   clear c7
   have H' := Aside0.mk H
   clear H
   go_wp2
   go_meet
   case rel => exact ⟨_, ((a0 == 6)), Z7, H', ⟨Z35⟩, Z10⟩
  rw [if_neg c7] at H
  have c7b0 : (a0 == 6) = false := beq_eq_false_iff_ne.mpr c7
  have c7b1 : (a0 != 6) = true := bne_iff_ne.mpr c7
  by_cases c8 : a0 = 7
  ·rw [if_pos c8] at H
   have c8b0 : (a0 == 7) = true := beq_iff_eq.mpr c8
   have c8b1 : (a0 != 7) = false := bne_eq_false_iff_eq.mpr c8
   clear c8
   have H' := Aside0.mk H
   clear H
   go_wp2
   go_meet
   case rel => exact ⟨_, ((a0 == 7)), Z7, H', ⟨Z35⟩, Z10⟩
  rw [if_neg c8] at H
  have c8b0 : (a0 == 7) = false := beq_eq_false_iff_ne.mpr c8
  have c8b1 : (a0 != 7) = true := bne_iff_ne.mpr c8
  have H' := Aside0.mk H
  clear H
  go_wp2
  go_meet
  case rel => exact ⟨_, ((a0 == 21)), Z7, H', ⟨Z35⟩, Z10⟩
 case rest =>
  clear HC4
  try clear c2
  try clear c2b0
  try clear c2b1
  try clear p2
  try clear c3
  try clear c3b0
  try clear c3b1
  try clear c5
  try clear c5b0
  try clear c5b1
  try clear c6
  try clear c6b0
  try clear c6b1
  try clear c7
  try clear c7b0
  try clear c7b1
  try clear c8
  try clear c8b0
  try clear c8b1
  obtain ⟨kq, x9_3, rfl, HA, HJ3, ⟨mc3, rfl⟩⟩ := hcut
  cases kq with
  | zero => exact absurd HA.out (by simp [bY.j0])
  | succ kj3 =>
   have H := HA.out
   clear HA
   simp only [bY.j0] at H
   by_cases c9 : x9_3 = true
   ·subst c9
    have H1 : (some (1, true)) = some (r1, r2) := by rw [if_pos rfl] at H; exact H
    clear H
    have H := H1
    clear H1
    simp only [Option.some.injEq, Prod.mk.injEq] at H
    obtain ⟨rfl, rfl⟩ := H
    go_wp2
    go_ret2
    exact ⟨Z7, Z10⟩
   replace c9 := Bool.eq_false_iff.mpr c9
   subst c9
   rw [if_neg (show ¬ (false = true) by decide)] at H
   have H1 := H
   clear H
   have H := H1
   clear H1
   by_cases c10 : a0 = 19
   ·rw [if_pos c10] at H
    have c10b0 : (a0 == 19) = true := beq_iff_eq.mpr c10
    have c10b1 : (a0 != 19) = false := bne_eq_false_iff_eq.mpr c10
    clear c10
    simp only [Option.some.injEq, Prod.mk.injEq] at H
    obtain ⟨rfl, rfl⟩ := H
    go_wp2
    go_ret2
    exact ⟨Z7, Z10⟩
   rw [if_neg c10] at H
   have c10b0 : (a0 == 19) = false := beq_eq_false_iff_ne.mpr c10
   have c10b1 : (a0 != 19) = true := bne_iff_ne.mpr c10
   by_cases c11 : a0 = 20
   ·rw [if_pos c11] at H
    have c11b0 : (a0 == 20) = true := beq_iff_eq.mpr c11
    have c11b1 : (a0 != 20) = false := bne_eq_false_iff_eq.mpr c11
    clear c11
    simp only [Option.some.injEq, Prod.mk.injEq] at H
    obtain ⟨rfl, rfl⟩ := H
    go_wp2
    go_ret2
    exact ⟨Z7, Z10⟩
   rw [if_neg c11] at H
   have c11b0 : (a0 == 20) = false := beq_eq_false_iff_ne.mpr c11
   have c11b1 : (a0 != 20) = true := bne_iff_ne.mpr c11
   by_cases c12 : a0 = 23
   ·rw [if_pos c12] at H
    have c12b0 : (a0 == 23) = true := beq_iff_eq.mpr c12
    have c12b1 : (a0 != 23) = false := bne_eq_false_iff_eq.mpr c12
    clear c12
    simp only [Option.some.injEq, Prod.mk.injEq] at H
    obtain ⟨rfl, rfl⟩ := H
    go_wp2
    go_ret2
    exact ⟨Z7, Z10⟩
   rw [if_neg c12] at H
   have c12b0 : (a0 == 23) = false := beq_eq_false_iff_ne.mpr c12
   have c12b1 : (a0 != 23) = true := bne_iff_ne.mpr c12
   by_cases c13 : a0 = 27
   ·rw [if_pos c13] at H
    have c13b0 : (a0 == 27) = true := beq_iff_eq.mpr c13
    have c13b1 : (a0 != 27) = false := bne_eq_false_iff_eq.mpr c13
    clear c13
    simp only [Option.some.injEq, Prod.mk.injEq] at H
    obtain ⟨rfl, rfl⟩ := H
    go_wp2
    go_ret2
    exact ⟨Z7, Z10⟩
   rw [if_neg c13] at H
   have c13b0 : (a0 == 27) = false := beq_eq_false_iff_ne.mpr c13
   have c13b1 : (a0 != 27) = true := bne_iff_ne.mpr c13
   by_cases c14 : a0 = 28
   ·rw [if_pos c14] at H
    have c14b0 : (a0 == 28) = true := beq_iff_eq.mpr c14
    have c14b1 : (a0 != 28) = false := bne_eq_false_iff_eq.mpr c14
    clear c14
    simp only [Option.some.injEq, Prod.mk.injEq] at H
    obtain ⟨rfl, rfl⟩ := H
    go_wp2
    go_ret2
    exact ⟨Z7, Z10⟩
   rw [if_neg c14] at H
   have c14b0 : (a0 == 28) = false := beq_eq_false_iff_ne.mpr c14
   have c14b1 : (a0 != 28) = true := bne_iff_ne.mpr c14
   by_cases c15 : a0 ≥ 1
   ·rw [if_pos c15] at H
    have c15b0 : decide (1 ≤ a0) = true := decide_eq_true c15
    clear c15
    simp only [Option.some.injEq, Prod.mk.injEq] at H
    obtain ⟨rfl, rfl⟩ := H
    go_wp2
    go_ret2
    exact ⟨Z7, Z10⟩
   rw [if_neg c15] at H
   have c15b0 : decide (1 ≤ a0) = false := decide_eq_false c15
   clear c15
   simp only [Option.some.injEq, Prod.mk.injEq] at H
   obtain ⟨rfl, rfl⟩ := H
   go_wp2
   go_ret2
   exact ⟨Z7, Z10⟩
end Go.Proofs.Ytendgafpkeadhaa.Q
end
section
namespace Go.Proofs.Ytendgafpkeadhaa.Q
open Go.RowKit Go.Proofs.YtendgafpkeadhaaW.PrintWords Go.Proofs.YtendgafpkeadhaaW.PrintLast Go.Proofs.YtendgafpkeadhaaW.PrintMore
attribute [local go_sem] max2_int min2_int max_two min_two max_three min_three max_four min_four
set_option linter.unusedVariables false
set_option linter.unusedSimpArgs false
/-! ### fZ: function 29 -/
def fZ.f (a0 : Int) : Option (Int × Int) := if a0 = 1 then (some (1, 2147483647)) else (if a0 = 2 then (some (0, 8)) else (some (0, 9223372036854775807)))
set_option maxHeartbeats 8000000 in
set_option maxRecDepth 100000 in
theorem fZ.calls (a0 : Int) (r1 : Int) (r2 : Int) (w : World) (h : fZ.f a0 = some (r1, r2)) :
 Calls Try.prog 29 #[.int .i64 a0] w fun e w' => e = .returned (.tuple #[.int .i64 r1, .int .i64 r2]) ∧ dA w w' := by
 have H : (if a0 = 1 then (some (1, 2147483647)) else (if a0 = 2 then (some (0, 8)) else (some (0, 9223372036854775807)))) = some (r1, r2) := h
 clear h
 by_cases c2 : a0 = 1
 ·rw [if_pos c2] at H
  have c2b0 : (a0 == 1) = true := beq_iff_eq.mpr c2
  have c2b1 : (a0 != 1) = false := bne_eq_false_iff_eq.mpr c2
  clear c2
  simp only [Option.some.injEq, Prod.mk.injEq] at H
  obtain ⟨rfl, rfl⟩ := H
  go_enter Try.func29, Try.ntmps29
  go_wp2
  go_ret2
  exact ⟨Z7, Z10⟩
 rw [if_neg c2] at H
 have c2b0 : (a0 == 1) = false := beq_eq_false_iff_ne.mpr c2
 have c2b1 : (a0 != 1) = true := bne_iff_ne.mpr c2
 by_cases c3 : a0 = 2
 ·rw [if_pos c3] at H
  have c3b0 : (a0 == 2) = true := beq_iff_eq.mpr c3
  have c3b1 : (a0 != 2) = false := bne_eq_false_iff_eq.mpr c3
  clear c3
  simp only [Option.some.injEq, Prod.mk.injEq] at H
  obtain ⟨rfl, rfl⟩ := H
  go_enter Try.func29, Try.ntmps29
  go_wp2
  go_ret2
  exact ⟨Z7, Z10⟩
 rw [if_neg c3] at H
 have c3b0 : (a0 == 2) = false := beq_eq_false_iff_ne.mpr c3
 have c3b1 : (a0 != 2) = true := bne_iff_ne.mpr c3
 simp only [Option.some.injEq, Prod.mk.injEq] at H
 obtain ⟨rfl, rfl⟩ := H
 go_enter Try.func29, Try.ntmps29
 go_wp2
 go_ret2
 exact ⟨Z7, Z10⟩
-- NOT PRINTED: function 41 (lex_head)
/-! ### dL: function 44 -/
def dL.f (a0 : Int) : Option (Bool) := if a0 ≥ 97 then (some (decide (a0 ≤ 122))) else (some false)
set_option maxHeartbeats 8000000 in
set_option maxRecDepth 100000 in
theorem dL.calls (a0 : Int) (r : Bool) (w : World) (h : dL.f a0 = some r) :
 Calls Try.prog 44 #[.int .i32 a0] w fun e w' => e = .returned (.bool r) ∧ dA w w' := by
 have H : (if a0 ≥ 97 then (some (decide (a0 ≤ 122))) else (some false)) = some r := h
 clear h
 by_cases c2 : a0 ≥ 97
 ·rw [if_pos c2] at H
  have c2b0 : decide (97 ≤ a0) = true := decide_eq_true c2
  clear c2
  obtain rfl := Option.some.inj H
  go_enter Try.func44, Try.ntmps44
  go_wp2
  go_ret
  exact ⟨Z7, Z10⟩
 rw [if_neg c2] at H
 have c2b0 : decide (97 ≤ a0) = false := decide_eq_false c2
 clear c2
 obtain rfl := Option.some.inj H
 go_enter Try.func44, Try.ntmps44
 go_wp2
 go_ret
 exact ⟨Z7, Z10⟩
/-! ### fE: function 47 -/
def fE.f (a0 : Int) : Option (Bool) := if a0 ≥ 48 then (some (decide (a0 ≤ 57))) else (some false)
set_option maxHeartbeats 8000000 in
set_option maxRecDepth 100000 in
theorem fE.calls (a0 : Int) (r : Bool) (w : World) (h : fE.f a0 = some r) :
 Calls Try.prog 47 #[.int .i32 a0] w fun e w' => e = .returned (.bool r) ∧ dA w w' := by
 have H : (if a0 ≥ 48 then (some (decide (a0 ≤ 57))) else (some false)) = some r := h
 clear h
 by_cases c2 : a0 ≥ 48
 ·rw [if_pos c2] at H
  have c2b0 : decide (48 ≤ a0) = true := decide_eq_true c2
  clear c2
  obtain rfl := Option.some.inj H
  go_enter Try.func47, Try.ntmps47
  go_wp2
  go_ret
  exact ⟨Z7, Z10⟩
 rw [if_neg c2] at H
 have c2b0 : decide (48 ≤ a0) = false := decide_eq_false c2
 clear c2
 obtain rfl := Option.some.inj H
 go_enter Try.func47, Try.ntmps47
 go_wp2
 go_ret
 exact ⟨Z7, Z10⟩
/-! ### lex_inner: function 45 -/
/-! ### gq: function 58 -/
def gq.f (a0 : ByteArray) : Option (Bool) := if a0.toList = ([] : List UInt8) then (some false) else (if 0 < (a0.size : Int) then ((dL.f (wrap32 (bt a0 0))).bind fun t122 => (if t122 = true then ((eU.f a0).bind fun t123 => (some ((t123.size : Int) == (a0.size : Int)))) else (some false))) else (none))
set_option maxHeartbeats 8000000 in
set_option maxRecDepth 100000 in
theorem gq.calls (a0 : ByteArray) (r : Bool) (w : World) (h : gq.f a0 = some r) :
 Calls Try.prog 58 #[.string a0] w fun e w' => e = .returned (.bool r) ∧ Below w.heap.size w w' := by
 have HB := Aside0.mk (Below.refl w.heap.size w)
 have H : (if a0.toList = ([] : List UInt8) then (some false) else (if 0 < (a0.size : Int) then ((dL.f (wrap32 (bt a0 0))).bind fun t122 => (if t122 = true then ((eU.f a0).bind fun t123 => (some ((t123.size : Int) == (a0.size : Int)))) else (some false))) else (none))) = some r := h
 clear h
 by_cases c2 : a0.toList = ([] : List UInt8)
 ·rw [if_pos c2] at H
  have c2b0 : (a0.toList == ([] : List UInt8)) = true := beq_iff_eq.mpr c2
  have c2b1 : (a0.toList != ([] : List UInt8)) = false := bne_eq_false_iff_eq.mpr c2
  clear c2
  obtain rfl := Option.some.inj H
  go_enter Try.func58, Try.ntmps58
  go_wp2
  go_ret
  exact ⟨Z5, Z4⟩
 rw [if_neg c2] at H
 have c2b0 : (a0.toList == ([] : List UInt8)) = false := beq_eq_false_iff_ne.mpr c2
 have c2b1 : (a0.toList != ([] : List UInt8)) = true := bne_iff_ne.mpr c2
 by_cases c3 : 0 < (a0.size : Int)
 ·rw [if_pos c3] at H
  have c3b0 : decide (0 < (a0.size : Int)) = true := decide_eq_true c3
  have c3b1 : decide (0 < a0.size) = true := decide_eq_true (by omega)
  clear c3
  replace H := Option.bind_eq_some_iff.mp H
  obtain ⟨t122, A50, H⟩ := H
  replace H : (if t122 = true then ((eU.f a0).bind fun t123 => (some ((t123.size : Int) == (a0.size : Int)))) else (some false)) = some r := H
  have A5 := Aside0.mk A50
  clear A50
  by_cases c6 : t122 = true
  ·subst c6
   have H1 : ((eU.f a0).bind fun t123 => (some ((t123.size : Int) == (a0.size : Int)))) = some r := by rw [if_pos rfl] at H; exact H
   clear H
   have H := H1
   clear H1
   replace H := Option.bind_eq_some_iff.mp H
   obtain ⟨t123, A70, H⟩ := H
   replace H : (some ((t123.size : Int) == (a0.size : Int))) = some r := H
   have A7 := Aside0.mk A70
   clear A70
   obtain rfl := Option.some.inj H
   have p4 : 0 ≤ (0 : Int) := (by omega)
   have q4 : 0 < a0.size := (by have : (0 : Int) < (a0.size : Int) := of_decide_eq_true Z8; omega)
   have hx4 : ∀ h : 0 < a0.size, ((a0[0]'h).toNat : Int) = bt a0 0 := iO a0 0
   clear p4
   have qi4 : (0 < (a0.size : Int)) = True := eq_true (of_decide_eq_true Z8)
   replace q4 := eq_true q4
   go_enter Try.func58, Try.ntmps58
   go_wp2_with (first | (go_at_call 44; (with_reducible refine (dL.calls (wrap32 (bt a0 0)) true _ A5.out).mono ?_); rintro e w' ⟨rfl, ⟨nd, rfl⟩⟩) | (go_at_call 41; (with_reducible refine (eU.calls a0 t123 _ A7.out).mono ?_); rintro e w8 ⟨rfl, hb⟩; have n0_ := Aside0.mk (below_step Z4 hb); clear HB; have HB := n0_; clear n0_; (try clear hb)))
   go_ret
   exact ⟨Z5, Z4⟩
  replace c6 := Bool.eq_false_iff.mpr c6
  subst c6
  have H1 : (some false) = some r := by rw [if_neg (show ¬ (false = true) by decide)] at H; exact H
  clear H
  have H := H1
  clear H1
  obtain rfl := Option.some.inj H
  have p4 : 0 ≤ (0 : Int) := (by omega)
  have q4 : 0 < a0.size := (by have : (0 : Int) < (a0.size : Int) := of_decide_eq_true Z8; omega)
  have hx4 : ∀ h : 0 < a0.size, ((a0[0]'h).toNat : Int) = bt a0 0 := iO a0 0
  clear p4
  have qi4 : (0 < (a0.size : Int)) = True := eq_true (of_decide_eq_true Z8)
  replace q4 := eq_true q4
  go_enter Try.func58, Try.ntmps58
  go_wp2_with (first | (go_at_call 44; (with_reducible refine (dL.calls (wrap32 (bt a0 0)) false _ A5.out).mono ?_); rintro e w' ⟨rfl, ⟨nd, rfl⟩⟩))
  go_ret
  exact ⟨Z5, Z4⟩
 rw [if_neg c3] at H
 exact absurd H (by simp)
end Go.Proofs.Ytendgafpkeadhaa.Q
end
