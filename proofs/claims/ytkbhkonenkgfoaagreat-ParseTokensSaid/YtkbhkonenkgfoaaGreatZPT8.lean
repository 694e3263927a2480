/- Walks over functions of the program, words for them, and what the functions come to; of each text only what this claim uses; no condition. -/
import Derived.Test.YtkbhkonenkgfoaaGreatZPT0
import Derived.Test.YtkbhkonenkgfoaaGreatZPT1
import Derived.Test.YtkbhkonenkgfoaaGreatZPT3
import Derived.Test.YtkbhkonenkgfoaaGreatZPT4
import Derived.Test.YtkbhkonenkgfoaaGreatZPT6
import Derived.Test.YtkbhkonenkgfoaaGreatZPT7
section
namespace Go.Proofs.YtkbhkonenkgfoaaGreat.Q
open Go.RowKit Go.Proofs.YtkbhkonenkgfoaaGreatW.PrintWords Go.Proofs.YtkbhkonenkgfoaaGreatW.PrintLast Go.Proofs.YtkbhkonenkgfoaaGreatW.PrintMore
attribute [local go_sem] dJ dH dS dR cZ cO dI dG
set_option linter.unusedVariables false
set_option linter.unusedSimpArgs false
/-! ### aG: function 39 -/
mutual
def aG.l0 : Nat → List (S29) → Int → Int → Option (Int)
 | 0, _, _, _ => none
 | k + 1, x0, x5, x6 => if x6 < (x0.length : Int) then (if 0 ≤ x6 then (if ((ax x0 x6).f1) < 0 then (aG.j1 k x0 x5 x6 true) else (aG.j1 k x0 x5 x6 (decide (((ax x0 x6).f1) > (x0.length : Int))))) else (none)) else (some (-1))
def aG.j1 : Nat → List (S29) → Int → Int → Bool → Option (Int)
 | 0, _, _, _, _ => none
 | k + 1, x0, x5, x6, x31 => if x31 = true then (some (-1)) else (if 0 ≤ x6 then (if x6 < (x0.length : Int) then (if (wrap64 ((wrap64 (x5 - 1)) + ((ax x0 x6).f1))) = 0 then (some (wrap64 (x6 + 1))) else (aG.l0 k x0 (wrap64 ((wrap64 (x5 - 1)) + ((ax x0 x6).f1))) (wrap64 (x6 + 1)))) else (none)) else (none))
end
def aG.f (k : Nat) (l0 : List (S29)) (a1 : Int) : Option (Int) := if a1 < 0 then (some (-1)) else (aG.l0 k l0 1 a1)
theorem aG.bZ : ∀ k, (∀ y0 y1 y2, LeO (aG.l0 k y0 y1 y2) (aG.l0 (k + 1) y0 y1 y2)) ∧ (∀ y0 y1 y2 y3, LeO (aG.j1 k y0 y1 y2 y3) (aG.j1 (k + 1) y0 y1 y2 y3))
 | 0 => ⟨fun _ _ _ r h => by simp [aG.l0] at h, fun _ _ _ _ r h => by simp [aG.j1] at h⟩
 | k + 1 => by
  obtain ⟨ih0, ih1⟩ := aG.bZ k
  refine ⟨?_, ?_⟩
  ·intro y0 y1 y2
   unfold aG.l0
   exact yL
  intro y0 y1 y2 y3
  unfold aG.j1
  exact yL
theorem aG.mono : ∀ a0 a1 k, LeO (aG.f k a0 a1) (aG.f (k + 1) a0 a1) := by
 intro a0 a1 k
 obtain ⟨ih0, ih1⟩ := aG.bZ k
 unfold aG.f
 exact yL
set_option maxHeartbeats 8000000 in
set_option maxRecDepth 100000 in
theorem aG.calls (k : Nat) (A0 : Option Addr) (c0 : Nat) (l0 : List (S29)) (a1 : Int) (r : Int) (w : World) (hr0 : Kd.C k29 w A0 l0.length l0) (hc0 : l0.length ≤ c0) (h : aG.f k l0 a1 = some r) :
 Calls Tryz.prog 39 #[.slice A0 l0.length c0, .int .i64 a1] w fun e w' => e = .returned (.int .i64 r) ∧ dZ w w' := by
 have HR0 := af.mk hr0
 have HC0 := af.mk hc0
 clear hr0 hc0
 have H := h
 clear h
 unfold aG.f at H
 revert H
 refine iR (fun c3b0 H => ?_) fun c3b0 H => ?_
 ·obtain rfl := Option.some.inj H
  go_enter Tryz.func39, Tryz.ntmps39
  go_wp2
  go_ret
  exact ⟨fT, Z0⟩
 have H' := af.mk H
 clear H
 go_enter Tryz.func39, Tryz.ntmps39
 go_wp2
 go_loopg [5, 6] k (fun kq v5 v6 w' => ∃ (x5_1 : Int) (x6_1 : Int), v5 = .int .i64 x5_1 ∧ v6 = .int .i64 x6_1 ∧ af (aG.l0 kq l0 x5_1 x6_1 = some r) ∧ af (kq ≤ k) ∧ dZ w w')
 case atStart => exact ⟨(1), (a1), fT, fT, H', ⟨Nat.le_refl _⟩, Z0⟩
 case round =>
  clear H'
  try clear p2
  try clear c3
  try clear c3b0
  obtain ⟨x5_1, x6_1, rfl, rfl, HA, HK1, ⟨m1, rfl⟩⟩ := hrel
  cases gk with
  | zero => exact absurd HA.out (by simp [aG.l0])
  | succ k1 =>
   have H := HA.out
   clear HA
   simp only [aG.l0] at H
   revert H
   refine iR (fun c4b0 H => ?_) fun c4b0 H => ?_
   ·have HC5 := af.mk H
    clear H
    go_upto_region 7 with (fail)
    go_cut [31] (fun v31 wc => ∃ (kq : Nat) (x31_4 : Bool), v31 = .bool x31_4 ∧ af (aG.j1 kq l0 x5_1 x6_1 x31_4 = some r) ∧ af (kq ≤ k1) ∧ dZ w wc)
    case first =>
     have H := HC5.out
     clear HC5
     revert H
     refine gB (fun c6b0 H => ?_) fun c6 H => ?_
     ·(first | rw [c6b0] | (simp only [fP, gG]; rw [c6b0]) | skip)
      revert H
      refine iR (fun c7b0 H => ?_) fun c7b0 H => ?_
      ·have H' := af.mk H
       clear H
       have p870 : 0 ≤ (x6_1 : Int) := of_decide_eq_true aT
       have q870 : x6_1 < (l0.length : Int) := of_decide_eq_true aT
       obtain ⟨ad870, e870, hx870_0, hx870_1, hx870_2, hx870_3, hx870_4⟩ := iO HR0.out x6_1 p870 q870
       cases e870
       replace p870 := eq_true p870
       replace q870 := eq_true q870
       go_wp2
       go_meet
       case rel => exact ⟨_, (true), fT, H', ⟨by have := HK1.out; first | omega | exact Nat.le_refl _⟩, Z0⟩
      have H' := af.mk H
      clear H
      have p870 : 0 ≤ (x6_1 : Int) := of_decide_eq_true aT
      have q870 : x6_1 < (l0.length : Int) := of_decide_eq_true aT
      obtain ⟨ad870, e870, hx870_0, hx870_1, hx870_2, hx870_3, hx870_4⟩ := iO HR0.out x6_1 p870 q870
      cases e870
      replace p870 := eq_true p870
      replace q870 := eq_true q870
      have p871 : 0 ≤ (x6_1 : Int) := of_decide_eq_true aT
      have q871 : x6_1 < (l0.length : Int) := of_decide_eq_true aT
      obtain ⟨ad871, e871, hx871_0, hx871_1, hx871_2, hx871_3, hx871_4⟩ := iO HR0.out x6_1 p871 q871
      obtain rfl : ad870 = ad871 := (by injection e871)
      replace p871 := eq_true p871
      replace q871 := eq_true q871
      go_wp2
      go_meet
      case rel => exact ⟨_, (decide (((ax l0 x6_1).f1) > (l0.length : Int))), fT, H', ⟨by have := HK1.out; first | omega | exact Nat.le_refl _⟩, Z0⟩
     exact absurd H (by simp)
    case rest =>
     clear HC5
     try clear p2
     try clear c3
     try clear c3b0
     try clear c4
     try clear c4b0
     try clear c6
     try clear c6b0
     try clear c7
     try clear c7b0
     try clear hx870_0
     try clear hx870_1
     try clear hx870_2
     try clear hx870_3
     try clear hx870_4
     try clear hx871_0
     try clear hx871_1
     try clear hx871_2
     try clear hx871_3
     try clear hx871_4
     try clear p2
     try clear p870
     try clear p871
     try clear q870
     try clear q871
     obtain ⟨kq, x31_4, rfl, HA, HJ4, ⟨mc4, rfl⟩⟩ := hcut
     cases kq with
     | zero => exact absurd HA.out (by simp [aG.j1])
     | succ kj4 =>
      have H := HA.out
      clear HA
      simp only [aG.j1] at H
      cases x31_4
      rotate_left
      ·replace H := yT H
       obtain rfl := Option.some.inj H
       go_wp2
       go_ret
       exact ⟨fT, Z0⟩
      replace H := yF H
      revert H
      refine gB (fun c9b0 H => ?_) fun c9 H => ?_
      ·revert H
       refine gB (fun c10b0 H => ?_) fun c10 H => ?_
       ·revert H
        refine aU (fun c11b0 c11b1 H => ?_) fun c11 c11b0 c11b1 H => ?_
        ·obtain rfl := Option.some.inj H
         have p872 : 0 ≤ (x6_1 : Int) := of_decide_eq_true aT
         have q872 : x6_1 < (l0.length : Int) := of_decide_eq_true aT
         obtain ⟨ad872, e872, hx872_0, hx872_1, hx872_2, hx872_3, hx872_4⟩ := iO HR0.out x6_1 p872 q872
         cases e872
         replace p872 := eq_true p872
         replace q872 := eq_true q872
         go_wp2
         go_ret
         exact ⟨fT, Z0⟩
        have H' := af.mk H
        clear H
        have p872 : 0 ≤ (x6_1 : Int) := of_decide_eq_true aT
        have q872 : x6_1 < (l0.length : Int) := of_decide_eq_true aT
        obtain ⟨ad872, e872, hx872_0, hx872_1, hx872_2, hx872_3, hx872_4⟩ := iO HR0.out x6_1 p872 q872
        cases e872
        replace p872 := eq_true p872
        replace q872 := eq_true q872
        go_wp2
        go_roundg kj4
        case measure => have := HK1.out; have := HJ4.out; omega
        case rel => exact ⟨(wrap64 ((wrap64 (x5_1 - 1)) + ((ax l0 x6_1).f1))), (wrap64 (x6_1 + 1)), fT, fT, H', ⟨by have := HK1.out; have := HJ4.out; omega⟩, Z0⟩
       exact absurd H (by simp)
      exact absurd H (by simp)
   obtain rfl := Option.some.inj H
   go_wp2
   go_ret
   exact ⟨fT, Z0⟩
end Go.Proofs.YtkbhkonenkgfoaaGreat.Q
end
section
namespace Go.Proofs.YtkbhkonenkgfoaaGreat.Q
open Go.RowKit Go.Proofs.YtkbhkonenkgfoaaGreatW.PrintWords Go.Proofs.YtkbhkonenkgfoaaGreatW.PrintLast Go.Proofs.YtkbhkonenkgfoaaGreatW.PrintMore
attribute [local go_sem] iM iL iK iJ dJ dH dS dR cZ cO dI dG
set_option linter.unusedVariables false
set_option linter.unusedSimpArgs false
/-! ### bz: function 41 -/
def bz.l0 : Nat → List (S29) → Int → List Int → Int → Int → Option (List Int)
 | 0, _, _, _, _, _ => none
 | k + 1, x0, x1, x5, x6, x7 => if 0 ≤ x1 then (if x1 < (x0.length : Int) then (if x7 < ((ax x0 x1).f1) then (if x5.length < 17592186044416 then ((aG.f k x0 x6).bind fun t878 => (bz.l0 k x0 x1 (x5 ++ [x6]) t878 (wrap64 (x7 + 1)))) else (none)) else (some x5)) else (none)) else (none)
def bz.f (k : Nat) (l0 : List (S29)) (a1 : Int) : Option (List Int) := (aG.f k l0 a1).bind fun t873 => (if t873 < 0 then (some ([] : List Int)) else (bz.l0 k l0 a1 ([] : List Int) (wrap64 (a1 + 1)) 0))
theorem bz.bZ : ∀ k, (∀ y0 y1 y2 y3 y4, LeO (bz.l0 k y0 y1 y2 y3 y4) (bz.l0 (k + 1) y0 y1 y2 y3 y4))
 | 0 => fun _ _ _ _ _ r h => by simp [bz.l0] at h
 | k + 1 => by
  have ih0 := bz.bZ k
  intro y0 y1 y2 y3 y4
  unfold bz.l0
  have m0 := aG.mono
  exact yL
theorem bz.mono : ∀ a0 a1 k, LeO (bz.f k a0 a1) (bz.f (k + 1) a0 a1) := by
 intro a0 a1 k
 have ih0 := bz.bZ k
 unfold bz.f
 have m0 := aG.mono
 exact yL
set_option maxHeartbeats 8000000 in
set_option maxRecDepth 100000 in
theorem bz.calls (k : Nat) (A0 : Option Addr) (c0 : Nat) (l0 : List (S29)) (a1 : Int) (r : List Int) (w : World) (hr0 : Kd.C k29 w A0 l0.length l0) (hc0 : l0.length ≤ c0) (h : bz.f k l0 a1 = some r) :
 Calls Tryz.prog 41 #[.slice A0 l0.length c0, .int .i64 a1] w fun e w' => ∃ v0_ : Value, e = .returned (v0_) ∧ Kd.R (Kd.int .i64) 3 w' w.heap.size (fun _ => True) v0_ r ∧ Below w.heap.size w w' := by
 have HR0 := af.mk hr0
 have HC0 := af.mk hc0
 clear hr0 hc0
 have HB := af.mk (Below.refl w.heap.size w)
 have H := h
 clear h
 unfold bz.f at H
 revert H
 refine yB1 fun t873 A3 H => ?_
 revert H
 refine iR (fun c4b0 H => ?_) fun c4b0 H => ?_
 ·obtain rfl := Option.some.inj H
  go_enter Tryz.func41, Tryz.ntmps41
  go_wp2_with (first | ((with_reducible refine gC 39 rfl ?_); refine gM 39 10 rfl Tryz.func39 (aG.calls k _ _ l0 a1 t873 _ Z5 HC0.out A3.out) ?_; rintro _ w' ⟨rfl, ⟨nd, rfl⟩⟩; refine ⟨_, rfl, ?_⟩))
  go_ret
  exact ⟨_, Z8, Z7, Z1⟩
 have H' := af.mk H
 clear H
 go_enter Tryz.func41, Tryz.ntmps41
 go_wp2_with (first | ((with_reducible refine gC 39 rfl ?_); refine gM 39 10 rfl Tryz.func39 (aG.calls k _ _ l0 a1 t873 _ Z5 HC0.out A3.out) ?_; rintro _ w' ⟨rfl, ⟨nd, rfl⟩⟩; refine ⟨_, rfl, ?_⟩))
 (try simp only [Act.put, List.setIfInBounds_toArray, List.set_cons_zero, List.set_cons_succ])
 go_loopg [5, 6, 7] k (fun kq v5 v6 v7 w' => ∃ (x5_1 : List Int) (x6_1 : Int) (x7_1 : Int), v6 = .int .i64 x6_1 ∧ v7 = .int .i64 x7_1 ∧ af (bz.l0 kq l0 a1 x5_1 x6_1 x7_1 = some r) ∧ af (kq ≤ k) ∧ af (Kd.R (Kd.int .i64) 3 w' w.heap.size (fun _ => True) v5 x5_1) ∧ af (Below w.heap.size w w'))
 case atStart => exact ⟨(([] : List Int)), (wrap64 (a1 + 1)), (0), Z36, Z36, H', ⟨Nat.le_refl _⟩, ⟨Z7⟩, ⟨Z1⟩⟩
 case round =>
  clear H'
  try clear p2
  try clear c3
  try clear c4
  try clear c4b0
  obtain ⟨x5_1, x6_1, x7_1, rfl, rfl, HA, HK1, HO_5, HB⟩ := hrel
  cases gk with
  | zero => exact absurd HA.out (by simp [bz.l0])
  | succ k1 =>
   have H := HA.out
   clear HA
   simp only [bz.l0] at H
   revert H
   refine gB (fun c5b0 H => ?_) fun c5 H => ?_
   ·revert H
    refine gB (fun c6b0 H => ?_) fun c6 H => ?_
    ·revert H
     refine iR (fun c7b0 H => ?_) fun c7b0 H => ?_
     ·revert H
      refine gU (fun c8 H => ?_) fun c8 H => ?_
      ·have LMc8 := af.mk c8
       clear c8
       obtain ⟨y875, hy875⟩ : ∃ y_ : List Int, y_ = (x5_1 ++ [x6_1]) := ⟨_, rfl⟩
       replace H : ((aG.f k1 l0 x6_1).bind fun t878 => (bz.l0 k1 l0 a1 y875 t878 (wrap64 (x7_1 + 1)))) = some r := by first | (rw [hy875]; with_reducible exact H) | (have H2_ := (Option.bind_some _ _).symm.trans H; rw [hy875]; with_reducible exact H2_) | (have H2_ := (Option.bind_some _ _).symm.trans H; with_reducible exact H2_) | with_reducible exact H | (rw [hy875]; exact H) | exact H
       have Ny875 := af.mk hy875
       clear hy875
       revert H
       refine yB1 fun t878 A9 H => ?_
       have H' := af.mk H
       clear H
       have p874 : 0 ≤ (a1 : Int) := of_decide_eq_true Z13
       have q874 : a1 < (l0.length : Int) := of_decide_eq_true Z13
       obtain ⟨ad874, e874, hx874_0, hx874_1, hx874_2, hx874_3, hx874_4⟩ := iO HR0.out a1 p874 q874
       cases e874
       replace hx874_0 := (HB.out.cell (World.block_lt_of_cell? w _ hx874_0)).trans hx874_0
       replace hx874_1 := (HB.out.cell (World.block_lt_of_cell? w _ hx874_1)).trans hx874_1
       replace hx874_2 := (HB.out.cell (World.block_lt_of_cell? w _ hx874_2)).trans hx874_2
       replace hx874_3 := (HB.out.cell (World.block_lt_of_cell? w _ hx874_3)).trans hx874_3
       replace hx874_4 := (HB.out.cell (World.block_lt_of_cell? w _ hx874_4)).trans hx874_4
       replace p874 := eq_true p874
       replace q874 := eq_true q874
       go_wp2_with (first | ((with_reducible refine ed (b := .append) (xs := #[.tmp 24, .tmp 26]) rfl ?_); at_builtin; refine Kd.lZ (Kd.int .i64) (w0 := w) w.heap.size rfl (.tmp 24) (.tmp 26) 60 3 (.int .i64 0) 8 rfl Tryz.underlying60 info3 rfl (by decide) (by omega) u5 x5_1 x6_1 [.int .i64 x6_1] (fun _ => True) (fun _ => False) rfl rfl ?aP (fun _ hk => hk.elim) ?aF ?aO ?aB ?aS ?aL ?_; (case aP => exact rfl); (case aB => exact Z1); (case aF => exact (fun _ _ => trivial)); (case aO => exact Z35); (case aS => exact (bD Z1)); (case aL => have := LMc8.out; omega); intro v876 w10 ho hb hg hat; rw [← Ny875.out] at ho; refine yA2 (hb) (ho) ?_; clear HB HO_5; intro HB HO877; clear ho hb hg hat) | ((with_reducible refine gC 39 rfl ?_); refine gM 39 30 rfl Tryz.func39 (aG.calls k1 _ _ l0 x6_1 t878 _ Z3 HC0.out A9.out) ?_; rintro _ w' ⟨rfl, ⟨nd, rfl⟩⟩; refine ⟨_, rfl, ?_⟩))
       go_roundg k1
       case measure => have := HK1.out; omega
       case rel => exact ⟨(y875), (t878), (wrap64 (x7_1 + 1)), Z36, Z36, H', ⟨by have := HK1.out; omega⟩, ⟨by (with_reducible repeat (first | apply Kd.iP | apply Kd.iI | apply Kd.jf)); exact HO877.out⟩, ⟨Z1⟩⟩
      exact absurd H (by simp)
     obtain rfl := Option.some.inj H
     have p874 : 0 ≤ (a1 : Int) := of_decide_eq_true Z13
     have q874 : a1 < (l0.length : Int) := of_decide_eq_true Z13
     obtain ⟨ad874, e874, hx874_0, hx874_1, hx874_2, hx874_3, hx874_4⟩ := iO HR0.out a1 p874 q874
     cases e874
     replace hx874_0 := (HB.out.cell (World.block_lt_of_cell? w _ hx874_0)).trans hx874_0
     replace hx874_1 := (HB.out.cell (World.block_lt_of_cell? w _ hx874_1)).trans hx874_1
     replace hx874_2 := (HB.out.cell (World.block_lt_of_cell? w _ hx874_2)).trans hx874_2
     replace hx874_3 := (HB.out.cell (World.block_lt_of_cell? w _ hx874_3)).trans hx874_3
     replace hx874_4 := (HB.out.cell (World.block_lt_of_cell? w _ hx874_4)).trans hx874_4
     replace p874 := eq_true p874
     replace q874 := eq_true q874
     go_wp2
     go_ret
     exact ⟨_, Z8, Z35, Z1⟩
    exact absurd H (by simp)
   exact absurd H (by simp)
-- BY HAND: function 122 (runtime_TypeAssertionError_Error)
/-! ### dM: function 99 -/
def dM.f (F : iC) (k : Nat) (s0_0 : List (S37)) (s0_1 : Int) (s0_2 : Bool) (a1_0 : Int) (a1_1 : Int) (a1_2 : ByteArray) (a1_3 : Int) (a1_4 : ByteArray) : Option ((List (S29)) × Int × Bool) := (lg.f F k s0_0 s0_1 s0_2).bind fun bt880 => ((bg.f s0_0 bt880.2.1 bt880.2.2 (⟨#[59]⟩ : ByteArray)).bind fun bt885 => ((az.f k a1_0 a1_1 a1_2 a1_3 a1_4 (([bt880.1] : List (List (S29))))).bind fun t890 => (some (t890, bt885.1, bt885.2))))
theorem dM.mono {F F' : iC} (HLE : jT F F') : ∀ a0 a1 a2 a3 a4 a5 a6 a7 k, LeO (dM.f F k a0 a1 a2 a3 a4 a5 a6 a7) (dM.f F' (k + 1) a0 a1 a2 a3 a4 a5 a6 a7) := by
 intro a0 a1 a2 a3 a4 a5 a6 a7 k
 unfold dM.f
 have m0 := az.mono
 have m1 := (lg.mono HLE)
 exact yL
/-! ### eQ: function 101 -/
def eQ.f (k : Nat) (l0 : List (S29)) (a1 : Int) : Option ((List (S29))) := (aG.f k l0 a1).bind fun t893 => (if t893 < 0 then (some ([] : List (S29))) else (if 0 ≤ a1 then (if a1 ≤ t893 then (if t893 ≤ (l0.length : Int) then ((some ((l0.take (t893 : Int).toNat).drop (a1 : Int).toNat : List (S29))).bind fun y894 => (if ([] : List (S29)).length + y894.length < 2513169434916 then (some (([] : List (S29)) ++ y894)) else (none))) else (none)) else (none)) else (none)))
theorem eQ.mono : ∀ a0 a1 k, LeO (eQ.f k a0 a1) (eQ.f (k + 1) a0 a1) := by
 intro a0 a1 k
 unfold eQ.f
 have m0 := aG.mono
 exact yL
set_option maxHeartbeats 8000000 in
set_option maxRecDepth 100000 in
theorem eQ.calls (k : Nat) (A0 : Option Addr) (c0 : Nat) (l0 : List (S29)) (a1 : Int) (r : List (S29)) (w : World) (hr0 : Kd.C k29 w A0 l0.length l0) (hc0 : l0.length ≤ c0) (h : eQ.f k l0 a1 = some r) :
 Calls Tryz.prog 101 #[.slice A0 l0.length c0, .int .i64 a1] w fun e w' => ∃ v0_ : Value, e = .returned (v0_) ∧ Kd.R k29 29 w' w.heap.size (fun _ => True) v0_ r ∧ Below w.heap.size w w' := by
 have HR0 := af.mk hr0
 have HC0 := af.mk hc0
 clear hr0 hc0
 have HB := af.mk (Below.refl w.heap.size w)
 have H := h
 clear h
 unfold eQ.f at H
 revert H
 refine yB1 fun t893 A3 H => ?_
 revert H
 refine iR (fun c4b0 H => ?_) fun c4b0 H => ?_
 ·obtain rfl := Option.some.inj H
  go_enter Tryz.func101, Tryz.ntmps101
  go_wp2_with (first | ((with_reducible refine gC 39 rfl ?_); refine gM 39 9 rfl Tryz.func39 (aG.calls k _ _ l0 a1 t893 _ Z5 HC0.out A3.out) ?_; rintro _ w' ⟨rfl, ⟨nd, rfl⟩⟩; refine ⟨_, rfl, ?_⟩))
  go_ret
  exact ⟨_, Z8, Z7, Z1⟩
 revert H
 refine jm (fun c5b0 c5b1 H => ?_) fun c5 H => ?_
 ·revert H
  refine jm (fun c6b0 c6b1 H => ?_) fun c6 H => ?_
  ·revert H
   refine jm (fun c7b0 c7b1 H => ?_) fun c7 H => ?_
   ·obtain ⟨y894, hy894⟩ : ∃ y_ : List (S29), y_ = ((l0.take (t893 : Int).toNat).drop (a1 : Int).toNat) := ⟨_, rfl⟩
    replace H : (if ([] : List (S29)).length + y894.length < 2513169434916 then (some (([] : List (S29)) ++ y894)) else (none)) = some r := by first | (rw [hy894]; with_reducible exact H) | (have H2_ := (Option.bind_some _ _).symm.trans H; rw [hy894]; with_reducible exact H2_) | (have H2_ := (Option.bind_some _ _).symm.trans H; with_reducible exact H2_) | with_reducible exact H | (rw [hy894]; exact H) | exact H
    have Ny894 := af.mk hy894
    clear hy894
    revert H
    refine gU (fun c8 H => ?_) fun c8 H => ?_
    ·have LMc8 := af.mk c8
     clear c8
     obtain ⟨y898, hy898⟩ : ∃ y_ : List (S29), y_ = (([] : List (S29)) ++ y894) := ⟨_, rfl⟩
     replace H : (some y898) = some r := by first | (rw [hy898]; with_reducible exact H) | (have H2_ := (Option.bind_some _ _).symm.trans H; rw [hy898]; with_reducible exact H2_) | (have H2_ := (Option.bind_some _ _).symm.trans H; with_reducible exact H2_) | with_reducible exact H | (rw [hy898]; exact H) | exact H
     have Ny898 := af.mk hy898
     clear hy898
     obtain rfl := Option.some.inj H
     go_enter Tryz.func101, Tryz.ntmps101
     go_wp2_with (first | ((with_reducible refine gC 39 rfl ?_); refine gM 39 9 rfl Tryz.func39 (aG.calls k _ _ l0 a1 t893 _ Z5 HC0.out A3.out) ?_; rintro _ w' ⟨rfl, ⟨nd, rfl⟩⟩; refine ⟨_, rfl, ?_⟩; have q9 : (t893 : Int) ≤ ((l0.length : Int) : Int) := of_decide_eq_true Z13; obtain ⟨i09, hi09, _, hsz9, _⟩ := info_parts tC; have hroom9 : l0.length ≤ c0 := HC0.out; have hC9 : Kd.C k29 _ A0 l0.length l0 := HR0.out; have ql9 : (a1 : Int) ≤ (t893 : Int) := of_decide_eq_true Z13; have q09 : (0 : Int) ≤ (a1 : Int) := of_decide_eq_true Z13; have hcut9 := BD (P := Tryz.prog) 23 29 .i64 .i64 Tryz.underlying23 hi09 5 hsz9 A0 l0.length c0 a1 t893 q09 ql9 q9 hroom9; have hr9 := Kd.H8 (lo := (a1 : Int).toNat) (hi := (t893 : Int).toNat) (c := c0) hC9 (by omega) (by omega) hroom9; obtain ⟨A9, hA9⟩ : ∃ A1, A1 = (if c0 = (a1 : Int).toNat then A0 else (A0 : Option Addr).map (·.add ((a1 : Int).toNat * 5))) := ⟨_, rfl⟩; obtain ⟨c9, hc9⟩ : ∃ c1, c1 = c0 - (a1 : Int).toNat := ⟨_, rfl⟩; have hy9 : y894.length = (t893 : Int).toNat - (a1 : Int).toNat := (by rw [Ny894.out, List.length_drop, List.length_take] <;> omega); rw [show ((l0).take (t893 : Int).toNat).drop (a1 : Int).toNat = y894 from Ny894.out.symm] at hr9; replace hr9 : Kd.C k29 _ A9 y894.length y894 := (by rw [hA9]; exact hr9); rw [← hy9, ← hA9, ← hc9] at hcut9; have HR897 := af.mk hr9; have HC897 := af.mk (show y894.length ≤ c9 from by rw [hy9, hc9]; exact Nat.sub_le_sub_right (Nat.le_trans (by omega) hroom9) _); clear hr9 hC9 hroom9 hi09 hsz9 hc9; have KY9 := af.mk hy9; have KA9 := af.mk hA9; clear hy9 hA9; replace q9 := eq_true q9) | ((with_reducible refine ed (b := .append) (xs := #[.tmp 13, .tmp 17]) rfl ?_); at_builtin; refine Kd.lD k29 (w0 := w) w.heap.size rfl (.tmp 13) (.tmp 17) 23 29 (.agg #[(.int .i64 0), (.int .i64 0), (.string ⟨#[]⟩), (.int .i64 0), (.string ⟨#[]⟩)]) 56 rfl Tryz.underlying23 tC rfl (by decide) (by omega) (.slice none 0 0) ([] : List (S29)) y894 _ _ _ (fun _ => True) (fun _ => False) rfl rfl ?aO ?aR (fun _ _ h => h) (fun _ h => h.elim) ?aF ?aB ?aS ?aL ?_; (case aR => repeat (first | exact HR897.out | (with_reducible refine Kd.jR ?_ _) | (with_reducible refine Kd.jQ ?_ _) | (with_reducible refine Kd.kV ?_))); (case aB => exact Z1); (case aF => exact (fun _ _ => trivial)); (case aO => exact ((Kd.nR _ _ _ _ (fun _ => True)))); (case aS => exact (bD Z1)); (case aL => have := LMc8.out; omega); intro v899 w10 ho hb hg hat; rw [← Ny898.out] at ho; refine yA2 (hb) (ho) ?_; clear HB; intro HB HO900; clear ho hb hg hat))
     go_ret
     exact ⟨_, Z8, by (with_reducible repeat (first | apply Kd.iP | apply Kd.iI | apply Kd.jf)); exact HO900.out, Z1⟩
    exact absurd H (by simp)
   exact absurd H (by simp)
  exact absurd H (by simp)
 exact absurd H (by simp)
-- BY HAND: function 123 (runtime_TypeAssertionError_RuntimeError)
end Go.Proofs.YtkbhkonenkgfoaaGreat.Q
end
section
namespace Go.Proofs.YtkbhkonenkgfoaaGreat.Q
open Go.RowKit Go.Proofs.YtkbhkonenkgfoaaGreatW.PrintWords Go.Proofs.YtkbhkonenkgfoaaGreatW.PrintLast Go.Proofs.YtkbhkonenkgfoaaGreatW.PrintMore
attribute [local go_sem] iM iL iK iJ dJ dH dS dR cZ cO dI dG
set_option linter.unusedVariables false
set_option linter.unusedSimpArgs false
/-! ### bI: function 94 -/
def bI.j0 (F : iC) : Nat → List (S29) → Bool → List (S37) → Int → Bool → Option ((List (S29)) × Int × Bool)
 | 0, _, _, _, _, _ => none
 | k + 1, x7, x101, x1000, x1001, x1002 => if x101 = true then ((bg.f x1000 x1001 x1002 (⟨#[59]⟩ : ByteArray)).bind fun bt1025 => ((az.f k 17 0 (⟨#[]⟩ : ByteArray) 0 (⟨#[]⟩ : ByteArray) (([x7] : List (List (S29))))).bind fun t1030 => (some (t1030, bt1025.1, bt1025.2)))) else (if 0 < (x7.length : Int) then (if ((ax x7 0).f0) = 21 then ((bg.f x1000 x1001 x1002 (⟨#[61]⟩ : ByteArray)).bind fun bt1034 => ((dM.f F k x1000 bt1034.1 bt1034.2 7 0 ((ax x7 0).f2) 0 (⟨#[]⟩ : ByteArray)).bind fun bt1037 => (some (bt1037.1, bt1037.2.1, bt1037.2.2)))) else (if ((ax x7 0).f0) = 26 then ((bg.f x1000 x1001 x1002 (⟨#[61]⟩ : ByteArray)).bind fun bt1043 => ((lg.f F k x1000 bt1043.1 bt1043.2).bind fun bt1045 => ((bg.f x1000 bt1045.2.1 bt1045.2.2 (⟨#[59]⟩ : ByteArray)).bind fun bt1050 => ((bz.f k x7 0).bind fun t1052 => (if 0 < (t1052.length : Int) then ((eQ.f k x7 (rd t1052 0)).bind fun t1056 => (if 1 < (t1052.length : Int) then ((eQ.f k x7 (rd t1052 1)).bind fun t1060 => ((az.f k 8 0 (⟨#[]⟩ : ByteArray) 0 (⟨#[]⟩ : ByteArray) (([t1056, t1060, bt1045.1] : List (List (S29))))).bind fun t1066 => (some (t1066, bt1050.1, bt1050.2)))) else (none))) else (none)))))) else (some (([] : List (S29)), x1001, true)))) else (none))
def bI.f (F : iC) (k : Nat) (s0_0 : List (S37)) (s0_1 : Int) (s0_2 : Bool) : Option ((List (S29)) × Int × Bool) := (bC.f s0_0 s0_1 s0_2 (⟨#[108, 101, 116]⟩ : ByteArray)).bind fun bt901 => (if bt901.1 = true then ((jJ.f s0_0 bt901.2.1 bt901.2.2 1).bind fun bt904 => ((bg.f s0_0 bt904.2.2.2.2.1 bt904.2.2.2.2.2 (⟨#[61]⟩ : ByteArray)).bind fun bt910 => ((dM.f F k s0_0 bt910.1 bt910.2 6 0 bt904.2.1 0 (⟨#[]⟩ : ByteArray)).bind fun bt912 => (some (bt912.1, bt912.2.1, bt912.2.2))))) else ((bC.f s0_0 bt901.2.1 bt901.2.2 (⟨#[105, 102]⟩ : ByteArray)).bind fun bt917 => (if bt917.1 = true then ((lg.f F k s0_0 bt917.2.1 bt917.2.2).bind fun bt920 => ((pX.f F k s0_0 bt920.2.1 bt920.2.2).bind fun bt925 => ((some (([bt920.1, bt925.1] : List (List (S29))) : List (List (S29)))).bind fun y930 => ((bC.f s0_0 bt925.2.1 bt925.2.2 (⟨#[101, 108, 115, 101]⟩ : ByteArray)).bind fun bt933 => (if bt933.1 = true then ((pX.f F k s0_0 bt933.2.1 bt933.2.2).bind fun bt936 => (if y930.length < 5864062014805 then ((az.f k 9 0 (⟨#[]⟩ : ByteArray) 0 (⟨#[]⟩ : ByteArray) (y930 ++ [bt936.1])).bind fun t944 => (some (t944, bt936.2.1, bt936.2.2))) else (none))) else ((az.f k 9 0 (⟨#[]⟩ : ByteArray) 0 (⟨#[]⟩ : ByteArray) y930).bind fun t947 => (some (t947, bt933.2.1, bt933.2.2)))))))) else ((bC.f s0_0 bt917.2.1 bt917.2.2 (⟨#[119, 104, 105, 108, 101]⟩ : ByteArray)).bind fun bt950 => (if bt950.1 = true then ((lg.f F k s0_0 bt950.2.1 bt950.2.2).bind fun bt953 => ((pX.f F k s0_0 bt953.2.1 bt953.2.2).bind fun bt958 => ((az.f k 10 0 (⟨#[]⟩ : ByteArray) 0 (⟨#[]⟩ : ByteArray) (([bt953.1, bt958.1] : List (List (S29))))).bind fun t966 => (some (t966, bt958.2.1, bt958.2.2))))) else ((bC.f s0_0 bt950.2.1 bt950.2.2 (⟨#[98, 114, 101, 97, 107]⟩ : ByteArray)).bind fun bt969 => (if bt969.1 = true then ((bg.f s0_0 bt969.2.1 bt969.2.2 (⟨#[59]⟩ : ByteArray)).bind fun bt972 => (some ((([(⟨11, 0, (⟨#[]⟩ : ByteArray), 0, (⟨#[]⟩ : ByteArray)⟩ : S29)] : List (S29))), bt972.1, bt972.2))) else ((bC.f s0_0 bt969.2.1 bt969.2.2 (⟨#[99, 111, 110, 116, 105, 110, 117, 101]⟩ : ByteArray)).bind fun bt977 => (if bt977.1 = true then ((bg.f s0_0 bt977.2.1 bt977.2.2 (⟨#[59]⟩ : ByteArray)).bind fun bt980 => (some ((([(⟨12, 0, (⟨#[]⟩ : ByteArray), 0, (⟨#[]⟩ : ByteArray)⟩ : S29)] : List (S29))), bt980.1, bt980.2))) else ((bC.f s0_0 bt977.2.1 bt977.2.2 (⟨#[121, 105, 101, 108, 100]⟩ : ByteArray)).bind fun bt985 => (if bt985.1 = true then ((bg.f s0_0 bt985.2.1 bt985.2.2 (⟨#[59]⟩ : ByteArray)).bind fun bt988 => (some ((([(⟨16, 0, (⟨#[]⟩ : ByteArray), 0, (⟨#[]⟩ : ByteArray)⟩ : S29)] : List (S29))), bt988.1, bt988.2))) else ((bC.f s0_0 bt985.2.1 bt985.2.2 (⟨#[114, 101, 116, 117, 114, 110]⟩ : ByteArray)).bind fun bt993 => (if bt993.1 = true then ((dM.f F k s0_0 bt993.2.1 bt993.2.2 13 0 (⟨#[]⟩ : ByteArray) 0 (⟨#[]⟩ : ByteArray)).bind fun bt996 => (some (bt996.1, bt996.2.1, bt996.2.2))) else ((bC.f s0_0 bt993.2.1 bt993.2.2 (⟨#[112, 117, 116]⟩ : ByteArray)).bind fun bt1001 => (if bt1001.1 = true then ((dM.f F k s0_0 bt1001.2.1 bt1001.2.2 14 0 (⟨#[]⟩ : ByteArray) 0 (⟨#[]⟩ : ByteArray)).bind fun bt1004 => (some (bt1004.1, bt1004.2.1, bt1004.2.2))) else ((bC.f s0_0 bt1001.2.1 bt1001.2.2 (⟨#[101, 109, 105, 116]⟩ : ByteArray)).bind fun bt1009 => (if bt1009.1 = true then ((dM.f F k s0_0 bt1009.2.1 bt1009.2.2 15 0 (⟨#[]⟩ : ByteArray) 0 (⟨#[]⟩ : ByteArray)).bind fun bt1012 => (some (bt1012.1, bt1012.2.1, bt1012.2.2))) else ((lg.f F k s0_0 bt1009.2.1 bt1009.2.2).bind fun bt1017 => (if bt1017.2.2 = true then (bI.j0 F k bt1017.1 true s0_0 bt1017.2.1 bt1017.2.2) else ((eU.f s0_0 bt1017.2.1 bt1017.2.2 (⟨#[61]⟩ : ByteArray)).bind fun bt1022 => (bI.j0 F k bt1017.1 (!bt1022.1) s0_0 bt1022.2.1 bt1022.2.2)))))))))))))))))))))
theorem bI.bZ {F F' : iC} (HLE : jT F F') : ∀ k, (∀ y0 y1 y2 y3 y4, LeO (bI.j0 F k y0 y1 y2 y3 y4) (bI.j0 F' (k + 1) y0 y1 y2 y3 y4))
 | 0 => fun _ _ _ _ _ r h => by simp [bI.j0] at h
 | k + 1 => by
  have ih0 := bI.bZ HLE k
  intro y0 y1 y2 y3 y4
  unfold bI.j0
  have m0 := bz.mono
  have m1 := eQ.mono
  have m2 := az.mono
  have m3 := (dM.mono HLE)
  have m4 := (pX.mono HLE)
  have m5 := (lg.mono HLE)
  exact yL
theorem bI.mono {F F' : iC} (HLE : jT F F') : ∀ a0 a1 a2 k, LeO (bI.f F k a0 a1 a2) (bI.f F' (k + 1) a0 a1 a2) := by
 intro a0 a1 a2 k
 have ih0 := bI.bZ HLE k
 unfold bI.f
 have m0 := bz.mono
 have m1 := eQ.mono
 have m2 := az.mono
 have m3 := (dM.mono HLE)
 have m4 := (pX.mono HLE)
 have m5 := (lg.mono HLE)
 exact yL
end Go.Proofs.YtkbhkonenkgfoaaGreat.Q
end
section
namespace Go.Proofs.YtkbhkonenkgfoaaGreat.Q
open Go.RowKit Go.Proofs.YtkbhkonenkgfoaaGreatW.PrintWords Go.Proofs.YtkbhkonenkgfoaaGreatW.PrintLast Go.Proofs.YtkbhkonenkgfoaaGreatW.PrintMore
attribute [local go_sem] iM iL iK iJ dJ dH dS dR cZ cO dI dG
set_option linter.unusedVariables false
set_option linter.unusedSimpArgs false
/-! ### bu: function 80 -/
def bu.l0 (F : iC) : Nat → List (List (S29)) → List (S37) → Int → Bool → Option ((List (S29)) × Int × Bool)
 | 0, _, _, _, _ => none
 | k + 1, x3, x1000, x1001, x1002 => if x1002 = true then ((bg.f x1000 x1001 x1002 (⟨#[125]⟩ : ByteArray)).bind fun bt1071 => ((az.f k 5 0 (⟨#[]⟩ : ByteArray) 0 (⟨#[]⟩ : ByteArray) x3).bind fun t1073 => (some (t1073, bt1071.1, bt1071.2)))) else ((eU.f x1000 x1001 x1002 (⟨#[125]⟩ : ByteArray)).bind fun bt1076 => (if bt1076.1 = true then ((bg.f x1000 bt1076.2.1 bt1076.2.2 (⟨#[125]⟩ : ByteArray)).bind fun bt1079 => ((az.f k 5 0 (⟨#[]⟩ : ByteArray) 0 (⟨#[]⟩ : ByteArray) x3).bind fun t1081 => (some (t1081, bt1079.1, bt1079.2)))) else ((bI.f F k x1000 bt1076.2.1 bt1076.2.2).bind fun bt1084 => (if x3.length < 5864062014805 then (bu.l0 F k (x3 ++ [bt1084.1]) x1000 bt1084.2.1 bt1084.2.2) else (none)))))
def bu.f (F : iC) (k : Nat) (s0_0 : List (S37)) (s0_1 : Int) (s0_2 : Bool) : Option ((List (S29)) × Int × Bool) := (bg.f s0_0 s0_1 s0_2 (⟨#[123]⟩ : ByteArray)).bind fun bt1069 => (bu.l0 F k ([] : List (List (S29))) s0_0 bt1069.1 bt1069.2)
theorem bu.bZ {F F' : iC} (HLE : jT F F') : ∀ k, (∀ y0 y1 y2 y3, LeO (bu.l0 F k y0 y1 y2 y3) (bu.l0 F' (k + 1) y0 y1 y2 y3))
 | 0 => fun _ _ _ _ r h => by simp [bu.l0] at h
 | k + 1 => by
  have ih0 := bu.bZ HLE k
  intro y0 y1 y2 y3
  unfold bu.l0
  have m0 := az.mono
  have m1 := (bI.mono HLE)
  exact yL
theorem bu.mono {F F' : iC} (HLE : jT F F') : ∀ a0 a1 a2 k, LeO (bu.f F k a0 a1 a2) (bu.f F' (k + 1) a0 a1 a2) := by
 intro a0 a1 a2 k
 have ih0 := bu.bZ HLE k
 unfold bu.f
 have m0 := az.mono
 have m1 := (bI.mono HLE)
 exact yL
/-! ### dC: function 38 -/
def dC.f (F : iC) (k : Nat) (s0_0 : List (S37)) (s0_1 : Int) (s0_2 : Bool) : Option ((List (List (S29))) × Int × Bool) := (aC.f k s0_0 s0_1 s0_2).bind fun bt1092 => ((bu.f F k s0_0 bt1092.2.1 bt1092.2.2).bind fun bt1097 => (if bt1092.1.length < 5864062014805 then (some ((bt1092.1 ++ [bt1097.1]), bt1097.2.1, bt1097.2.2)) else (none)))
theorem dC.mono {F F' : iC} (HLE : jT F F') : ∀ a0 a1 a2 k, LeO (dC.f F k a0 a1 a2) (dC.f F' (k + 1) a0 a1 a2) := by
 intro a0 a1 a2 k
 unfold dC.f
 have m0 := (bu.mono HLE)
 have m1 := aC.mono
 exact yL
end Go.Proofs.YtkbhkonenkgfoaaGreat.Q
end
section
namespace Go.Proofs.YtkbhkonenkgfoaaGreat.Q
open Go.RowKit Go.Proofs.YtkbhkonenkgfoaaGreatW.PrintWords Go.Proofs.YtkbhkonenkgfoaaGreatW.PrintLast Go.Proofs.YtkbhkonenkgfoaaGreatW.PrintMore
attribute [local go_sem] iM iL iK iJ dJ dH dS dR cZ cO dI dG
set_option linter.unusedVariables false
set_option linter.unusedSimpArgs false
-- BY HAND: function 110 (chrysalisref10_row_prim)
/-! ### aH: function 111 -/
mutual
def aH.l0 (F : iC) : Nat → List (List (S29)) → Int → List (S37) → Int → Bool → Option ((List (List (S29))) × Int × Bool)
 | 0, _, _, _, _, _ => none
 | k + 1, x3, x4, x1000, x1001, x1002 => if x1002 = true then (aH.j1 F k x3 x4 false x1000 x1001 x1002) else ((eU.f x1000 x1001 x1002 (⟨#[41]⟩ : ByteArray)).bind fun bt1263 => (aH.j1 F k x3 x4 (!bt1263.1) x1000 bt1263.2.1 bt1263.2.2))
def aH.j1 (F : iC) : Nat → List (List (S29)) → Int → Bool → List (S37) → Int → Bool → Option ((List (List (S29))) × Int × Bool)
 | 0, _, _, _, _, _, _ => none
 | k + 1, x3, x4, x16, x1000, x1001, x1002 => if x16 = true then (if x4 > 0 then ((bg.f x1000 x1001 x1002 (⟨#[44]⟩ : ByteArray)).bind fun bt1268 => ((lg.f F k x1000 bt1268.1 bt1268.2).bind fun bt1270 => (if x3.length < 5864062014805 then (aH.l0 F k (x3 ++ [bt1270.1]) (wrap64 (x4 + 1)) x1000 bt1270.2.1 bt1270.2.2) else (none)))) else ((lg.f F k x1000 x1001 x1002).bind fun bt1278 => (if x3.length < 5864062014805 then (aH.l0 F k (x3 ++ [bt1278.1]) (wrap64 (x4 + 1)) x1000 bt1278.2.1 bt1278.2.2) else (none)))) else ((bg.f x1000 x1001 x1002 (⟨#[41]⟩ : ByteArray)).bind fun bt1266 => (some (x3, bt1266.1, bt1266.2)))
end
def aH.f (F : iC) (k : Nat) (s0_0 : List (S37)) (s0_1 : Int) (s0_2 : Bool) : Option ((List (List (S29))) × Int × Bool) := (bg.f s0_0 s0_1 s0_2 (⟨#[40]⟩ : ByteArray)).bind fun bt1261 => (aH.l0 F k ([] : List (List (S29))) 0 s0_0 bt1261.1 bt1261.2)
theorem aH.bZ {F F' : iC} (HLE : jT F F') : ∀ k, (∀ y0 y1 y2 y3 y4, LeO (aH.l0 F k y0 y1 y2 y3 y4) (aH.l0 F' (k + 1) y0 y1 y2 y3 y4)) ∧ (∀ y0 y1 y2 y3 y4 y5, LeO (aH.j1 F k y0 y1 y2 y3 y4 y5) (aH.j1 F' (k + 1) y0 y1 y2 y3 y4 y5))
 | 0 => ⟨fun _ _ _ _ _ r h => by simp [aH.l0] at h, fun _ _ _ _ _ _ r h => by simp [aH.j1] at h⟩
 | k + 1 => by
  obtain ⟨ih0, ih1⟩ := aH.bZ HLE k
  refine ⟨?_, ?_⟩
  ·intro y0 y1 y2 y3 y4
   unfold aH.l0
   have m0 := (lg.mono HLE)
   exact yL
  intro y0 y1 y2 y3 y4 y5
  unfold aH.j1
  have m0 := (lg.mono HLE)
  exact yL
theorem aH.mono {F F' : iC} (HLE : jT F F') : ∀ a0 a1 a2 k, LeO (aH.f F k a0 a1 a2) (aH.f F' (k + 1) a0 a1 a2) := by
 intro a0 a1 a2 k
 obtain ⟨ih0, ih1⟩ := aH.bZ HLE k
 unfold aH.f
 have m0 := (lg.mono HLE)
 exact yL
-- BY HAND: function 124 (runtime_PanicNilError_Error)
end Go.Proofs.YtkbhkonenkgfoaaGreat.Q
end
section
set_option linter.unusedVariables false
set_option linter.unusedSimpArgs false
namespace Go.Proofs.YtkbhkonenkgfoaaGreat.Q
open Go Go.RowKit Go.Proofs.YtkbhkonenkgfoaaGreatW.PrintWords Go.Proofs.YtkbhkonenkgfoaaGreatW.PrintLast Go.Proofs.YtkbhkonenkgfoaaGreatW.PrintMore
attribute [local go_sem] l7 lu lq lm
def uP.f (F : iC) (k : Nat) (s0 : List S37) (s1 : Int) : Option (List S29 × Int × Bool) :=
 if (dY s0 s1).f0 = 2 then (if s1 < 9223372036854775807 then some ([(⟨19, 0, (⟨#[]⟩ : ByteArray), (dY s0 s1).f2, (⟨#[]⟩ : ByteArray)⟩ : S29)], s1 + 1, false) else none)
 else if (dY s0 s1).f0 = 3 then (if s1 < 9223372036854775807 then some ([(⟨20, 0, (⟨#[]⟩ : ByteArray), 0, (dY s0 s1).f1⟩ : S29)], s1 + 1, false) else none)
 else (jJ.f s0 s1 false 1).bind fun n => (bC.f s0 n.2.2.2.2.1 n.2.2.2.2.2 (⟨#[46]⟩ : ByteArray)).bind fun t => if t.1 = true then ((jJ.f s0 t.2.1 t.2.2 1).bind fun u => (aH.f F k s0 u.2.2.2.2.1 u.2.2.2.2.2).bind fun a => (az.f k 23 0 n.2.1 0 u.2.1 a.1).bind fun x => some (x, a.2.1, a.2.2)) else some ([(⟨21, 0, n.2.1, 0, (⟨#[]⟩ : ByteArray)⟩ : S29)], t.2.1, t.2.2)
def mf.f (F : iC) (k : Nat) (s0 : List S37) (s1 : Int) (s2 : Bool) : Option (List S29 × Int × Bool) :=
 (bC.f s0 s1 s2 (⟨#[110, 105, 108]⟩ : ByteArray)).bind fun a => if a.1 = true then some ([(⟨18, 0, (⟨#[]⟩ : ByteArray), 0, (⟨#[]⟩ : ByteArray)⟩ : S29)], a.2.1, a.2.2) else
 (bC.f s0 a.2.1 a.2.2 (⟨#[115, 116, 97, 116, 101]⟩ : ByteArray)).bind fun b => if b.1 = true then some ([(⟨29, 0, (⟨#[]⟩ : ByteArray), 0, (⟨#[]⟩ : ByteArray)⟩ : S29)], b.2.1, b.2.2) else
 (bC.f s0 b.2.1 b.2.2 (⟨#[123]⟩ : ByteArray)).bind fun c => if c.1 = true then ((bg.f s0 c.2.1 c.2.2 (⟨#[125]⟩ : ByteArray)).bind fun d => some ([(⟨25, 0, (⟨#[]⟩ : ByteArray), 0, (⟨#[]⟩ : ByteArray)⟩ : S29)], d.1, d.2)) else
 (bC.f s0 c.2.1 c.2.2 (⟨#[102, 110]⟩ : ByteArray)).bind fun d => if d.1 = true then ((dC.f F k s0 d.2.1 d.2.2).bind fun e => (az.f k 24 0 (⟨#[]⟩ : ByteArray) 0 (⟨#[]⟩ : ByteArray) e.1).bind fun x => some (x, e.2.1, e.2.2)) else
 (bC.f s0 d.2.1 d.2.2 (⟨#[40]⟩ : ByteArray)).bind fun e => if e.1 = true then ((lg.f F k s0 e.2.1 e.2.2).bind fun x => (bg.f s0 x.2.1 x.2.2 (⟨#[41]⟩ : ByteArray)).bind fun m => some (x.1, m.1, m.2)) else
 if e.2.2 = true then some ([], e.2.1, true) else if e.2.1 ≥ (s0.length : Int) then some ([], e.2.1, true) else if 0 ≤ e.2.1 then uP.f F k s0 e.2.1 else none
theorem mf.mono {F F' : iC} (HLE : jT F F') (a b c) (k : Nat) : LeO (mf.f F k a b c) (mf.f F' (k + 1) a b c) := by
 unfold mf.f uP.f
 have m0 := az.mono
 have m1 := (dC.mono HLE)
 have m2 := (aH.mono HLE)
 have m3 := (lg.mono HLE)
 exact yL
end Go.Proofs.YtkbhkonenkgfoaaGreat.Q
end
section
set_option linter.unusedVariables false
set_option linter.unusedSimpArgs false
namespace Go.Proofs.YtkbhkonenkgfoaaGreat.Q
open Go Go.RowKit Go.Proofs.YtkbhkonenkgfoaaGreatW.PrintWords Go.Proofs.YtkbhkonenkgfoaaGreatW.PrintLast Go.Proofs.YtkbhkonenkgfoaaGreatW.PrintMore
attribute [local go_sem] l7 lu lq lm
theorem isC (g : Nat) (s0 : List S37) (s1 : Int) (s2 : Bool) (x : ByteArray) (r : Bool) (q : Int) (b : Bool) (w0 w : World) (hI : Rd 47 w0 w g s0 s1 s2) (hB : Below w0.heap.size w0 w) (h : eU.f s0 s1 s2 x = some (r, q, b)) :
 Calls Tryz.prog 78 #[.pointer (some ⟨g, 0, none⟩), .string x] w (Back 47 w0 w g s0 q b fun e _ => e = .returned (.bool r)) := eU.calls g s0 s1 s2 x r q b w0 w hI hB h
theorem uj (g : Nat) (s0 : List S37) (s1 : Int) (s2 : Bool) (x : Int) (t1 : Int) (t2 : ByteArray) (t3 t4 q : Int) (b : Bool) (w0 w : World) (hI : Rd 47 w0 w g s0 s1 s2) (hB : Below w0.heap.size w0 w) (h : jJ.f s0 s1 s2 x = some (t1, t2, t3, t4, q, b)) :
 Calls Tryz.prog 35 #[.pointer (some ⟨g, 0, none⟩), .int .i64 x] w (Back 47 w0 w g s0 q b fun e _ => e = .returned (.agg #[.int .i64 t1, .string t2, .int .i64 t3, .int .i64 t4])) := jJ.calls g s0 s1 s2 x t1 t2 t3 t4 q b w0 w hI hB h
theorem qh (k : Nat) (a0 a1 : Int) (a2 : ByteArray) (a3 : Int) (a4 : ByteArray) (A : Option Addr) (c : Nat) (l : List (List S29)) (r : List S29) (w : World) (hr : Kd.C (Kd.slice 29 k29) w A l.length l) (hc : l.length ≤ c) (h : az.f k a0 a1 a2 a3 a4 l = some r) :
 Calls Tryz.prog 37 #[.agg #[.int .i64 a0, .int .i64 a1, .string a2, .int .i64 a3, .string a4], .slice A l.length c] w fun e w' => ∃ v, e = .returned v ∧ Kd.R k29 29 w' w.heap.size (fun _ => True) v r ∧ Below w.heap.size w w' := az.calls k a0 a1 a2 a3 a4 A c l r w hr hc h
set_option maxHeartbeats 8000000 in
set_option maxRecDepth 100000 in
theorem takeC (g : Nat) (s0 : List S37) (s1 : Int) (s2 : Bool) (x : ByteArray) (r : Bool) (e1 : Int) (e2 : Bool) (w0 w : World) (hI : Rd 47 w0 w g s0 s1 s2) (hB : Below w0.heap.size w0 w) (h : bC.f s0 s1 s2 x = some (r, e1, e2)) :
 Calls Tryz.prog 36 #[.pointer (some ⟨g, 0, none⟩), .string x] w (Back 47 w0 w g s0 e1 e2 fun e _ => e = .returned (.bool r)) := by
 unfold bC.f at h
 have HS := St.new (T := 47) (by decide) hI hB
 have H := af.mk h
 clear h hI hB
 go_enter Tryz.func36, Tryz.ntmps36
 go_wp2_with ((with_reducible refine gC 78 rfl ?_); refine sB 78 rfl Tryz.func78 (stT HS) H (fun t q b hI hB => isC g _ _ _ _ t q b w0 _ hI hB) ?_; clear HS H; intro t q b w' HS H; have hc1 := HS.rd.cell1; have hf1 := HS.rd.fro 1; cases t <;> (try simp only [if_true, if_false, eq_self, Bool.false_eq_true, Bool.not_true, Bool.not_false] at H))
 all_goals
  have h_ := H.out; simp only [Option.some.injEq, Prod.mk.injEq] at h_; obtain ⟨rfl, rfl, rfl⟩ := h_
  go_ret
  exact (stT HS).back rfl
set_option maxHeartbeats 8000000 in
set_option maxRecDepth 100000 in
theorem oq (g : Nat) (s0 : List S37) (s1 : Int) (s2 : Bool) (x : ByteArray) (e1 : Int) (e2 : Bool) (w0 w : World) (hI : Rd 47 w0 w g s0 s1 s2) (hB : Below w0.heap.size w0 w) (h : bg.f s0 s1 s2 x = some (e1, e2)) :
 Calls Tryz.prog 34 #[.pointer (some ⟨g, 0, none⟩), .string x] w (Back 47 w0 w g s0 e1 e2 fun e _ => e = .returned (.tuple #[])) := by
 unfold bg.f at h
 have HS := St.new (T := 47) (by decide) hI hB
 have H := af.mk h
 clear h hI hB
 go_enter Tryz.func34, Tryz.ntmps34
 go_wp2_with ((with_reducible refine gC 36 rfl ?_); refine sB 36 rfl Tryz.func36 (stT HS) H (fun t q b hI hB => takeC g _ _ _ _ t q b w0 _ hI hB) ?_; clear HS H; intro t q b w' HS H; have hc2 := HS.rd.cell2; have hf2 := HS.rd.fro 2; cases t <;> (try simp only [if_true, if_false, eq_self, Bool.false_eq_true, Bool.not_true, Bool.not_false] at H))
 all_goals
  have h_ := H.out; simp only [Option.some.injEq, Prod.mk.injEq] at h_; obtain ⟨rfl, rfl⟩ := h_
  (first | go_end0 | ((try simp only [Exit.inBlock, Exit.then]); refine bodyPost_ret (results_none rfl _ _ _) rfl ?_))
  exact (stT HS).back rfl
set_option maxHeartbeats 8000000 in
set_option maxRecDepth 100000 in
theorem Hz (F : iC) (HF : nT F) (k : Nat) (g : Nat) (s0 : List S37) (s1 : Int) (s2 : Bool) (r : List (List S29)) (e1 : Int) (e2 : Bool) (w0 w : World) (hI : Rd 47 w0 w g s0 s1 s2) (hB : Below w0.heap.size w0 w) (h : aH.f F k s0 s1 s2 = some (r, e1, e2)) :
 Calls Tryz.prog 111 #[.pointer (some ⟨g, 0, none⟩)] w (Back 47 w0 w g s0 e1 e2 (IsK w g r)) := by
 unfold aH.f at h
 have HS := St.new (T := 47) (by decide) hI hB
 have H := af.mk h
 clear h hI hB
 go_enter Tryz.func111, Tryz.ntmps111
 go_wp2_with (first | ((with_reducible refine gC 34 rfl ?_); refine sU 34 rfl Tryz.func34 (stT HS) H (fun q b hI hB => oq g _ _ _ _ q b w0 _ hI hB) ?_; clear HS H; intro q b w' HS H; (try dsimp only at H)))
 (try simp only [Act.put, List.setIfInBounds_toArray, List.set_cons_zero, List.set_cons_succ])
 go_loopg [3, 4] k (fun kq v3 v4 w' => ∃ (x3 : List (List S29)) (x4 : Int) (p : Int) (d : Bool) (A : Option Addr) (c : Nat), v3 = .slice A x3.length c ∧ v4 = .int .i64 x4 ∧ af (aH.l0 F kq x3 x4 s0 p d = some (r, e1, e2)) ∧ af (kq ≤ k) ∧ St 47 w0 w w' g s0 p d [] [(.slice A x3.length c, x3)] ⟨[], []⟩)
 case atStart => exact ⟨[], 0, _, _, none, 0, rfl, rfl, H, ⟨Nat.le_refl _⟩, (stT HS).clear.sZ⟩
 case round =>
  clear HS H
  obtain ⟨x3, x4, p, d, A, c, rfl, rfl, H, HK1, HS⟩ := hrel
  cases gk with
  | zero => exact absurd H.out (by simp [aH.l0])
  | succ k1 =>
   simp only [aH.l0] at H
   cases k1 with
   | zero => exact absurd H.out (by cases d <;> simp [aH.j1])
   | succ k2 =>
   simp only [aH.j1] at H
   have hc2 := HS.rd.cell2
   by_cases hx : x4 > 0
   all_goals
    simp only [hx, if_true, if_false] at H
    first | (have hxb : decide (0 < x4) = true := decide_eq_true hx) | (have hxb : decide (0 < x4) = false := decide_eq_false hx)
    clear hx
   all_goals
    cases d <;> (try simp only [if_true, if_false, eq_self, Bool.false_eq_true, Bool.not_true, Bool.not_false] at H)
   all_goals go_wp2_with (first | (go_at_call 78; refine cB HS H (fun t q b hI hB => isC g _ _ _ _ t q b w0 _ hI hB) ?_; clear HS H; intro t q b w' HS H; cases t <;> (try simp only [if_true, if_false, eq_self, Bool.false_eq_true, Bool.not_true, Bool.not_false] at H)) | ((with_reducible refine gC 34 rfl ?_); refine sU 34 rfl Tryz.func34 (stT HS) H (fun q b hI hB => oq g _ _ _ _ q b w0 _ hI hB) ?_; clear HS H; intro q b w' HS H; (try dsimp only at H)) | ((with_reducible refine gC 100 rfl ?_); refine sL 100 rfl Tryz.func100 (stT HS) H (fun t q b hI hB => HF.expr g _ _ _ t q b w0 _ hI hB) ?_; clear HS H; intro t q b w' A c HS H; (try dsimp only at H)) | ((with_reducible refine bH (N := 26) rfl ?_); refine kR (N := 26) (stT HS) (by first | (go_simp; done) | (go_simp; rfl)) ?_; clear HS; intro A c w' HS) | ((with_reducible refine ed (b := .append) (xs := #[.tmp 23, .tmp 26]) rfl ?_); at_builtin; refine app (N := 27) (.tmp 23) (.tmp 26) rfl Tryz.underlying55 info23 (stT HS) rfl rfl H ?_; clear HS H; intro A c w' HS H))
   all_goals first
    | (go_roundg k2; (case measure => have := HK1.out; omega); (case rel => exact ⟨_, _, _, _, _, _, by first | rfl | simp, rfl, H, ⟨by have := HK1.out; omega⟩, stT HS⟩))
    | (have h_ := H.out; simp only [Option.some.injEq, Prod.mk.injEq] at h_; obtain ⟨rfl, rfl, rfl⟩ := h_; go_ret; exact (stT HS).zA)
set_option maxHeartbeats 8000000 in
set_option maxRecDepth 100000 in
theorem Gh (k : Nat) (g : Nat) (s0 : List S37) (s1 : Int) (s2 : Bool) (r : List (List S29)) (e1 : Int) (e2 : Bool) (w0 w : World) (hI : Rd 47 w0 w g s0 s1 s2) (hB : Below w0.heap.size w0 w) (h : aC.f k s0 s1 s2 = some (r, e1, e2)) :
 Calls Tryz.prog 79 #[.pointer (some ⟨g, 0, none⟩)] w (Back 47 w0 w g s0 e1 e2 (IsK w g r)) := by
 unfold aC.f at h
 have HS := St.new (T := 47) (by decide) hI hB
 have H := af.mk h
 clear h hI hB
 go_enter Tryz.func79, Tryz.ntmps79
 go_wp2_with (first | ((with_reducible refine gC 34 rfl ?_); refine sU 34 rfl Tryz.func34 (stT HS) H (fun q b hI hB => oq g _ _ _ _ q b w0 _ hI hB) ?_; clear HS H; intro q b w' HS H; (try dsimp only at H)))
 (try simp only [Act.put, List.setIfInBounds_toArray, List.set_cons_zero, List.set_cons_succ])
 go_loopg [3, 4] k (fun kq v3 v4 w' => ∃ (x3 : List (List S29)) (x4 : Int) (p : Int) (d : Bool) (A : Option Addr) (c : Nat), v3 = .slice A x3.length c ∧ v4 = .int .i64 x4 ∧ af (aC.l0 kq x3 x4 s0 p d = some (r, e1, e2)) ∧ af (kq ≤ k) ∧ St 47 w0 w w' g s0 p d [] [(.slice A x3.length c, x3)] ⟨[], []⟩)
 case atStart => exact ⟨[], 0, _, _, none, 0, rfl, rfl, H, ⟨Nat.le_refl _⟩, (stT HS).clear.sZ⟩
 case round =>
  clear HS H
  obtain ⟨x3, x4, p, d, A, c, rfl, rfl, H, HK1, HS⟩ := hrel
  cases gk with
  | zero => exact absurd H.out (by simp [aC.l0])
  | succ k1 =>
   simp only [aC.l0] at H
   cases k1 with
   | zero => exact absurd H.out (by cases d <;> simp [aC.j1])
   | succ k2 =>
   simp only [aC.j1] at H
   have hc2 := HS.rd.cell2
   by_cases hx : x4 > 0
   all_goals
    simp only [hx, if_true, if_false] at H
    first | (have hxb : decide (0 < x4) = true := decide_eq_true hx) | (have hxb : decide (0 < x4) = false := decide_eq_false hx)
    clear hx
   all_goals
    cases d <;> (try simp only [if_true, if_false, eq_self, Bool.false_eq_true, Bool.not_true, Bool.not_false] at H)
   all_goals go_wp2_with (first | (go_at_call 78; refine cB HS H (fun t q b hI hB => isC g _ _ _ _ t q b w0 _ hI hB) ?_; clear HS H; intro t q b w' HS H; cases t <;> (try simp only [if_true, if_false, eq_self, Bool.false_eq_true, Bool.not_true, Bool.not_false] at H)) | ((with_reducible refine gC 34 rfl ?_); refine sU 34 rfl Tryz.func34 (stT HS) H (fun q b hI hB => oq g _ _ _ _ q b w0 _ hI hB) ?_; clear HS H; intro q b w' HS H; (try dsimp only at H)) | ((with_reducible refine gC 35 rfl ?_); refine sN 35 rfl Tryz.func35 (stT HS) H (fun t1 t2 t3 t4 q b hI hB => uj g _ _ _ _ t1 t2 t3 t4 q b w0 _ hI hB) ?_; clear HS H; intro t1 t2 t3 t4 q b w' HS H; (try dsimp only at H)) | ((with_reducible refine bH (N := 28) rfl ?_); refine vG (N := 28) (stT HS) (by first | (go_simp; done) | (go_simp; rfl)) ?_; clear HS; intro A c w' HS) | ((with_reducible refine bH (N := 29) rfl ?_); refine kR (N := 29) (stT HS) (by first | (go_simp; done) | (go_simp; rfl)) ?_; clear HS; intro A c w' HS) | ((with_reducible refine ed (b := .append) (xs := #[.tmp 23, .tmp 29]) rfl ?_); at_builtin; refine app (N := 30) (.tmp 23) (.tmp 29) rfl Tryz.underlying55 info23 (stT HS) rfl rfl H ?_; clear HS H; intro A c w' HS H))
   all_goals first
    | (go_roundg k2; (case measure => have := HK1.out; omega); (case rel => exact ⟨_, _, _, _, _, _, by first | rfl | simp, rfl, H, ⟨by have := HK1.out; omega⟩, stT HS⟩))
    | (have h_ := H.out; simp only [Option.some.injEq, Prod.mk.injEq] at h_; obtain ⟨rfl, rfl, rfl⟩ := h_; go_ret; exact (stT HS).zA)
end Go.Proofs.YtkbhkonenkgfoaaGreat.Q
end
section
set_option linter.unusedVariables false
set_option linter.unusedSimpArgs false
namespace Go.Proofs.YtkbhkonenkgfoaaGreat.Q
open Go Go.RowKit Go.Proofs.YtkbhkonenkgfoaaGreatW.PrintWords Go.Proofs.YtkbhkonenkgfoaaGreatW.PrintLast Go.Proofs.YtkbhkonenkgfoaaGreatW.PrintMore
attribute [local go_sem] l7 lu lq lm
set_option maxHeartbeats 8000000 in
set_option maxRecDepth 100000 in
theorem EE (F : iC) (HF : nT F) (k : Nat) (g : Nat) (s0 : List S37) (s1 : Int) (s2 : Bool) (a0 : Int) (a1 : Int) (a2 : ByteArray) (a3 : Int) (a4 : ByteArray) (r : List S29) (e1 : Int) (e2 : Bool) (w0 w : World) (hI : Rd 47 w0 w g s0 s1 s2) (hB : Below w0.heap.size w0 w) (h : dM.f F k s0 s1 s2 a0 a1 a2 a3 a4 = some (r, e1, e2)) :
 Calls Tryz.prog 99 #[.pointer (some ⟨g, 0, none⟩), .agg #[.int .i64 a0, .int .i64 a1, .string a2, .int .i64 a3, .string a4]] w (Back 47 w0 w g s0 e1 e2 (IsL w r)) := by
 unfold dM.f at h
 have HS := St.new (T := 47) (by decide) hI hB
 have H := af.mk h
 clear h hI hB
 go_enter Tryz.func99, Tryz.ntmps99
 go_wp2_with (first | ((with_reducible refine bH (N := 3) rfl ?_); refine boxS (N := 3) (stT HS) (by first | (go_simp; done) | (go_simp; rfl)) ?_; clear HS; intro gb w' HS hne hge) | ((with_reducible refine gC 100 rfl ?_); refine sL 100 rfl Tryz.func100 (stT HS) H (fun t q b hI hB => HF.expr g _ _ _ t q b w0 _ hI hB) ?_; clear HS H; intro t q b w' A c HS H; (try dsimp only at H)) | ((with_reducible refine gC 34 rfl ?_); refine sU 34 rfl Tryz.func34 (stT HS) H (fun q b hI hB => oq g _ _ _ _ q b w0 _ hI hB) ?_; clear HS H; intro q b w' HS H; (try dsimp only at H); have hb_ := HS.box rfl; have hx0 := (ag hb_ 0).trans rfl; have hx1 := (ag hb_ 1).trans rfl; have hx2 := (ag hb_ 2).trans rfl; have hx3 := (ag hb_ 3).trans rfl; have hx4 := (ag hb_ 4).trans rfl; clear hb_) | ((with_reducible refine bH (N := 12) rfl ?_); refine kR (N := 12) (stT HS) (by first | (go_simp; done) | (go_simp; rfl)) ?_; clear HS; intro A c w' HS) | ((with_reducible refine gC 37 rfl ?_); refine sJ 37 rfl Tryz.func37 (stT HS) H (fun t hr hc => qh _ _ _ _ _ _ _ _ _ t _ hr hc) ?_; clear HS H; intro t w' A c HS H; (try dsimp only at H)))
 all_goals
  have h_ := H.out; simp only [Option.some.injEq, Prod.mk.injEq] at h_; obtain ⟨rfl, rfl, rfl⟩ := h_
  go_ret
  exact (stT HS).jk (.head _)
end Go.Proofs.YtkbhkonenkgfoaaGreat.Q
end
section
set_option linter.unusedVariables false
set_option linter.unusedSimpArgs false
namespace Go.Proofs.YtkbhkonenkgfoaaGreat.Q
open Go Go.RowKit Go.Proofs.YtkbhkonenkgfoaaGreatW.PrintWords Go.Proofs.YtkbhkonenkgfoaaGreatW.PrintLast Go.Proofs.YtkbhkonenkgfoaaGreatW.PrintMore
attribute [local go_sem] l7 lu lq lm
set_option maxHeartbeats 8000000 in
set_option maxRecDepth 100000 in
theorem Ji (F : iC) (HF : nT F) (k : Nat) (g : Nat) (s0 : List S37) (s1 : Int) (s2 : Bool) (r : List S29) (e1 : Int) (e2 : Bool) (w0 w : World) (hI : Rd 47 w0 w g s0 s1 s2) (hB : Below w0.heap.size w0 w) (h : bI.f F k s0 s1 s2 = some (r, e1, e2)) :
 Calls Tryz.prog 94 #[.pointer (some ⟨g, 0, none⟩)] w (Back 47 w0 w g s0 e1 e2 (IsL w r)) := by
 unfold bI.f at h
 have HS := St.new (T := 47) (by decide) hI hB
 have H := af.mk h
 clear h hI hB
 go_enter Tryz.func94, Tryz.ntmps94
 go_wp2_with (first | ((with_reducible refine gC 36 rfl ?_); refine sB 36 rfl Tryz.func36 (stT HS) H (fun t q b hI hB => takeC g _ _ _ _ t q b w0 _ hI hB) ?_; clear HS H; intro t q b w' HS H; cases t <;> (try simp only [if_true, if_false, eq_self, Bool.false_eq_true, Bool.not_true, Bool.not_false] at H)) | ((with_reducible refine gC 35 rfl ?_); refine sN 35 rfl Tryz.func35 (stT HS) H (fun t1 t2 t3 t4 q b hI hB => uj g _ _ _ _ t1 t2 t3 t4 q b w0 _ hI hB) ?_; clear HS H; intro t1 t2 t3 t4 q b w' HS H; (try dsimp only at H)) | ((with_reducible refine gC 34 rfl ?_); refine sU 34 rfl Tryz.func34 (stT HS) H (fun q b hI hB => oq g _ _ _ _ q b w0 _ hI hB) ?_; clear HS H; intro q b w' HS H; (try dsimp only at H)) | ((with_reducible refine gC 99 rfl ?_); refine sL 99 rfl Tryz.func99 (stT HS) H (fun t q b hI hB => EE F HF _ g _ _ _ _ _ _ _ _ t q b w0 _ hI hB) ?_; clear HS H; intro t q b w' A c HS H; (try dsimp only at H)) | ((with_reducible refine bH (N := 92) rfl ?_); (with_reducible refine gC 100 rfl ?_); refine sL 100 rfl Tryz.func100 (stT HS) H (fun t q b hI hB => HF.expr g _ _ _ t q b w0 _ hI hB) ?_; clear HS H; intro te q b w' Ae ce HS H; (try dsimp only at H); have hc2 := HS.rd.cell2; cases b <;> (try simp only [if_true, if_false, eq_self, Bool.false_eq_true, Bool.not_true, Bool.not_false] at H); rotate_left; (cases k; exact absurd H.out (by simp [bI.j0]); simp only [bI.j0, if_true, if_false, eq_self, Bool.false_eq_true, Bool.not_true, Bool.not_false] at H); rotate_left) | ((with_reducible refine gC 100 rfl ?_); refine sL 100 rfl Tryz.func100 (stT HS) H (fun t q b hI hB => HF.expr g _ _ _ t q b w0 _ hI hB) ?_; clear HS H; intro t q b w' A c HS H; (try dsimp only at H)) | ((with_reducible refine gC 80 rfl ?_); refine sL 80 rfl Tryz.func80 (stT HS) H (fun t q b hI hB => HF.block g _ _ _ t q b w0 _ hI hB) ?_; clear HS H; intro t q b w' A c HS H; (try dsimp only at H)) | (go_at_call 78; refine cB (stT HS) H (fun t q b hI hB => isC g _ _ _ _ t q b w0 _ hI hB) ?_; clear HS H; intro t1 q b w' HS H; (cases k; exact absurd H.out (by cases t1 <;> simp [bI.j0]); simp only [bI.j0] at H); cases t1 <;> (try simp only [if_true, if_false, eq_self, Bool.false_eq_true, Bool.not_true, Bool.not_false] at H); rotate_left; refine BL.h ?_; rotate_left) | ((with_reducible refine bH (N := 30) rfl ?_); refine vF (N := 30) (stT HS) (by first | (go_simp; done) | (go_simp; rfl)) ?_; clear HS; intro A c w' HS; replace H := hB H; (try dsimp only at H)) | ((with_reducible refine bH (N := 36) rfl ?_); refine kR (N := 36) (stT HS) (by first | (go_simp; done) | (go_simp; rfl)) ?_; clear HS; intro A c w' HS) | ((with_reducible refine ed (b := .append) (xs := #[.tmp 33, .tmp 36]) rfl ?_); at_builtin; refine app (N := 37) (.tmp 33) (.tmp 36) rfl Tryz.underlying55 info23 (stT HS) rfl rfl H ?_; clear HS H; intro A c w' HS H) | ((with_reducible refine bH (N := 50) rfl ?_); refine vF (N := 50) (stT HS) (by first | (go_simp; done) | (go_simp; rfl)) ?_; clear HS; intro A c w' HS) | ((with_reducible refine bH (N := 58) rfl ?_); refine vG (N := 58) (stT HS) (by first | (go_simp; done) | (go_simp; rfl)) ?_; clear HS; intro A c w' HS) | ((with_reducible refine bH (N := 65) rfl ?_); refine vG (N := 65) (stT HS) (by first | (go_simp; done) | (go_simp; rfl)) ?_; clear HS; intro A c w' HS) | ((with_reducible refine bH (N := 72) rfl ?_); refine vG (N := 72) (stT HS) (by first | (go_simp; done) | (go_simp; rfl)) ?_; clear HS; intro A c w' HS) | ((with_reducible refine bH (N := 106) rfl ?_); refine kR (N := 106) (stT HS) (by first | (go_simp; done) | (go_simp; rfl)) ?_; clear HS; intro A c w' HS) | ((with_reducible refine gC 37 rfl ?_); refine sJ 37 rfl Tryz.func37 (stT HS) H (fun t hr hc => qh _ _ _ _ _ _ _ _ _ t _ hr hc) ?_; clear HS H; intro t w' A c HS H; (try dsimp only at H)))
 all_goals first
  | (have h_ := H.out; simp only [Option.some.injEq, Prod.mk.injEq] at h_; obtain ⟨rfl, rfl, rfl⟩ := h_; go_ret; exact (stT HS).jk (.head _))
  | skip
 refine ⟨?_⟩
 by_cases c1 : 0 < (te.length : Int)
 rotate_left
 ·exact absurd (hE c1 H).out (by simp)
 replace H := hI c1 H
 obtain ⟨ad, rfl, hx0, hx2⟩ := HS.node (.head _) c1
 have q3 := eq_true c1
 have qi := eq_true (show 0 < te.length by omega)
 by_cases c2 : (ax te 0).f0 = 21
 ·replace H := hI c2 H
  have c2b : ((ax te 0).f0 == 21) = true := beq_iff_eq.mpr c2
  clear c1 c2
  go_wp2_with (first | ((with_reducible refine gC 34 rfl ?_); refine sU 34 rfl Tryz.func34 (stT HS) H (fun q b hI hB => oq g _ _ _ _ q b w0 _ hI hB) ?_; clear HS H; intro q b w' HS H; (try dsimp only at H); obtain ⟨hx0, hx2⟩ := HS.Hq (.head _) q3) | ((with_reducible refine gC 99 rfl ?_); refine sL 99 rfl Tryz.func99 (stT HS) H (fun t q b hI hB => EE F HF _ g _ _ _ _ _ _ _ _ t q b w0 _ hI hB) ?_; clear HS H; intro t q b w' A c HS H; (try dsimp only at H)))
  have h_ := H.out; simp only [Option.some.injEq, Prod.mk.injEq] at h_; obtain ⟨rfl, rfl, rfl⟩ := h_
  go_ret
  exact (stT HS).jk (.head _)
 replace H := hE c2 H
 have c2b : ((ax te 0).f0 == 21) = false := beq_eq_false_iff_ne.mpr c2
 by_cases c3 : (ax te 0).f0 = 26
 rotate_left
 ·replace H := hE c3 H
  have c3b : ((ax te 0).f0 == 26) = false := beq_eq_false_iff_ne.mpr c3
  have c3n : ((ax te 0).f0 != 26) = true := bne_iff_ne.mpr c3
  clear c1 c2 c3
  have hc2 := HS.rd.cell2
  have hf2 := HS.rd.fro 2
  go_wp2
  have h_ := H.out; simp only [Option.some.injEq, Prod.mk.injEq] at h_; obtain ⟨rfl, rfl, rfl⟩ := h_
  go_ret
  exact (stT HS).zy
 replace H := hI c3 H
 have c3b : ((ax te 0).f0 == 26) = true := beq_iff_eq.mpr c3
 have c3n : ((ax te 0).f0 != 26) = false := bne_eq_false_iff_eq.mpr c3
 clear c1 c2 c3
 go_wp2_with (first | ((with_reducible refine gC 34 rfl ?_); refine sU 34 rfl Tryz.func34 (stT HS) H (fun q b hI hB => oq g _ _ _ _ q b w0 _ hI hB) ?_; clear HS H; intro q b w' HS H; (try dsimp only at H)) | ((with_reducible refine gC 100 rfl ?_); refine sL 100 rfl Tryz.func100 (stT HS) H (fun t q b hI hB => HF.expr g _ _ _ t q b w0 _ hI hB) ?_; clear HS H; intro t q b w' A c HS H; (try dsimp only at H)) | ((with_reducible refine gC 41 rfl ?_); refine sI 41 rfl Tryz.func41 (stT HS) H (l := te) (.tail _ (.head _)) (fun t hn hr hc => bz.calls _ _ _ _ _ t _ hr hc) ?_; clear HS H; intro ti w' Ai ci HS HC H; (try dsimp only at H)))
 (try simp only [Act.put, List.setIfInBounds_toArray, List.set_cons_zero, List.set_cons_succ])
 by_cases c5 : 1 < (ti.length : Int)
 rotate_left
 ·exact absurd H.out (by simp [c5])
 replace H := hI (show 0 < (ti.length : Int) by omega) H
 have q5 := eq_true c5
 have q6 := eq_true (show 0 < (ti.length : Int) by omega)
 have q7 := eq_true (show 1 < ti.length by omega)
 have q8 := eq_true (show 0 < ti.length by omega)
 obtain ⟨ai, rfl, hy0⟩ := Kd.fO HC 0 (by omega) (by omega)
 obtain ⟨ai', e2, hy1⟩ := Kd.fO HC 1 (by omega) (by omega)
 obtain rfl : ai = ai' := by injection e2
 (try rw [show (0 : Int).toNat = 0 from rfl, Addr.add_zero'] at hy0)
 (try simp only [show (1 : Int).toNat = 1 from rfl, Nat.reduceMul, Nat.reduceEqDiff, Go.Addr.add, ↓reduceIte] at hy1)
 clear c5 HC e2
 go_region_held3 (fun w' => w'.cell? ai = some (.int .i64 (rd ti 0)) ∧ w'.cell? ⟨ai.block, ai.off + 1, none⟩ = some (.int .i64 (rd ti 1))) (first | exact ⟨hy0, hy1⟩ | go_keep) (first | (go_at_call 101; refine cS (stT HS) H (l := te) Z40 (fun t hn hr hc => eQ.calls _ _ _ _ _ t _ hr hc) ?_; clear HS H; intro t w' A c HS hb H; (try dsimp only at H); (try replace H := hI (of_eq_true q5) H); have y0 := (hb.cell (World.block_lt_of_cell? _ _ hy0)).trans hy0; have y1 := (hb.cell (World.block_lt_of_cell? _ _ hy1)).trans hy1; clear hy0 hy1 hb; have hy0 := y0; have hy1 := y1; clear y0 y1) | (go_at_call 37; refine cJ (stT HS).Hr H (fun t hr hc => qh _ _ _ _ _ _ _ _ _ t _ hr hc) ?_; clear HS H; intro t w' A c HS hb H; (try dsimp only at H); have y0 := (hb.cell (World.block_lt_of_cell? _ _ (ut hy0))).trans (ut hy0); have y1 := (hb.cell (World.block_lt_of_cell? _ _ (ut hy1))).trans (ut hy1); clear hy0 hy1 hb; have hy0 := y0; have hy1 := y1; clear y0 y1))
 go_wp2
 have h_ := H.out; simp only [Option.some.injEq, Prod.mk.injEq] at h_; obtain ⟨rfl, rfl, rfl⟩ := h_
 go_ret
 exact (stT HS).jk (.head _)
end Go.Proofs.YtkbhkonenkgfoaaGreat.Q
end
section
set_option linter.unusedVariables false
set_option linter.unusedSimpArgs false
namespace Go.Proofs.YtkbhkonenkgfoaaGreat.Q
open Go Go.RowKit Go.Proofs.YtkbhkonenkgfoaaGreatW.PrintWords Go.Proofs.YtkbhkonenkgfoaaGreatW.PrintLast Go.Proofs.YtkbhkonenkgfoaaGreatW.PrintMore
attribute [local go_sem] l7 lu lq lm
set_option maxHeartbeats 8000000 in
set_option maxRecDepth 100000 in
theorem EL (F : iC) (HF : nT F) (k : Nat) (g : Nat) (s0 : List S37) (s1 : Int) (s2 : Bool) (r : List S29) (e1 : Int) (e2 : Bool) (w0 w : World) (hI : Rd 47 w0 w g s0 s1 s2) (hB : Below w0.heap.size w0 w) (h : bu.f F k s0 s1 s2 = some (r, e1, e2)) :
 Calls Tryz.prog 80 #[.pointer (some ⟨g, 0, none⟩)] w (Back 47 w0 w g s0 e1 e2 (IsL w r)) := by
 unfold bu.f at h
 have HS := St.new (T := 47) (by decide) hI hB
 have H := af.mk h
 clear h hI hB
 go_enter Tryz.func80, Tryz.ntmps80
 go_wp2_with (first | ((with_reducible refine gC 34 rfl ?_); refine sU 34 rfl Tryz.func34 (stT HS) H (fun q b hI hB => oq g _ _ _ _ q b w0 _ hI hB) ?_; clear HS H; intro q b w' HS H; (try dsimp only at H)))
 (try simp only [Act.put, List.setIfInBounds_toArray, List.set_cons_zero, List.set_cons_succ])
 go_loopg [3] k (fun kq v3 w' => ∃ (x3 : List (List S29)) (p : Int) (d : Bool) (A : Option Addr) (c : Nat), v3 = .slice A x3.length c ∧ af (bu.l0 F kq x3 s0 p d = some (r, e1, e2)) ∧ af (kq ≤ k) ∧ St 47 w0 w w' g s0 p d [] [(.slice A x3.length c, x3)] ⟨[], []⟩)
 case atStart => exact ⟨[], _, _, none, 0, rfl, H, ⟨Nat.le_refl _⟩, (stT HS).clear.sZ⟩
 case round =>
  clear HS H
  obtain ⟨x3, p, d, A, c, rfl, H, HK1, HS⟩ := hrel
  cases gk with
  | zero => exact absurd H.out (by simp [bu.l0])
  | succ k1 =>
   simp only [bu.l0] at H
   have hc2 := HS.rd.cell2
   all_goals
    cases d <;> (try simp only [if_true, if_false, eq_self, Bool.false_eq_true, Bool.not_true, Bool.not_false] at H)
   all_goals go_wp2_with (first | (go_at_call 78; refine cB HS H (fun t q b hI hB => isC g _ _ _ _ t q b w0 _ hI hB) ?_; clear HS H; intro t q b w' HS H; cases t <;> (try simp only [if_true, if_false, eq_self, Bool.false_eq_true, Bool.not_true, Bool.not_false] at H)) | ((with_reducible refine gC 34 rfl ?_); refine sU 34 rfl Tryz.func34 (stT HS) H (fun q b hI hB => oq g _ _ _ _ q b w0 _ hI hB) ?_; clear HS H; intro q b w' HS H; (try dsimp only at H)) | ((with_reducible refine gC 94 rfl ?_); refine sL 94 rfl Tryz.func94 (stT HS) H (fun t q b hI hB => Ji F HF _ g _ _ _ t q b w0 _ hI hB) ?_; clear HS H; intro t q b w' A c HS H; (try dsimp only at H)) | ((with_reducible refine bH (N := 19) rfl ?_); refine kR (N := 19) (stT HS) (by first | (go_simp; done) | (go_simp; rfl)) ?_; clear HS; intro A c w' HS) | ((with_reducible refine ed (b := .append) (xs := #[.tmp 16, .tmp 19]) rfl ?_); at_builtin; refine app (N := 20) (.tmp 16) (.tmp 19) rfl Tryz.underlying55 info23 (stT HS) rfl rfl H ?_; clear HS H; intro A c w' HS H) | ((with_reducible refine gC 37 rfl ?_); refine sJ 37 rfl Tryz.func37 (stT HS) H (fun t hr hc => qh _ _ _ _ _ _ _ _ _ t _ hr hc) ?_; clear HS H; intro t w' A c HS H; (try dsimp only at H)))
   all_goals first
    | (go_roundg k1; (case measure => have := HK1.out; omega); (case rel => exact ⟨_, _, _, _, _, by first | rfl | simp, H, ⟨by have := HK1.out; omega⟩, stT HS⟩))
    | (have h_ := H.out; simp only [Option.some.injEq, Prod.mk.injEq] at h_; obtain ⟨rfl, rfl, rfl⟩ := h_; go_ret; exact (stT HS).jk (.head _))
set_option maxHeartbeats 8000000 in
set_option maxRecDepth 100000 in
theorem wW (F : iC) (HF : nT F) (k : Nat) (g : Nat) (s0 : List S37) (s1 : Int) (s2 : Bool) (r : List (List S29)) (e1 : Int) (e2 : Bool) (w0 w : World) (hI : Rd 47 w0 w g s0 s1 s2) (hB : Below w0.heap.size w0 w) (h : dC.f F k s0 s1 s2 = some (r, e1, e2)) :
 Calls Tryz.prog 38 #[.pointer (some ⟨g, 0, none⟩)] w (Back 47 w0 w g s0 e1 e2 (IsK w g r)) := by
 unfold dC.f at h
 have HS := St.new (T := 47) (by decide) hI hB
 have H := af.mk h
 clear h hI hB
 go_enter Tryz.func38, Tryz.ntmps38
 go_wp2_with (first | ((with_reducible refine gC 79 rfl ?_); refine sK 79 rfl Tryz.func79 (stT HS) H (fun t q b hI hB => Gh _ g _ _ _ t q b w0 _ hI hB) ?_; clear HS H; intro t q b w' A c HS H; (try dsimp only at H)) | ((with_reducible refine gC 80 rfl ?_); refine sL 80 rfl Tryz.func80 (stT HS) H (fun t q b hI hB => EL F HF _ g _ _ _ t q b w0 _ hI hB) ?_; clear HS H; intro t q b w' A c HS H; (try dsimp only at H)) | ((with_reducible refine bH (N := 9) rfl ?_); refine kR (N := 9) (stT HS) (by first | (go_simp; done) | (go_simp; rfl)) ?_; clear HS; intro A c w' HS) | ((with_reducible refine ed (b := .append) (xs := #[.tmp 6, .tmp 9]) rfl ?_); at_builtin; refine app (N := 10) (.tmp 6) (.tmp 9) rfl Tryz.underlying55 info23 (stT HS) rfl rfl H ?_; clear HS H; intro A c w' HS H))
 all_goals
  have h_ := H.out; simp only [Option.some.injEq, Prod.mk.injEq] at h_; obtain ⟨rfl, rfl, rfl⟩ := h_
  go_ret
  exact (by simpa using (stT HS).zA)
end Go.Proofs.YtkbhkonenkgfoaaGreat.Q
end
section
set_option linter.unusedVariables false
set_option linter.unusedSimpArgs false
namespace Go.Proofs.YtkbhkonenkgfoaaGreat.Q
open Go Go.RowKit Go.Proofs.YtkbhkonenkgfoaaGreatW.PrintWords Go.Proofs.YtkbhkonenkgfoaaGreatW.PrintLast Go.Proofs.YtkbhkonenkgfoaaGreatW.PrintMore
attribute [local go_sem] l7 lu lq lm
set_option maxHeartbeats 8000000 in
set_option maxRecDepth 100000 in
theorem Jj (F : iC) (HF : nT F) (k : Nat) (g : Nat) (s0 : List S37) (s1 : Int) (s2 : Bool) (r : List S29) (e1 : Int) (e2 : Bool) (w0 w : World) (hI : Rd 47 w0 w g s0 s1 s2) (hB : Below w0.heap.size w0 w) (h : mf.f F k s0 s1 s2 = some (r, e1, e2)) :
 Calls Tryz.prog 110 #[.pointer (some ⟨g, 0, none⟩)] w (Back 47 w0 w g s0 e1 e2 (IsL w r)) := by
 unfold mf.f at h
 have HS := St.new (T := 47) (by decide) hI hB
 have H := af.mk h
 clear h hI hB
 go_enter Tryz.func110, Tryz.ntmps110
 go_wp2_with (first | ((with_reducible refine gC 36 rfl ?_); refine sB 36 rfl Tryz.func36 (stT HS) H (fun t q b hI hB => takeC g _ _ _ _ t q b w0 _ hI hB) ?_; clear HS H; intro t q b w' HS H; cases t <;> (try simp only [if_true, if_false, eq_self, Bool.false_eq_true, Bool.not_true, Bool.not_false] at H)) | ((with_reducible refine gC 34 rfl ?_); refine sU 34 rfl Tryz.func34 (stT HS) H (fun q b hI hB => oq g _ _ _ _ q b w0 _ hI hB) ?_; clear HS H; intro q b w' HS H; (try dsimp only at H)) | ((with_reducible refine gC 38 rfl ?_); refine sK 38 rfl Tryz.func38 (stT HS) H (fun t q b hI hB => wW F HF _ g _ _ _ t q b w0 _ hI hB) ?_; clear HS H; intro t q b w' A c HS H; (try dsimp only at H)) | ((with_reducible refine gC 100 rfl ?_); refine sL 100 rfl Tryz.func100 (stT HS) H (fun t q b hI hB => HF.expr g _ _ _ t q b w0 _ hI hB) ?_; clear HS H; intro t q b w' A c HS H; (try dsimp only at H)) | ((with_reducible refine gC 37 rfl ?_); refine sJ 37 rfl Tryz.func37 (stT HS) H (fun t hr hc => qh _ _ _ _ _ _ _ _ _ t _ hr hc) ?_; clear HS H; intro t w' A c HS H; (try dsimp only at H)) | ((with_reducible refine bH (N := 11) rfl ?_); refine vG (N := 11) (stT HS) (by first | (go_simp; done) | (go_simp; rfl)) ?_; clear HS; intro A c w' HS) | ((with_reducible refine bH (N := 16) rfl ?_); refine vG (N := 16) (stT HS) (by first | (go_simp; done) | (go_simp; rfl)) ?_; clear HS; intro A c w' HS) | ((with_reducible refine bH (N := 23) rfl ?_); refine vG (N := 23) (stT HS) (by first | (go_simp; done) | (go_simp; rfl)) ?_; clear HS; intro A c w' HS))
 all_goals first
  | (have h_ := H.out; simp only [Option.some.injEq, Prod.mk.injEq] at h_; obtain ⟨rfl, rfl, rfl⟩ := h_; go_ret; exact (stT HS).jk (.head _))
  | skip
 (try simp only [Act.put, List.setIfInBounds_toArray, List.set_cons_zero, List.set_cons_succ])
 obtain ⟨A0, c0, hb0, hg0, hr0⟩ := HS.rd
 have hc0 : w'.cell? ⟨g, 0, none⟩ = some (.slice A0 s0.length c0) := (ag hb0 0).trans rfl
 have hc1 := HS.rd.cell1
 have hc2 := HS.rd.cell2
 have hf2 := HS.rd.fro 2
 clear hb0 hg0
 cases b
 rotate_left
 ·replace H := hI rfl H
  go_quiet (fail)
  go_wp2
  have h_ := H.out; simp only [Option.some.injEq, Prod.mk.injEq] at h_; obtain ⟨rfl, rfl, rfl⟩ := h_
  go_ret
  exact (stT HS).zy
 replace H := hE (by decide) H
 by_cases c1 : q ≥ (s0.length : Int)
 ·replace H := hI c1 H
  have c1b : decide ((s0.length : Int) ≤ q) = true := decide_eq_true c1
  clear c1
  go_quiet (fail)
  go_wp2
  have h_ := H.out; simp only [Option.some.injEq, Prod.mk.injEq] at h_; obtain ⟨rfl, rfl, rfl⟩ := h_
  go_ret
  exact (stT HS).zy
 replace H := hE c1 H
 by_cases c2 : 0 ≤ q
 rotate_left
 ·exact absurd (hE c2 H).out (by simp)
 replace H := hI c2 H
 have c1b : decide ((s0.length : Int) ≤ q) = false := decide_eq_false c1
 go_quiet (fail)
 go_wp2
 have p3 := eq_true c2
 have q3 := eq_true (show q < (s0.length : Int) by omega)
 clear c1 c2 c1b hc0 hc1 hc2 hf2
 replace HS := HS.drewN nq
 generalize w'.drewN nq = w5 at HS ⊢
 obtain ⟨A0, c0, hb0, hg0, hr0⟩ := HS.rd
 have hc0 : w5.cell? ⟨g, 0, none⟩ = some (.slice A0 s0.length c0) := (ag hb0 0).trans rfl
 have hc1 := HS.rd.cell1
 clear hb0 hg0
 obtain ⟨ad, ead, hx0, hx1, hx2, hx3⟩ := jS hr0 q (of_eq_true p3) (of_eq_true q3)
 cases ead
 replace hx0 := bG HS.below hx0
 replace hx1 := bG HS.below hx1
 replace hx2 := bG HS.below hx2
 replace hx3 := bG HS.below hx3
 go_region_held3 (fun w' => w'.cell? ⟨g, 0, none⟩ = some (.slice (some ad) s0.length c0) ∧ w'.cell? ⟨g, 1, none⟩ = some (.int .i64 q) ∧ w'.cell? (ad.add (q.toNat * 4)) = some (.int .i64 (dY s0 q).f0) ∧ w'.cell? ⟨(ad.add (q.toNat * 4)).block, (ad.add (q.toNat * 4)).off + 1, none⟩ = some (.string (dY s0 q).f1) ∧ w'.cell? ⟨(ad.add (q.toNat * 4)).block, (ad.add (q.toNat * 4)).off + 2, none⟩ = some (.int .i64 (dY s0 q).f2) ∧ w'.cell? ⟨(ad.add (q.toNat * 4)).block, (ad.add (q.toNat * 4)).off + 3, none⟩ = some (.int .i64 (dY s0 q).f3)) (first | exact ⟨hc0, hc1, hx0, hx1, hx2, hx3⟩ | go_keep) (first | fail)
 clear hc0 hc1 hx0 hx1 hx2 hx3 hr0
 obtain ⟨gb, w6, eg, ew, HS, hne⟩ := HS.boxed #[.int .i64 (dY s0 q).f0, .string (dY s0 q).f1, .int .i64 (dY s0 q).f2, .int .i64 (dY s0 q).f3] 37
 simp only [eg, ew]
 clear eg ew
 have hb_ := HS.box rfl
 have hx0 := (ag hb_ 0).trans rfl
 have hx1 := (ag hb_ 1).trans rfl
 have hx2 := (ag hb_ 2).trans rfl
 have hx3 := (ag hb_ 3).trans rfl
 have hc1 := HS.rd.cell1
 have hf1 := HS.rd.fro 1
 have hnc := Ne.symm hne
 clear hb_
 unfold uP.f at H
 by_cases c3 : (dY s0 q).f0 = 2
 ·replace H := hI c3 H
  have c3b : ((dY s0 q).f0 == 2) = true := beq_iff_eq.mpr c3
  clear c3
  by_cases c5 : q < 9223372036854775807
  rotate_left
  ·exact absurd (hE c5 H).out (by simp)
  replace H := hI c5 H
  have e0 : wrap64 (q + 1) = q + 1 := by have := of_eq_true p3; unfold wrap64; omega
  clear c5
  go_wp2_with ((with_reducible refine bH (N := 84) rfl ?_); refine vG (N := 84) (stT HS) (by first | (go_simp; done) | (go_simp; rfl)) ?_; clear HS; intro A c w' HS)
  have h_ := H.out; simp only [Option.some.injEq, Prod.mk.injEq] at h_; obtain ⟨rfl, rfl, rfl⟩ := h_
  go_ret
  exact (stT HS).jk (.head _)
 replace H := hE c3 H
 have c3b : ((dY s0 q).f0 == 2) = false := beq_eq_false_iff_ne.mpr c3
 by_cases c4 : (dY s0 q).f0 = 3
 ·replace H := hI c4 H
  have c4b : ((dY s0 q).f0 == 3) = true := beq_iff_eq.mpr c4
  clear c3 c4
  by_cases c5 : q < 9223372036854775807
  rotate_left
  ·exact absurd (hE c5 H).out (by simp)
  replace H := hI c5 H
  have e0 : wrap64 (q + 1) = q + 1 := by have := of_eq_true p3; unfold wrap64; omega
  clear c5
  go_wp2_with ((with_reducible refine bH (N := 98) rfl ?_); refine vG (N := 98) (stT HS) (by first | (go_simp; done) | (go_simp; rfl)) ?_; clear HS; intro A c w' HS)
  have h_ := H.out; simp only [Option.some.injEq, Prod.mk.injEq] at h_; obtain ⟨rfl, rfl, rfl⟩ := h_
  go_ret
  exact (stT HS).jk (.head _)
 replace H := hE c4 H
 have c4b : ((dY s0 q).f0 == 3) = false := beq_eq_false_iff_ne.mpr c4
 clear c3 c4
 go_wp2_with (first | ((with_reducible refine gC 35 rfl ?_); refine sN 35 rfl Tryz.func35 (stT HS) H (fun t1 t2 t3 t4 q b hI hB => uj g _ _ _ _ t1 t2 t3 t4 q b w0 _ hI hB) ?_; clear HS H; intro t1 t2 t3 t4 q b w' HS H; (try dsimp only at H)) | ((with_reducible refine gC 36 rfl ?_); refine sB 36 rfl Tryz.func36 (stT HS) H (fun t q b hI hB => takeC g _ _ _ _ t q b w0 _ hI hB) ?_; clear HS H; intro t q b w' HS H; cases t <;> (try simp only [if_true, if_false, eq_self, Bool.false_eq_true, Bool.not_true, Bool.not_false] at H)) | ((with_reducible refine gC 111 rfl ?_); refine sK 111 rfl Tryz.func111 (stT HS) H (fun t q b hI hB => Hz F HF _ g _ _ _ t q b w0 _ hI hB) ?_; clear HS H; intro t q b w' A c HS H; (try dsimp only at H)) | ((with_reducible refine gC 37 rfl ?_); refine sJ 37 rfl Tryz.func37 (stT HS) H (fun t hr hc => qh _ _ _ _ _ _ _ _ _ t _ hr hc) ?_; clear HS H; intro t w' A c HS H; (try dsimp only at H)) | ((with_reducible refine bH (N := 107) rfl ?_); refine vG (N := 107) (stT HS) (by first | (go_simp; done) | (go_simp; rfl)) ?_; clear HS; intro A c w' HS))
 all_goals
  have h_ := H.out; simp only [Option.some.injEq, Prod.mk.injEq] at h_; obtain ⟨rfl, rfl, rfl⟩ := h_
  go_ret
  exact (stT HS).jk (.head _)
end Go.Proofs.YtkbhkonenkgfoaaGreat.Q
end
section
namespace Go.Proofs.YtkbhkonenkgfoaaGreat.Q
open Go.RowKit Go.Proofs.YtkbhkonenkgfoaaGreatW.PrintWords Go.Proofs.YtkbhkonenkgfoaaGreatW.PrintLast Go.Proofs.YtkbhkonenkgfoaaGreatW.PrintMore
attribute [local go_sem] iM iL iK iJ dJ dH dS dR cZ cO dI dG
set_option linter.unusedVariables false
set_option linter.unusedSimpArgs false
/-! ### gZ: function 112 -/
def gZ.f (a0 : Int) : Option (List ByteArray) := if a0 = 0 then (some (([(⟨#[111, 114]⟩ : ByteArray)] : List ByteArray))) else (if a0 = 1 then (some (([(⟨#[97, 110, 100]⟩ : ByteArray)] : List ByteArray))) else (if a0 = 2 then (some (([(⟨#[61, 61]⟩ : ByteArray), (⟨#[33, 61]⟩ : ByteArray), (⟨#[60]⟩ : ByteArray), (⟨#[60, 61]⟩ : ByteArray)] : List ByteArray))) else (if a0 = 3 then (some (([(⟨#[43]⟩ : ByteArray), (⟨#[45]⟩ : ByteArray), (⟨#[46, 46]⟩ : ByteArray)] : List ByteArray))) else (some (([(⟨#[42]⟩ : ByteArray), (⟨#[47]⟩ : ByteArray), (⟨#[37]⟩ : ByteArray)] : List ByteArray))))))
set_option maxHeartbeats 8000000 in
set_option maxRecDepth 100000 in
theorem gZ.calls (a0 : Int) (r : List ByteArray) (w : World) (h : gZ.f a0 = some r) :
 Calls Tryz.prog 112 #[.int .i64 a0] w fun e w' => ∃ v0_ : Value, e = .returned (v0_) ∧ Kd.R Kd.string 9 w' w.heap.size (fun _ => True) v0_ r ∧ Below w.heap.size w w' := by
 have HB := af.mk (Below.refl w.heap.size w)
 have H := h
 clear h
 unfold gZ.f at H
 revert H
 refine aU (fun c2b0 c2b1 H => ?_) fun c2 c2b0 c2b1 H => ?_
 ·obtain ⟨y1357, hy1357⟩ : ∃ y_ : List ByteArray, y_ = (([(⟨#[111, 114]⟩ : ByteArray)] : List ByteArray)) := ⟨_, rfl⟩
  replace H : (some y1357) = some r := by first | (rw [hy1357]; with_reducible exact H) | (have H2_ := (Option.bind_some _ _).symm.trans H; rw [hy1357]; with_reducible exact H2_) | (have H2_ := (Option.bind_some _ _).symm.trans H; with_reducible exact H2_) | with_reducible exact H | (rw [hy1357]; exact H) | exact H
  have Ny1357 := af.mk hy1357
  clear hy1357
  obtain rfl := Option.some.inj H
  go_enter Tryz.func112, Tryz.ntmps112
  go_wp2_with (first | ((with_reducible refine bH (N := 6) rfl ?_); refine Kd.pO Kd.string _ 9 ?hg (N := 6) ?hd (xs := ([(⟨#[111, 114]⟩ : ByteArray)] : List ByteArray)) (inner := [.string (⟨#[111, 114]⟩ : ByteArray)]) (ok := fun _ => True) (okp := fun _ => True) ?hr ?hp (fun _ hk => hk) trivial (Below.refl _ _) (Nat.le_refl _) (by simp) ?_; (case hd => rfl); (case hg => rfl); (case hr => first | (go_simp; done) | (go_simp; rfl)); (case hp => exact (eG.one (show Kd.M Kd.string _ _ _ (⟨#[111, 114]⟩ : ByteArray) [.string (⟨#[111, 114]⟩ : ByteArray)] from rfl) (eG.none _ _))); intro v1358 w3 ho4 hb hg_ hnew_; clear hg_ hnew_; (first | rw [← Ny1357.out] at ho4 | (simp only [Int.reduceToNat] at ho4; rw [← Ny1357.out] at ho4)); refine yA2 (Kd.iw ho4 (bD Z1)) (aA Z1 hb) ?_; clear HB; intro HO1359 HB; clear hb ho4))
  go_ret
  exact ⟨_, Z8, by (with_reducible repeat (first | apply Kd.iP | apply Kd.iI | apply Kd.jf)); exact HO1359.out, Z1⟩
 revert H
 refine aU (fun c5b0 c5b1 H => ?_) fun c5 c5b0 c5b1 H => ?_
 ·obtain ⟨y1360, hy1360⟩ : ∃ y_ : List ByteArray, y_ = (([(⟨#[97, 110, 100]⟩ : ByteArray)] : List ByteArray)) := ⟨_, rfl⟩
  replace H : (some y1360) = some r := by first | (rw [hy1360]; with_reducible exact H) | (have H2_ := (Option.bind_some _ _).symm.trans H; rw [hy1360]; with_reducible exact H2_) | (have H2_ := (Option.bind_some _ _).symm.trans H; with_reducible exact H2_) | with_reducible exact H | (rw [hy1360]; exact H) | exact H
  have Ny1360 := af.mk hy1360
  clear hy1360
  obtain rfl := Option.some.inj H
  go_enter Tryz.func112, Tryz.ntmps112
  go_wp2_with (first | ((with_reducible refine bH (N := 9) rfl ?_); refine Kd.pO Kd.string _ 9 ?hg (N := 9) ?hd (xs := ([(⟨#[97, 110, 100]⟩ : ByteArray)] : List ByteArray)) (inner := [.string (⟨#[97, 110, 100]⟩ : ByteArray)]) (ok := fun _ => True) (okp := fun _ => True) ?hr ?hp (fun _ hk => hk) trivial (Below.refl _ _) (Nat.le_refl _) (by simp) ?_; (case hd => rfl); (case hg => rfl); (case hr => first | (go_simp; done) | (go_simp; rfl)); (case hp => exact (eG.one (show Kd.M Kd.string _ _ _ (⟨#[97, 110, 100]⟩ : ByteArray) [.string (⟨#[97, 110, 100]⟩ : ByteArray)] from rfl) (eG.none _ _))); intro v1361 w6 ho7 hb hg_ hnew_; clear hg_ hnew_; (first | rw [← Ny1360.out] at ho7 | (simp only [Int.reduceToNat] at ho7; rw [← Ny1360.out] at ho7)); refine yA2 (Kd.iw ho7 (bD Z1)) (aA Z1 hb) ?_; clear HB; intro HO1362 HB; clear hb ho7))
  go_ret
  exact ⟨_, Z8, by (with_reducible repeat (first | apply Kd.iP | apply Kd.iI | apply Kd.jf)); exact HO1362.out, Z1⟩
 revert H
 refine aU (fun c8b0 c8b1 H => ?_) fun c8 c8b0 c8b1 H => ?_
 ·obtain ⟨y1363, hy1363⟩ : ∃ y_ : List ByteArray, y_ = (([(⟨#[61, 61]⟩ : ByteArray), (⟨#[33, 61]⟩ : ByteArray), (⟨#[60]⟩ : ByteArray), (⟨#[60, 61]⟩ : ByteArray)] : List ByteArray)) := ⟨_, rfl⟩
  replace H : (some y1363) = some r := by first | (rw [hy1363]; with_reducible exact H) | (have H2_ := (Option.bind_some _ _).symm.trans H; rw [hy1363]; with_reducible exact H2_) | (have H2_ := (Option.bind_some _ _).symm.trans H; with_reducible exact H2_) | with_reducible exact H | (rw [hy1363]; exact H) | exact H
  have Ny1363 := af.mk hy1363
  clear hy1363
  obtain rfl := Option.some.inj H
  go_enter Tryz.func112, Tryz.ntmps112
  go_wp2_with (first | ((with_reducible refine bH (N := 12) rfl ?_); refine Kd.pO Kd.string _ 9 ?hg (N := 12) ?hd (xs := ([(⟨#[61, 61]⟩ : ByteArray), (⟨#[33, 61]⟩ : ByteArray), (⟨#[60]⟩ : ByteArray), (⟨#[60, 61]⟩ : ByteArray)] : List ByteArray)) (inner := [.string (⟨#[61, 61]⟩ : ByteArray), .string (⟨#[33, 61]⟩ : ByteArray), .string (⟨#[60]⟩ : ByteArray), .string (⟨#[60, 61]⟩ : ByteArray)]) (ok := fun _ => True) (okp := fun _ => True) ?hr ?hp (fun _ hk => hk) trivial (Below.refl _ _) (Nat.le_refl _) (by simp) ?_; (case hd => rfl); (case hg => rfl); (case hr => first | (go_simp; done) | (go_simp; rfl)); (case hp => exact (eG.one (show Kd.M Kd.string _ _ _ (⟨#[61, 61]⟩ : ByteArray) [.string (⟨#[61, 61]⟩ : ByteArray)] from rfl) (eG.one (show Kd.M Kd.string _ _ _ (⟨#[33, 61]⟩ : ByteArray) [.string (⟨#[33, 61]⟩ : ByteArray)] from rfl) (eG.one (show Kd.M Kd.string _ _ _ (⟨#[60]⟩ : ByteArray) [.string (⟨#[60]⟩ : ByteArray)] from rfl) (eG.one (show Kd.M Kd.string _ _ _ (⟨#[60, 61]⟩ : ByteArray) [.string (⟨#[60, 61]⟩ : ByteArray)] from rfl) (eG.none _ _)))))); intro v1364 w9 ho10 hb hg_ hnew_; clear hg_ hnew_; (first | rw [← Ny1363.out] at ho10 | (simp only [Int.reduceToNat] at ho10; rw [← Ny1363.out] at ho10)); refine yA2 (Kd.iw ho10 (bD Z1)) (aA Z1 hb) ?_; clear HB; intro HO1365 HB; clear hb ho10))
  go_ret
  exact ⟨_, Z8, by (with_reducible repeat (first | apply Kd.iP | apply Kd.iI | apply Kd.jf)); exact HO1365.out, Z1⟩
 revert H
 refine aU (fun c11b0 c11b1 H => ?_) fun c11 c11b0 c11b1 H => ?_
 ·obtain ⟨y1366, hy1366⟩ : ∃ y_ : List ByteArray, y_ = (([(⟨#[43]⟩ : ByteArray), (⟨#[45]⟩ : ByteArray), (⟨#[46, 46]⟩ : ByteArray)] : List ByteArray)) := ⟨_, rfl⟩
  replace H : (some y1366) = some r := by first | (rw [hy1366]; with_reducible exact H) | (have H2_ := (Option.bind_some _ _).symm.trans H; rw [hy1366]; with_reducible exact H2_) | (have H2_ := (Option.bind_some _ _).symm.trans H; with_reducible exact H2_) | with_reducible exact H | (rw [hy1366]; exact H) | exact H
  have Ny1366 := af.mk hy1366
  clear hy1366
  obtain rfl := Option.some.inj H
  go_enter Tryz.func112, Tryz.ntmps112
  go_wp2_with (first | ((with_reducible refine bH (N := 15) rfl ?_); refine Kd.pO Kd.string _ 9 ?hg (N := 15) ?hd (xs := ([(⟨#[43]⟩ : ByteArray), (⟨#[45]⟩ : ByteArray), (⟨#[46, 46]⟩ : ByteArray)] : List ByteArray)) (inner := [.string (⟨#[43]⟩ : ByteArray), .string (⟨#[45]⟩ : ByteArray), .string (⟨#[46, 46]⟩ : ByteArray)]) (ok := fun _ => True) (okp := fun _ => True) ?hr ?hp (fun _ hk => hk) trivial (Below.refl _ _) (Nat.le_refl _) (by simp) ?_; (case hd => rfl); (case hg => rfl); (case hr => first | (go_simp; done) | (go_simp; rfl)); (case hp => exact (eG.one (show Kd.M Kd.string _ _ _ (⟨#[43]⟩ : ByteArray) [.string (⟨#[43]⟩ : ByteArray)] from rfl) (eG.one (show Kd.M Kd.string _ _ _ (⟨#[45]⟩ : ByteArray) [.string (⟨#[45]⟩ : ByteArray)] from rfl) (eG.one (show Kd.M Kd.string _ _ _ (⟨#[46, 46]⟩ : ByteArray) [.string (⟨#[46, 46]⟩ : ByteArray)] from rfl) (eG.none _ _))))); intro v1367 w12 ho13 hb hg_ hnew_; clear hg_ hnew_; (first | rw [← Ny1366.out] at ho13 | (simp only [Int.reduceToNat] at ho13; rw [← Ny1366.out] at ho13)); refine yA2 (Kd.iw ho13 (bD Z1)) (aA Z1 hb) ?_; clear HB; intro HO1368 HB; clear hb ho13))
  go_ret
  exact ⟨_, Z8, by (with_reducible repeat (first | apply Kd.iP | apply Kd.iI | apply Kd.jf)); exact HO1368.out, Z1⟩
 obtain ⟨y1369, hy1369⟩ : ∃ y_ : List ByteArray, y_ = (([(⟨#[42]⟩ : ByteArray), (⟨#[47]⟩ : ByteArray), (⟨#[37]⟩ : ByteArray)] : List ByteArray)) := ⟨_, rfl⟩
 replace H : (some y1369) = some r := by first | (rw [hy1369]; with_reducible exact H) | (have H2_ := (Option.bind_some _ _).symm.trans H; rw [hy1369]; with_reducible exact H2_) | (have H2_ := (Option.bind_some _ _).symm.trans H; with_reducible exact H2_) | with_reducible exact H | (rw [hy1369]; exact H) | exact H
 have Ny1369 := af.mk hy1369
 clear hy1369
 obtain rfl := Option.some.inj H
 go_enter Tryz.func112, Tryz.ntmps112
 go_wp2_with (first | ((with_reducible refine bH (N := 16) rfl ?_); refine Kd.pO Kd.string _ 9 ?hg (N := 16) ?hd (xs := ([(⟨#[42]⟩ : ByteArray), (⟨#[47]⟩ : ByteArray), (⟨#[37]⟩ : ByteArray)] : List ByteArray)) (inner := [.string (⟨#[42]⟩ : ByteArray), .string (⟨#[47]⟩ : ByteArray), .string (⟨#[37]⟩ : ByteArray)]) (ok := fun _ => True) (okp := fun _ => True) ?hr ?hp (fun _ hk => hk) trivial (Below.refl _ _) (Nat.le_refl _) (by simp) ?_; (case hd => rfl); (case hg => rfl); (case hr => first | (go_simp; done) | (go_simp; rfl)); (case hp => exact (eG.one (show Kd.M Kd.string _ _ _ (⟨#[42]⟩ : ByteArray) [.string (⟨#[42]⟩ : ByteArray)] from rfl) (eG.one (show Kd.M Kd.string _ _ _ (⟨#[47]⟩ : ByteArray) [.string (⟨#[47]⟩ : ByteArray)] from rfl) (eG.one (show Kd.M Kd.string _ _ _ (⟨#[37]⟩ : ByteArray) [.string (⟨#[37]⟩ : ByteArray)] from rfl) (eG.none _ _))))); intro v1370 w14 ho15 hb hg_ hnew_; clear hg_ hnew_; (first | rw [← Ny1369.out] at ho15 | (simp only [Int.reduceToNat] at ho15; rw [← Ny1369.out] at ho15)); refine yA2 (Kd.iw ho15 (bD Z1)) (aA Z1 hb) ?_; clear HB; intro HO1371 HB; clear hb ho15))
 go_ret
 exact ⟨_, Z8, by (with_reducible repeat (first | apply Kd.iP | apply Kd.iI | apply Kd.jf)); exact HO1371.out, Z1⟩
/-! ### bM: function 108 -/
def bM.l0 : Nat → List ByteArray → Int → List (S37) → Int → Bool → Option (ByteArray × Int × Bool)
 | 0, _, _, _, _, _ => none
 | k + 1, x5, x6, x1000, x1001, x1002 => if x6 < (x5.length : Int) then (if 0 ≤ x6 then ((bC.f x1000 x1001 x1002 (nX ByteArray.empty x5 x6)).bind fun bt1376 => (if bt1376.1 = true then (some (nX ByteArray.empty x5 x6, bt1376.2.1, bt1376.2.2)) else (bM.l0 k x5 (wrap64 (x6 + 1)) x1000 bt1376.2.1 bt1376.2.2))) else (none)) else (some ((⟨#[]⟩ : ByteArray), x1001, x1002))
def bM.f (k : Nat) (s0_0 : List (S37)) (s0_1 : Int) (s0_2 : Bool) (a1 : Int) : Option (ByteArray × Int × Bool) := (gZ.f a1).bind fun t1372 => (bM.l0 k t1372 0 s0_0 s0_1 s0_2)
theorem bM.bZ : ∀ k, (∀ y0 y1 y2 y3 y4, LeO (bM.l0 k y0 y1 y2 y3 y4) (bM.l0 (k + 1) y0 y1 y2 y3 y4))
 | 0 => fun _ _ _ _ _ r h => by simp [bM.l0] at h
 | k + 1 => by
  have ih0 := bM.bZ k
  intro y0 y1 y2 y3 y4
  unfold bM.l0
  exact yL
theorem bM.mono : ∀ a0 a1 a2 a3 k, LeO (bM.f k a0 a1 a2 a3) (bM.f (k + 1) a0 a1 a2 a3) := by
 intro a0 a1 a2 a3 k
 have ih0 := bM.bZ k
 unfold bM.f
 exact yL
-- BY HAND: function 125 (runtime_PanicNilError_RuntimeError)
end Go.Proofs.YtkbhkonenkgfoaaGreat.Q
end
section
set_option linter.unusedVariables false
set_option linter.unusedSimpArgs false
namespace Go.Proofs.YtkbhkonenkgfoaaGreat.Q
open Go Go.RowKit Go.Proofs.YtkbhkonenkgfoaaGreatW.PrintWords Go.Proofs.YtkbhkonenkgfoaaGreatW.PrintLast Go.Proofs.YtkbhkonenkgfoaaGreatW.PrintMore
attribute [local go_sem] l7 lu lq lm
set_option maxHeartbeats 8000000 in
set_option maxRecDepth 100000 in
theorem opC (k : Nat) (g : Nat) (s0 : List S37) (s1 : Int) (s2 : Bool) (n : Int) (r : ByteArray) (e1 : Int) (e2 : Bool) (w0 w : World) (hI : Rd 47 w0 w g s0 s1 s2) (hB : Below w0.heap.size w0 w) (h : bM.f k s0 s1 s2 n = some (r, e1, e2)) :
 Calls Tryz.prog 108 #[.pointer (some ⟨g, 0, none⟩), .int .i64 n] w (Back 47 w0 w g s0 e1 e2 fun e _ => e = .returned (.string r)) := by
 unfold bM.f at h
 have HS := St.new (T := 47) (by decide) hI hB
 have H := af.mk h
 clear h hI hB
 go_enter Tryz.func108, Tryz.ntmps108
 go_wp2_with (first | ((with_reducible refine gC 112 rfl ?_); refine sG 112 rfl Tryz.func112 (stT HS) H (fun t => gZ.calls _ t _) ?_; clear HS H; intro t w' A c HS H; (try dsimp only at H)))
 (try simp only [Act.put, List.setIfInBounds_toArray, List.set_cons_zero, List.set_cons_succ])
 go_loopg [6] k (fun kq v6 w' => ∃ (x6 p : Int) (d : Bool), v6 = .int .i64 x6 ∧ af (bM.l0 kq t x6 s0 p d = some (r, e1, e2)) ∧ af (kq ≤ k) ∧ St 47 w0 w w' g s0 p d [] [] ⟨[], [(.slice A t.length c, t)]⟩)
 case atStart => exact ⟨0, _, _, rfl, H, ⟨Nat.le_refl _⟩, stT HS⟩
 case round =>
  clear HS H
  obtain ⟨x6, p, d, rfl, H, HK1, HS⟩ := hrel
  cases gk with
  | zero => exact absurd H.out (by simp [bM.l0])
  | succ k1 =>
   simp only [bM.l0] at H
   by_cases c1 : x6 < (t.length : Int)
   rotate_left
   ·replace H := hE c1 H
    have c1b : decide (x6 < (t.length : Int)) = false := decide_eq_false c1
    clear c1
    go_wp2
    have h_ := H.out; simp only [Option.some.injEq, Prod.mk.injEq] at h_; obtain ⟨rfl, rfl, rfl⟩ := h_
    go_ret
    exact (stT HS).back rfl
   replace H := hI c1 H
   by_cases c2 : 0 ≤ x6
   rotate_left
   ·exact absurd (hE c2 H).out (by simp)
   replace H := hI c2 H
   obtain ⟨ad, rfl, hx⟩ := HS.str x6 c2 c1
   have c1b : decide (x6 < (t.length : Int)) = true := decide_eq_true c1
   have p3 := eq_true c2
   have q3 := eq_true c1
   clear c1 c2
   go_wp2_with ((with_reducible refine gC 36 rfl ?_); refine sB 36 rfl Tryz.func36 (stT HS) H (fun t q b hI hB => takeC g _ _ _ _ t q b w0 _ hI hB) ?_; clear HS H; intro t1 q b w' HS H; have hx := HS.D7 (of_eq_true p3) (of_eq_true q3); cases t1 <;> (try simp only [if_true, if_false, eq_self, Bool.false_eq_true, Bool.not_true, Bool.not_false] at H))
   all_goals first
    | (go_roundg k1; (case measure => have := HK1.out; omega); (case rel => exact ⟨_, _, _, rfl, H, ⟨by have := HK1.out; omega⟩, stT HS⟩))
    | (have h_ := H.out; simp only [Option.some.injEq, Prod.mk.injEq] at h_; obtain ⟨rfl, rfl, rfl⟩ := h_; go_ret; exact (stT HS).back rfl)
end Go.Proofs.YtkbhkonenkgfoaaGreat.Q
end
