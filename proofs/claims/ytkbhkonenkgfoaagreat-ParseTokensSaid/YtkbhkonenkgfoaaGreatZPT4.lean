/- Walks over functions of the program, words for them, and what the functions come to; of each text only what this claim uses; no condition. -/
import Derived.Test.YtkbhkonenkgfoaaGreatZPT0
import Derived.Test.YtkbhkonenkgfoaaGreatZPT1
import Derived.Test.YtkbhkonenkgfoaaGreatZPT2
import Derived.Test.YtkbhkonenkgfoaaGreatZPT3
section
namespace Go.Proofs.YtkbhkonenkgfoaaGreat.Q
open Go.RowKit Go.Proofs.YtkbhkonenkgfoaaGreatW.PrintWords Go.Proofs.YtkbhkonenkgfoaaGreatW.PrintLast Go.Proofs.YtkbhkonenkgfoaaGreatW.PrintMore
attribute [local go_sem] dJ dH dS dR cZ cO dI dG
set_option linter.unusedVariables false
set_option linter.unusedSimpArgs false
/-! ### fJ: function 53 -/
def fJ.l0 : Nat → ByteArray → List Int → Bool → Int → Option (ByteArray × Int)
 | 0, _, _, _, _ => none
 | k + 1, x0, x4, x5, x6 => if x6 < (x0.size : Int) then (if 0 ≤ x6 then (if x5 = true then ((lJ.f (bt x0 x6)).bind fun bt109 => (if bt109.2 = true then (if x4.length < 140737488355328 then (fJ.l0 k x0 (x4 ++ [bt109.1]) false (wrap64 (x6 + 1))) else (none)) else (some ((⟨#[]⟩ : ByteArray), 0)))) else (if (bt x0 x6) = 34 then (some (strOfNums x4, wrap64 (x6 + 1))) else (if (bt x0 x6) = 10 then (some ((⟨#[]⟩ : ByteArray), 0)) else (if (bt x0 x6) = 92 then (fJ.l0 k x0 x4 true (wrap64 (x6 + 1))) else (if x4.length < 140737488355328 then (fJ.l0 k x0 (x4 ++ [bt x0 x6]) x5 (wrap64 (x6 + 1))) else (none)))))) else (none)) else (some ((⟨#[]⟩ : ByteArray), 0))
def fJ.f (k : Nat) (a0 : ByteArray) : Option (ByteArray × Int) := fJ.l0 k a0 ([] : List Int) false 1
theorem fJ.bZ : ∀ k, (∀ y0 y1 y2 y3, LeO (fJ.l0 k y0 y1 y2 y3) (fJ.l0 (k + 1) y0 y1 y2 y3))
 | 0 => fun _ _ _ _ r h => by simp [fJ.l0] at h
 | k + 1 => by
  have ih0 := fJ.bZ k
  intro y0 y1 y2 y3
  unfold fJ.l0
  exact yL
theorem fJ.mono : ∀ a0 k, LeO (fJ.f k a0) (fJ.f (k + 1) a0) := by
 intro a0 k
 have ih0 := fJ.bZ k
 unfold fJ.f
 exact yL
set_option maxHeartbeats 8000000 in
set_option maxRecDepth 100000 in
theorem fJ.calls (k : Nat) (a0 : ByteArray) (r1 : ByteArray) (r2 : Int) (w : World) (h : fJ.f k a0 = some (r1, r2)) :
 Calls Tryz.prog 53 #[.string a0] w fun e w' => e = .returned (.tuple #[.string r1, .int .i64 r2]) ∧ Below w.heap.size w w' := by
 have HB := af.mk (Below.refl w.heap.size w)
 have H := h
 clear h
 unfold fJ.f at H
 have H' := af.mk H
 clear H
 go_enter Tryz.func53, Tryz.ntmps53
 go_wp2
 go_loopg [4, 5, 6] k (fun kq v4 v5 v6 w' => ∃ (x4_1 : List Int) (x5_1 : Bool) (x6_1 : Int), v5 = .bool x5_1 ∧ v6 = .int .i64 x6_1 ∧ af (fJ.l0 kq a0 x4_1 x5_1 x6_1 = some (r1, r2)) ∧ af (kq ≤ k) ∧ af (Kd.R (Kd.int .u8) 5 w' w.heap.size (fun _ => True) v4 x4_1) ∧ af (Below w.heap.size w w'))
 case atStart => exact ⟨(([] : List Int)), (false), (1), fT, fT, H', ⟨Nat.le_refl _⟩, ⟨Z7⟩, ⟨bT HB⟩⟩
 case round =>
  clear H'
  obtain ⟨x4_1, x5_1, x6_1, rfl, rfl, HA, HK1, HO_4, HB⟩ := hrel
  cases gk with
  | zero => exact absurd HA.out (by simp [fJ.l0])
  | succ k1 =>
   have H := HA.out
   clear HA
   simp only [fJ.l0] at H
   revert H
   refine iR (fun c2b0 H => ?_) fun c2b0 H => ?_
   ·revert H
    refine gB (fun c3b0 H => ?_) fun c3 H => ?_
    ·cases x5_1
     rotate_left
     ·replace H := yT H
      revert H
      refine yB2 fun t109 t110 A6 H => ?_
      try dsimp only at H
      cases t110
      rotate_left
      ·replace H := yT H
       revert H
       refine gU (fun c8 H => ?_) fun c8 H => ?_
       ·have LMc8 := af.mk c8
        clear c8
        obtain ⟨y111, hy111⟩ : ∃ y_ : List Int, y_ = (x4_1 ++ [t109]) := ⟨_, rfl⟩
        replace H : (fJ.l0 k1 a0 y111 false (wrap64 (x6_1 + 1))) = some (r1, r2) := by first | (rw [hy111]; with_reducible exact H) | (have H2_ := (Option.bind_some _ _).symm.trans H; rw [hy111]; with_reducible exact H2_) | (have H2_ := (Option.bind_some _ _).symm.trans H; with_reducible exact H2_) | with_reducible exact H | (rw [hy111]; exact H) | exact H
        have Ny111 := af.mk hy111
        clear hy111
        have H' := af.mk H
        clear H
        have p4 : 0 ≤ (x6_1 : Int) := of_decide_eq_true aT
        have q4 : x6_1 < (a0.size : Int) := of_decide_eq_true aT
        have hx4 := jr a0 x6_1
        replace p4 := eq_true p4
        replace q4 := eq_true q4
        go_wp2_with (first | ((with_reducible refine gC 90 rfl ?_); refine gM 90 27 rfl Tryz.func90 (lJ.calls (bt a0 x6_1) t109 true _ A6.out) ?_; rintro _ w' ⟨rfl, ⟨nd, rfl⟩⟩; refine ⟨_, rfl, ?_⟩) | ((with_reducible refine ed (b := .append) (xs := #[.tmp 32, .tmp 34]) rfl ?_); at_builtin; refine Kd.lZ (Kd.int .u8) (w0 := w) w.heap.size rfl (.tmp 32) (.tmp 34) 91 5 (.int .u8 0) 1 rfl Tryz.underlying91 info5 rfl (by decide) (by omega) u4 x4_1 t109 [.int .u8 t109] (fun _ => True) (fun _ => False) rfl rfl ?aP (fun _ hk => hk.elim) ?aF ?aO ?aB ?aS ?aL ?_; (case aP => exact rfl); (case aB => exact (bT HB)); (case aF => exact (fun _ _ => trivial)); (case aO => exact (qR HO_4)); (case aS => exact (bD (bT HB))); (case aL => have := LMc8.out; omega); intro v112 w9 ho hb hg hat; rw [← Ny111.out] at ho; refine yA2 (hb) (ho) ?_; clear HB HO_4; intro HB HO113; clear ho hb hg hat))
        go_roundg k1
        case measure => have := HK1.out; omega
        case rel => exact ⟨(y111), (false), (wrap64 (x6_1 + 1)), fT, fT, H', ⟨by have := HK1.out; omega⟩, ⟨qR HO113⟩, ⟨bT HB⟩⟩
       exact absurd H (by simp)
      replace H := yF H
      simp only [Option.some.injEq, Prod.mk.injEq] at H
      obtain ⟨rfl, rfl⟩ := H
      have p4 : 0 ≤ (x6_1 : Int) := of_decide_eq_true aT
      have q4 : x6_1 < (a0.size : Int) := of_decide_eq_true aT
      have hx4 := jr a0 x6_1
      replace p4 := eq_true p4
      replace q4 := eq_true q4
      go_wp2_with (first | ((with_reducible refine gC 90 rfl ?_); refine gM 90 27 rfl Tryz.func90 (lJ.calls (bt a0 x6_1) t109 false _ A6.out) ?_; rintro _ w' ⟨rfl, ⟨nd, rfl⟩⟩; refine ⟨_, rfl, ?_⟩))
      go_ret2
      exact ⟨eT, bT HB⟩
     replace H := yF H
     revert H
     refine aU (fun c10b0 c10b1 H => ?_) fun c10 c10b0 c10b1 H => ?_
     ·simp only [Option.some.injEq, Prod.mk.injEq] at H
      obtain ⟨rfl, rfl⟩ := H
      have p4 : 0 ≤ (x6_1 : Int) := of_decide_eq_true aT
      have q4 : x6_1 < (a0.size : Int) := of_decide_eq_true aT
      have hx4 := jr a0 x6_1
      replace p4 := eq_true p4
      replace q4 := eq_true q4
      have hcv11 := zW (P := Tryz.prog) Tryz.underlying91 Tryz.underlying5 Tryz.underlying9 (Kd.uZ HO_4.out)
      go_wp2
      go_ret2
      exact ⟨eT, bT HB⟩
     revert H
     refine aU (fun c12b0 c12b1 H => ?_) fun c12 c12b0 c12b1 H => ?_
     ·simp only [Option.some.injEq, Prod.mk.injEq] at H
      obtain ⟨rfl, rfl⟩ := H
      have p4 : 0 ≤ (x6_1 : Int) := of_decide_eq_true aT
      have q4 : x6_1 < (a0.size : Int) := of_decide_eq_true aT
      have hx4 := jr a0 x6_1
      replace p4 := eq_true p4
      replace q4 := eq_true q4
      go_wp2
      go_ret2
      exact ⟨eT, bT HB⟩
     revert H
     refine aU (fun c13b0 c13b1 H => ?_) fun c13 c13b0 c13b1 H => ?_
     ·have H' := af.mk H
      clear H
      have p4 : 0 ≤ (x6_1 : Int) := of_decide_eq_true aT
      have q4 : x6_1 < (a0.size : Int) := of_decide_eq_true aT
      have hx4 := jr a0 x6_1
      replace p4 := eq_true p4
      replace q4 := eq_true q4
      go_wp2
      go_roundg k1
      case measure => have := HK1.out; omega
      case rel => exact ⟨(x4_1), (true), (wrap64 (x6_1 + 1)), fT, fT, H', ⟨by have := HK1.out; omega⟩, ⟨qR HO_4⟩, ⟨bT HB⟩⟩
     revert H
     refine gU (fun c14 H => ?_) fun c14 H => ?_
     ·have LMc14 := af.mk c14
      clear c14
      obtain ⟨y114, hy114⟩ : ∃ y_ : List Int, y_ = (x4_1 ++ [bt a0 x6_1]) := ⟨_, rfl⟩
      replace H : (fJ.l0 k1 a0 y114 false (wrap64 (x6_1 + 1))) = some (r1, r2) := by first | (rw [hy114]; with_reducible exact H) | (have H2_ := (Option.bind_some _ _).symm.trans H; rw [hy114]; with_reducible exact H2_) | (have H2_ := (Option.bind_some _ _).symm.trans H; with_reducible exact H2_) | with_reducible exact H | (rw [hy114]; exact H) | exact H
      have Ny114 := af.mk hy114
      clear hy114
      have H' := af.mk H
      clear H
      have p4 : 0 ≤ (x6_1 : Int) := of_decide_eq_true aT
      have q4 : x6_1 < (a0.size : Int) := of_decide_eq_true aT
      have hx4 := jr a0 x6_1
      replace p4 := eq_true p4
      replace q4 := eq_true q4
      go_wp2_with (first | ((with_reducible refine ed (b := .append) (xs := #[.tmp 19, .tmp 21]) rfl ?_); at_builtin; refine Kd.lZ (Kd.int .u8) (w0 := w) w.heap.size rfl (.tmp 19) (.tmp 21) 91 5 (.int .u8 0) 1 rfl Tryz.underlying91 info5 rfl (by decide) (by omega) u4 x4_1 (bt a0 x6_1) [.int .u8 (bt a0 x6_1)] (fun _ => True) (fun _ => False) rfl rfl ?aP (fun _ hk => hk.elim) ?aF ?aO ?aB ?aS ?aL ?_; (case aP => exact rfl); (case aB => exact (bT HB)); (case aF => exact (fun _ _ => trivial)); (case aO => exact (qR HO_4)); (case aS => exact (bD (bT HB))); (case aL => have := LMc14.out; omega); intro v115 w15 ho hb hg hat; rw [← Ny114.out] at ho; refine yA2 (hb) (ho) ?_; clear HB HO_4; intro HB HO116; clear ho hb hg hat))
      go_roundg k1
      case measure => have := HK1.out; omega
      case rel => exact ⟨(y114), (false), (wrap64 (x6_1 + 1)), fT, fT, H', ⟨by have := HK1.out; omega⟩, ⟨qR HO116⟩, ⟨bT HB⟩⟩
     exact absurd H (by simp)
    exact absurd H (by simp)
   simp only [Option.some.injEq, Prod.mk.injEq] at H
   obtain ⟨rfl, rfl⟩ := H
   go_wp2
   go_ret2
   exact ⟨eT, bT HB⟩
end Go.Proofs.YtkbhkonenkgfoaaGreat.Q
end
section
namespace Go.Proofs.YtkbhkonenkgfoaaGreat.Q
open Go.RowKit Go.Proofs.YtkbhkonenkgfoaaGreatW.PrintWords Go.Proofs.YtkbhkonenkgfoaaGreatW.PrintLast Go.Proofs.YtkbhkonenkgfoaaGreatW.PrintMore
attribute [local go_sem] dJ dH dS dR cZ cO dI dG
set_option linter.unusedVariables false
set_option linter.unusedSimpArgs false
/-! ### gX: function 54 -/
def gX.j0 : Nat → ByteArray → Bool → Option (ByteArray)
 | 0, _, _ => none
 | k + 1, x0, x16 => if x16 = true then (if 0 ≤ 2 then (if 2 ≤ (x0.size : Int) then (some (x0.extract 0 2)) else (none)) else (none)) else (if 0 ≤ 1 then (if 1 ≤ (x0.size : Int) then ((dW.f k (⟨#[40, 41, 123, 125, 91, 93, 44, 59, 46, 47, 61, 60, 43, 45, 42, 37]⟩ : ByteArray) (x0.extract 0 1)).bind fun t118 => (if t118 = true then (some (x0.extract 0 1)) else (some (⟨#[]⟩ : ByteArray)))) else (none)) else (none))
def gX.f (k : Nat) (a0 : ByteArray) : Option (ByteArray) := if (a0.size : Int) > 1 then (if 0 ≤ 2 then (if 2 ≤ (a0.size : Int) then (if (a0.extract 0 2).size + 1 ≤ 9223372036854775807 then ((dW.f k (⟨#[61, 61, 32, 33, 61, 32, 60, 61, 32, 46, 46, 32]⟩ : ByteArray) ((a0.extract 0 2) ++ (⟨#[32]⟩ : ByteArray))).bind fun t117 => (if t117 = true then (if 1 < (a0.size : Int) then (gX.j0 k a0 ((bt a0 1) != 32)) else (none)) else (gX.j0 k a0 false))) else (none)) else (none)) else (none)) else (gX.j0 k a0 false)
theorem gX.bZ : ∀ k, (∀ y0 y1, LeO (gX.j0 k y0 y1) (gX.j0 (k + 1) y0 y1))
 | 0 => fun _ _ r h => by simp [gX.j0] at h
 | k + 1 => by
  have ih0 := gX.bZ k
  intro y0 y1
  unfold gX.j0
  have m0 := dW.mono
  exact yL
theorem gX.mono : ∀ a0 k, LeO (gX.f k a0) (gX.f (k + 1) a0) := by
 intro a0 k
 have ih0 := gX.bZ k
 unfold gX.f
 have m0 := dW.mono
 exact yL
set_option maxHeartbeats 8000000 in
set_option maxRecDepth 100000 in
theorem gX.calls (k : Nat) (a0 : ByteArray) (r : ByteArray) (w : World) (h : gX.f k a0 = some r) :
 Calls Tryz.prog 54 #[.string a0] w fun e w' => e = .returned (.string r) ∧ dZ w w' := by
 have H := h
 clear h
 unfold gX.f at H
 have HC2 := af.mk H
 clear H
 go_enter Tryz.func54, Tryz.ntmps54
 go_upto_region 1 with (fail)
 go_cut [16] (fun v16 wc => ∃ (kq : Nat) (x16_1 : Bool), v16 = .bool x16_1 ∧ af (gX.j0 kq a0 x16_1 = some r) ∧ af (kq ≤ k) ∧ dZ w wc)
 case first =>
  have H := HC2.out
  clear HC2
  revert H
  refine gU (fun c3 H => ?_) fun c3 H => ?_
  ·have c3b0 : decide (1 < (a0.size : Int)) = true := decide_eq_true c3
   have c3b1 : decide (1 < a0.size) = true := decide_eq_true (by omega)
   clear c3
   (first | rw [c3b0] | (simp only [fP, gG]; rw [c3b0]) | skip)
   revert H
   refine jm (fun c4b0 c4b1 H => ?_) fun c4 H => ?_
   ·revert H
    refine jm (fun c5b0 c5b1 H => ?_) fun c5 H => ?_
    ·revert H
     refine oz (fun c6 c6b0 c6b1 H => ?_) fun c6 H => ?_
     ·try have c6b2 : (9223372036854775807 < (a0.extract 0 2).size + 1) = False := eq_false (Nat.not_lt.2 c6)
      revert H
      refine yB1 fun t117 A7 H => ?_
      cases t117
      rotate_left
      ·replace H := yT H
       revert H
       refine kP (fun c9 c9b0 H => ?_) fun c9 H => ?_
       ·have c9b1 : decide (1 < a0.size) = true := decide_eq_true (by omega)
        clear c9
        have H' := af.mk H
        clear H
        go_wp2_with (first | (go_at_call 89; (with_reducible refine (dW.calls k (⟨#[61, 61, 32, 33, 61, 32, 60, 61, 32, 46, 46, 32]⟩ : ByteArray) ((a0.extract 0 2) ++ (⟨#[32]⟩ : ByteArray)) true _ A7.out).mono ?_); rintro e w' ⟨rfl, ⟨nd, rfl⟩⟩; have p10 : 0 ≤ (1 : Int) := (by omega); have q10 : 1 < a0.size := (by have : (1 : Int) < (a0.size : Int) := of_decide_eq_true aT; omega); have hx10 : ∀ h : 1 < a0.size, ((a0[1]'h).toNat : Int) = bt a0 1 := jr a0 1; clear p10; have qi10 : (1 < (a0.size : Int)) = True := eq_true (of_decide_eq_true aT); replace q10 := eq_true q10))
        go_meet
        case rel => exact ⟨_, (((bt a0 1) != 32)), fT, H', ⟨Z11⟩, Z0⟩
       exact absurd H (by simp)
      replace H := yF H
      have H' := af.mk H
      clear H
      go_wp2_with (first | (go_at_call 89; (with_reducible refine (dW.calls k (⟨#[61, 61, 32, 33, 61, 32, 60, 61, 32, 46, 46, 32]⟩ : ByteArray) ((a0.extract 0 2) ++ (⟨#[32]⟩ : ByteArray)) false _ A7.out).mono ?_); rintro e w' ⟨rfl, ⟨nd, rfl⟩⟩))
      go_meet
      case rel => exact ⟨_, (false), fT, H', ⟨Z11⟩, Z0⟩
     exact absurd H (by simp)
    exact absurd H (by simp)
   exact absurd H (by simp)
  have c3b0 : decide (1 < (a0.size : Int)) = false := decide_eq_false c3
  have c3b1 : decide (1 < a0.size) = false := decide_eq_false (by omega)
  clear c3
  (first | rw [c3b0] | (simp only [fP, gG]; rw [c3b0]) | skip)
  have H' := af.mk H
  clear H
  go_wp2
  go_meet
  case rel => exact ⟨_, (false), fT, H', ⟨Z11⟩, Z0⟩
 case rest =>
  clear HC2
  try clear p1
  try clear q1
  try clear hx1
  try clear qi1
  try clear p2
  try clear c3
  try clear c3b0
  try clear c3b1
  try clear c4
  try clear c4b0
  try clear c4b1
  try clear c5
  try clear c5b0
  try clear c5b1
  try clear c6
  try clear c6b0
  try clear c6b1
  try clear c6b2
  try clear c8
  try clear c9
  try clear c9b0
  try clear c9b1
  try clear p10
  try clear q10
  try clear hx10
  try clear qi10
  try clear p10
  try clear q10
  obtain ⟨kq, x16_1, rfl, HA, HJ1, ⟨mc1, rfl⟩⟩ := hcut
  cases kq with
  | zero => exact absurd HA.out (by simp [gX.j0])
  | succ kj1 =>
   have H := HA.out
   clear HA
   simp only [gX.j0] at H
   cases x16_1
   rotate_left
   ·replace H := yT H
    revert H
    refine jm (fun c12b0 c12b1 H => ?_) fun c12 H => ?_
    ·revert H
     refine jm (fun c13b0 c13b1 H => ?_) fun c13 H => ?_
     ·obtain rfl := Option.some.inj H
      go_wp2
      go_ret
      exact ⟨fT, Z0⟩
     exact absurd H (by simp)
    exact absurd H (by simp)
   replace H := yF H
   revert H
   refine jm (fun c14b0 c14b1 H => ?_) fun c14 H => ?_
   ·revert H
    refine jm (fun c15b0 c15b1 H => ?_) fun c15 H => ?_
    ·revert H
     refine yB1 fun t118 A16 H => ?_
     cases t118
     rotate_left
     ·replace H := yT H
      have c18b0 := eq_true (of_decide_eq_true aT : 0 ≤ 1)
      have c19b0 := eq_true (of_decide_eq_true aT : 1 ≤ (a0.size : Int))
      obtain rfl := Option.some.inj H
      go_wp2_with (first | ((with_reducible refine gC 89 rfl ?_); refine gM 89 21 rfl Tryz.func89 (dW.calls kj1 (⟨#[40, 41, 123, 125, 91, 93, 44, 59, 46, 47, 61, 60, 43, 45, 42, 37]⟩ : ByteArray) (a0.extract 0 1) true _ A16.out) ?_; rintro _ w' ⟨rfl, ⟨nd, rfl⟩⟩; refine ⟨_, rfl, ?_⟩))
      go_ret
      exact ⟨fT, Z0⟩
     replace H := yF H
     obtain rfl := Option.some.inj H
     go_wp2_with (first | ((with_reducible refine gC 89 rfl ?_); refine gM 89 21 rfl Tryz.func89 (dW.calls kj1 (⟨#[40, 41, 123, 125, 91, 93, 44, 59, 46, 47, 61, 60, 43, 45, 42, 37]⟩ : ByteArray) (a0.extract 0 1) false _ A16.out) ?_; rintro _ w' ⟨rfl, ⟨nd, rfl⟩⟩; refine ⟨_, rfl, ?_⟩))
     go_ret
     exact ⟨fT, Z0⟩
    exact absurd H (by simp)
   exact absurd H (by simp)
end Go.Proofs.YtkbhkonenkgfoaaGreat.Q
end
section
namespace Go.Proofs.YtkbhkonenkgfoaaGreat.Q
open Go.RowKit Go.Proofs.YtkbhkonenkgfoaaGreatW.PrintWords Go.Proofs.YtkbhkonenkgfoaaGreatW.PrintLast Go.Proofs.YtkbhkonenkgfoaaGreatW.PrintMore
attribute [local go_sem] dJ dH dS dR cZ cO dI dG
set_option linter.unusedVariables false
set_option linter.unusedSimpArgs false
/-! ### jZ: function 20 -/
def jZ.f (k : Nat) (a0 : ByteArray) : Option (Int × ByteArray × Int × Int × Int × Int) := if 0 < (a0.size : Int) then ((ig.f (wrap32 (bt a0 0))).bind fun t120 => (if t120 = true then ((kX.f a0).bind fun t121 => ((jG.f k t121).bind fun t122 => (if t122 = true then (some (5, t121, 0, 0, (t121.size : Int), 0)) else ((iy.f k t121).bind fun t123 => (if t123 = true then (some (1, t121, 0, 0, (t121.size : Int), 0)) else (some (0, (⟨#[]⟩ : ByteArray), 0, 0, 0, 10))))))) else ((jw.f (wrap32 (bt a0 0))).bind fun t124 => (if t124 = true then ((oO.f a0).bind fun t125 => ((eu.f k t125).bind fun bt126 => (if bt126.2 = true then (some (2, t125, bt126.1, 0, (t125.size : Int), 0)) else (some (0, (⟨#[]⟩ : ByteArray), 0, 0, 0, 10))))) else (if (wrap32 (bt a0 0)) = 34 then ((fJ.f k a0).bind fun bt128 => (if bt128.2 > 0 then (some (3, bt128.1, 0, 0, bt128.2, 0)) else (some (0, (⟨#[]⟩ : ByteArray), 0, 0, 0, 10)))) else ((gX.f k a0).bind fun t130 => (if t130.toList = ([] : List UInt8) then (some (0, (⟨#[]⟩ : ByteArray), 0, 0, 0, 9)) else (some (4, t130, 0, 0, (t130.size : Int), 0))))))))) else (none)
theorem jZ.mono : ∀ a0 k, LeO (jZ.f k a0) (jZ.f (k + 1) a0) := by
 intro a0 k
 unfold jZ.f
 have m0 := jG.mono
 have m1 := iy.mono
 have m2 := eu.mono
 have m3 := fJ.mono
 have m4 := gX.mono
 exact yL
set_option maxHeartbeats 8000000 in
set_option maxRecDepth 100000 in
theorem jZ.calls (k : Nat) (a0 : ByteArray) (r1 : Int) (r2 : ByteArray) (r3 : Int) (r4 : Int) (r5 : Int) (r6 : Int) (w : World) (h : jZ.f k a0 = some (r1, r2, r3, r4, r5, r6)) :
 Calls Tryz.prog 20 #[.string a0] w fun e w' => e = .returned (.tuple #[.agg #[.int .i64 r1, .string r2, .int .i64 r3, .int .i64 r4], .int .i64 r5, .int .i64 r6]) ∧ Below w.heap.size w w' := by
 have hu37 := Tryz.underlying37
 have HB := af.mk (Below.refl w.heap.size w)
 have H := h
 clear h
 unfold jZ.f at H
 revert H
 refine kP (fun c2 c2b0 H => ?_) fun c2 H => ?_
 ·have c2b1 : decide (0 < a0.size) = true := decide_eq_true (by omega)
  clear c2
  revert H
  refine yB1 fun t120 A4 H => ?_
  cases t120
  rotate_left
  ·replace H := yT H
   revert H
   refine yB1 fun t121 A6 H => ?_
   revert H
   refine yB1 fun t122 A7 H => ?_
   cases t122
   rotate_left
   ·replace H := yT H
    simp only [Option.some.injEq, Prod.mk.injEq] at H
    obtain ⟨rfl, rfl, rfl, rfl, rfl, rfl⟩ := H
    go_enter Tryz.func20, Tryz.ntmps20
    go_wp2_with (first | ((with_reducible refine bH (N := 2) rfl ?_); refine fA ?hg (N := 2) ?hd (cs := #[.int .i64 0, .string (⟨#[]⟩ : ByteArray), .int .i64 0, .int .i64 0]) (t := 37) ?hr ?_; (case hd => rfl); (case hg => rfl); (case hr => first | (go_simp; done) | (go_simp; rfl)); intro gb119 hg w9 hbox hb; refine yA4 (aA (bT HB) hb) (hbox) ((by rw [hg]; exact (bD (bT HB)) : w.heap.size ≤ gb119)) ((by rw [hg]; exact (bD (bT HB)) : w.heap.size ≤ gb119)) ?_; clear HB; intro HB BK119 GW119 GE119; clear hb hbox hg; have p3 : 0 ≤ (0 : Int) := (by omega); have q3 : 0 < a0.size := (by have : (0 : Int) < (a0.size : Int) := of_decide_eq_true aT; omega); have hx3 : ∀ h : 0 < a0.size, ((a0[0]'h).toNat : Int) = bt a0 0 := jr a0 0; clear p3; have qi3 : (0 < (a0.size : Int)) = True := eq_true (of_decide_eq_true aT); replace q3 := eq_true q3) | ((with_reducible refine gC 47 rfl ?_); refine gM 47 27 rfl Tryz.func47 (ig.calls (wrap32 (bt a0 0)) true _ A4.out) ?_; rintro _ w' ⟨rfl, ⟨nd, rfl⟩⟩; refine ⟨_, rfl, ?_⟩; (try (rw [iq w9]; generalize hq_ : World.drewN w9 _ = w9; have n0_ : af (w9.heap[gb119]? = some (.cells #[.int .i64 0, .string (⟨#[]⟩ : ByteArray), .int .i64 0, .int .i64 0] 37 (0, 0))) := ⟨Z20⟩; have n1_ : af (Below w.heap.size w w9) := ⟨Z27⟩; clear BK119 HB hq_; have BK119 := n0_; have HB := n1_; clear n0_ n1_))) | ((with_reducible refine gC 44 rfl ?_); refine gM 44 29 rfl Tryz.func44 (kX.calls a0 t121 _ A6.out) ?_; rintro _ w10 ⟨rfl, hb⟩; refine ⟨_, rfl, yA2 (dL (g := gb119) (o := .cells #[.int .i64 0, .string (⟨#[]⟩ : ByteArray), .int .i64 0, .int .i64 0] 37 (0, 0)) (by exact BK119.out) hb) (aA (bT HB) hb) ?_⟩; clear BK119 HB hb; intro BK119 HB) | ((with_reducible refine gC 49 rfl ?_); refine gM 49 32 rfl Tryz.func49 (jG.calls k t121 true _ A7.out) ?_; rintro _ w11 ⟨rfl, hb⟩; refine ⟨_, rfl, yA2 (dL (g := gb119) (o := .cells #[.int .i64 0, .string (⟨#[]⟩ : ByteArray), .int .i64 0, .int .i64 0] 37 (0, 0)) (by exact BK119.out) hb) (aA (bT HB) hb) ?_⟩; clear BK119 HB hb; intro BK119 HB; have hcz12_0 : w11.cell? ⟨gb119, 0, none⟩ = some (.int .i64 0) := (ag BK119.out 0).trans rfl; have hcz12_1 : w11.cell? ⟨gb119, 1, none⟩ = some (.string (⟨#[]⟩ : ByteArray)) := (ag BK119.out 1).trans rfl; have hcz12_2 : w11.cell? ⟨gb119, 2, none⟩ = some (.int .i64 0) := (ag BK119.out 2).trans rfl; have hcz12_3 : w11.cell? ⟨gb119, 3, none⟩ = some (.int .i64 0) := (ag BK119.out 3).trans rfl; have hfz12_0 := ae BK119.out 0; have hfz12_1 := ae BK119.out 1; have hfz12_2 := ae BK119.out 2; have hfz12_3 := ae BK119.out 3))
    refine bodyPost_ret (jO rfl _ _ gb119 37 #[.int .i64 5, .string t121, .int .i64 0, .int .i64 0] (0, 0) _ rfl (by refine bW (cs := #[.int .i64 5, .string t121, .int .i64 0, .int .i64 0]) ?_ 3 _ rfl; refine bW (cs := #[.int .i64 5, .string t121, .int .i64 0, .int .i64 0]) ?_ 2 _ rfl; refine bW (cs := #[.int .i64 5, .string (⟨#[]⟩ : ByteArray), .int .i64 0, .int .i64 0]) ?_ 1 _ rfl; refine bW (cs := #[.int .i64 0, .string (⟨#[]⟩ : ByteArray), .int .i64 0, .int .i64 0]) ?_ 0 _ rfl; exact BK119.out) Tryz.underlying37 rfl (by kernel_rfl)) rfl ?_
    exact ⟨eT, bT HB⟩
   replace H := yF H
   revert H
   refine yB1 fun t123 A13 H => ?_
   cases t123
   rotate_left
   ·replace H := yT H
    simp only [Option.some.injEq, Prod.mk.injEq] at H
    obtain ⟨rfl, rfl, rfl, rfl, rfl, rfl⟩ := H
    go_enter Tryz.func20, Tryz.ntmps20
    go_wp2_with (first | ((with_reducible refine bH (N := 2) rfl ?_); refine fA ?hg (N := 2) ?hd (cs := #[.int .i64 0, .string (⟨#[]⟩ : ByteArray), .int .i64 0, .int .i64 0]) (t := 37) ?hr ?_; (case hd => rfl); (case hg => rfl); (case hr => first | (go_simp; done) | (go_simp; rfl)); intro gb119 hg w15 hbox hb; refine yA4 (aA (bT HB) hb) (hbox) ((by rw [hg]; exact (bD (bT HB)) : w.heap.size ≤ gb119)) ((by rw [hg]; exact (bD (bT HB)) : w.heap.size ≤ gb119)) ?_; clear HB; intro HB BK119 GW119 GE119; clear hb hbox hg; have p3 : 0 ≤ (0 : Int) := (by omega); have q3 : 0 < a0.size := (by have : (0 : Int) < (a0.size : Int) := of_decide_eq_true aT; omega); have hx3 : ∀ h : 0 < a0.size, ((a0[0]'h).toNat : Int) = bt a0 0 := jr a0 0; clear p3; have qi3 : (0 < (a0.size : Int)) = True := eq_true (of_decide_eq_true aT); replace q3 := eq_true q3) | ((with_reducible refine gC 47 rfl ?_); refine gM 47 27 rfl Tryz.func47 (ig.calls (wrap32 (bt a0 0)) true _ A4.out) ?_; rintro _ w' ⟨rfl, ⟨nd, rfl⟩⟩; refine ⟨_, rfl, ?_⟩; (try (rw [iq w15]; generalize hq_ : World.drewN w15 _ = w15; have n0_ : af (w15.heap[gb119]? = some (.cells #[.int .i64 0, .string (⟨#[]⟩ : ByteArray), .int .i64 0, .int .i64 0] 37 (0, 0))) := ⟨Z20⟩; have n1_ : af (Below w.heap.size w w15) := ⟨Z27⟩; clear BK119 HB hq_; have BK119 := n0_; have HB := n1_; clear n0_ n1_))) | ((with_reducible refine gC 44 rfl ?_); refine gM 44 29 rfl Tryz.func44 (kX.calls a0 t121 _ A6.out) ?_; rintro _ w16 ⟨rfl, hb⟩; refine ⟨_, rfl, yA2 (dL (g := gb119) (o := .cells #[.int .i64 0, .string (⟨#[]⟩ : ByteArray), .int .i64 0, .int .i64 0] 37 (0, 0)) (by exact BK119.out) hb) (aA (bT HB) hb) ?_⟩; clear BK119 HB hb; intro BK119 HB) | ((with_reducible refine gC 49 rfl ?_); refine gM 49 32 rfl Tryz.func49 (jG.calls k t121 false _ A7.out) ?_; rintro _ w17 ⟨rfl, hb⟩; refine ⟨_, rfl, yA2 (dL (g := gb119) (o := .cells #[.int .i64 0, .string (⟨#[]⟩ : ByteArray), .int .i64 0, .int .i64 0] 37 (0, 0)) (by exact BK119.out) hb) (aA (bT HB) hb) ?_⟩; clear BK119 HB hb; intro BK119 HB) | ((with_reducible refine gC 50 rfl ?_); refine gM 50 39 rfl Tryz.func50 (iy.calls k t121 true _ A13.out) ?_; rintro _ w18 ⟨rfl, hb⟩; refine ⟨_, rfl, yA2 (dL (g := gb119) (o := .cells #[.int .i64 0, .string (⟨#[]⟩ : ByteArray), .int .i64 0, .int .i64 0] 37 (0, 0)) (by exact BK119.out) hb) (aA (bT HB) hb) ?_⟩; clear BK119 HB hb; intro BK119 HB; have hcz19_0 : w18.cell? ⟨gb119, 0, none⟩ = some (.int .i64 0) := (ag BK119.out 0).trans rfl; have hcz19_1 : w18.cell? ⟨gb119, 1, none⟩ = some (.string (⟨#[]⟩ : ByteArray)) := (ag BK119.out 1).trans rfl; have hcz19_2 : w18.cell? ⟨gb119, 2, none⟩ = some (.int .i64 0) := (ag BK119.out 2).trans rfl; have hcz19_3 : w18.cell? ⟨gb119, 3, none⟩ = some (.int .i64 0) := (ag BK119.out 3).trans rfl; have hfz19_0 := ae BK119.out 0; have hfz19_1 := ae BK119.out 1; have hfz19_2 := ae BK119.out 2; have hfz19_3 := ae BK119.out 3))
    refine bodyPost_ret (jO rfl _ _ gb119 37 #[.int .i64 1, .string t121, .int .i64 0, .int .i64 0] (0, 0) _ rfl (by refine bW (cs := #[.int .i64 1, .string t121, .int .i64 0, .int .i64 0]) ?_ 3 _ rfl; refine bW (cs := #[.int .i64 1, .string t121, .int .i64 0, .int .i64 0]) ?_ 2 _ rfl; refine bW (cs := #[.int .i64 1, .string (⟨#[]⟩ : ByteArray), .int .i64 0, .int .i64 0]) ?_ 1 _ rfl; refine bW (cs := #[.int .i64 0, .string (⟨#[]⟩ : ByteArray), .int .i64 0, .int .i64 0]) ?_ 0 _ rfl; exact BK119.out) Tryz.underlying37 rfl (by kernel_rfl)) rfl ?_
    exact ⟨eT, bT HB⟩
   replace H := yF H
   simp only [Option.some.injEq, Prod.mk.injEq] at H
   obtain ⟨rfl, rfl, rfl, rfl, rfl, rfl⟩ := H
   go_enter Tryz.func20, Tryz.ntmps20
   go_wp2_with (first | ((with_reducible refine bH (N := 2) rfl ?_); refine fA ?hg (N := 2) ?hd (cs := #[.int .i64 0, .string (⟨#[]⟩ : ByteArray), .int .i64 0, .int .i64 0]) (t := 37) ?hr ?_; (case hd => rfl); (case hg => rfl); (case hr => first | (go_simp; done) | (go_simp; rfl)); intro gb119 hg w20 hbox hb; refine yA4 (aA (bT HB) hb) (hbox) ((by rw [hg]; exact (bD (bT HB)) : w.heap.size ≤ gb119)) ((by rw [hg]; exact (bD (bT HB)) : w.heap.size ≤ gb119)) ?_; clear HB; intro HB BK119 GW119 GE119; clear hb hbox hg; have p3 : 0 ≤ (0 : Int) := (by omega); have q3 : 0 < a0.size := (by have : (0 : Int) < (a0.size : Int) := of_decide_eq_true aT; omega); have hx3 : ∀ h : 0 < a0.size, ((a0[0]'h).toNat : Int) = bt a0 0 := jr a0 0; clear p3; have qi3 : (0 < (a0.size : Int)) = True := eq_true (of_decide_eq_true aT); replace q3 := eq_true q3) | ((with_reducible refine gC 47 rfl ?_); refine gM 47 27 rfl Tryz.func47 (ig.calls (wrap32 (bt a0 0)) true _ A4.out) ?_; rintro _ w' ⟨rfl, ⟨nd, rfl⟩⟩; refine ⟨_, rfl, ?_⟩; (try (rw [iq w20]; generalize hq_ : World.drewN w20 _ = w20; have n0_ : af (w20.heap[gb119]? = some (.cells #[.int .i64 0, .string (⟨#[]⟩ : ByteArray), .int .i64 0, .int .i64 0] 37 (0, 0))) := ⟨Z20⟩; have n1_ : af (Below w.heap.size w w20) := ⟨Z27⟩; clear BK119 HB hq_; have BK119 := n0_; have HB := n1_; clear n0_ n1_))) | ((with_reducible refine gC 44 rfl ?_); refine gM 44 29 rfl Tryz.func44 (kX.calls a0 t121 _ A6.out) ?_; rintro _ w21 ⟨rfl, hb⟩; refine ⟨_, rfl, yA2 (dL (g := gb119) (o := .cells #[.int .i64 0, .string (⟨#[]⟩ : ByteArray), .int .i64 0, .int .i64 0] 37 (0, 0)) (by exact BK119.out) hb) (aA (bT HB) hb) ?_⟩; clear BK119 HB hb; intro BK119 HB) | ((with_reducible refine gC 49 rfl ?_); refine gM 49 32 rfl Tryz.func49 (jG.calls k t121 false _ A7.out) ?_; rintro _ w22 ⟨rfl, hb⟩; refine ⟨_, rfl, yA2 (dL (g := gb119) (o := .cells #[.int .i64 0, .string (⟨#[]⟩ : ByteArray), .int .i64 0, .int .i64 0] 37 (0, 0)) (by exact BK119.out) hb) (aA (bT HB) hb) ?_⟩; clear BK119 HB hb; intro BK119 HB) | ((with_reducible refine gC 50 rfl ?_); refine gM 50 39 rfl Tryz.func50 (iy.calls k t121 false _ A13.out) ?_; rintro _ w23 ⟨rfl, hb⟩; refine ⟨_, rfl, yA2 (dL (g := gb119) (o := .cells #[.int .i64 0, .string (⟨#[]⟩ : ByteArray), .int .i64 0, .int .i64 0] 37 (0, 0)) (by exact BK119.out) hb) (aA (bT HB) hb) ?_⟩; clear BK119 HB hb; intro BK119 HB; have hcz24_0 : w23.cell? ⟨gb119, 0, none⟩ = some (.int .i64 0) := (ag BK119.out 0).trans rfl; have hcz24_1 : w23.cell? ⟨gb119, 1, none⟩ = some (.string (⟨#[]⟩ : ByteArray)) := (ag BK119.out 1).trans rfl; have hcz24_2 : w23.cell? ⟨gb119, 2, none⟩ = some (.int .i64 0) := (ag BK119.out 2).trans rfl; have hcz24_3 : w23.cell? ⟨gb119, 3, none⟩ = some (.int .i64 0) := (ag BK119.out 3).trans rfl; have hfz24_0 := ae BK119.out 0; have hfz24_1 := ae BK119.out 1; have hfz24_2 := ae BK119.out 2; have hfz24_3 := ae BK119.out 3))
   refine bodyPost_ret (jO rfl _ _ gb119 37 #[.int .i64 0, .string (⟨#[]⟩ : ByteArray), .int .i64 0, .int .i64 0] (0, 0) _ rfl (by refine bW (cs := #[.int .i64 0, .string (⟨#[]⟩ : ByteArray), .int .i64 0, .int .i64 0]) ?_ 3 _ rfl; refine bW (cs := #[.int .i64 0, .string (⟨#[]⟩ : ByteArray), .int .i64 0, .int .i64 0]) ?_ 2 _ rfl; refine bW (cs := #[.int .i64 0, .string (⟨#[]⟩ : ByteArray), .int .i64 0, .int .i64 0]) ?_ 1 _ rfl; refine bW (cs := #[.int .i64 0, .string (⟨#[]⟩ : ByteArray), .int .i64 0, .int .i64 0]) ?_ 0 _ rfl; exact BK119.out) Tryz.underlying37 rfl (by kernel_rfl)) rfl ?_
   exact ⟨eT, bT HB⟩
  replace H := yF H
  revert H
  refine yB1 fun t124 A25 H => ?_
  cases t124
  rotate_left
  ·replace H := yT H
   revert H
   refine yB1 fun t125 A27 H => ?_
   revert H
   refine yB2 fun t126 t127 A28 H => ?_
   try dsimp only at H
   cases t127
   rotate_left
   ·replace H := yT H
    simp only [Option.some.injEq, Prod.mk.injEq] at H
    obtain ⟨rfl, rfl, rfl, rfl, rfl, rfl⟩ := H
    go_enter Tryz.func20, Tryz.ntmps20
    go_wp2_with (first | ((with_reducible refine bH (N := 2) rfl ?_); refine fA ?hg (N := 2) ?hd (cs := #[.int .i64 0, .string (⟨#[]⟩ : ByteArray), .int .i64 0, .int .i64 0]) (t := 37) ?hr ?_; (case hd => rfl); (case hg => rfl); (case hr => first | (go_simp; done) | (go_simp; rfl)); intro gb119 hg w30 hbox hb; refine yA4 (aA (bT HB) hb) (hbox) ((by rw [hg]; exact (bD (bT HB)) : w.heap.size ≤ gb119)) ((by rw [hg]; exact (bD (bT HB)) : w.heap.size ≤ gb119)) ?_; clear HB; intro HB BK119 GW119 GE119; clear hb hbox hg; have p3 : 0 ≤ (0 : Int) := (by omega); have q3 : 0 < a0.size := (by have : (0 : Int) < (a0.size : Int) := of_decide_eq_true aT; omega); have hx3 : ∀ h : 0 < a0.size, ((a0[0]'h).toNat : Int) = bt a0 0 := jr a0 0; clear p3; have qi3 : (0 < (a0.size : Int)) = True := eq_true (of_decide_eq_true aT); replace q3 := eq_true q3) | ((with_reducible refine gC 47 rfl ?_); refine gM 47 27 rfl Tryz.func47 (ig.calls (wrap32 (bt a0 0)) false _ A4.out) ?_; rintro _ w' ⟨rfl, ⟨nd, rfl⟩⟩; refine ⟨_, rfl, ?_⟩; (try (rw [iq w30]; generalize hq_ : World.drewN w30 _ = w30; have n0_ : af (w30.heap[gb119]? = some (.cells #[.int .i64 0, .string (⟨#[]⟩ : ByteArray), .int .i64 0, .int .i64 0] 37 (0, 0))) := ⟨Z20⟩; have n1_ : af (Below w.heap.size w w30) := ⟨Z27⟩; clear BK119 HB hq_; have BK119 := n0_; have HB := n1_; clear n0_ n1_))) | ((with_reducible refine gC 51 rfl ?_); refine gM 51 46 rfl Tryz.func51 (jw.calls (wrap32 (bt a0 0)) true _ A25.out) ?_; rintro _ w' ⟨rfl, ⟨nd, rfl⟩⟩; refine ⟨_, rfl, ?_⟩; (try (rw [iq w30]; generalize hq_ : World.drewN w30 _ = w30; have n0_ : af (w30.heap[gb119]? = some (.cells #[.int .i64 0, .string (⟨#[]⟩ : ByteArray), .int .i64 0, .int .i64 0] 37 (0, 0))) := ⟨Z20⟩; have n1_ : af (Below w.heap.size w w30) := ⟨Z27⟩; clear BK119 HB hq_; have BK119 := n0_; have HB := n1_; clear n0_ n1_))) | ((with_reducible refine gC 44 rfl ?_); refine gM 44 48 rfl Tryz.func44 (oO.calls a0 t125 _ A27.out) ?_; rintro _ w31 ⟨rfl, hb⟩; refine ⟨_, rfl, yA2 (dL (g := gb119) (o := .cells #[.int .i64 0, .string (⟨#[]⟩ : ByteArray), .int .i64 0, .int .i64 0] 37 (0, 0)) (by exact BK119.out) hb) (aA (bT HB) hb) ?_⟩; clear BK119 HB hb; intro BK119 HB) | ((with_reducible refine gC 52 rfl ?_); refine gM 52 51 rfl Tryz.func52 (eu.calls k t125 t126 true _ A28.out) ?_; rintro _ w' ⟨rfl, ⟨nd, rfl⟩⟩; refine ⟨_, rfl, ?_⟩; (try (rw [iq w31]; generalize hq_ : World.drewN w31 _ = w31; have n0_ : af (w31.heap[gb119]? = some (.cells #[.int .i64 0, .string (⟨#[]⟩ : ByteArray), .int .i64 0, .int .i64 0] 37 (0, 0))) := ⟨Z20⟩; have n1_ : af (Below w.heap.size w w31) := ⟨Z27⟩; clear BK119 HB hq_; have BK119 := n0_; have HB := n1_; clear n0_ n1_)); have hcz32_0 : w31.cell? ⟨gb119, 0, none⟩ = some (.int .i64 0) := (ag BK119.out 0).trans rfl; have hcz32_1 : w31.cell? ⟨gb119, 1, none⟩ = some (.string (⟨#[]⟩ : ByteArray)) := (ag BK119.out 1).trans rfl; have hcz32_2 : w31.cell? ⟨gb119, 2, none⟩ = some (.int .i64 0) := (ag BK119.out 2).trans rfl; have hcz32_3 : w31.cell? ⟨gb119, 3, none⟩ = some (.int .i64 0) := (ag BK119.out 3).trans rfl; have hfz32_0 := ae BK119.out 0; have hfz32_1 := ae BK119.out 1; have hfz32_2 := ae BK119.out 2; have hfz32_3 := ae BK119.out 3))
    refine bodyPost_ret (jO rfl _ _ gb119 37 #[.int .i64 2, .string t125, .int .i64 t126, .int .i64 0] (0, 0) _ rfl (by refine bW (cs := #[.int .i64 2, .string t125, .int .i64 t126, .int .i64 0]) ?_ 3 _ rfl; refine bW (cs := #[.int .i64 2, .string t125, .int .i64 0, .int .i64 0]) ?_ 2 _ rfl; refine bW (cs := #[.int .i64 2, .string (⟨#[]⟩ : ByteArray), .int .i64 0, .int .i64 0]) ?_ 1 _ rfl; refine bW (cs := #[.int .i64 0, .string (⟨#[]⟩ : ByteArray), .int .i64 0, .int .i64 0]) ?_ 0 _ rfl; exact BK119.out) Tryz.underlying37 rfl (by kernel_rfl)) rfl ?_
    exact ⟨eT, bT HB⟩
   replace H := yF H
   simp only [Option.some.injEq, Prod.mk.injEq] at H
   obtain ⟨rfl, rfl, rfl, rfl, rfl, rfl⟩ := H
   go_enter Tryz.func20, Tryz.ntmps20
   go_wp2_with (first | ((with_reducible refine bH (N := 2) rfl ?_); refine fA ?hg (N := 2) ?hd (cs := #[.int .i64 0, .string (⟨#[]⟩ : ByteArray), .int .i64 0, .int .i64 0]) (t := 37) ?hr ?_; (case hd => rfl); (case hg => rfl); (case hr => first | (go_simp; done) | (go_simp; rfl)); intro gb119 hg w33 hbox hb; refine yA4 (aA (bT HB) hb) (hbox) ((by rw [hg]; exact (bD (bT HB)) : w.heap.size ≤ gb119)) ((by rw [hg]; exact (bD (bT HB)) : w.heap.size ≤ gb119)) ?_; clear HB; intro HB BK119 GW119 GE119; clear hb hbox hg; have p3 : 0 ≤ (0 : Int) := (by omega); have q3 : 0 < a0.size := (by have : (0 : Int) < (a0.size : Int) := of_decide_eq_true aT; omega); have hx3 : ∀ h : 0 < a0.size, ((a0[0]'h).toNat : Int) = bt a0 0 := jr a0 0; clear p3; have qi3 : (0 < (a0.size : Int)) = True := eq_true (of_decide_eq_true aT); replace q3 := eq_true q3) | ((with_reducible refine gC 47 rfl ?_); refine gM 47 27 rfl Tryz.func47 (ig.calls (wrap32 (bt a0 0)) false _ A4.out) ?_; rintro _ w' ⟨rfl, ⟨nd, rfl⟩⟩; refine ⟨_, rfl, ?_⟩; (try (rw [iq w33]; generalize hq_ : World.drewN w33 _ = w33; have n0_ : af (w33.heap[gb119]? = some (.cells #[.int .i64 0, .string (⟨#[]⟩ : ByteArray), .int .i64 0, .int .i64 0] 37 (0, 0))) := ⟨Z20⟩; have n1_ : af (Below w.heap.size w w33) := ⟨Z27⟩; clear BK119 HB hq_; have BK119 := n0_; have HB := n1_; clear n0_ n1_))) | ((with_reducible refine gC 51 rfl ?_); refine gM 51 46 rfl Tryz.func51 (jw.calls (wrap32 (bt a0 0)) true _ A25.out) ?_; rintro _ w' ⟨rfl, ⟨nd, rfl⟩⟩; refine ⟨_, rfl, ?_⟩; (try (rw [iq w33]; generalize hq_ : World.drewN w33 _ = w33; have n0_ : af (w33.heap[gb119]? = some (.cells #[.int .i64 0, .string (⟨#[]⟩ : ByteArray), .int .i64 0, .int .i64 0] 37 (0, 0))) := ⟨Z20⟩; have n1_ : af (Below w.heap.size w w33) := ⟨Z27⟩; clear BK119 HB hq_; have BK119 := n0_; have HB := n1_; clear n0_ n1_))) | ((with_reducible refine gC 44 rfl ?_); refine gM 44 48 rfl Tryz.func44 (oO.calls a0 t125 _ A27.out) ?_; rintro _ w34 ⟨rfl, hb⟩; refine ⟨_, rfl, yA2 (dL (g := gb119) (o := .cells #[.int .i64 0, .string (⟨#[]⟩ : ByteArray), .int .i64 0, .int .i64 0] 37 (0, 0)) (by exact BK119.out) hb) (aA (bT HB) hb) ?_⟩; clear BK119 HB hb; intro BK119 HB) | ((with_reducible refine gC 52 rfl ?_); refine gM 52 51 rfl Tryz.func52 (eu.calls k t125 t126 false _ A28.out) ?_; rintro _ w' ⟨rfl, ⟨nd, rfl⟩⟩; refine ⟨_, rfl, ?_⟩; (try (rw [iq w34]; generalize hq_ : World.drewN w34 _ = w34; have n0_ : af (w34.heap[gb119]? = some (.cells #[.int .i64 0, .string (⟨#[]⟩ : ByteArray), .int .i64 0, .int .i64 0] 37 (0, 0))) := ⟨Z20⟩; have n1_ : af (Below w.heap.size w w34) := ⟨Z27⟩; clear BK119 HB hq_; have BK119 := n0_; have HB := n1_; clear n0_ n1_)); have hcz35_0 : w34.cell? ⟨gb119, 0, none⟩ = some (.int .i64 0) := (ag BK119.out 0).trans rfl; have hcz35_1 : w34.cell? ⟨gb119, 1, none⟩ = some (.string (⟨#[]⟩ : ByteArray)) := (ag BK119.out 1).trans rfl; have hcz35_2 : w34.cell? ⟨gb119, 2, none⟩ = some (.int .i64 0) := (ag BK119.out 2).trans rfl; have hcz35_3 : w34.cell? ⟨gb119, 3, none⟩ = some (.int .i64 0) := (ag BK119.out 3).trans rfl; have hfz35_0 := ae BK119.out 0; have hfz35_1 := ae BK119.out 1; have hfz35_2 := ae BK119.out 2; have hfz35_3 := ae BK119.out 3))
   refine bodyPost_ret (jO rfl _ _ gb119 37 #[.int .i64 0, .string (⟨#[]⟩ : ByteArray), .int .i64 0, .int .i64 0] (0, 0) _ rfl (by refine bW (cs := #[.int .i64 0, .string (⟨#[]⟩ : ByteArray), .int .i64 0, .int .i64 0]) ?_ 3 _ rfl; refine bW (cs := #[.int .i64 0, .string (⟨#[]⟩ : ByteArray), .int .i64 0, .int .i64 0]) ?_ 2 _ rfl; refine bW (cs := #[.int .i64 0, .string (⟨#[]⟩ : ByteArray), .int .i64 0, .int .i64 0]) ?_ 1 _ rfl; refine bW (cs := #[.int .i64 0, .string (⟨#[]⟩ : ByteArray), .int .i64 0, .int .i64 0]) ?_ 0 _ rfl; exact BK119.out) Tryz.underlying37 rfl (by kernel_rfl)) rfl ?_
   exact ⟨eT, bT HB⟩
  replace H := yF H
  revert H
  refine aU (fun c36b0 c36b1 H => ?_) fun c36 c36b0 c36b1 H => ?_
  ·revert H
   refine yB2 fun t128 t129 A37 H => ?_
   try dsimp only at H
   revert H
   refine gU (fun c38 H => ?_) fun c38 H => ?_
   ·have c38b0 : decide (0 < t129) = true := decide_eq_true c38
    clear c38
    simp only [Option.some.injEq, Prod.mk.injEq] at H
    obtain ⟨rfl, rfl, rfl, rfl, rfl, rfl⟩ := H
    go_enter Tryz.func20, Tryz.ntmps20
    go_wp2_with (first | ((with_reducible refine bH (N := 2) rfl ?_); refine fA ?hg (N := 2) ?hd (cs := #[.int .i64 0, .string (⟨#[]⟩ : ByteArray), .int .i64 0, .int .i64 0]) (t := 37) ?hr ?_; (case hd => rfl); (case hg => rfl); (case hr => first | (go_simp; done) | (go_simp; rfl)); intro gb119 hg w39 hbox hb; refine yA4 (aA (bT HB) hb) (hbox) ((by rw [hg]; exact (bD (bT HB)) : w.heap.size ≤ gb119)) ((by rw [hg]; exact (bD (bT HB)) : w.heap.size ≤ gb119)) ?_; clear HB; intro HB BK119 GW119 GE119; clear hb hbox hg; have p3 : 0 ≤ (0 : Int) := (by omega); have q3 : 0 < a0.size := (by have : (0 : Int) < (a0.size : Int) := of_decide_eq_true aT; omega); have hx3 : ∀ h : 0 < a0.size, ((a0[0]'h).toNat : Int) = bt a0 0 := jr a0 0; clear p3; have qi3 : (0 < (a0.size : Int)) = True := eq_true (of_decide_eq_true aT); replace q3 := eq_true q3) | ((with_reducible refine gC 47 rfl ?_); refine gM 47 27 rfl Tryz.func47 (ig.calls (wrap32 (bt a0 0)) false _ A4.out) ?_; rintro _ w' ⟨rfl, ⟨nd, rfl⟩⟩; refine ⟨_, rfl, ?_⟩; (try (rw [iq w39]; generalize hq_ : World.drewN w39 _ = w39; have n0_ : af (w39.heap[gb119]? = some (.cells #[.int .i64 0, .string (⟨#[]⟩ : ByteArray), .int .i64 0, .int .i64 0] 37 (0, 0))) := ⟨Z20⟩; have n1_ : af (Below w.heap.size w w39) := ⟨Z27⟩; clear BK119 HB hq_; have BK119 := n0_; have HB := n1_; clear n0_ n1_))) | ((with_reducible refine gC 51 rfl ?_); refine gM 51 46 rfl Tryz.func51 (jw.calls (wrap32 (bt a0 0)) false _ A25.out) ?_; rintro _ w' ⟨rfl, ⟨nd, rfl⟩⟩; refine ⟨_, rfl, ?_⟩; (try (rw [iq w39]; generalize hq_ : World.drewN w39 _ = w39; have n0_ : af (w39.heap[gb119]? = some (.cells #[.int .i64 0, .string (⟨#[]⟩ : ByteArray), .int .i64 0, .int .i64 0] 37 (0, 0))) := ⟨Z20⟩; have n1_ : af (Below w.heap.size w w39) := ⟨Z27⟩; clear BK119 HB hq_; have BK119 := n0_; have HB := n1_; clear n0_ n1_))) | ((with_reducible refine gC 53 rfl ?_); refine gM 53 65 rfl Tryz.func53 (fJ.calls k a0 t128 t129 _ A37.out) ?_; rintro _ w40 ⟨rfl, hb⟩; refine ⟨_, rfl, yA2 (dL (g := gb119) (o := .cells #[.int .i64 0, .string (⟨#[]⟩ : ByteArray), .int .i64 0, .int .i64 0] 37 (0, 0)) (by exact BK119.out) hb) (aA (bT HB) hb) ?_⟩; clear BK119 HB hb; intro BK119 HB; have hcz41_0 : w40.cell? ⟨gb119, 0, none⟩ = some (.int .i64 0) := (ag BK119.out 0).trans rfl; have hcz41_1 : w40.cell? ⟨gb119, 1, none⟩ = some (.string (⟨#[]⟩ : ByteArray)) := (ag BK119.out 1).trans rfl; have hcz41_2 : w40.cell? ⟨gb119, 2, none⟩ = some (.int .i64 0) := (ag BK119.out 2).trans rfl; have hcz41_3 : w40.cell? ⟨gb119, 3, none⟩ = some (.int .i64 0) := (ag BK119.out 3).trans rfl; have hfz41_0 := ae BK119.out 0; have hfz41_1 := ae BK119.out 1; have hfz41_2 := ae BK119.out 2; have hfz41_3 := ae BK119.out 3))
    refine bodyPost_ret (jO rfl _ _ gb119 37 #[.int .i64 3, .string t128, .int .i64 0, .int .i64 0] (0, 0) _ rfl (by refine bW (cs := #[.int .i64 3, .string t128, .int .i64 0, .int .i64 0]) ?_ 3 _ rfl; refine bW (cs := #[.int .i64 3, .string t128, .int .i64 0, .int .i64 0]) ?_ 2 _ rfl; refine bW (cs := #[.int .i64 3, .string (⟨#[]⟩ : ByteArray), .int .i64 0, .int .i64 0]) ?_ 1 _ rfl; refine bW (cs := #[.int .i64 0, .string (⟨#[]⟩ : ByteArray), .int .i64 0, .int .i64 0]) ?_ 0 _ rfl; exact BK119.out) Tryz.underlying37 rfl (by kernel_rfl)) rfl ?_
    exact ⟨eT, bT HB⟩
   have c38b0 : decide (0 < t129) = false := decide_eq_false c38
   clear c38
   simp only [Option.some.injEq, Prod.mk.injEq] at H
   obtain ⟨rfl, rfl, rfl, rfl, rfl, rfl⟩ := H
   go_enter Tryz.func20, Tryz.ntmps20
   go_wp2_with (first | ((with_reducible refine bH (N := 2) rfl ?_); refine fA ?hg (N := 2) ?hd (cs := #[.int .i64 0, .string (⟨#[]⟩ : ByteArray), .int .i64 0, .int .i64 0]) (t := 37) ?hr ?_; (case hd => rfl); (case hg => rfl); (case hr => first | (go_simp; done) | (go_simp; rfl)); intro gb119 hg w42 hbox hb; refine yA4 (aA (bT HB) hb) (hbox) ((by rw [hg]; exact (bD (bT HB)) : w.heap.size ≤ gb119)) ((by rw [hg]; exact (bD (bT HB)) : w.heap.size ≤ gb119)) ?_; clear HB; intro HB BK119 GW119 GE119; clear hb hbox hg; have p3 : 0 ≤ (0 : Int) := (by omega); have q3 : 0 < a0.size := (by have : (0 : Int) < (a0.size : Int) := of_decide_eq_true aT; omega); have hx3 : ∀ h : 0 < a0.size, ((a0[0]'h).toNat : Int) = bt a0 0 := jr a0 0; clear p3; have qi3 : (0 < (a0.size : Int)) = True := eq_true (of_decide_eq_true aT); replace q3 := eq_true q3) | ((with_reducible refine gC 47 rfl ?_); refine gM 47 27 rfl Tryz.func47 (ig.calls (wrap32 (bt a0 0)) false _ A4.out) ?_; rintro _ w' ⟨rfl, ⟨nd, rfl⟩⟩; refine ⟨_, rfl, ?_⟩; (try (rw [iq w42]; generalize hq_ : World.drewN w42 _ = w42; have n0_ : af (w42.heap[gb119]? = some (.cells #[.int .i64 0, .string (⟨#[]⟩ : ByteArray), .int .i64 0, .int .i64 0] 37 (0, 0))) := ⟨Z20⟩; have n1_ : af (Below w.heap.size w w42) := ⟨Z27⟩; clear BK119 HB hq_; have BK119 := n0_; have HB := n1_; clear n0_ n1_))) | ((with_reducible refine gC 51 rfl ?_); refine gM 51 46 rfl Tryz.func51 (jw.calls (wrap32 (bt a0 0)) false _ A25.out) ?_; rintro _ w' ⟨rfl, ⟨nd, rfl⟩⟩; refine ⟨_, rfl, ?_⟩; (try (rw [iq w42]; generalize hq_ : World.drewN w42 _ = w42; have n0_ : af (w42.heap[gb119]? = some (.cells #[.int .i64 0, .string (⟨#[]⟩ : ByteArray), .int .i64 0, .int .i64 0] 37 (0, 0))) := ⟨Z20⟩; have n1_ : af (Below w.heap.size w w42) := ⟨Z27⟩; clear BK119 HB hq_; have BK119 := n0_; have HB := n1_; clear n0_ n1_))) | ((with_reducible refine gC 53 rfl ?_); refine gM 53 65 rfl Tryz.func53 (fJ.calls k a0 t128 t129 _ A37.out) ?_; rintro _ w43 ⟨rfl, hb⟩; refine ⟨_, rfl, yA2 (dL (g := gb119) (o := .cells #[.int .i64 0, .string (⟨#[]⟩ : ByteArray), .int .i64 0, .int .i64 0] 37 (0, 0)) (by exact BK119.out) hb) (aA (bT HB) hb) ?_⟩; clear BK119 HB hb; intro BK119 HB; have hcz44_0 : w43.cell? ⟨gb119, 0, none⟩ = some (.int .i64 0) := (ag BK119.out 0).trans rfl; have hcz44_1 : w43.cell? ⟨gb119, 1, none⟩ = some (.string (⟨#[]⟩ : ByteArray)) := (ag BK119.out 1).trans rfl; have hcz44_2 : w43.cell? ⟨gb119, 2, none⟩ = some (.int .i64 0) := (ag BK119.out 2).trans rfl; have hcz44_3 : w43.cell? ⟨gb119, 3, none⟩ = some (.int .i64 0) := (ag BK119.out 3).trans rfl; have hfz44_0 := ae BK119.out 0; have hfz44_1 := ae BK119.out 1; have hfz44_2 := ae BK119.out 2; have hfz44_3 := ae BK119.out 3))
   refine bodyPost_ret (jO rfl _ _ gb119 37 #[.int .i64 0, .string (⟨#[]⟩ : ByteArray), .int .i64 0, .int .i64 0] (0, 0) _ rfl (by refine bW (cs := #[.int .i64 0, .string (⟨#[]⟩ : ByteArray), .int .i64 0, .int .i64 0]) ?_ 3 _ rfl; refine bW (cs := #[.int .i64 0, .string (⟨#[]⟩ : ByteArray), .int .i64 0, .int .i64 0]) ?_ 2 _ rfl; refine bW (cs := #[.int .i64 0, .string (⟨#[]⟩ : ByteArray), .int .i64 0, .int .i64 0]) ?_ 1 _ rfl; refine bW (cs := #[.int .i64 0, .string (⟨#[]⟩ : ByteArray), .int .i64 0, .int .i64 0]) ?_ 0 _ rfl; exact BK119.out) Tryz.underlying37 rfl (by kernel_rfl)) rfl ?_
   exact ⟨eT, bT HB⟩
  revert H
  refine yB1 fun t130 A45 H => ?_
  revert H
  refine aU (fun c46b0 c46b1 H => ?_) fun c46 c46b0 c46b1 H => ?_
  ·simp only [Option.some.injEq, Prod.mk.injEq] at H
   obtain ⟨rfl, rfl, rfl, rfl, rfl, rfl⟩ := H
   go_enter Tryz.func20, Tryz.ntmps20
   go_wp2_with (first | ((with_reducible refine bH (N := 2) rfl ?_); refine fA ?hg (N := 2) ?hd (cs := #[.int .i64 0, .string (⟨#[]⟩ : ByteArray), .int .i64 0, .int .i64 0]) (t := 37) ?hr ?_; (case hd => rfl); (case hg => rfl); (case hr => first | (go_simp; done) | (go_simp; rfl)); intro gb119 hg w47 hbox hb; refine yA4 (aA (bT HB) hb) (hbox) ((by rw [hg]; exact (bD (bT HB)) : w.heap.size ≤ gb119)) ((by rw [hg]; exact (bD (bT HB)) : w.heap.size ≤ gb119)) ?_; clear HB; intro HB BK119 GW119 GE119; clear hb hbox hg; have p3 : 0 ≤ (0 : Int) := (by omega); have q3 : 0 < a0.size := (by have : (0 : Int) < (a0.size : Int) := of_decide_eq_true aT; omega); have hx3 : ∀ h : 0 < a0.size, ((a0[0]'h).toNat : Int) = bt a0 0 := jr a0 0; clear p3; have qi3 : (0 < (a0.size : Int)) = True := eq_true (of_decide_eq_true aT); replace q3 := eq_true q3) | ((with_reducible refine gC 47 rfl ?_); refine gM 47 27 rfl Tryz.func47 (ig.calls (wrap32 (bt a0 0)) false _ A4.out) ?_; rintro _ w' ⟨rfl, ⟨nd, rfl⟩⟩; refine ⟨_, rfl, ?_⟩; (try (rw [iq w47]; generalize hq_ : World.drewN w47 _ = w47; have n0_ : af (w47.heap[gb119]? = some (.cells #[.int .i64 0, .string (⟨#[]⟩ : ByteArray), .int .i64 0, .int .i64 0] 37 (0, 0))) := ⟨Z20⟩; have n1_ : af (Below w.heap.size w w47) := ⟨Z27⟩; clear BK119 HB hq_; have BK119 := n0_; have HB := n1_; clear n0_ n1_))) | ((with_reducible refine gC 51 rfl ?_); refine gM 51 46 rfl Tryz.func51 (jw.calls (wrap32 (bt a0 0)) false _ A25.out) ?_; rintro _ w' ⟨rfl, ⟨nd, rfl⟩⟩; refine ⟨_, rfl, ?_⟩; (try (rw [iq w47]; generalize hq_ : World.drewN w47 _ = w47; have n0_ : af (w47.heap[gb119]? = some (.cells #[.int .i64 0, .string (⟨#[]⟩ : ByteArray), .int .i64 0, .int .i64 0] 37 (0, 0))) := ⟨Z20⟩; have n1_ : af (Below w.heap.size w w47) := ⟨Z27⟩; clear BK119 HB hq_; have BK119 := n0_; have HB := n1_; clear n0_ n1_))) | ((with_reducible refine gC 54 rfl ?_); refine gM 54 17 rfl Tryz.func54 (gX.calls k a0 t130 _ A45.out) ?_; rintro _ w' ⟨rfl, ⟨nd, rfl⟩⟩; refine ⟨_, rfl, ?_⟩; (try (rw [iq w47]; generalize hq_ : World.drewN w47 _ = w47; have n0_ : af (w47.heap[gb119]? = some (.cells #[.int .i64 0, .string (⟨#[]⟩ : ByteArray), .int .i64 0, .int .i64 0] 37 (0, 0))) := ⟨Z20⟩; have n1_ : af (Below w.heap.size w w47) := ⟨Z27⟩; clear BK119 HB hq_; have BK119 := n0_; have HB := n1_; clear n0_ n1_)); have hcz48_0 : w47.cell? ⟨gb119, 0, none⟩ = some (.int .i64 0) := (ag BK119.out 0).trans rfl; have hcz48_1 : w47.cell? ⟨gb119, 1, none⟩ = some (.string (⟨#[]⟩ : ByteArray)) := (ag BK119.out 1).trans rfl; have hcz48_2 : w47.cell? ⟨gb119, 2, none⟩ = some (.int .i64 0) := (ag BK119.out 2).trans rfl; have hcz48_3 : w47.cell? ⟨gb119, 3, none⟩ = some (.int .i64 0) := (ag BK119.out 3).trans rfl; have hfz48_0 := ae BK119.out 0; have hfz48_1 := ae BK119.out 1; have hfz48_2 := ae BK119.out 2; have hfz48_3 := ae BK119.out 3))
   refine bodyPost_ret (jO rfl _ _ gb119 37 #[.int .i64 0, .string (⟨#[]⟩ : ByteArray), .int .i64 0, .int .i64 0] (0, 0) _ rfl (by refine bW (cs := #[.int .i64 0, .string (⟨#[]⟩ : ByteArray), .int .i64 0, .int .i64 0]) ?_ 3 _ rfl; refine bW (cs := #[.int .i64 0, .string (⟨#[]⟩ : ByteArray), .int .i64 0, .int .i64 0]) ?_ 2 _ rfl; refine bW (cs := #[.int .i64 0, .string (⟨#[]⟩ : ByteArray), .int .i64 0, .int .i64 0]) ?_ 1 _ rfl; refine bW (cs := #[.int .i64 0, .string (⟨#[]⟩ : ByteArray), .int .i64 0, .int .i64 0]) ?_ 0 _ rfl; exact BK119.out) Tryz.underlying37 rfl (by kernel_rfl)) rfl ?_
   exact ⟨eT, bT HB⟩
  simp only [Option.some.injEq, Prod.mk.injEq] at H
  obtain ⟨rfl, rfl, rfl, rfl, rfl, rfl⟩ := H
  go_enter Tryz.func20, Tryz.ntmps20
  go_wp2_with (first | ((with_reducible refine bH (N := 2) rfl ?_); refine fA ?hg (N := 2) ?hd (cs := #[.int .i64 0, .string (⟨#[]⟩ : ByteArray), .int .i64 0, .int .i64 0]) (t := 37) ?hr ?_; (case hd => rfl); (case hg => rfl); (case hr => first | (go_simp; done) | (go_simp; rfl)); intro gb119 hg w49 hbox hb; refine yA4 (aA (bT HB) hb) (hbox) ((by rw [hg]; exact (bD (bT HB)) : w.heap.size ≤ gb119)) ((by rw [hg]; exact (bD (bT HB)) : w.heap.size ≤ gb119)) ?_; clear HB; intro HB BK119 GW119 GE119; clear hb hbox hg; have p3 : 0 ≤ (0 : Int) := (by omega); have q3 : 0 < a0.size := (by have : (0 : Int) < (a0.size : Int) := of_decide_eq_true aT; omega); have hx3 : ∀ h : 0 < a0.size, ((a0[0]'h).toNat : Int) = bt a0 0 := jr a0 0; clear p3; have qi3 : (0 < (a0.size : Int)) = True := eq_true (of_decide_eq_true aT); replace q3 := eq_true q3) | ((with_reducible refine gC 47 rfl ?_); refine gM 47 27 rfl Tryz.func47 (ig.calls (wrap32 (bt a0 0)) false _ A4.out) ?_; rintro _ w' ⟨rfl, ⟨nd, rfl⟩⟩; refine ⟨_, rfl, ?_⟩; (try (rw [iq w49]; generalize hq_ : World.drewN w49 _ = w49; have n0_ : af (w49.heap[gb119]? = some (.cells #[.int .i64 0, .string (⟨#[]⟩ : ByteArray), .int .i64 0, .int .i64 0] 37 (0, 0))) := ⟨Z20⟩; have n1_ : af (Below w.heap.size w w49) := ⟨Z27⟩; clear BK119 HB hq_; have BK119 := n0_; have HB := n1_; clear n0_ n1_))) | ((with_reducible refine gC 51 rfl ?_); refine gM 51 46 rfl Tryz.func51 (jw.calls (wrap32 (bt a0 0)) false _ A25.out) ?_; rintro _ w' ⟨rfl, ⟨nd, rfl⟩⟩; refine ⟨_, rfl, ?_⟩; (try (rw [iq w49]; generalize hq_ : World.drewN w49 _ = w49; have n0_ : af (w49.heap[gb119]? = some (.cells #[.int .i64 0, .string (⟨#[]⟩ : ByteArray), .int .i64 0, .int .i64 0] 37 (0, 0))) := ⟨Z20⟩; have n1_ : af (Below w.heap.size w w49) := ⟨Z27⟩; clear BK119 HB hq_; have BK119 := n0_; have HB := n1_; clear n0_ n1_))) | ((with_reducible refine gC 54 rfl ?_); refine gM 54 17 rfl Tryz.func54 (gX.calls k a0 t130 _ A45.out) ?_; rintro _ w' ⟨rfl, ⟨nd, rfl⟩⟩; refine ⟨_, rfl, ?_⟩; (try (rw [iq w49]; generalize hq_ : World.drewN w49 _ = w49; have n0_ : af (w49.heap[gb119]? = some (.cells #[.int .i64 0, .string (⟨#[]⟩ : ByteArray), .int .i64 0, .int .i64 0] 37 (0, 0))) := ⟨Z20⟩; have n1_ : af (Below w.heap.size w w49) := ⟨Z27⟩; clear BK119 HB hq_; have BK119 := n0_; have HB := n1_; clear n0_ n1_)); have hcz50_0 : w49.cell? ⟨gb119, 0, none⟩ = some (.int .i64 0) := (ag BK119.out 0).trans rfl; have hcz50_1 : w49.cell? ⟨gb119, 1, none⟩ = some (.string (⟨#[]⟩ : ByteArray)) := (ag BK119.out 1).trans rfl; have hcz50_2 : w49.cell? ⟨gb119, 2, none⟩ = some (.int .i64 0) := (ag BK119.out 2).trans rfl; have hcz50_3 : w49.cell? ⟨gb119, 3, none⟩ = some (.int .i64 0) := (ag BK119.out 3).trans rfl; have hfz50_0 := ae BK119.out 0; have hfz50_1 := ae BK119.out 1; have hfz50_2 := ae BK119.out 2; have hfz50_3 := ae BK119.out 3))
  refine bodyPost_ret (jO rfl _ _ gb119 37 #[.int .i64 4, .string t130, .int .i64 0, .int .i64 0] (0, 0) _ rfl (by refine bW (cs := #[.int .i64 4, .string t130, .int .i64 0, .int .i64 0]) ?_ 3 _ rfl; refine bW (cs := #[.int .i64 4, .string t130, .int .i64 0, .int .i64 0]) ?_ 2 _ rfl; refine bW (cs := #[.int .i64 4, .string (⟨#[]⟩ : ByteArray), .int .i64 0, .int .i64 0]) ?_ 1 _ rfl; refine bW (cs := #[.int .i64 0, .string (⟨#[]⟩ : ByteArray), .int .i64 0, .int .i64 0]) ?_ 0 _ rfl; exact BK119.out) Tryz.underlying37 rfl (by kernel_rfl)) rfl ?_
  exact ⟨eT, bT HB⟩
 exact absurd H (by simp)
end Go.Proofs.YtkbhkonenkgfoaaGreat.Q
end
section
namespace Go.Proofs.YtkbhkonenkgfoaaGreat.Q
open Go.RowKit Go.Proofs.YtkbhkonenkgfoaaGreatW.PrintWords Go.Proofs.YtkbhkonenkgfoaaGreatW.PrintLast Go.Proofs.YtkbhkonenkgfoaaGreatW.PrintMore
attribute [local go_sem] iM iL iK iJ dJ dH dS dR cZ cO dI dG
set_option linter.unusedVariables false
set_option linter.unusedSimpArgs false
/-! ### gY: function 12 -/
def gY.l0 : Nat → ByteArray → List (S37) → ByteArray → Option ((List (S37)) × Int × Int)
 | 0, _, _, _ => none
 | k + 1, x0, x5, x6 => if x6.toList = ([] : List UInt8) then (some (x5, 0, 0)) else ((jZ.f k x6).bind fun bt132 => (if bt132.2.2.2.2.2 = 0 then (if x5.length < 3518437208883 then (if 0 ≤ bt132.2.2.2.2.1 then (if bt132.2.2.2.2.1 ≤ (x6.size : Int) then ((oZ.f (x6.extract (bt132.2.2.2.2.1 : Int).toNat x6.size)).bind fun t142 => (gY.l0 k x0 (x5 ++ [(⟨bt132.1, bt132.2.1, bt132.2.2.1, wrap64 ((x0.size : Int) - (x6.size : Int))⟩ : S37)]) t142)) else (none)) else (none)) else (none)) else (some (([] : List (S37)), bt132.2.2.2.2.2, wrap64 ((x0.size : Int) - (x6.size : Int))))))
def gY.f (k : Nat) (a0 : ByteArray) : Option ((List (S37)) × Int × Int) := if (a0.size : Int) > 8192 then (some (([] : List (S37)), 3, 0)) else ((oZ.f a0).bind fun t131 => (gY.l0 k a0 ([] : List (S37)) t131))
theorem gY.bZ : ∀ k, (∀ y0 y1 y2, LeO (gY.l0 k y0 y1 y2) (gY.l0 (k + 1) y0 y1 y2))
 | 0 => fun _ _ _ r h => by simp [gY.l0] at h
 | k + 1 => by
  have ih0 := gY.bZ k
  intro y0 y1 y2
  unfold gY.l0
  have m0 := jZ.mono
  exact yL
theorem gY.mono : ∀ a0 k, LeO (gY.f k a0) (gY.f (k + 1) a0) := by
 intro a0 k
 have ih0 := gY.bZ k
 unfold gY.f
 have m0 := jZ.mono
 exact yL
set_option maxHeartbeats 8000000 in
set_option maxRecDepth 100000 in
theorem gY.calls (k : Nat) (a0 : ByteArray) (r1 : List (S37)) (r2 : Int) (r3 : Int) (w : World) (h : gY.f k a0 = some (r1, r2, r3)) :
 Calls Tryz.prog 12 #[.string a0] w fun e w' => ∃ v0_ : Value, e = .returned (.tuple #[v0_, .int .i64 r2, .int .i64 r3]) ∧ Kd.R k37 37 w' w.heap.size (fun _ => True) v0_ r1 ∧ Below w.heap.size w w' := by
 have hu37 := Tryz.underlying37
 have HB := af.mk (Below.refl w.heap.size w)
 have H := h
 clear h
 unfold gY.f at H
 revert H
 refine gU (fun c2 H => ?_) fun c2 H => ?_
 ·have c2b0 : decide (8192 < (a0.size : Int)) = true := decide_eq_true c2
  have c2b1 : decide (8192 < a0.size) = true := decide_eq_true (by omega)
  clear c2
  simp only [Option.some.injEq, Prod.mk.injEq] at H
  obtain ⟨rfl, rfl, rfl⟩ := H
  go_enter Tryz.func12, Tryz.ntmps12
  go_wp2
  go_ret3
  exact ⟨_, eT, Z7, bT HB⟩
 have c2b0 : decide (8192 < (a0.size : Int)) = false := decide_eq_false c2
 have c2b1 : decide (8192 < a0.size) = false := decide_eq_false (by omega)
 clear c2
 revert H
 refine yB1 fun t131 A3 H => ?_
 have H' := af.mk H
 clear H
 go_enter Tryz.func12, Tryz.ntmps12
 go_wp2_with (first | ((with_reducible refine gC 19 rfl ?_); refine gM 19 15 rfl Tryz.func19 (oZ.calls a0 t131 _ A3.out) ?_; rintro _ w4 ⟨rfl, hb⟩; refine ⟨_, rfl, yA1 (aA (bT HB) hb) ?_⟩; clear HB hb; intro HB))
 (try simp only [Act.put, List.setIfInBounds_toArray, List.set_cons_zero, List.set_cons_succ])
 go_loopg [5, 6] k (fun kq v5 v6 w' => ∃ (x5_1 : List (S37)) (x6_1 : ByteArray), v6 = .string x6_1 ∧ af (gY.l0 kq a0 x5_1 x6_1 = some (r1, r2, r3)) ∧ af (kq ≤ k) ∧ af (Kd.R k37 37 w' w.heap.size (fun _ => True) v5 x5_1) ∧ af (Below w.heap.size w w'))
 case atStart => exact ⟨(([] : List (S37))), (t131), fT, H', ⟨Nat.le_refl _⟩, ⟨Z7⟩, ⟨bT HB⟩⟩
 case round =>
  clear H'
  try clear c1
  try clear c2
  try clear c2b0
  try clear c2b1
  try clear p2
  obtain ⟨x5_1, x6_1, rfl, HA, HK1, HO_5, HB⟩ := hrel
  cases gk with
  | zero => exact absurd HA.out (by simp [gY.l0])
  | succ k1 =>
   have H := HA.out
   clear HA
   simp only [gY.l0] at H
   revert H
   refine aU (fun c5b0 c5b1 H => ?_) fun c5 c5b0 c5b1 H => ?_
   ·simp only [Option.some.injEq, Prod.mk.injEq] at H
    obtain ⟨rfl, rfl, rfl⟩ := H
    go_wp2
    go_ret3
    exact ⟨_, eT, qR HO_5, bT HB⟩
   revert H
   refine yB6 fun t132 t133 t134 t135 t136 t137 A6 H => ?_
   try dsimp only at H
   revert H
   refine aU (fun c7b0 c7b1 H => ?_) fun c7 c7b0 c7b1 H => ?_
   ·revert H
    refine gU (fun c8 H => ?_) fun c8 H => ?_
    ·have LMc8 := af.mk c8
     clear c8
     obtain ⟨y139, hy139⟩ : ∃ y_ : List (S37), y_ = (x5_1 ++ [(⟨t132, t133, t134, wrap64 ((a0.size : Int) - (x6_1.size : Int))⟩ : S37)]) := ⟨_, rfl⟩
     replace H : (if 0 ≤ t136 then (if t136 ≤ (x6_1.size : Int) then ((oZ.f (x6_1.extract (t136 : Int).toNat x6_1.size)).bind fun t142 => (gY.l0 k1 a0 y139 t142)) else (none)) else (none)) = some (r1, r2, r3) := by first | (rw [hy139]; with_reducible exact H) | (have H2_ := (Option.bind_some _ _).symm.trans H; rw [hy139]; with_reducible exact H2_) | (have H2_ := (Option.bind_some _ _).symm.trans H; with_reducible exact H2_) | with_reducible exact H | (rw [hy139]; exact H) | exact H
     have Ny139 := af.mk hy139
     clear hy139
     revert H
     refine jm (fun c9b0 c9b1 H => ?_) fun c9 H => ?_
     ·revert H
      refine jm (fun c10b0 c10b1 H => ?_) fun c10 H => ?_
      ·revert H
       refine yB1 fun t142 A11 H => ?_
       have H' := af.mk H
       clear H
       go_wp2_with (first | ((with_reducible refine gC 20 rfl ?_); refine gM 20 25 rfl Tryz.func20 (jZ.calls k1 x6_1 t132 t133 t134 t135 t136 t137 _ A6.out) ?_; rintro _ w12 ⟨rfl, hb⟩; refine ⟨_, rfl, yA2 (Kd.gW (qR HO_5) hb) (aA (bT HB) hb) ?_⟩; clear HO_5 HB hb; intro HO_5 HB) | ((with_reducible refine bH (N := 8) rfl ?_); refine fA ?hg (N := 8) ?hd (cs := #[.int .i64 0, .string (⟨#[]⟩ : ByteArray), .int .i64 0, .int .i64 0]) (t := 37) ?hr ?_; (case hd => rfl); (case hg => rfl); (case hr => first | (go_simp; done) | (go_simp; rfl)); intro gb138 hg w13 hbox hb; refine yA5 (Kd.gW (Kd.zD (qR HO_5) gb138 (Nat.le_of_eq hg.symm)) hb) (aA (bT HB) hb) (hbox) ((by rw [hg]; exact (bD (bT HB)) : w.heap.size ≤ gb138)) ((by rw [hg]; exact (bD (bT HB)) : w.heap.size ≤ gb138)) ?_; clear HO_5 HB; intro HO_5 HB BK138 GW138 GE138; clear hb hbox hg; have hcz14_0 : w13.cell? ⟨gb138, 0, none⟩ = some (.int .i64 0) := (ag BK138.out 0).trans rfl; have hcz14_1 : w13.cell? ⟨gb138, 1, none⟩ = some (.string (⟨#[]⟩ : ByteArray)) := (ag BK138.out 1).trans rfl; have hcz14_2 : w13.cell? ⟨gb138, 2, none⟩ = some (.int .i64 0) := (ag BK138.out 2).trans rfl; have hcz14_3 : w13.cell? ⟨gb138, 3, none⟩ = some (.int .i64 0) := (ag BK138.out 3).trans rfl; have hfz14_0 := ae BK138.out 0; have hfz14_1 := ae BK138.out 1; have hfz14_2 := ae BK138.out 2; have hfz14_3 := ae BK138.out 3; have hdd14 := xh hcz14_3) | ((with_reducible refine ed (b := .append) (xs := #[.tmp 35, .tmp 37]) rfl ?_); at_builtin; refine Kd.lZ k37 (w0 := w) w.heap.size rfl (.tmp 35) (.tmp 37) 31 37 (.agg #[(.int .i64 0), (.string ⟨#[]⟩), (.int .i64 0), (.int .i64 0)]) 40 rfl Tryz.underlying31 IP rfl (by decide) (by omega) u5 x5_1 (⟨t132, t133, t134, wrap64 ((a0.size : Int) - (x6_1.size : Int))⟩ : S37) [.int .i64 t132, .string t133, .int .i64 t134, .int .i64 (wrap64 ((a0.size : Int) - (x6_1.size : Int)))] (fun k_ => k_ ≠ gb138) (fun _ => False) rfl (by first | (go_simp; done) | (go_simp; rfl)) ?aP (fun _ hk => hk.elim) ?aF ?aO ?aB ?aS ?aL ?_; (case aP => exact Gy _ _ _ (⟨t132, t133, t134, wrap64 ((a0.size : Int) - (x6_1.size : Int))⟩ : S37)); (case aB => exact (bT HB)); (case aF => exact (fun k_ hk => Kd.vM (g := gb138) (o := .cells #[.int .i64 t132, .string t133, .int .i64 t134, .int .i64 (wrap64 ((a0.size : Int) - (x6_1.size : Int)))] 37 (0, 0)) (by refine bW (cs := #[.int .i64 t132, .string t133, .int .i64 t134, .int .i64 t135]) ?_ 3 _ rfl; refine bW (cs := #[.int .i64 t132, .string t133, .int .i64 t134, .int .i64 0]) ?_ 3 _ rfl; refine bW (cs := #[.int .i64 t132, .string t133, .int .i64 0, .int .i64 0]) ?_ 2 _ rfl; refine bW (cs := #[.int .i64 t132, .string (⟨#[]⟩ : ByteArray), .int .i64 0, .int .i64 0]) ?_ 1 _ rfl; refine bW (cs := #[.int .i64 0, .string (⟨#[]⟩ : ByteArray), .int .i64 0, .int .i64 0]) ?_ 0 _ rfl; exact BK138.out) k_ hk)); (case aO => exact (by (with_reducible repeat (first | apply Kd.iP | apply Kd.iI | apply Kd.jf)); exact Kd.jb (Kd.qP (p := ⟨gb138, 3, none⟩) (Kd.qP (p := ⟨gb138, 3, none⟩) (Kd.qP (p := ⟨gb138, 2, none⟩) (Kd.qP (p := ⟨gb138, 1, none⟩) (Kd.qP (p := ⟨gb138, 0, none⟩) (Kd.jb HO_5.out (fun k_ hk => (⟨hk, hk.2⟩ : _ ∧ k_ ≠ gb138))) (fun _ hk => hk.2) (.int .i64 t132)) (fun _ hk => hk.2) (.string t133)) (fun _ hk => hk.2) (.int .i64 t134)) (fun _ hk => hk.2) (.int .i64 t135)) (fun _ hk => hk.2) (.int .i64 (wrap64 ((a0.size : Int) - (x6_1.size : Int))))) (fun _ hk => hk.1.2))); (case aS => exact (bD (bT HB))); (case aL => have := LMc8.out; omega); intro v140 w15 ho hb hg hat; rw [← Ny139.out] at ho; refine yA3 (kN (g := gb138) (o := .cells #[.int .i64 t132, .string t133, .int .i64 t134, .int .i64 (wrap64 ((a0.size : Int) - (x6_1.size : Int)))] 37 (0, 0)) (by refine bW (cs := #[.int .i64 t132, .string t133, .int .i64 t134, .int .i64 t135]) ?_ 3 _ rfl; refine bW (cs := #[.int .i64 t132, .string t133, .int .i64 t134, .int .i64 0]) ?_ 3 _ rfl; refine bW (cs := #[.int .i64 t132, .string t133, .int .i64 0, .int .i64 0]) ?_ 2 _ rfl; refine bW (cs := #[.int .i64 t132, .string (⟨#[]⟩ : ByteArray), .int .i64 0, .int .i64 0]) ?_ 1 _ rfl; refine bW (cs := #[.int .i64 0, .string (⟨#[]⟩ : ByteArray), .int .i64 0, .int .i64 0]) ?_ 0 _ rfl; exact BK138.out) hg (Kd.AL HO_5.out (fun _ hk => hk.2))) (hb) (ho) ?_; clear BK138 HB HO_5; intro BK138 HB HO141; clear ho hb hg hat) | ((with_reducible refine gC 19 rfl ?_); refine gM 19 42 rfl Tryz.func19 (oZ.calls (x6_1.extract (t136 : Int).toNat x6_1.size) t142 _ A11.out) ?_; rintro _ w16 ⟨rfl, hb⟩; refine ⟨_, rfl, yA3 (Kd.gW (qR HO141) hb) (dL (g := gb138) (o := .cells #[.int .i64 t132, .string t133, .int .i64 t134, .int .i64 (wrap64 ((a0.size : Int) - (x6_1.size : Int)))] 37 (0, 0)) (by exact BK138.out) hb) (aA (bT HB) hb) ?_⟩; clear HO141 BK138 HB hb; intro HO141 BK138 HB))
       go_roundg k1
       case measure => have := HK1.out; omega
       case rel => exact ⟨(y139), (t142), fT, H', ⟨by have := HK1.out; omega⟩, ⟨by (with_reducible repeat (first | apply Kd.iP | apply Kd.iI | apply Kd.jf)); exact Kd.jb HO141.out (fun _ hk => trivial)⟩, ⟨bT HB⟩⟩
      exact absurd H (by simp)
     exact absurd H (by simp)
    exact absurd H (by simp)
   simp only [Option.some.injEq, Prod.mk.injEq] at H
   obtain ⟨rfl, rfl, rfl⟩ := H
   go_wp2_with (first | ((with_reducible refine gC 20 rfl ?_); refine gM 20 25 rfl Tryz.func20 (jZ.calls k1 x6_1 t132 t133 t134 t135 t136 t137 _ A6.out) ?_; rintro _ w17 ⟨rfl, hb⟩; refine ⟨_, rfl, yA2 (Kd.gW (qR HO_5) hb) (aA (bT HB) hb) ?_⟩; clear HO_5 HB hb; intro HO_5 HB) | ((with_reducible refine bH (N := 8) rfl ?_); refine fA ?hg (N := 8) ?hd (cs := #[.int .i64 0, .string (⟨#[]⟩ : ByteArray), .int .i64 0, .int .i64 0]) (t := 37) ?hr ?_; (case hd => rfl); (case hg => rfl); (case hr => first | (go_simp; done) | (go_simp; rfl)); intro gb138 hg w18 hbox hb; refine yA5 (Kd.gW (Kd.zD (qR HO_5) gb138 (Nat.le_of_eq hg.symm)) hb) (aA (bT HB) hb) (hbox) ((by rw [hg]; exact (bD (bT HB)) : w.heap.size ≤ gb138)) ((by rw [hg]; exact (bD (bT HB)) : w.heap.size ≤ gb138)) ?_; clear HO_5 HB; intro HO_5 HB BK138 GW138 GE138; clear hb hbox hg; have hcz19_0 : w18.cell? ⟨gb138, 0, none⟩ = some (.int .i64 0) := (ag BK138.out 0).trans rfl; have hcz19_1 : w18.cell? ⟨gb138, 1, none⟩ = some (.string (⟨#[]⟩ : ByteArray)) := (ag BK138.out 1).trans rfl; have hcz19_2 : w18.cell? ⟨gb138, 2, none⟩ = some (.int .i64 0) := (ag BK138.out 2).trans rfl; have hcz19_3 : w18.cell? ⟨gb138, 3, none⟩ = some (.int .i64 0) := (ag BK138.out 3).trans rfl; have hfz19_0 := ae BK138.out 0; have hfz19_1 := ae BK138.out 1; have hfz19_2 := ae BK138.out 2; have hfz19_3 := ae BK138.out 3; have hdd19 := xh hcz19_3))
   go_ret3
   exact ⟨_, eT, Z7, bT HB⟩
-- BY HAND: function 63 (parse_reader_next)
/-! ### dE: function 64 -/
def dE.f (s0_0 : List (S37)) (s0_1 : Int) (s0_2 : Bool) : Option (ByteArray × Int × Bool) := (kF.f s0_0 s0_1 s0_2).bind fun bt143 => (if bt143.2.2.2.2.1 = true then (if bt143.1 = 5 then (some (bt143.2.1, bt143.2.2.2.2.2.1, bt143.2.2.2.2.2.2)) else (if bt143.1 = 4 then (some (bt143.2.1, bt143.2.2.2.2.2.1, bt143.2.2.2.2.2.2)) else (some ((⟨#[]⟩ : ByteArray), bt143.2.2.2.2.2.1, bt143.2.2.2.2.2.2)))) else (some ((⟨#[]⟩ : ByteArray), bt143.2.2.2.2.2.1, bt143.2.2.2.2.2.2)))
set_option maxHeartbeats 8000000 in
set_option maxRecDepth 100000 in
theorem dE.calls (g : Nat) (s0_0 : List (S37)) (s0_1 : Int) (s0_2 : Bool) (r1 : ByteArray) (r2 : Int) (r3 : Bool) (w0 w : World) (hI : dn w0 w g s0_0 s0_1 s0_2) (hB : Below w0.heap.size w0 w) (h : dE.f s0_0 s0_1 s0_2 = some (r1, r2, r3)) :
 Calls Tryz.prog 64 #[.pointer (some ⟨g, 0, none⟩)] w fun e w' => e = .returned (.string r1) ∧ dn w0 w' g s0_0 r2 r3 ∧ Below w0.heap.size w0 w' ∧ bY w w' g none := by
 have hu37 := Tryz.underlying37
 have HI0 := af.mk hI
 have HK := af.mk (bY.refl w g none)
 have HL := af.mk hB.size
 clear hI
 have HW0 := af.mk hB.size
 have HB := af.mk hB
 clear hB
 have H := h
 clear h
 unfold dE.f at H
 revert H
 refine yB7 fun t143 t144 t145 t146 t147 t148 t149 A2 H => ?_
 try dsimp only at H
 cases t147
 rotate_left
 ·replace H := yT H
  revert H
  refine aU (fun c4b0 c4b1 H => ?_) fun c4 c4b0 c4b1 H => ?_
  ·simp only [Option.some.injEq, Prod.mk.injEq] at H
   obtain ⟨rfl, rfl, rfl⟩ := H
   go_enter Tryz.func64, Tryz.ntmps64
   go_wp2_with (first | ((with_reducible refine gC 63 rfl ?_); refine gM 63 7 rfl Tryz.func63 (kF.calls g s0_0 s0_1 s0_2 t143 t144 t145 t146 true t148 t149 w0 _ (iT HI0) (bT HB) A2.out) ?_; rintro _ w5 ⟨rfl, hi, hb, hk⟩; refine ⟨_, rfl, yA3 (bY.trans (kT HK) hk (.inl rfl)) (hb) (hi) ?_⟩; clear HK HB HI0 hb; intro HK HB HI0) | ((with_reducible refine bH (N := 3) rfl ?_); refine fA ?hg (N := 3) ?hd (cs := #[.int .i64 0, .string (⟨#[]⟩ : ByteArray), .int .i64 0, .int .i64 0]) (t := 37) ?hr ?_; (case hd => rfl); (case hg => rfl); (case hr => first | (go_simp; done) | (go_simp; rfl)); intro gb150 hg w6 hbox hb; refine yA8 (dn.below (iT HI0) hb) (bY.trans (kT HK) (bY.of_below hb g none) (.inl rfl)) (aA (bT HB) hb) (hbox) ((by rw [hg]; exact (eY (w := w) (g := g) (row := none) (kT HK)) : w.heap.size ≤ gb150)) ((Nat.le_trans HW0.out (by rw [hg]; exact (eY (w := w) (g := g) (row := none) (kT HK)) : w.heap.size ≤ gb150) : w0.heap.size ≤ gb150)) ((by rw [hg]; exact Nat.ne_of_lt (dn.lt (show dn w0 _ g s0_0 t148 t149 from iT HI0)) : g ≠ gb150)) ((by rw [hg]; exact Nat.ne_of_gt (dn.lt (show dn w0 _ g s0_0 t148 t149 from iT HI0)) : gb150 ≠ g)) ?_; clear HI0 HK HB; intro HI0 HK HB BK150 GW150 GE150 NB0_150 NB150_0; clear hb hbox hg; have hnb7 := NB150_0.out; have hnc7 := NB0_150.out; have hcz8_0 : w6.cell? ⟨gb150, 0, none⟩ = some (.int .i64 0) := (ag BK150.out 0).trans rfl; have hcz8_1 : w6.cell? ⟨gb150, 1, none⟩ = some (.string (⟨#[]⟩ : ByteArray)) := (ag BK150.out 1).trans rfl; have hcz8_2 : w6.cell? ⟨gb150, 2, none⟩ = some (.int .i64 0) := (ag BK150.out 2).trans rfl; have hcz8_3 : w6.cell? ⟨gb150, 3, none⟩ = some (.int .i64 0) := (ag BK150.out 3).trans rfl; have hfz8_0 := ae BK150.out 0; have hfz8_1 := ae BK150.out 1; have hfz8_2 := ae BK150.out 2; have hfz8_3 := ae BK150.out 3))
   go_ret
   exact ⟨eT, iT HI0, bT HB, kT HK⟩
  revert H
  refine aU (fun c9b0 c9b1 H => ?_) fun c9 c9b0 c9b1 H => ?_
  ·simp only [Option.some.injEq, Prod.mk.injEq] at H
   obtain ⟨rfl, rfl, rfl⟩ := H
   go_enter Tryz.func64, Tryz.ntmps64
   go_wp2_with (first | ((with_reducible refine gC 63 rfl ?_); refine gM 63 7 rfl Tryz.func63 (kF.calls g s0_0 s0_1 s0_2 t143 t144 t145 t146 true t148 t149 w0 _ (iT HI0) (bT HB) A2.out) ?_; rintro _ w10 ⟨rfl, hi, hb, hk⟩; refine ⟨_, rfl, yA3 (bY.trans (kT HK) hk (.inl rfl)) (hb) (hi) ?_⟩; clear HK HB HI0 hb; intro HK HB HI0) | ((with_reducible refine bH (N := 3) rfl ?_); refine fA ?hg (N := 3) ?hd (cs := #[.int .i64 0, .string (⟨#[]⟩ : ByteArray), .int .i64 0, .int .i64 0]) (t := 37) ?hr ?_; (case hd => rfl); (case hg => rfl); (case hr => first | (go_simp; done) | (go_simp; rfl)); intro gb150 hg w11 hbox hb; refine yA8 (dn.below (iT HI0) hb) (bY.trans (kT HK) (bY.of_below hb g none) (.inl rfl)) (aA (bT HB) hb) (hbox) ((by rw [hg]; exact (eY (w := w) (g := g) (row := none) (kT HK)) : w.heap.size ≤ gb150)) ((Nat.le_trans HW0.out (by rw [hg]; exact (eY (w := w) (g := g) (row := none) (kT HK)) : w.heap.size ≤ gb150) : w0.heap.size ≤ gb150)) ((by rw [hg]; exact Nat.ne_of_lt (dn.lt (show dn w0 _ g s0_0 t148 t149 from iT HI0)) : g ≠ gb150)) ((by rw [hg]; exact Nat.ne_of_gt (dn.lt (show dn w0 _ g s0_0 t148 t149 from iT HI0)) : gb150 ≠ g)) ?_; clear HI0 HK HB; intro HI0 HK HB BK150 GW150 GE150 NB0_150 NB150_0; clear hb hbox hg; have hnb12 := NB150_0.out; have hnc12 := NB0_150.out; have hcz13_0 : w11.cell? ⟨gb150, 0, none⟩ = some (.int .i64 0) := (ag BK150.out 0).trans rfl; have hcz13_1 : w11.cell? ⟨gb150, 1, none⟩ = some (.string (⟨#[]⟩ : ByteArray)) := (ag BK150.out 1).trans rfl; have hcz13_2 : w11.cell? ⟨gb150, 2, none⟩ = some (.int .i64 0) := (ag BK150.out 2).trans rfl; have hcz13_3 : w11.cell? ⟨gb150, 3, none⟩ = some (.int .i64 0) := (ag BK150.out 3).trans rfl; have hfz13_0 := ae BK150.out 0; have hfz13_1 := ae BK150.out 1; have hfz13_2 := ae BK150.out 2; have hfz13_3 := ae BK150.out 3))
   go_ret
   exact ⟨eT, iT HI0, bT HB, kT HK⟩
  simp only [Option.some.injEq, Prod.mk.injEq] at H
  obtain ⟨rfl, rfl, rfl⟩ := H
  go_enter Tryz.func64, Tryz.ntmps64
  go_wp2_with (first | ((with_reducible refine gC 63 rfl ?_); refine gM 63 7 rfl Tryz.func63 (kF.calls g s0_0 s0_1 s0_2 t143 t144 t145 t146 true t148 t149 w0 _ (iT HI0) (bT HB) A2.out) ?_; rintro _ w14 ⟨rfl, hi, hb, hk⟩; refine ⟨_, rfl, yA3 (bY.trans (kT HK) hk (.inl rfl)) (hb) (hi) ?_⟩; clear HK HB HI0 hb; intro HK HB HI0) | ((with_reducible refine bH (N := 3) rfl ?_); refine fA ?hg (N := 3) ?hd (cs := #[.int .i64 0, .string (⟨#[]⟩ : ByteArray), .int .i64 0, .int .i64 0]) (t := 37) ?hr ?_; (case hd => rfl); (case hg => rfl); (case hr => first | (go_simp; done) | (go_simp; rfl)); intro gb150 hg w15 hbox hb; refine yA8 (dn.below (iT HI0) hb) (bY.trans (kT HK) (bY.of_below hb g none) (.inl rfl)) (aA (bT HB) hb) (hbox) ((by rw [hg]; exact (eY (w := w) (g := g) (row := none) (kT HK)) : w.heap.size ≤ gb150)) ((Nat.le_trans HW0.out (by rw [hg]; exact (eY (w := w) (g := g) (row := none) (kT HK)) : w.heap.size ≤ gb150) : w0.heap.size ≤ gb150)) ((by rw [hg]; exact Nat.ne_of_lt (dn.lt (show dn w0 _ g s0_0 t148 t149 from iT HI0)) : g ≠ gb150)) ((by rw [hg]; exact Nat.ne_of_gt (dn.lt (show dn w0 _ g s0_0 t148 t149 from iT HI0)) : gb150 ≠ g)) ?_; clear HI0 HK HB; intro HI0 HK HB BK150 GW150 GE150 NB0_150 NB150_0; clear hb hbox hg; have hnb16 := NB150_0.out; have hnc16 := NB0_150.out; have hcz17_0 : w15.cell? ⟨gb150, 0, none⟩ = some (.int .i64 0) := (ag BK150.out 0).trans rfl; have hcz17_1 : w15.cell? ⟨gb150, 1, none⟩ = some (.string (⟨#[]⟩ : ByteArray)) := (ag BK150.out 1).trans rfl; have hcz17_2 : w15.cell? ⟨gb150, 2, none⟩ = some (.int .i64 0) := (ag BK150.out 2).trans rfl; have hcz17_3 : w15.cell? ⟨gb150, 3, none⟩ = some (.int .i64 0) := (ag BK150.out 3).trans rfl; have hfz17_0 := ae BK150.out 0; have hfz17_1 := ae BK150.out 1; have hfz17_2 := ae BK150.out 2; have hfz17_3 := ae BK150.out 3))
  go_ret
  exact ⟨eT, iT HI0, bT HB, kT HK⟩
 replace H := yF H
 simp only [Option.some.injEq, Prod.mk.injEq] at H
 obtain ⟨rfl, rfl, rfl⟩ := H
 go_enter Tryz.func64, Tryz.ntmps64
 go_wp2_with (first | ((with_reducible refine gC 63 rfl ?_); refine gM 63 7 rfl Tryz.func63 (kF.calls g s0_0 s0_1 s0_2 t143 t144 t145 t146 false t148 t149 w0 _ (iT HI0) (bT HB) A2.out) ?_; rintro _ w18 ⟨rfl, hi, hb, hk⟩; refine ⟨_, rfl, yA3 (bY.trans (kT HK) hk (.inl rfl)) (hb) (hi) ?_⟩; clear HK HB HI0 hb; intro HK HB HI0) | ((with_reducible refine bH (N := 3) rfl ?_); refine fA ?hg (N := 3) ?hd (cs := #[.int .i64 0, .string (⟨#[]⟩ : ByteArray), .int .i64 0, .int .i64 0]) (t := 37) ?hr ?_; (case hd => rfl); (case hg => rfl); (case hr => first | (go_simp; done) | (go_simp; rfl)); intro gb150 hg w19 hbox hb; refine yA8 (dn.below (iT HI0) hb) (bY.trans (kT HK) (bY.of_below hb g none) (.inl rfl)) (aA (bT HB) hb) (hbox) ((by rw [hg]; exact (eY (w := w) (g := g) (row := none) (kT HK)) : w.heap.size ≤ gb150)) ((Nat.le_trans HW0.out (by rw [hg]; exact (eY (w := w) (g := g) (row := none) (kT HK)) : w.heap.size ≤ gb150) : w0.heap.size ≤ gb150)) ((by rw [hg]; exact Nat.ne_of_lt (dn.lt (show dn w0 _ g s0_0 t148 t149 from iT HI0)) : g ≠ gb150)) ((by rw [hg]; exact Nat.ne_of_gt (dn.lt (show dn w0 _ g s0_0 t148 t149 from iT HI0)) : gb150 ≠ g)) ?_; clear HI0 HK HB; intro HI0 HK HB BK150 GW150 GE150 NB0_150 NB150_0; clear hb hbox hg; have hnb20 := NB150_0.out; have hnc20 := NB0_150.out; have hcz21_0 : w19.cell? ⟨gb150, 0, none⟩ = some (.int .i64 0) := (ag BK150.out 0).trans rfl; have hcz21_1 : w19.cell? ⟨gb150, 1, none⟩ = some (.string (⟨#[]⟩ : ByteArray)) := (ag BK150.out 1).trans rfl; have hcz21_2 : w19.cell? ⟨gb150, 2, none⟩ = some (.int .i64 0) := (ag BK150.out 2).trans rfl; have hcz21_3 : w19.cell? ⟨gb150, 3, none⟩ = some (.int .i64 0) := (ag BK150.out 3).trans rfl; have hfz21_0 := ae BK150.out 0; have hfz21_1 := ae BK150.out 1; have hfz21_2 := ae BK150.out 2; have hfz21_3 := ae BK150.out 3))
 go_ret
 exact ⟨eT, iT HI0, bT HB, kT HK⟩
end Go.Proofs.YtkbhkonenkgfoaaGreat.Q
end
section
namespace Go.Proofs.YtkbhkonenkgfoaaGreat.Q
open Go.RowKit Go.Proofs.YtkbhkonenkgfoaaGreatW.PrintWords Go.Proofs.YtkbhkonenkgfoaaGreatW.PrintLast Go.Proofs.YtkbhkonenkgfoaaGreatW.PrintMore
attribute [local go_sem] dJ dH dS dR cZ cO dI dG
set_option linter.unusedVariables false
set_option linter.unusedSimpArgs false
/-- A state of type 47 at block g of W; what its slices lead to came in by w0. -/
def gp (w0 W : World) (g : Nat) (f0 : List (S37)) (f1 : Int) (f2 : Bool) : Prop := ∃ A0 c0, W.heap[g]? = some (.cells #[.slice A0 f0.length c0, .int .i64 f1, .bool f2] 47 (0, 0)) ∧ w0.heap.size ≤ g ∧ Kd.C k37 w0 A0 f0.length f0
theorem gp.grown {w0 W : World} {g : Nat} {f0 : List (S37)} {f1 : Int} {f2 : Bool} {W1 : World} {row : Option Nat} (h : gp w0 W g f0 f1 f2) (hw : W.grownBy W1 row) (hne : some g ≠ row) : gp w0 W1 g f0 f1 f2 := by
 obtain ⟨A0, c0, hb, hg, hr0⟩ := h
 exact ⟨A0, c0, kN hb hw hne, hg, hr0⟩
theorem gp.fresh {w0 W : World} {g : Nat} {f0 : List (S37)} {f1 : Int} {f2 : Bool} (h : gp w0 W g f0 f1 f2) : ∀ k, W.heap.size ≤ k → k ≠ g := by
 obtain ⟨A0, c0, hb, hg, hr0⟩ := h
 exact Kd.vM hb
theorem gp.kept {w0 W : World} {g : Nat} {f0 : List (S37)} {f1 : Int} {f2 : Bool} {W1 : World} {S : Nat → Prop} (h : gp w0 W g f0 f1 f2) (hk : Kept W W1 S) (hne : ¬ S g) : gp w0 W1 g f0 f1 f2 := by
 obtain ⟨A0, c0, hb, hg, hr0⟩ := h
 exact ⟨A0, c0, zt hb hk hne, hg, hr0⟩
theorem gp.below {w0 W : World} {g : Nat} {f0 : List (S37)} {f1 : Int} {f2 : Bool} {W1 : World} (h : gp w0 W g f0 f1 f2) (hw : Below W.heap.size W W1) : gp w0 W1 g f0 f1 f2 := h.grown (nO hw none) (by simp)
theorem gp.alloc {w0 W : World} {g : Nat} {f0 : List (S37)} {f1 : Int} {f2 : Bool} (h : gp w0 W g f0 f1 f2) (o : Obj) : gp w0 (W.alloc o) g f0 f1 f2 := h.below (iE (Below.refl _ _) o)
theorem gp.drewN {w0 W : World} {g : Nat} {f0 : List (S37)} {f1 : Int} {f2 : Bool} (h : gp w0 W g f0 f1 f2) (m : Nat) : gp w0 (W.drewN m) g f0 f1 f2 := h
theorem gp.drew {w0 W : World} {g : Nat} {f0 : List (S37)} {f1 : Int} {f2 : Bool} (h : gp w0 W g f0 f1 f2) : gp w0 W.drew g f0 f1 f2 := h
theorem gp.at_ {w0 W : World} {g : Nat} {f0 : List (S37)} {f1 : Int} {f2 : Bool} {w' : World} {m : Nat} (hq : W.drewN m = w') (h : gp w0 W g f0 f1 f2) : gp w0 w' g f0 f1 f2 := by subst hq; exact gp.drewN h m
theorem gp.apart {w0 W : World} {g : Nat} {f0 : List (S37)} {f1 : Int} {f2 : Bool} {α : Type} {d : Kd α} {e : Nat} {base : Nat} {ok : Nat → Prop} {v : Value} {xs : List α} (h : gp w0 W g f0 f1 f2) (ho : d.R e W base ok v xs) (ht : ∀ q, q ∈ e :: d.E → q ≠ 47) : d.R e W base (fun k => ok k ∧ k ≠ g) v xs := by
 obtain ⟨A0, c0, hb, hg, hr0⟩ := h
 exact Kd.qI ho hb ht
theorem gp.own_ne {w0 W : World} {g : Nat} {f0 : List (S37)} {f1 : Int} {f2 : Bool} {α : Type} {d : Kd α} {e : Nat} {base : Nat} {ok : Nat → Prop} {v : Value} {xs : List α} (h : gp w0 W g f0 f1 f2) (ho : d.R e W base ok v xs) (ht : e ≠ 47) : some g ≠ v.ownBlock := by
 obtain ⟨A0, c0, hb, hg, hr0⟩ := h
 exact Kd.Dn ho hb ht
theorem gp.lt {w0 W : World} {g : Nat} {f0 : List (S37)} {f1 : Int} {f2 : Bool} (h : gp w0 W g f0 f1 f2) : g < W.heap.size := by
 obtain ⟨A0, c0, hb, hg, hr0⟩ := h
 exact kH hb
theorem gp.ge {w0 W : World} {g : Nat} {f0 : List (S37)} {f1 : Int} {f2 : Bool} (h : gp w0 W g f0 f1 f2) : w0.heap.size ≤ g := by
 obtain ⟨A0, c0, hb, hg, hr0⟩ := h
 exact hg
theorem gp.far {w0 W : World} {g : Nat} {f0 : List (S37)} {f1 : Int} {f2 : Bool} {p : Addr} (h : gp w0 W g f0 f1 f2) (hne : g ≠ p.block) (u : Value) : gp w0 (W.setCell p u) g f0 f1 f2 := by
 obtain ⟨A0, c0, hb, hg, hr0⟩ := h
 exact ⟨A0, c0, fZ hb hne u, hg, hr0⟩
theorem mF {W : World} {g : Nat} {A0 : Option Addr} {c0 : Nat} {f0 : List (S37)} {f1 : Int} {f2 : Bool} (h : W.heap[g]? = some (.cells #[.slice A0 f0.length c0, .int .i64 f1, .bool f2] 47 (0, 0))) : W.cell? ⟨g, 0, none⟩ = some (.slice A0 f0.length c0) := (ag h 0).trans rfl
theorem mD {W : World} {g : Nat} {A0 : Option Addr} {c0 : Nat} {f0 : List (S37)} {f1 : Int} {f2 : Bool} (h : W.heap[g]? = some (.cells #[.slice A0 f0.length c0, .int .i64 f1, .bool f2] 47 (0, 0))) : W.cell? ⟨g, 1, none⟩ = some (.int .i64 f1) := (ag h 1).trans rfl
theorem gp.tY {w0 W : World} {g : Nat} {f0 : List (S37)} {f1 : Int} {f2 : Bool} (h : gp w0 W g f0 f1 f2) (x : Int) : gp w0 (W.setCell ⟨g, 1, none⟩ (.int .i64 x)) g f0 x f2 := by
 obtain ⟨A0, c0, hb, hg, hr0⟩ := h
 exact ⟨A0, c0, by simpa using o7 hb 1 (.int .i64 x), hg, hr0⟩
theorem nC {W : World} {g : Nat} {A0 : Option Addr} {c0 : Nat} {f0 : List (S37)} {f1 : Int} {f2 : Bool} (h : W.heap[g]? = some (.cells #[.slice A0 f0.length c0, .int .i64 f1, .bool f2] 47 (0, 0))) : W.cell? ⟨g, 2, none⟩ = some (.bool f2) := (ag h 2).trans rfl
theorem gp.uO {w0 W : World} {g : Nat} {f0 : List (S37)} {f1 : Int} {f2 : Bool} (h : gp w0 W g f0 f1 f2) (x : Bool) : gp w0 (W.setCell ⟨g, 2, none⟩ (.bool x)) g f0 f1 x := by
 obtain ⟨A0, c0, hb, hg, hr0⟩ := h
 exact ⟨A0, c0, by simpa using o7 hb 2 (.bool x), hg, hr0⟩
theorem gp.new (w0 W : World) (A0 : Option Addr) (c0 : Nat) (f0 : List (S37)) (f1 : Int) (f2 : Bool) (hB : Below w0.heap.size w0 W) (hr0 : Kd.C k37 w0 A0 f0.length f0) : gp w0 (W.alloc (.cells #[.slice A0 f0.length c0, .int .i64 f1, .bool f2] 47)) W.heap.size f0 f1 f2 := ⟨A0, c0, by simpa using heap_alloc_new W _, hB.size, hr0⟩
theorem gp.EC {w0 W : World} {g : Nat} {f0 : List (S37)} {f1 : Int} {f2 : Bool} {b j : Nat} {u : Value} (h : gp w0 W g f0 f1 f2) (hne : g ≠ b) : gp w0 (W.setCell ⟨b, j, none⟩ u) g f0 f1 f2 := gp.far h (p := ⟨b, j, none⟩) hne u
end Go.Proofs.YtkbhkonenkgfoaaGreat.Q
end
