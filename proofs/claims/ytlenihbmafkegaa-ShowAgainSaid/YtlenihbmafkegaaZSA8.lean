/- Walks over functions of the program, words for them, and what the functions come to; of each text only what this claim uses; no condition. -/
import Derived.Test.YtlenihbmafkegaaZSA0
import Derived.Test.YtlenihbmafkegaaZSA1
import Derived.Test.YtlenihbmafkegaaZSA2
import Derived.Test.YtlenihbmafkegaaZSA3
import Derived.Test.YtlenihbmafkegaaZSA5
import Derived.Test.YtlenihbmafkegaaZSA7
section
namespace Go.Proofs.Ytlenihbmafkegaa.Q
open Go.RowKit Go.Proofs.YtlenihbmafkegaaW.PrintWords Go.Proofs.YtlenihbmafkegaaW.PrintLast Go.Proofs.YtlenihbmafkegaaW.PrintMore
attribute [local go_sem] dC dA dP dO cZ cO dB dw
set_option linter.unusedVariables false
set_option linter.unusedSimpArgs false
/-! ### dh: function 51 -/
def dh.l0 : Nat → ByteArray → List Int → Bool → Int → Option (ByteArray × Int)
 | 0, _, _, _, _ => none
 | k + 1, x0, x4, x5, x6 => if x6 < (x0.size : Int) then (if 0 ≤ x6 then (if x5 = true then ((jD.f (bt x0 x6)).bind fun bt218 => (if bt218.2 = true then (if x4.length < 140737488355328 then (dh.l0 k x0 (x4 ++ [bt218.1]) false (wrap64 (x6 + 1))) else (none)) else (some ((⟨#[]⟩ : ByteArray), 0)))) else (if (bt x0 x6) = 34 then (some (strOfNums x4, wrap64 (x6 + 1))) else (if (bt x0 x6) = 10 then (some ((⟨#[]⟩ : ByteArray), 0)) else (if (bt x0 x6) = 92 then (dh.l0 k x0 x4 true (wrap64 (x6 + 1))) else (if x4.length < 140737488355328 then (dh.l0 k x0 (x4 ++ [bt x0 x6]) x5 (wrap64 (x6 + 1))) else (none)))))) else (none)) else (some ((⟨#[]⟩ : ByteArray), 0))
def dh.f (k : Nat) (a0 : ByteArray) : Option (ByteArray × Int) := dh.l0 k a0 ([] : List Int) false 1
theorem dh.cu : ∀ k, (∀ y0 y1 y2 y3, LeO (dh.l0 k y0 y1 y2 y3) (dh.l0 (k + 1) y0 y1 y2 y3))
 | 0 => fun _ _ _ _ r h => by simp [dh.l0] at h
 | k + 1 => by
  have ih0 := dh.cu k
  intro y0 y1 y2 y3
  unfold dh.l0
  exact yL
theorem dh.mono : ∀ a0 k, LeO (dh.f k a0) (dh.f (k + 1) a0) := by
 intro a0 k
 have ih0 := dh.cu k
 unfold dh.f
 exact yL
set_option maxHeartbeats 8000000 in
set_option maxRecDepth 100000 in
theorem dh.calls (k : Nat) (a0 : ByteArray) (r1 : ByteArray) (r2 : Int) (w : World) (h : dh.f k a0 = some (r1, r2)) :
 Calls Try.prog 51 #[.string a0] w fun e w' => e = .returned (.tuple #[.string r1, .int .i64 r2]) ∧ Below w.heap.size w w' := by
 have HB := ae.mk (Below.refl w.heap.size w)
 have H := h
 clear h
 unfold dh.f at H
 have H' := ae.mk H
 clear H
 go_enter Try.func51, Try.ntmps51
 go_wp2
 go_loopg [4, 5, 6] k (fun kq v4 v5 v6 w' => ∃ (x4_1 : List Int) (x5_1 : Bool) (x6_1 : Int), v5 = .bool x5_1 ∧ v6 = .int .i64 x6_1 ∧ ae (dh.l0 kq a0 x4_1 x5_1 x6_1 = some (r1, r2)) ∧ ae (kq ≤ k) ∧ ae (Kd.R (Kd.int .u8) 5 w' w.heap.size (fun _ => True) v4 x4_1) ∧ ae (Below w.heap.size w w'))
 case atStart => exact ⟨(([] : List Int)), (false), (1), fT, fT, H', ⟨Nat.le_refl _⟩, ⟨Z5⟩, ⟨bT HB⟩⟩
 case round =>
  clear H'
  obtain ⟨x4_1, x5_1, x6_1, rfl, rfl, HA, HK1, HO_4, HB⟩ := hrel
  cases gk with
  | zero => exact absurd HA.out (by simp [dh.l0])
  | succ k1 =>
   have H := HA.out
   clear HA
   simp only [dh.l0] at H
   revert H
   refine jU (fun c2b0 H => ?_) fun c2b0 H => ?_
   ·revert H
    refine gY (fun c3b0 H => ?_) fun c3 H => ?_
    ·cases x5_1
     rotate_left
     ·replace H := yT H
      revert H
      refine yB2 fun t218 t219 A6 H => ?_
      try dsimp only at H
      cases t219
      rotate_left
      ·replace H := yT H
       revert H
       refine gZ (fun c8 H => ?_) fun c8 H => ?_
       ·have LMc8 := ae.mk c8
        clear c8
        obtain ⟨y220, hy220⟩ : ∃ y_ : List Int, y_ = (x4_1 ++ [t218]) := ⟨_, rfl⟩
        replace H : (dh.l0 k1 a0 y220 false (wrap64 (x6_1 + 1))) = some (r1, r2) := by first | (rw [hy220]; with_reducible exact H) | (have H2_ := (Option.bind_some _ _).symm.trans H; rw [hy220]; with_reducible exact H2_) | (have H2_ := (Option.bind_some _ _).symm.trans H; with_reducible exact H2_) | with_reducible exact H | (rw [hy220]; exact H) | exact H
        have Ny220 := ae.mk hy220
        clear hy220
        have H' := ae.mk H
        clear H
        have p4 : 0 ≤ (x6_1 : Int) := of_decide_eq_true aT
        have q4 : x6_1 < (a0.size : Int) := of_decide_eq_true aT
        have hx4 := l9 a0 x6_1
        replace p4 := eq_true p4
        replace q4 := eq_true q4
        go_wp2_with (first | ((with_reducible refine gC 73 rfl ?_); refine gM 73 27 rfl Try.func73 (jD.calls (bt a0 x6_1) t218 true _ A6.out) ?_; rintro _ w' ⟨rfl, ⟨nd, rfl⟩⟩; refine ⟨_, rfl, ?_⟩) | ((with_reducible refine dR (b := .append) (xs := #[.tmp 32, .tmp 34]) rfl ?_); at_builtin; refine Kd.lZ (Kd.int .u8) (w0 := w) w.heap.size rfl (.tmp 32) (.tmp 34) 82 5 (.int .u8 0) 1 rfl Try.underlying82 info5 rfl (by decide) (by omega) u4 x4_1 t218 [.int .u8 t218] (fun _ => True) (fun _ => False) rfl rfl ?aP (fun _ hk => hk.elim) ?aF ?aO ?aB ?aS ?aL ?_; (case aP => exact rfl); (case aB => exact (bT HB)); (case aF => exact (fun _ _ => trivial)); (case aO => exact (qR HO_4)); (case aS => exact (aG (bT HB))); (case aL => have := LMc8.out; omega); intro v221 w9 ho hb hg hat; rw [← Ny220.out] at ho; refine yA2 (hb) (ho) ?_; clear HB HO_4; intro HB HO222; clear ho hb hg hat))
        go_roundg k1
        case measure => have := HK1.out; omega
        case rel => exact ⟨(y220), (false), (wrap64 (x6_1 + 1)), fT, fT, H', ⟨by have := HK1.out; omega⟩, ⟨qR HO222⟩, ⟨bT HB⟩⟩
       exact absurd H (by simp)
      replace H := yF H
      simp only [Option.some.injEq, Prod.mk.injEq] at H
      obtain ⟨rfl, rfl⟩ := H
      have p4 : 0 ≤ (x6_1 : Int) := of_decide_eq_true aT
      have q4 : x6_1 < (a0.size : Int) := of_decide_eq_true aT
      have hx4 := l9 a0 x6_1
      replace p4 := eq_true p4
      replace q4 := eq_true q4
      go_wp2_with (first | ((with_reducible refine gC 73 rfl ?_); refine gM 73 27 rfl Try.func73 (jD.calls (bt a0 x6_1) t218 false _ A6.out) ?_; rintro _ w' ⟨rfl, ⟨nd, rfl⟩⟩; refine ⟨_, rfl, ?_⟩))
      go_ret2
      exact ⟨eT, bT HB⟩
     replace H := yF H
     revert H
     refine bn (fun c10b0 c10b1 H => ?_) fun c10 c10b0 c10b1 H => ?_
     ·simp only [Option.some.injEq, Prod.mk.injEq] at H
      obtain ⟨rfl, rfl⟩ := H
      have p4 : 0 ≤ (x6_1 : Int) := of_decide_eq_true aT
      have q4 : x6_1 < (a0.size : Int) := of_decide_eq_true aT
      have hx4 := l9 a0 x6_1
      replace p4 := eq_true p4
      replace q4 := eq_true q4
      have hcv11 := vZ (P := Try.prog) Try.underlying82 Try.underlying5 Try.underlying9 (Kd.sZ HO_4.out)
      go_wp2
      go_ret2
      exact ⟨eT, bT HB⟩
     revert H
     refine bn (fun c12b0 c12b1 H => ?_) fun c12 c12b0 c12b1 H => ?_
     ·simp only [Option.some.injEq, Prod.mk.injEq] at H
      obtain ⟨rfl, rfl⟩ := H
      have p4 : 0 ≤ (x6_1 : Int) := of_decide_eq_true aT
      have q4 : x6_1 < (a0.size : Int) := of_decide_eq_true aT
      have hx4 := l9 a0 x6_1
      replace p4 := eq_true p4
      replace q4 := eq_true q4
      go_wp2
      go_ret2
      exact ⟨eT, bT HB⟩
     revert H
     refine bn (fun c13b0 c13b1 H => ?_) fun c13 c13b0 c13b1 H => ?_
     ·have H' := ae.mk H
      clear H
      have p4 : 0 ≤ (x6_1 : Int) := of_decide_eq_true aT
      have q4 : x6_1 < (a0.size : Int) := of_decide_eq_true aT
      have hx4 := l9 a0 x6_1
      replace p4 := eq_true p4
      replace q4 := eq_true q4
      go_wp2
      go_roundg k1
      case measure => have := HK1.out; omega
      case rel => exact ⟨(x4_1), (true), (wrap64 (x6_1 + 1)), fT, fT, H', ⟨by have := HK1.out; omega⟩, ⟨qR HO_4⟩, ⟨bT HB⟩⟩
     revert H
     refine gZ (fun c14 H => ?_) fun c14 H => ?_
     ·have LMc14 := ae.mk c14
      clear c14
      obtain ⟨y223, hy223⟩ : ∃ y_ : List Int, y_ = (x4_1 ++ [bt a0 x6_1]) := ⟨_, rfl⟩
      replace H : (dh.l0 k1 a0 y223 false (wrap64 (x6_1 + 1))) = some (r1, r2) := by first | (rw [hy223]; with_reducible exact H) | (have H2_ := (Option.bind_some _ _).symm.trans H; rw [hy223]; with_reducible exact H2_) | (have H2_ := (Option.bind_some _ _).symm.trans H; with_reducible exact H2_) | with_reducible exact H | (rw [hy223]; exact H) | exact H
      have Ny223 := ae.mk hy223
      clear hy223
      have H' := ae.mk H
      clear H
      have p4 : 0 ≤ (x6_1 : Int) := of_decide_eq_true aT
      have q4 : x6_1 < (a0.size : Int) := of_decide_eq_true aT
      have hx4 := l9 a0 x6_1
      replace p4 := eq_true p4
      replace q4 := eq_true q4
      go_wp2_with (first | ((with_reducible refine dR (b := .append) (xs := #[.tmp 19, .tmp 21]) rfl ?_); at_builtin; refine Kd.lZ (Kd.int .u8) (w0 := w) w.heap.size rfl (.tmp 19) (.tmp 21) 82 5 (.int .u8 0) 1 rfl Try.underlying82 info5 rfl (by decide) (by omega) u4 x4_1 (bt a0 x6_1) [.int .u8 (bt a0 x6_1)] (fun _ => True) (fun _ => False) rfl rfl ?aP (fun _ hk => hk.elim) ?aF ?aO ?aB ?aS ?aL ?_; (case aP => exact rfl); (case aB => exact (bT HB)); (case aF => exact (fun _ _ => trivial)); (case aO => exact (qR HO_4)); (case aS => exact (aG (bT HB))); (case aL => have := LMc14.out; omega); intro v224 w15 ho hb hg hat; rw [← Ny223.out] at ho; refine yA2 (hb) (ho) ?_; clear HB HO_4; intro HB HO225; clear ho hb hg hat))
      go_roundg k1
      case measure => have := HK1.out; omega
      case rel => exact ⟨(y223), (false), (wrap64 (x6_1 + 1)), fT, fT, H', ⟨by have := HK1.out; omega⟩, ⟨qR HO225⟩, ⟨bT HB⟩⟩
     exact absurd H (by simp)
    exact absurd H (by simp)
   simp only [Option.some.injEq, Prod.mk.injEq] at H
   obtain ⟨rfl, rfl⟩ := H
   go_wp2
   go_ret2
   exact ⟨eT, bT HB⟩
end Go.Proofs.Ytlenihbmafkegaa.Q
end
section
namespace Go.Proofs.Ytlenihbmafkegaa.Q
open Go.RowKit Go.Proofs.YtlenihbmafkegaaW.PrintWords Go.Proofs.YtlenihbmafkegaaW.PrintLast Go.Proofs.YtlenihbmafkegaaW.PrintMore
attribute [local go_sem] dC dA dP dO cZ cO dB dw
set_option linter.unusedVariables false
set_option linter.unusedSimpArgs false
/-! ### ed: function 52 -/
def ed.j0 : Nat → ByteArray → Bool → Option (ByteArray)
 | 0, _, _ => none
 | k + 1, x0, x16 => if x16 = true then (if 0 ≤ 2 then (if 2 ≤ (x0.size : Int) then (some (x0.extract 0 2)) else (none)) else (none)) else (if 0 ≤ 1 then (if 1 ≤ (x0.size : Int) then ((df.f k (⟨#[40, 41, 123, 125, 91, 93, 44, 59, 46, 47, 61, 60, 43, 45, 42, 37]⟩ : ByteArray) (x0.extract 0 1)).bind fun t227 => (if t227 = true then (some (x0.extract 0 1)) else (some (⟨#[]⟩ : ByteArray)))) else (none)) else (none))
def ed.f (k : Nat) (a0 : ByteArray) : Option (ByteArray) := if (a0.size : Int) > 1 then (if 0 ≤ 2 then (if 2 ≤ (a0.size : Int) then (if (a0.extract 0 2).size + 1 ≤ 9223372036854775807 then ((df.f k (⟨#[61, 61, 32, 33, 61, 32, 60, 61, 32, 46, 46, 32]⟩ : ByteArray) ((a0.extract 0 2) ++ (⟨#[32]⟩ : ByteArray))).bind fun t226 => (if t226 = true then (if 1 < (a0.size : Int) then (ed.j0 k a0 ((bt a0 1) != 32)) else (none)) else (ed.j0 k a0 false))) else (none)) else (none)) else (none)) else (ed.j0 k a0 false)
theorem ed.cu : ∀ k, (∀ y0 y1, LeO (ed.j0 k y0 y1) (ed.j0 (k + 1) y0 y1))
 | 0 => fun _ _ r h => by simp [ed.j0] at h
 | k + 1 => by
  have ih0 := ed.cu k
  intro y0 y1
  unfold ed.j0
  have m0 := df.mono
  exact yL
theorem ed.mono : ∀ a0 k, LeO (ed.f k a0) (ed.f (k + 1) a0) := by
 intro a0 k
 have ih0 := ed.cu k
 unfold ed.f
 have m0 := df.mono
 exact yL
set_option maxHeartbeats 8000000 in
set_option maxRecDepth 100000 in
theorem ed.calls (k : Nat) (a0 : ByteArray) (r : ByteArray) (w : World) (h : ed.f k a0 = some r) :
 Calls Try.prog 52 #[.string a0] w fun e w' => e = .returned (.string r) ∧ dQ w w' := by
 have H := h
 clear h
 unfold ed.f at H
 have HC2 := ae.mk H
 clear H
 go_enter Try.func52, Try.ntmps52
 go_upto_region 1 with (fail)
 go_cut [16] (fun v16 wc => ∃ (kq : Nat) (x16_1 : Bool), v16 = .bool x16_1 ∧ ae (ed.j0 kq a0 x16_1 = some r) ∧ ae (kq ≤ k) ∧ dQ w wc)
 case first =>
  have H := HC2.out
  clear HC2
  revert H
  refine gZ (fun c3 H => ?_) fun c3 H => ?_
  ·have c3b0 : decide (1 < (a0.size : Int)) = true := decide_eq_true c3
   have c3b1 : decide (1 < a0.size) = true := decide_eq_true (by omega)
   clear c3
   (first | rw [c3b0] | (simp only [gB, iP]; rw [c3b0]) | skip)
   revert H
   refine jL (fun c4b0 c4b1 H => ?_) fun c4 H => ?_
   ·revert H
    refine jL (fun c5b0 c5b1 H => ?_) fun c5 H => ?_
    ·revert H
     refine jY (fun c6 c6b0 c6b1 H => ?_) fun c6 H => ?_
     ·try have c6b2 : (9223372036854775807 < (a0.extract 0 2).size + 1) = False := eq_false (Nat.not_lt.2 c6)
      revert H
      refine yB1 fun t226 A7 H => ?_
      cases t226
      rotate_left
      ·replace H := yT H
       revert H
       refine yP (fun c9 c9b0 H => ?_) fun c9 H => ?_
       ·have c9b1 : decide (1 < a0.size) = true := decide_eq_true (by omega)
        clear c9
        have H' := ae.mk H
        clear H
        go_wp2_with (first | (go_at_call 72; (with_reducible refine (df.calls k (⟨#[61, 61, 32, 33, 61, 32, 60, 61, 32, 46, 46, 32]⟩ : ByteArray) ((a0.extract 0 2) ++ (⟨#[32]⟩ : ByteArray)) true _ A7.out).mono ?_); rintro e w' ⟨rfl, ⟨nd, rfl⟩⟩; have p10 : 0 ≤ (1 : Int) := (by omega); have q10 : 1 < a0.size := (by have : (1 : Int) < (a0.size : Int) := of_decide_eq_true aT; omega); have hx10 : ∀ h : 1 < a0.size, ((a0[1]'h).toNat : Int) = bt a0 1 := l9 a0 1; clear p10; have qi10 : (1 < (a0.size : Int)) = True := eq_true (of_decide_eq_true aT); replace q10 := eq_true q10))
        go_meet
        case rel => exact ⟨_, (((bt a0 1) != 32)), fT, H', ⟨Z13⟩, Z0⟩
       exact absurd H (by simp)
      replace H := yF H
      have H' := ae.mk H
      clear H
      go_wp2_with (first | (go_at_call 72; (with_reducible refine (df.calls k (⟨#[61, 61, 32, 33, 61, 32, 60, 61, 32, 46, 46, 32]⟩ : ByteArray) ((a0.extract 0 2) ++ (⟨#[32]⟩ : ByteArray)) false _ A7.out).mono ?_); rintro e w' ⟨rfl, ⟨nd, rfl⟩⟩))
      go_meet
      case rel => exact ⟨_, (false), fT, H', ⟨Z13⟩, Z0⟩
     exact absurd H (by simp)
    exact absurd H (by simp)
   exact absurd H (by simp)
  have c3b0 : decide (1 < (a0.size : Int)) = false := decide_eq_false c3
  have c3b1 : decide (1 < a0.size) = false := decide_eq_false (by omega)
  clear c3
  (first | rw [c3b0] | (simp only [gB, iP]; rw [c3b0]) | skip)
  have H' := ae.mk H
  clear H
  go_wp2
  go_meet
  case rel => exact ⟨_, (false), fT, H', ⟨Z13⟩, Z0⟩
 case rest =>
  clear HC2
  try clear p1
  try clear q1
  try clear hx1
  try clear qi1
  try clear p2
  try clear c3
  try clear c3b0
  try clear c3b1
  try clear c4
  try clear c4b0
  try clear c4b1
  try clear c5
  try clear c5b0
  try clear c5b1
  try clear c6
  try clear c6b0
  try clear c6b1
  try clear c6b2
  try clear c8
  try clear c9
  try clear c9b0
  try clear c9b1
  try clear p10
  try clear q10
  try clear hx10
  try clear qi10
  try clear p10
  try clear q10
  obtain ⟨kq, x16_1, rfl, HA, HJ1, ⟨mc1, rfl⟩⟩ := hcut
  cases kq with
  | zero => exact absurd HA.out (by simp [ed.j0])
  | succ kj1 =>
   have H := HA.out
   clear HA
   simp only [ed.j0] at H
   cases x16_1
   rotate_left
   ·replace H := yT H
    revert H
    refine jL (fun c12b0 c12b1 H => ?_) fun c12 H => ?_
    ·revert H
     refine jL (fun c13b0 c13b1 H => ?_) fun c13 H => ?_
     ·obtain rfl := Option.some.inj H
      go_wp2
      go_ret
      exact ⟨fT, Z0⟩
     exact absurd H (by simp)
    exact absurd H (by simp)
   replace H := yF H
   revert H
   refine jL (fun c14b0 c14b1 H => ?_) fun c14 H => ?_
   ·revert H
    refine jL (fun c15b0 c15b1 H => ?_) fun c15 H => ?_
    ·revert H
     refine yB1 fun t227 A16 H => ?_
     cases t227
     rotate_left
     ·replace H := yT H
      have c18b0 := eq_true (of_decide_eq_true aT : 0 ≤ 1)
      have c19b0 := eq_true (of_decide_eq_true aT : 1 ≤ (a0.size : Int))
      obtain rfl := Option.some.inj H
      go_wp2_with (first | ((with_reducible refine gC 72 rfl ?_); refine gM 72 21 rfl Try.func72 (df.calls kj1 (⟨#[40, 41, 123, 125, 91, 93, 44, 59, 46, 47, 61, 60, 43, 45, 42, 37]⟩ : ByteArray) (a0.extract 0 1) true _ A16.out) ?_; rintro _ w' ⟨rfl, ⟨nd, rfl⟩⟩; refine ⟨_, rfl, ?_⟩))
      go_ret
      exact ⟨fT, Z0⟩
     replace H := yF H
     obtain rfl := Option.some.inj H
     go_wp2_with (first | ((with_reducible refine gC 72 rfl ?_); refine gM 72 21 rfl Try.func72 (df.calls kj1 (⟨#[40, 41, 123, 125, 91, 93, 44, 59, 46, 47, 61, 60, 43, 45, 42, 37]⟩ : ByteArray) (a0.extract 0 1) false _ A16.out) ?_; rintro _ w' ⟨rfl, ⟨nd, rfl⟩⟩; refine ⟨_, rfl, ?_⟩))
     go_ret
     exact ⟨fT, Z0⟩
    exact absurd H (by simp)
   exact absurd H (by simp)
end Go.Proofs.Ytlenihbmafkegaa.Q
end
section
namespace Go.Proofs.Ytlenihbmafkegaa.Q
open Go.RowKit Go.Proofs.YtlenihbmafkegaaW.PrintWords Go.Proofs.YtlenihbmafkegaaW.PrintLast Go.Proofs.YtlenihbmafkegaaW.PrintMore
attribute [local go_sem] dC dA dP dO cZ cO dB dw
set_option linter.unusedVariables false
set_option linter.unusedSimpArgs false
/-! ### iH: function 24 -/
def iH.f (k : Nat) (a0 : ByteArray) : Option (Int × ByteArray × Int × Int × Int × Int) := if 0 < (a0.size : Int) then ((iI.f (wrap32 (bt a0 0))).bind fun t229 => (if t229 = true then ((jZ.f a0).bind fun t230 => ((gW.f k t230).bind fun t231 => (if t231 = true then (some (5, t230, 0, 0, (t230.size : Int), 0)) else ((eP.f k t230).bind fun t232 => (if t232 = true then (some (1, t230, 0, 0, (t230.size : Int), 0)) else (some (0, (⟨#[]⟩ : ByteArray), 0, 0, 0, 10))))))) else ((kS.f (wrap32 (bt a0 0))).bind fun t233 => (if t233 = true then ((mW.f a0).bind fun t234 => ((bP.f k t234).bind fun bt235 => (if bt235.2 = true then (some (2, t234, bt235.1, 0, (t234.size : Int), 0)) else (some (0, (⟨#[]⟩ : ByteArray), 0, 0, 0, 10))))) else (if (wrap32 (bt a0 0)) = 34 then ((dh.f k a0).bind fun bt237 => (if bt237.2 > 0 then (some (3, bt237.1, 0, 0, bt237.2, 0)) else (some (0, (⟨#[]⟩ : ByteArray), 0, 0, 0, 10)))) else ((ed.f k a0).bind fun t239 => (if t239.toList = ([] : List UInt8) then (some (0, (⟨#[]⟩ : ByteArray), 0, 0, 0, 9)) else (some (4, t239, 0, 0, (t239.size : Int), 0))))))))) else (none)
theorem iH.mono : ∀ a0 k, LeO (iH.f k a0) (iH.f (k + 1) a0) := by
 intro a0 k
 unfold iH.f
 have m0 := gW.mono
 have m1 := eP.mono
 have m2 := bP.mono
 have m3 := dh.mono
 have m4 := ed.mono
 exact yL
end Go.Proofs.Ytlenihbmafkegaa.Q
end
section
set_option linter.unusedVariables false
set_option linter.unusedSimpArgs false
namespace Go.Proofs.Ytlenihbmafkegaa.Q
open Go Go.RowKit Go.Proofs.YtlenihbmafkegaaW.PrintWords Go.Proofs.YtlenihbmafkegaaW.PrintLast Go.Proofs.YtlenihbmafkegaaW.PrintMore
attribute [local go_sem] dC dA dP dO cZ cO dB dw
set_option maxHeartbeats 8000000 in
set_option maxRecDepth 100000 in
theorem iH.calls (k : Nat) (a0 : ByteArray) (r1 : Int) (r2 : ByteArray) (r3 : Int) (r4 : Int) (r5 : Int) (r6 : Int) (w : World) (h : iH.f k a0 = some (r1, r2, r3, r4, r5, r6)) :
 Calls Try.prog 24 #[.string a0] w fun e w' => e = .returned (.tuple #[.agg #[.int .i64 r1, .string r2, .int .i64 r3, .int .i64 r4], .int .i64 r5, .int .i64 r6]) ∧ Below w.heap.size w w' := by
 unfold iH.f at h
 have HS := PS.new w
 have H := ae.mk h
 have hu := Try.underlying56
 clear h
 (repeat' (first | (with_reducible exact absurd H.out (Option.some_ne_none _).symm) | (first | replace H := qB1 H (by assumption) | replace H := qB0 H (by assumption) | replace H := qE1 H (by assumption) | replace H := qE0 H (by assumption) | replace H := qD1 H (by assumption) | replace H := qD0 H (by assumption)) | (refine qB H ?_ ?_ <;> clear H <;> intro cb_ H <;> (try subst cb_)) | (refine qE H ?_ ?_ <;> clear H <;> intro cb_ cn_ H) | (refine qD H ?_ ?_ <;> clear H <;> intro cp_ cb_ H <;> (try simp only [ge_iff_le, gt_iff_lt] at cp_ cb_))))
 have q0 : (0 < a0.size) = True := eq_true (by have := of_eq_true ‹(0 < (a0.size : Int)) = True›; omega)
 have hi : ∀ h : 0 < a0.size, ((a0[0]'h).toNat : Int) = bt a0 0 := l9 a0 0
 go_enter Try.func24, Try.ntmps24
 go_wp2_with (first | ((with_reducible refine bI (N := 2) rfl ?_); refine OJ (N := 2) (stP HS) (by first | (go_simp; done) | (go_simp; rfl)) ?_; (try clear hxa0 hxa1 hxa2 hxa3 hfa0 hfa1 hfa2 hfa3); (try clear hxb0 hxb1 hxb2 hxb3 hfb0 hfb1 hfb2 hfb3); (try clear n1_ n2_); clear HS; intro gb2 w' HS; (try obtain ⟨hxa0, hxa1, hxa2, hxa3, hfa0, hfa1, hfa2, hfa3⟩ := c4 HS.hd); (try obtain ⟨hxb0, hxb1, hxb2, hxb3, hfb0, hfb1, hfb2, hfb3⟩ := c4 HS.tl.hd); (try obtain ⟨n1_, n2_⟩ := HS.ne)) | ((with_reducible refine gC 46 rfl ?_); refine pV .bool 46 rfl Try.func46 (stP HS) H (fun t h => ofD (iI.calls _ t _ h)) ?_; (try clear hxa0 hxa1 hxa2 hxa3 hfa0 hfa1 hfa2 hfa3); (try clear hxb0 hxb1 hxb2 hxb3 hfb0 hfb1 hfb2 hfb3); (try clear n1_ n2_); clear HS H; intro t w' HS H; (try dsimp only at H); (try obtain ⟨hxa0, hxa1, hxa2, hxa3, hfa0, hfa1, hfa2, hfa3⟩ := c4 HS.hd); (try obtain ⟨hxb0, hxb1, hxb2, hxb3, hfb0, hfb1, hfb2, hfb3⟩ := c4 HS.tl.hd); (try obtain ⟨n1_, n2_⟩ := HS.ne); (repeat' (first | (with_reducible exact absurd H.out (Option.some_ne_none _).symm) | (first | replace H := qB1 H (by assumption) | replace H := qB0 H (by assumption) | replace H := qE1 H (by assumption) | replace H := qE0 H (by assumption) | replace H := qD1 H (by assumption) | replace H := qD0 H (by assumption)) | (refine qB H ?_ ?_ <;> clear H <;> intro cb_ H <;> (try subst cb_)) | (refine qE H ?_ ?_ <;> clear H <;> intro cb_ cn_ H) | (refine qD H ?_ ?_ <;> clear H <;> intro cp_ cb_ H <;> (try simp only [ge_iff_le, gt_iff_lt] at cp_ cb_))))) | ((with_reducible refine gC 43 rfl ?_); refine pV .string 43 rfl Try.func43 (stP HS) H (fun t h => jZ.calls _ t _ h) ?_; (try clear hxa0 hxa1 hxa2 hxa3 hfa0 hfa1 hfa2 hfa3); (try clear hxb0 hxb1 hxb2 hxb3 hfb0 hfb1 hfb2 hfb3); (try clear n1_ n2_); clear HS H; intro t w' HS H; (try dsimp only at H); (try obtain ⟨hxa0, hxa1, hxa2, hxa3, hfa0, hfa1, hfa2, hfa3⟩ := c4 HS.hd); (try obtain ⟨hxb0, hxb1, hxb2, hxb3, hfb0, hfb1, hfb2, hfb3⟩ := c4 HS.tl.hd); (try obtain ⟨n1_, n2_⟩ := HS.ne); (repeat' (first | (with_reducible exact absurd H.out (Option.some_ne_none _).symm) | (first | replace H := qB1 H (by assumption) | replace H := qB0 H (by assumption) | replace H := qE1 H (by assumption) | replace H := qE0 H (by assumption) | replace H := qD1 H (by assumption) | replace H := qD0 H (by assumption)) | (refine qB H ?_ ?_ <;> clear H <;> intro cb_ H <;> (try subst cb_)) | (refine qE H ?_ ?_ <;> clear H <;> intro cb_ cn_ H) | (refine qD H ?_ ?_ <;> clear H <;> intro cp_ cb_ H <;> (try simp only [ge_iff_le, gt_iff_lt] at cp_ cb_))))) | ((with_reducible refine gC 43 rfl ?_); refine pV .string 43 rfl Try.func43 (stP HS) H (fun t h => mW.calls _ t _ h) ?_; (try clear hxa0 hxa1 hxa2 hxa3 hfa0 hfa1 hfa2 hfa3); (try clear hxb0 hxb1 hxb2 hxb3 hfb0 hfb1 hfb2 hfb3); (try clear n1_ n2_); clear HS H; intro t w' HS H; (try dsimp only at H); (try obtain ⟨hxa0, hxa1, hxa2, hxa3, hfa0, hfa1, hfa2, hfa3⟩ := c4 HS.hd); (try obtain ⟨hxb0, hxb1, hxb2, hxb3, hfb0, hfb1, hfb2, hfb3⟩ := c4 HS.tl.hd); (try obtain ⟨n1_, n2_⟩ := HS.ne); (repeat' (first | (with_reducible exact absurd H.out (Option.some_ne_none _).symm) | (first | replace H := qB1 H (by assumption) | replace H := qB0 H (by assumption) | replace H := qE1 H (by assumption) | replace H := qE0 H (by assumption) | replace H := qD1 H (by assumption) | replace H := qD0 H (by assumption)) | (refine qB H ?_ ?_ <;> clear H <;> intro cb_ H <;> (try subst cb_)) | (refine qE H ?_ ?_ <;> clear H <;> intro cb_ cn_ H) | (refine qD H ?_ ?_ <;> clear H <;> intro cp_ cb_ H <;> (try simp only [ge_iff_le, gt_iff_lt] at cp_ cb_))))) | ((with_reducible refine gC 48 rfl ?_); refine pV .bool 48 rfl Try.func48 (stP HS) H (fun t h => gW.calls _ _ t _ h) ?_; (try clear hxa0 hxa1 hxa2 hxa3 hfa0 hfa1 hfa2 hfa3); (try clear hxb0 hxb1 hxb2 hxb3 hfb0 hfb1 hfb2 hfb3); (try clear n1_ n2_); clear HS H; intro t w' HS H; (try dsimp only at H); (try obtain ⟨hxa0, hxa1, hxa2, hxa3, hfa0, hfa1, hfa2, hfa3⟩ := c4 HS.hd); (try obtain ⟨hxb0, hxb1, hxb2, hxb3, hfb0, hfb1, hfb2, hfb3⟩ := c4 HS.tl.hd); (try obtain ⟨n1_, n2_⟩ := HS.ne); (repeat' (first | (with_reducible exact absurd H.out (Option.some_ne_none _).symm) | (first | replace H := qB1 H (by assumption) | replace H := qB0 H (by assumption) | replace H := qE1 H (by assumption) | replace H := qE0 H (by assumption) | replace H := qD1 H (by assumption) | replace H := qD0 H (by assumption)) | (refine qB H ?_ ?_ <;> clear H <;> intro cb_ H <;> (try subst cb_)) | (refine qE H ?_ ?_ <;> clear H <;> intro cb_ cn_ H) | (refine qD H ?_ ?_ <;> clear H <;> intro cp_ cb_ H <;> (try simp only [ge_iff_le, gt_iff_lt] at cp_ cb_))))) | ((with_reducible refine gC 31 rfl ?_); refine pV .bool 31 rfl Try.func31 (stP HS) H (fun t h => eP.calls _ _ t _ h) ?_; (try clear hxa0 hxa1 hxa2 hxa3 hfa0 hfa1 hfa2 hfa3); (try clear hxb0 hxb1 hxb2 hxb3 hfb0 hfb1 hfb2 hfb3); (try clear n1_ n2_); clear HS H; intro t w' HS H; (try dsimp only at H); (try obtain ⟨hxa0, hxa1, hxa2, hxa3, hfa0, hfa1, hfa2, hfa3⟩ := c4 HS.hd); (try obtain ⟨hxb0, hxb1, hxb2, hxb3, hfb0, hfb1, hfb2, hfb3⟩ := c4 HS.tl.hd); (try obtain ⟨n1_, n2_⟩ := HS.ne); (repeat' (first | (with_reducible exact absurd H.out (Option.some_ne_none _).symm) | (first | replace H := qB1 H (by assumption) | replace H := qB0 H (by assumption) | replace H := qE1 H (by assumption) | replace H := qE0 H (by assumption) | replace H := qD1 H (by assumption) | replace H := qD0 H (by assumption)) | (refine qB H ?_ ?_ <;> clear H <;> intro cb_ H <;> (try subst cb_)) | (refine qE H ?_ ?_ <;> clear H <;> intro cb_ cn_ H) | (refine qD H ?_ ?_ <;> clear H <;> intro cp_ cb_ H <;> (try simp only [ge_iff_le, gt_iff_lt] at cp_ cb_))))) | ((with_reducible refine gC 49 rfl ?_); refine pV .bool 49 rfl Try.func49 (stP HS) H (fun t h => ofD (kS.calls _ t _ h)) ?_; (try clear hxa0 hxa1 hxa2 hxa3 hfa0 hfa1 hfa2 hfa3); (try clear hxb0 hxb1 hxb2 hxb3 hfb0 hfb1 hfb2 hfb3); (try clear n1_ n2_); clear HS H; intro t w' HS H; (try dsimp only at H); (try obtain ⟨hxa0, hxa1, hxa2, hxa3, hfa0, hfa1, hfa2, hfa3⟩ := c4 HS.hd); (try obtain ⟨hxb0, hxb1, hxb2, hxb3, hfb0, hfb1, hfb2, hfb3⟩ := c4 HS.tl.hd); (try obtain ⟨n1_, n2_⟩ := HS.ne); (repeat' (first | (with_reducible exact absurd H.out (Option.some_ne_none _).symm) | (first | replace H := qB1 H (by assumption) | replace H := qB0 H (by assumption) | replace H := qE1 H (by assumption) | replace H := qE0 H (by assumption) | replace H := qD1 H (by assumption) | replace H := qD0 H (by assumption)) | (refine qB H ?_ ?_ <;> clear H <;> intro cb_ H <;> (try subst cb_)) | (refine qE H ?_ ?_ <;> clear H <;> intro cb_ cn_ H) | (refine qD H ?_ ?_ <;> clear H <;> intro cp_ cb_ H <;> (try simp only [ge_iff_le, gt_iff_lt] at cp_ cb_))))) | ((with_reducible refine gC 50 rfl ?_); refine pV (fun t : Int × Bool => .tuple #[.int .i64 t.1, .bool t.2]) 50 rfl Try.func50 (stP HS) H (fun t h => ofD (bP.calls _ _ t.1 t.2 _ h)) ?_; (try clear hxa0 hxa1 hxa2 hxa3 hfa0 hfa1 hfa2 hfa3); (try clear hxb0 hxb1 hxb2 hxb3 hfb0 hfb1 hfb2 hfb3); (try clear n1_ n2_); clear HS H; intro t w' HS H; (try dsimp only at H); (try obtain ⟨hxa0, hxa1, hxa2, hxa3, hfa0, hfa1, hfa2, hfa3⟩ := c4 HS.hd); (try obtain ⟨hxb0, hxb1, hxb2, hxb3, hfb0, hfb1, hfb2, hfb3⟩ := c4 HS.tl.hd); (try obtain ⟨n1_, n2_⟩ := HS.ne); (repeat' (first | (with_reducible exact absurd H.out (Option.some_ne_none _).symm) | (first | replace H := qB1 H (by assumption) | replace H := qB0 H (by assumption) | replace H := qE1 H (by assumption) | replace H := qE0 H (by assumption) | replace H := qD1 H (by assumption) | replace H := qD0 H (by assumption)) | (refine qB H ?_ ?_ <;> clear H <;> intro cb_ H <;> (try subst cb_)) | (refine qE H ?_ ?_ <;> clear H <;> intro cb_ cn_ H) | (refine qD H ?_ ?_ <;> clear H <;> intro cp_ cb_ H <;> (try simp only [ge_iff_le, gt_iff_lt] at cp_ cb_))))) | ((with_reducible refine gC 51 rfl ?_); refine pV (fun t : ByteArray × Int => .tuple #[.string t.1, .int .i64 t.2]) 51 rfl Try.func51 (stP HS) H (fun t h => dh.calls _ _ t.1 t.2 _ h) ?_; (try clear hxa0 hxa1 hxa2 hxa3 hfa0 hfa1 hfa2 hfa3); (try clear hxb0 hxb1 hxb2 hxb3 hfb0 hfb1 hfb2 hfb3); (try clear n1_ n2_); clear HS H; intro t w' HS H; (try dsimp only at H); (try obtain ⟨hxa0, hxa1, hxa2, hxa3, hfa0, hfa1, hfa2, hfa3⟩ := c4 HS.hd); (try obtain ⟨hxb0, hxb1, hxb2, hxb3, hfb0, hfb1, hfb2, hfb3⟩ := c4 HS.tl.hd); (try obtain ⟨n1_, n2_⟩ := HS.ne); (repeat' (first | (with_reducible exact absurd H.out (Option.some_ne_none _).symm) | (first | replace H := qB1 H (by assumption) | replace H := qB0 H (by assumption) | replace H := qE1 H (by assumption) | replace H := qE0 H (by assumption) | replace H := qD1 H (by assumption) | replace H := qD0 H (by assumption)) | (refine qB H ?_ ?_ <;> clear H <;> intro cb_ H <;> (try subst cb_)) | (refine qE H ?_ ?_ <;> clear H <;> intro cb_ cn_ H) | (refine qD H ?_ ?_ <;> clear H <;> intro cp_ cb_ H <;> (try simp only [ge_iff_le, gt_iff_lt] at cp_ cb_))))) | ((with_reducible refine gC 52 rfl ?_); refine pV .string 52 rfl Try.func52 (stP HS) H (fun t h => ofD (ed.calls _ _ t _ h)) ?_; (try clear hxa0 hxa1 hxa2 hxa3 hfa0 hfa1 hfa2 hfa3); (try clear hxb0 hxb1 hxb2 hxb3 hfb0 hfb1 hfb2 hfb3); (try clear n1_ n2_); clear HS H; intro t w' HS H; (try dsimp only at H); (try obtain ⟨hxa0, hxa1, hxa2, hxa3, hfa0, hfa1, hfa2, hfa3⟩ := c4 HS.hd); (try obtain ⟨hxb0, hxb1, hxb2, hxb3, hfb0, hfb1, hfb2, hfb3⟩ := c4 HS.tl.hd); (try obtain ⟨n1_, n2_⟩ := HS.ne); (repeat' (first | (with_reducible exact absurd H.out (Option.some_ne_none _).symm) | (first | replace H := qB1 H (by assumption) | replace H := qB0 H (by assumption) | replace H := qE1 H (by assumption) | replace H := qE0 H (by assumption) | replace H := qD1 H (by assumption) | replace H := qD0 H (by assumption)) | (refine qB H ?_ ?_ <;> clear H <;> intro cb_ H <;> (try subst cb_)) | (refine qE H ?_ ?_ <;> clear H <;> intro cb_ cn_ H) | (refine qD H ?_ ?_ <;> clear H <;> intro cp_ cb_ H <;> (try simp only [ge_iff_le, gt_iff_lt] at cp_ cb_))))))
 all_goals (have h_ := H.out; simp only [Option.some.injEq, Prod.mk.injEq] at h_; obtain ⟨rfl, rfl, rfl, rfl, rfl, rfl⟩ := h_; refine bodyPost_ret (zS rfl _ _ gb2 56 _ (0, 0) _ rfl (by exact PS.hd (stP HS)) Try.underlying56 rfl (by kernel_rfl)) rfl ?_; exact ⟨by first | rfl | (simp; done) | (simp [*]; done), (stP HS).below⟩)
end Go.Proofs.Ytlenihbmafkegaa.Q
end
section
set_option linter.unusedVariables false
set_option linter.unusedSimpArgs false
namespace Go.Proofs.Ytlenihbmafkegaa.Q
open Go.RowKit Go.Proofs.YtlenihbmafkegaaW.PrintWords Go.Proofs.YtlenihbmafkegaaW.PrintLast Go.Proofs.YtlenihbmafkegaaW.PrintMore
def jB.f (s0 : List S56) (s1 : Int) (s2 : Bool) : Option (Int × ByteArray × Int × Int × Bool × Int × Bool) :=
 if s2 = true then some (0, (⟨#[]⟩ : ByteArray), 0, 0, false, s1, s2) else if s1 ≥ (s0.length : Int) then some (0, (⟨#[]⟩ : ByteArray), 0, 0, false, s1, s2)
 else if 0 ≤ s1 then some ((dD s0 s1).f0, (dD s0 s1).f1, (dD s0 s1).f2, (dD s0 s1).f3, true, s1, s2) else none
set_option maxHeartbeats 8000000 in
set_option maxRecDepth 100000 in
theorem jB.calls (g : Nat) (s0_0 : List S56) (s0_1 : Int) (s0_2 : Bool) (r1 : Int) (r2 : ByteArray) (r3 : Int) (r4 : Int) (r5 : Bool) (r6 : Int) (r7 : Bool) (w0 w : World) (hI : bf w0 w g s0_0 s0_1 s0_2) (hB : Below w0.heap.size w0 w) (h : jB.f s0_0 s0_1 s0_2 = some (r1, r2, r3, r4, r5, r6, r7)) :
 Calls Try.prog 74 #[.pointer (some ⟨g, 0, none⟩)] w fun e w' => e = .returned (.tuple #[.agg #[.int .i64 r1, .string r2, .int .i64 r3, .int .i64 r4], .bool r5]) ∧ bf w0 w' g s0_0 r6 r7 ∧ Below w0.heap.size w0 w' ∧ aX w w' g none := by
 have HI0 := ae.mk hI
 have HB := ae.mk hB
 clear hI hB
 unfold jB.f at h
 have HQ := ae.mk h
 clear h
 go_enter Try.func74, Try.ntmps74
 go_upto_region 1 with (first | ((with_reducible refine bI (N := 2) rfl ?_); refine dW ?hg (N := 2) ?hd (cs := #[.int .i64 0, .string (⟨#[]⟩ : ByteArray), .int .i64 0, .int .i64 0]) (t := 56) ?hr ?_; (case hd => rfl); (case hg => rfl); (case hr => first | (go_simp; done) | (go_simp; rfl)); intro gb hg w1 hbox hb; have HI1 := ae.mk (HI0.out.below hb); have HB1 := ae.mk (aj HB.out hb); have HK1 := ae.mk (aX.of_below hb g none); have BX := ae.mk hbox; have GB := ae.mk (show w.heap.size ≤ gb by rw [hg]; exact Nat.le_refl _); have GW := ae.mk (show w0.heap.size ≤ gb by rw [hg]; exact HB.out.size); have GN := ae.mk (show gb ≠ g by rw [hg]; exact HI0.out.fresh _ (Nat.le_refl _)); clear hbox hb hg))
 obtain ⟨ASz, cSz, HGz, hgz, HSz⟩ := HI1.out
 have hcz0 := jq HGz
 have hcz1 := jo HGz
 have hcz2 := jm HGz
 clear HGz hgz
 have hcb0 : w1.cell? ⟨gb, 0, none⟩ = some (.int .i64 0) := (ah BX.out 0).trans rfl
 have hcb1 : w1.cell? ⟨gb, 1, none⟩ = some (.string (⟨#[]⟩ : ByteArray)) := (ah BX.out 1).trans rfl
 have hcb2 : w1.cell? ⟨gb, 2, none⟩ = some (.int .i64 0) := (ah BX.out 2).trans rfl
 have hcb3 : w1.cell? ⟨gb, 3, none⟩ = some (.int .i64 0) := (ah BX.out 3).trans rfl
 have hfb0 := af BX.out 0
 have hfb1 := af BX.out 1
 have hfb2 := af BX.out 2
 have hfb3 := af BX.out 3
 have h := HQ.out
 clear HQ
 by_cases c1 : s0_2 = true
 ·rw [if_pos c1] at h
  subst c1
  cases h
  go_quiet (fail)
  go_wp2
  refine bodyPost_ret (rM rfl _ _ gb 56 #[.int .i64 0, .string (⟨#[]⟩ : ByteArray), .int .i64 0, .int .i64 0] (0, 0) _ rfl (by (with_reducible repeat (first | refine ng ?_ _ | refine oK ?_)); refine dE (cs := #[.int .i64 0, .string (⟨#[]⟩ : ByteArray), .int .i64 0, .int .i64 0]) ?_ 3 _ rfl; refine dE (cs := #[.int .i64 0, .string (⟨#[]⟩ : ByteArray), .int .i64 0, .int .i64 0]) ?_ 2 _ rfl; refine dE (cs := #[.int .i64 0, .string (⟨#[]⟩ : ByteArray), .int .i64 0, .int .i64 0]) ?_ 1 _ rfl; refine dE (cs := #[.int .i64 0, .string (⟨#[]⟩ : ByteArray), .int .i64 0, .int .i64 0]) ?_ 0 _ rfl; (with_reducible repeat (first | refine ng ?_ _ | refine oK ?_)); exact BX.out) Try.underlying56 rfl (by kernel_rfl)) rfl ?_
  exact ⟨rfl, Z17, Z18, Z19⟩
 have c1' : s0_2 = false := Bool.eq_false_iff.2 c1
 rw [if_neg c1] at h
 subst c1'
 clear c1
 by_cases c2 : s0_1 ≥ (s0_0.length : Int)
 ·rw [if_pos c2] at h
  cases h
  have c2b : decide ((s0_0.length : Int) ≤ s0_1) = true := decide_eq_true c2
  go_quiet (fail)
  go_wp2
  refine bodyPost_ret (rM rfl _ _ gb 56 #[.int .i64 0, .string (⟨#[]⟩ : ByteArray), .int .i64 0, .int .i64 0] (0, 0) _ rfl (by (with_reducible repeat (first | refine ng ?_ _ | refine oK ?_)); refine dE (cs := #[.int .i64 0, .string (⟨#[]⟩ : ByteArray), .int .i64 0, .int .i64 0]) ?_ 3 _ rfl; refine dE (cs := #[.int .i64 0, .string (⟨#[]⟩ : ByteArray), .int .i64 0, .int .i64 0]) ?_ 2 _ rfl; refine dE (cs := #[.int .i64 0, .string (⟨#[]⟩ : ByteArray), .int .i64 0, .int .i64 0]) ?_ 1 _ rfl; refine dE (cs := #[.int .i64 0, .string (⟨#[]⟩ : ByteArray), .int .i64 0, .int .i64 0]) ?_ 0 _ rfl; (with_reducible repeat (first | refine ng ?_ _ | refine oK ?_)); exact BX.out) Try.underlying56 rfl (by kernel_rfl)) rfl ?_
  exact ⟨rfl, Z17, Z18, Z19⟩
 rw [if_neg c2] at h
 have c2b : decide ((s0_0.length : Int) ≤ s0_1) = false := decide_eq_false c2
 by_cases c3 : 0 ≤ s0_1
 ·rw [if_pos c3] at h
  cases h
  obtain ⟨ad, ead, hx0, hx1, hx2, hx3⟩ := eU HSz s0_1 c3 (by omega)
  cases ead
  replace hx0 := aV HB1.out hx0
  replace hx1 := aV HB1.out hx1
  replace hx2 := aV HB1.out hx2
  replace hx3 := aV HB1.out hx3
  have p3 := eq_true c3
  have q3 := eq_true (show s0_1 < (s0_0.length : Int) by omega)
  clear c2 c3
  go_quiet (fail)
  go_wp2
  go_region
  go_wp2
  refine bodyPost_ret (rM rfl _ _ gb 56 #[.int .i64 (dD s0_0 s0_1).f0, .string (dD s0_0 s0_1).f1, .int .i64 (dD s0_0 s0_1).f2, .int .i64 (dD s0_0 s0_1).f3] (0, 0) _ rfl (by (with_reducible repeat (first | refine ng ?_ _ | refine oK ?_)); refine dE (cs := #[.int .i64 (dD s0_0 s0_1).f0, .string (dD s0_0 s0_1).f1, .int .i64 (dD s0_0 s0_1).f2, .int .i64 0]) ?_ 3 _ rfl; refine dE (cs := #[.int .i64 (dD s0_0 s0_1).f0, .string (dD s0_0 s0_1).f1, .int .i64 0, .int .i64 0]) ?_ 2 _ rfl; refine dE (cs := #[.int .i64 (dD s0_0 s0_1).f0, .string (⟨#[]⟩ : ByteArray), .int .i64 0, .int .i64 0]) ?_ 1 _ rfl; refine dE (cs := #[.int .i64 0, .string (⟨#[]⟩ : ByteArray), .int .i64 0, .int .i64 0]) ?_ 0 _ rfl; (with_reducible repeat (first | refine ng ?_ _ | refine oK ?_)); exact BX.out) Try.underlying56 rfl (by kernel_rfl)) rfl ?_
  exact ⟨rfl, Z17, Z18, Z19⟩
 rw [if_neg c3] at h
 cases h
end Go.Proofs.Ytlenihbmafkegaa.Q
end
section
namespace Go.Proofs.Ytlenihbmafkegaa.Q
open Go.RowKit Go.Proofs.YtlenihbmafkegaaW.PrintWords Go.Proofs.YtlenihbmafkegaaW.PrintLast Go.Proofs.YtlenihbmafkegaaW.PrintMore
attribute [local go_sem] jH jG jF jE dC dA dP dO cZ cO dB dw
set_option linter.unusedVariables false
set_option linter.unusedSimpArgs false
/-! ### dI: function 12 -/
def dI.l0 : Nat → ByteArray → List (S56) → ByteArray → Option ((List (S56)) × Int × Int)
 | 0, _, _, _ => none
 | k + 1, x0, x5, x6 => if x6.toList = ([] : List UInt8) then (some (x5, 0, 0)) else ((iH.f k x6).bind fun bt241 => (if bt241.2.2.2.2.2 = 0 then (if x5.length < 3518437208883 then (if 0 ≤ bt241.2.2.2.2.1 then (if bt241.2.2.2.2.1 ≤ (x6.size : Int) then ((mO.f (x6.extract (bt241.2.2.2.2.1 : Int).toNat x6.size)).bind fun t251 => (dI.l0 k x0 (x5 ++ [(⟨bt241.1, bt241.2.1, bt241.2.2.1, wrap64 ((x0.size : Int) - (x6.size : Int))⟩ : S56)]) t251)) else (none)) else (none)) else (none)) else (some (([] : List (S56)), bt241.2.2.2.2.2, wrap64 ((x0.size : Int) - (x6.size : Int))))))
def dI.f (k : Nat) (a0 : ByteArray) : Option ((List (S56)) × Int × Int) := if (a0.size : Int) > 8192 then (some (([] : List (S56)), 3, 0)) else ((mO.f a0).bind fun t240 => (dI.l0 k a0 ([] : List (S56)) t240))
theorem dI.cu : ∀ k, (∀ y0 y1 y2, LeO (dI.l0 k y0 y1 y2) (dI.l0 (k + 1) y0 y1 y2))
 | 0 => fun _ _ _ r h => by simp [dI.l0] at h
 | k + 1 => by
  have ih0 := dI.cu k
  intro y0 y1 y2
  unfold dI.l0
  have m0 := iH.mono
  exact yL
theorem dI.mono : ∀ a0 k, LeO (dI.f k a0) (dI.f (k + 1) a0) := by
 intro a0 k
 have ih0 := dI.cu k
 unfold dI.f
 have m0 := iH.mono
 exact yL
set_option maxHeartbeats 8000000 in
set_option maxRecDepth 100000 in
theorem dI.calls (k : Nat) (a0 : ByteArray) (r1 : List (S56)) (r2 : Int) (r3 : Int) (w : World) (h : dI.f k a0 = some (r1, r2, r3)) :
 Calls Try.prog 12 #[.string a0] w fun e w' => ∃ v0_ : Value, e = .returned (.tuple #[v0_, .int .i64 r2, .int .i64 r3]) ∧ Kd.R k56 56 w' w.heap.size (fun _ => True) v0_ r1 ∧ Below w.heap.size w w' := by
 have hu56 := Try.underlying56
 have HB := ae.mk (Below.refl w.heap.size w)
 have H := h
 clear h
 unfold dI.f at H
 revert H
 refine gZ (fun c2 H => ?_) fun c2 H => ?_
 ·have c2b0 : decide (8192 < (a0.size : Int)) = true := decide_eq_true c2
  have c2b1 : decide (8192 < a0.size) = true := decide_eq_true (by omega)
  clear c2
  simp only [Option.some.injEq, Prod.mk.injEq] at H
  obtain ⟨rfl, rfl, rfl⟩ := H
  go_enter Try.func12, Try.ntmps12
  go_wp2
  go_ret3
  exact ⟨_, eT, Z5, bT HB⟩
 have c2b0 : decide (8192 < (a0.size : Int)) = false := decide_eq_false c2
 have c2b1 : decide (8192 < a0.size) = false := decide_eq_false (by omega)
 clear c2
 revert H
 refine yB1 fun t240 A3 H => ?_
 have H' := ae.mk H
 clear H
 go_enter Try.func12, Try.ntmps12
 go_wp2_with (first | ((with_reducible refine gC 23 rfl ?_); refine gM 23 15 rfl Try.func23 (mO.calls a0 t240 _ A3.out) ?_; rintro _ w4 ⟨rfl, hb⟩; refine ⟨_, rfl, yA1 (aj (bT HB) hb) ?_⟩; clear HB hb; intro HB))
 (try simp only [Act.put, List.setIfInBounds_toArray, List.set_cons_zero, List.set_cons_succ])
 go_loopg [5, 6] k (fun kq v5 v6 w' => ∃ (x5_1 : List (S56)) (x6_1 : ByteArray), v6 = .string x6_1 ∧ ae (dI.l0 kq a0 x5_1 x6_1 = some (r1, r2, r3)) ∧ ae (kq ≤ k) ∧ ae (Kd.R k56 56 w' w.heap.size (fun _ => True) v5 x5_1) ∧ ae (Below w.heap.size w w'))
 case atStart => exact ⟨(([] : List (S56))), (t240), fT, H', ⟨Nat.le_refl _⟩, ⟨Z5⟩, ⟨bT HB⟩⟩
 case round =>
  clear H'
  try clear c1
  try clear c2
  try clear c2b0
  try clear c2b1
  try clear p2
  obtain ⟨x5_1, x6_1, rfl, HA, HK1, HO_5, HB⟩ := hrel
  cases gk with
  | zero => exact absurd HA.out (by simp [dI.l0])
  | succ k1 =>
   have H := HA.out
   clear HA
   simp only [dI.l0] at H
   revert H
   refine bn (fun c5b0 c5b1 H => ?_) fun c5 c5b0 c5b1 H => ?_
   ·simp only [Option.some.injEq, Prod.mk.injEq] at H
    obtain ⟨rfl, rfl, rfl⟩ := H
    go_wp2
    go_ret3
    exact ⟨_, eT, qR HO_5, bT HB⟩
   revert H
   refine yB6 fun t241 t242 t243 t244 t245 t246 A6 H => ?_
   try dsimp only at H
   revert H
   refine bn (fun c7b0 c7b1 H => ?_) fun c7 c7b0 c7b1 H => ?_
   ·revert H
    refine gZ (fun c8 H => ?_) fun c8 H => ?_
    ·have LMc8 := ae.mk c8
     clear c8
     obtain ⟨y248, hy248⟩ : ∃ y_ : List (S56), y_ = (x5_1 ++ [(⟨t241, t242, t243, wrap64 ((a0.size : Int) - (x6_1.size : Int))⟩ : S56)]) := ⟨_, rfl⟩
     replace H : (if 0 ≤ t245 then (if t245 ≤ (x6_1.size : Int) then ((mO.f (x6_1.extract (t245 : Int).toNat x6_1.size)).bind fun t251 => (dI.l0 k1 a0 y248 t251)) else (none)) else (none)) = some (r1, r2, r3) := by first | (rw [hy248]; with_reducible exact H) | (have H2_ := (Option.bind_some _ _).symm.trans H; rw [hy248]; with_reducible exact H2_) | (have H2_ := (Option.bind_some _ _).symm.trans H; with_reducible exact H2_) | with_reducible exact H | (rw [hy248]; exact H) | exact H
     have Ny248 := ae.mk hy248
     clear hy248
     revert H
     refine jL (fun c9b0 c9b1 H => ?_) fun c9 H => ?_
     ·revert H
      refine jL (fun c10b0 c10b1 H => ?_) fun c10 H => ?_
      ·revert H
       refine yB1 fun t251 A11 H => ?_
       have H' := ae.mk H
       clear H
       go_wp2_with (first | ((with_reducible refine gC 24 rfl ?_); refine gM 24 25 rfl Try.func24 (iH.calls k1 x6_1 t241 t242 t243 t244 t245 t246 _ A6.out) ?_; rintro _ w12 ⟨rfl, hb⟩; refine ⟨_, rfl, yA2 (Kd.aQ (qR HO_5) hb) (aj (bT HB) hb) ?_⟩; clear HO_5 HB hb; intro HO_5 HB) | ((with_reducible refine bI (N := 8) rfl ?_); refine dW ?hg (N := 8) ?hd (cs := #[.int .i64 0, .string (⟨#[]⟩ : ByteArray), .int .i64 0, .int .i64 0]) (t := 56) ?hr ?_; (case hd => rfl); (case hg => rfl); (case hr => first | (go_simp; done) | (go_simp; rfl)); intro gb247 hg w13 hbox hb; refine yA5 (Kd.aQ (Kd.Bf (qR HO_5) gb247 (Nat.le_of_eq hg.symm)) hb) (aj (bT HB) hb) (hbox) ((by rw [hg]; exact (aG (bT HB)) : w.heap.size ≤ gb247)) ((by rw [hg]; exact (aG (bT HB)) : w.heap.size ≤ gb247)) ?_; clear HO_5 HB; intro HO_5 HB BK247 GW247 GE247; clear hb hbox hg; have hcz14_0 : w13.cell? ⟨gb247, 0, none⟩ = some (.int .i64 0) := (ah BK247.out 0).trans rfl; have hcz14_1 : w13.cell? ⟨gb247, 1, none⟩ = some (.string (⟨#[]⟩ : ByteArray)) := (ah BK247.out 1).trans rfl; have hcz14_2 : w13.cell? ⟨gb247, 2, none⟩ = some (.int .i64 0) := (ah BK247.out 2).trans rfl; have hcz14_3 : w13.cell? ⟨gb247, 3, none⟩ = some (.int .i64 0) := (ah BK247.out 3).trans rfl; have hfz14_0 := af BK247.out 0; have hfz14_1 := af BK247.out 1; have hfz14_2 := af BK247.out 2; have hfz14_3 := af BK247.out 3; have hdd14 := xY hcz14_3) | ((with_reducible refine dR (b := .append) (xs := #[.tmp 35, .tmp 37]) rfl ?_); at_builtin; refine Kd.lZ k56 (w0 := w) w.heap.size rfl (.tmp 35) (.tmp 37) 33 56 (.agg #[(.int .i64 0), (.string ⟨#[]⟩), (.int .i64 0), (.int .i64 0)]) 40 rfl Try.underlying33 yN rfl (by decide) (by omega) u5 x5_1 (⟨t241, t242, t243, wrap64 ((a0.size : Int) - (x6_1.size : Int))⟩ : S56) [.int .i64 t241, .string t242, .int .i64 t243, .int .i64 (wrap64 ((a0.size : Int) - (x6_1.size : Int)))] (fun k_ => k_ ≠ gb247) (fun _ => False) rfl (by first | (go_simp; done) | (go_simp; rfl)) ?aP (fun _ hk => hk.elim) ?aF ?aO ?aB ?aS ?aL ?_; (case aP => exact yJ _ _ _ (⟨t241, t242, t243, wrap64 ((a0.size : Int) - (x6_1.size : Int))⟩ : S56)); (case aB => exact (bT HB)); (case aF => exact (fun k_ hk => Kd.CE (g := gb247) (o := .cells #[.int .i64 t241, .string t242, .int .i64 t243, .int .i64 (wrap64 ((a0.size : Int) - (x6_1.size : Int)))] 56 (0, 0)) (by refine dE (cs := #[.int .i64 t241, .string t242, .int .i64 t243, .int .i64 t244]) ?_ 3 _ rfl; refine dE (cs := #[.int .i64 t241, .string t242, .int .i64 t243, .int .i64 0]) ?_ 3 _ rfl; refine dE (cs := #[.int .i64 t241, .string t242, .int .i64 0, .int .i64 0]) ?_ 2 _ rfl; refine dE (cs := #[.int .i64 t241, .string (⟨#[]⟩ : ByteArray), .int .i64 0, .int .i64 0]) ?_ 1 _ rfl; refine dE (cs := #[.int .i64 0, .string (⟨#[]⟩ : ByteArray), .int .i64 0, .int .i64 0]) ?_ 0 _ rfl; exact BK247.out) k_ hk)); (case aO => exact (by (with_reducible repeat (first | apply Kd.jQ | apply Kd.kw | apply Kd.lM)); exact Kd.fK (Kd.qG (p := ⟨gb247, 3, none⟩) (Kd.qG (p := ⟨gb247, 3, none⟩) (Kd.qG (p := ⟨gb247, 2, none⟩) (Kd.qG (p := ⟨gb247, 1, none⟩) (Kd.qG (p := ⟨gb247, 0, none⟩) (Kd.fK HO_5.out (fun k_ hk => (⟨hk, hk.2⟩ : _ ∧ k_ ≠ gb247))) (fun _ hk => hk.2) (.int .i64 t241)) (fun _ hk => hk.2) (.string t242)) (fun _ hk => hk.2) (.int .i64 t243)) (fun _ hk => hk.2) (.int .i64 t244)) (fun _ hk => hk.2) (.int .i64 (wrap64 ((a0.size : Int) - (x6_1.size : Int))))) (fun _ hk => hk.1.2))); (case aS => exact (aG (bT HB))); (case aL => have := LMc8.out; omega); intro v249 w15 ho hb hg hat; rw [← Ny248.out] at ho; refine yA3 (kV (g := gb247) (o := .cells #[.int .i64 t241, .string t242, .int .i64 t243, .int .i64 (wrap64 ((a0.size : Int) - (x6_1.size : Int)))] 56 (0, 0)) (by refine dE (cs := #[.int .i64 t241, .string t242, .int .i64 t243, .int .i64 t244]) ?_ 3 _ rfl; refine dE (cs := #[.int .i64 t241, .string t242, .int .i64 t243, .int .i64 0]) ?_ 3 _ rfl; refine dE (cs := #[.int .i64 t241, .string t242, .int .i64 0, .int .i64 0]) ?_ 2 _ rfl; refine dE (cs := #[.int .i64 t241, .string (⟨#[]⟩ : ByteArray), .int .i64 0, .int .i64 0]) ?_ 1 _ rfl; refine dE (cs := #[.int .i64 0, .string (⟨#[]⟩ : ByteArray), .int .i64 0, .int .i64 0]) ?_ 0 _ rfl; exact BK247.out) hg (Kd.Iq HO_5.out (fun _ hk => hk.2))) (hb) (ho) ?_; clear BK247 HB HO_5; intro BK247 HB HO250; clear ho hb hg hat) | ((with_reducible refine gC 23 rfl ?_); refine gM 23 42 rfl Try.func23 (mO.calls (x6_1.extract (t245 : Int).toNat x6_1.size) t251 _ A11.out) ?_; rintro _ w16 ⟨rfl, hb⟩; refine ⟨_, rfl, yA3 (Kd.aQ (qR HO250) hb) (eH (g := gb247) (o := .cells #[.int .i64 t241, .string t242, .int .i64 t243, .int .i64 (wrap64 ((a0.size : Int) - (x6_1.size : Int)))] 56 (0, 0)) (by exact BK247.out) hb) (aj (bT HB) hb) ?_⟩; clear HO250 BK247 HB hb; intro HO250 BK247 HB))
       go_roundg k1
       case measure => have := HK1.out; omega
       case rel => exact ⟨(y248), (t251), fT, H', ⟨by have := HK1.out; omega⟩, ⟨by (with_reducible repeat (first | apply Kd.jQ | apply Kd.kw | apply Kd.lM)); exact Kd.fK HO250.out (fun _ hk => trivial)⟩, ⟨bT HB⟩⟩
      exact absurd H (by simp)
     exact absurd H (by simp)
    exact absurd H (by simp)
   simp only [Option.some.injEq, Prod.mk.injEq] at H
   obtain ⟨rfl, rfl, rfl⟩ := H
   go_wp2_with (first | ((with_reducible refine gC 24 rfl ?_); refine gM 24 25 rfl Try.func24 (iH.calls k1 x6_1 t241 t242 t243 t244 t245 t246 _ A6.out) ?_; rintro _ w17 ⟨rfl, hb⟩; refine ⟨_, rfl, yA2 (Kd.aQ (qR HO_5) hb) (aj (bT HB) hb) ?_⟩; clear HO_5 HB hb; intro HO_5 HB) | ((with_reducible refine bI (N := 8) rfl ?_); refine dW ?hg (N := 8) ?hd (cs := #[.int .i64 0, .string (⟨#[]⟩ : ByteArray), .int .i64 0, .int .i64 0]) (t := 56) ?hr ?_; (case hd => rfl); (case hg => rfl); (case hr => first | (go_simp; done) | (go_simp; rfl)); intro gb247 hg w18 hbox hb; refine yA5 (Kd.aQ (Kd.Bf (qR HO_5) gb247 (Nat.le_of_eq hg.symm)) hb) (aj (bT HB) hb) (hbox) ((by rw [hg]; exact (aG (bT HB)) : w.heap.size ≤ gb247)) ((by rw [hg]; exact (aG (bT HB)) : w.heap.size ≤ gb247)) ?_; clear HO_5 HB; intro HO_5 HB BK247 GW247 GE247; clear hb hbox hg; have hcz19_0 : w18.cell? ⟨gb247, 0, none⟩ = some (.int .i64 0) := (ah BK247.out 0).trans rfl; have hcz19_1 : w18.cell? ⟨gb247, 1, none⟩ = some (.string (⟨#[]⟩ : ByteArray)) := (ah BK247.out 1).trans rfl; have hcz19_2 : w18.cell? ⟨gb247, 2, none⟩ = some (.int .i64 0) := (ah BK247.out 2).trans rfl; have hcz19_3 : w18.cell? ⟨gb247, 3, none⟩ = some (.int .i64 0) := (ah BK247.out 3).trans rfl; have hfz19_0 := af BK247.out 0; have hfz19_1 := af BK247.out 1; have hfz19_2 := af BK247.out 2; have hfz19_3 := af BK247.out 3; have hdd19 := xY hcz19_3))
   go_ret3
   exact ⟨_, eT, Z5, bT HB⟩
-- BY HAND: function 21 (parse_Tree)
-- BY HAND: function 74 (parse_reader_next)
/-! ### bC: function 75 -/
def bC.f (s0_0 : List (S56)) (s0_1 : Int) (s0_2 : Bool) : Option (ByteArray × Int × Bool) := (jB.f s0_0 s0_1 s0_2).bind fun bt252 => (if bt252.2.2.2.2.1 = true then (if bt252.1 = 5 then (some (bt252.2.1, bt252.2.2.2.2.2.1, bt252.2.2.2.2.2.2)) else (if bt252.1 = 4 then (some (bt252.2.1, bt252.2.2.2.2.2.1, bt252.2.2.2.2.2.2)) else (some ((⟨#[]⟩ : ByteArray), bt252.2.2.2.2.2.1, bt252.2.2.2.2.2.2)))) else (some ((⟨#[]⟩ : ByteArray), bt252.2.2.2.2.2.1, bt252.2.2.2.2.2.2)))
set_option maxHeartbeats 8000000 in
set_option maxRecDepth 100000 in
theorem bC.calls (g : Nat) (s0_0 : List (S56)) (s0_1 : Int) (s0_2 : Bool) (r1 : ByteArray) (r2 : Int) (r3 : Bool) (w0 w : World) (hI : bf w0 w g s0_0 s0_1 s0_2) (hB : Below w0.heap.size w0 w) (h : bC.f s0_0 s0_1 s0_2 = some (r1, r2, r3)) :
 Calls Try.prog 75 #[.pointer (some ⟨g, 0, none⟩)] w fun e w' => e = .returned (.string r1) ∧ bf w0 w' g s0_0 r2 r3 ∧ Below w0.heap.size w0 w' ∧ aX w w' g none := by
 have hu56 := Try.underlying56
 have HI0 := ae.mk hI
 have HK := ae.mk (aX.refl w g none)
 have HL := ae.mk hB.size
 clear hI
 have HW0 := ae.mk hB.size
 have HB := ae.mk hB
 clear hB
 have H := h
 clear h
 unfold bC.f at H
 revert H
 refine yB7 fun t252 t253 t254 t255 t256 t257 t258 A2 H => ?_
 try dsimp only at H
 cases t256
 rotate_left
 ·replace H := yT H
  revert H
  refine bn (fun c4b0 c4b1 H => ?_) fun c4 c4b0 c4b1 H => ?_
  ·simp only [Option.some.injEq, Prod.mk.injEq] at H
   obtain ⟨rfl, rfl, rfl⟩ := H
   go_enter Try.func75, Try.ntmps75
   go_wp2_with (first | ((with_reducible refine gC 74 rfl ?_); refine gM 74 7 rfl Try.func74 (jB.calls g s0_0 s0_1 s0_2 t252 t253 t254 t255 true t257 t258 w0 _ (iT HI0) (bT HB) A2.out) ?_; rintro _ w5 ⟨rfl, hi, hb, hk⟩; refine ⟨_, rfl, yA3 (aX.trans (kT HK) hk (.inl rfl)) (hb) (hi) ?_⟩; clear HK HB HI0 hb; intro HK HB HI0) | ((with_reducible refine bI (N := 3) rfl ?_); refine dW ?hg (N := 3) ?hd (cs := #[.int .i64 0, .string (⟨#[]⟩ : ByteArray), .int .i64 0, .int .i64 0]) (t := 56) ?hr ?_; (case hd => rfl); (case hg => rfl); (case hr => first | (go_simp; done) | (go_simp; rfl)); intro gb259 hg w6 hbox hb; refine yA8 (bf.below (iT HI0) hb) (aX.trans (kT HK) (aX.of_below hb g none) (.inl rfl)) (aj (bT HB) hb) (hbox) ((by rw [hg]; exact (dK (w := w) (g := g) (row := none) (kT HK)) : w.heap.size ≤ gb259)) ((Nat.le_trans HW0.out (by rw [hg]; exact (dK (w := w) (g := g) (row := none) (kT HK)) : w.heap.size ≤ gb259) : w0.heap.size ≤ gb259)) ((by rw [hg]; exact Nat.ne_of_lt (bf.lt (show bf w0 _ g s0_0 t257 t258 from iT HI0)) : g ≠ gb259)) ((by rw [hg]; exact Nat.ne_of_gt (bf.lt (show bf w0 _ g s0_0 t257 t258 from iT HI0)) : gb259 ≠ g)) ?_; clear HI0 HK HB; intro HI0 HK HB BK259 GW259 GE259 NB0_259 NB259_0; clear hb hbox hg; have hnb7 := NB259_0.out; have hnc7 := NB0_259.out; have hcz8_0 : w6.cell? ⟨gb259, 0, none⟩ = some (.int .i64 0) := (ah BK259.out 0).trans rfl; have hcz8_1 : w6.cell? ⟨gb259, 1, none⟩ = some (.string (⟨#[]⟩ : ByteArray)) := (ah BK259.out 1).trans rfl; have hcz8_2 : w6.cell? ⟨gb259, 2, none⟩ = some (.int .i64 0) := (ah BK259.out 2).trans rfl; have hcz8_3 : w6.cell? ⟨gb259, 3, none⟩ = some (.int .i64 0) := (ah BK259.out 3).trans rfl; have hfz8_0 := af BK259.out 0; have hfz8_1 := af BK259.out 1; have hfz8_2 := af BK259.out 2; have hfz8_3 := af BK259.out 3))
   go_ret
   exact ⟨eT, iT HI0, bT HB, kT HK⟩
  revert H
  refine bn (fun c9b0 c9b1 H => ?_) fun c9 c9b0 c9b1 H => ?_
  ·simp only [Option.some.injEq, Prod.mk.injEq] at H
   obtain ⟨rfl, rfl, rfl⟩ := H
   go_enter Try.func75, Try.ntmps75
   go_wp2_with (first | ((with_reducible refine gC 74 rfl ?_); refine gM 74 7 rfl Try.func74 (jB.calls g s0_0 s0_1 s0_2 t252 t253 t254 t255 true t257 t258 w0 _ (iT HI0) (bT HB) A2.out) ?_; rintro _ w10 ⟨rfl, hi, hb, hk⟩; refine ⟨_, rfl, yA3 (aX.trans (kT HK) hk (.inl rfl)) (hb) (hi) ?_⟩; clear HK HB HI0 hb; intro HK HB HI0) | ((with_reducible refine bI (N := 3) rfl ?_); refine dW ?hg (N := 3) ?hd (cs := #[.int .i64 0, .string (⟨#[]⟩ : ByteArray), .int .i64 0, .int .i64 0]) (t := 56) ?hr ?_; (case hd => rfl); (case hg => rfl); (case hr => first | (go_simp; done) | (go_simp; rfl)); intro gb259 hg w11 hbox hb; refine yA8 (bf.below (iT HI0) hb) (aX.trans (kT HK) (aX.of_below hb g none) (.inl rfl)) (aj (bT HB) hb) (hbox) ((by rw [hg]; exact (dK (w := w) (g := g) (row := none) (kT HK)) : w.heap.size ≤ gb259)) ((Nat.le_trans HW0.out (by rw [hg]; exact (dK (w := w) (g := g) (row := none) (kT HK)) : w.heap.size ≤ gb259) : w0.heap.size ≤ gb259)) ((by rw [hg]; exact Nat.ne_of_lt (bf.lt (show bf w0 _ g s0_0 t257 t258 from iT HI0)) : g ≠ gb259)) ((by rw [hg]; exact Nat.ne_of_gt (bf.lt (show bf w0 _ g s0_0 t257 t258 from iT HI0)) : gb259 ≠ g)) ?_; clear HI0 HK HB; intro HI0 HK HB BK259 GW259 GE259 NB0_259 NB259_0; clear hb hbox hg; have hnb12 := NB259_0.out; have hnc12 := NB0_259.out; have hcz13_0 : w11.cell? ⟨gb259, 0, none⟩ = some (.int .i64 0) := (ah BK259.out 0).trans rfl; have hcz13_1 : w11.cell? ⟨gb259, 1, none⟩ = some (.string (⟨#[]⟩ : ByteArray)) := (ah BK259.out 1).trans rfl; have hcz13_2 : w11.cell? ⟨gb259, 2, none⟩ = some (.int .i64 0) := (ah BK259.out 2).trans rfl; have hcz13_3 : w11.cell? ⟨gb259, 3, none⟩ = some (.int .i64 0) := (ah BK259.out 3).trans rfl; have hfz13_0 := af BK259.out 0; have hfz13_1 := af BK259.out 1; have hfz13_2 := af BK259.out 2; have hfz13_3 := af BK259.out 3))
   go_ret
   exact ⟨eT, iT HI0, bT HB, kT HK⟩
  simp only [Option.some.injEq, Prod.mk.injEq] at H
  obtain ⟨rfl, rfl, rfl⟩ := H
  go_enter Try.func75, Try.ntmps75
  go_wp2_with (first | ((with_reducible refine gC 74 rfl ?_); refine gM 74 7 rfl Try.func74 (jB.calls g s0_0 s0_1 s0_2 t252 t253 t254 t255 true t257 t258 w0 _ (iT HI0) (bT HB) A2.out) ?_; rintro _ w14 ⟨rfl, hi, hb, hk⟩; refine ⟨_, rfl, yA3 (aX.trans (kT HK) hk (.inl rfl)) (hb) (hi) ?_⟩; clear HK HB HI0 hb; intro HK HB HI0) | ((with_reducible refine bI (N := 3) rfl ?_); refine dW ?hg (N := 3) ?hd (cs := #[.int .i64 0, .string (⟨#[]⟩ : ByteArray), .int .i64 0, .int .i64 0]) (t := 56) ?hr ?_; (case hd => rfl); (case hg => rfl); (case hr => first | (go_simp; done) | (go_simp; rfl)); intro gb259 hg w15 hbox hb; refine yA8 (bf.below (iT HI0) hb) (aX.trans (kT HK) (aX.of_below hb g none) (.inl rfl)) (aj (bT HB) hb) (hbox) ((by rw [hg]; exact (dK (w := w) (g := g) (row := none) (kT HK)) : w.heap.size ≤ gb259)) ((Nat.le_trans HW0.out (by rw [hg]; exact (dK (w := w) (g := g) (row := none) (kT HK)) : w.heap.size ≤ gb259) : w0.heap.size ≤ gb259)) ((by rw [hg]; exact Nat.ne_of_lt (bf.lt (show bf w0 _ g s0_0 t257 t258 from iT HI0)) : g ≠ gb259)) ((by rw [hg]; exact Nat.ne_of_gt (bf.lt (show bf w0 _ g s0_0 t257 t258 from iT HI0)) : gb259 ≠ g)) ?_; clear HI0 HK HB; intro HI0 HK HB BK259 GW259 GE259 NB0_259 NB259_0; clear hb hbox hg; have hnb16 := NB259_0.out; have hnc16 := NB0_259.out; have hcz17_0 : w15.cell? ⟨gb259, 0, none⟩ = some (.int .i64 0) := (ah BK259.out 0).trans rfl; have hcz17_1 : w15.cell? ⟨gb259, 1, none⟩ = some (.string (⟨#[]⟩ : ByteArray)) := (ah BK259.out 1).trans rfl; have hcz17_2 : w15.cell? ⟨gb259, 2, none⟩ = some (.int .i64 0) := (ah BK259.out 2).trans rfl; have hcz17_3 : w15.cell? ⟨gb259, 3, none⟩ = some (.int .i64 0) := (ah BK259.out 3).trans rfl; have hfz17_0 := af BK259.out 0; have hfz17_1 := af BK259.out 1; have hfz17_2 := af BK259.out 2; have hfz17_3 := af BK259.out 3))
  go_ret
  exact ⟨eT, iT HI0, bT HB, kT HK⟩
 replace H := yF H
 simp only [Option.some.injEq, Prod.mk.injEq] at H
 obtain ⟨rfl, rfl, rfl⟩ := H
 go_enter Try.func75, Try.ntmps75
 go_wp2_with (first | ((with_reducible refine gC 74 rfl ?_); refine gM 74 7 rfl Try.func74 (jB.calls g s0_0 s0_1 s0_2 t252 t253 t254 t255 false t257 t258 w0 _ (iT HI0) (bT HB) A2.out) ?_; rintro _ w18 ⟨rfl, hi, hb, hk⟩; refine ⟨_, rfl, yA3 (aX.trans (kT HK) hk (.inl rfl)) (hb) (hi) ?_⟩; clear HK HB HI0 hb; intro HK HB HI0) | ((with_reducible refine bI (N := 3) rfl ?_); refine dW ?hg (N := 3) ?hd (cs := #[.int .i64 0, .string (⟨#[]⟩ : ByteArray), .int .i64 0, .int .i64 0]) (t := 56) ?hr ?_; (case hd => rfl); (case hg => rfl); (case hr => first | (go_simp; done) | (go_simp; rfl)); intro gb259 hg w19 hbox hb; refine yA8 (bf.below (iT HI0) hb) (aX.trans (kT HK) (aX.of_below hb g none) (.inl rfl)) (aj (bT HB) hb) (hbox) ((by rw [hg]; exact (dK (w := w) (g := g) (row := none) (kT HK)) : w.heap.size ≤ gb259)) ((Nat.le_trans HW0.out (by rw [hg]; exact (dK (w := w) (g := g) (row := none) (kT HK)) : w.heap.size ≤ gb259) : w0.heap.size ≤ gb259)) ((by rw [hg]; exact Nat.ne_of_lt (bf.lt (show bf w0 _ g s0_0 t257 t258 from iT HI0)) : g ≠ gb259)) ((by rw [hg]; exact Nat.ne_of_gt (bf.lt (show bf w0 _ g s0_0 t257 t258 from iT HI0)) : gb259 ≠ g)) ?_; clear HI0 HK HB; intro HI0 HK HB BK259 GW259 GE259 NB0_259 NB259_0; clear hb hbox hg; have hnb20 := NB259_0.out; have hnc20 := NB0_259.out; have hcz21_0 : w19.cell? ⟨gb259, 0, none⟩ = some (.int .i64 0) := (ah BK259.out 0).trans rfl; have hcz21_1 : w19.cell? ⟨gb259, 1, none⟩ = some (.string (⟨#[]⟩ : ByteArray)) := (ah BK259.out 1).trans rfl; have hcz21_2 : w19.cell? ⟨gb259, 2, none⟩ = some (.int .i64 0) := (ah BK259.out 2).trans rfl; have hcz21_3 : w19.cell? ⟨gb259, 3, none⟩ = some (.int .i64 0) := (ah BK259.out 3).trans rfl; have hfz21_0 := af BK259.out 0; have hfz21_1 := af BK259.out 1; have hfz21_2 := af BK259.out 2; have hfz21_3 := af BK259.out 3))
 go_ret
 exact ⟨eT, iT HI0, bT HB, kT HK⟩
end Go.Proofs.Ytlenihbmafkegaa.Q
end
