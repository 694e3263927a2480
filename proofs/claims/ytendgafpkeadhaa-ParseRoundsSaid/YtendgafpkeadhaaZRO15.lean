/- Walks over functions of the program, words for them, and what the functions come to; of each text only what this claim uses; no condition. -/
import Derived.Test.YtendgafpkeadhaaZRO0
import Derived.Test.YtendgafpkeadhaaZRO1
import Derived.Test.YtendgafpkeadhaaZRO3
section
namespace Go.Proofs.Ytendgafpkeadhaa.Q
open Go.RowKit Go.Proofs.YtendgafpkeadhaaW.PrintWords Go.Proofs.YtendgafpkeadhaaW.PrintLast Go.Proofs.YtendgafpkeadhaaW.PrintMore
attribute [local go_sem] max2_int min2_int max_two min_two max_three min_three max_four min_four
set_option linter.unusedVariables false
set_option linter.unusedSimpArgs false
/-! ### bg: function 63 -/
def bg.l0 : Nat → ByteArray → List ByteArray → Int → Option (Bool)
 | 0, _, _, _ => none
 | k + 1, x0, x3, x4 => if x4 < (x3.length : Int) then (if 0 ≤ x4 then (if (oN ByteArray.empty x3 x4).toList = x0.toList then (some true) else (bg.l0 k x0 x3 (wrap64 (x4 + 1)))) else (none)) else (some false)
def bg.f (k : Nat) (a0 : ByteArray) : Option (Bool) := bg.l0 k a0 (([(⟨#[109, 111, 100, 117, 108, 101]⟩ : ByteArray), (⟨#[117, 115, 101]⟩ : ByteArray), (⟨#[102, 110]⟩ : ByteArray), (⟨#[108, 101, 116]⟩ : ByteArray), (⟨#[105, 102]⟩ : ByteArray), (⟨#[101, 108, 115, 101]⟩ : ByteArray), (⟨#[119, 104, 105, 108, 101]⟩ : ByteArray), (⟨#[98, 114, 101, 97, 107]⟩ : ByteArray), (⟨#[99, 111, 110, 116, 105, 110, 117, 101]⟩ : ByteArray), (⟨#[114, 101, 116, 117, 114, 110]⟩ : ByteArray), (⟨#[112, 117, 116]⟩ : ByteArray), (⟨#[101, 109, 105, 116]⟩ : ByteArray), (⟨#[121, 105, 101, 108, 100]⟩ : ByteArray), (⟨#[110, 105, 108]⟩ : ByteArray), (⟨#[115, 116, 97, 116, 101]⟩ : ByteArray), (⟨#[115, 112, 97, 119, 110]⟩ : ByteArray), (⟨#[108, 101, 110]⟩ : ByteArray), (⟨#[110, 111, 116]⟩ : ByteArray), (⟨#[97, 110, 100]⟩ : ByteArray), (⟨#[111, 114]⟩ : ByteArray)] : List ByteArray)) 0
theorem bg.mono_l : ∀ k, (∀ y0 y1 y2, LeO (bg.l0 k y0 y1 y2) (bg.l0 (k + 1) y0 y1 y2))
 | 0 => fun _ _ _ r h => by simp [bg.l0] at h
 | k + 1 => by
  have ih0 := bg.mono_l k
  intro y0 y1 y2
  unfold bg.l0
  exact yL
theorem bg.mono : ∀ a0 k, LeO (bg.f k a0) (bg.f (k + 1) a0) := by
 intro a0 k
 have ih0 := bg.mono_l k
 unfold bg.f
 exact yL
set_option maxHeartbeats 8000000 in
set_option maxRecDepth 100000 in
theorem bg.calls (k : Nat) (a0 : ByteArray) (r : Bool) (w : World) (h : bg.f k a0 = some r) :
 Calls Try.prog 63 #[.string a0] w fun e w' => e = .returned (.bool r) ∧ Below w.heap.size w w' := by
 have HB := Aside0.mk (Below.refl w.heap.size w)
 have H := h
 clear h
 unfold bg.f at H
 obtain ⟨y828, hy828⟩ : ∃ y_ : List ByteArray, y_ = (([(⟨#[109, 111, 100, 117, 108, 101]⟩ : ByteArray), (⟨#[117, 115, 101]⟩ : ByteArray), (⟨#[102, 110]⟩ : ByteArray), (⟨#[108, 101, 116]⟩ : ByteArray), (⟨#[105, 102]⟩ : ByteArray), (⟨#[101, 108, 115, 101]⟩ : ByteArray), (⟨#[119, 104, 105, 108, 101]⟩ : ByteArray), (⟨#[98, 114, 101, 97, 107]⟩ : ByteArray), (⟨#[99, 111, 110, 116, 105, 110, 117, 101]⟩ : ByteArray), (⟨#[114, 101, 116, 117, 114, 110]⟩ : ByteArray), (⟨#[112, 117, 116]⟩ : ByteArray), (⟨#[101, 109, 105, 116]⟩ : ByteArray), (⟨#[121, 105, 101, 108, 100]⟩ : ByteArray), (⟨#[110, 105, 108]⟩ : ByteArray), (⟨#[115, 116, 97, 116, 101]⟩ : ByteArray), (⟨#[115, 112, 97, 119, 110]⟩ : ByteArray), (⟨#[108, 101, 110]⟩ : ByteArray), (⟨#[110, 111, 116]⟩ : ByteArray), (⟨#[97, 110, 100]⟩ : ByteArray), (⟨#[111, 114]⟩ : ByteArray)] : List ByteArray)) := ⟨_, rfl⟩
 replace H : (bg.l0 k a0 y828 0) = some r := by first | (rw [hy828]; with_reducible exact H) | (have H2_ := (Option.bind_some _ _).symm.trans H; rw [hy828]; with_reducible exact H2_) | (have H2_ := (Option.bind_some _ _).symm.trans H; with_reducible exact H2_) | with_reducible exact H | (rw [hy828]; exact H) | exact H
 have Ny828 := Aside0.mk hy828
 clear hy828
 have H' := Aside0.mk H
 clear H
 go_enter Try.func63, Try.ntmps63
 go_wp2_with (first | ((with_reducible refine bJ (N := 5) rfl ?_); refine Kd.vU Kd.string _ 9 ?hg (N := 5) ?hd (xs := ([(⟨#[109, 111, 100, 117, 108, 101]⟩ : ByteArray), (⟨#[117, 115, 101]⟩ : ByteArray), (⟨#[102, 110]⟩ : ByteArray), (⟨#[108, 101, 116]⟩ : ByteArray), (⟨#[105, 102]⟩ : ByteArray), (⟨#[101, 108, 115, 101]⟩ : ByteArray), (⟨#[119, 104, 105, 108, 101]⟩ : ByteArray), (⟨#[98, 114, 101, 97, 107]⟩ : ByteArray), (⟨#[99, 111, 110, 116, 105, 110, 117, 101]⟩ : ByteArray), (⟨#[114, 101, 116, 117, 114, 110]⟩ : ByteArray), (⟨#[112, 117, 116]⟩ : ByteArray), (⟨#[101, 109, 105, 116]⟩ : ByteArray), (⟨#[121, 105, 101, 108, 100]⟩ : ByteArray), (⟨#[110, 105, 108]⟩ : ByteArray), (⟨#[115, 116, 97, 116, 101]⟩ : ByteArray), (⟨#[115, 112, 97, 119, 110]⟩ : ByteArray), (⟨#[108, 101, 110]⟩ : ByteArray), (⟨#[110, 111, 116]⟩ : ByteArray), (⟨#[97, 110, 100]⟩ : ByteArray), (⟨#[111, 114]⟩ : ByteArray)] : List ByteArray)) (inner := [.string (⟨#[109, 111, 100, 117, 108, 101]⟩ : ByteArray), .string (⟨#[117, 115, 101]⟩ : ByteArray), .string (⟨#[102, 110]⟩ : ByteArray), .string (⟨#[108, 101, 116]⟩ : ByteArray), .string (⟨#[105, 102]⟩ : ByteArray), .string (⟨#[101, 108, 115, 101]⟩ : ByteArray), .string (⟨#[119, 104, 105, 108, 101]⟩ : ByteArray), .string (⟨#[98, 114, 101, 97, 107]⟩ : ByteArray), .string (⟨#[99, 111, 110, 116, 105, 110, 117, 101]⟩ : ByteArray), .string (⟨#[114, 101, 116, 117, 114, 110]⟩ : ByteArray), .string (⟨#[112, 117, 116]⟩ : ByteArray), .string (⟨#[101, 109, 105, 116]⟩ : ByteArray), .string (⟨#[121, 105, 101, 108, 100]⟩ : ByteArray), .string (⟨#[110, 105, 108]⟩ : ByteArray), .string (⟨#[115, 116, 97, 116, 101]⟩ : ByteArray), .string (⟨#[115, 112, 97, 119, 110]⟩ : ByteArray), .string (⟨#[108, 101, 110]⟩ : ByteArray), .string (⟨#[110, 111, 116]⟩ : ByteArray), .string (⟨#[97, 110, 100]⟩ : ByteArray), .string (⟨#[111, 114]⟩ : ByteArray)]) (ok := fun _ => True) (okp := fun _ => True) ?hr ?hp (fun _ hk => hk) trivial (Below.refl _ _) (Nat.le_refl _) (by simp) ?_; (case hd => rfl); (case hg => rfl); (case hr => first | (go_simp; done) | (go_simp; rfl)); (case hp => exact (bT.one (show Kd.M Kd.string _ _ _ (⟨#[109, 111, 100, 117, 108, 101]⟩ : ByteArray) [.string (⟨#[109, 111, 100, 117, 108, 101]⟩ : ByteArray)] from rfl) (bT.one (show Kd.M Kd.string _ _ _ (⟨#[117, 115, 101]⟩ : ByteArray) [.string (⟨#[117, 115, 101]⟩ : ByteArray)] from rfl) (bT.one (show Kd.M Kd.string _ _ _ (⟨#[102, 110]⟩ : ByteArray) [.string (⟨#[102, 110]⟩ : ByteArray)] from rfl) (bT.one (show Kd.M Kd.string _ _ _ (⟨#[108, 101, 116]⟩ : ByteArray) [.string (⟨#[108, 101, 116]⟩ : ByteArray)] from rfl) (bT.one (show Kd.M Kd.string _ _ _ (⟨#[105, 102]⟩ : ByteArray) [.string (⟨#[105, 102]⟩ : ByteArray)] from rfl) (bT.one (show Kd.M Kd.string _ _ _ (⟨#[101, 108, 115, 101]⟩ : ByteArray) [.string (⟨#[101, 108, 115, 101]⟩ : ByteArray)] from rfl) (bT.one (show Kd.M Kd.string _ _ _ (⟨#[119, 104, 105, 108, 101]⟩ : ByteArray) [.string (⟨#[119, 104, 105, 108, 101]⟩ : ByteArray)] from rfl) (bT.one (show Kd.M Kd.string _ _ _ (⟨#[98, 114, 101, 97, 107]⟩ : ByteArray) [.string (⟨#[98, 114, 101, 97, 107]⟩ : ByteArray)] from rfl) (bT.one (show Kd.M Kd.string _ _ _ (⟨#[99, 111, 110, 116, 105, 110, 117, 101]⟩ : ByteArray) [.string (⟨#[99, 111, 110, 116, 105, 110, 117, 101]⟩ : ByteArray)] from rfl) (bT.one (show Kd.M Kd.string _ _ _ (⟨#[114, 101, 116, 117, 114, 110]⟩ : ByteArray) [.string (⟨#[114, 101, 116, 117, 114, 110]⟩ : ByteArray)] from rfl) (bT.one (show Kd.M Kd.string _ _ _ (⟨#[112, 117, 116]⟩ : ByteArray) [.string (⟨#[112, 117, 116]⟩ : ByteArray)] from rfl) (bT.one (show Kd.M Kd.string _ _ _ (⟨#[101, 109, 105, 116]⟩ : ByteArray) [.string (⟨#[101, 109, 105, 116]⟩ : ByteArray)] from rfl) (bT.one (show Kd.M Kd.string _ _ _ (⟨#[121, 105, 101, 108, 100]⟩ : ByteArray) [.string (⟨#[121, 105, 101, 108, 100]⟩ : ByteArray)] from rfl) (bT.one (show Kd.M Kd.string _ _ _ (⟨#[110, 105, 108]⟩ : ByteArray) [.string (⟨#[110, 105, 108]⟩ : ByteArray)] from rfl) (bT.one (show Kd.M Kd.string _ _ _ (⟨#[115, 116, 97, 116, 101]⟩ : ByteArray) [.string (⟨#[115, 116, 97, 116, 101]⟩ : ByteArray)] from rfl) (bT.one (show Kd.M Kd.string _ _ _ (⟨#[115, 112, 97, 119, 110]⟩ : ByteArray) [.string (⟨#[115, 112, 97, 119, 110]⟩ : ByteArray)] from rfl) (bT.one (show Kd.M Kd.string _ _ _ (⟨#[108, 101, 110]⟩ : ByteArray) [.string (⟨#[108, 101, 110]⟩ : ByteArray)] from rfl) (bT.one (show Kd.M Kd.string _ _ _ (⟨#[110, 111, 116]⟩ : ByteArray) [.string (⟨#[110, 111, 116]⟩ : ByteArray)] from rfl) (bT.one (show Kd.M Kd.string _ _ _ (⟨#[97, 110, 100]⟩ : ByteArray) [.string (⟨#[97, 110, 100]⟩ : ByteArray)] from rfl) (bT.one (show Kd.M Kd.string _ _ _ (⟨#[111, 114]⟩ : ByteArray) [.string (⟨#[111, 114]⟩ : ByteArray)] from rfl) (bT.none _ _)))))))))))))))))))))); intro v829 w2 ho3 hb hg_ hnew_; clear hg_ hnew_; (first | rw [← Ny828.out] at ho3 | (simp only [Int.reduceToNat] at ho3; rw [← Ny828.out] at ho3)); refine yA2 (Kd.R_lower ho3 (below_size Z3)) (below_step Z3 hb) ?_; clear HB; intro HO830 HB; clear hb ho3))
 go_loopg [4] k (fun kq v4 w' => ∃ (x4_1 : Int), v4 = .int .i64 x4_1 ∧ Aside0 (bg.l0 kq a0 y828 x4_1 = some r) ∧ Aside0 (kq ≤ k) ∧ Aside0 (Kd.R Kd.string 9 w' w.heap.size (fun _ => True) v829 y828) ∧ Aside0 (Below w.heap.size w w'))
 case atStart => exact ⟨(0), Z6, H', ⟨Nat.le_refl _⟩, ⟨by (with_reducible repeat (first | apply Kd.R_alloc | apply Kd.R_drewN | apply Kd.R_drew)); exact HO830.out⟩, ⟨Z3⟩⟩
 case round =>
  clear H'
  try clear p2
  obtain ⟨x4_1, rfl, HA, HK1, HO_3, HB⟩ := hrel
  cases gk with
  | zero => exact absurd HA.out (by simp [bg.l0])
  | succ k1 =>
   have H := HA.out
   clear HA
   simp only [bg.l0] at H
   revert H
   refine fO (fun c4b0 H => ?_) fun c4b0 H => ?_
   ·revert H
    refine eQ (fun c5b0 H => ?_) fun c5 H => ?_
    ·revert H
     refine aJ (fun c6b0 c6b1 H => ?_) fun c6 c6b0 c6b1 H => ?_
     ·obtain rfl := Option.some.inj H
      obtain ⟨Ao7, co7, eo7⟩ := Kd.R_slice HO_3.out
      subst eo7
      have p831 : 0 ≤ (x4_1 : Int) := of_decide_eq_true Z5
      have q831 : x4_1 < (y828.length : Int) := of_decide_eq_true Z5
      obtain ⟨ad831, e831, hx831_0⟩ := Kd.je (Kd.R_reads' HO_3.out).2.2 x4_1 p831 q831
      cases e831
      replace p831 := eq_true p831
      replace q831 := eq_true q831
      go_wp2
      go_ret
      exact ⟨Z4, Z3⟩
     have H' := Aside0.mk H
     clear H
     obtain ⟨Ao8, co8, eo8⟩ := Kd.R_slice HO_3.out
     subst eo8
     have p831 : 0 ≤ (x4_1 : Int) := of_decide_eq_true Z5
     have q831 : x4_1 < (y828.length : Int) := of_decide_eq_true Z5
     obtain ⟨ad831, e831, hx831_0⟩ := Kd.je (Kd.R_reads' HO_3.out).2.2 x4_1 p831 q831
     cases e831
     replace p831 := eq_true p831
     replace q831 := eq_true q831
     go_wp2
     go_roundg k1
     case measure => have := HK1.out; omega
     case rel => exact ⟨(wrap64 (x4_1 + 1)), Z6, H', ⟨by have := HK1.out; omega⟩, ⟨Z21⟩, ⟨Z3⟩⟩
    exact absurd H (by simp)
   obtain rfl := Option.some.inj H
   obtain ⟨Ao9, co9, eo9⟩ := Kd.R_slice HO_3.out
   subst eo9
   go_wp2
   go_ret
   exact ⟨Z4, Z3⟩
end Go.Proofs.Ytendgafpkeadhaa.Q
end
section
namespace Go.Proofs.Ytendgafpkeadhaa.Q
open Go.RowKit Go.Proofs.YtendgafpkeadhaaW.PrintWords Go.Proofs.YtendgafpkeadhaaW.PrintLast Go.Proofs.YtendgafpkeadhaaW.PrintMore
attribute [local go_sem] max2_int min2_int max_two min_two max_three min_three max_four min_four
set_option linter.unusedVariables false
set_option linter.unusedSimpArgs false
/-! ### ay: function 65 -/
mutual
def ay.j0 : Nat → ByteArray → Bool → Option (Int × Bool)
 | 0, _, _ => none
 | k + 1, x0, x18 => if x18 = true then (some (0, false)) else (ay.l0 k x0 0 0)
def ay.l0 : Nat → ByteArray → Int → Int → Option (Int × Bool)
 | 0, _, _, _ => none
 | k + 1, x0, x4, x5 => if x5 < (x0.size : Int) then (if 0 ≤ x5 then (ay.l0 k x0 (IntKind.u64.wrap ((IntKind.u64.wrap (10 * x4)) + (((bt x0 x5) - 48) % 256))) (wrap64 (x5 + 1))) else (none)) else (some (wrap64 (x4), decide (x4 < 9223372036854775808)))
end
def ay.f (k : Nat) (a0 : ByteArray) : Option (Int × Bool) := if (a0.size : Int) > 19 then (ay.j0 k a0 true) else (if (a0.size : Int) > 1 then (if 0 < (a0.size : Int) then (ay.j0 k a0 ((bt a0 0) == 48)) else (none)) else (ay.j0 k a0 false))
theorem ay.mono_l : ∀ k, (∀ y0 y1, LeO (ay.j0 k y0 y1) (ay.j0 (k + 1) y0 y1)) ∧ (∀ y0 y1 y2, LeO (ay.l0 k y0 y1 y2) (ay.l0 (k + 1) y0 y1 y2))
 | 0 => ⟨fun _ _ r h => by simp [ay.j0] at h, fun _ _ _ r h => by simp [ay.l0] at h⟩
 | k + 1 => by
  obtain ⟨ih0, ih1⟩ := ay.mono_l k
  refine ⟨?_, ?_⟩
  ·intro y0 y1
   unfold ay.j0
   exact yL
  intro y0 y1 y2
  unfold ay.l0
  exact yL
theorem ay.mono : ∀ a0 k, LeO (ay.f k a0) (ay.f (k + 1) a0) := by
 intro a0 k
 obtain ⟨ih0, ih1⟩ := ay.mono_l k
 unfold ay.f
 exact yL
set_option maxHeartbeats 8000000 in
set_option maxRecDepth 100000 in
theorem ay.calls (k : Nat) (a0 : ByteArray) (r1 : Int) (r2 : Bool) (w : World) (h : ay.f k a0 = some (r1, r2)) :
 Calls Try.prog 65 #[.string a0] w fun e w' => e = .returned (.tuple #[.int .i64 r1, .bool r2]) ∧ dw w w' := by
 have H := h
 clear h
 unfold ay.f at H
 have HC2 := Aside0.mk H
 clear H
 go_enter Try.func65, Try.ntmps65
 go_upto_region 1 with (fail)
 go_cut [18] (fun v18 wc => ∃ (kq : Nat) (x18_1 : Bool), v18 = .bool x18_1 ∧ Aside0 (ay.j0 kq a0 x18_1 = some (r1, r2)) ∧ Aside0 (kq ≤ k) ∧ dw w wc)
 case first =>
  have H := HC2.out
  clear HC2
  revert H
  refine dX (fun c3 H => ?_) fun c3 H => ?_
  ·have c3b0 : decide (19 < (a0.size : Int)) = true := decide_eq_true c3
   have c3b1 : decide (19 < a0.size) = true := decide_eq_true (by omega)
   clear c3
   (first | rw [c3b0] | (simp only [dE, dM]; rw [c3b0]) | skip)
   have H' := Aside0.mk H
   clear H
   go_wp2
   go_meet
   case rel => exact ⟨_, (true), Z6, H', ⟨Z38⟩, Z8⟩
  have c3b0 : decide (19 < (a0.size : Int)) = false := decide_eq_false c3
  have c3b1 : decide (19 < a0.size) = false := decide_eq_false (by omega)
  clear c3
  (first | rw [c3b0] | (simp only [dE, dM]; rw [c3b0]) | skip)
  revert H
  refine dX (fun c4 H => ?_) fun c4 H => ?_
  ·have c4b0 : decide (1 < (a0.size : Int)) = true := decide_eq_true c4
   have c4b1 : decide (1 < a0.size) = true := decide_eq_true (by omega)
   clear c4
   revert H
   refine jX (fun c5 c5b0 H => ?_) fun c5 H => ?_
   ·have c5b1 : decide (0 < a0.size) = true := decide_eq_true (by omega)
    clear c5
    have H' := Aside0.mk H
    clear H
    have p6 : 0 ≤ (0 : Int) := (by omega)
    have q6 : 0 < a0.size := (by have : (0 : Int) < (a0.size : Int) := of_decide_eq_true Z5; omega)
    have hx6 : ∀ h : 0 < a0.size, ((a0[0]'h).toNat : Int) = bt a0 0 := dL a0 0
    clear p6
    have qi6 : (0 < (a0.size : Int)) = True := eq_true (of_decide_eq_true Z5)
    replace q6 := eq_true q6
    go_wp2
    go_meet
    case rel => exact ⟨_, (((bt a0 0) == 48)), Z6, H', ⟨Z38⟩, Z8⟩
   exact absurd H (by simp)
  have c4b0 : decide (1 < (a0.size : Int)) = false := decide_eq_false c4
  have c4b1 : decide (1 < a0.size) = false := decide_eq_false (by omega)
  clear c4
  have H' := Aside0.mk H
  clear H
  go_wp2
  go_meet
  case rel => exact ⟨_, (false), Z6, H', ⟨Z38⟩, Z8⟩
 case rest =>
  clear HC2
  try clear p2
  try clear c3
  try clear c3b0
  try clear c3b1
  try clear c4
  try clear c4b0
  try clear c4b1
  try clear c5
  try clear c5b0
  try clear c5b1
  try clear c6
  try clear p6
  try clear q6
  try clear hx6
  try clear qi6
  try clear p6
  try clear q6
  obtain ⟨kq, x18_1, rfl, HA, HJ1, ⟨mc1, rfl⟩⟩ := hcut
  cases kq with
  | zero => exact absurd HA.out (by simp [ay.j0])
  | succ kj1 =>
   have H := HA.out
   clear HA
   simp only [ay.j0] at H
   cases x18_1
   rotate_left
   ·replace H := yT H
    simp only [Option.some.injEq, Prod.mk.injEq] at H
    obtain ⟨rfl, rfl⟩ := H
    go_wp2
    go_ret2
    exact ⟨Z6, Z8⟩
   replace H := yF H
   have H' := Aside0.mk H
   clear H
   go_wp2
   go_loopg [4, 5] kj1 (fun kq v4 v5 w' => ∃ (x4_2 : Int) (x5_2 : Int), v4 = .int .u64 x4_2 ∧ v5 = .int .i64 x5_2 ∧ Aside0 (ay.l0 kq a0 x4_2 x5_2 = some (r1, r2)) ∧ Aside0 (kq ≤ kj1) ∧ dw w w')
   case atStart => exact ⟨(0), (0), Z6, Z6, H', ⟨Nat.le_refl _⟩, Z8⟩
   case round =>
    clear H'
    try clear c1
    try clear p2
    try clear c3
    try clear c3b0
    try clear c3b1
    try clear c4
    try clear c4b0
    try clear c4b1
    try clear c5
    try clear c5b0
    try clear c5b1
    try clear c6
    try clear p6
    try clear q6
    try clear hx6
    try clear qi6
    try clear c7
    try clear p2
    try clear p6
    try clear q6
    obtain ⟨x4_2, x5_2, rfl, rfl, HA, HK2, ⟨m2, rfl⟩⟩ := hrel
    cases gk with
    | zero => exact absurd HA.out (by simp [ay.l0])
    | succ k2 =>
     have H := HA.out
     clear HA
     simp only [ay.l0] at H
     revert H
     refine fO (fun c8b0 H => ?_) fun c8b0 H => ?_
     ·revert H
      refine eQ (fun c9b0 H => ?_) fun c9 H => ?_
      ·have H' := Aside0.mk H
       clear H
       have p10 : 0 ≤ (x5_2 : Int) := of_decide_eq_true Z5
       have q10 : x5_2 < (a0.size : Int) := of_decide_eq_true Z5
       have hx10 := dL a0 x5_2
       replace p10 := eq_true p10
       replace q10 := eq_true q10
       go_wp2
       go_roundg k2
       case measure => have := HJ1.out; have := HK2.out; omega
       case rel => exact ⟨(IntKind.u64.wrap ((IntKind.u64.wrap (10 * x4_2)) + (((bt a0 x5_2) - 48) % 256))), (wrap64 (x5_2 + 1)), Z6, Z6, H', ⟨by have := HJ1.out; have := HK2.out; omega⟩, Z8⟩
      exact absurd H (by simp)
     simp only [Option.some.injEq, Prod.mk.injEq] at H
     obtain ⟨rfl, rfl⟩ := H
     go_wp2
     go_ret2
     exact ⟨Z6, Z8⟩
end Go.Proofs.Ytendgafpkeadhaa.Q
end
section
namespace Go.Proofs.Ytendgafpkeadhaa.Q
open Go.RowKit Go.Proofs.YtendgafpkeadhaaW.PrintWords Go.Proofs.YtendgafpkeadhaaW.PrintLast Go.Proofs.YtendgafpkeadhaaW.PrintMore
attribute [local go_sem] max2_int min2_int max_two min_two max_three min_three max_four min_four
set_option linter.unusedVariables false
set_option linter.unusedSimpArgs false
/-! ### aj: function 66 -/
mutual
def aj.l0 : Nat → ByteArray → Int → List Int → Int → Option (ByteArray × Int)
 | 0, _, _, _, _ => none
 | k + 1, x0, x1, x6, x7 => if x7 < (x0.size : Int) then (if 0 ≤ x7 then (if (bt x0 x7) = 34 then (some (strOfNums x6, wrap64 ((wrap64 (x7 + 1)) - x1))) else (if (bt x0 x7) = 10 then (some ((⟨#[]⟩ : ByteArray), 0)) else (if (bt x0 x7) = 92 then (if (wrap64 (x7 + 1)) < (x0.size : Int) then (if 0 ≤ (wrap64 (x7 + 1)) then (aj.j1 k x0 x1 x6 x7 ((bt x0 (wrap64 (x7 + 1))) == 110)) else (none)) else (aj.j1 k x0 x1 x6 x7 false)) else (if x6.length < 140737488355328 then (aj.l0 k x0 x1 (x6 ++ [bt x0 x7]) (wrap64 (x7 + 1))) else (none))))) else (none)) else (some ((⟨#[]⟩ : ByteArray), 0))
def aj.j1 : Nat → ByteArray → Int → List Int → Int → Bool → Option (ByteArray × Int)
 | 0, _, _, _, _, _ => none
 | k + 1, x0, x1, x6, x7, x43 => if x43 = true then (if x6.length < 140737488355328 then (aj.l0 k x0 x1 (x6 ++ [10]) (wrap64 ((wrap64 (x7 + 1)) + 1))) else (none)) else (if (wrap64 (x7 + 1)) < (x0.size : Int) then (if 0 ≤ (wrap64 (x7 + 1)) then (if (bt x0 (wrap64 (x7 + 1))) = 34 then (if x6.length < 140737488355328 then (aj.l0 k x0 x1 (x6 ++ [bt x0 (wrap64 (x7 + 1))]) (wrap64 ((wrap64 (x7 + 1)) + 1))) else (none)) else (if (bt x0 (wrap64 (x7 + 1))) = 92 then (if x6.length < 140737488355328 then (aj.l0 k x0 x1 (x6 ++ [bt x0 (wrap64 (x7 + 1))]) (wrap64 ((wrap64 (x7 + 1)) + 1))) else (none)) else (some ((⟨#[]⟩ : ByteArray), 0)))) else (none)) else (some ((⟨#[]⟩ : ByteArray), 0)))
end
def aj.f (k : Nat) (a0 : ByteArray) (a1 : Int) : Option (ByteArray × Int) := aj.l0 k a0 a1 ([] : List Int) (wrap64 (a1 + 1))
theorem aj.mono_l : ∀ k, (∀ y0 y1 y2 y3, LeO (aj.l0 k y0 y1 y2 y3) (aj.l0 (k + 1) y0 y1 y2 y3)) ∧ (∀ y0 y1 y2 y3 y4, LeO (aj.j1 k y0 y1 y2 y3 y4) (aj.j1 (k + 1) y0 y1 y2 y3 y4))
 | 0 => ⟨fun _ _ _ _ r h => by simp [aj.l0] at h, fun _ _ _ _ _ r h => by simp [aj.j1] at h⟩
 | k + 1 => by
  obtain ⟨ih0, ih1⟩ := aj.mono_l k
  refine ⟨?_, ?_⟩
  ·intro y0 y1 y2 y3
   unfold aj.l0
   exact yL
  intro y0 y1 y2 y3 y4
  unfold aj.j1
  exact yL
theorem aj.mono : ∀ a0 a1 k, LeO (aj.f k a0 a1) (aj.f (k + 1) a0 a1) := by
 intro a0 a1 k
 obtain ⟨ih0, ih1⟩ := aj.mono_l k
 unfold aj.f
 exact yL
set_option maxHeartbeats 8000000 in
set_option maxRecDepth 100000 in
theorem aj.calls (k : Nat) (a0 : ByteArray) (a1 : Int) (r1 : ByteArray) (r2 : Int) (w : World) (h : aj.f k a0 a1 = some (r1, r2)) :
 Calls Try.prog 66 #[.string a0, .int .i64 a1] w fun e w' => e = .returned (.tuple #[.string r1, .int .i64 r2]) ∧ Below w.heap.size w w' := by
 have HB := Aside0.mk (Below.refl w.heap.size w)
 have H := h
 clear h
 unfold aj.f at H
 have H' := Aside0.mk H
 clear H
 go_enter Try.func66, Try.ntmps66
 go_wp2
 go_loopg [6, 7] k (fun kq v6 v7 w' => ∃ (x6_1 : List Int) (x7_1 : Int), v7 = .int .i64 x7_1 ∧ Aside0 (aj.l0 kq a0 a1 x6_1 x7_1 = some (r1, r2)) ∧ Aside0 (kq ≤ k) ∧ Aside0 (Kd.R (Kd.int .u8) 5 w' w.heap.size (fun _ => True) v6 x6_1) ∧ Aside0 (Below w.heap.size w w'))
 case atStart => exact ⟨(([] : List Int)), (wrap64 (a1 + 1)), Z6, H', ⟨Nat.le_refl _⟩, ⟨Z24⟩, ⟨Z3⟩⟩
 case round =>
  clear H'
  try clear p2
  obtain ⟨x6_1, x7_1, rfl, HA, HK1, HO_6, HB⟩ := hrel
  cases gk with
  | zero => exact absurd HA.out (by simp [aj.l0])
  | succ k1 =>
   have H := HA.out
   clear HA
   simp only [aj.l0] at H
   revert H
   refine fO (fun c3b0 H => ?_) fun c3b0 H => ?_
   ·revert H
    refine eQ (fun c4b0 H => ?_) fun c4 H => ?_
    ·revert H
     refine aJ (fun c6b0 c6b1 H => ?_) fun c6 c6b0 c6b1 H => ?_
     ·simp only [Option.some.injEq, Prod.mk.injEq] at H
      obtain ⟨rfl, rfl⟩ := H
      have p5 : 0 ≤ (x7_1 : Int) := of_decide_eq_true Z5
      have q5 : x7_1 < (a0.size : Int) := of_decide_eq_true Z5
      have hx5 := dL a0 x7_1
      replace p5 := eq_true p5
      replace q5 := eq_true q5
      have hcv7 := tJ (P := Try.prog) Try.underlying81 Try.underlying5 Try.underlying9 (Kd.qj HO_6.out)
      go_wp2
      go_ret2
      exact ⟨Z4, Z3⟩
     revert H
     refine aJ (fun c9b0 c9b1 H => ?_) fun c9 c9b0 c9b1 H => ?_
     ·simp only [Option.some.injEq, Prod.mk.injEq] at H
      obtain ⟨rfl, rfl⟩ := H
      have p5 : 0 ≤ (x7_1 : Int) := of_decide_eq_true Z5
      have q5 : x7_1 < (a0.size : Int) := of_decide_eq_true Z5
      have hx5 := dL a0 x7_1
      replace p5 := eq_true p5
      replace q5 := eq_true q5
      have p8 : 0 ≤ (x7_1 : Int) := of_decide_eq_true Z5
      have q8 : x7_1 < (a0.size : Int) := of_decide_eq_true Z5
      have hx8 := dL a0 x7_1
      replace p8 := eq_true p8
      replace q8 := eq_true q8
      go_wp2
      go_ret2
      exact ⟨Z4, Z3⟩
     revert H
     refine aJ (fun c11b0 c11b1 H => ?_) fun c11 c11b0 c11b1 H => ?_
     ·have HC12 := Aside0.mk H
      clear H
      have p5 : 0 ≤ (x7_1 : Int) := of_decide_eq_true Z5
      have q5 : x7_1 < (a0.size : Int) := of_decide_eq_true Z5
      have hx5 := dL a0 x7_1
      replace p5 := eq_true p5
      replace q5 := eq_true q5
      have p8 : 0 ≤ (x7_1 : Int) := of_decide_eq_true Z5
      have q8 : x7_1 < (a0.size : Int) := of_decide_eq_true Z5
      have hx8 := dL a0 x7_1
      replace p8 := eq_true p8
      replace q8 := eq_true q8
      have p10 : 0 ≤ (x7_1 : Int) := of_decide_eq_true Z5
      have q10 : x7_1 < (a0.size : Int) := of_decide_eq_true Z5
      have hx10 := dL a0 x7_1
      replace p10 := eq_true p10
      replace q10 := eq_true q10
      go_upto_region 12 with (fail)
      go_cut [43] (fun v43 wc => ∃ (kq : Nat) (x43_11 : Bool), v43 = .bool x43_11 ∧ Aside0 (aj.j1 kq a0 a1 x6_1 x7_1 x43_11 = some (r1, r2)) ∧ Aside0 (kq ≤ k1) ∧ Aside0 (Kd.R (Kd.int .u8) 5 wc w.heap.size (fun _ => True) u6 x6_1) ∧ Aside0 (Below w.heap.size w wc))
      case first =>
       have H := HC12.out
       clear HC12
       revert H
       refine fO (fun c13b0 H => ?_) fun c13b0 H => ?_
       ·(first | rw [c13b0] | (simp only [dE, dM]; rw [c13b0]) | skip)
        obtain ⟨ji14, hji14⟩ : ∃ j_ : Int, (wrap64 (x7_1 + 1)) = j_ := ⟨_, rfl⟩
        replace H : (if 0 ≤ (ji14) then (aj.j1 k1 a0 a1 x6_1 x7_1 ((bt a0 (ji14)) == 110)) else (none)) = some (r1, r2) := by first | (rw [hji14] at H; exact H) | (simp only [hji14] at H ⊢; exact H)
        (try rw [hji14] at c13b0)
        have hji14w : (IntKind.i64.wrap (x7_1 + 1)) = ji14 := (dE _).trans hji14
        revert H
        refine eQ (fun c15b0 H => ?_) fun c15 H => ?_
        ·have H' := Aside0.mk H
         clear H
         have p16 : 0 ≤ ((ji14) : Int) := of_decide_eq_true Z5
         have q16 : (ji14) < (a0.size : Int) := of_decide_eq_true Z5
         have hx16 := dL a0 (ji14)
         replace p16 := eq_true p16
         replace q16 := eq_true q16
         go_wp2
         go_meet
         case rel => exact ⟨_, (((bt a0 (ji14)) == 110)), (by first | rfl | (simp; done) | (simp only [← hji14] <;> (first | rfl | simp)) | (simp [*]; done)), H', ⟨by have := HK1.out; first | omega | exact Nat.le_refl _⟩, ⟨Z27⟩, ⟨Z3⟩⟩
        exact absurd H (by simp)
       (first | rw [c13b0] | (simp only [dE, dM]; rw [c13b0]) | skip)
       have H' := Aside0.mk H
       clear H
       go_wp2
       go_meet
       case rel => exact ⟨_, (false), Z6, H', ⟨by have := HK1.out; first | omega | exact Nat.le_refl _⟩, ⟨Z27⟩, ⟨Z3⟩⟩
      case rest =>
       clear HC12
       try clear c1
       try clear p1
       try clear q1
       try clear hx1
       try clear p2
       try clear c3
       try clear c3b0
       try clear c4
       try clear c4b0
       try clear p5
       try clear q5
       try clear hx5
       try clear c6
       try clear c6b0
       try clear c6b1
       try clear p6
       try clear hcv7
       try clear p8
       try clear q8
       try clear hx8
       try clear c9
       try clear c9b0
       try clear c9b1
       try clear p10
       try clear q10
       try clear hx10
       try clear c11
       try clear c11b0
       try clear c11b1
       try clear c13
       try clear c13b0
       try clear c15
       try clear c15b0
       try clear p16
       try clear q16
       try clear hx16
       try clear p10
       try clear p16
       try clear p2
       try clear p5
       try clear p8
       try clear q10
       try clear q16
       try clear q5
       try clear q8
       obtain ⟨kq, x43_11, rfl, HA, HJ11, HO_6, HB⟩ := hcut
       cases kq with
       | zero => exact absurd HA.out (by simp [aj.j1])
       | succ kj11 =>
        have H := HA.out
        clear HA
        simp only [aj.j1] at H
        cases x43_11
        rotate_left
        ·replace H := yT H
         revert H
         refine dX (fun c18 H => ?_) fun c18 H => ?_
         ·have LMc18 := Aside0.mk c18
          clear c18
          obtain ⟨y832, hy832⟩ : ∃ y_ : List Int, y_ = (x6_1 ++ [10]) := ⟨_, rfl⟩
          replace H : (aj.l0 kj11 a0 a1 y832 (wrap64 ((wrap64 (x7_1 + 1)) + 1))) = some (r1, r2) := by first | (rw [hy832]; with_reducible exact H) | (have H2_ := (Option.bind_some _ _).symm.trans H; rw [hy832]; with_reducible exact H2_) | (have H2_ := (Option.bind_some _ _).symm.trans H; with_reducible exact H2_) | with_reducible exact H | (rw [hy832]; exact H) | exact H
          have Ny832 := Aside0.mk hy832
          clear hy832
          have H' := Aside0.mk H
          clear H
          go_wp2_with (first | ((with_reducible refine dB (b := .append) (xs := #[.tmp 56, .tmp 57]) rfl ?_); at_builtin; refine Kd.iP (Kd.int .u8) (w0 := w) w.heap.size rfl (.tmp 56) (.tmp 57) 81 5 (.int .u8 0) 1 rfl Try.underlying81 info5 rfl (by decide) (by omega) u6 x6_1 10 [.int .u8 10] (fun _ => True) (fun _ => False) rfl rfl ?aP (fun _ hk => hk.elim) ?aF ?aO ?aB ?aS ?aL ?_; (case aP => exact rfl); (case aB => exact Z3); (case aF => exact (fun _ _ => trivial)); (case aO => exact Z27); (case aS => exact (below_size Z3)); (case aL => have := LMc18.out; omega); intro v833 w19 ho hb hg hat; rw [← Ny832.out] at ho; refine yA2 (hb) (ho) ?_; clear HB HO_6; intro HB HO834; clear ho hb hg hat))
          go_roundg kj11
          case measure => have := HK1.out; have := HJ11.out; omega
          case rel => exact ⟨(y832), (wrap64 ((wrap64 (x7_1 + 1)) + 1)), Z6, H', ⟨by have := HK1.out; have := HJ11.out; omega⟩, ⟨by (with_reducible repeat (first | apply Kd.R_alloc | apply Kd.R_drewN | apply Kd.R_drew)); exact HO834.out⟩, ⟨Z3⟩⟩
         exact absurd H (by simp)
        replace H := yF H
        revert H
        refine fO (fun c20b0 H => ?_) fun c20b0 H => ?_
        ·obtain ⟨ji21, hji21⟩ : ∃ j_ : Int, (wrap64 (x7_1 + 1)) = j_ := ⟨_, rfl⟩
         replace H : (if 0 ≤ (ji21) then (if (bt a0 (ji21)) = 34 then (if x6_1.length < 140737488355328 then (aj.l0 kj11 a0 a1 (x6_1 ++ [bt a0 (ji21)]) (wrap64 ((ji21) + 1))) else (none)) else (if (bt a0 (ji21)) = 92 then (if x6_1.length < 140737488355328 then (aj.l0 kj11 a0 a1 (x6_1 ++ [bt a0 (ji21)]) (wrap64 ((ji21) + 1))) else (none)) else (some ((⟨#[]⟩ : ByteArray), 0)))) else (none)) = some (r1, r2) := by first | (rw [hji21] at H; exact H) | (simp only [hji21] at H ⊢; exact H)
         (try rw [hji21] at c20b0)
         have hji21w : (IntKind.i64.wrap (x7_1 + 1)) = ji21 := (dE _).trans hji21
         revert H
         refine eQ (fun c22b0 H => ?_) fun c22 H => ?_
         ·revert H
          refine aJ (fun c24b0 c24b1 H => ?_) fun c24 c24b0 c24b1 H => ?_
          ·revert H
           refine dX (fun c26 H => ?_) fun c26 H => ?_
           ·have LMc26 := Aside0.mk c26
            clear c26
            obtain ⟨y835, hy835⟩ : ∃ y_ : List Int, y_ = (x6_1 ++ [bt a0 (ji21)]) := ⟨_, rfl⟩
            replace H : (aj.l0 kj11 a0 a1 y835 (wrap64 ((ji21) + 1))) = some (r1, r2) := by first | (rw [hy835]; with_reducible exact H) | (have H2_ := (Option.bind_some _ _).symm.trans H; rw [hy835]; with_reducible exact H2_) | (have H2_ := (Option.bind_some _ _).symm.trans H; with_reducible exact H2_) | with_reducible exact H | (rw [hy835]; exact H) | exact H
            have Ny835 := Aside0.mk hy835
            clear hy835
            have H' := Aside0.mk H
            clear H
            have p23 : 0 ≤ ((ji21) : Int) := of_decide_eq_true Z5
            have q23 : (ji21) < (a0.size : Int) := of_decide_eq_true Z5
            have hx23 := dL a0 (ji21)
            replace p23 := eq_true p23
            replace q23 := eq_true q23
            have p25 : 0 ≤ ((ji21) : Int) := of_decide_eq_true Z5
            have q25 : (ji21) < (a0.size : Int) := of_decide_eq_true Z5
            have hx25 := dL a0 (ji21)
            replace p25 := eq_true p25
            replace q25 := eq_true q25
            go_wp2_with (first | ((with_reducible refine dB (b := .append) (xs := #[.tmp 81, .tmp 86]) rfl ?_); at_builtin; refine Kd.iP (Kd.int .u8) (w0 := w) w.heap.size rfl (.tmp 81) (.tmp 86) 81 5 (.int .u8 0) 1 rfl Try.underlying81 info5 rfl (by decide) (by omega) u6 x6_1 (bt a0 (ji21)) [.int .u8 (bt a0 (ji21))] (fun _ => True) (fun _ => False) rfl rfl ?aP (fun _ hk => hk.elim) ?aF ?aO ?aB ?aS ?aL ?_; (case aP => exact rfl); (case aB => exact Z3); (case aF => exact (fun _ _ => trivial)); (case aO => exact Z27); (case aS => exact (below_size Z3)); (case aL => have := LMc26.out; omega); intro v836 w27 ho hb hg hat; rw [← Ny835.out] at ho; refine yA2 (hb) (ho) ?_; clear HB HO_6; intro HB HO837; clear ho hb hg hat))
            go_roundg kj11
            case measure => have := HK1.out; have := HJ11.out; omega
            case rel => exact ⟨(y835), (wrap64 ((ji21) + 1)), (by first | rfl | (simp; done) | (simp only [← hji21] <;> (first | rfl | simp)) | (simp [*]; done)), H', ⟨by have := HK1.out; have := HJ11.out; omega⟩, ⟨by (with_reducible repeat (first | apply Kd.R_alloc | apply Kd.R_drewN | apply Kd.R_drew)); exact HO837.out⟩, ⟨Z3⟩⟩
           exact absurd H (by simp)
          revert H
          refine aJ (fun c29b0 c29b1 H => ?_) fun c29 c29b0 c29b1 H => ?_
          ·revert H
           refine dX (fun c31 H => ?_) fun c31 H => ?_
           ·have LMc31 := Aside0.mk c31
            clear c31
            obtain ⟨y838, hy838⟩ : ∃ y_ : List Int, y_ = (x6_1 ++ [bt a0 (ji21)]) := ⟨_, rfl⟩
            replace H : (aj.l0 kj11 a0 a1 y838 (wrap64 ((ji21) + 1))) = some (r1, r2) := by first | (rw [hy838]; with_reducible exact H) | (have H2_ := (Option.bind_some _ _).symm.trans H; rw [hy838]; with_reducible exact H2_) | (have H2_ := (Option.bind_some _ _).symm.trans H; with_reducible exact H2_) | with_reducible exact H | (rw [hy838]; exact H) | exact H
            have Ny838 := Aside0.mk hy838
            clear hy838
            have H' := Aside0.mk H
            clear H
            have p23 : 0 ≤ ((ji21) : Int) := of_decide_eq_true Z5
            have q23 : (ji21) < (a0.size : Int) := of_decide_eq_true Z5
            have hx23 := dL a0 (ji21)
            replace p23 := eq_true p23
            replace q23 := eq_true q23
            have p28 : 0 ≤ ((ji21) : Int) := of_decide_eq_true Z5
            have q28 : (ji21) < (a0.size : Int) := of_decide_eq_true Z5
            have hx28 := dL a0 (ji21)
            replace p28 := eq_true p28
            replace q28 := eq_true q28
            have p30 : 0 ≤ ((ji21) : Int) := of_decide_eq_true Z5
            have q30 : (ji21) < (a0.size : Int) := of_decide_eq_true Z5
            have hx30 := dL a0 (ji21)
            replace p30 := eq_true p30
            replace q30 := eq_true q30
            go_wp2_with (first | ((with_reducible refine dB (b := .append) (xs := #[.tmp 81, .tmp 86]) rfl ?_); at_builtin; refine Kd.iP (Kd.int .u8) (w0 := w) w.heap.size rfl (.tmp 81) (.tmp 86) 81 5 (.int .u8 0) 1 rfl Try.underlying81 info5 rfl (by decide) (by omega) u6 x6_1 (bt a0 (ji21)) [.int .u8 (bt a0 (ji21))] (fun _ => True) (fun _ => False) rfl rfl ?aP (fun _ hk => hk.elim) ?aF ?aO ?aB ?aS ?aL ?_; (case aP => exact rfl); (case aB => exact Z3); (case aF => exact (fun _ _ => trivial)); (case aO => exact Z27); (case aS => exact (below_size Z3)); (case aL => have := LMc31.out; omega); intro v839 w32 ho hb hg hat; rw [← Ny838.out] at ho; refine yA2 (hb) (ho) ?_; clear HB HO_6; intro HB HO840; clear ho hb hg hat))
            go_roundg kj11
            case measure => have := HK1.out; have := HJ11.out; omega
            case rel => exact ⟨(y838), (wrap64 ((ji21) + 1)), (by first | rfl | (simp; done) | (simp only [← hji21] <;> (first | rfl | simp)) | (simp [*]; done)), H', ⟨by have := HK1.out; have := HJ11.out; omega⟩, ⟨by (with_reducible repeat (first | apply Kd.R_alloc | apply Kd.R_drewN | apply Kd.R_drew)); exact HO840.out⟩, ⟨Z3⟩⟩
           exact absurd H (by simp)
          simp only [Option.some.injEq, Prod.mk.injEq] at H
          obtain ⟨rfl, rfl⟩ := H
          have p23 : 0 ≤ ((ji21) : Int) := of_decide_eq_true Z5
          have q23 : (ji21) < (a0.size : Int) := of_decide_eq_true Z5
          have hx23 := dL a0 (ji21)
          replace p23 := eq_true p23
          replace q23 := eq_true q23
          have p28 : 0 ≤ ((ji21) : Int) := of_decide_eq_true Z5
          have q28 : (ji21) < (a0.size : Int) := of_decide_eq_true Z5
          have hx28 := dL a0 (ji21)
          replace p28 := eq_true p28
          replace q28 := eq_true q28
          go_wp2
          go_ret2
          exact ⟨by first | rfl | (simp [errW_none, errW_some] <;> rfl) | (simp only [← hji21]; first | rfl | (simp [errW_none, errW_some] <;> rfl)) | (simp [*, errW_none, errW_some] <;> rfl), Z3⟩
         exact absurd H (by simp)
        simp only [Option.some.injEq, Prod.mk.injEq] at H
        obtain ⟨rfl, rfl⟩ := H
        go_wp2
        go_ret2
        exact ⟨Z4, Z3⟩
     revert H
     refine dX (fun c34 H => ?_) fun c34 H => ?_
     ·have LMc34 := Aside0.mk c34
      clear c34
      obtain ⟨y841, hy841⟩ : ∃ y_ : List Int, y_ = (x6_1 ++ [bt a0 x7_1]) := ⟨_, rfl⟩
      replace H : (aj.l0 k1 a0 a1 y841 (wrap64 (x7_1 + 1))) = some (r1, r2) := by first | (rw [hy841]; with_reducible exact H) | (have H2_ := (Option.bind_some _ _).symm.trans H; rw [hy841]; with_reducible exact H2_) | (have H2_ := (Option.bind_some _ _).symm.trans H; with_reducible exact H2_) | with_reducible exact H | (rw [hy841]; exact H) | exact H
      have Ny841 := Aside0.mk hy841
      clear hy841
      have H' := Aside0.mk H
      clear H
      have p5 : 0 ≤ (x7_1 : Int) := of_decide_eq_true Z5
      have q5 : x7_1 < (a0.size : Int) := of_decide_eq_true Z5
      have hx5 := dL a0 x7_1
      replace p5 := eq_true p5
      replace q5 := eq_true q5
      have p8 : 0 ≤ (x7_1 : Int) := of_decide_eq_true Z5
      have q8 : x7_1 < (a0.size : Int) := of_decide_eq_true Z5
      have hx8 := dL a0 x7_1
      replace p8 := eq_true p8
      replace q8 := eq_true q8
      have p10 : 0 ≤ (x7_1 : Int) := of_decide_eq_true Z5
      have q10 : x7_1 < (a0.size : Int) := of_decide_eq_true Z5
      have hx10 := dL a0 x7_1
      replace p10 := eq_true p10
      replace q10 := eq_true q10
      have p33 : 0 ≤ (x7_1 : Int) := of_decide_eq_true Z5
      have q33 : x7_1 < (a0.size : Int) := of_decide_eq_true Z5
      have hx33 := dL a0 x7_1
      replace p33 := eq_true p33
      replace q33 := eq_true q33
      go_wp2_with (first | ((with_reducible refine dB (b := .append) (xs := #[.tmp 37, .tmp 41]) rfl ?_); at_builtin; refine Kd.iP (Kd.int .u8) (w0 := w) w.heap.size rfl (.tmp 37) (.tmp 41) 81 5 (.int .u8 0) 1 rfl Try.underlying81 info5 rfl (by decide) (by omega) u6 x6_1 (bt a0 x7_1) [.int .u8 (bt a0 x7_1)] (fun _ => True) (fun _ => False) rfl rfl ?aP (fun _ hk => hk.elim) ?aF ?aO ?aB ?aS ?aL ?_; (case aP => exact rfl); (case aB => exact Z3); (case aF => exact (fun _ _ => trivial)); (case aO => exact Z27); (case aS => exact (below_size Z3)); (case aL => have := LMc34.out; omega); intro v842 w35 ho hb hg hat; rw [← Ny841.out] at ho; refine yA2 (hb) (ho) ?_; clear HB HO_6; intro HB HO843; clear ho hb hg hat))
      go_roundg k1
      case measure => have := HK1.out; omega
      case rel => exact ⟨(y841), (wrap64 (x7_1 + 1)), Z6, H', ⟨by have := HK1.out; omega⟩, ⟨by (with_reducible repeat (first | apply Kd.R_alloc | apply Kd.R_drewN | apply Kd.R_drew)); exact HO843.out⟩, ⟨Z3⟩⟩
     exact absurd H (by simp)
    exact absurd H (by simp)
   simp only [Option.some.injEq, Prod.mk.injEq] at H
   obtain ⟨rfl, rfl⟩ := H
   go_wp2
   go_ret2
   exact ⟨Z4, Z3⟩
end Go.Proofs.Ytendgafpkeadhaa.Q
end
section
namespace Go.Proofs.Ytendgafpkeadhaa.Q
open Go.RowKit Go.Proofs.YtendgafpkeadhaaW.PrintWords Go.Proofs.YtendgafpkeadhaaW.PrintLast Go.Proofs.YtendgafpkeadhaaW.PrintMore
attribute [local go_sem] max2_int min2_int max_two min_two max_three min_three max_four min_four
set_option linter.unusedVariables false
set_option linter.unusedSimpArgs false
/-! ### aY: function 67 -/
def aY.l0 : Nat → ByteArray → Int → List ByteArray → Int → Option (Int)
 | 0, _, _, _, _ => none
 | k + 1, x0, x1, x5, x6 => if x6 < (x5.length : Int) then (if 0 ≤ x6 then (if (wrap64 ((x0.size : Int) - x1)) ≥ ((oN ByteArray.empty x5 x6).size : Int) then (if 0 ≤ x1 then (if x1 ≤ (wrap64 (x1 + ((oN ByteArray.empty x5 x6).size : Int))) then (if (wrap64 (x1 + ((oN ByteArray.empty x5 x6).size : Int))) ≤ (x0.size : Int) then (if (x0.extract (x1 : Int).toNat ((wrap64 (x1 + ((oN ByteArray.empty x5 x6).size : Int))) : Int).toNat).toList = (oN ByteArray.empty x5 x6).toList then (some ((oN ByteArray.empty x5 x6).size : Int)) else (aY.l0 k x0 x1 x5 (wrap64 (x6 + 1)))) else (none)) else (none)) else (none)) else (aY.l0 k x0 x1 x5 (wrap64 (x6 + 1)))) else (none)) else (some 0)
def aY.f (k : Nat) (a0 : ByteArray) (a1 : Int) : Option (Int) := aY.l0 k a0 a1 (([(⟨#[61, 61]⟩ : ByteArray), (⟨#[33, 61]⟩ : ByteArray), (⟨#[60, 61]⟩ : ByteArray), (⟨#[46, 46]⟩ : ByteArray), (⟨#[40]⟩ : ByteArray), (⟨#[41]⟩ : ByteArray), (⟨#[123]⟩ : ByteArray), (⟨#[125]⟩ : ByteArray), (⟨#[91]⟩ : ByteArray), (⟨#[93]⟩ : ByteArray), (⟨#[44]⟩ : ByteArray), (⟨#[59]⟩ : ByteArray), (⟨#[46]⟩ : ByteArray), (⟨#[47]⟩ : ByteArray), (⟨#[61]⟩ : ByteArray), (⟨#[60]⟩ : ByteArray), (⟨#[43]⟩ : ByteArray), (⟨#[45]⟩ : ByteArray), (⟨#[42]⟩ : ByteArray), (⟨#[37]⟩ : ByteArray)] : List ByteArray)) 0
theorem aY.mono_l : ∀ k, (∀ y0 y1 y2 y3, LeO (aY.l0 k y0 y1 y2 y3) (aY.l0 (k + 1) y0 y1 y2 y3))
 | 0 => fun _ _ _ _ r h => by simp [aY.l0] at h
 | k + 1 => by
  have ih0 := aY.mono_l k
  intro y0 y1 y2 y3
  unfold aY.l0
  exact yL
theorem aY.mono : ∀ a0 a1 k, LeO (aY.f k a0 a1) (aY.f (k + 1) a0 a1) := by
 intro a0 a1 k
 have ih0 := aY.mono_l k
 unfold aY.f
 exact yL
set_option maxHeartbeats 8000000 in
set_option maxRecDepth 100000 in
theorem aY.calls (k : Nat) (a0 : ByteArray) (a1 : Int) (r : Int) (w : World) (h : aY.f k a0 a1 = some r) :
 Calls Try.prog 67 #[.string a0, .int .i64 a1] w fun e w' => e = .returned (.int .i64 r) ∧ Below w.heap.size w w' := by
 have HB := Aside0.mk (Below.refl w.heap.size w)
 have H := h
 clear h
 unfold aY.f at H
 obtain ⟨y844, hy844⟩ : ∃ y_ : List ByteArray, y_ = (([(⟨#[61, 61]⟩ : ByteArray), (⟨#[33, 61]⟩ : ByteArray), (⟨#[60, 61]⟩ : ByteArray), (⟨#[46, 46]⟩ : ByteArray), (⟨#[40]⟩ : ByteArray), (⟨#[41]⟩ : ByteArray), (⟨#[123]⟩ : ByteArray), (⟨#[125]⟩ : ByteArray), (⟨#[91]⟩ : ByteArray), (⟨#[93]⟩ : ByteArray), (⟨#[44]⟩ : ByteArray), (⟨#[59]⟩ : ByteArray), (⟨#[46]⟩ : ByteArray), (⟨#[47]⟩ : ByteArray), (⟨#[61]⟩ : ByteArray), (⟨#[60]⟩ : ByteArray), (⟨#[43]⟩ : ByteArray), (⟨#[45]⟩ : ByteArray), (⟨#[42]⟩ : ByteArray), (⟨#[37]⟩ : ByteArray)] : List ByteArray)) := ⟨_, rfl⟩
 replace H : (aY.l0 k a0 a1 y844 0) = some r := by first | (rw [hy844]; with_reducible exact H) | (have H2_ := (Option.bind_some _ _).symm.trans H; rw [hy844]; with_reducible exact H2_) | (have H2_ := (Option.bind_some _ _).symm.trans H; with_reducible exact H2_) | with_reducible exact H | (rw [hy844]; exact H) | exact H
 have Ny844 := Aside0.mk hy844
 clear hy844
 have H' := Aside0.mk H
 clear H
 go_enter Try.func67, Try.ntmps67
 go_wp2_with (first | ((with_reducible refine bJ (N := 7) rfl ?_); (try (refine lC (by rfl) ?_; dsimp only)); refine Kd.vU Kd.string _ 9 ?hg (N := 7) ?hd (xs := ([(⟨#[61, 61]⟩ : ByteArray), (⟨#[33, 61]⟩ : ByteArray), (⟨#[60, 61]⟩ : ByteArray), (⟨#[46, 46]⟩ : ByteArray), (⟨#[40]⟩ : ByteArray), (⟨#[41]⟩ : ByteArray), (⟨#[123]⟩ : ByteArray), (⟨#[125]⟩ : ByteArray), (⟨#[91]⟩ : ByteArray), (⟨#[93]⟩ : ByteArray), (⟨#[44]⟩ : ByteArray), (⟨#[59]⟩ : ByteArray), (⟨#[46]⟩ : ByteArray), (⟨#[47]⟩ : ByteArray), (⟨#[61]⟩ : ByteArray), (⟨#[60]⟩ : ByteArray), (⟨#[43]⟩ : ByteArray), (⟨#[45]⟩ : ByteArray), (⟨#[42]⟩ : ByteArray), (⟨#[37]⟩ : ByteArray)] : List ByteArray)) (inner := [.string (⟨#[61, 61]⟩ : ByteArray), .string (⟨#[33, 61]⟩ : ByteArray), .string (⟨#[60, 61]⟩ : ByteArray), .string (⟨#[46, 46]⟩ : ByteArray), .string (⟨#[40]⟩ : ByteArray), .string (⟨#[41]⟩ : ByteArray), .string (⟨#[123]⟩ : ByteArray), .string (⟨#[125]⟩ : ByteArray), .string (⟨#[91]⟩ : ByteArray), .string (⟨#[93]⟩ : ByteArray), .string (⟨#[44]⟩ : ByteArray), .string (⟨#[59]⟩ : ByteArray), .string (⟨#[46]⟩ : ByteArray), .string (⟨#[47]⟩ : ByteArray), .string (⟨#[61]⟩ : ByteArray), .string (⟨#[60]⟩ : ByteArray), .string (⟨#[43]⟩ : ByteArray), .string (⟨#[45]⟩ : ByteArray), .string (⟨#[42]⟩ : ByteArray), .string (⟨#[37]⟩ : ByteArray)]) (ok := fun _ => True) (okp := fun _ => True) ?hr ?hp (fun _ hk => hk) trivial (Below.refl _ _) (Nat.le_refl _) (by simp) ?_; (case hd => rfl); (case hg => rfl); (case hr => first | (go_simp; done) | (go_simp; rfl)); (case hp => exact (bT.one (show Kd.M Kd.string _ _ _ (⟨#[61, 61]⟩ : ByteArray) [.string (⟨#[61, 61]⟩ : ByteArray)] from rfl) (bT.one (show Kd.M Kd.string _ _ _ (⟨#[33, 61]⟩ : ByteArray) [.string (⟨#[33, 61]⟩ : ByteArray)] from rfl) (bT.one (show Kd.M Kd.string _ _ _ (⟨#[60, 61]⟩ : ByteArray) [.string (⟨#[60, 61]⟩ : ByteArray)] from rfl) (bT.one (show Kd.M Kd.string _ _ _ (⟨#[46, 46]⟩ : ByteArray) [.string (⟨#[46, 46]⟩ : ByteArray)] from rfl) (bT.one (show Kd.M Kd.string _ _ _ (⟨#[40]⟩ : ByteArray) [.string (⟨#[40]⟩ : ByteArray)] from rfl) (bT.one (show Kd.M Kd.string _ _ _ (⟨#[41]⟩ : ByteArray) [.string (⟨#[41]⟩ : ByteArray)] from rfl) (bT.one (show Kd.M Kd.string _ _ _ (⟨#[123]⟩ : ByteArray) [.string (⟨#[123]⟩ : ByteArray)] from rfl) (bT.one (show Kd.M Kd.string _ _ _ (⟨#[125]⟩ : ByteArray) [.string (⟨#[125]⟩ : ByteArray)] from rfl) (bT.one (show Kd.M Kd.string _ _ _ (⟨#[91]⟩ : ByteArray) [.string (⟨#[91]⟩ : ByteArray)] from rfl) (bT.one (show Kd.M Kd.string _ _ _ (⟨#[93]⟩ : ByteArray) [.string (⟨#[93]⟩ : ByteArray)] from rfl) (bT.one (show Kd.M Kd.string _ _ _ (⟨#[44]⟩ : ByteArray) [.string (⟨#[44]⟩ : ByteArray)] from rfl) (bT.one (show Kd.M Kd.string _ _ _ (⟨#[59]⟩ : ByteArray) [.string (⟨#[59]⟩ : ByteArray)] from rfl) (bT.one (show Kd.M Kd.string _ _ _ (⟨#[46]⟩ : ByteArray) [.string (⟨#[46]⟩ : ByteArray)] from rfl) (bT.one (show Kd.M Kd.string _ _ _ (⟨#[47]⟩ : ByteArray) [.string (⟨#[47]⟩ : ByteArray)] from rfl) (bT.one (show Kd.M Kd.string _ _ _ (⟨#[61]⟩ : ByteArray) [.string (⟨#[61]⟩ : ByteArray)] from rfl) (bT.one (show Kd.M Kd.string _ _ _ (⟨#[60]⟩ : ByteArray) [.string (⟨#[60]⟩ : ByteArray)] from rfl) (bT.one (show Kd.M Kd.string _ _ _ (⟨#[43]⟩ : ByteArray) [.string (⟨#[43]⟩ : ByteArray)] from rfl) (bT.one (show Kd.M Kd.string _ _ _ (⟨#[45]⟩ : ByteArray) [.string (⟨#[45]⟩ : ByteArray)] from rfl) (bT.one (show Kd.M Kd.string _ _ _ (⟨#[42]⟩ : ByteArray) [.string (⟨#[42]⟩ : ByteArray)] from rfl) (bT.one (show Kd.M Kd.string _ _ _ (⟨#[37]⟩ : ByteArray) [.string (⟨#[37]⟩ : ByteArray)] from rfl) (bT.none _ _)))))))))))))))))))))); intro v845 w3 ho4 hb hg_ hnew_; clear hg_ hnew_; (first | rw [← Ny844.out] at ho4 | (simp only [Int.reduceToNat] at ho4; rw [← Ny844.out] at ho4)); refine yA2 (Kd.R_lower ho4 (below_size Z3)) (below_step Z3 hb) ?_; clear HB; intro HO846 HB; clear hb ho4))
 repeat (go_quiet (first | ((with_reducible refine bJ (N := 7) rfl ?_); (try (refine lC (by rfl) ?_; dsimp only)); refine Kd.vU Kd.string _ 9 ?hg (N := 7) ?hd (xs := ([(⟨#[61, 61]⟩ : ByteArray), (⟨#[33, 61]⟩ : ByteArray), (⟨#[60, 61]⟩ : ByteArray), (⟨#[46, 46]⟩ : ByteArray), (⟨#[40]⟩ : ByteArray), (⟨#[41]⟩ : ByteArray), (⟨#[123]⟩ : ByteArray), (⟨#[125]⟩ : ByteArray), (⟨#[91]⟩ : ByteArray), (⟨#[93]⟩ : ByteArray), (⟨#[44]⟩ : ByteArray), (⟨#[59]⟩ : ByteArray), (⟨#[46]⟩ : ByteArray), (⟨#[47]⟩ : ByteArray), (⟨#[61]⟩ : ByteArray), (⟨#[60]⟩ : ByteArray), (⟨#[43]⟩ : ByteArray), (⟨#[45]⟩ : ByteArray), (⟨#[42]⟩ : ByteArray), (⟨#[37]⟩ : ByteArray)] : List ByteArray)) (inner := [.string (⟨#[61, 61]⟩ : ByteArray), .string (⟨#[33, 61]⟩ : ByteArray), .string (⟨#[60, 61]⟩ : ByteArray), .string (⟨#[46, 46]⟩ : ByteArray), .string (⟨#[40]⟩ : ByteArray), .string (⟨#[41]⟩ : ByteArray), .string (⟨#[123]⟩ : ByteArray), .string (⟨#[125]⟩ : ByteArray), .string (⟨#[91]⟩ : ByteArray), .string (⟨#[93]⟩ : ByteArray), .string (⟨#[44]⟩ : ByteArray), .string (⟨#[59]⟩ : ByteArray), .string (⟨#[46]⟩ : ByteArray), .string (⟨#[47]⟩ : ByteArray), .string (⟨#[61]⟩ : ByteArray), .string (⟨#[60]⟩ : ByteArray), .string (⟨#[43]⟩ : ByteArray), .string (⟨#[45]⟩ : ByteArray), .string (⟨#[42]⟩ : ByteArray), .string (⟨#[37]⟩ : ByteArray)]) (ok := fun _ => True) (okp := fun _ => True) ?hr ?hp (fun _ hk => hk) trivial (Below.refl _ _) (Nat.le_refl _) (by simp) ?_; (case hd => rfl); (case hg => rfl); (case hr => first | (go_simp; done) | (go_simp; rfl)); (case hp => exact (bT.one (show Kd.M Kd.string _ _ _ (⟨#[61, 61]⟩ : ByteArray) [.string (⟨#[61, 61]⟩ : ByteArray)] from rfl) (bT.one (show Kd.M Kd.string _ _ _ (⟨#[33, 61]⟩ : ByteArray) [.string (⟨#[33, 61]⟩ : ByteArray)] from rfl) (bT.one (show Kd.M Kd.string _ _ _ (⟨#[60, 61]⟩ : ByteArray) [.string (⟨#[60, 61]⟩ : ByteArray)] from rfl) (bT.one (show Kd.M Kd.string _ _ _ (⟨#[46, 46]⟩ : ByteArray) [.string (⟨#[46, 46]⟩ : ByteArray)] from rfl) (bT.one (show Kd.M Kd.string _ _ _ (⟨#[40]⟩ : ByteArray) [.string (⟨#[40]⟩ : ByteArray)] from rfl) (bT.one (show Kd.M Kd.string _ _ _ (⟨#[41]⟩ : ByteArray) [.string (⟨#[41]⟩ : ByteArray)] from rfl) (bT.one (show Kd.M Kd.string _ _ _ (⟨#[123]⟩ : ByteArray) [.string (⟨#[123]⟩ : ByteArray)] from rfl) (bT.one (show Kd.M Kd.string _ _ _ (⟨#[125]⟩ : ByteArray) [.string (⟨#[125]⟩ : ByteArray)] from rfl) (bT.one (show Kd.M Kd.string _ _ _ (⟨#[91]⟩ : ByteArray) [.string (⟨#[91]⟩ : ByteArray)] from rfl) (bT.one (show Kd.M Kd.string _ _ _ (⟨#[93]⟩ : ByteArray) [.string (⟨#[93]⟩ : ByteArray)] from rfl) (bT.one (show Kd.M Kd.string _ _ _ (⟨#[44]⟩ : ByteArray) [.string (⟨#[44]⟩ : ByteArray)] from rfl) (bT.one (show Kd.M Kd.string _ _ _ (⟨#[59]⟩ : ByteArray) [.string (⟨#[59]⟩ : ByteArray)] from rfl) (bT.one (show Kd.M Kd.string _ _ _ (⟨#[46]⟩ : ByteArray) [.string (⟨#[46]⟩ : ByteArray)] from rfl) (bT.one (show Kd.M Kd.string _ _ _ (⟨#[47]⟩ : ByteArray) [.string (⟨#[47]⟩ : ByteArray)] from rfl) (bT.one (show Kd.M Kd.string _ _ _ (⟨#[61]⟩ : ByteArray) [.string (⟨#[61]⟩ : ByteArray)] from rfl) (bT.one (show Kd.M Kd.string _ _ _ (⟨#[60]⟩ : ByteArray) [.string (⟨#[60]⟩ : ByteArray)] from rfl) (bT.one (show Kd.M Kd.string _ _ _ (⟨#[43]⟩ : ByteArray) [.string (⟨#[43]⟩ : ByteArray)] from rfl) (bT.one (show Kd.M Kd.string _ _ _ (⟨#[45]⟩ : ByteArray) [.string (⟨#[45]⟩ : ByteArray)] from rfl) (bT.one (show Kd.M Kd.string _ _ _ (⟨#[42]⟩ : ByteArray) [.string (⟨#[42]⟩ : ByteArray)] from rfl) (bT.one (show Kd.M Kd.string _ _ _ (⟨#[37]⟩ : ByteArray) [.string (⟨#[37]⟩ : ByteArray)] from rfl) (bT.none _ _)))))))))))))))))))))); intro v845 w3 ho4 hb hg_ hnew_; clear hg_ hnew_; (first | rw [← Ny844.out] at ho4 | (simp only [Int.reduceToNat] at ho4; rw [← Ny844.out] at ho4)); refine yA2 (Kd.R_lower ho4 (below_size Z3)) (below_step Z3 hb) ?_; clear HB; intro HO846 HB; clear hb ho4)); try go_wp2_with (first | ((with_reducible refine bJ (N := 7) rfl ?_); (try (refine lC (by rfl) ?_; dsimp only)); refine Kd.vU Kd.string _ 9 ?hg (N := 7) ?hd (xs := ([(⟨#[61, 61]⟩ : ByteArray), (⟨#[33, 61]⟩ : ByteArray), (⟨#[60, 61]⟩ : ByteArray), (⟨#[46, 46]⟩ : ByteArray), (⟨#[40]⟩ : ByteArray), (⟨#[41]⟩ : ByteArray), (⟨#[123]⟩ : ByteArray), (⟨#[125]⟩ : ByteArray), (⟨#[91]⟩ : ByteArray), (⟨#[93]⟩ : ByteArray), (⟨#[44]⟩ : ByteArray), (⟨#[59]⟩ : ByteArray), (⟨#[46]⟩ : ByteArray), (⟨#[47]⟩ : ByteArray), (⟨#[61]⟩ : ByteArray), (⟨#[60]⟩ : ByteArray), (⟨#[43]⟩ : ByteArray), (⟨#[45]⟩ : ByteArray), (⟨#[42]⟩ : ByteArray), (⟨#[37]⟩ : ByteArray)] : List ByteArray)) (inner := [.string (⟨#[61, 61]⟩ : ByteArray), .string (⟨#[33, 61]⟩ : ByteArray), .string (⟨#[60, 61]⟩ : ByteArray), .string (⟨#[46, 46]⟩ : ByteArray), .string (⟨#[40]⟩ : ByteArray), .string (⟨#[41]⟩ : ByteArray), .string (⟨#[123]⟩ : ByteArray), .string (⟨#[125]⟩ : ByteArray), .string (⟨#[91]⟩ : ByteArray), .string (⟨#[93]⟩ : ByteArray), .string (⟨#[44]⟩ : ByteArray), .string (⟨#[59]⟩ : ByteArray), .string (⟨#[46]⟩ : ByteArray), .string (⟨#[47]⟩ : ByteArray), .string (⟨#[61]⟩ : ByteArray), .string (⟨#[60]⟩ : ByteArray), .string (⟨#[43]⟩ : ByteArray), .string (⟨#[45]⟩ : ByteArray), .string (⟨#[42]⟩ : ByteArray), .string (⟨#[37]⟩ : ByteArray)]) (ok := fun _ => True) (okp := fun _ => True) ?hr ?hp (fun _ hk => hk) trivial (Below.refl _ _) (Nat.le_refl _) (by simp) ?_; (case hd => rfl); (case hg => rfl); (case hr => first | (go_simp; done) | (go_simp; rfl)); (case hp => exact (bT.one (show Kd.M Kd.string _ _ _ (⟨#[61, 61]⟩ : ByteArray) [.string (⟨#[61, 61]⟩ : ByteArray)] from rfl) (bT.one (show Kd.M Kd.string _ _ _ (⟨#[33, 61]⟩ : ByteArray) [.string (⟨#[33, 61]⟩ : ByteArray)] from rfl) (bT.one (show Kd.M Kd.string _ _ _ (⟨#[60, 61]⟩ : ByteArray) [.string (⟨#[60, 61]⟩ : ByteArray)] from rfl) (bT.one (show Kd.M Kd.string _ _ _ (⟨#[46, 46]⟩ : ByteArray) [.string (⟨#[46, 46]⟩ : ByteArray)] from rfl) (bT.one (show Kd.M Kd.string _ _ _ (⟨#[40]⟩ : ByteArray) [.string (⟨#[40]⟩ : ByteArray)] from rfl) (bT.one (show Kd.M Kd.string _ _ _ (⟨#[41]⟩ : ByteArray) [.string (⟨#[41]⟩ : ByteArray)] from rfl) (bT.one (show Kd.M Kd.string _ _ _ (⟨#[123]⟩ : ByteArray) [.string (⟨#[123]⟩ : ByteArray)] from rfl) (bT.one (show Kd.M Kd.string _ _ _ (⟨#[125]⟩ : ByteArray) [.string (⟨#[125]⟩ : ByteArray)] from rfl) (bT.one (show Kd.M Kd.string _ _ _ (⟨#[91]⟩ : ByteArray) [.string (⟨#[91]⟩ : ByteArray)] from rfl) (bT.one (show Kd.M Kd.string _ _ _ (⟨#[93]⟩ : ByteArray) [.string (⟨#[93]⟩ : ByteArray)] from rfl) (bT.one (show Kd.M Kd.string _ _ _ (⟨#[44]⟩ : ByteArray) [.string (⟨#[44]⟩ : ByteArray)] from rfl) (bT.one (show Kd.M Kd.string _ _ _ (⟨#[59]⟩ : ByteArray) [.string (⟨#[59]⟩ : ByteArray)] from rfl) (bT.one (show Kd.M Kd.string _ _ _ (⟨#[46]⟩ : ByteArray) [.string (⟨#[46]⟩ : ByteArray)] from rfl) (bT.one (show Kd.M Kd.string _ _ _ (⟨#[47]⟩ : ByteArray) [.string (⟨#[47]⟩ : ByteArray)] from rfl) (bT.one (show Kd.M Kd.string _ _ _ (⟨#[61]⟩ : ByteArray) [.string (⟨#[61]⟩ : ByteArray)] from rfl) (bT.one (show Kd.M Kd.string _ _ _ (⟨#[60]⟩ : ByteArray) [.string (⟨#[60]⟩ : ByteArray)] from rfl) (bT.one (show Kd.M Kd.string _ _ _ (⟨#[43]⟩ : ByteArray) [.string (⟨#[43]⟩ : ByteArray)] from rfl) (bT.one (show Kd.M Kd.string _ _ _ (⟨#[45]⟩ : ByteArray) [.string (⟨#[45]⟩ : ByteArray)] from rfl) (bT.one (show Kd.M Kd.string _ _ _ (⟨#[42]⟩ : ByteArray) [.string (⟨#[42]⟩ : ByteArray)] from rfl) (bT.one (show Kd.M Kd.string _ _ _ (⟨#[37]⟩ : ByteArray) [.string (⟨#[37]⟩ : ByteArray)] from rfl) (bT.none _ _)))))))))))))))))))))); intro v845 w3 ho4 hb hg_ hnew_; clear hg_ hnew_; (first | rw [← Ny844.out] at ho4 | (simp only [Int.reduceToNat] at ho4; rw [← Ny844.out] at ho4)); refine yA2 (Kd.R_lower ho4 (below_size Z3)) (below_step Z3 hb) ?_; clear HB; intro HO846 HB; clear hb ho4)))
 go_loopg [6] k (fun kq v6 w' => ∃ (x6_1 : Int), v6 = .int .i64 x6_1 ∧ Aside0 (aY.l0 kq a0 a1 y844 x6_1 = some r) ∧ Aside0 (kq ≤ k) ∧ Aside0 (Kd.R Kd.string 9 w' w.heap.size (fun _ => True) v845 y844) ∧ Aside0 (Below w.heap.size w w'))
 case atStart => exact ⟨(0), Z6, H', ⟨Nat.le_refl _⟩, ⟨by (with_reducible repeat (first | apply Kd.R_alloc | apply Kd.R_drewN | apply Kd.R_drew)); exact HO846.out⟩, ⟨Z3⟩⟩
 case round =>
  clear H'
  try clear p2
  obtain ⟨x6_1, rfl, HA, HK1, HO_5, HB⟩ := hrel
  cases gk with
  | zero => exact absurd HA.out (by simp [aY.l0])
  | succ k1 =>
   have H := HA.out
   clear HA
   simp only [aY.l0] at H
   revert H
   refine fO (fun c5b0 H => ?_) fun c5b0 H => ?_
   ·revert H
    refine eQ (fun c6b0 H => ?_) fun c6 H => ?_
    ·revert H
     refine dX (fun c7 H => ?_) fun c7 H => ?_
     ·have c7b0 : decide (((oN ByteArray.empty y844 x6_1).size : Int) ≤ (wrap64 ((a0.size : Int) - a1))) = true := decide_eq_true c7
      clear c7
      revert H
      refine fU (fun c8b0 c8b1 H => ?_) fun c8 H => ?_
      ·revert H
       refine fB (fun c9 c9b0 c9b1 H => ?_) fun c9 H => ?_
       ·revert H
        refine fB (fun c10 c10b0 c10b1 H => ?_) fun c10 H => ?_
        ·revert H
         refine aJ (fun c11b0 c11b1 H => ?_) fun c11 c11b0 c11b1 H => ?_
         ·obtain rfl := Option.some.inj H
          obtain ⟨Ao12, co12, eo12⟩ := Kd.R_slice HO_5.out
          subst eo12
          have p847 : 0 ≤ (x6_1 : Int) := of_decide_eq_true Z5
          have q847 : x6_1 < (y844.length : Int) := of_decide_eq_true Z5
          obtain ⟨ad847, e847, hx847_0⟩ := Kd.je (Kd.R_reads' HO_5.out).2.2 x6_1 p847 q847
          cases e847
          replace p847 := eq_true p847
          replace q847 := eq_true q847
          have p848 : 0 ≤ (x6_1 : Int) := of_decide_eq_true Z5
          have q848 : x6_1 < (y844.length : Int) := of_decide_eq_true Z5
          obtain ⟨ad848, e848, hx848_0⟩ := Kd.je (Kd.R_reads' HO_5.out).2.2 x6_1 p848 q848
          obtain rfl : ad847 = ad848 := (by injection e848)
          replace p848 := eq_true p848
          replace q848 := eq_true q848
          have p849 : 0 ≤ (x6_1 : Int) := of_decide_eq_true Z5
          have q849 : x6_1 < (y844.length : Int) := of_decide_eq_true Z5
          obtain ⟨ad849, e849, hx849_0⟩ := Kd.je (Kd.R_reads' HO_5.out).2.2 x6_1 p849 q849
          obtain rfl : ad847 = ad849 := (by injection e849)
          replace p849 := eq_true p849
          replace q849 := eq_true q849
          have p850 : 0 ≤ (x6_1 : Int) := of_decide_eq_true Z5
          have q850 : x6_1 < (y844.length : Int) := of_decide_eq_true Z5
          obtain ⟨ad850, e850, hx850_0⟩ := Kd.je (Kd.R_reads' HO_5.out).2.2 x6_1 p850 q850
          obtain rfl : ad847 = ad850 := (by injection e850)
          replace p850 := eq_true p850
          replace q850 := eq_true q850
          go_wp2
          repeat (go_quiet (fail); try go_wp2)
          go_ret
          exact ⟨Z4, Z3⟩
         have H' := Aside0.mk H
         clear H
         obtain ⟨Ao13, co13, eo13⟩ := Kd.R_slice HO_5.out
         subst eo13
         have p847 : 0 ≤ (x6_1 : Int) := of_decide_eq_true Z5
         have q847 : x6_1 < (y844.length : Int) := of_decide_eq_true Z5
         obtain ⟨ad847, e847, hx847_0⟩ := Kd.je (Kd.R_reads' HO_5.out).2.2 x6_1 p847 q847
         cases e847
         replace p847 := eq_true p847
         replace q847 := eq_true q847
         have p848 : 0 ≤ (x6_1 : Int) := of_decide_eq_true Z5
         have q848 : x6_1 < (y844.length : Int) := of_decide_eq_true Z5
         obtain ⟨ad848, e848, hx848_0⟩ := Kd.je (Kd.R_reads' HO_5.out).2.2 x6_1 p848 q848
         obtain rfl : ad847 = ad848 := (by injection e848)
         replace p848 := eq_true p848
         replace q848 := eq_true q848
         have p849 : 0 ≤ (x6_1 : Int) := of_decide_eq_true Z5
         have q849 : x6_1 < (y844.length : Int) := of_decide_eq_true Z5
         obtain ⟨ad849, e849, hx849_0⟩ := Kd.je (Kd.R_reads' HO_5.out).2.2 x6_1 p849 q849
         obtain rfl : ad847 = ad849 := (by injection e849)
         replace p849 := eq_true p849
         replace q849 := eq_true q849
         go_wp2
         repeat (go_quiet (fail); try go_wp2)
         go_roundg k1
         case measure => have := HK1.out; omega
         case rel => exact ⟨(wrap64 (x6_1 + 1)), Z6, H', ⟨by have := HK1.out; omega⟩, ⟨Z19⟩, ⟨Z3⟩⟩
        exact absurd H (by simp)
       exact absurd H (by simp)
      exact absurd H (by simp)
     have c7b0 : decide (((oN ByteArray.empty y844 x6_1).size : Int) ≤ (wrap64 ((a0.size : Int) - a1))) = false := decide_eq_false c7
     clear c7
     have H' := Aside0.mk H
     clear H
     obtain ⟨Ao14, co14, eo14⟩ := Kd.R_slice HO_5.out
     subst eo14
     have p847 : 0 ≤ (x6_1 : Int) := of_decide_eq_true Z5
     have q847 : x6_1 < (y844.length : Int) := of_decide_eq_true Z5
     obtain ⟨ad847, e847, hx847_0⟩ := Kd.je (Kd.R_reads' HO_5.out).2.2 x6_1 p847 q847
     cases e847
     replace p847 := eq_true p847
     replace q847 := eq_true q847
     go_wp2
     repeat (go_quiet (fail); try go_wp2)
     go_roundg k1
     case measure => have := HK1.out; omega
     case rel => exact ⟨(wrap64 (x6_1 + 1)), Z6, H', ⟨by have := HK1.out; omega⟩, ⟨Z19⟩, ⟨Z3⟩⟩
    exact absurd H (by simp)
   obtain rfl := Option.some.inj H
   obtain ⟨Ao15, co15, eo15⟩ := Kd.R_slice HO_5.out
   subst eo15
   go_wp2
   repeat (go_quiet (fail); try go_wp2)
   go_ret
   exact ⟨Z4, Z3⟩
end Go.Proofs.Ytendgafpkeadhaa.Q
end
