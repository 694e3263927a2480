/- Walks over functions of the program, words for them, and what the functions come to; of each text only what this claim uses; no condition. -/
import Derived.Test.YtkbhkonenkgfoaaGreatZPX0
import Derived.Test.YtkbhkonenkgfoaaGreatZPX1
import Derived.Test.YtkbhkonenkgfoaaGreatZPX3
import Derived.Test.YtkbhkonenkgfoaaGreatZPX8
section
namespace Go.Proofs.YtkbhkonenkgfoaaGreat.Q
open Go.RowKit Go.Proofs.YtkbhkonenkgfoaaGreatW.PrintWords Go.Proofs.YtkbhkonenkgfoaaGreatW.PrintLast Go.Proofs.YtkbhkonenkgfoaaGreatW.PrintMore
attribute [local go_sem] dJ dH dW dV dh df dI dG
set_option linter.unusedVariables false
set_option linter.unusedSimpArgs false
/-! ### cu: function 58 -/
def cu.l0 : Nat → ByteArray → List ByteArray → Int → Option (Bool)
 | 0, _, _, _ => none
 | k + 1, x0, x3, x4 => if x4 < (x3.length : Int) then (if 0 ≤ x4 then (if (lZ ByteArray.empty x3 x4).toList = x0.toList then (some true) else (cu.l0 k x0 x3 (wrap64 (x4 + 1)))) else (none)) else (some false)
def cu.f (k : Nat) (a0 : ByteArray) : Option (Bool) := cu.l0 k a0 (([(⟨#[109, 111, 100, 117, 108, 101]⟩ : ByteArray), (⟨#[117, 115, 101]⟩ : ByteArray), (⟨#[102, 110]⟩ : ByteArray), (⟨#[108, 101, 116]⟩ : ByteArray), (⟨#[105, 102]⟩ : ByteArray), (⟨#[101, 108, 115, 101]⟩ : ByteArray), (⟨#[119, 104, 105, 108, 101]⟩ : ByteArray), (⟨#[98, 114, 101, 97, 107]⟩ : ByteArray), (⟨#[99, 111, 110, 116, 105, 110, 117, 101]⟩ : ByteArray), (⟨#[114, 101, 116, 117, 114, 110]⟩ : ByteArray), (⟨#[112, 117, 116]⟩ : ByteArray), (⟨#[101, 109, 105, 116]⟩ : ByteArray), (⟨#[121, 105, 101, 108, 100]⟩ : ByteArray), (⟨#[110, 105, 108]⟩ : ByteArray), (⟨#[115, 116, 97, 116, 101]⟩ : ByteArray), (⟨#[115, 112, 97, 119, 110]⟩ : ByteArray), (⟨#[108, 101, 110]⟩ : ByteArray), (⟨#[110, 111, 116]⟩ : ByteArray), (⟨#[97, 110, 100]⟩ : ByteArray), (⟨#[111, 114]⟩ : ByteArray)] : List ByteArray)) 0
theorem cu.bP : ∀ k, (∀ y0 y1 y2, LeO (cu.l0 k y0 y1 y2) (cu.l0 (k + 1) y0 y1 y2))
 | 0 => fun _ _ _ r h => by simp [cu.l0] at h
 | k + 1 => by
  have ih0 := cu.bP k
  intro y0 y1 y2
  unfold cu.l0
  exact yL
theorem cu.mono : ∀ a0 k, LeO (cu.f k a0) (cu.f (k + 1) a0) := by
 intro a0 k
 have ih0 := cu.bP k
 unfold cu.f
 exact yL
set_option maxHeartbeats 8000000 in
set_option maxRecDepth 100000 in
theorem cu.calls (k : Nat) (a0 : ByteArray) (r : Bool) (w : World) (h : cu.f k a0 = some r) :
 Calls Tryz.prog 58 #[.string a0] w fun e w' => e = .returned (.bool r) ∧ Below w.heap.size w w' := by
 have HB := ae.mk (Below.refl w.heap.size w)
 have H := h
 clear h
 unfold cu.f at H
 obtain ⟨y1191, hy1191⟩ : ∃ y_ : List ByteArray, y_ = (([(⟨#[109, 111, 100, 117, 108, 101]⟩ : ByteArray), (⟨#[117, 115, 101]⟩ : ByteArray), (⟨#[102, 110]⟩ : ByteArray), (⟨#[108, 101, 116]⟩ : ByteArray), (⟨#[105, 102]⟩ : ByteArray), (⟨#[101, 108, 115, 101]⟩ : ByteArray), (⟨#[119, 104, 105, 108, 101]⟩ : ByteArray), (⟨#[98, 114, 101, 97, 107]⟩ : ByteArray), (⟨#[99, 111, 110, 116, 105, 110, 117, 101]⟩ : ByteArray), (⟨#[114, 101, 116, 117, 114, 110]⟩ : ByteArray), (⟨#[112, 117, 116]⟩ : ByteArray), (⟨#[101, 109, 105, 116]⟩ : ByteArray), (⟨#[121, 105, 101, 108, 100]⟩ : ByteArray), (⟨#[110, 105, 108]⟩ : ByteArray), (⟨#[115, 116, 97, 116, 101]⟩ : ByteArray), (⟨#[115, 112, 97, 119, 110]⟩ : ByteArray), (⟨#[108, 101, 110]⟩ : ByteArray), (⟨#[110, 111, 116]⟩ : ByteArray), (⟨#[97, 110, 100]⟩ : ByteArray), (⟨#[111, 114]⟩ : ByteArray)] : List ByteArray)) := ⟨_, rfl⟩
 replace H : (cu.l0 k a0 y1191 0) = some r := by first | (rw [hy1191]; with_reducible exact H) | (have H2_ := (Option.bind_some _ _).symm.trans H; rw [hy1191]; with_reducible exact H2_) | (have H2_ := (Option.bind_some _ _).symm.trans H; with_reducible exact H2_) | with_reducible exact H | (rw [hy1191]; exact H) | exact H
 have Ny1191 := ae.mk hy1191
 clear hy1191
 have H' := ae.mk H
 clear H
 go_enter Tryz.func58, Tryz.ntmps58
 go_wp2_with (first | ((with_reducible refine bH (N := 5) rfl ?_); refine Kd.oH Kd.string _ 9 ?hg (N := 5) ?hd (xs := ([(⟨#[109, 111, 100, 117, 108, 101]⟩ : ByteArray), (⟨#[117, 115, 101]⟩ : ByteArray), (⟨#[102, 110]⟩ : ByteArray), (⟨#[108, 101, 116]⟩ : ByteArray), (⟨#[105, 102]⟩ : ByteArray), (⟨#[101, 108, 115, 101]⟩ : ByteArray), (⟨#[119, 104, 105, 108, 101]⟩ : ByteArray), (⟨#[98, 114, 101, 97, 107]⟩ : ByteArray), (⟨#[99, 111, 110, 116, 105, 110, 117, 101]⟩ : ByteArray), (⟨#[114, 101, 116, 117, 114, 110]⟩ : ByteArray), (⟨#[112, 117, 116]⟩ : ByteArray), (⟨#[101, 109, 105, 116]⟩ : ByteArray), (⟨#[121, 105, 101, 108, 100]⟩ : ByteArray), (⟨#[110, 105, 108]⟩ : ByteArray), (⟨#[115, 116, 97, 116, 101]⟩ : ByteArray), (⟨#[115, 112, 97, 119, 110]⟩ : ByteArray), (⟨#[108, 101, 110]⟩ : ByteArray), (⟨#[110, 111, 116]⟩ : ByteArray), (⟨#[97, 110, 100]⟩ : ByteArray), (⟨#[111, 114]⟩ : ByteArray)] : List ByteArray)) (inner := [.string (⟨#[109, 111, 100, 117, 108, 101]⟩ : ByteArray), .string (⟨#[117, 115, 101]⟩ : ByteArray), .string (⟨#[102, 110]⟩ : ByteArray), .string (⟨#[108, 101, 116]⟩ : ByteArray), .string (⟨#[105, 102]⟩ : ByteArray), .string (⟨#[101, 108, 115, 101]⟩ : ByteArray), .string (⟨#[119, 104, 105, 108, 101]⟩ : ByteArray), .string (⟨#[98, 114, 101, 97, 107]⟩ : ByteArray), .string (⟨#[99, 111, 110, 116, 105, 110, 117, 101]⟩ : ByteArray), .string (⟨#[114, 101, 116, 117, 114, 110]⟩ : ByteArray), .string (⟨#[112, 117, 116]⟩ : ByteArray), .string (⟨#[101, 109, 105, 116]⟩ : ByteArray), .string (⟨#[121, 105, 101, 108, 100]⟩ : ByteArray), .string (⟨#[110, 105, 108]⟩ : ByteArray), .string (⟨#[115, 116, 97, 116, 101]⟩ : ByteArray), .string (⟨#[115, 112, 97, 119, 110]⟩ : ByteArray), .string (⟨#[108, 101, 110]⟩ : ByteArray), .string (⟨#[110, 111, 116]⟩ : ByteArray), .string (⟨#[97, 110, 100]⟩ : ByteArray), .string (⟨#[111, 114]⟩ : ByteArray)]) (ok := fun _ => True) (okp := fun _ => True) ?hr ?hp (fun _ hk => hk) trivial (Below.refl _ _) (Nat.le_refl _) (by simp) ?_; (case hd => rfl); (case hg => rfl); (case hr => first | (go_simp; done) | (go_simp; rfl)); (case hp => exact (dQ.one (show Kd.M Kd.string _ _ _ (⟨#[109, 111, 100, 117, 108, 101]⟩ : ByteArray) [.string (⟨#[109, 111, 100, 117, 108, 101]⟩ : ByteArray)] from rfl) (dQ.one (show Kd.M Kd.string _ _ _ (⟨#[117, 115, 101]⟩ : ByteArray) [.string (⟨#[117, 115, 101]⟩ : ByteArray)] from rfl) (dQ.one (show Kd.M Kd.string _ _ _ (⟨#[102, 110]⟩ : ByteArray) [.string (⟨#[102, 110]⟩ : ByteArray)] from rfl) (dQ.one (show Kd.M Kd.string _ _ _ (⟨#[108, 101, 116]⟩ : ByteArray) [.string (⟨#[108, 101, 116]⟩ : ByteArray)] from rfl) (dQ.one (show Kd.M Kd.string _ _ _ (⟨#[105, 102]⟩ : ByteArray) [.string (⟨#[105, 102]⟩ : ByteArray)] from rfl) (dQ.one (show Kd.M Kd.string _ _ _ (⟨#[101, 108, 115, 101]⟩ : ByteArray) [.string (⟨#[101, 108, 115, 101]⟩ : ByteArray)] from rfl) (dQ.one (show Kd.M Kd.string _ _ _ (⟨#[119, 104, 105, 108, 101]⟩ : ByteArray) [.string (⟨#[119, 104, 105, 108, 101]⟩ : ByteArray)] from rfl) (dQ.one (show Kd.M Kd.string _ _ _ (⟨#[98, 114, 101, 97, 107]⟩ : ByteArray) [.string (⟨#[98, 114, 101, 97, 107]⟩ : ByteArray)] from rfl) (dQ.one (show Kd.M Kd.string _ _ _ (⟨#[99, 111, 110, 116, 105, 110, 117, 101]⟩ : ByteArray) [.string (⟨#[99, 111, 110, 116, 105, 110, 117, 101]⟩ : ByteArray)] from rfl) (dQ.one (show Kd.M Kd.string _ _ _ (⟨#[114, 101, 116, 117, 114, 110]⟩ : ByteArray) [.string (⟨#[114, 101, 116, 117, 114, 110]⟩ : ByteArray)] from rfl) (dQ.one (show Kd.M Kd.string _ _ _ (⟨#[112, 117, 116]⟩ : ByteArray) [.string (⟨#[112, 117, 116]⟩ : ByteArray)] from rfl) (dQ.one (show Kd.M Kd.string _ _ _ (⟨#[101, 109, 105, 116]⟩ : ByteArray) [.string (⟨#[101, 109, 105, 116]⟩ : ByteArray)] from rfl) (dQ.one (show Kd.M Kd.string _ _ _ (⟨#[121, 105, 101, 108, 100]⟩ : ByteArray) [.string (⟨#[121, 105, 101, 108, 100]⟩ : ByteArray)] from rfl) (dQ.one (show Kd.M Kd.string _ _ _ (⟨#[110, 105, 108]⟩ : ByteArray) [.string (⟨#[110, 105, 108]⟩ : ByteArray)] from rfl) (dQ.one (show Kd.M Kd.string _ _ _ (⟨#[115, 116, 97, 116, 101]⟩ : ByteArray) [.string (⟨#[115, 116, 97, 116, 101]⟩ : ByteArray)] from rfl) (dQ.one (show Kd.M Kd.string _ _ _ (⟨#[115, 112, 97, 119, 110]⟩ : ByteArray) [.string (⟨#[115, 112, 97, 119, 110]⟩ : ByteArray)] from rfl) (dQ.one (show Kd.M Kd.string _ _ _ (⟨#[108, 101, 110]⟩ : ByteArray) [.string (⟨#[108, 101, 110]⟩ : ByteArray)] from rfl) (dQ.one (show Kd.M Kd.string _ _ _ (⟨#[110, 111, 116]⟩ : ByteArray) [.string (⟨#[110, 111, 116]⟩ : ByteArray)] from rfl) (dQ.one (show Kd.M Kd.string _ _ _ (⟨#[97, 110, 100]⟩ : ByteArray) [.string (⟨#[97, 110, 100]⟩ : ByteArray)] from rfl) (dQ.one (show Kd.M Kd.string _ _ _ (⟨#[111, 114]⟩ : ByteArray) [.string (⟨#[111, 114]⟩ : ByteArray)] from rfl) (dQ.none _ _)))))))))))))))))))))); intro v1192 w2 ho3 hb hg_ hnew_; clear hg_ hnew_; (first | rw [← Ny1191.out] at ho3 | (simp only [Int.reduceToNat] at ho3; rw [← Ny1191.out] at ho3)); refine yA2 (Kd.ig ho3 (bY (bT HB))) (aY (bT HB) hb) ?_; clear HB; intro HO1193 HB; clear hb ho3))
 go_loopg [4] k (fun kq v4 w' => ∃ (x4_1 : Int), v4 = .int .i64 x4_1 ∧ ae (cu.l0 kq a0 y1191 x4_1 = some r) ∧ ae (kq ≤ k) ∧ ae (Kd.R Kd.string 9 w' w.heap.size (fun _ => True) v1192 y1191) ∧ ae (Below w.heap.size w w'))
 case atStart => exact ⟨(0), fT, H', ⟨Nat.le_refl _⟩, ⟨qR HO1193⟩, ⟨bT HB⟩⟩
 case round =>
  clear H'
  try clear p2
  obtain ⟨x4_1, rfl, HA, HK1, HO_3, HB⟩ := hrel
  cases gk with
  | zero => exact absurd HA.out (by simp [cu.l0])
  | succ k1 =>
   have H := HA.out
   clear HA
   simp only [cu.l0] at H
   revert H
   refine iQ (fun c4b0 H => ?_) fun c4b0 H => ?_
   ·revert H
    refine gJ (fun c5b0 H => ?_) fun c5 H => ?_
    ·revert H
     refine cZ (fun c6b0 c6b1 H => ?_) fun c6 c6b0 c6b1 H => ?_
     ·obtain rfl := Option.some.inj H
      obtain ⟨Ao7, co7, eo7⟩ := Kd.eU HO_3.out
      subst eo7
      have p1194 : 0 ≤ (x4_1 : Int) := of_decide_eq_true aT
      have q1194 : x4_1 < (y1191.length : Int) := of_decide_eq_true aT
      obtain ⟨ad1194, e1194, hx1194_0⟩ := Kd.jI (Kd.dL HO_3.out).2.2 x4_1 p1194 q1194
      cases e1194
      replace p1194 := eq_true p1194
      replace q1194 := eq_true q1194
      go_wp2
      go_ret
      exact ⟨eT, bT HB⟩
     have H' := ae.mk H
     clear H
     obtain ⟨Ao8, co8, eo8⟩ := Kd.eU HO_3.out
     subst eo8
     have p1194 : 0 ≤ (x4_1 : Int) := of_decide_eq_true aT
     have q1194 : x4_1 < (y1191.length : Int) := of_decide_eq_true aT
     obtain ⟨ad1194, e1194, hx1194_0⟩ := Kd.jI (Kd.dL HO_3.out).2.2 x4_1 p1194 q1194
     cases e1194
     replace p1194 := eq_true p1194
     replace q1194 := eq_true q1194
     go_wp2
     go_roundg k1
     case measure => have := HK1.out; omega
     case rel => exact ⟨(wrap64 (x4_1 + 1)), fT, H', ⟨by have := HK1.out; omega⟩, ⟨qR HO_3⟩, ⟨bT HB⟩⟩
    exact absurd H (by simp)
   obtain rfl := Option.some.inj H
   obtain ⟨Ao9, co9, eo9⟩ := Kd.eU HO_3.out
   subst eo9
   go_wp2
   go_ret
   exact ⟨eT, bT HB⟩
/-! ### eY: function 81 -/
def eY.f (k : Nat) (a0 : ByteArray) : Option (Bool) := if (a0.size : Int) > 0 then (if (a0.size : Int) ≤ 16 then ((bu.f k a0 0).bind fun t1195 => (if t1195 = (a0.size : Int) then ((cu.f k a0).bind fun t1196 => (some (!t1196))) else (some false))) else (some false)) else (some false)
theorem eY.mono : ∀ a0 k, LeO (eY.f k a0) (eY.f (k + 1) a0) := by
 intro a0 k
 unfold eY.f
 have m0 := cu.mono
 have m1 := bu.mono
 exact yL
set_option maxHeartbeats 8000000 in
set_option maxRecDepth 100000 in
theorem eY.calls (k : Nat) (a0 : ByteArray) (r : Bool) (w : World) (h : eY.f k a0 = some r) :
 Calls Tryz.prog 81 #[.string a0] w fun e w' => e = .returned (.bool r) ∧ Below w.heap.size w w' := by
 have HB := ae.mk (Below.refl w.heap.size w)
 have H := h
 clear h
 unfold eY.f at H
 revert H
 refine iC (fun c2 H => ?_) fun c2 H => ?_
 ·have c2b0 : decide (0 < (a0.size : Int)) = true := decide_eq_true c2
  have c2b1 : decide (0 < a0.size) = true := decide_eq_true (by omega)
  clear c2
  revert H
  refine zq (fun c3 c3b0 H => ?_) fun c3 c3b0 H => ?_
  ·have c3b1 : decide (a0.size ≤ 16) = true := decide_eq_true (by omega)
   clear c3
   revert H
   refine yB1 fun t1195 A4 H => ?_
   revert H
   refine cZ (fun c5b0 c5b1 H => ?_) fun c5 c5b0 c5b1 H => ?_
   ·revert H
    refine yB1 fun t1196 A6 H => ?_
    obtain rfl := Option.some.inj H
    go_enter Tryz.func81, Tryz.ntmps81
    go_wp2_with (first | (go_at_call 57; (with_reducible refine (bu.calls k a0 0 t1195 _ A4.out).mono ?_); rintro e w' ⟨rfl, ⟨nd, rfl⟩⟩) | (go_at_call 58; (with_reducible refine (cu.calls k a0 t1196 _ A6.out).mono ?_); rintro e w7 ⟨rfl, hb⟩; refine yA1 (aY (bT HB) hb) ?_; clear HB; intro HB; (try clear hb)))
    go_ret
    exact ⟨eT, bT HB⟩
   obtain rfl := Option.some.inj H
   go_enter Tryz.func81, Tryz.ntmps81
   go_wp2_with (first | (go_at_call 57; (with_reducible refine (bu.calls k a0 0 t1195 _ A4.out).mono ?_); rintro e w' ⟨rfl, ⟨nd, rfl⟩⟩))
   go_ret
   exact ⟨eT, bT HB⟩
  have c3b1 : decide (a0.size ≤ 16) = false := decide_eq_false (by omega)
  clear c3
  obtain rfl := Option.some.inj H
  go_enter Tryz.func81, Tryz.ntmps81
  go_wp2
  go_ret
  exact ⟨eT, bT HB⟩
 have c2b0 : decide (0 < (a0.size : Int)) = false := decide_eq_false c2
 have c2b1 : decide (0 < a0.size) = false := decide_eq_false (by omega)
 clear c2
 obtain rfl := Option.some.inj H
 go_enter Tryz.func81, Tryz.ntmps81
 go_wp2
 go_ret
 exact ⟨eT, bT HB⟩
/-! ### eG: function 82 -/
def eG.f (a0_0 : Int) (a0_1 : Int) (a0_2 : ByteArray) (a0_3 : Int) (a0_4 : ByteArray) : Option (Bool) := if a0_2.toList = ([] : List UInt8) then (if a0_4.toList = ([] : List UInt8) then (some (a0_3 == 0)) else (some false)) else (some false)
set_option maxHeartbeats 8000000 in
set_option maxRecDepth 100000 in
theorem eG.calls (a0_0 : Int) (a0_1 : Int) (a0_2 : ByteArray) (a0_3 : Int) (a0_4 : ByteArray) (r : Bool) (w : World) (h : eG.f a0_0 a0_1 a0_2 a0_3 a0_4 = some r) :
 Calls Tryz.prog 82 #[.agg #[.int .i64 a0_0, .int .i64 a0_1, .string a0_2, .int .i64 a0_3, .string a0_4]] w fun e w' => e = .returned (.bool r) ∧ Below w.heap.size w w' := by
 have hu29 := Tryz.underlying29
 have HB := ae.mk (Below.refl w.heap.size w)
 have H := h
 clear h
 unfold eG.f at H
 revert H
 refine cZ (fun c2b0 c2b1 H => ?_) fun c2 c2b0 c2b1 H => ?_
 ·revert H
  refine cZ (fun c3b0 c3b1 H => ?_) fun c3 c3b0 c3b1 H => ?_
  ·obtain rfl := Option.some.inj H
   go_enter Tryz.func82, Tryz.ntmps82
   go_wp2_with (first | ((with_reducible refine bH (N := 1) rfl ?_); refine gp ?hg (N := 1) ?hd (cs := #[.int .i64 a0_0, .int .i64 a0_1, .string a0_2, .int .i64 a0_3, .string a0_4]) (t := 29) ?hr ?_; (case hd => rfl); (case hg => rfl); (case hr => first | (go_simp; done) | (go_simp; rfl)); intro gb1197 hg w4 hbox hb; refine yA4 (aY (bT HB) hb) (hbox) ((by rw [hg]; exact (bY (bT HB)) : w.heap.size ≤ gb1197)) ((by rw [hg]; exact (bY (bT HB)) : w.heap.size ≤ gb1197)) ?_; clear HB; intro HB BK1197 GW1197 GE1197; clear hb hbox hg; have hcz5_0 : w4.cell? ⟨gb1197, 0, none⟩ = some (.int .i64 a0_0) := (aj BK1197.out 0).trans rfl; have hcz5_1 : w4.cell? ⟨gb1197, 1, none⟩ = some (.int .i64 a0_1) := (aj BK1197.out 1).trans rfl; have hcz5_2 : w4.cell? ⟨gb1197, 2, none⟩ = some (.string a0_2) := (aj BK1197.out 2).trans rfl; have hcz5_3 : w4.cell? ⟨gb1197, 3, none⟩ = some (.int .i64 a0_3) := (aj BK1197.out 3).trans rfl; have hcz5_4 : w4.cell? ⟨gb1197, 4, none⟩ = some (.string a0_4) := (aj BK1197.out 4).trans rfl; have hfz5_0 := ag BK1197.out 0; have hfz5_1 := ag BK1197.out 1; have hfz5_2 := ag BK1197.out 2; have hfz5_3 := ag BK1197.out 3; have hfz5_4 := ag BK1197.out 4))
   go_ret
   exact ⟨eT, bT HB⟩
  obtain rfl := Option.some.inj H
  go_enter Tryz.func82, Tryz.ntmps82
  go_wp2_with (first | ((with_reducible refine bH (N := 1) rfl ?_); refine gp ?hg (N := 1) ?hd (cs := #[.int .i64 a0_0, .int .i64 a0_1, .string a0_2, .int .i64 a0_3, .string a0_4]) (t := 29) ?hr ?_; (case hd => rfl); (case hg => rfl); (case hr => first | (go_simp; done) | (go_simp; rfl)); intro gb1197 hg w6 hbox hb; refine yA4 (aY (bT HB) hb) (hbox) ((by rw [hg]; exact (bY (bT HB)) : w.heap.size ≤ gb1197)) ((by rw [hg]; exact (bY (bT HB)) : w.heap.size ≤ gb1197)) ?_; clear HB; intro HB BK1197 GW1197 GE1197; clear hb hbox hg; have hcz7_0 : w6.cell? ⟨gb1197, 0, none⟩ = some (.int .i64 a0_0) := (aj BK1197.out 0).trans rfl; have hcz7_1 : w6.cell? ⟨gb1197, 1, none⟩ = some (.int .i64 a0_1) := (aj BK1197.out 1).trans rfl; have hcz7_2 : w6.cell? ⟨gb1197, 2, none⟩ = some (.string a0_2) := (aj BK1197.out 2).trans rfl; have hcz7_3 : w6.cell? ⟨gb1197, 3, none⟩ = some (.int .i64 a0_3) := (aj BK1197.out 3).trans rfl; have hcz7_4 : w6.cell? ⟨gb1197, 4, none⟩ = some (.string a0_4) := (aj BK1197.out 4).trans rfl; have hfz7_0 := ag BK1197.out 0; have hfz7_1 := ag BK1197.out 1; have hfz7_2 := ag BK1197.out 2; have hfz7_3 := ag BK1197.out 3; have hfz7_4 := ag BK1197.out 4))
  go_ret
  exact ⟨eT, bT HB⟩
 obtain rfl := Option.some.inj H
 go_enter Tryz.func82, Tryz.ntmps82
 go_wp2_with (first | ((with_reducible refine bH (N := 1) rfl ?_); refine gp ?hg (N := 1) ?hd (cs := #[.int .i64 a0_0, .int .i64 a0_1, .string a0_2, .int .i64 a0_3, .string a0_4]) (t := 29) ?hr ?_; (case hd => rfl); (case hg => rfl); (case hr => first | (go_simp; done) | (go_simp; rfl)); intro gb1197 hg w8 hbox hb; refine yA4 (aY (bT HB) hb) (hbox) ((by rw [hg]; exact (bY (bT HB)) : w.heap.size ≤ gb1197)) ((by rw [hg]; exact (bY (bT HB)) : w.heap.size ≤ gb1197)) ?_; clear HB; intro HB BK1197 GW1197 GE1197; clear hb hbox hg; have hcz9_0 : w8.cell? ⟨gb1197, 0, none⟩ = some (.int .i64 a0_0) := (aj BK1197.out 0).trans rfl; have hcz9_1 : w8.cell? ⟨gb1197, 1, none⟩ = some (.int .i64 a0_1) := (aj BK1197.out 1).trans rfl; have hcz9_2 : w8.cell? ⟨gb1197, 2, none⟩ = some (.string a0_2) := (aj BK1197.out 2).trans rfl; have hcz9_3 : w8.cell? ⟨gb1197, 3, none⟩ = some (.int .i64 a0_3) := (aj BK1197.out 3).trans rfl; have hcz9_4 : w8.cell? ⟨gb1197, 4, none⟩ = some (.string a0_4) := (aj BK1197.out 4).trans rfl; have hfz9_0 := ag BK1197.out 0; have hfz9_1 := ag BK1197.out 1; have hfz9_2 := ag BK1197.out 2; have hfz9_3 := ag BK1197.out 3; have hfz9_4 := ag BK1197.out 4))
 go_ret
 exact ⟨eT, bT HB⟩
end Go.Proofs.YtkbhkonenkgfoaaGreat.Q
end
section
namespace Go.Proofs.YtkbhkonenkgfoaaGreat.Q
open Go.RowKit Go.Proofs.YtkbhkonenkgfoaaGreatW.PrintWords Go.Proofs.YtkbhkonenkgfoaaGreatW.PrintLast Go.Proofs.YtkbhkonenkgfoaaGreatW.PrintMore
attribute [local go_sem] dJ dH dW dV dh df dI dG
set_option linter.unusedVariables false
set_option linter.unusedSimpArgs false
/-! ### aV: function 60 -/
mutual
def aV.j0 : Nat → ByteArray → Bool → Option (Int × Bool)
 | 0, _, _ => none
 | k + 1, x0, x18 => if x18 = true then (some (0, false)) else (aV.l0 k x0 0 0)
def aV.l0 : Nat → ByteArray → Int → Int → Option (Int × Bool)
 | 0, _, _, _ => none
 | k + 1, x0, x4, x5 => if x5 < (x0.size : Int) then (if 0 ≤ x5 then (aV.l0 k x0 (IntKind.u64.wrap ((IntKind.u64.wrap (10 * x4)) + (((bt x0 x5) - 48) % 256))) (wrap64 (x5 + 1))) else (none)) else (some (wrap64 (x4), decide (x4 < 9223372036854775808)))
end
def aV.f (k : Nat) (a0 : ByteArray) : Option (Int × Bool) := if (a0.size : Int) > 19 then (aV.j0 k a0 true) else (if (a0.size : Int) > 1 then (if 0 < (a0.size : Int) then (aV.j0 k a0 ((bt a0 0) == 48)) else (none)) else (aV.j0 k a0 false))
theorem aV.bP : ∀ k, (∀ y0 y1, LeO (aV.j0 k y0 y1) (aV.j0 (k + 1) y0 y1)) ∧ (∀ y0 y1 y2, LeO (aV.l0 k y0 y1 y2) (aV.l0 (k + 1) y0 y1 y2))
 | 0 => ⟨fun _ _ r h => by simp [aV.j0] at h, fun _ _ _ r h => by simp [aV.l0] at h⟩
 | k + 1 => by
  obtain ⟨ih0, ih1⟩ := aV.bP k
  refine ⟨?_, ?_⟩
  ·intro y0 y1
   unfold aV.j0
   exact yL
  intro y0 y1 y2
  unfold aV.l0
  exact yL
theorem aV.mono : ∀ a0 k, LeO (aV.f k a0) (aV.f (k + 1) a0) := by
 intro a0 k
 obtain ⟨ih0, ih1⟩ := aV.bP k
 unfold aV.f
 exact yL
set_option maxHeartbeats 8000000 in
set_option maxRecDepth 100000 in
theorem aV.calls (k : Nat) (a0 : ByteArray) (r1 : Int) (r2 : Bool) (w : World) (h : aV.f k a0 = some (r1, r2)) :
 Calls Tryz.prog 60 #[.string a0] w fun e w' => e = .returned (.tuple #[.int .i64 r1, .bool r2]) ∧ eF w w' := by
 have H := h
 clear h
 unfold aV.f at H
 have HC2 := ae.mk H
 clear H
 go_enter Tryz.func60, Tryz.ntmps60
 go_upto_region 1 with (fail)
 go_cut [18] (fun v18 wc => ∃ (kq : Nat) (x18_1 : Bool), v18 = .bool x18_1 ∧ ae (aV.j0 kq a0 x18_1 = some (r1, r2)) ∧ ae (kq ≤ k) ∧ eF w wc)
 case first =>
  have H := HC2.out
  clear HC2
  revert H
  refine iC (fun c3 H => ?_) fun c3 H => ?_
  ·have c3b0 : decide (19 < (a0.size : Int)) = true := decide_eq_true c3
   have c3b1 : decide (19 < a0.size) = true := decide_eq_true (by omega)
   clear c3
   (first | rw [c3b0] | (simp only [gX, iP]; rw [c3b0]) | skip)
   have H' := ae.mk H
   clear H
   go_wp2
   go_meet
   case rel => exact ⟨_, (true), fT, H', ⟨Z11⟩, Z0⟩
  have c3b0 : decide (19 < (a0.size : Int)) = false := decide_eq_false c3
  have c3b1 : decide (19 < a0.size) = false := decide_eq_false (by omega)
  clear c3
  (first | rw [c3b0] | (simp only [gX, iP]; rw [c3b0]) | skip)
  revert H
  refine iC (fun c4 H => ?_) fun c4 H => ?_
  ·have c4b0 : decide (1 < (a0.size : Int)) = true := decide_eq_true c4
   have c4b1 : decide (1 < a0.size) = true := decide_eq_true (by omega)
   clear c4
   revert H
   refine pX (fun c5 c5b0 H => ?_) fun c5 H => ?_
   ·have c5b1 : decide (0 < a0.size) = true := decide_eq_true (by omega)
    clear c5
    have H' := ae.mk H
    clear H
    have p6 : 0 ≤ (0 : Int) := (by omega)
    have q6 : 0 < a0.size := (by have : (0 : Int) < (a0.size : Int) := of_decide_eq_true aT; omega)
    have hx6 : ∀ h : 0 < a0.size, ((a0[0]'h).toNat : Int) = bt a0 0 := iE a0 0
    clear p6
    have qi6 : (0 < (a0.size : Int)) = True := eq_true (of_decide_eq_true aT)
    replace q6 := eq_true q6
    go_wp2
    go_meet
    case rel => exact ⟨_, (((bt a0 0) == 48)), fT, H', ⟨Z11⟩, Z0⟩
   exact absurd H (by simp)
  have c4b0 : decide (1 < (a0.size : Int)) = false := decide_eq_false c4
  have c4b1 : decide (1 < a0.size) = false := decide_eq_false (by omega)
  clear c4
  have H' := ae.mk H
  clear H
  go_wp2
  go_meet
  case rel => exact ⟨_, (false), fT, H', ⟨Z11⟩, Z0⟩
 case rest =>
  clear HC2
  try clear p2
  try clear c3
  try clear c3b0
  try clear c3b1
  try clear c4
  try clear c4b0
  try clear c4b1
  try clear c5
  try clear c5b0
  try clear c5b1
  try clear c6
  try clear p6
  try clear q6
  try clear hx6
  try clear qi6
  try clear p6
  try clear q6
  obtain ⟨kq, x18_1, rfl, HA, HJ1, ⟨mc1, rfl⟩⟩ := hcut
  cases kq with
  | zero => exact absurd HA.out (by simp [aV.j0])
  | succ kj1 =>
   have H := HA.out
   clear HA
   simp only [aV.j0] at H
   cases x18_1
   rotate_left
   ·replace H := yT H
    simp only [Option.some.injEq, Prod.mk.injEq] at H
    obtain ⟨rfl, rfl⟩ := H
    go_wp2
    go_ret2
    exact ⟨fT, Z0⟩
   replace H := yF H
   have H' := ae.mk H
   clear H
   go_wp2
   go_loopg [4, 5] kj1 (fun kq v4 v5 w' => ∃ (x4_2 : Int) (x5_2 : Int), v4 = .int .u64 x4_2 ∧ v5 = .int .i64 x5_2 ∧ ae (aV.l0 kq a0 x4_2 x5_2 = some (r1, r2)) ∧ ae (kq ≤ kj1) ∧ eF w w')
   case atStart => exact ⟨(0), (0), fT, fT, H', ⟨Nat.le_refl _⟩, Z0⟩
   case round =>
    clear H'
    try clear c1
    try clear p2
    try clear c3
    try clear c3b0
    try clear c3b1
    try clear c4
    try clear c4b0
    try clear c4b1
    try clear c5
    try clear c5b0
    try clear c5b1
    try clear c6
    try clear p6
    try clear q6
    try clear hx6
    try clear qi6
    try clear c7
    try clear p2
    try clear p6
    try clear q6
    obtain ⟨x4_2, x5_2, rfl, rfl, HA, HK2, ⟨m2, rfl⟩⟩ := hrel
    cases gk with
    | zero => exact absurd HA.out (by simp [aV.l0])
    | succ k2 =>
     have H := HA.out
     clear HA
     simp only [aV.l0] at H
     revert H
     refine iQ (fun c8b0 H => ?_) fun c8b0 H => ?_
     ·revert H
      refine gJ (fun c9b0 H => ?_) fun c9 H => ?_
      ·have H' := ae.mk H
       clear H
       have p10 : 0 ≤ (x5_2 : Int) := of_decide_eq_true aT
       have q10 : x5_2 < (a0.size : Int) := of_decide_eq_true aT
       have hx10 := iE a0 x5_2
       replace p10 := eq_true p10
       replace q10 := eq_true q10
       go_wp2
       go_roundg k2
       case measure => have := HJ1.out; have := HK2.out; omega
       case rel => exact ⟨(IntKind.u64.wrap ((IntKind.u64.wrap (10 * x4_2)) + (((bt a0 x5_2) - 48) % 256))), (wrap64 (x5_2 + 1)), fT, fT, H', ⟨by have := HJ1.out; have := HK2.out; omega⟩, Z0⟩
      exact absurd H (by simp)
     simp only [Option.some.injEq, Prod.mk.injEq] at H
     obtain ⟨rfl, rfl⟩ := H
     go_wp2
     go_ret2
     exact ⟨fT, Z0⟩
end Go.Proofs.YtkbhkonenkgfoaaGreat.Q
end
section
namespace Go.Proofs.YtkbhkonenkgfoaaGreat.Q
open Go.RowKit Go.Proofs.YtkbhkonenkgfoaaGreatW.PrintWords Go.Proofs.YtkbhkonenkgfoaaGreatW.PrintLast Go.Proofs.YtkbhkonenkgfoaaGreatW.PrintMore
attribute [local go_sem] dJ dH dW dV dh df dI dG
set_option linter.unusedVariables false
set_option linter.unusedSimpArgs false
/-! ### ay: function 61 -/
mutual
def ay.l0 : Nat → ByteArray → Int → List Int → Int → Option (ByteArray × Int)
 | 0, _, _, _, _ => none
 | k + 1, x0, x1, x6, x7 => if x7 < (x0.size : Int) then (if 0 ≤ x7 then (if (bt x0 x7) = 34 then (some (strOfNums x6, wrap64 ((wrap64 (x7 + 1)) - x1))) else (if (bt x0 x7) = 10 then (some ((⟨#[]⟩ : ByteArray), 0)) else (if (bt x0 x7) = 92 then (if (wrap64 (x7 + 1)) < (x0.size : Int) then (if 0 ≤ (wrap64 (x7 + 1)) then (ay.j1 k x0 x1 x6 x7 ((bt x0 (wrap64 (x7 + 1))) == 110)) else (none)) else (ay.j1 k x0 x1 x6 x7 false)) else (if x6.length < 140737488355328 then (ay.l0 k x0 x1 (x6 ++ [bt x0 x7]) (wrap64 (x7 + 1))) else (none))))) else (none)) else (some ((⟨#[]⟩ : ByteArray), 0))
def ay.j1 : Nat → ByteArray → Int → List Int → Int → Bool → Option (ByteArray × Int)
 | 0, _, _, _, _, _ => none
 | k + 1, x0, x1, x6, x7, x43 => if x43 = true then (if x6.length < 140737488355328 then (ay.l0 k x0 x1 (x6 ++ [10]) (wrap64 ((wrap64 (x7 + 1)) + 1))) else (none)) else (if (wrap64 (x7 + 1)) < (x0.size : Int) then (if 0 ≤ (wrap64 (x7 + 1)) then (if (bt x0 (wrap64 (x7 + 1))) = 34 then (if x6.length < 140737488355328 then (ay.l0 k x0 x1 (x6 ++ [bt x0 (wrap64 (x7 + 1))]) (wrap64 ((wrap64 (x7 + 1)) + 1))) else (none)) else (if (bt x0 (wrap64 (x7 + 1))) = 92 then (if x6.length < 140737488355328 then (ay.l0 k x0 x1 (x6 ++ [bt x0 (wrap64 (x7 + 1))]) (wrap64 ((wrap64 (x7 + 1)) + 1))) else (none)) else (some ((⟨#[]⟩ : ByteArray), 0)))) else (none)) else (some ((⟨#[]⟩ : ByteArray), 0)))
end
def ay.f (k : Nat) (a0 : ByteArray) (a1 : Int) : Option (ByteArray × Int) := ay.l0 k a0 a1 ([] : List Int) (wrap64 (a1 + 1))
theorem ay.bP : ∀ k, (∀ y0 y1 y2 y3, LeO (ay.l0 k y0 y1 y2 y3) (ay.l0 (k + 1) y0 y1 y2 y3)) ∧ (∀ y0 y1 y2 y3 y4, LeO (ay.j1 k y0 y1 y2 y3 y4) (ay.j1 (k + 1) y0 y1 y2 y3 y4))
 | 0 => ⟨fun _ _ _ _ r h => by simp [ay.l0] at h, fun _ _ _ _ _ r h => by simp [ay.j1] at h⟩
 | k + 1 => by
  obtain ⟨ih0, ih1⟩ := ay.bP k
  refine ⟨?_, ?_⟩
  ·intro y0 y1 y2 y3
   unfold ay.l0
   exact yL
  intro y0 y1 y2 y3 y4
  unfold ay.j1
  exact yL
theorem ay.mono : ∀ a0 a1 k, LeO (ay.f k a0 a1) (ay.f (k + 1) a0 a1) := by
 intro a0 a1 k
 obtain ⟨ih0, ih1⟩ := ay.bP k
 unfold ay.f
 exact yL
set_option maxHeartbeats 8000000 in
set_option maxRecDepth 100000 in
theorem ay.calls (k : Nat) (a0 : ByteArray) (a1 : Int) (r1 : ByteArray) (r2 : Int) (w : World) (h : ay.f k a0 a1 = some (r1, r2)) :
 Calls Tryz.prog 61 #[.string a0, .int .i64 a1] w fun e w' => e = .returned (.tuple #[.string r1, .int .i64 r2]) ∧ Below w.heap.size w w' := by
 have HB := ae.mk (Below.refl w.heap.size w)
 have H := h
 clear h
 unfold ay.f at H
 have H' := ae.mk H
 clear H
 go_enter Tryz.func61, Tryz.ntmps61
 go_wp2
 go_loopg [6, 7] k (fun kq v6 v7 w' => ∃ (x6_1 : List Int) (x7_1 : Int), v7 = .int .i64 x7_1 ∧ ae (ay.l0 kq a0 a1 x6_1 x7_1 = some (r1, r2)) ∧ ae (kq ≤ k) ∧ ae (Kd.R (Kd.int .u8) 5 w' w.heap.size (fun _ => True) v6 x6_1) ∧ ae (Below w.heap.size w w'))
 case atStart => exact ⟨(([] : List Int)), (wrap64 (a1 + 1)), fT, H', ⟨Nat.le_refl _⟩, ⟨Z4⟩, ⟨bT HB⟩⟩
 case round =>
  clear H'
  try clear p2
  obtain ⟨x6_1, x7_1, rfl, HA, HK1, HO_6, HB⟩ := hrel
  cases gk with
  | zero => exact absurd HA.out (by simp [ay.l0])
  | succ k1 =>
   have H := HA.out
   clear HA
   simp only [ay.l0] at H
   revert H
   refine iQ (fun c3b0 H => ?_) fun c3b0 H => ?_
   ·revert H
    refine gJ (fun c4b0 H => ?_) fun c4 H => ?_
    ·revert H
     refine cZ (fun c6b0 c6b1 H => ?_) fun c6 c6b0 c6b1 H => ?_
     ·simp only [Option.some.injEq, Prod.mk.injEq] at H
      obtain ⟨rfl, rfl⟩ := H
      have p5 : 0 ≤ (x7_1 : Int) := of_decide_eq_true aT
      have q5 : x7_1 < (a0.size : Int) := of_decide_eq_true aT
      have hx5 := iE a0 x7_1
      replace p5 := eq_true p5
      replace q5 := eq_true q5
      have hcv7 := wR (P := Tryz.prog) Tryz.underlying91 Tryz.underlying5 Tryz.underlying9 (Kd.tV HO_6.out)
      go_wp2
      go_ret2
      exact ⟨eT, bT HB⟩
     revert H
     refine cZ (fun c9b0 c9b1 H => ?_) fun c9 c9b0 c9b1 H => ?_
     ·simp only [Option.some.injEq, Prod.mk.injEq] at H
      obtain ⟨rfl, rfl⟩ := H
      have p5 : 0 ≤ (x7_1 : Int) := of_decide_eq_true aT
      have q5 : x7_1 < (a0.size : Int) := of_decide_eq_true aT
      have hx5 := iE a0 x7_1
      replace p5 := eq_true p5
      replace q5 := eq_true q5
      have p8 : 0 ≤ (x7_1 : Int) := of_decide_eq_true aT
      have q8 : x7_1 < (a0.size : Int) := of_decide_eq_true aT
      have hx8 := iE a0 x7_1
      replace p8 := eq_true p8
      replace q8 := eq_true q8
      go_wp2
      go_ret2
      exact ⟨eT, bT HB⟩
     revert H
     refine cZ (fun c11b0 c11b1 H => ?_) fun c11 c11b0 c11b1 H => ?_
     ·have HC12 := ae.mk H
      clear H
      have p5 : 0 ≤ (x7_1 : Int) := of_decide_eq_true aT
      have q5 : x7_1 < (a0.size : Int) := of_decide_eq_true aT
      have hx5 := iE a0 x7_1
      replace p5 := eq_true p5
      replace q5 := eq_true q5
      have p8 : 0 ≤ (x7_1 : Int) := of_decide_eq_true aT
      have q8 : x7_1 < (a0.size : Int) := of_decide_eq_true aT
      have hx8 := iE a0 x7_1
      replace p8 := eq_true p8
      replace q8 := eq_true q8
      have p10 : 0 ≤ (x7_1 : Int) := of_decide_eq_true aT
      have q10 : x7_1 < (a0.size : Int) := of_decide_eq_true aT
      have hx10 := iE a0 x7_1
      replace p10 := eq_true p10
      replace q10 := eq_true q10
      go_upto_region 12 with (fail)
      go_cut [43] (fun v43 wc => ∃ (kq : Nat) (x43_11 : Bool), v43 = .bool x43_11 ∧ ae (ay.j1 kq a0 a1 x6_1 x7_1 x43_11 = some (r1, r2)) ∧ ae (kq ≤ k1) ∧ ae (Kd.R (Kd.int .u8) 5 wc w.heap.size (fun _ => True) u6 x6_1) ∧ ae (Below w.heap.size w wc))
      case first =>
       have H := HC12.out
       clear HC12
       revert H
       refine iQ (fun c13b0 H => ?_) fun c13b0 H => ?_
       ·(first | rw [c13b0] | (simp only [gX, iP]; rw [c13b0]) | skip)
        obtain ⟨ji14, hji14⟩ : ∃ j_ : Int, (wrap64 (x7_1 + 1)) = j_ := ⟨_, rfl⟩
        replace H : (if 0 ≤ (ji14) then (ay.j1 k1 a0 a1 x6_1 x7_1 ((bt a0 (ji14)) == 110)) else (none)) = some (r1, r2) := by first | (rw [hji14] at H; exact H) | (simp only [hji14] at H ⊢; exact H)
        (try rw [hji14] at c13b0)
        have hji14w : (IntKind.i64.wrap (x7_1 + 1)) = ji14 := (gX _).trans hji14
        revert H
        refine gJ (fun c15b0 H => ?_) fun c15 H => ?_
        ·have H' := ae.mk H
         clear H
         have p16 : 0 ≤ ((ji14) : Int) := of_decide_eq_true aT
         have q16 : (ji14) < (a0.size : Int) := of_decide_eq_true aT
         have hx16 := iE a0 (ji14)
         replace p16 := eq_true p16
         replace q16 := eq_true q16
         go_wp2
         go_meet
         case rel => exact ⟨_, (((bt a0 (ji14)) == 110)), (by first | rfl | (simp; done) | (simp only [← hji14] <;> (first | rfl | simp)) | (simp [*]; done)), H', ⟨by have := HK1.out; first | omega | exact Nat.le_refl _⟩, ⟨qR HO_6⟩, ⟨bT HB⟩⟩
        exact absurd H (by simp)
       (first | rw [c13b0] | (simp only [gX, iP]; rw [c13b0]) | skip)
       have H' := ae.mk H
       clear H
       go_wp2
       go_meet
       case rel => exact ⟨_, (false), fT, H', ⟨by have := HK1.out; first | omega | exact Nat.le_refl _⟩, ⟨qR HO_6⟩, ⟨bT HB⟩⟩
      case rest =>
       clear HC12
       try clear c1
       try clear p1
       try clear q1
       try clear hx1
       try clear p2
       try clear c3
       try clear c3b0
       try clear c4
       try clear c4b0
       try clear p5
       try clear q5
       try clear hx5
       try clear c6
       try clear c6b0
       try clear c6b1
       try clear p6
       try clear hcv7
       try clear p8
       try clear q8
       try clear hx8
       try clear c9
       try clear c9b0
       try clear c9b1
       try clear p10
       try clear q10
       try clear hx10
       try clear c11
       try clear c11b0
       try clear c11b1
       try clear c13
       try clear c13b0
       try clear c15
       try clear c15b0
       try clear p16
       try clear q16
       try clear hx16
       try clear p10
       try clear p16
       try clear p2
       try clear p5
       try clear p8
       try clear q10
       try clear q16
       try clear q5
       try clear q8
       obtain ⟨kq, x43_11, rfl, HA, HJ11, HO_6, HB⟩ := hcut
       cases kq with
       | zero => exact absurd HA.out (by simp [ay.j1])
       | succ kj11 =>
        have H := HA.out
        clear HA
        simp only [ay.j1] at H
        cases x43_11
        rotate_left
        ·replace H := yT H
         revert H
         refine iC (fun c18 H => ?_) fun c18 H => ?_
         ·have LMc18 := ae.mk c18
          clear c18
          obtain ⟨y1424, hy1424⟩ : ∃ y_ : List Int, y_ = (x6_1 ++ [10]) := ⟨_, rfl⟩
          replace H : (ay.l0 kj11 a0 a1 y1424 (wrap64 ((wrap64 (x7_1 + 1)) + 1))) = some (r1, r2) := by first | (rw [hy1424]; with_reducible exact H) | (have H2_ := (Option.bind_some _ _).symm.trans H; rw [hy1424]; with_reducible exact H2_) | (have H2_ := (Option.bind_some _ _).symm.trans H; with_reducible exact H2_) | with_reducible exact H | (rw [hy1424]; exact H) | exact H
          have Ny1424 := ae.mk hy1424
          clear hy1424
          have H' := ae.mk H
          clear H
          go_wp2_with (first | ((with_reducible refine eu (b := .append) (xs := #[.tmp 56, .tmp 57]) rfl ?_); at_builtin; refine Kd.jW (Kd.int .u8) (w0 := w) w.heap.size rfl (.tmp 56) (.tmp 57) 91 5 (.int .u8 0) 1 rfl Tryz.underlying91 info5 rfl (by decide) (by omega) u6 x6_1 10 [.int .u8 10] (fun _ => True) (fun _ => False) rfl rfl ?aP (fun _ hk => hk.elim) ?aF ?aO ?aB ?aS ?aL ?_; (case aP => exact rfl); (case aB => exact (bT HB)); (case aF => exact (fun _ _ => trivial)); (case aO => exact (qR HO_6)); (case aS => exact (bY (bT HB))); (case aL => have := LMc18.out; omega); intro v1425 w19 ho hb hg hat; rw [← Ny1424.out] at ho; refine yA2 (hb) (ho) ?_; clear HB HO_6; intro HB HO1426; clear ho hb hg hat))
          go_roundg kj11
          case measure => have := HK1.out; have := HJ11.out; omega
          case rel => exact ⟨(y1424), (wrap64 ((wrap64 (x7_1 + 1)) + 1)), fT, H', ⟨by have := HK1.out; have := HJ11.out; omega⟩, ⟨qR HO1426⟩, ⟨bT HB⟩⟩
         exact absurd H (by simp)
        replace H := yF H
        revert H
        refine iQ (fun c20b0 H => ?_) fun c20b0 H => ?_
        ·obtain ⟨ji21, hji21⟩ : ∃ j_ : Int, (wrap64 (x7_1 + 1)) = j_ := ⟨_, rfl⟩
         replace H : (if 0 ≤ (ji21) then (if (bt a0 (ji21)) = 34 then (if x6_1.length < 140737488355328 then (ay.l0 kj11 a0 a1 (x6_1 ++ [bt a0 (ji21)]) (wrap64 ((ji21) + 1))) else (none)) else (if (bt a0 (ji21)) = 92 then (if x6_1.length < 140737488355328 then (ay.l0 kj11 a0 a1 (x6_1 ++ [bt a0 (ji21)]) (wrap64 ((ji21) + 1))) else (none)) else (some ((⟨#[]⟩ : ByteArray), 0)))) else (none)) = some (r1, r2) := by first | (rw [hji21] at H; exact H) | (simp only [hji21] at H ⊢; exact H)
         (try rw [hji21] at c20b0)
         have hji21w : (IntKind.i64.wrap (x7_1 + 1)) = ji21 := (gX _).trans hji21
         revert H
         refine gJ (fun c22b0 H => ?_) fun c22 H => ?_
         ·revert H
          refine cZ (fun c24b0 c24b1 H => ?_) fun c24 c24b0 c24b1 H => ?_
          ·revert H
           refine iC (fun c26 H => ?_) fun c26 H => ?_
           ·have LMc26 := ae.mk c26
            clear c26
            obtain ⟨y1427, hy1427⟩ : ∃ y_ : List Int, y_ = (x6_1 ++ [bt a0 (ji21)]) := ⟨_, rfl⟩
            replace H : (ay.l0 kj11 a0 a1 y1427 (wrap64 ((ji21) + 1))) = some (r1, r2) := by first | (rw [hy1427]; with_reducible exact H) | (have H2_ := (Option.bind_some _ _).symm.trans H; rw [hy1427]; with_reducible exact H2_) | (have H2_ := (Option.bind_some _ _).symm.trans H; with_reducible exact H2_) | with_reducible exact H | (rw [hy1427]; exact H) | exact H
            have Ny1427 := ae.mk hy1427
            clear hy1427
            have H' := ae.mk H
            clear H
            have p23 : 0 ≤ ((ji21) : Int) := of_decide_eq_true aT
            have q23 : (ji21) < (a0.size : Int) := of_decide_eq_true aT
            have hx23 := iE a0 (ji21)
            replace p23 := eq_true p23
            replace q23 := eq_true q23
            have p25 : 0 ≤ ((ji21) : Int) := of_decide_eq_true aT
            have q25 : (ji21) < (a0.size : Int) := of_decide_eq_true aT
            have hx25 := iE a0 (ji21)
            replace p25 := eq_true p25
            replace q25 := eq_true q25
            go_wp2_with (first | ((with_reducible refine eu (b := .append) (xs := #[.tmp 81, .tmp 86]) rfl ?_); at_builtin; refine Kd.jW (Kd.int .u8) (w0 := w) w.heap.size rfl (.tmp 81) (.tmp 86) 91 5 (.int .u8 0) 1 rfl Tryz.underlying91 info5 rfl (by decide) (by omega) u6 x6_1 (bt a0 (ji21)) [.int .u8 (bt a0 (ji21))] (fun _ => True) (fun _ => False) rfl rfl ?aP (fun _ hk => hk.elim) ?aF ?aO ?aB ?aS ?aL ?_; (case aP => exact rfl); (case aB => exact (bT HB)); (case aF => exact (fun _ _ => trivial)); (case aO => exact (qR HO_6)); (case aS => exact (bY (bT HB))); (case aL => have := LMc26.out; omega); intro v1428 w27 ho hb hg hat; rw [← Ny1427.out] at ho; refine yA2 (hb) (ho) ?_; clear HB HO_6; intro HB HO1429; clear ho hb hg hat))
            go_roundg kj11
            case measure => have := HK1.out; have := HJ11.out; omega
            case rel => exact ⟨(y1427), (wrap64 ((ji21) + 1)), (by first | rfl | (simp; done) | (simp only [← hji21] <;> (first | rfl | simp)) | (simp [*]; done)), H', ⟨by have := HK1.out; have := HJ11.out; omega⟩, ⟨qR HO1429⟩, ⟨bT HB⟩⟩
           exact absurd H (by simp)
          revert H
          refine cZ (fun c29b0 c29b1 H => ?_) fun c29 c29b0 c29b1 H => ?_
          ·revert H
           refine iC (fun c31 H => ?_) fun c31 H => ?_
           ·have LMc31 := ae.mk c31
            clear c31
            obtain ⟨y1430, hy1430⟩ : ∃ y_ : List Int, y_ = (x6_1 ++ [bt a0 (ji21)]) := ⟨_, rfl⟩
            replace H : (ay.l0 kj11 a0 a1 y1430 (wrap64 ((ji21) + 1))) = some (r1, r2) := by first | (rw [hy1430]; with_reducible exact H) | (have H2_ := (Option.bind_some _ _).symm.trans H; rw [hy1430]; with_reducible exact H2_) | (have H2_ := (Option.bind_some _ _).symm.trans H; with_reducible exact H2_) | with_reducible exact H | (rw [hy1430]; exact H) | exact H
            have Ny1430 := ae.mk hy1430
            clear hy1430
            have H' := ae.mk H
            clear H
            have p23 : 0 ≤ ((ji21) : Int) := of_decide_eq_true aT
            have q23 : (ji21) < (a0.size : Int) := of_decide_eq_true aT
            have hx23 := iE a0 (ji21)
            replace p23 := eq_true p23
            replace q23 := eq_true q23
            have p28 : 0 ≤ ((ji21) : Int) := of_decide_eq_true aT
            have q28 : (ji21) < (a0.size : Int) := of_decide_eq_true aT
            have hx28 := iE a0 (ji21)
            replace p28 := eq_true p28
            replace q28 := eq_true q28
            have p30 : 0 ≤ ((ji21) : Int) := of_decide_eq_true aT
            have q30 : (ji21) < (a0.size : Int) := of_decide_eq_true aT
            have hx30 := iE a0 (ji21)
            replace p30 := eq_true p30
            replace q30 := eq_true q30
            go_wp2_with (first | ((with_reducible refine eu (b := .append) (xs := #[.tmp 81, .tmp 86]) rfl ?_); at_builtin; refine Kd.jW (Kd.int .u8) (w0 := w) w.heap.size rfl (.tmp 81) (.tmp 86) 91 5 (.int .u8 0) 1 rfl Tryz.underlying91 info5 rfl (by decide) (by omega) u6 x6_1 (bt a0 (ji21)) [.int .u8 (bt a0 (ji21))] (fun _ => True) (fun _ => False) rfl rfl ?aP (fun _ hk => hk.elim) ?aF ?aO ?aB ?aS ?aL ?_; (case aP => exact rfl); (case aB => exact (bT HB)); (case aF => exact (fun _ _ => trivial)); (case aO => exact (qR HO_6)); (case aS => exact (bY (bT HB))); (case aL => have := LMc31.out; omega); intro v1431 w32 ho hb hg hat; rw [← Ny1430.out] at ho; refine yA2 (hb) (ho) ?_; clear HB HO_6; intro HB HO1432; clear ho hb hg hat))
            go_roundg kj11
            case measure => have := HK1.out; have := HJ11.out; omega
            case rel => exact ⟨(y1430), (wrap64 ((ji21) + 1)), (by first | rfl | (simp; done) | (simp only [← hji21] <;> (first | rfl | simp)) | (simp [*]; done)), H', ⟨by have := HK1.out; have := HJ11.out; omega⟩, ⟨qR HO1432⟩, ⟨bT HB⟩⟩
           exact absurd H (by simp)
          simp only [Option.some.injEq, Prod.mk.injEq] at H
          obtain ⟨rfl, rfl⟩ := H
          have p23 : 0 ≤ ((ji21) : Int) := of_decide_eq_true aT
          have q23 : (ji21) < (a0.size : Int) := of_decide_eq_true aT
          have hx23 := iE a0 (ji21)
          replace p23 := eq_true p23
          replace q23 := eq_true q23
          have p28 : 0 ≤ ((ji21) : Int) := of_decide_eq_true aT
          have q28 : (ji21) < (a0.size : Int) := of_decide_eq_true aT
          have hx28 := iE a0 (ji21)
          replace p28 := eq_true p28
          replace q28 := eq_true q28
          go_wp2
          go_ret2
          exact ⟨by first | rfl | (simp [jm, jl] <;> rfl) | (simp only [← hji21]; first | rfl | (simp [jm, jl] <;> rfl)) | (simp [*, jm, jl] <;> rfl), bT HB⟩
         exact absurd H (by simp)
        simp only [Option.some.injEq, Prod.mk.injEq] at H
        obtain ⟨rfl, rfl⟩ := H
        go_wp2
        go_ret2
        exact ⟨eT, bT HB⟩
     revert H
     refine iC (fun c34 H => ?_) fun c34 H => ?_
     ·have LMc34 := ae.mk c34
      clear c34
      obtain ⟨y1433, hy1433⟩ : ∃ y_ : List Int, y_ = (x6_1 ++ [bt a0 x7_1]) := ⟨_, rfl⟩
      replace H : (ay.l0 k1 a0 a1 y1433 (wrap64 (x7_1 + 1))) = some (r1, r2) := by first | (rw [hy1433]; with_reducible exact H) | (have H2_ := (Option.bind_some _ _).symm.trans H; rw [hy1433]; with_reducible exact H2_) | (have H2_ := (Option.bind_some _ _).symm.trans H; with_reducible exact H2_) | with_reducible exact H | (rw [hy1433]; exact H) | exact H
      have Ny1433 := ae.mk hy1433
      clear hy1433
      have H' := ae.mk H
      clear H
      have p5 : 0 ≤ (x7_1 : Int) := of_decide_eq_true aT
      have q5 : x7_1 < (a0.size : Int) := of_decide_eq_true aT
      have hx5 := iE a0 x7_1
      replace p5 := eq_true p5
      replace q5 := eq_true q5
      have p8 : 0 ≤ (x7_1 : Int) := of_decide_eq_true aT
      have q8 : x7_1 < (a0.size : Int) := of_decide_eq_true aT
      have hx8 := iE a0 x7_1
      replace p8 := eq_true p8
      replace q8 := eq_true q8
      have p10 : 0 ≤ (x7_1 : Int) := of_decide_eq_true aT
      have q10 : x7_1 < (a0.size : Int) := of_decide_eq_true aT
      have hx10 := iE a0 x7_1
      replace p10 := eq_true p10
      replace q10 := eq_true q10
      have p33 : 0 ≤ (x7_1 : Int) := of_decide_eq_true aT
      have q33 : x7_1 < (a0.size : Int) := of_decide_eq_true aT
      have hx33 := iE a0 x7_1
      replace p33 := eq_true p33
      replace q33 := eq_true q33
      go_wp2_with (first | ((with_reducible refine eu (b := .append) (xs := #[.tmp 37, .tmp 41]) rfl ?_); at_builtin; refine Kd.jW (Kd.int .u8) (w0 := w) w.heap.size rfl (.tmp 37) (.tmp 41) 91 5 (.int .u8 0) 1 rfl Tryz.underlying91 info5 rfl (by decide) (by omega) u6 x6_1 (bt a0 x7_1) [.int .u8 (bt a0 x7_1)] (fun _ => True) (fun _ => False) rfl rfl ?aP (fun _ hk => hk.elim) ?aF ?aO ?aB ?aS ?aL ?_; (case aP => exact rfl); (case aB => exact (bT HB)); (case aF => exact (fun _ _ => trivial)); (case aO => exact (qR HO_6)); (case aS => exact (bY (bT HB))); (case aL => have := LMc34.out; omega); intro v1434 w35 ho hb hg hat; rw [← Ny1433.out] at ho; refine yA2 (hb) (ho) ?_; clear HB HO_6; intro HB HO1435; clear ho hb hg hat))
      go_roundg k1
      case measure => have := HK1.out; omega
      case rel => exact ⟨(y1433), (wrap64 (x7_1 + 1)), fT, H', ⟨by have := HK1.out; omega⟩, ⟨qR HO1435⟩, ⟨bT HB⟩⟩
     exact absurd H (by simp)
    exact absurd H (by simp)
   simp only [Option.some.injEq, Prod.mk.injEq] at H
   obtain ⟨rfl, rfl⟩ := H
   go_wp2
   go_ret2
   exact ⟨eT, bT HB⟩
end Go.Proofs.YtkbhkonenkgfoaaGreat.Q
end
section
namespace Go.Proofs.YtkbhkonenkgfoaaGreat.Q
open Go.RowKit Go.Proofs.YtkbhkonenkgfoaaGreatW.PrintWords Go.Proofs.YtkbhkonenkgfoaaGreatW.PrintLast Go.Proofs.YtkbhkonenkgfoaaGreatW.PrintMore
attribute [local go_sem] dJ dH dW dV dh df dI dG
set_option linter.unusedVariables false
set_option linter.unusedSimpArgs false
/-! ### bZ: function 62 -/
def bZ.l0 : Nat → ByteArray → Int → List ByteArray → Int → Option (Int)
 | 0, _, _, _, _ => none
 | k + 1, x0, x1, x5, x6 => if x6 < (x5.length : Int) then (if 0 ≤ x6 then (if (wrap64 ((x0.size : Int) - x1)) ≥ ((lZ ByteArray.empty x5 x6).size : Int) then (if 0 ≤ x1 then (if x1 ≤ (wrap64 (x1 + ((lZ ByteArray.empty x5 x6).size : Int))) then (if (wrap64 (x1 + ((lZ ByteArray.empty x5 x6).size : Int))) ≤ (x0.size : Int) then (if (x0.extract (x1 : Int).toNat ((wrap64 (x1 + ((lZ ByteArray.empty x5 x6).size : Int))) : Int).toNat).toList = (lZ ByteArray.empty x5 x6).toList then (some ((lZ ByteArray.empty x5 x6).size : Int)) else (bZ.l0 k x0 x1 x5 (wrap64 (x6 + 1)))) else (none)) else (none)) else (none)) else (bZ.l0 k x0 x1 x5 (wrap64 (x6 + 1)))) else (none)) else (some 0)
def bZ.f (k : Nat) (a0 : ByteArray) (a1 : Int) : Option (Int) := bZ.l0 k a0 a1 (([(⟨#[61, 61]⟩ : ByteArray), (⟨#[33, 61]⟩ : ByteArray), (⟨#[60, 61]⟩ : ByteArray), (⟨#[46, 46]⟩ : ByteArray), (⟨#[40]⟩ : ByteArray), (⟨#[41]⟩ : ByteArray), (⟨#[123]⟩ : ByteArray), (⟨#[125]⟩ : ByteArray), (⟨#[91]⟩ : ByteArray), (⟨#[93]⟩ : ByteArray), (⟨#[44]⟩ : ByteArray), (⟨#[59]⟩ : ByteArray), (⟨#[46]⟩ : ByteArray), (⟨#[47]⟩ : ByteArray), (⟨#[61]⟩ : ByteArray), (⟨#[60]⟩ : ByteArray), (⟨#[43]⟩ : ByteArray), (⟨#[45]⟩ : ByteArray), (⟨#[42]⟩ : ByteArray), (⟨#[37]⟩ : ByteArray)] : List ByteArray)) 0
theorem bZ.bP : ∀ k, (∀ y0 y1 y2 y3, LeO (bZ.l0 k y0 y1 y2 y3) (bZ.l0 (k + 1) y0 y1 y2 y3))
 | 0 => fun _ _ _ _ r h => by simp [bZ.l0] at h
 | k + 1 => by
  have ih0 := bZ.bP k
  intro y0 y1 y2 y3
  unfold bZ.l0
  exact yL
theorem bZ.mono : ∀ a0 a1 k, LeO (bZ.f k a0 a1) (bZ.f (k + 1) a0 a1) := by
 intro a0 a1 k
 have ih0 := bZ.bP k
 unfold bZ.f
 exact yL
set_option maxHeartbeats 8000000 in
set_option maxRecDepth 100000 in
theorem bZ.calls (k : Nat) (a0 : ByteArray) (a1 : Int) (r : Int) (w : World) (h : bZ.f k a0 a1 = some r) :
 Calls Tryz.prog 62 #[.string a0, .int .i64 a1] w fun e w' => e = .returned (.int .i64 r) ∧ Below w.heap.size w w' := by
 have HB := ae.mk (Below.refl w.heap.size w)
 have H := h
 clear h
 unfold bZ.f at H
 obtain ⟨y1436, hy1436⟩ : ∃ y_ : List ByteArray, y_ = (([(⟨#[61, 61]⟩ : ByteArray), (⟨#[33, 61]⟩ : ByteArray), (⟨#[60, 61]⟩ : ByteArray), (⟨#[46, 46]⟩ : ByteArray), (⟨#[40]⟩ : ByteArray), (⟨#[41]⟩ : ByteArray), (⟨#[123]⟩ : ByteArray), (⟨#[125]⟩ : ByteArray), (⟨#[91]⟩ : ByteArray), (⟨#[93]⟩ : ByteArray), (⟨#[44]⟩ : ByteArray), (⟨#[59]⟩ : ByteArray), (⟨#[46]⟩ : ByteArray), (⟨#[47]⟩ : ByteArray), (⟨#[61]⟩ : ByteArray), (⟨#[60]⟩ : ByteArray), (⟨#[43]⟩ : ByteArray), (⟨#[45]⟩ : ByteArray), (⟨#[42]⟩ : ByteArray), (⟨#[37]⟩ : ByteArray)] : List ByteArray)) := ⟨_, rfl⟩
 replace H : (bZ.l0 k a0 a1 y1436 0) = some r := by first | (rw [hy1436]; with_reducible exact H) | (have H2_ := (Option.bind_some _ _).symm.trans H; rw [hy1436]; with_reducible exact H2_) | (have H2_ := (Option.bind_some _ _).symm.trans H; with_reducible exact H2_) | with_reducible exact H | (rw [hy1436]; exact H) | exact H
 have Ny1436 := ae.mk hy1436
 clear hy1436
 have H' := ae.mk H
 clear H
 go_enter Tryz.func62, Tryz.ntmps62
 go_wp2_with (first | ((with_reducible refine bH (N := 7) rfl ?_); (try (refine lT (by rfl) ?_; dsimp only)); refine Kd.oH Kd.string _ 9 ?hg (N := 7) ?hd (xs := ([(⟨#[61, 61]⟩ : ByteArray), (⟨#[33, 61]⟩ : ByteArray), (⟨#[60, 61]⟩ : ByteArray), (⟨#[46, 46]⟩ : ByteArray), (⟨#[40]⟩ : ByteArray), (⟨#[41]⟩ : ByteArray), (⟨#[123]⟩ : ByteArray), (⟨#[125]⟩ : ByteArray), (⟨#[91]⟩ : ByteArray), (⟨#[93]⟩ : ByteArray), (⟨#[44]⟩ : ByteArray), (⟨#[59]⟩ : ByteArray), (⟨#[46]⟩ : ByteArray), (⟨#[47]⟩ : ByteArray), (⟨#[61]⟩ : ByteArray), (⟨#[60]⟩ : ByteArray), (⟨#[43]⟩ : ByteArray), (⟨#[45]⟩ : ByteArray), (⟨#[42]⟩ : ByteArray), (⟨#[37]⟩ : ByteArray)] : List ByteArray)) (inner := [.string (⟨#[61, 61]⟩ : ByteArray), .string (⟨#[33, 61]⟩ : ByteArray), .string (⟨#[60, 61]⟩ : ByteArray), .string (⟨#[46, 46]⟩ : ByteArray), .string (⟨#[40]⟩ : ByteArray), .string (⟨#[41]⟩ : ByteArray), .string (⟨#[123]⟩ : ByteArray), .string (⟨#[125]⟩ : ByteArray), .string (⟨#[91]⟩ : ByteArray), .string (⟨#[93]⟩ : ByteArray), .string (⟨#[44]⟩ : ByteArray), .string (⟨#[59]⟩ : ByteArray), .string (⟨#[46]⟩ : ByteArray), .string (⟨#[47]⟩ : ByteArray), .string (⟨#[61]⟩ : ByteArray), .string (⟨#[60]⟩ : ByteArray), .string (⟨#[43]⟩ : ByteArray), .string (⟨#[45]⟩ : ByteArray), .string (⟨#[42]⟩ : ByteArray), .string (⟨#[37]⟩ : ByteArray)]) (ok := fun _ => True) (okp := fun _ => True) ?hr ?hp (fun _ hk => hk) trivial (Below.refl _ _) (Nat.le_refl _) (by simp) ?_; (case hd => rfl); (case hg => rfl); (case hr => first | (go_simp; done) | (go_simp; rfl)); (case hp => exact (dQ.one (show Kd.M Kd.string _ _ _ (⟨#[61, 61]⟩ : ByteArray) [.string (⟨#[61, 61]⟩ : ByteArray)] from rfl) (dQ.one (show Kd.M Kd.string _ _ _ (⟨#[33, 61]⟩ : ByteArray) [.string (⟨#[33, 61]⟩ : ByteArray)] from rfl) (dQ.one (show Kd.M Kd.string _ _ _ (⟨#[60, 61]⟩ : ByteArray) [.string (⟨#[60, 61]⟩ : ByteArray)] from rfl) (dQ.one (show Kd.M Kd.string _ _ _ (⟨#[46, 46]⟩ : ByteArray) [.string (⟨#[46, 46]⟩ : ByteArray)] from rfl) (dQ.one (show Kd.M Kd.string _ _ _ (⟨#[40]⟩ : ByteArray) [.string (⟨#[40]⟩ : ByteArray)] from rfl) (dQ.one (show Kd.M Kd.string _ _ _ (⟨#[41]⟩ : ByteArray) [.string (⟨#[41]⟩ : ByteArray)] from rfl) (dQ.one (show Kd.M Kd.string _ _ _ (⟨#[123]⟩ : ByteArray) [.string (⟨#[123]⟩ : ByteArray)] from rfl) (dQ.one (show Kd.M Kd.string _ _ _ (⟨#[125]⟩ : ByteArray) [.string (⟨#[125]⟩ : ByteArray)] from rfl) (dQ.one (show Kd.M Kd.string _ _ _ (⟨#[91]⟩ : ByteArray) [.string (⟨#[91]⟩ : ByteArray)] from rfl) (dQ.one (show Kd.M Kd.string _ _ _ (⟨#[93]⟩ : ByteArray) [.string (⟨#[93]⟩ : ByteArray)] from rfl) (dQ.one (show Kd.M Kd.string _ _ _ (⟨#[44]⟩ : ByteArray) [.string (⟨#[44]⟩ : ByteArray)] from rfl) (dQ.one (show Kd.M Kd.string _ _ _ (⟨#[59]⟩ : ByteArray) [.string (⟨#[59]⟩ : ByteArray)] from rfl) (dQ.one (show Kd.M Kd.string _ _ _ (⟨#[46]⟩ : ByteArray) [.string (⟨#[46]⟩ : ByteArray)] from rfl) (dQ.one (show Kd.M Kd.string _ _ _ (⟨#[47]⟩ : ByteArray) [.string (⟨#[47]⟩ : ByteArray)] from rfl) (dQ.one (show Kd.M Kd.string _ _ _ (⟨#[61]⟩ : ByteArray) [.string (⟨#[61]⟩ : ByteArray)] from rfl) (dQ.one (show Kd.M Kd.string _ _ _ (⟨#[60]⟩ : ByteArray) [.string (⟨#[60]⟩ : ByteArray)] from rfl) (dQ.one (show Kd.M Kd.string _ _ _ (⟨#[43]⟩ : ByteArray) [.string (⟨#[43]⟩ : ByteArray)] from rfl) (dQ.one (show Kd.M Kd.string _ _ _ (⟨#[45]⟩ : ByteArray) [.string (⟨#[45]⟩ : ByteArray)] from rfl) (dQ.one (show Kd.M Kd.string _ _ _ (⟨#[42]⟩ : ByteArray) [.string (⟨#[42]⟩ : ByteArray)] from rfl) (dQ.one (show Kd.M Kd.string _ _ _ (⟨#[37]⟩ : ByteArray) [.string (⟨#[37]⟩ : ByteArray)] from rfl) (dQ.none _ _)))))))))))))))))))))); intro v1437 w3 ho4 hb hg_ hnew_; clear hg_ hnew_; (first | rw [← Ny1436.out] at ho4 | (simp only [Int.reduceToNat] at ho4; rw [← Ny1436.out] at ho4)); refine yA2 (Kd.ig ho4 (bY (bT HB))) (aY (bT HB) hb) ?_; clear HB; intro HO1438 HB; clear hb ho4))
 repeat (go_quiet (first | ((with_reducible refine bH (N := 7) rfl ?_); (try (refine lT (by rfl) ?_; dsimp only)); refine Kd.oH Kd.string _ 9 ?hg (N := 7) ?hd (xs := ([(⟨#[61, 61]⟩ : ByteArray), (⟨#[33, 61]⟩ : ByteArray), (⟨#[60, 61]⟩ : ByteArray), (⟨#[46, 46]⟩ : ByteArray), (⟨#[40]⟩ : ByteArray), (⟨#[41]⟩ : ByteArray), (⟨#[123]⟩ : ByteArray), (⟨#[125]⟩ : ByteArray), (⟨#[91]⟩ : ByteArray), (⟨#[93]⟩ : ByteArray), (⟨#[44]⟩ : ByteArray), (⟨#[59]⟩ : ByteArray), (⟨#[46]⟩ : ByteArray), (⟨#[47]⟩ : ByteArray), (⟨#[61]⟩ : ByteArray), (⟨#[60]⟩ : ByteArray), (⟨#[43]⟩ : ByteArray), (⟨#[45]⟩ : ByteArray), (⟨#[42]⟩ : ByteArray), (⟨#[37]⟩ : ByteArray)] : List ByteArray)) (inner := [.string (⟨#[61, 61]⟩ : ByteArray), .string (⟨#[33, 61]⟩ : ByteArray), .string (⟨#[60, 61]⟩ : ByteArray), .string (⟨#[46, 46]⟩ : ByteArray), .string (⟨#[40]⟩ : ByteArray), .string (⟨#[41]⟩ : ByteArray), .string (⟨#[123]⟩ : ByteArray), .string (⟨#[125]⟩ : ByteArray), .string (⟨#[91]⟩ : ByteArray), .string (⟨#[93]⟩ : ByteArray), .string (⟨#[44]⟩ : ByteArray), .string (⟨#[59]⟩ : ByteArray), .string (⟨#[46]⟩ : ByteArray), .string (⟨#[47]⟩ : ByteArray), .string (⟨#[61]⟩ : ByteArray), .string (⟨#[60]⟩ : ByteArray), .string (⟨#[43]⟩ : ByteArray), .string (⟨#[45]⟩ : ByteArray), .string (⟨#[42]⟩ : ByteArray), .string (⟨#[37]⟩ : ByteArray)]) (ok := fun _ => True) (okp := fun _ => True) ?hr ?hp (fun _ hk => hk) trivial (Below.refl _ _) (Nat.le_refl _) (by simp) ?_; (case hd => rfl); (case hg => rfl); (case hr => first | (go_simp; done) | (go_simp; rfl)); (case hp => exact (dQ.one (show Kd.M Kd.string _ _ _ (⟨#[61, 61]⟩ : ByteArray) [.string (⟨#[61, 61]⟩ : ByteArray)] from rfl) (dQ.one (show Kd.M Kd.string _ _ _ (⟨#[33, 61]⟩ : ByteArray) [.string (⟨#[33, 61]⟩ : ByteArray)] from rfl) (dQ.one (show Kd.M Kd.string _ _ _ (⟨#[60, 61]⟩ : ByteArray) [.string (⟨#[60, 61]⟩ : ByteArray)] from rfl) (dQ.one (show Kd.M Kd.string _ _ _ (⟨#[46, 46]⟩ : ByteArray) [.string (⟨#[46, 46]⟩ : ByteArray)] from rfl) (dQ.one (show Kd.M Kd.string _ _ _ (⟨#[40]⟩ : ByteArray) [.string (⟨#[40]⟩ : ByteArray)] from rfl) (dQ.one (show Kd.M Kd.string _ _ _ (⟨#[41]⟩ : ByteArray) [.string (⟨#[41]⟩ : ByteArray)] from rfl) (dQ.one (show Kd.M Kd.string _ _ _ (⟨#[123]⟩ : ByteArray) [.string (⟨#[123]⟩ : ByteArray)] from rfl) (dQ.one (show Kd.M Kd.string _ _ _ (⟨#[125]⟩ : ByteArray) [.string (⟨#[125]⟩ : ByteArray)] from rfl) (dQ.one (show Kd.M Kd.string _ _ _ (⟨#[91]⟩ : ByteArray) [.string (⟨#[91]⟩ : ByteArray)] from rfl) (dQ.one (show Kd.M Kd.string _ _ _ (⟨#[93]⟩ : ByteArray) [.string (⟨#[93]⟩ : ByteArray)] from rfl) (dQ.one (show Kd.M Kd.string _ _ _ (⟨#[44]⟩ : ByteArray) [.string (⟨#[44]⟩ : ByteArray)] from rfl) (dQ.one (show Kd.M Kd.string _ _ _ (⟨#[59]⟩ : ByteArray) [.string (⟨#[59]⟩ : ByteArray)] from rfl) (dQ.one (show Kd.M Kd.string _ _ _ (⟨#[46]⟩ : ByteArray) [.string (⟨#[46]⟩ : ByteArray)] from rfl) (dQ.one (show Kd.M Kd.string _ _ _ (⟨#[47]⟩ : ByteArray) [.string (⟨#[47]⟩ : ByteArray)] from rfl) (dQ.one (show Kd.M Kd.string _ _ _ (⟨#[61]⟩ : ByteArray) [.string (⟨#[61]⟩ : ByteArray)] from rfl) (dQ.one (show Kd.M Kd.string _ _ _ (⟨#[60]⟩ : ByteArray) [.string (⟨#[60]⟩ : ByteArray)] from rfl) (dQ.one (show Kd.M Kd.string _ _ _ (⟨#[43]⟩ : ByteArray) [.string (⟨#[43]⟩ : ByteArray)] from rfl) (dQ.one (show Kd.M Kd.string _ _ _ (⟨#[45]⟩ : ByteArray) [.string (⟨#[45]⟩ : ByteArray)] from rfl) (dQ.one (show Kd.M Kd.string _ _ _ (⟨#[42]⟩ : ByteArray) [.string (⟨#[42]⟩ : ByteArray)] from rfl) (dQ.one (show Kd.M Kd.string _ _ _ (⟨#[37]⟩ : ByteArray) [.string (⟨#[37]⟩ : ByteArray)] from rfl) (dQ.none _ _)))))))))))))))))))))); intro v1437 w3 ho4 hb hg_ hnew_; clear hg_ hnew_; (first | rw [← Ny1436.out] at ho4 | (simp only [Int.reduceToNat] at ho4; rw [← Ny1436.out] at ho4)); refine yA2 (Kd.ig ho4 (bY (bT HB))) (aY (bT HB) hb) ?_; clear HB; intro HO1438 HB; clear hb ho4)); try go_wp2_with (first | ((with_reducible refine bH (N := 7) rfl ?_); (try (refine lT (by rfl) ?_; dsimp only)); refine Kd.oH Kd.string _ 9 ?hg (N := 7) ?hd (xs := ([(⟨#[61, 61]⟩ : ByteArray), (⟨#[33, 61]⟩ : ByteArray), (⟨#[60, 61]⟩ : ByteArray), (⟨#[46, 46]⟩ : ByteArray), (⟨#[40]⟩ : ByteArray), (⟨#[41]⟩ : ByteArray), (⟨#[123]⟩ : ByteArray), (⟨#[125]⟩ : ByteArray), (⟨#[91]⟩ : ByteArray), (⟨#[93]⟩ : ByteArray), (⟨#[44]⟩ : ByteArray), (⟨#[59]⟩ : ByteArray), (⟨#[46]⟩ : ByteArray), (⟨#[47]⟩ : ByteArray), (⟨#[61]⟩ : ByteArray), (⟨#[60]⟩ : ByteArray), (⟨#[43]⟩ : ByteArray), (⟨#[45]⟩ : ByteArray), (⟨#[42]⟩ : ByteArray), (⟨#[37]⟩ : ByteArray)] : List ByteArray)) (inner := [.string (⟨#[61, 61]⟩ : ByteArray), .string (⟨#[33, 61]⟩ : ByteArray), .string (⟨#[60, 61]⟩ : ByteArray), .string (⟨#[46, 46]⟩ : ByteArray), .string (⟨#[40]⟩ : ByteArray), .string (⟨#[41]⟩ : ByteArray), .string (⟨#[123]⟩ : ByteArray), .string (⟨#[125]⟩ : ByteArray), .string (⟨#[91]⟩ : ByteArray), .string (⟨#[93]⟩ : ByteArray), .string (⟨#[44]⟩ : ByteArray), .string (⟨#[59]⟩ : ByteArray), .string (⟨#[46]⟩ : ByteArray), .string (⟨#[47]⟩ : ByteArray), .string (⟨#[61]⟩ : ByteArray), .string (⟨#[60]⟩ : ByteArray), .string (⟨#[43]⟩ : ByteArray), .string (⟨#[45]⟩ : ByteArray), .string (⟨#[42]⟩ : ByteArray), .string (⟨#[37]⟩ : ByteArray)]) (ok := fun _ => True) (okp := fun _ => True) ?hr ?hp (fun _ hk => hk) trivial (Below.refl _ _) (Nat.le_refl _) (by simp) ?_; (case hd => rfl); (case hg => rfl); (case hr => first | (go_simp; done) | (go_simp; rfl)); (case hp => exact (dQ.one (show Kd.M Kd.string _ _ _ (⟨#[61, 61]⟩ : ByteArray) [.string (⟨#[61, 61]⟩ : ByteArray)] from rfl) (dQ.one (show Kd.M Kd.string _ _ _ (⟨#[33, 61]⟩ : ByteArray) [.string (⟨#[33, 61]⟩ : ByteArray)] from rfl) (dQ.one (show Kd.M Kd.string _ _ _ (⟨#[60, 61]⟩ : ByteArray) [.string (⟨#[60, 61]⟩ : ByteArray)] from rfl) (dQ.one (show Kd.M Kd.string _ _ _ (⟨#[46, 46]⟩ : ByteArray) [.string (⟨#[46, 46]⟩ : ByteArray)] from rfl) (dQ.one (show Kd.M Kd.string _ _ _ (⟨#[40]⟩ : ByteArray) [.string (⟨#[40]⟩ : ByteArray)] from rfl) (dQ.one (show Kd.M Kd.string _ _ _ (⟨#[41]⟩ : ByteArray) [.string (⟨#[41]⟩ : ByteArray)] from rfl) (dQ.one (show Kd.M Kd.string _ _ _ (⟨#[123]⟩ : ByteArray) [.string (⟨#[123]⟩ : ByteArray)] from rfl) (dQ.one (show Kd.M Kd.string _ _ _ (⟨#[125]⟩ : ByteArray) [.string (⟨#[125]⟩ : ByteArray)] from rfl) (dQ.one (show Kd.M Kd.string _ _ _ (⟨#[91]⟩ : ByteArray) [.string (⟨#[91]⟩ : ByteArray)] from rfl) (dQ.one (show Kd.M Kd.string _ _ _ (⟨#[93]⟩ : ByteArray) [.string (⟨#[93]⟩ : ByteArray)] from rfl) (dQ.one (show Kd.M Kd.string _ _ _ (⟨#[44]⟩ : ByteArray) [.string (⟨#[44]⟩ : ByteArray)] from rfl) (dQ.one (show Kd.M Kd.string _ _ _ (⟨#[59]⟩ : ByteArray) [.string (⟨#[59]⟩ : ByteArray)] from rfl) (dQ.one (show Kd.M Kd.string _ _ _ (⟨#[46]⟩ : ByteArray) [.string (⟨#[46]⟩ : ByteArray)] from rfl) (dQ.one (show Kd.M Kd.string _ _ _ (⟨#[47]⟩ : ByteArray) [.string (⟨#[47]⟩ : ByteArray)] from rfl) (dQ.one (show Kd.M Kd.string _ _ _ (⟨#[61]⟩ : ByteArray) [.string (⟨#[61]⟩ : ByteArray)] from rfl) (dQ.one (show Kd.M Kd.string _ _ _ (⟨#[60]⟩ : ByteArray) [.string (⟨#[60]⟩ : ByteArray)] from rfl) (dQ.one (show Kd.M Kd.string _ _ _ (⟨#[43]⟩ : ByteArray) [.string (⟨#[43]⟩ : ByteArray)] from rfl) (dQ.one (show Kd.M Kd.string _ _ _ (⟨#[45]⟩ : ByteArray) [.string (⟨#[45]⟩ : ByteArray)] from rfl) (dQ.one (show Kd.M Kd.string _ _ _ (⟨#[42]⟩ : ByteArray) [.string (⟨#[42]⟩ : ByteArray)] from rfl) (dQ.one (show Kd.M Kd.string _ _ _ (⟨#[37]⟩ : ByteArray) [.string (⟨#[37]⟩ : ByteArray)] from rfl) (dQ.none _ _)))))))))))))))))))))); intro v1437 w3 ho4 hb hg_ hnew_; clear hg_ hnew_; (first | rw [← Ny1436.out] at ho4 | (simp only [Int.reduceToNat] at ho4; rw [← Ny1436.out] at ho4)); refine yA2 (Kd.ig ho4 (bY (bT HB))) (aY (bT HB) hb) ?_; clear HB; intro HO1438 HB; clear hb ho4)))
 go_loopg [6] k (fun kq v6 w' => ∃ (x6_1 : Int), v6 = .int .i64 x6_1 ∧ ae (bZ.l0 kq a0 a1 y1436 x6_1 = some r) ∧ ae (kq ≤ k) ∧ ae (Kd.R Kd.string 9 w' w.heap.size (fun _ => True) v1437 y1436) ∧ ae (Below w.heap.size w w'))
 case atStart => exact ⟨(0), fT, H', ⟨Nat.le_refl _⟩, ⟨qR HO1438⟩, ⟨bT HB⟩⟩
 case round =>
  clear H'
  try clear p2
  obtain ⟨x6_1, rfl, HA, HK1, HO_5, HB⟩ := hrel
  cases gk with
  | zero => exact absurd HA.out (by simp [bZ.l0])
  | succ k1 =>
   have H := HA.out
   clear HA
   simp only [bZ.l0] at H
   revert H
   refine iQ (fun c5b0 H => ?_) fun c5b0 H => ?_
   ·revert H
    refine gJ (fun c6b0 H => ?_) fun c6 H => ?_
    ·revert H
     refine iC (fun c7 H => ?_) fun c7 H => ?_
     ·have c7b0 : decide (((lZ ByteArray.empty y1436 x6_1).size : Int) ≤ (wrap64 ((a0.size : Int) - a1))) = true := decide_eq_true c7
      clear c7
      revert H
      refine jO (fun c8b0 c8b1 H => ?_) fun c8 H => ?_
      ·revert H
       refine nD (fun c9 c9b0 c9b1 H => ?_) fun c9 H => ?_
       ·revert H
        refine nD (fun c10 c10b0 c10b1 H => ?_) fun c10 H => ?_
        ·revert H
         refine cZ (fun c11b0 c11b1 H => ?_) fun c11 c11b0 c11b1 H => ?_
         ·obtain rfl := Option.some.inj H
          obtain ⟨Ao12, co12, eo12⟩ := Kd.eU HO_5.out
          subst eo12
          have p1439 : 0 ≤ (x6_1 : Int) := of_decide_eq_true aT
          have q1439 : x6_1 < (y1436.length : Int) := of_decide_eq_true aT
          obtain ⟨ad1439, e1439, hx1439_0⟩ := Kd.jI (Kd.dL HO_5.out).2.2 x6_1 p1439 q1439
          cases e1439
          replace p1439 := eq_true p1439
          replace q1439 := eq_true q1439
          have p1440 : 0 ≤ (x6_1 : Int) := of_decide_eq_true aT
          have q1440 : x6_1 < (y1436.length : Int) := of_decide_eq_true aT
          obtain ⟨ad1440, e1440, hx1440_0⟩ := Kd.jI (Kd.dL HO_5.out).2.2 x6_1 p1440 q1440
          obtain rfl : ad1439 = ad1440 := (by injection e1440)
          replace p1440 := eq_true p1440
          replace q1440 := eq_true q1440
          have p1441 : 0 ≤ (x6_1 : Int) := of_decide_eq_true aT
          have q1441 : x6_1 < (y1436.length : Int) := of_decide_eq_true aT
          obtain ⟨ad1441, e1441, hx1441_0⟩ := Kd.jI (Kd.dL HO_5.out).2.2 x6_1 p1441 q1441
          obtain rfl : ad1439 = ad1441 := (by injection e1441)
          replace p1441 := eq_true p1441
          replace q1441 := eq_true q1441
          have p1442 : 0 ≤ (x6_1 : Int) := of_decide_eq_true aT
          have q1442 : x6_1 < (y1436.length : Int) := of_decide_eq_true aT
          obtain ⟨ad1442, e1442, hx1442_0⟩ := Kd.jI (Kd.dL HO_5.out).2.2 x6_1 p1442 q1442
          obtain rfl : ad1439 = ad1442 := (by injection e1442)
          replace p1442 := eq_true p1442
          replace q1442 := eq_true q1442
          go_wp2
          repeat (go_quiet (fail); try go_wp2)
          go_ret
          exact ⟨eT, bT HB⟩
         have H' := ae.mk H
         clear H
         obtain ⟨Ao13, co13, eo13⟩ := Kd.eU HO_5.out
         subst eo13
         have p1439 : 0 ≤ (x6_1 : Int) := of_decide_eq_true aT
         have q1439 : x6_1 < (y1436.length : Int) := of_decide_eq_true aT
         obtain ⟨ad1439, e1439, hx1439_0⟩ := Kd.jI (Kd.dL HO_5.out).2.2 x6_1 p1439 q1439
         cases e1439
         replace p1439 := eq_true p1439
         replace q1439 := eq_true q1439
         have p1440 : 0 ≤ (x6_1 : Int) := of_decide_eq_true aT
         have q1440 : x6_1 < (y1436.length : Int) := of_decide_eq_true aT
         obtain ⟨ad1440, e1440, hx1440_0⟩ := Kd.jI (Kd.dL HO_5.out).2.2 x6_1 p1440 q1440
         obtain rfl : ad1439 = ad1440 := (by injection e1440)
         replace p1440 := eq_true p1440
         replace q1440 := eq_true q1440
         have p1441 : 0 ≤ (x6_1 : Int) := of_decide_eq_true aT
         have q1441 : x6_1 < (y1436.length : Int) := of_decide_eq_true aT
         obtain ⟨ad1441, e1441, hx1441_0⟩ := Kd.jI (Kd.dL HO_5.out).2.2 x6_1 p1441 q1441
         obtain rfl : ad1439 = ad1441 := (by injection e1441)
         replace p1441 := eq_true p1441
         replace q1441 := eq_true q1441
         go_wp2
         repeat (go_quiet (fail); try go_wp2)
         go_roundg k1
         case measure => have := HK1.out; omega
         case rel => exact ⟨(wrap64 (x6_1 + 1)), fT, H', ⟨by have := HK1.out; omega⟩, ⟨qR HO_5⟩, ⟨bT HB⟩⟩
        exact absurd H (by simp)
       exact absurd H (by simp)
      exact absurd H (by simp)
     have c7b0 : decide (((lZ ByteArray.empty y1436 x6_1).size : Int) ≤ (wrap64 ((a0.size : Int) - a1))) = false := decide_eq_false c7
     clear c7
     have H' := ae.mk H
     clear H
     obtain ⟨Ao14, co14, eo14⟩ := Kd.eU HO_5.out
     subst eo14
     have p1439 : 0 ≤ (x6_1 : Int) := of_decide_eq_true aT
     have q1439 : x6_1 < (y1436.length : Int) := of_decide_eq_true aT
     obtain ⟨ad1439, e1439, hx1439_0⟩ := Kd.jI (Kd.dL HO_5.out).2.2 x6_1 p1439 q1439
     cases e1439
     replace p1439 := eq_true p1439
     replace q1439 := eq_true q1439
     go_wp2
     repeat (go_quiet (fail); try go_wp2)
     go_roundg k1
     case measure => have := HK1.out; omega
     case rel => exact ⟨(wrap64 (x6_1 + 1)), fT, H', ⟨by have := HK1.out; omega⟩, ⟨qR HO_5⟩, ⟨bT HB⟩⟩
    exact absurd H (by simp)
   obtain rfl := Option.some.inj H
   obtain ⟨Ao15, co15, eo15⟩ := Kd.eU HO_5.out
   subst eo15
   go_wp2
   repeat (go_quiet (fail); try go_wp2)
   go_ret
   exact ⟨eT, bT HB⟩
end Go.Proofs.YtkbhkonenkgfoaaGreat.Q
end
section
namespace Go.Proofs.YtkbhkonenkgfoaaGreat.Q
open Go.RowKit Go.Proofs.YtkbhkonenkgfoaaGreatW.PrintWords Go.Proofs.YtkbhkonenkgfoaaGreatW.PrintLast Go.Proofs.YtkbhkonenkgfoaaGreatW.PrintMore
attribute [local go_sem] dJ dH dW dV dh df dI dG
set_option linter.unusedVariables false
set_option linter.unusedSimpArgs false
/-! ### dn: function 22 -/
def dn.l0 : Nat → ByteArray → Int → Int → Option (Int × ByteArray × Int × Int × Int × Int)
 | 0, _, _, _ => none
 | k + 1, x0, x1, x10 => if (wrap64 (x1 + x10)) < (x0.size : Int) then (if 0 ≤ (wrap64 (x1 + x10)) then ((fK.f (bt x0 (wrap64 (x1 + x10)))).bind fun t1449 => (if t1449 = true then (dn.l0 k x0 x1 (wrap64 (x10 + 1))) else (if 0 ≤ x1 then (if x1 ≤ (wrap64 (x1 + x10)) then (if (wrap64 (x1 + x10)) ≤ (x0.size : Int) then ((aV.f k (x0.extract (x1 : Int).toNat ((wrap64 (x1 + x10)) : Int).toNat)).bind fun bt1450 => (if bt1450.2 = true then (some (2, x0.extract (x1 : Int).toNat ((wrap64 (x1 + x10)) : Int).toNat, bt1450.1, x1, x10, 0)) else (some (0, (⟨#[]⟩ : ByteArray), 0, 0, 0, 10)))) else (none)) else (none)) else (none)))) else (none)) else (if 0 ≤ x1 then (if x1 ≤ (wrap64 (x1 + x10)) then (if (wrap64 (x1 + x10)) ≤ (x0.size : Int) then ((aV.f k (x0.extract (x1 : Int).toNat ((wrap64 (x1 + x10)) : Int).toNat)).bind fun bt1452 => (if bt1452.2 = true then (some (2, x0.extract (x1 : Int).toNat ((wrap64 (x1 + x10)) : Int).toNat, bt1452.1, x1, x10, 0)) else (some (0, (⟨#[]⟩ : ByteArray), 0, 0, 0, 10)))) else (none)) else (none)) else (none))
def dn.f (k : Nat) (a0 : ByteArray) (a1 : Int) : Option (Int × ByteArray × Int × Int × Int × Int) := if 0 ≤ a1 then (if a1 < (a0.size : Int) then ((fD.f (bt a0 a1)).bind fun t1444 => (if t1444 = true then ((bu.f k a0 a1).bind fun t1445 => (if a1 ≤ (wrap64 (a1 + t1445)) then (if (wrap64 (a1 + t1445)) ≤ (a0.size : Int) then ((cu.f k (a0.extract (a1 : Int).toNat ((wrap64 (a1 + t1445)) : Int).toNat)).bind fun t1447 => (if t1447 = true then (some (5, a0.extract (a1 : Int).toNat ((wrap64 (a1 + t1445)) : Int).toNat, 0, a1, t1445, 0)) else (if t1445 > 16 then (some (0, (⟨#[]⟩ : ByteArray), 0, 0, 0, 10)) else (some (1, a0.extract (a1 : Int).toNat ((wrap64 (a1 + t1445)) : Int).toNat, 0, a1, t1445, 0))))) else (none)) else (none))) else ((fK.f (bt a0 a1)).bind fun t1448 => (if t1448 = true then (dn.l0 k a0 a1 0) else (if (bt a0 a1) = 34 then ((ay.f k a0 a1).bind fun bt1454 => (if bt1454.2 = 0 then (some (0, (⟨#[]⟩ : ByteArray), 0, 0, 0, 10)) else (some (3, bt1454.1, 0, a1, bt1454.2, 0)))) else ((bZ.f k a0 a1).bind fun t1456 => (if t1456 = 0 then (some (0, (⟨#[]⟩ : ByteArray), 0, 0, 0, 9)) else (if a1 ≤ (wrap64 (a1 + t1456)) then (if (wrap64 (a1 + t1456)) ≤ (a0.size : Int) then (some (4, a0.extract (a1 : Int).toNat ((wrap64 (a1 + t1456)) : Int).toNat, 0, a1, t1456, 0)) else (none)) else (none))))))))) else (none)) else (none)
theorem dn.bP : ∀ k, (∀ y0 y1 y2, LeO (dn.l0 k y0 y1 y2) (dn.l0 (k + 1) y0 y1 y2))
 | 0 => fun _ _ _ r h => by simp [dn.l0] at h
 | k + 1 => by
  have ih0 := dn.bP k
  intro y0 y1 y2
  unfold dn.l0
  have m0 := cu.mono
  have m1 := bZ.mono
  have m2 := aV.mono
  have m3 := ay.mono
  have m4 := bu.mono
  exact yL
theorem dn.mono : ∀ a0 a1 k, LeO (dn.f k a0 a1) (dn.f (k + 1) a0 a1) := by
 intro a0 a1 k
 have ih0 := dn.bP k
 unfold dn.f
 have m0 := cu.mono
 have m1 := bZ.mono
 have m2 := aV.mono
 have m3 := ay.mono
 have m4 := bu.mono
 exact yL
end Go.Proofs.YtkbhkonenkgfoaaGreat.Q
end
section
set_option linter.unusedVariables false
set_option linter.unusedSimpArgs false
namespace Go.Proofs.YtkbhkonenkgfoaaGreat.Q
open Go Go.RowKit Go.Proofs.YtkbhkonenkgfoaaGreatW.PrintWords Go.Proofs.YtkbhkonenkgfoaaGreatW.PrintLast Go.Proofs.YtkbhkonenkgfoaaGreatW.PrintMore
attribute [local go_sem] dJ dH dW dV dh df dI dG
set_option maxHeartbeats 8000000 in
set_option maxRecDepth 100000 in
theorem dn.calls (k : Nat) (a0 : ByteArray) (a1 : Int) (r1 : Int) (r2 : ByteArray) (r3 : Int) (r4 : Int) (r5 : Int) (r6 : Int) (w : World) (h : dn.f k a0 a1 = some (r1, r2, r3, r4, r5, r6)) :
 Calls Tryz.prog 22 #[.string a0, .int .i64 a1] w fun e w' => e = .returned (.tuple #[.agg #[.int .i64 r1, .string r2, .int .i64 r3, .int .i64 r4], .int .i64 r5, .int .i64 r6]) ∧ Below w.heap.size w w' := by
 unfold dn.f at h
 have HS := PS.new w
 have H := ae.mk h
 have hu := Tryz.underlying37
 clear h
 (repeat' (first | (with_reducible exact absurd H.out (Option.some_ne_none _).symm) | (first | replace H := qB1 H (by assumption) | replace H := qB0 H (by assumption) | replace H := qE1 H (by assumption) | replace H := qE0 H (by assumption) | replace H := qD1 H (by assumption) | replace H := qD0 H (by assumption)) | (refine qB H ?_ ?_ <;> clear H <;> intro cb_ H <;> (try subst cb_)) | (refine qE H ?_ ?_ <;> clear H <;> intro cb_ cn_ H) | (refine qD H ?_ ?_ <;> clear H <;> intro cp_ cb_ H <;> (try simp only [ge_iff_le, gt_iff_lt] at cp_ cb_))))
 have hi := iE a0 a1
 go_enter Tryz.func22, Tryz.ntmps22
 go_wp2_with (first | ((with_reducible refine bH (N := 4) rfl ?_); refine GH (N := 4) (stP HS) (by first | (go_simp; done) | (go_simp; rfl)) ?_; (try clear hxa0 hxa1 hxa2 hxa3 hfa0 hfa1 hfa2 hfa3); (try clear hxb0 hxb1 hxb2 hxb3 hfb0 hfb1 hfb2 hfb3); (try clear n1_ n2_); clear HS; intro gb4 w' HS; (try obtain ⟨hxa0, hxa1, hxa2, hxa3, hfa0, hfa1, hfa2, hfa3⟩ := c4 HS.hd); (try obtain ⟨hxb0, hxb1, hxb2, hxb3, hfb0, hfb1, hfb2, hfb3⟩ := c4 HS.tl.hd); (try obtain ⟨n1_, n2_⟩ := HS.ne)) | ((with_reducible refine gC 56 rfl ?_); refine pV .bool 56 rfl Tryz.func56 (stP HS) H (fun t h => ofD (fD.calls _ t _ h)) ?_; (try clear hxa0 hxa1 hxa2 hxa3 hfa0 hfa1 hfa2 hfa3); (try clear hxb0 hxb1 hxb2 hxb3 hfb0 hfb1 hfb2 hfb3); (try clear n1_ n2_); clear HS H; intro t w' HS H; (try dsimp only at H); (try obtain ⟨hxa0, hxa1, hxa2, hxa3, hfa0, hfa1, hfa2, hfa3⟩ := c4 HS.hd); (try obtain ⟨hxb0, hxb1, hxb2, hxb3, hfb0, hfb1, hfb2, hfb3⟩ := c4 HS.tl.hd); (try obtain ⟨n1_, n2_⟩ := HS.ne); (repeat' (first | (with_reducible exact absurd H.out (Option.some_ne_none _).symm) | (first | replace H := qB1 H (by assumption) | replace H := qB0 H (by assumption) | replace H := qE1 H (by assumption) | replace H := qE0 H (by assumption) | replace H := qD1 H (by assumption) | replace H := qD0 H (by assumption)) | (refine qB H ?_ ?_ <;> clear H <;> intro cb_ H <;> (try subst cb_)) | (refine qE H ?_ ?_ <;> clear H <;> intro cb_ cn_ H) | (refine qD H ?_ ?_ <;> clear H <;> intro cp_ cb_ H <;> (try simp only [ge_iff_le, gt_iff_lt] at cp_ cb_))))) | ((with_reducible refine gC 57 rfl ?_); refine pV (Value.int .i64) 57 rfl Tryz.func57 (stP HS) H (fun t h => ofD (bu.calls _ _ _ t _ h)) ?_; (try clear hxa0 hxa1 hxa2 hxa3 hfa0 hfa1 hfa2 hfa3); (try clear hxb0 hxb1 hxb2 hxb3 hfb0 hfb1 hfb2 hfb3); (try clear n1_ n2_); clear HS H; intro t2 w' HS H; (try dsimp only at H); (try obtain ⟨hxa0, hxa1, hxa2, hxa3, hfa0, hfa1, hfa2, hfa3⟩ := c4 HS.hd); (try obtain ⟨hxb0, hxb1, hxb2, hxb3, hfb0, hfb1, hfb2, hfb3⟩ := c4 HS.tl.hd); (try obtain ⟨n1_, n2_⟩ := HS.ne); (repeat' (first | (with_reducible exact absurd H.out (Option.some_ne_none _).symm) | (first | replace H := qB1 H (by assumption) | replace H := qB0 H (by assumption) | replace H := qE1 H (by assumption) | replace H := qE0 H (by assumption) | replace H := qD1 H (by assumption) | replace H := qD0 H (by assumption)) | (refine qB H ?_ ?_ <;> clear H <;> intro cb_ H <;> (try subst cb_)) | (refine qE H ?_ ?_ <;> clear H <;> intro cb_ cn_ H) | (refine qD H ?_ ?_ <;> clear H <;> intro cp_ cb_ H <;> (try simp only [ge_iff_le, gt_iff_lt] at cp_ cb_))))) | ((with_reducible refine bH (N := 9) rfl ?_); refine GH (N := 9) (stP HS) (by first | (go_simp; done) | (go_simp; rfl)) ?_; (try clear hxa0 hxa1 hxa2 hxa3 hfa0 hfa1 hfa2 hfa3); (try clear hxb0 hxb1 hxb2 hxb3 hfb0 hfb1 hfb2 hfb3); (try clear n1_ n2_); clear HS; intro gb9 w' HS; (try obtain ⟨hxa0, hxa1, hxa2, hxa3, hfa0, hfa1, hfa2, hfa3⟩ := c4 HS.hd); (try obtain ⟨hxb0, hxb1, hxb2, hxb3, hfb0, hfb1, hfb2, hfb3⟩ := c4 HS.tl.hd); (try obtain ⟨n1_, n2_⟩ := HS.ne)) | ((with_reducible refine gC 58 rfl ?_); refine pV .bool 58 rfl Tryz.func58 (stP HS) H (fun t h => cu.calls _ _ t _ h) ?_; (try clear hxa0 hxa1 hxa2 hxa3 hfa0 hfa1 hfa2 hfa3); (try clear hxb0 hxb1 hxb2 hxb3 hfb0 hfb1 hfb2 hfb3); (try clear n1_ n2_); clear HS H; intro t3 w' HS H; (try dsimp only at H); (try obtain ⟨hxa0, hxa1, hxa2, hxa3, hfa0, hfa1, hfa2, hfa3⟩ := c4 HS.hd); (try obtain ⟨hxb0, hxb1, hxb2, hxb3, hfb0, hfb1, hfb2, hfb3⟩ := c4 HS.tl.hd); (try obtain ⟨n1_, n2_⟩ := HS.ne); (repeat' (first | (with_reducible exact absurd H.out (Option.some_ne_none _).symm) | (first | replace H := qB1 H (by assumption) | replace H := qB0 H (by assumption) | replace H := qE1 H (by assumption) | replace H := qE0 H (by assumption) | replace H := qD1 H (by assumption) | replace H := qD0 H (by assumption)) | (refine qB H ?_ ?_ <;> clear H <;> intro cb_ H <;> (try subst cb_)) | (refine qE H ?_ ?_ <;> clear H <;> intro cb_ cn_ H) | (refine qD H ?_ ?_ <;> clear H <;> intro cp_ cb_ H <;> (try simp only [ge_iff_le, gt_iff_lt] at cp_ cb_))))) | ((with_reducible refine gC 59 rfl ?_); refine pV .bool 59 rfl Tryz.func59 (stP HS) H (fun t h => ofD (fK.calls _ t _ h)) ?_; (try clear hxa0 hxa1 hxa2 hxa3 hfa0 hfa1 hfa2 hfa3); (try clear hxb0 hxb1 hxb2 hxb3 hfb0 hfb1 hfb2 hfb3); (try clear n1_ n2_); clear HS H; intro t4 w' HS H; (try dsimp only at H); (try obtain ⟨hxa0, hxa1, hxa2, hxa3, hfa0, hfa1, hfa2, hfa3⟩ := c4 HS.hd); (try obtain ⟨hxb0, hxb1, hxb2, hxb3, hfb0, hfb1, hfb2, hfb3⟩ := c4 HS.tl.hd); (try obtain ⟨n1_, n2_⟩ := HS.ne); (repeat' (first | (with_reducible exact absurd H.out (Option.some_ne_none _).symm) | (first | replace H := qB1 H (by assumption) | replace H := qB0 H (by assumption) | replace H := qE1 H (by assumption) | replace H := qE0 H (by assumption) | replace H := qD1 H (by assumption) | replace H := qD0 H (by assumption)) | (refine qB H ?_ ?_ <;> clear H <;> intro cb_ H <;> (try subst cb_)) | (refine qE H ?_ ?_ <;> clear H <;> intro cb_ cn_ H) | (refine qD H ?_ ?_ <;> clear H <;> intro cp_ cb_ H <;> (try simp only [ge_iff_le, gt_iff_lt] at cp_ cb_))))) | ((with_reducible refine gC 61 rfl ?_); refine pV (fun t : ByteArray × Int => .tuple #[.string t.1, .int .i64 t.2]) 61 rfl Tryz.func61 (stP HS) H (fun t h => ay.calls _ _ _ t.1 t.2 _ h) ?_; (try clear hxa0 hxa1 hxa2 hxa3 hfa0 hfa1 hfa2 hfa3); (try clear hxb0 hxb1 hxb2 hxb3 hfb0 hfb1 hfb2 hfb3); (try clear n1_ n2_); clear HS H; intro t5 w' HS H; (try dsimp only at H); (try obtain ⟨hxa0, hxa1, hxa2, hxa3, hfa0, hfa1, hfa2, hfa3⟩ := c4 HS.hd); (try obtain ⟨hxb0, hxb1, hxb2, hxb3, hfb0, hfb1, hfb2, hfb3⟩ := c4 HS.tl.hd); (try obtain ⟨n1_, n2_⟩ := HS.ne); (repeat' (first | (with_reducible exact absurd H.out (Option.some_ne_none _).symm) | (first | replace H := qB1 H (by assumption) | replace H := qB0 H (by assumption) | replace H := qE1 H (by assumption) | replace H := qE0 H (by assumption) | replace H := qD1 H (by assumption) | replace H := qD0 H (by assumption)) | (refine qB H ?_ ?_ <;> clear H <;> intro cb_ H <;> (try subst cb_)) | (refine qE H ?_ ?_ <;> clear H <;> intro cb_ cn_ H) | (refine qD H ?_ ?_ <;> clear H <;> intro cp_ cb_ H <;> (try simp only [ge_iff_le, gt_iff_lt] at cp_ cb_))))) | ((with_reducible refine gC 62 rfl ?_); refine pV (Value.int .i64) 62 rfl Tryz.func62 (stP HS) H (fun t h => bZ.calls _ _ _ t _ h) ?_; (try clear hxa0 hxa1 hxa2 hxa3 hfa0 hfa1 hfa2 hfa3); (try clear hxb0 hxb1 hxb2 hxb3 hfb0 hfb1 hfb2 hfb3); (try clear n1_ n2_); clear HS H; intro t6 w' HS H; (try dsimp only at H); (try obtain ⟨hxa0, hxa1, hxa2, hxa3, hfa0, hfa1, hfa2, hfa3⟩ := c4 HS.hd); (try obtain ⟨hxb0, hxb1, hxb2, hxb3, hfb0, hfb1, hfb2, hfb3⟩ := c4 HS.tl.hd); (try obtain ⟨n1_, n2_⟩ := HS.ne); (repeat' (first | (with_reducible exact absurd H.out (Option.some_ne_none _).symm) | (first | replace H := qB1 H (by assumption) | replace H := qB0 H (by assumption) | replace H := qE1 H (by assumption) | replace H := qE0 H (by assumption) | replace H := qD1 H (by assumption) | replace H := qD0 H (by assumption)) | (refine qB H ?_ ?_ <;> clear H <;> intro cb_ H <;> (try subst cb_)) | (refine qE H ?_ ?_ <;> clear H <;> intro cb_ cn_ H) | (refine qD H ?_ ?_ <;> clear H <;> intro cp_ cb_ H <;> (try simp only [ge_iff_le, gt_iff_lt] at cp_ cb_))))))
 all_goals first
  | (have h_ := H.out; simp only [Option.some.injEq, Prod.mk.injEq] at h_; obtain ⟨rfl, rfl, rfl, rfl, rfl, rfl⟩ := h_; refine bodyPost_ret (qw rfl _ _ gb4 37 _ (0, 0) _ rfl (by first | exact PS.hd (PS.tl (p := (gb9, _)) (stP HS)) | exact PS.hd (stP HS)) Tryz.underlying37 rfl (by kernel_rfl)) rfl ?_; exact ⟨Z19, by first | exact PS.below (bs := (gb9, _) :: _) (stP HS) | exact (stP HS).below⟩)
  | skip
 (try simp only [Act.put, List.setIfInBounds_toArray, List.set_cons_zero, List.set_cons_succ])
 go_loopg [10] k (fun kq v10 w' => ∃ x : Int, v10 = .int .i64 x ∧ ae (dn.l0 kq a0 a1 x = some (r1, r2, r3, r4, r5, r6)) ∧ ae (kq ≤ k) ∧ PS w w' [(gb4, .cells #[.int .i64 0, .string (⟨#[]⟩ : ByteArray), .int .i64 0, .int .i64 0] 37 (0, 0))])
 case atStart => exact ⟨_, rfl, H, ⟨Nat.le_refl _⟩, stP HS⟩
 case round =>
  clear H HS
  (try clear hxa0 hxa1 hxa2 hxa3 hfa0 hfa1 hfa2 hfa3); (try clear hxb0 hxb1 hxb2 hxb3 hfb0 hfb1 hfb2 hfb3); (try clear n1_ n2_)
  obtain ⟨x, rfl, H, HK1, HS⟩ := hrel
  cases gk with
  | zero => exact absurd H.out (by simp [dn.l0])
  | succ k1 =>
   simp only [dn.l0] at H
   obtain ⟨j, hj⟩ : ∃ j, wrap64 (a1 + x) = j := ⟨_, rfl⟩
   simp only [hj] at H
   have hjw : IntKind.i64.wrap (a1 + x) = j := (gX _).trans hj
   have hi := iE a0 j
   (try obtain ⟨hxa0, hxa1, hxa2, hxa3, hfa0, hfa1, hfa2, hfa3⟩ := c4 HS.hd); (try obtain ⟨hxb0, hxb1, hxb2, hxb3, hfb0, hfb1, hfb2, hfb3⟩ := c4 HS.tl.hd); (try obtain ⟨n1_, n2_⟩ := HS.ne)
   (repeat' (first | (with_reducible exact absurd H.out (Option.some_ne_none _).symm) | (first | replace H := qB1 H (by assumption) | replace H := qB0 H (by assumption) | replace H := qE1 H (by assumption) | replace H := qE0 H (by assumption) | replace H := qD1 H (by assumption) | replace H := qD0 H (by assumption)) | (refine qB H ?_ ?_ <;> clear H <;> intro cb_ H <;> (try subst cb_)) | (refine qE H ?_ ?_ <;> clear H <;> intro cb_ cn_ H) | (refine qD H ?_ ?_ <;> clear H <;> intro cp_ cb_ H <;> (try simp only [ge_iff_le, gt_iff_lt] at cp_ cb_))))
   all_goals go_wp2_with (first | (go_at_call 59; refine cV .bool (stP HS) H (fun t h => ofD (fK.calls _ t _ h)) ?_; (try clear hxa0 hxa1 hxa2 hxa3 hfa0 hfa1 hfa2 hfa3); (try clear hxb0 hxb1 hxb2 hxb3 hfb0 hfb1 hfb2 hfb3); (try clear n1_ n2_); clear HS H; intro t w' HS H; (try dsimp only at H); (try obtain ⟨hxa0, hxa1, hxa2, hxa3, hfa0, hfa1, hfa2, hfa3⟩ := c4 HS.hd); (try obtain ⟨hxb0, hxb1, hxb2, hxb3, hfb0, hfb1, hfb2, hfb3⟩ := c4 HS.tl.hd); (try obtain ⟨n1_, n2_⟩ := HS.ne); (repeat' (first | (with_reducible exact absurd H.out (Option.some_ne_none _).symm) | (first | replace H := qB1 H (by assumption) | replace H := qB0 H (by assumption) | replace H := qE1 H (by assumption) | replace H := qE0 H (by assumption) | replace H := qD1 H (by assumption) | replace H := qD0 H (by assumption)) | (refine qB H ?_ ?_ <;> clear H <;> intro cb_ H <;> (try subst cb_)) | (refine qE H ?_ ?_ <;> clear H <;> intro cb_ cn_ H) | (refine qD H ?_ ?_ <;> clear H <;> intro cp_ cb_ H <;> (try simp only [ge_iff_le, gt_iff_lt] at cp_ cb_))))) | ((with_reducible refine gC 60 rfl ?_); refine pV (fun t : Int × Bool => .tuple #[.int .i64 t.1, .bool t.2]) 60 rfl Tryz.func60 (stP HS) H (fun t h => ofD (aV.calls _ _ t.1 t.2 _ h)) ?_; (try clear hxa0 hxa1 hxa2 hxa3 hfa0 hfa1 hfa2 hfa3); (try clear hxb0 hxb1 hxb2 hxb3 hfb0 hfb1 hfb2 hfb3); (try clear n1_ n2_); clear HS H; intro t7 w' HS H; (try dsimp only at H); (try obtain ⟨hxa0, hxa1, hxa2, hxa3, hfa0, hfa1, hfa2, hfa3⟩ := c4 HS.hd); (try obtain ⟨hxb0, hxb1, hxb2, hxb3, hfb0, hfb1, hfb2, hfb3⟩ := c4 HS.tl.hd); (try obtain ⟨n1_, n2_⟩ := HS.ne); (repeat' (first | (with_reducible exact absurd H.out (Option.some_ne_none _).symm) | (first | replace H := qB1 H (by assumption) | replace H := qB0 H (by assumption) | replace H := qE1 H (by assumption) | replace H := qE0 H (by assumption) | replace H := qD1 H (by assumption) | replace H := qD0 H (by assumption)) | (refine qB H ?_ ?_ <;> clear H <;> intro cb_ H <;> (try subst cb_)) | (refine qE H ?_ ?_ <;> clear H <;> intro cb_ cn_ H) | (refine qD H ?_ ?_ <;> clear H <;> intro cp_ cb_ H <;> (try simp only [ge_iff_le, gt_iff_lt] at cp_ cb_))))))
   all_goals first
    | (go_roundg k1; (case measure => have := HK1.out; omega); (case rel => exact ⟨_, by first | rfl | simp, H, ⟨by have := HK1.out; omega⟩, stP HS⟩))
    | (have h_ := H.out; simp only [Option.some.injEq, Prod.mk.injEq] at h_; obtain ⟨rfl, rfl, rfl, rfl, rfl, rfl⟩ := h_; refine bodyPost_ret (qw rfl _ _ gb4 37 _ (0, 0) _ rfl (by first | exact PS.hd (PS.tl (p := (gb9, _)) (stP HS)) | exact PS.hd (stP HS)) Tryz.underlying37 rfl (by kernel_rfl)) rfl ?_; exact ⟨by first | rfl | (simp; done) | (simp [*]; done) | (simp only [← hj]; rfl), by first | exact PS.below (bs := (gb9, _) :: _) (stP HS) | exact (stP HS).below⟩)
end Go.Proofs.YtkbhkonenkgfoaaGreat.Q
end
section
set_option linter.unusedVariables false
set_option linter.unusedSimpArgs false
namespace Go.Proofs.YtkbhkonenkgfoaaGreat.Q
open Go.RowKit Go.Proofs.YtkbhkonenkgfoaaGreatW.PrintWords Go.Proofs.YtkbhkonenkgfoaaGreatW.PrintLast Go.Proofs.YtkbhkonenkgfoaaGreatW.PrintMore
structure iI where
 expr : List S37 → Int → Bool → Option (List S29 × Int × Bool)
 block : List S37 → Int → Bool → Option (List S29 × Int × Bool)
 at0 : List S37 → Int → Bool → Int → Option (List S29 × Int × Bool)
 unary : List S37 → Int → Bool → Option (List S29 × Int × Bool)
/-- What the family's calls do. -/
structure oI (F : iI) : Prop where
 expr : ∀ (g : Nat) s0 s1 s2 r q b w0 w, Rd 47 w0 w g s0 s1 s2 → Below w0.heap.size w0 w → F.expr s0 s1 s2 = some (r, q, b) → Calls Tryz.prog 100 #[.pointer (some ⟨g, 0, none⟩)] w (Back 47 w0 w g s0 q b (IsL w r))
 block : ∀ (g : Nat) s0 s1 s2 r q b w0 w, Rd 47 w0 w g s0 s1 s2 → Below w0.heap.size w0 w → F.block s0 s1 s2 = some (r, q, b) → Calls Tryz.prog 80 #[.pointer (some ⟨g, 0, none⟩)] w (Back 47 w0 w g s0 q b (IsL w r))
 at0 : ∀ (g : Nat) s0 s1 s2 (a : Int) r q b w0 w, Rd 47 w0 w g s0 s1 s2 → Below w0.heap.size w0 w → F.at0 s0 s1 s2 a = some (r, q, b) → Calls Tryz.prog 104 #[.pointer (some ⟨g, 0, none⟩), .int .i64 a] w (Back 47 w0 w g s0 q b (IsL w r))
 unary : ∀ (g : Nat) s0 s1 s2 r q b w0 w, Rd 47 w0 w g s0 s1 s2 → Below w0.heap.size w0 w → F.unary s0 s1 s2 = some (r, q, b) → Calls Tryz.prog 107 #[.pointer (some ⟨g, 0, none⟩)] w (Back 47 w0 w g s0 q b (IsL w r))
structure kw (F F' : iI) : Prop where
 expr : ∀ a b c, LeO (F.expr a b c) (F'.expr a b c)
 block : ∀ a b c, LeO (F.block a b c) (F'.block a b c)
 at0 : ∀ a b c d, LeO (F.at0 a b c d) (F'.at0 a b c d)
 unary : ∀ a b c, LeO (F.unary a b c) (F'.unary a b c)
def lG.f (F : iI) (_k : Nat) (s0 : List S37) (s1 : Int) (s2 : Bool) : Option (List S29 × Int × Bool) := F.expr s0 s1 s2
theorem lG.mono {F F' : iI} (HLE : kw F F') (a b c) (k : Nat) : LeO (lG.f F k a b c) (lG.f F' (k + 1) a b c) := HLE.expr a b c
def qy.f (F : iI) (_k : Nat) (s0 : List S37) (s1 : Int) (s2 : Bool) : Option (List S29 × Int × Bool) := F.block s0 s1 s2
theorem qy.mono {F F' : iI} (HLE : kw F F') (a b c) (k : Nat) : LeO (qy.f F k a b c) (qy.f F' (k + 1) a b c) := HLE.block a b c
def Aw.f (F : iI) (_k : Nat) (s0 : List S37) (s1 : Int) (s2 : Bool) (a : Int) : Option (List S29 × Int × Bool) := F.at0 s0 s1 s2 a
theorem Aw.mono {F F' : iI} (HLE : kw F F') (a b c d) (k : Nat) : LeO (Aw.f F k a b c d) (Aw.f F' (k + 1) a b c d) := HLE.at0 a b c d
def qx.f (F : iI) (_k : Nat) (s0 : List S37) (s1 : Int) (s2 : Bool) : Option (List S29 × Int × Bool) := F.unary s0 s1 s2
theorem qx.mono {F F' : iI} (HLE : kw F F') (a b c) (k : Nat) : LeO (qx.f F k a b c) (qx.f F' (k + 1) a b c) := HLE.unary a b c
end Go.Proofs.YtkbhkonenkgfoaaGreat.Q
end
