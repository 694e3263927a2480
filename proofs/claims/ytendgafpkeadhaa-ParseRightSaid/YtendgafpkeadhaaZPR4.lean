/- Walks over functions of the program, words for them, and what the functions come to; of each text only what this claim uses; no condition. -/
import Derived.Test.YtendgafpkeadhaaZPR0
import Derived.Test.YtendgafpkeadhaaZPR3
section
namespace Go.Proofs.Ytendgafpkeadhaa.Q
open Go.RowKit Go.Proofs.YtendgafpkeadhaaW.PrintWords Go.Proofs.YtendgafpkeadhaaW.PrintLast Go.Proofs.YtendgafpkeadhaaW.PrintMore
attribute [local go_sem] max2_int min2_int max_two min_two max_three min_three max_four min_four
set_option linter.unusedVariables false
set_option linter.unusedSimpArgs false
/-! ### bG: function 68 -/
def bG.l0 : Nat → ByteArray → ByteArray → Int → Option (Bool)
 | 0, _, _, _ => none
 | k + 1, x0, x1, x5 => if (wrap64 (x5 + (x1.size : Int))) ≤ (x0.size : Int) then (if 0 ≤ x5 then (if x5 ≤ (wrap64 (x5 + (x1.size : Int))) then (if (x0.extract (x5 : Int).toNat ((wrap64 (x5 + (x1.size : Int))) : Int).toNat).toList = x1.toList then (some true) else (bG.l0 k x0 x1 (wrap64 (x5 + 1)))) else (none)) else (none)) else (some false)
def bG.f (k : Nat) (a0 : ByteArray) (a1 : ByteArray) : Option (Bool) := bG.l0 k a0 a1 0
theorem bG.mono_l : ∀ k, (∀ y0 y1 y2, LeO (bG.l0 k y0 y1 y2) (bG.l0 (k + 1) y0 y1 y2))
 | 0 => fun _ _ _ r h => by simp [bG.l0] at h
 | k + 1 => by
  have ih0 := bG.mono_l k
  intro y0 y1 y2
  unfold bG.l0
  repeat' first
  | (with_reducible exact ih0 _ _ _)
  | (with_reducible exact LeO.refl _)
  | (with_reducible exact LeO.none _)
  | (with_reducible refine LeO.ite ?_ ?_)
  | (with_reducible refine LeO.bind ?_ (fun _ => ?_))
  | exact ih0 _ _ _
  | exact LeO.none _
  | refine LeO.ite ?_ ?_
  | refine LeO.bind ?_ (fun _ => ?_)
theorem bG.mono : ∀ a0 a1 k, LeO (bG.f k a0 a1) (bG.f (k + 1) a0 a1) := by
 intro a0 a1 k
 have ih0 := bG.mono_l k
 unfold bG.f
 repeat' first
  | (with_reducible exact ih0 _ _ _)
  | (with_reducible exact LeO.refl _)
  | (with_reducible exact LeO.none _)
  | (with_reducible refine LeO.ite ?_ ?_)
  | (with_reducible refine LeO.bind ?_ (fun _ => ?_))
  | exact ih0 _ _ _
  | exact LeO.none _
  | refine LeO.ite ?_ ?_
  | refine LeO.bind ?_ (fun _ => ?_)
set_option maxHeartbeats 8000000 in
set_option maxRecDepth 100000 in
theorem bG.calls (k : Nat) (a0 : ByteArray) (a1 : ByteArray) (r : Bool) (w : World) (h : bG.f k a0 a1 = some r) :
 Calls Try.prog 68 #[.string a0, .string a1] w fun e w' => e = .returned (.bool r) ∧ dA w w' := by
 have H : (bG.l0 k a0 a1 0) = some r := h
 clear h
 have H' := Aside0.mk H
 clear H
 go_enter Try.func68, Try.ntmps68
 go_wp2
 go_loopg [5] k (fun kq v5 w' => ∃ (x5_1 : Int), v5 = .int .i64 x5_1 ∧ Aside0 (bG.l0 kq a0 a1 x5_1 = some r) ∧ Aside0 (kq ≤ k) ∧ dA w w')
 case atStart => exact ⟨(0), Z7, H', ⟨Nat.le_refl _⟩, Z10⟩
 case round =>
  clear H'
  try clear p2
  obtain ⟨x5_1, rfl, HA, HK1, ⟨m1, rfl⟩⟩ := hrel
  cases gk with
  | zero => exact absurd HA.out (by simp [bG.l0])
  | succ k1 =>
   have H := HA.out
   clear HA
   simp only [bG.l0] at H
   by_cases c3 : (wrap64 (x5_1 + (a1.size : Int))) ≤ (a0.size : Int)
   ·rw [if_pos c3] at H
    have c3b0 : decide ((wrap64 (x5_1 + (a1.size : Int))) ≤ (a0.size : Int)) = true := decide_eq_true c3
    clear c3
    by_cases c4 : 0 ≤ x5_1
    ·rw [if_pos c4] at H
     have c4b0 := eq_true c4
     have c4b1 : decide (0 ≤ x5_1) = true := decide_eq_true c4
     clear c4
     by_cases c5 : x5_1 ≤ (wrap64 (x5_1 + (a1.size : Int)))
     ·rw [if_pos c5] at H
      have c5b0 := eq_true c5
      have c5b1 : decide (x5_1 ≤ (wrap64 (x5_1 + (a1.size : Int)))) = true := decide_eq_true c5
      have c6b0 := eq_true (of_decide_eq_true Z8 : (wrap64 (x5_1 + (a1.size : Int))) ≤ (a0.size : Int))
      by_cases c7 : (a0.extract (x5_1 : Int).toNat ((wrap64 (x5_1 + (a1.size : Int))) : Int).toNat).toList = a1.toList
      ·rw [if_pos c7] at H
       have c7b0 : ((a0.extract (x5_1 : Int).toNat ((wrap64 (x5_1 + (a1.size : Int))) : Int).toNat).toList == a1.toList) = true := beq_iff_eq.mpr c7
       have c7b1 : ((a0.extract (x5_1 : Int).toNat ((wrap64 (x5_1 + (a1.size : Int))) : Int).toNat).toList != a1.toList) = false := bne_eq_false_iff_eq.mpr c7
       clear c7
       obtain rfl := Option.some.inj H
       go_wp2
       go_ret
       exact ⟨Z7, Z10⟩
      rw [if_neg c7] at H
      have c7b0 : ((a0.extract (x5_1 : Int).toNat ((wrap64 (x5_1 + (a1.size : Int))) : Int).toNat).toList == a1.toList) = false := beq_eq_false_iff_ne.mpr c7
      have c7b1 : ((a0.extract (x5_1 : Int).toNat ((wrap64 (x5_1 + (a1.size : Int))) : Int).toNat).toList != a1.toList) = true := bne_iff_ne.mpr c7
      have H' := Aside0.mk H
      clear H
      go_wp2
      go_roundg k1
      case measure => have := HK1.out; omega
      case rel => exact ⟨(wrap64 (x5_1 + 1)), Z7, H', ⟨by have := HK1.out; omega⟩, Z10⟩
     rw [if_neg c5] at H
     exact absurd H (by simp)
    rw [if_neg c4] at H
    exact absurd H (by simp)
   rw [if_neg c3] at H
   have c3b0 : decide ((wrap64 (x5_1 + (a1.size : Int))) ≤ (a0.size : Int)) = false := decide_eq_false c3
   clear c3
   obtain rfl := Option.some.inj H
   go_wp2
   go_ret
   exact ⟨Z7, Z10⟩
/-! ### eF: function 46 -/
def eF.f (k : Nat) (a0 : ByteArray) : Option (Bool) := (gq.f a0).bind fun t124 => (if t124 = true then (if 1 + a0.size ≤ 9223372036854775807 then (if ((⟨#[32]⟩ : ByteArray) ++ a0).size + 1 ≤ 9223372036854775807 then ((bG.f k (⟨#[32, 109, 111, 100, 117, 108, 101, 32, 117, 115, 101, 32, 102, 110, 32, 108, 101, 116, 32, 105, 102, 32, 101, 108, 115, 101, 32, 119, 104, 105, 108, 101, 32, 98, 114, 101, 97, 107, 32, 99, 111, 110, 116, 105, 110, 117, 101, 32, 114, 101, 116, 117, 114, 110, 32, 112, 117, 116, 32, 101, 109, 105, 116, 32, 121, 105, 101, 108, 100, 32, 110, 105, 108, 32, 115, 116, 97, 116, 101, 32, 115, 112, 97, 119, 110, 32, 108, 101, 110, 32, 110, 111, 116, 32, 97, 110, 100, 32, 111, 114, 32]⟩ : ByteArray) (((⟨#[32]⟩ : ByteArray) ++ a0) ++ (⟨#[32]⟩ : ByteArray))).bind fun t125 => (some t125)) else (none)) else (none)) else (some false))
theorem eF.mono : ∀ a0 k, LeO (eF.f k a0) (eF.f (k + 1) a0) := by
 intro a0 k
 unfold eF.f
 repeat' first
  | (with_reducible exact bG.mono _ _ _)
  | (with_reducible exact LeO.refl _)
  | (with_reducible exact LeO.none _)
  | (with_reducible refine LeO.ite ?_ ?_)
  | (with_reducible refine LeO.bind ?_ (fun _ => ?_))
  | exact bG.mono _ _ _
  | exact LeO.none _
  | refine LeO.ite ?_ ?_
  | refine LeO.bind ?_ (fun _ => ?_)
set_option maxHeartbeats 8000000 in
set_option maxRecDepth 100000 in
theorem eF.calls (k : Nat) (a0 : ByteArray) (r : Bool) (w : World) (h : eF.f k a0 = some r) :
 Calls Try.prog 46 #[.string a0] w fun e w' => e = .returned (.bool r) ∧ Below w.heap.size w w' := by
 have HB := Aside0.mk (Below.refl w.heap.size w)
 have H : ((gq.f a0).bind fun t124 => (if t124 = true then (if 1 + a0.size ≤ 9223372036854775807 then (if ((⟨#[32]⟩ : ByteArray) ++ a0).size + 1 ≤ 9223372036854775807 then ((bG.f k (⟨#[32, 109, 111, 100, 117, 108, 101, 32, 117, 115, 101, 32, 102, 110, 32, 108, 101, 116, 32, 105, 102, 32, 101, 108, 115, 101, 32, 119, 104, 105, 108, 101, 32, 98, 114, 101, 97, 107, 32, 99, 111, 110, 116, 105, 110, 117, 101, 32, 114, 101, 116, 117, 114, 110, 32, 112, 117, 116, 32, 101, 109, 105, 116, 32, 121, 105, 101, 108, 100, 32, 110, 105, 108, 32, 115, 116, 97, 116, 101, 32, 115, 112, 97, 119, 110, 32, 108, 101, 110, 32, 110, 111, 116, 32, 97, 110, 100, 32, 111, 114, 32]⟩ : ByteArray) (((⟨#[32]⟩ : ByteArray) ++ a0) ++ (⟨#[32]⟩ : ByteArray))).bind fun t125 => (some t125)) else (none)) else (none)) else (some false))) = some r := h
 clear h
 replace H := Option.bind_eq_some_iff.mp H
 obtain ⟨t124, A20, H⟩ := H
 try dsimp only at H
 have A2 := Aside0.mk A20
 clear A20
 by_cases c3 : t124 = true
 ·subst c3
  rw [if_pos rfl] at H
  have H1 := H
  clear H
  have H := H1
  clear H1
  by_cases c4 : 1 + a0.size ≤ 9223372036854775807
  ·rw [if_pos c4] at H
   have c4b0 := eq_true c4
   have c4b1 : decide (1 + a0.size ≤ 9223372036854775807) = true := decide_eq_true c4
   try have c4b2 : (9223372036854775807 < 1 + a0.size) = False := eq_false (Nat.not_lt.2 c4)
   by_cases c5 : ((⟨#[32]⟩ : ByteArray) ++ a0).size + 1 ≤ 9223372036854775807
   ·rw [if_pos c5] at H
    have c5b0 := eq_true c5
    have c5b1 : decide (((⟨#[32]⟩ : ByteArray) ++ a0).size + 1 ≤ 9223372036854775807) = true := decide_eq_true c5
    have c5s := c5
    simp only [ByteArray.size_append, show ((⟨#[32]⟩ : ByteArray)).size = 1 from rfl] at c5s
    have c5t := eq_true c5s
    have c5u := eq_false (Nat.not_lt.2 c5s)
    clear c5s
    try have c5b2 : (9223372036854775807 < ((⟨#[32]⟩ : ByteArray) ++ a0).size + 1) = False := eq_false (Nat.not_lt.2 c5)
    replace H := Option.bind_eq_some_iff.mp H
    obtain ⟨t125, A60, H⟩ := H
    replace H : (some t125) = some r := H
    have A6 := Aside0.mk A60
    clear A60
    obtain rfl := Option.some.inj H
    go_enter Try.func46, Try.ntmps46
    go_wp2_with (first | ((with_reducible refine gate_callee (f := 58) rfl ?_); refine goesL_ (some 4) rfl rfl Try.func58 (by kernel_rfl) rfl #[.string a0] rfl Z3 ?_; (with_reducible refine (gq.calls a0 true _ A2.out).mono ?_); rintro e w7 ⟨rfl, hb⟩; refine ⟨_, rfl, ?_⟩; have n0_ := Aside0.mk (below_step Z4 hb); clear HB; have HB := n0_; clear n0_; (try clear hb)) | (go_at_call 68; (with_reducible refine (bG.calls k (⟨#[32, 109, 111, 100, 117, 108, 101, 32, 117, 115, 101, 32, 102, 110, 32, 108, 101, 116, 32, 105, 102, 32, 101, 108, 115, 101, 32, 119, 104, 105, 108, 101, 32, 98, 114, 101, 97, 107, 32, 99, 111, 110, 116, 105, 110, 117, 101, 32, 114, 101, 116, 117, 114, 110, 32, 112, 117, 116, 32, 101, 109, 105, 116, 32, 121, 105, 101, 108, 100, 32, 110, 105, 108, 32, 115, 116, 97, 116, 101, 32, 115, 112, 97, 119, 110, 32, 108, 101, 110, 32, 110, 111, 116, 32, 97, 110, 100, 32, 111, 114, 32]⟩ : ByteArray) (((⟨#[32]⟩ : ByteArray) ++ a0) ++ (⟨#[32]⟩ : ByteArray)) t125 _ A6.out).mono ?_); rintro e w' ⟨rfl, ⟨nd, rfl⟩⟩))
    go_ret
    exact ⟨Z5, Z4⟩
   rw [if_neg c5] at H
   exact absurd H (by simp)
  rw [if_neg c4] at H
  exact absurd H (by simp)
 replace c3 := Bool.eq_false_iff.mpr c3
 subst c3
 have H1 : (some false) = some r := by rw [if_neg (show ¬ (false = true) by decide)] at H; exact H
 clear H
 have H := H1
 clear H1
 obtain rfl := Option.some.inj H
 go_enter Try.func46, Try.ntmps46
 go_wp2_with (first | ((with_reducible refine gate_callee (f := 58) rfl ?_); refine goesL_ (some 4) rfl rfl Try.func58 (by kernel_rfl) rfl #[.string a0] rfl Z3 ?_; (with_reducible refine (gq.calls a0 false _ A2.out).mono ?_); rintro e w8 ⟨rfl, hb⟩; refine ⟨_, rfl, ?_⟩; have n0_ := Aside0.mk (below_step Z4 hb); clear HB; have HB := n0_; clear n0_; (try clear hb)))
 go_ret
 exact ⟨Z5, Z4⟩
/-! ### dE: function 31 -/
def dE.f (k : Nat) (a0 : ByteArray) : Option (Bool) := (gq.f a0).bind fun t126 => (if t126 = true then (if (a0.size : Int) ≤ 16 then ((eF.f k a0).bind fun t127 => (some (!t127))) else (some false)) else (some false))
theorem dE.mono : ∀ a0 k, LeO (dE.f k a0) (dE.f (k + 1) a0) := by
 intro a0 k
 unfold dE.f
 repeat' first
  | (with_reducible exact eF.mono _ _)
  | (with_reducible exact LeO.refl _)
  | (with_reducible exact LeO.none _)
  | (with_reducible refine LeO.ite ?_ ?_)
  | (with_reducible refine LeO.bind ?_ (fun _ => ?_))
  | exact eF.mono _ _
  | exact LeO.none _
  | refine LeO.ite ?_ ?_
  | refine LeO.bind ?_ (fun _ => ?_)
set_option maxHeartbeats 8000000 in
set_option maxRecDepth 100000 in
theorem dE.calls (k : Nat) (a0 : ByteArray) (r : Bool) (w : World) (h : dE.f k a0 = some r) :
 Calls Try.prog 31 #[.string a0] w fun e w' => e = .returned (.bool r) ∧ Below w.heap.size w w' := by
 have HB := Aside0.mk (Below.refl w.heap.size w)
 have H : ((gq.f a0).bind fun t126 => (if t126 = true then (if (a0.size : Int) ≤ 16 then ((eF.f k a0).bind fun t127 => (some (!t127))) else (some false)) else (some false))) = some r := h
 clear h
 replace H := Option.bind_eq_some_iff.mp H
 obtain ⟨t126, A20, H⟩ := H
 replace H : (if t126 = true then (if (a0.size : Int) ≤ 16 then ((eF.f k a0).bind fun t127 => (some (!t127))) else (some false)) else (some false)) = some r := H
 have A2 := Aside0.mk A20
 clear A20
 by_cases c3 : t126 = true
 ·subst c3
  have H1 : (if (a0.size : Int) ≤ 16 then ((eF.f k a0).bind fun t127 => (some (!t127))) else (some false)) = some r := by rw [if_pos rfl] at H; exact H
  clear H
  have H := H1
  clear H1
  by_cases c4 : (a0.size : Int) ≤ 16
  ·rw [if_pos c4] at H
   have c4b0 : decide ((a0.size : Int) ≤ 16) = true := decide_eq_true c4
   have c4b1 : decide (a0.size ≤ 16) = true := decide_eq_true (by omega)
   clear c4
   replace H := Option.bind_eq_some_iff.mp H
   obtain ⟨t127, A50, H⟩ := H
   replace H : (some (!t127)) = some r := H
   have A5 := Aside0.mk A50
   clear A50
   obtain rfl := Option.some.inj H
   go_enter Try.func31, Try.ntmps31
   go_wp2_with (first | ((with_reducible refine gate_callee (f := 58) rfl ?_); refine goesL_ (some 4) rfl rfl Try.func58 (by kernel_rfl) rfl #[.string a0] rfl Z3 ?_; (with_reducible refine (gq.calls a0 true _ A2.out).mono ?_); rintro e w6 ⟨rfl, hb⟩; refine ⟨_, rfl, ?_⟩; have n0_ := Aside0.mk (below_step Z4 hb); clear HB; have HB := n0_; clear n0_; (try clear hb)) | (go_at_call 46; (with_reducible refine (eF.calls k a0 t127 _ A5.out).mono ?_); rintro e w7 ⟨rfl, hb⟩; have n0_ := Aside0.mk (below_step Z4 hb); clear HB; have HB := n0_; clear n0_; (try clear hb)))
   go_ret
   exact ⟨Z5, Z4⟩
  rw [if_neg c4] at H
  have c4b0 : decide ((a0.size : Int) ≤ 16) = false := decide_eq_false c4
  have c4b1 : decide (a0.size ≤ 16) = false := decide_eq_false (by omega)
  clear c4
  obtain rfl := Option.some.inj H
  go_enter Try.func31, Try.ntmps31
  go_wp2_with (first | ((with_reducible refine gate_callee (f := 58) rfl ?_); refine goesL_ (some 4) rfl rfl Try.func58 (by kernel_rfl) rfl #[.string a0] rfl Z3 ?_; (with_reducible refine (gq.calls a0 true _ A2.out).mono ?_); rintro e w8 ⟨rfl, hb⟩; refine ⟨_, rfl, ?_⟩; have n0_ := Aside0.mk (below_step Z4 hb); clear HB; have HB := n0_; clear n0_; (try clear hb)))
  go_ret
  exact ⟨Z5, Z4⟩
 replace c3 := Bool.eq_false_iff.mpr c3
 subst c3
 have H1 : (some false) = some r := by rw [if_neg (show ¬ (false = true) by decide)] at H; exact H
 clear H
 have H := H1
 clear H1
 obtain rfl := Option.some.inj H
 go_enter Try.func31, Try.ntmps31
 go_wp2_with (first | ((with_reducible refine gate_callee (f := 58) rfl ?_); refine goesL_ (some 4) rfl rfl Try.func58 (by kernel_rfl) rfl #[.string a0] rfl Z3 ?_; (with_reducible refine (gq.calls a0 false _ A2.out).mono ?_); rintro e w9 ⟨rfl, hb⟩; refine ⟨_, rfl, ?_⟩; have n0_ := Aside0.mk (below_step Z4 hb); clear HB; have HB := n0_; clear n0_; (try clear hb)))
 go_ret
 exact ⟨Z5, Z4⟩
end Go.Proofs.Ytendgafpkeadhaa.Q
end
section
namespace Go.Proofs.Ytendgafpkeadhaa.Q
open Go.RowKit Go.Proofs.YtendgafpkeadhaaW.PrintWords Go.Proofs.YtendgafpkeadhaaW.PrintLast Go.Proofs.YtendgafpkeadhaaW.PrintMore
attribute [local go_sem] max2_int min2_int max_two min_two max_three min_three max_four min_four
set_option linter.unusedVariables false
set_option linter.unusedSimpArgs false
/-! ### bn: function 57 -/
mutual
def bn.l0 : Nat → ByteArray → ByteArray → Int → Int → Option (Bool)
 | 0, _, _, _, _ => none
 | k + 1, x0, x1, x9, x10 => if x10 < x9 then (if 0 ≤ x10 then (if x10 < (x1.size : Int) then (if (bt x1 x10) = 32 then (some false) else (bn.l0 k x0 x1 x9 (wrap64 (x10 + 1)))) else (none)) else (none)) else (bn.l1 k x0 x1 (wrap64 ((x1.size : Int) + 2)) 0)
def bn.l1 : Nat → ByteArray → ByteArray → Int → Int → Option (Bool)
 | 0, _, _, _, _ => none
 | k + 1, x0, x1, x6, x7 => if x1.toList = ([] : List UInt8) then (bn.j2 k x0 x1 x6 x7 false) else (bn.j2 k x0 x1 x6 x7 (decide ((wrap64 (x7 + x6)) ≤ (x0.size : Int))))
def bn.j2 : Nat → ByteArray → ByteArray → Int → Int → Bool → Option (Bool)
 | 0, _, _, _, _, _ => none
 | k + 1, x0, x1, x6, x7, x30 => if x30 = true then (if 0 ≤ x7 then (if x7 ≤ (wrap64 (x7 + x6)) then (if (wrap64 (x7 + x6)) ≤ (x0.size : Int) then (if 1 + x1.size ≤ 9223372036854775807 then (if ((⟨#[32]⟩ : ByteArray) ++ x1).size + 1 ≤ 9223372036854775807 then (if (x0.extract (x7 : Int).toNat ((wrap64 (x7 + x6)) : Int).toNat).toList = (((⟨#[32]⟩ : ByteArray) ++ x1) ++ (⟨#[32]⟩ : ByteArray)).toList then (some true) else (bn.l1 k x0 x1 x6 (wrap64 (x7 + 1)))) else (none)) else (none)) else (none)) else (none)) else (none)) else (some false)
end
def bn.f (k : Nat) (a0 : ByteArray) (a1 : ByteArray) : Option (Bool) := bn.l0 k a0 a1 (a1.size : Int) 0
theorem bn.mono_l : ∀ k, (∀ y0 y1 y2 y3, LeO (bn.l0 k y0 y1 y2 y3) (bn.l0 (k + 1) y0 y1 y2 y3)) ∧ (∀ y0 y1 y2 y3, LeO (bn.l1 k y0 y1 y2 y3) (bn.l1 (k + 1) y0 y1 y2 y3)) ∧ (∀ y0 y1 y2 y3 y4, LeO (bn.j2 k y0 y1 y2 y3 y4) (bn.j2 (k + 1) y0 y1 y2 y3 y4))
 | 0 => ⟨fun _ _ _ _ r h => by simp [bn.l0] at h, fun _ _ _ _ r h => by simp [bn.l1] at h, fun _ _ _ _ _ r h => by simp [bn.j2] at h⟩
 | k + 1 => by
  obtain ⟨ih0, ih1, ih2⟩ := bn.mono_l k
  refine ⟨?_, ?_, ?_⟩
  ·intro y0 y1 y2 y3
   unfold bn.l0
   repeat' first
   | (with_reducible exact ih0 _ _ _ _)
   | (with_reducible exact ih1 _ _ _ _)
   | (with_reducible exact ih2 _ _ _ _ _)
   | (with_reducible exact LeO.refl _)
   | (with_reducible exact LeO.none _)
   | (with_reducible refine LeO.ite ?_ ?_)
   | (with_reducible refine LeO.bind ?_ (fun _ => ?_))
   | exact ih0 _ _ _ _
   | exact ih1 _ _ _ _
   | exact ih2 _ _ _ _ _
   | exact LeO.none _
   | refine LeO.ite ?_ ?_
   | refine LeO.bind ?_ (fun _ => ?_)
  ·intro y0 y1 y2 y3
   unfold bn.l1
   repeat' first
   | (with_reducible exact ih0 _ _ _ _)
   | (with_reducible exact ih1 _ _ _ _)
   | (with_reducible exact ih2 _ _ _ _ _)
   | (with_reducible exact LeO.refl _)
   | (with_reducible exact LeO.none _)
   | (with_reducible refine LeO.ite ?_ ?_)
   | (with_reducible refine LeO.bind ?_ (fun _ => ?_))
   | exact ih0 _ _ _ _
   | exact ih1 _ _ _ _
   | exact ih2 _ _ _ _ _
   | exact LeO.none _
   | refine LeO.ite ?_ ?_
   | refine LeO.bind ?_ (fun _ => ?_)
  intro y0 y1 y2 y3 y4
  unfold bn.j2
  repeat' first
  | (with_reducible exact ih0 _ _ _ _)
  | (with_reducible exact ih1 _ _ _ _)
  | (with_reducible exact ih2 _ _ _ _ _)
  | (with_reducible exact LeO.refl _)
  | (with_reducible exact LeO.none _)
  | (with_reducible refine LeO.ite ?_ ?_)
  | (with_reducible refine LeO.bind ?_ (fun _ => ?_))
  | exact ih0 _ _ _ _
  | exact ih1 _ _ _ _
  | exact ih2 _ _ _ _ _
  | exact LeO.none _
  | refine LeO.ite ?_ ?_
  | refine LeO.bind ?_ (fun _ => ?_)
theorem bn.mono : ∀ a0 a1 k, LeO (bn.f k a0 a1) (bn.f (k + 1) a0 a1) := by
 intro a0 a1 k
 obtain ⟨ih0, ih1, ih2⟩ := bn.mono_l k
 unfold bn.f
 repeat' first
  | (with_reducible exact ih0 _ _ _ _)
  | (with_reducible exact ih1 _ _ _ _)
  | (with_reducible exact ih2 _ _ _ _ _)
  | (with_reducible exact LeO.refl _)
  | (with_reducible exact LeO.none _)
  | (with_reducible refine LeO.ite ?_ ?_)
  | (with_reducible refine LeO.bind ?_ (fun _ => ?_))
  | exact ih0 _ _ _ _
  | exact ih1 _ _ _ _
  | exact ih2 _ _ _ _ _
  | exact LeO.none _
  | refine LeO.ite ?_ ?_
  | refine LeO.bind ?_ (fun _ => ?_)
set_option maxHeartbeats 8000000 in
set_option maxRecDepth 100000 in
theorem bn.calls (k : Nat) (a0 : ByteArray) (a1 : ByteArray) (r : Bool) (w : World) (h : bn.f k a0 a1 = some r) :
 Calls Try.prog 57 #[.string a0, .string a1] w fun e w' => e = .returned (.bool r) ∧ dA w w' := by
 have H : (bn.l0 k a0 a1 (a1.size : Int) 0) = some r := h
 clear h
 have H' := Aside0.mk H
 clear H
 go_enter Try.func57, Try.ntmps57
 go_wp2
 go_loopg [10] k (fun kq v10 w' => ∃ (x10_1 : Int), v10 = .int .i64 x10_1 ∧ Aside0 (bn.l0 kq a0 a1 (a1.size : Int) x10_1 = some r) ∧ Aside0 (kq ≤ k) ∧ dA w w')
 case atStart => exact ⟨(0), Z7, H', ⟨Nat.le_refl _⟩, Z10⟩
 case round =>
  clear H'
  try clear p2
  obtain ⟨x10_1, rfl, HA, HK1, ⟨m1, rfl⟩⟩ := hrel
  cases gk with
  | zero => exact absurd HA.out (by simp [bn.l0])
  | succ k1 =>
   have H := HA.out
   clear HA
   simp only [bn.l0] at H
   by_cases c3 : x10_1 < (a1.size : Int)
   ·rw [if_pos c3] at H
    have c3b0 : decide (x10_1 < (a1.size : Int)) = true := decide_eq_true c3
    clear c3
    by_cases c4 : 0 ≤ x10_1
    ·rw [if_pos c4] at H
     have c4b0 : decide (0 ≤ x10_1) = true := decide_eq_true c4
     clear c4
     by_cases c5 : x10_1 < (a1.size : Int)
     ·rw [if_pos c5] at H
      have c5b0 : decide (x10_1 < (a1.size : Int)) = true := decide_eq_true c5
      clear c5
      by_cases c7 : (bt a1 x10_1) = 32
      ·rw [if_pos c7] at H
       have c7b0 : ((bt a1 x10_1) == 32) = true := beq_iff_eq.mpr c7
       have c7b1 : ((bt a1 x10_1) != 32) = false := bne_eq_false_iff_eq.mpr c7
       clear c7
       obtain rfl := Option.some.inj H
       have p6 : 0 ≤ (x10_1 : Int) := of_decide_eq_true Z8
       have q6 : x10_1 < (a1.size : Int) := of_decide_eq_true Z8
       have hx6 := iO a1 x10_1
       replace p6 := eq_true p6
       replace q6 := eq_true q6
       go_wp2
       go_ret
       exact ⟨Z7, Z10⟩
      rw [if_neg c7] at H
      have c7b0 : ((bt a1 x10_1) == 32) = false := beq_eq_false_iff_ne.mpr c7
      have c7b1 : ((bt a1 x10_1) != 32) = true := bne_iff_ne.mpr c7
      have H' := Aside0.mk H
      clear H
      have p6 : 0 ≤ (x10_1 : Int) := of_decide_eq_true Z8
      have q6 : x10_1 < (a1.size : Int) := of_decide_eq_true Z8
      have hx6 := iO a1 x10_1
      replace p6 := eq_true p6
      replace q6 := eq_true q6
      go_wp2
      go_roundg k1
      case measure => have := HK1.out; omega
      case rel => exact ⟨(wrap64 (x10_1 + 1)), Z7, H', ⟨by have := HK1.out; omega⟩, Z10⟩
     rw [if_neg c5] at H
     exact absurd H (by simp)
    rw [if_neg c4] at H
    exact absurd H (by simp)
   rw [if_neg c3] at H
   have c3b0 : decide (x10_1 < (a1.size : Int)) = false := decide_eq_false c3
   clear c3
   have H' := Aside0.mk H
   clear H
   go_wp2
   go_loopg [7] k1 (fun kq v7 w' => ∃ (x7_2 : Int), v7 = .int .i64 x7_2 ∧ Aside0 (bn.l1 kq a0 a1 (wrap64 ((a1.size : Int) + 2)) x7_2 = some r) ∧ Aside0 (kq ≤ k1) ∧ dA w w')
   case atStart => exact ⟨(0), Z7, H', ⟨Nat.le_refl _⟩, Z10⟩
   case round =>
    clear H'
    try clear p2
    try clear c3
    try clear c3b0
    try clear c4
    try clear c4b0
    try clear c5
    try clear c5b0
    try clear p6
    try clear q6
    try clear hx6
    try clear c7
    try clear c7b0
    try clear c7b1
    try clear p2
    try clear p6
    try clear q6
    obtain ⟨x7_2, rfl, HA, HK2, ⟨m2, rfl⟩⟩ := hrel
    cases gk with
    | zero => exact absurd HA.out (by simp [bn.l1])
    | succ k2 =>
     have H := HA.out
     clear HA
     simp only [bn.l1] at H
     have HC8 := Aside0.mk H
     clear H
     go_upto_region 9 with (fail)
     go_cut [30] (fun v30 wc => ∃ (kq : Nat) (x30_7 : Bool), v30 = .bool x30_7 ∧ Aside0 (bn.j2 kq a0 a1 (wrap64 ((a1.size : Int) + 2)) x7_2 x30_7 = some r) ∧ Aside0 (kq ≤ k2) ∧ dA w wc)
     case first =>
      have H := HC8.out
      clear HC8
      by_cases c9 : a1.toList = ([] : List UInt8)
      ·rw [if_pos c9] at H
       have c9b0 : (a1.toList == ([] : List UInt8)) = true := beq_iff_eq.mpr c9
       have c9b1 : (a1.toList != ([] : List UInt8)) = false := bne_eq_false_iff_eq.mpr c9
       clear c9
       (first | rw [c9b0] | (simp only [aC, aG]; rw [c9b0]) | skip)
       have H' := Aside0.mk H
       clear H
       go_wp2
       go_meet
       case rel => exact ⟨_, (false), Z7, H', ⟨by have := HK1.out; have := HK2.out; first | omega | exact Nat.le_refl _⟩, Z10⟩
      rw [if_neg c9] at H
      have c9b0 : (a1.toList == ([] : List UInt8)) = false := beq_eq_false_iff_ne.mpr c9
      have c9b1 : (a1.toList != ([] : List UInt8)) = true := bne_iff_ne.mpr c9
      (first | rw [c9b0] | (simp only [aC, aG]; rw [c9b0]) | skip)
      have H' := Aside0.mk H
      clear H
      go_wp2
      go_meet
      case rel => exact ⟨_, (decide ((wrap64 (x7_2 + (wrap64 ((a1.size : Int) + 2)))) ≤ (a0.size : Int))), Z7, H', ⟨by have := HK1.out; have := HK2.out; first | omega | exact Nat.le_refl _⟩, Z10⟩
     case rest =>
      clear HC8
      try clear p2
      try clear c3
      try clear c3b0
      try clear c4
      try clear c4b0
      try clear c5
      try clear c5b0
      try clear p6
      try clear q6
      try clear hx6
      try clear c7
      try clear c7b0
      try clear c7b1
      try clear c9
      try clear c9b0
      try clear c9b1
      try clear p2
      try clear p6
      try clear q6
      obtain ⟨kq, x30_7, rfl, HA, HJ7, ⟨mc7, rfl⟩⟩ := hcut
      cases kq with
      | zero => exact absurd HA.out (by simp [bn.j2])
      | succ kj7 =>
       have H := HA.out
       clear HA
       simp only [bn.j2] at H
       by_cases c10 : x30_7 = true
       ·subst c10
        rw [if_pos rfl] at H
        have H1 := H
        clear H
        have H := H1
        clear H1
        by_cases c11 : 0 ≤ x7_2
        ·rw [if_pos c11] at H
         have c11b0 := eq_true c11
         have c11b1 : decide (0 ≤ x7_2) = true := decide_eq_true c11
         clear c11
         by_cases c12 : x7_2 ≤ (wrap64 (x7_2 + (wrap64 ((a1.size : Int) + 2))))
         ·rw [if_pos c12] at H
          have c12b0 := eq_true c12
          have c12b1 : decide (x7_2 ≤ (wrap64 (x7_2 + (wrap64 ((a1.size : Int) + 2))))) = true := decide_eq_true c12
          by_cases c13 : (wrap64 (x7_2 + (wrap64 ((a1.size : Int) + 2)))) ≤ (a0.size : Int)
          ·rw [if_pos c13] at H
           have c13b0 := eq_true c13
           have c13b1 : decide ((wrap64 (x7_2 + (wrap64 ((a1.size : Int) + 2)))) ≤ (a0.size : Int)) = true := decide_eq_true c13
           by_cases c14 : 1 + a1.size ≤ 9223372036854775807
           ·rw [if_pos c14] at H
            have c14b0 := eq_true c14
            have c14b1 : decide (1 + a1.size ≤ 9223372036854775807) = true := decide_eq_true c14
            try have c14b2 : (9223372036854775807 < 1 + a1.size) = False := eq_false (Nat.not_lt.2 c14)
            by_cases c15 : ((⟨#[32]⟩ : ByteArray) ++ a1).size + 1 ≤ 9223372036854775807
            ·rw [if_pos c15] at H
             have c15b0 := eq_true c15
             have c15b1 : decide (((⟨#[32]⟩ : ByteArray) ++ a1).size + 1 ≤ 9223372036854775807) = true := decide_eq_true c15
             have c15s := c15
             simp only [ByteArray.size_append, show ((⟨#[32]⟩ : ByteArray)).size = 1 from rfl] at c15s
             have c15t := eq_true c15s
             have c15u := eq_false (Nat.not_lt.2 c15s)
             clear c15s
             try have c15b2 : (9223372036854775807 < ((⟨#[32]⟩ : ByteArray) ++ a1).size + 1) = False := eq_false (Nat.not_lt.2 c15)
             by_cases c16 : (a0.extract (x7_2 : Int).toNat ((wrap64 (x7_2 + (wrap64 ((a1.size : Int) + 2)))) : Int).toNat).toList = (((⟨#[32]⟩ : ByteArray) ++ a1) ++ (⟨#[32]⟩ : ByteArray)).toList
             ·rw [if_pos c16] at H
              have c16b0 : ((a0.extract (x7_2 : Int).toNat ((wrap64 (x7_2 + (wrap64 ((a1.size : Int) + 2)))) : Int).toNat).toList == (((⟨#[32]⟩ : ByteArray) ++ a1) ++ (⟨#[32]⟩ : ByteArray)).toList) = true := beq_iff_eq.mpr c16
              have c16b1 : ((a0.extract (x7_2 : Int).toNat ((wrap64 (x7_2 + (wrap64 ((a1.size : Int) + 2)))) : Int).toNat).toList != (((⟨#[32]⟩ : ByteArray) ++ a1) ++ (⟨#[32]⟩ : ByteArray)).toList) = false := bne_eq_false_iff_eq.mpr c16
              clear c16
              obtain rfl := Option.some.inj H
              go_wp2
              go_ret
              exact ⟨Z7, Z10⟩
             rw [if_neg c16] at H
             have c16b0 : ((a0.extract (x7_2 : Int).toNat ((wrap64 (x7_2 + (wrap64 ((a1.size : Int) + 2)))) : Int).toNat).toList == (((⟨#[32]⟩ : ByteArray) ++ a1) ++ (⟨#[32]⟩ : ByteArray)).toList) = false := beq_eq_false_iff_ne.mpr c16
             have c16b1 : ((a0.extract (x7_2 : Int).toNat ((wrap64 (x7_2 + (wrap64 ((a1.size : Int) + 2)))) : Int).toNat).toList != (((⟨#[32]⟩ : ByteArray) ++ a1) ++ (⟨#[32]⟩ : ByteArray)).toList) = true := bne_iff_ne.mpr c16
             have H' := Aside0.mk H
             clear H
             go_wp2
             go_roundg kj7
             case measure => have := HK1.out; have := HK2.out; have := HJ7.out; omega
             case rel => exact ⟨(wrap64 (x7_2 + 1)), Z7, H', ⟨by have := HK1.out; have := HK2.out; have := HJ7.out; omega⟩, Z10⟩
            rw [if_neg c15] at H
            exact absurd H (by simp)
           rw [if_neg c14] at H
           exact absurd H (by simp)
          rw [if_neg c13] at H
          exact absurd H (by simp)
         rw [if_neg c12] at H
         exact absurd H (by simp)
        rw [if_neg c11] at H
        exact absurd H (by simp)
       replace c10 := Bool.eq_false_iff.mpr c10
       subst c10
       have H1 : (some false) = some r := by rw [if_neg (show ¬ (false = true) by decide)] at H; exact H
       clear H
       have H := H1
       clear H1
       obtain rfl := Option.some.inj H
       go_wp2
       go_ret
       exact ⟨Z7, Z10⟩
end Go.Proofs.Ytendgafpkeadhaa.Q
end
section
namespace Go.Proofs.Ytendgafpkeadhaa.Q
open Go.RowKit Go.Proofs.YtendgafpkeadhaaW.PrintWords Go.Proofs.YtendgafpkeadhaaW.PrintLast Go.Proofs.YtendgafpkeadhaaW.PrintMore
attribute [local go_sem] max2_int min2_int max_two min_two max_three min_three max_four min_four
set_option linter.unusedVariables false
set_option linter.unusedSimpArgs false
/-! ### dU: function 30 -/
def dU.f (k : Nat) (a0 : Int) (a1 : ByteArray) : Option (Bool) := if (Go.bits .and .i64 a0 2) = 0 then (if (Go.bits .and .i64 a0 8) = 0 then (if (Go.bits .and .i64 a0 16) = 0 then (if (Go.bits .and .i64 a0 32) = 0 then (some (a1.toList == ([] : List UInt8))) else (some (decide ((a1.size : Int) ≤ 1024)))) else ((bn.f k (⟨#[32, 45, 32, 110, 111, 116, 32, 108, 101, 110, 32]⟩ : ByteArray) a1).bind fun t128 => (some t128))) else ((bn.f k (⟨#[32, 43, 32, 45, 32, 42, 32, 47, 32, 37, 32, 46, 46, 32, 61, 61, 32, 33, 61, 32, 60, 32, 60, 61, 32, 97, 110, 100, 32, 111, 114, 32]⟩ : ByteArray) a1).bind fun t129 => (some t129))) else ((dE.f k a1).bind fun t130 => (some t130))
theorem dU.mono : ∀ a0 a1 k, LeO (dU.f k a0 a1) (dU.f (k + 1) a0 a1) := by
 intro a0 a1 k
 unfold dU.f
 repeat' first
  | (with_reducible exact dE.mono _ _)
  | (with_reducible exact bn.mono _ _ _)
  | (with_reducible exact LeO.refl _)
  | (with_reducible exact LeO.none _)
  | (with_reducible refine LeO.ite ?_ ?_)
  | (with_reducible refine LeO.bind ?_ (fun _ => ?_))
  | exact dE.mono _ _
  | exact bn.mono _ _ _
  | exact LeO.none _
  | refine LeO.ite ?_ ?_
  | refine LeO.bind ?_ (fun _ => ?_)
set_option maxHeartbeats 8000000 in
set_option maxRecDepth 100000 in
theorem dU.calls (k : Nat) (a0 : Int) (a1 : ByteArray) (r : Bool) (w : World) (h : dU.f k a0 a1 = some r) :
 Calls Try.prog 30 #[.int .i64 a0, .string a1] w fun e w' => e = .returned (.bool r) ∧ Below w.heap.size w w' := by
 have HB := Aside0.mk (Below.refl w.heap.size w)
 have H : (if (Go.bits .and .i64 a0 2) = 0 then (if (Go.bits .and .i64 a0 8) = 0 then (if (Go.bits .and .i64 a0 16) = 0 then (if (Go.bits .and .i64 a0 32) = 0 then (some (a1.toList == ([] : List UInt8))) else (some (decide ((a1.size : Int) ≤ 1024)))) else ((bn.f k (⟨#[32, 45, 32, 110, 111, 116, 32, 108, 101, 110, 32]⟩ : ByteArray) a1).bind fun t128 => (some t128))) else ((bn.f k (⟨#[32, 43, 32, 45, 32, 42, 32, 47, 32, 37, 32, 46, 46, 32, 61, 61, 32, 33, 61, 32, 60, 32, 60, 61, 32, 97, 110, 100, 32, 111, 114, 32]⟩ : ByteArray) a1).bind fun t129 => (some t129))) else ((dE.f k a1).bind fun t130 => (some t130))) = some r := h
 clear h
 by_cases c3 : (Go.bits .and .i64 a0 2) = 0
 ·rw [if_pos c3] at H
  have c3b0 : ((Go.bits .and .i64 a0 2) == 0) = true := beq_iff_eq.mpr c3
  have c3b1 : ((Go.bits .and .i64 a0 2) != 0) = false := bne_eq_false_iff_eq.mpr c3
  clear c3
  by_cases c4 : (Go.bits .and .i64 a0 8) = 0
  ·rw [if_pos c4] at H
   have c4b0 : ((Go.bits .and .i64 a0 8) == 0) = true := beq_iff_eq.mpr c4
   have c4b1 : ((Go.bits .and .i64 a0 8) != 0) = false := bne_eq_false_iff_eq.mpr c4
   clear c4
   by_cases c5 : (Go.bits .and .i64 a0 16) = 0
   ·rw [if_pos c5] at H
    have c5b0 : ((Go.bits .and .i64 a0 16) == 0) = true := beq_iff_eq.mpr c5
    have c5b1 : ((Go.bits .and .i64 a0 16) != 0) = false := bne_eq_false_iff_eq.mpr c5
    clear c5
    by_cases c6 : (Go.bits .and .i64 a0 32) = 0
    ·rw [if_pos c6] at H
     have c6b0 : ((Go.bits .and .i64 a0 32) == 0) = true := beq_iff_eq.mpr c6
     have c6b1 : ((Go.bits .and .i64 a0 32) != 0) = false := bne_eq_false_iff_eq.mpr c6
     clear c6
     obtain rfl := Option.some.inj H
     go_enter Try.func30, Try.ntmps30
     go_wp2
     go_ret
     exact ⟨Z5, Z4⟩
    rw [if_neg c6] at H
    have c6b0 : ((Go.bits .and .i64 a0 32) == 0) = false := beq_eq_false_iff_ne.mpr c6
    have c6b1 : ((Go.bits .and .i64 a0 32) != 0) = true := bne_iff_ne.mpr c6
    obtain rfl := Option.some.inj H
    go_enter Try.func30, Try.ntmps30
    go_wp2
    go_ret
    exact ⟨Z5, Z4⟩
   rw [if_neg c5] at H
   have c5b0 : ((Go.bits .and .i64 a0 16) == 0) = false := beq_eq_false_iff_ne.mpr c5
   have c5b1 : ((Go.bits .and .i64 a0 16) != 0) = true := bne_iff_ne.mpr c5
   replace H := Option.bind_eq_some_iff.mp H
   obtain ⟨t128, A70, H⟩ := H
   replace H : (some t128) = some r := H
   have A7 := Aside0.mk A70
   clear A70
   obtain rfl := Option.some.inj H
   go_enter Try.func30, Try.ntmps30
   go_wp2_with (first | ((with_reducible refine gate_callee (f := 57) rfl ?_); refine goesL_ (some 22) rfl rfl Try.func57 (by kernel_rfl) rfl #[.string (⟨#[32, 45, 32, 110, 111, 116, 32, 108, 101, 110, 32]⟩ : ByteArray), .string a1] rfl Z3 ?_; (with_reducible refine (bn.calls k (⟨#[32, 45, 32, 110, 111, 116, 32, 108, 101, 110, 32]⟩ : ByteArray) a1 t128 _ A7.out).mono ?_); rintro e w' ⟨rfl, ⟨nd, rfl⟩⟩; refine ⟨_, rfl, ?_⟩))
   go_ret
   exact ⟨Z5, Z4⟩
  rw [if_neg c4] at H
  have c4b0 : ((Go.bits .and .i64 a0 8) == 0) = false := beq_eq_false_iff_ne.mpr c4
  have c4b1 : ((Go.bits .and .i64 a0 8) != 0) = true := bne_iff_ne.mpr c4
  replace H := Option.bind_eq_some_iff.mp H
  obtain ⟨t129, A80, H⟩ := H
  replace H : (some t129) = some r := H
  have A8 := Aside0.mk A80
  clear A80
  obtain rfl := Option.some.inj H
  go_enter Try.func30, Try.ntmps30
  go_wp2_with (first | ((with_reducible refine gate_callee (f := 57) rfl ?_); refine goesL_ (some 16) rfl rfl Try.func57 (by kernel_rfl) rfl #[.string (⟨#[32, 43, 32, 45, 32, 42, 32, 47, 32, 37, 32, 46, 46, 32, 61, 61, 32, 33, 61, 32, 60, 32, 60, 61, 32, 97, 110, 100, 32, 111, 114, 32]⟩ : ByteArray), .string a1] rfl Z3 ?_; (with_reducible refine (bn.calls k (⟨#[32, 43, 32, 45, 32, 42, 32, 47, 32, 37, 32, 46, 46, 32, 61, 61, 32, 33, 61, 32, 60, 32, 60, 61, 32, 97, 110, 100, 32, 111, 114, 32]⟩ : ByteArray) a1 t129 _ A8.out).mono ?_); rintro e w' ⟨rfl, ⟨nd, rfl⟩⟩; refine ⟨_, rfl, ?_⟩))
  go_ret
  exact ⟨Z5, Z4⟩
 rw [if_neg c3] at H
 have c3b0 : ((Go.bits .and .i64 a0 2) == 0) = false := beq_eq_false_iff_ne.mpr c3
 have c3b1 : ((Go.bits .and .i64 a0 2) != 0) = true := bne_iff_ne.mpr c3
 replace H := Option.bind_eq_some_iff.mp H
 obtain ⟨t130, A90, H⟩ := H
 replace H : (some t130) = some r := H
 have A9 := Aside0.mk A90
 clear A90
 obtain rfl := Option.some.inj H
 go_enter Try.func30, Try.ntmps30
 go_wp2_with (first | ((with_reducible refine gate_callee (f := 31) rfl ?_); refine goesL_ (some 10) rfl rfl Try.func31 (by kernel_rfl) rfl #[.string a1] rfl Z3 ?_; (with_reducible refine (dE.calls k a1 t130 _ A9.out).mono ?_); rintro e w10 ⟨rfl, hb⟩; refine ⟨_, rfl, ?_⟩; have n0_ := Aside0.mk (below_step Z4 hb); clear HB; have HB := n0_; clear n0_; (try clear hb)))
 go_ret
 exact ⟨Z5, Z4⟩
end Go.Proofs.Ytendgafpkeadhaa.Q
end
section
namespace Go.Proofs.Ytendgafpkeadhaa.Q
open Go.RowKit Go.Proofs.YtendgafpkeadhaaW.PrintWords Go.Proofs.YtendgafpkeadhaaW.PrintLast Go.Proofs.YtendgafpkeadhaaW.PrintMore
attribute [local go_sem] max2_int min2_int max_two min_two max_three min_three max_four min_four
set_option linter.unusedVariables false
set_option linter.unusedSimpArgs false
/-! ### bg: function 20 -/
mutual
def bg.j0 : Nat → Int → Int → Int → Bool → Int → Int → ByteArray → Int → ByteArray → Option (Bool)
 | 0, _, _, _, _, _, _, _, _, _ => none
 | k + 1, x3, x5, x6, x19, x132000, x132001, x132002, x132003, x132004 => if x19 = true then (some false) else ((dE.f k x132002).bind fun t137 => (if (((Go.bits .and .i64 x3 1) != 0) != t137) = true then (bg.j1 k x3 x5 x6 true x132000 x132001 x132002 x132003 x132004) else (if (Go.bits .and .i64 x3 1) = 0 then (bg.j1 k x3 x5 x6 (x132002.toList != ([] : List UInt8)) x132000 x132001 x132002 x132003 x132004) else (bg.j1 k x3 x5 x6 false x132000 x132001 x132002 x132003 x132004))))
def bg.j1 : Nat → Int → Int → Int → Bool → Int → Int → ByteArray → Int → ByteArray → Option (Bool)
 | 0, _, _, _, _, _, _, _, _, _ => none
 | k + 1, x3, x5, x6, x29, x132000, x132001, x132002, x132003, x132004 => if x29 = true then (some false) else (if (Go.bits .and .i64 x3 4) = 0 then (some (x132003 == 0)) else (if x132003 ≥ x5 then (some (decide (x132003 ≤ x6))) else (some false)))
end
def bg.f (k : Nat) (a0_0 : Int) (a0_1 : Int) (a0_2 : ByteArray) (a0_3 : Int) (a0_4 : ByteArray) : Option (Bool) := (bY.f k a0_0).bind fun bt132 => ((fZ.f a0_0).bind fun bt134 => (if bt132.2 = true then ((dU.f k bt132.1 a0_4).bind fun t136 => (bg.j0 k bt132.1 bt134.1 bt134.2 (!t136) a0_0 a0_1 a0_2 a0_3 a0_4)) else (bg.j0 k bt132.1 bt134.1 bt134.2 true a0_0 a0_1 a0_2 a0_3 a0_4)))
theorem bg.mono_l : ∀ k, (∀ y0 y1 y2 y3 y4 y5 y6 y7 y8, LeO (bg.j0 k y0 y1 y2 y3 y4 y5 y6 y7 y8) (bg.j0 (k + 1) y0 y1 y2 y3 y4 y5 y6 y7 y8)) ∧ (∀ y0 y1 y2 y3 y4 y5 y6 y7 y8, LeO (bg.j1 k y0 y1 y2 y3 y4 y5 y6 y7 y8) (bg.j1 (k + 1) y0 y1 y2 y3 y4 y5 y6 y7 y8))
 | 0 => ⟨fun _ _ _ _ _ _ _ _ _ r h => by simp [bg.j0] at h, fun _ _ _ _ _ _ _ _ _ r h => by simp [bg.j1] at h⟩
 | k + 1 => by
  obtain ⟨ih0, ih1⟩ := bg.mono_l k
  refine ⟨?_, ?_⟩
  ·intro y0 y1 y2 y3 y4 y5 y6 y7 y8
   unfold bg.j0
   repeat' first
   | (with_reducible exact ih0 _ _ _ _ _ _ _ _ _)
   | (with_reducible exact ih1 _ _ _ _ _ _ _ _ _)
   | (with_reducible exact dE.mono _ _)
   | (with_reducible exact bY.mono _ _)
   | (with_reducible exact dU.mono _ _ _)
   | (with_reducible exact LeO.refl _)
   | (with_reducible exact LeO.none _)
   | (with_reducible refine LeO.ite ?_ ?_)
   | (with_reducible refine LeO.bind ?_ (fun _ => ?_))
   | exact ih0 _ _ _ _ _ _ _ _ _
   | exact ih1 _ _ _ _ _ _ _ _ _
   | exact dE.mono _ _
   | exact bY.mono _ _
   | exact dU.mono _ _ _
   | exact LeO.none _
   | refine LeO.ite ?_ ?_
   | refine LeO.bind ?_ (fun _ => ?_)
  intro y0 y1 y2 y3 y4 y5 y6 y7 y8
  unfold bg.j1
  repeat' first
  | (with_reducible exact ih0 _ _ _ _ _ _ _ _ _)
  | (with_reducible exact ih1 _ _ _ _ _ _ _ _ _)
  | (with_reducible exact dE.mono _ _)
  | (with_reducible exact bY.mono _ _)
  | (with_reducible exact dU.mono _ _ _)
  | (with_reducible exact LeO.refl _)
  | (with_reducible exact LeO.none _)
  | (with_reducible refine LeO.ite ?_ ?_)
  | (with_reducible refine LeO.bind ?_ (fun _ => ?_))
  | exact ih0 _ _ _ _ _ _ _ _ _
  | exact ih1 _ _ _ _ _ _ _ _ _
  | exact dE.mono _ _
  | exact bY.mono _ _
  | exact dU.mono _ _ _
  | exact LeO.none _
  | refine LeO.ite ?_ ?_
  | refine LeO.bind ?_ (fun _ => ?_)
theorem bg.mono : ∀ a0 a1 a2 a3 a4 k, LeO (bg.f k a0 a1 a2 a3 a4) (bg.f (k + 1) a0 a1 a2 a3 a4) := by
 intro a0 a1 a2 a3 a4 k
 obtain ⟨ih0, ih1⟩ := bg.mono_l k
 unfold bg.f
 repeat' first
  | (with_reducible exact ih0 _ _ _ _ _ _ _ _ _)
  | (with_reducible exact ih1 _ _ _ _ _ _ _ _ _)
  | (with_reducible exact dE.mono _ _)
  | (with_reducible exact bY.mono _ _)
  | (with_reducible exact dU.mono _ _ _)
  | (with_reducible exact LeO.refl _)
  | (with_reducible exact LeO.none _)
  | (with_reducible refine LeO.ite ?_ ?_)
  | (with_reducible refine LeO.bind ?_ (fun _ => ?_))
  | exact ih0 _ _ _ _ _ _ _ _ _
  | exact ih1 _ _ _ _ _ _ _ _ _
  | exact dE.mono _ _
  | exact bY.mono _ _
  | exact dU.mono _ _ _
  | exact LeO.none _
  | refine LeO.ite ?_ ?_
  | refine LeO.bind ?_ (fun _ => ?_)
set_option maxHeartbeats 8000000 in
set_option maxRecDepth 100000 in
theorem bg.calls (k : Nat) (a0_0 : Int) (a0_1 : Int) (a0_2 : ByteArray) (a0_3 : Int) (a0_4 : ByteArray) (r : Bool) (w : World) (h : bg.f k a0_0 a0_1 a0_2 a0_3 a0_4 = some r) :
 Calls Try.prog 20 #[.agg #[.int .i64 a0_0, .int .i64 a0_1, .string a0_2, .int .i64 a0_3, .string a0_4]] w fun e w' => e = .returned (.bool r) ∧ Below w.heap.size w w' := by
 have hu41 := Try.underlying41
 have HB := Aside0.mk (Below.refl w.heap.size w)
 have H : ((bY.f k a0_0).bind fun bt132 => ((fZ.f a0_0).bind fun bt134 => (if bt132.2 = true then ((dU.f k bt132.1 a0_4).bind fun t136 => (bg.j0 k bt132.1 bt134.1 bt134.2 (!t136) a0_0 a0_1 a0_2 a0_3 a0_4)) else (bg.j0 k bt132.1 bt134.1 bt134.2 true a0_0 a0_1 a0_2 a0_3 a0_4)))) = some r := h
 clear h
 replace H := Option.bind_eq_some_iff.mp H
 obtain ⟨⟨t132, t133⟩, A20, H⟩ := H
 try dsimp only at H
 have A2 := Aside0.mk A20
 clear A20
 replace H := Option.bind_eq_some_iff.mp H
 obtain ⟨⟨t134, t135⟩, A30, H⟩ := H
 try dsimp only at H
 have A3 := Aside0.mk A30
 clear A30
 have HC4 := Aside0.mk H
 clear H
 go_enter Try.func20, Try.ntmps20
 go_upto_region 3 with (first | ((with_reducible refine bP (N := 1) rfl ?_); refine bT ?hg (N := 1) ?hd (cs := #[.int .i64 a0_0, .int .i64 a0_1, .string a0_2, .int .i64 a0_3, .string a0_4]) (t := 41) ?hr ?_; (case hd => rfl); (case hg => rfl); (case hr => first | (go_simp; done) | (go_simp; rfl)); intro gb131 hg w5 hbox hb; have n0_ := Aside0.mk (below_step Z4 hb); have n1_ := Aside0.mk (hbox); have n2_ := Aside0.mk ((by rw [hg]; exact (below_size Z4) : w.heap.size ≤ gb131)); have n3_ := Aside0.mk ((by rw [hg]; exact (below_size Z4) : w.heap.size ≤ gb131)); clear HB; have HB := n0_; have BK131 := n1_; have GW131 := n2_; have GE131 := n3_; clear n0_ n1_ n2_ n3_; clear hb hbox hg; have hcz6_0 : w5.cell? ⟨gb131, 0, none⟩ = some (.int .i64 a0_0) := (ag BK131.out 0).trans rfl; have hcz6_1 : w5.cell? ⟨gb131, 1, none⟩ = some (.int .i64 a0_1) := (ag BK131.out 1).trans rfl; have hcz6_2 : w5.cell? ⟨gb131, 2, none⟩ = some (.string a0_2) := (ag BK131.out 2).trans rfl; have hcz6_3 : w5.cell? ⟨gb131, 3, none⟩ = some (.int .i64 a0_3) := (ag BK131.out 3).trans rfl; have hcz6_4 : w5.cell? ⟨gb131, 4, none⟩ = some (.string a0_4) := (ag BK131.out 4).trans rfl; have hfz6_0 := ae BK131.out 0; have hfz6_1 := ae BK131.out 1; have hfz6_2 := ae BK131.out 2; have hfz6_3 := ae BK131.out 3; have hfz6_4 := ae BK131.out 4) | ((with_reducible refine gate_callee (f := 28) rfl ?_); refine goesL_ (some 10) rfl rfl Try.func28 (by kernel_rfl) rfl #[.int .i64 a0_0] rfl Z3 ?_; (with_reducible refine (bY.calls k a0_0 t132 t133 _ A2.out).mono ?_); rintro e w' ⟨rfl, ⟨nd, rfl⟩⟩; refine ⟨_, rfl, ?_⟩) | ((with_reducible refine gate_callee (f := 29) rfl ?_); refine goesL_ (some 16) rfl rfl Try.func29 (by kernel_rfl) rfl #[.int .i64 a0_0] rfl Z3 ?_; (with_reducible refine (fZ.calls a0_0 t134 t135 _ A3.out).mono ?_); rintro e w' ⟨rfl, ⟨nd, rfl⟩⟩; refine ⟨_, rfl, ?_⟩))
 (try simp only [Act.put, List.setIfInBounds_toArray, List.set_cons_zero, List.set_cons_succ])
 go_cut [19] (fun v19 wc => ∃ (kq : Nat) (x19_3 : Bool), v19 = .bool x19_3 ∧ Aside0 (bg.j0 kq t132 t134 t135 x19_3 a0_0 a0_1 a0_2 a0_3 a0_4 = some r) ∧ Aside0 (kq ≤ k) ∧ Aside0 (wc.heap[gb131]? = some (.cells #[.int .i64 a0_0, .int .i64 a0_1, .string a0_2, .int .i64 a0_3, .string a0_4] 41 (0, 0))) ∧ Aside0 (Below w.heap.size w wc))
 case first =>
  have H := HC4.out
  clear HC4
  by_cases c7 : t133 = true
  ·subst c7
   have H1 : ((dU.f k t132 a0_4).bind fun t136 => (bg.j0 k t132 t134 t135 (!t136) a0_0 a0_1 a0_2 a0_3 a0_4)) = some r := by rw [if_pos rfl] at H; exact H
   clear H
   have H := H1
   clear H1
   replace H := Option.bind_eq_some_iff.mp H
   obtain ⟨t136, A80, H⟩ := H
   replace H : (bg.j0 k t132 t134 t135 (!t136) a0_0 a0_1 a0_2 a0_3 a0_4) = some r := H
   have A8 := Aside0.mk A80
   clear A80
   have H' := Aside0.mk H
   clear H
   have hcz9_0 : w5.cell? ⟨gb131, 0, none⟩ = some (.int .i64 a0_0) := (ag BK131.out 0).trans rfl
   have hcz9_1 : w5.cell? ⟨gb131, 1, none⟩ = some (.int .i64 a0_1) := (ag BK131.out 1).trans rfl
   have hcz9_2 : w5.cell? ⟨gb131, 2, none⟩ = some (.string a0_2) := (ag BK131.out 2).trans rfl
   have hcz9_3 : w5.cell? ⟨gb131, 3, none⟩ = some (.int .i64 a0_3) := (ag BK131.out 3).trans rfl
   have hcz9_4 : w5.cell? ⟨gb131, 4, none⟩ = some (.string a0_4) := (ag BK131.out 4).trans rfl
   have hfz9_0 := ae BK131.out 0
   have hfz9_1 := ae BK131.out 1
   have hfz9_2 := ae BK131.out 2
   have hfz9_3 := ae BK131.out 3
   have hfz9_4 := ae BK131.out 4
   go_wp2_with (first | (go_at_call 30; (with_reducible refine (dU.calls k t132 a0_4 t136 _ A8.out).mono ?_); rintro e w10 ⟨rfl, hb⟩; have n0_ := Aside0.mk (bU (g := gb131) (o := .cells #[.int .i64 a0_0, .int .i64 a0_1, .string a0_2, .int .i64 a0_3, .string a0_4] 41 (0, 0)) (by exact BK131.out) hb); have n1_ := Aside0.mk (below_step Z17 hb); clear BK131; clear HB; have BK131 := n0_; have HB := n1_; clear n0_ n1_; (try clear hb)))
   go_meet
   case rel => exact ⟨_, (!t136), Z7, H', ⟨Z35⟩, ⟨by exact BK131.out⟩, ⟨Z17⟩⟩
  replace c7 := Bool.eq_false_iff.mpr c7
  subst c7
  have H1 : (bg.j0 k t132 t134 t135 true a0_0 a0_1 a0_2 a0_3 a0_4) = some r := by rw [if_neg (show ¬ (false = true) by decide)] at H; exact H
  clear H
  have H := H1
  clear H1
  have H' := Aside0.mk H
  clear H
  go_wp2
  go_meet
  case rel => exact ⟨_, (true), Z7, H', ⟨Z35⟩, ⟨by exact BK131.out⟩, ⟨Z17⟩⟩
 case rest =>
  clear HC4
  try clear c2
  try clear p2
  try clear c7
  try clear hcz6_0
  try clear hcz6_1
  try clear hcz6_2
  try clear hcz6_3
  try clear hcz6_4
  try clear hcz9_0
  try clear hcz9_1
  try clear hcz9_2
  try clear hcz9_3
  try clear hcz9_4
  try clear hfz6_0
  try clear hfz6_1
  try clear hfz6_2
  try clear hfz6_3
  try clear hfz6_4
  try clear hfz9_0
  try clear hfz9_1
  try clear hfz9_2
  try clear hfz9_3
  try clear hfz9_4
  obtain ⟨kq, x19_3, rfl, HA, HJ3, BK131, HB⟩ := hcut
  cases kq with
  | zero => exact absurd HA.out (by simp [bg.j0])
  | succ kj3 =>
   have H := HA.out
   clear HA
   simp only [bg.j0] at H
   by_cases c11 : x19_3 = true
   ·subst c11
    have H1 : (some false) = some r := by rw [if_pos rfl] at H; exact H
    clear H
    have H := H1
    clear H1
    obtain rfl := Option.some.inj H
    go_wp2
    go_ret
    exact ⟨Z5, Z17⟩
   replace c11 := Bool.eq_false_iff.mpr c11
   subst c11
   rw [if_neg (show ¬ (false = true) by decide)] at H
   have H1 := H
   clear H
   have H := H1
   clear H1
   have HC12 := Aside0.mk H
   clear H
   go_upto_region 5 with (fail)
   go_cut [29] (fun v29 wc => ∃ (kq : Nat) (x29_11 : Bool), v29 = .bool x29_11 ∧ Aside0 (bg.j1 kq t132 t134 t135 x29_11 a0_0 a0_1 a0_2 a0_3 a0_4 = some r) ∧ Aside0 (kq ≤ kj3) ∧ Aside0 (wc.heap[gb131]? = some (.cells #[.int .i64 a0_0, .int .i64 a0_1, .string a0_2, .int .i64 a0_3, .string a0_4] 41 (0, 0))) ∧ Aside0 (Below w.heap.size w wc))
   case first =>
    have H := HC12.out
    clear HC12
    replace H := Option.bind_eq_some_iff.mp H
    obtain ⟨t137, A130, H⟩ := H
    try dsimp only at H
    have A13 := Aside0.mk A130
    clear A130
    by_cases c14 : (((Go.bits .and .i64 t132 1) != 0) != t137) = true
    ·rw [if_pos c14] at H
     have c14b0 : (((Go.bits .and .i64 t132 1) != 0) != t137) = true := c14
     (try (have c14b1 : decide (((Go.bits .and .i64 t132 1) != 0) = t137) = false := by simpa using c14))
     (try (have c14b2 : (((Go.bits .and .i64 t132 1) != 0) == t137) = false := by simpa using c14))
     (try (have c14b3 : ¬ (((Go.bits .and .i64 t132 1) != 0) = t137) := by simpa using c14))
     clear c14
     (first | rw [c14b0] | (simp only [aC, aG]; rw [c14b0]) | skip)
     have H' := Aside0.mk H
     clear H
     have hcz15_0 : wc.cell? ⟨gb131, 0, none⟩ = some (.int .i64 a0_0) := (ag BK131.out 0).trans rfl
     have hcz15_1 : wc.cell? ⟨gb131, 1, none⟩ = some (.int .i64 a0_1) := (ag BK131.out 1).trans rfl
     have hcz15_2 : wc.cell? ⟨gb131, 2, none⟩ = some (.string a0_2) := (ag BK131.out 2).trans rfl
     have hcz15_3 : wc.cell? ⟨gb131, 3, none⟩ = some (.int .i64 a0_3) := (ag BK131.out 3).trans rfl
     have hcz15_4 : wc.cell? ⟨gb131, 4, none⟩ = some (.string a0_4) := (ag BK131.out 4).trans rfl
     have hfz15_0 := ae BK131.out 0
     have hfz15_1 := ae BK131.out 1
     have hfz15_2 := ae BK131.out 2
     have hfz15_3 := ae BK131.out 3
     have hfz15_4 := ae BK131.out 4
     go_wp2_with (first | ((with_reducible refine gate_callee (f := 31) rfl ?_); refine goesL_ (some 35) rfl rfl Try.func31 (by kernel_rfl) rfl #[.string a0_2] rfl Z3 ?_; (with_reducible refine (dE.calls kj3 a0_2 t137 _ A13.out).mono ?_); rintro e w16 ⟨rfl, hb⟩; refine ⟨_, rfl, ?_⟩; have n0_ := Aside0.mk (bU (g := gb131) (o := .cells #[.int .i64 a0_0, .int .i64 a0_1, .string a0_2, .int .i64 a0_3, .string a0_4] 41 (0, 0)) (by exact BK131.out) hb); have n1_ := Aside0.mk (below_step Z17 hb); clear BK131; clear HB; have BK131 := n0_; have HB := n1_; clear n0_ n1_; (try clear hb)))
     go_meet
     case rel => exact ⟨_, (true), Z7, H', ⟨by have := HJ3.out; first | omega | exact Nat.le_refl _⟩, ⟨by exact BK131.out⟩, ⟨Z17⟩⟩
    rw [if_neg c14] at H
    have c14b0 : (((Go.bits .and .i64 t132 1) != 0) != t137) = false := by simpa using c14
    (try (have c14b1 : decide (((Go.bits .and .i64 t132 1) != 0) = t137) = true := by simpa using c14))
    (try (have c14b2 : (((Go.bits .and .i64 t132 1) != 0) == t137) = true := by simpa using c14))
    clear c14
    (first | rw [c14b0] | (simp only [aC, aG]; rw [c14b0]) | skip)
    by_cases c17 : (Go.bits .and .i64 t132 1) = 0
    ·rw [if_pos c17] at H
     have c17b0 : ((Go.bits .and .i64 t132 1) == 0) = true := beq_iff_eq.mpr c17
     have c17b1 : ((Go.bits .and .i64 t132 1) != 0) = false := bne_eq_false_iff_eq.mpr c17
     have ct_ : t137 = false := by have q_ := c14b0; rw [c17b1] at q_; simpa using q_
     clear c17
     have H' := Aside0.mk H
     clear H
     have hcz18_0 : wc.cell? ⟨gb131, 0, none⟩ = some (.int .i64 a0_0) := (ag BK131.out 0).trans rfl
     have hcz18_1 : wc.cell? ⟨gb131, 1, none⟩ = some (.int .i64 a0_1) := (ag BK131.out 1).trans rfl
     have hcz18_2 : wc.cell? ⟨gb131, 2, none⟩ = some (.string a0_2) := (ag BK131.out 2).trans rfl
     have hcz18_3 : wc.cell? ⟨gb131, 3, none⟩ = some (.int .i64 a0_3) := (ag BK131.out 3).trans rfl
     have hcz18_4 : wc.cell? ⟨gb131, 4, none⟩ = some (.string a0_4) := (ag BK131.out 4).trans rfl
     have hfz18_0 := ae BK131.out 0
     have hfz18_1 := ae BK131.out 1
     have hfz18_2 := ae BK131.out 2
     have hfz18_3 := ae BK131.out 3
     have hfz18_4 := ae BK131.out 4
     have hem : (a0_2.toList != ([] : List UInt8)) = (!a0_2.toList.isEmpty) := by cases a0_2.toList <;> rfl
     cases hempt : a0_2.toList.isEmpty
     ·simp only [hem, hempt, Bool.not_false, Bool.not_true] at H'
      have hemq : (a0_2.toList == ([] : List UInt8)) = false := by rw [← hempt]; cases a0_2.toList <;> rfl
      clear hem
      go_wp2_with (first | ((with_reducible refine gate_callee (f := 31) rfl ?_); refine goesL_ (some 35) rfl rfl Try.func31 (by kernel_rfl) rfl #[.string a0_2] rfl Z3 ?_; (with_reducible refine (dE.calls kj3 a0_2 t137 _ A13.out).mono ?_); rintro e w19 ⟨rfl, hb⟩; refine ⟨_, rfl, ?_⟩; have n0_ := Aside0.mk (bU (g := gb131) (o := .cells #[.int .i64 a0_0, .int .i64 a0_1, .string a0_2, .int .i64 a0_3, .string a0_4] 41 (0, 0)) (by exact BK131.out) hb); have n1_ := Aside0.mk (below_step Z17 hb); clear BK131; clear HB; have BK131 := n0_; have HB := n1_; clear n0_ n1_; (try clear hb); have hcz20_0 : w19.cell? ⟨gb131, 0, none⟩ = some (.int .i64 a0_0) := (ag BK131.out 0).trans rfl; have hcz20_1 : w19.cell? ⟨gb131, 1, none⟩ = some (.int .i64 a0_1) := (ag BK131.out 1).trans rfl; have hcz20_2 : w19.cell? ⟨gb131, 2, none⟩ = some (.string a0_2) := (ag BK131.out 2).trans rfl; have hcz20_3 : w19.cell? ⟨gb131, 3, none⟩ = some (.int .i64 a0_3) := (ag BK131.out 3).trans rfl; have hcz20_4 : w19.cell? ⟨gb131, 4, none⟩ = some (.string a0_4) := (ag BK131.out 4).trans rfl; have hfz20_0 := ae BK131.out 0; have hfz20_1 := ae BK131.out 1; have hfz20_2 := ae BK131.out 2; have hfz20_3 := ae BK131.out 3; have hfz20_4 := ae BK131.out 4))
      go_meet
      case rel => exact ⟨_, (true), Z7, H', ⟨by have := HJ3.out; first | omega | exact Nat.le_refl _⟩, ⟨by exact BK131.out⟩, ⟨Z17⟩⟩
     simp only [hem, hempt, Bool.not_false, Bool.not_true] at H'
     have hemq : (a0_2.toList == ([] : List UInt8)) = true := by rw [← hempt]; cases a0_2.toList <;> rfl
     clear hem
     go_wp2_with (first | ((with_reducible refine gate_callee (f := 31) rfl ?_); refine goesL_ (some 35) rfl rfl Try.func31 (by kernel_rfl) rfl #[.string a0_2] rfl Z3 ?_; (with_reducible refine (dE.calls kj3 a0_2 t137 _ A13.out).mono ?_); rintro e w19 ⟨rfl, hb⟩; refine ⟨_, rfl, ?_⟩; have n0_ := Aside0.mk (bU (g := gb131) (o := .cells #[.int .i64 a0_0, .int .i64 a0_1, .string a0_2, .int .i64 a0_3, .string a0_4] 41 (0, 0)) (by exact BK131.out) hb); have n1_ := Aside0.mk (below_step Z17 hb); clear BK131; clear HB; have BK131 := n0_; have HB := n1_; clear n0_ n1_; (try clear hb); have hcz20_0 : w19.cell? ⟨gb131, 0, none⟩ = some (.int .i64 a0_0) := (ag BK131.out 0).trans rfl; have hcz20_1 : w19.cell? ⟨gb131, 1, none⟩ = some (.int .i64 a0_1) := (ag BK131.out 1).trans rfl; have hcz20_2 : w19.cell? ⟨gb131, 2, none⟩ = some (.string a0_2) := (ag BK131.out 2).trans rfl; have hcz20_3 : w19.cell? ⟨gb131, 3, none⟩ = some (.int .i64 a0_3) := (ag BK131.out 3).trans rfl; have hcz20_4 : w19.cell? ⟨gb131, 4, none⟩ = some (.string a0_4) := (ag BK131.out 4).trans rfl; have hfz20_0 := ae BK131.out 0; have hfz20_1 := ae BK131.out 1; have hfz20_2 := ae BK131.out 2; have hfz20_3 := ae BK131.out 3; have hfz20_4 := ae BK131.out 4))
     go_meet
     case rel => exact ⟨_, (false), Z7, H', ⟨by have := HJ3.out; first | omega | exact Nat.le_refl _⟩, ⟨by exact BK131.out⟩, ⟨Z17⟩⟩
    rw [if_neg c17] at H
    have c17b0 : ((Go.bits .and .i64 t132 1) == 0) = false := beq_eq_false_iff_ne.mpr c17
    have c17b1 : ((Go.bits .and .i64 t132 1) != 0) = true := bne_iff_ne.mpr c17
    have ct_ : t137 = true := by have q_ := c14b0; rw [c17b1] at q_; simpa using q_
    have H' := Aside0.mk H
    clear H
    have hcz21_0 : wc.cell? ⟨gb131, 0, none⟩ = some (.int .i64 a0_0) := (ag BK131.out 0).trans rfl
    have hcz21_1 : wc.cell? ⟨gb131, 1, none⟩ = some (.int .i64 a0_1) := (ag BK131.out 1).trans rfl
    have hcz21_2 : wc.cell? ⟨gb131, 2, none⟩ = some (.string a0_2) := (ag BK131.out 2).trans rfl
    have hcz21_3 : wc.cell? ⟨gb131, 3, none⟩ = some (.int .i64 a0_3) := (ag BK131.out 3).trans rfl
    have hcz21_4 : wc.cell? ⟨gb131, 4, none⟩ = some (.string a0_4) := (ag BK131.out 4).trans rfl
    have hfz21_0 := ae BK131.out 0
    have hfz21_1 := ae BK131.out 1
    have hfz21_2 := ae BK131.out 2
    have hfz21_3 := ae BK131.out 3
    have hfz21_4 := ae BK131.out 4
    go_wp2_with (first | ((with_reducible refine gate_callee (f := 31) rfl ?_); refine goesL_ (some 35) rfl rfl Try.func31 (by kernel_rfl) rfl #[.string a0_2] rfl Z3 ?_; (with_reducible refine (dE.calls kj3 a0_2 t137 _ A13.out).mono ?_); rintro e w22 ⟨rfl, hb⟩; refine ⟨_, rfl, ?_⟩; have n0_ := Aside0.mk (bU (g := gb131) (o := .cells #[.int .i64 a0_0, .int .i64 a0_1, .string a0_2, .int .i64 a0_3, .string a0_4] 41 (0, 0)) (by exact BK131.out) hb); have n1_ := Aside0.mk (below_step Z17 hb); clear BK131; clear HB; have BK131 := n0_; have HB := n1_; clear n0_ n1_; (try clear hb)))
    go_meet
    case rel => exact ⟨_, (false), Z7, H', ⟨by have := HJ3.out; first | omega | exact Nat.le_refl _⟩, ⟨by exact BK131.out⟩, ⟨Z17⟩⟩
   case rest =>
    clear HC12
    try clear c1
    try clear c2
    try clear p2
    try clear c3
    try clear c7
    try clear c11
    try clear c14
    try clear c14b0
    try clear c14b1
    try clear c14b2
    try clear c17
    try clear c17b0
    try clear c17b1
    try clear c20
    try clear hcz15_0
    try clear hcz15_1
    try clear hcz15_2
    try clear hcz15_3
    try clear hcz15_4
    try clear hcz18_0
    try clear hcz18_1
    try clear hcz18_2
    try clear hcz18_3
    try clear hcz18_4
    try clear hcz20_0
    try clear hcz20_1
    try clear hcz20_2
    try clear hcz20_3
    try clear hcz20_4
    try clear hcz21_0
    try clear hcz21_1
    try clear hcz21_2
    try clear hcz21_3
    try clear hcz21_4
    try clear hcz6_0
    try clear hcz6_1
    try clear hcz6_2
    try clear hcz6_3
    try clear hcz6_4
    try clear hcz9_0
    try clear hcz9_1
    try clear hcz9_2
    try clear hcz9_3
    try clear hcz9_4
    try clear hfz15_0
    try clear hfz15_1
    try clear hfz15_2
    try clear hfz15_3
    try clear hfz15_4
    try clear hfz18_0
    try clear hfz18_1
    try clear hfz18_2
    try clear hfz18_3
    try clear hfz18_4
    try clear hfz20_0
    try clear hfz20_1
    try clear hfz20_2
    try clear hfz20_3
    try clear hfz20_4
    try clear hfz21_0
    try clear hfz21_1
    try clear hfz21_2
    try clear hfz21_3
    try clear hfz21_4
    try clear hfz6_0
    try clear hfz6_1
    try clear hfz6_2
    try clear hfz6_3
    try clear hfz6_4
    try clear hfz9_0
    try clear hfz9_1
    try clear hfz9_2
    try clear hfz9_3
    try clear hfz9_4
    try clear p2
    obtain ⟨kq, x29_11, rfl, HA, HJ11, BK131, HB⟩ := hcut
    cases kq with
    | zero => exact absurd HA.out (by simp [bg.j1])
    | succ kj11 =>
     have H := HA.out
     clear HA
     simp only [bg.j1] at H
     by_cases c23 : x29_11 = true
     ·subst c23
      have H1 : (some false) = some r := by rw [if_pos rfl] at H; exact H
      clear H
      have H := H1
      clear H1
      obtain rfl := Option.some.inj H
      go_wp2
      go_ret
      exact ⟨Z5, Z17⟩
     replace c23 := Bool.eq_false_iff.mpr c23
     subst c23
     have H1 : (if (Go.bits .and .i64 t132 4) = 0 then (some (a0_3 == 0)) else (if a0_3 ≥ t134 then (some (decide (a0_3 ≤ t135))) else (some false))) = some r := by rw [if_neg (show ¬ (false = true) by decide)] at H; exact H
     clear H
     have H := H1
     clear H1
     by_cases c24 : (Go.bits .and .i64 t132 4) = 0
     ·rw [if_pos c24] at H
      have c24b0 : ((Go.bits .and .i64 t132 4) == 0) = true := beq_iff_eq.mpr c24
      have c24b1 : ((Go.bits .and .i64 t132 4) != 0) = false := bne_eq_false_iff_eq.mpr c24
      clear c24
      obtain rfl := Option.some.inj H
      have hcz25_0 : wc.cell? ⟨gb131, 0, none⟩ = some (.int .i64 a0_0) := (ag BK131.out 0).trans rfl
      have hcz25_1 : wc.cell? ⟨gb131, 1, none⟩ = some (.int .i64 a0_1) := (ag BK131.out 1).trans rfl
      have hcz25_2 : wc.cell? ⟨gb131, 2, none⟩ = some (.string a0_2) := (ag BK131.out 2).trans rfl
      have hcz25_3 : wc.cell? ⟨gb131, 3, none⟩ = some (.int .i64 a0_3) := (ag BK131.out 3).trans rfl
      have hcz25_4 : wc.cell? ⟨gb131, 4, none⟩ = some (.string a0_4) := (ag BK131.out 4).trans rfl
      have hfz25_0 := ae BK131.out 0
      have hfz25_1 := ae BK131.out 1
      have hfz25_2 := ae BK131.out 2
      have hfz25_3 := ae BK131.out 3
      have hfz25_4 := ae BK131.out 4
      go_wp2
      go_ret
      exact ⟨Z5, Z17⟩
     rw [if_neg c24] at H
     have c24b0 : ((Go.bits .and .i64 t132 4) == 0) = false := beq_eq_false_iff_ne.mpr c24
     have c24b1 : ((Go.bits .and .i64 t132 4) != 0) = true := bne_iff_ne.mpr c24
     by_cases c26 : a0_3 ≥ t134
     ·rw [if_pos c26] at H
      have c26b0 : decide (t134 ≤ a0_3) = true := decide_eq_true c26
      clear c26
      obtain rfl := Option.some.inj H
      have hcz27_0 : wc.cell? ⟨gb131, 0, none⟩ = some (.int .i64 a0_0) := (ag BK131.out 0).trans rfl
      have hcz27_1 : wc.cell? ⟨gb131, 1, none⟩ = some (.int .i64 a0_1) := (ag BK131.out 1).trans rfl
      have hcz27_2 : wc.cell? ⟨gb131, 2, none⟩ = some (.string a0_2) := (ag BK131.out 2).trans rfl
      have hcz27_3 : wc.cell? ⟨gb131, 3, none⟩ = some (.int .i64 a0_3) := (ag BK131.out 3).trans rfl
      have hcz27_4 : wc.cell? ⟨gb131, 4, none⟩ = some (.string a0_4) := (ag BK131.out 4).trans rfl
      have hfz27_0 := ae BK131.out 0
      have hfz27_1 := ae BK131.out 1
      have hfz27_2 := ae BK131.out 2
      have hfz27_3 := ae BK131.out 3
      have hfz27_4 := ae BK131.out 4
      go_wp2
      go_ret
      exact ⟨Z5, Z17⟩
     rw [if_neg c26] at H
     have c26b0 : decide (t134 ≤ a0_3) = false := decide_eq_false c26
     clear c26
     obtain rfl := Option.some.inj H
     have hcz28_0 : wc.cell? ⟨gb131, 0, none⟩ = some (.int .i64 a0_0) := (ag BK131.out 0).trans rfl
     have hcz28_1 : wc.cell? ⟨gb131, 1, none⟩ = some (.int .i64 a0_1) := (ag BK131.out 1).trans rfl
     have hcz28_2 : wc.cell? ⟨gb131, 2, none⟩ = some (.string a0_2) := (ag BK131.out 2).trans rfl
     have hcz28_3 : wc.cell? ⟨gb131, 3, none⟩ = some (.int .i64 a0_3) := (ag BK131.out 3).trans rfl
     have hcz28_4 : wc.cell? ⟨gb131, 4, none⟩ = some (.string a0_4) := (ag BK131.out 4).trans rfl
     have hfz28_0 := ae BK131.out 0
     have hfz28_1 := ae BK131.out 1
     have hfz28_2 := ae BK131.out 2
     have hfz28_3 := ae BK131.out 3
     have hfz28_4 := ae BK131.out 4
     go_wp2
     go_ret
     exact ⟨Z5, Z17⟩
end Go.Proofs.Ytendgafpkeadhaa.Q
end
section
namespace Go.Proofs.Ytendgafpkeadhaa.Q
open Go.RowKit Go.Proofs.YtendgafpkeadhaaW.PrintWords Go.Proofs.YtendgafpkeadhaaW.PrintLast Go.Proofs.YtendgafpkeadhaaW.PrintMore
attribute [local go_sem] max2_int min2_int max_two min_two max_three min_three max_four min_four
set_option linter.unusedVariables false
set_option linter.unusedSimpArgs false
/-! ### bK: function 32 -/
def bK.l0 : Nat → List Int → Int → Option (Bool)
 | 0, _, _ => none
 | k + 1, x0, x3 => if x3 < (x0.length : Int) then (if 0 ≤ x3 then (if (rd x0 x3) = 2 then (bK.l0 k x0 (wrap64 (x3 + 1))) else (if x3 ≤ (x0.length : Int) then ((gV.f (x0.drop (x3 : Int).toNat) 3).bind fun t140 => (some t140)) else (none))) else (none)) else (if 0 ≤ x3 then (if x3 ≤ (x0.length : Int) then ((gV.f (x0.drop (x3 : Int).toNat) 3).bind fun t142 => (some t142)) else (none)) else (none))
def bK.f (k : Nat) (l0 : List Int) : Option (Bool) := bK.l0 k l0 0
theorem bK.mono_l : ∀ k, (∀ y0 y1, LeO (bK.l0 k y0 y1) (bK.l0 (k + 1) y0 y1))
 | 0 => fun _ _ r h => by simp [bK.l0] at h
 | k + 1 => by
  have ih0 := bK.mono_l k
  intro y0 y1
  unfold bK.l0
  repeat' first
  | (with_reducible exact ih0 _ _)
  | (with_reducible exact LeO.refl _)
  | (with_reducible exact LeO.none _)
  | (with_reducible refine LeO.ite ?_ ?_)
  | (with_reducible refine LeO.bind ?_ (fun _ => ?_))
  | exact ih0 _ _
  | exact LeO.none _
  | refine LeO.ite ?_ ?_
  | refine LeO.bind ?_ (fun _ => ?_)
theorem bK.mono : ∀ a0 k, LeO (bK.f k a0) (bK.f (k + 1) a0) := by
 intro a0 k
 have ih0 := bK.mono_l k
 unfold bK.f
 repeat' first
  | (with_reducible exact ih0 _ _)
  | (with_reducible exact LeO.refl _)
  | (with_reducible exact LeO.none _)
  | (with_reducible refine LeO.ite ?_ ?_)
  | (with_reducible refine LeO.bind ?_ (fun _ => ?_))
  | exact ih0 _ _
  | exact LeO.none _
  | refine LeO.ite ?_ ?_
  | refine LeO.bind ?_ (fun _ => ?_)
set_option maxHeartbeats 8000000 in
set_option maxRecDepth 100000 in
theorem bK.calls (k : Nat) (A0 : Option Addr) (c0 : Nat) (l0 : List Int) (r : Bool) (w : World) (hr0 : Kd.C (Kd.int .i64) w A0 l0.length l0) (hc0 : l0.length ≤ c0) (h : bK.f k l0 = some r) :
 Calls Try.prog 32 #[.slice A0 l0.length c0] w fun e w' => e = .returned (.bool r) ∧ Below w.heap.size w w' := by
 have HR0 := Aside0.mk hr0
 have HC0 := Aside0.mk hc0
 clear hr0 hc0
 have HB := Aside0.mk (Below.refl w.heap.size w)
 have H : (bK.l0 k l0 0) = some r := h
 clear h
 have H' := Aside0.mk H
 clear H
 go_enter Try.func32, Try.ntmps32
 go_wp2
 go_loopg [3] k (fun kq v3 w' => ∃ (x3_1 : Int), v3 = .int .i64 x3_1 ∧ Aside0 (bK.l0 kq l0 x3_1 = some r) ∧ Aside0 (kq ≤ k) ∧ Aside0 (Below w.heap.size w w'))
 case atStart => exact ⟨(0), Z7, H', ⟨Nat.le_refl _⟩, ⟨Z4⟩⟩
 case round =>
  clear H'
  obtain ⟨x3_1, rfl, HA, HK1, HB⟩ := hrel
  cases gk with
  | zero => exact absurd HA.out (by simp [bK.l0])
  | succ k1 =>
   have H := HA.out
   clear HA
   simp only [bK.l0] at H
   by_cases c2 : x3_1 < (l0.length : Int)
   ·rw [if_pos c2] at H
    have c2b0 : decide (x3_1 < (l0.length : Int)) = true := decide_eq_true c2
    clear c2
    by_cases c3 : 0 ≤ x3_1
    ·rw [if_pos c3] at H
     have c3b0 : decide (0 ≤ x3_1) = true := decide_eq_true c3
     clear c3
     by_cases c4 : (rd l0 x3_1) = 2
     ·rw [if_pos c4] at H
      have c4b0 : ((rd l0 x3_1) == 2) = true := beq_iff_eq.mpr c4
      have c4b1 : ((rd l0 x3_1) != 2) = false := bne_eq_false_iff_eq.mpr c4
      clear c4
      have H' := Aside0.mk H
      clear H
      have p138 : 0 ≤ (x3_1 : Int) := of_decide_eq_true Z8
      have q138 : x3_1 < (l0.length : Int) := of_decide_eq_true Z8
      obtain ⟨ad138, e138, hx138_0⟩ := Kd.iR HR0.out x3_1 p138 q138
      cases e138
      replace hx138_0 := (HB.out.cell (World.block_lt_of_cell? w _ hx138_0)).trans hx138_0
      replace p138 := eq_true p138
      replace q138 := eq_true q138
      go_wp2
      go_roundg k1
      case measure => have := HK1.out; omega
      case rel => exact ⟨(wrap64 (x3_1 + 1)), Z7, H', ⟨by have := HK1.out; omega⟩, ⟨Z4⟩⟩
     rw [if_neg c4] at H
     have c4b0 : ((rd l0 x3_1) == 2) = false := beq_eq_false_iff_ne.mpr c4
     have c4b1 : ((rd l0 x3_1) != 2) = true := bne_iff_ne.mpr c4
     have c5b0 := eq_true (of_decide_eq_true Z8 : 0 ≤ x3_1)
     by_cases c6 : x3_1 ≤ (l0.length : Int)
     ·rw [if_pos c6] at H
      have c6b0 := eq_true c6
      have c6b1 : decide (x3_1 ≤ (l0.length : Int)) = true := decide_eq_true c6
      clear c6
      replace H := Option.bind_eq_some_iff.mp H
      obtain ⟨t140, A70, H⟩ := H
      replace H : (some t140) = some r := H
      have A7 := Aside0.mk A70
      clear A70
      obtain rfl := Option.some.inj H
      have p138 : 0 ≤ (x3_1 : Int) := of_decide_eq_true Z8
      have q138 : x3_1 < (l0.length : Int) := of_decide_eq_true Z8
      obtain ⟨ad138, e138, hx138_0⟩ := Kd.iR HR0.out x3_1 p138 q138
      cases e138
      replace hx138_0 := (HB.out.cell (World.block_lt_of_cell? w _ hx138_0)).trans hx138_0
      replace p138 := eq_true p138
      replace q138 := eq_true q138
      try go_wp2
      have n0_ := Aside0.mk (below_drew1 HB.out)
      clear HB
      have HB := n0_
      clear n0_
      obtain ⟨i09, hi09, _, hsz9, _⟩ := info_parts info3
      obtain ⟨A9, hcut9, hA9, hC9⟩ := jD (P := Try.prog) (Value.int .i64) 0 46 3 .i64 Try.underlying46 hi09 hsz9 (some ad138) c0 l0 x3_1 (of_decide_eq_true Z8) (of_decide_eq_true Z8) HC0.out
      have HR139 := Aside0.mk (Kd.kF (h1 := fun _ => rfl) (hA9 _ (Kd.jr HR0.out)))
      have HC139 := Aside0.mk hC9
      clear hA9 hC9 hi09 hsz9
      refine iQ (n := 6) (S := fun w' => True) (ds := []) #[false, false, false, false, false, false] (by kernel_rfl) rfl rfl trivial (fun hHeld => ?_)
      generalize wr.drew = w8 at HB HR139 hHeld ⊢
      refine aN (i := 0) (N := some 17) (v := ?_) (a' := ?_) #[true, false, false, false, false, false] rfl rfl (by kernel_rfl) (fun _ _ _ h => h) (Or.inl ⟨by rfl, ?_⟩) ?_ ?_
      rotate_left
      ·intro w'
       go_simp
       with_reducible rfl
      rotate_left
      ·simp only [Act.put, List.setIfInBounds_toArray, List.set_cons_zero, List.set_cons_succ, aC, aG]
       rfl
      refine aN (i := 1) (N := some 18) (v := ?_) (a' := ?_) #[true, true, false, false, false, false] rfl rfl (by kernel_rfl) (fun _ _ _ h => h) (Or.inl ⟨by rfl, ?_⟩) ?_ ?_
      rotate_left
      ·intro w'
       go_simp
       with_reducible rfl
      rotate_left
      ·simp only [Act.put, List.setIfInBounds_toArray, List.set_cons_zero, List.set_cons_succ, aC, aG]
       rfl
      refine aN (i := 2) (N := some 19) (v := ?_) (a' := ?_) #[true, true, true, false, false, false] rfl rfl (by kernel_rfl) (fun _ _ _ h => h) (Or.inl ⟨by rfl, ?_⟩) ?_ ?_
      rotate_left
      ·intro w'
       go_simp
       with_reducible rfl
      rotate_left
      ·simp only [Act.put, List.setIfInBounds_toArray, List.set_cons_zero, List.set_cons_succ, aC, aG]
       rfl
      refine kH (i := 3) (N := some 20) #[true, true, true, true, false, false] rfl rfl (by kernel_rfl) (by decide) (fun K hK => ?_)
      refine jq Try.func37 (by kernel_rfl) rfl #[.int .i64 3] (by rfl) rfl rfl Z43 ?_
      with_reducible refine (lH 3 _).mono ?_
      rintro e wIs ⟨gIs, rfl, hbk, hge, hb⟩
      refine ⟨_, rfl, ?_⟩
      have n0_ := Aside0.mk (below_step Z4 hb)
      have BKIs := Aside0.mk hbk
      clear HB
      have HB := n0_
      clear n0_ hbk hge
      (try clear hb)
      refine hK.out _ _ trivial (fun hHeld => ?_)
      clear hK K
      refine iM (a' := ?_) ?_ ?_
      rotate_left
      ·show Act.put _ (some 20) _ = _
       simp only [Act.put, List.setIfInBounds_toArray, List.set_cons_zero, List.set_cons_succ, aC, aG]
       rfl
      refine kH (i := 4) (N := some 21) #[true, true, true, true, true, false] rfl rfl (by kernel_rfl) (by decide) (fun K hK => ?_)
      refine jq Try.func34 (by kernel_rfl) rfl #[.slice A9 (l0.drop (x3_1 : Int).toNat).length (c0 - x3_1.toNat), .func (.func 59) #[] #[.pointer (some ⟨gIs, 0, none⟩)]] (by rfl) rfl rfl (by (try simp only [List.map_toArray, List.map_cons, List.map_nil]); first | done | (rw [show (l0.drop (x3_1 : Int).toNat).length = (l0.length - x3_1.toNat) from List.length_drop] <;> rfl) | rfl | (simp only [List.length_drop, List.length_take]; rfl)) ?_
      with_reducible refine (gV.calls _ _ (l0.drop (x3_1 : Int).toNat) 3 t140 _ ?side1 ?side2 A7.out (hj := ?side3)).mono ?_
      (case side3 => exact BKIs.out)
      (case side1 => repeat (first | exact (Kd.C_below HR139.out HB.out) | (with_reducible refine Kd.C_alloc ?_ _) | (with_reducible refine Kd.C_drewN ?_ _) | (with_reducible refine Kd.C_drew ?_)))
      (case side2 => exact HC139.out)
      rintro e w10 ⟨rfl, hb⟩
      refine ⟨_, rfl, ?_⟩
      have n0_ := Aside0.mk (below_step Z4 hb)
      clear HB
      have HB := n0_
      clear n0_
      (try clear hb)
      (try clear hb2)
      (try clear hk)
      (try clear hi)
      refine hK.out _ _ trivial (fun hHeld => ?_)
      clear hK K
      refine iM (a' := ?_) ?_ ?_
      rotate_left
      ·show Act.put _ (some 21) _ = _
       simp only [Act.put, List.setIfInBounds_toArray, List.set_cons_zero, List.set_cons_succ, aC, aG]
       rfl
      refine aN (i := 5) (N := some 2) (v := ?_) (a' := ?_) #[true, true, true, true, true, true] rfl rfl (by kernel_rfl) (fun _ _ _ h => h) (Or.inl ⟨by rfl, ?_⟩) ?_ ?_
      rotate_left
      ·intro w'
       go_simp
       with_reducible rfl
      rotate_left
      ·simp only [Act.put, List.setIfInBounds_toArray, List.set_cons_zero, List.set_cons_succ, aC, aG]
       rfl
      refine jQ (by kernel_rfl) ?_
      try go_wp2
      go_ret
      exact ⟨Z5, Z4⟩
     rw [if_neg c6] at H
     exact absurd H (by simp)
    rw [if_neg c3] at H
    exact absurd H (by simp)
   rw [if_neg c2] at H
   have c2b0 : decide (x3_1 < (l0.length : Int)) = false := decide_eq_false c2
   clear c2
   by_cases c11 : 0 ≤ x3_1
   ·rw [if_pos c11] at H
    have c11b0 := eq_true c11
    have c11b1 : decide (0 ≤ x3_1) = true := decide_eq_true c11
    clear c11
    by_cases c12 : x3_1 ≤ (l0.length : Int)
    ·rw [if_pos c12] at H
     have c12b0 := eq_true c12
     have c12b1 : decide (x3_1 ≤ (l0.length : Int)) = true := decide_eq_true c12
     clear c12
     replace H := Option.bind_eq_some_iff.mp H
     obtain ⟨t142, A130, H⟩ := H
     replace H : (some t142) = some r := H
     have A13 := Aside0.mk A130
     clear A130
     obtain rfl := Option.some.inj H
     try go_wp2
     have n0_ := Aside0.mk (below_drew1 HB.out)
     clear HB
     have HB := n0_
     clear n0_
     obtain ⟨i015, hi015, _, hsz15, _⟩ := info_parts info3
     obtain ⟨A15, hcut15, hA15, hC15⟩ := jD (P := Try.prog) (Value.int .i64) 0 46 3 .i64 Try.underlying46 hi015 hsz15 A0 c0 l0 x3_1 (of_decide_eq_true Z8) (of_decide_eq_true Z8) HC0.out
     have HR141 := Aside0.mk (Kd.kF (h1 := fun _ => rfl) (hA15 _ (Kd.jr HR0.out)))
     have HC141 := Aside0.mk hC15
     clear hA15 hC15 hi015 hsz15
     refine iQ (n := 6) (S := fun w' => True) (ds := []) #[false, false, false, false, false, false] (by kernel_rfl) rfl rfl trivial (fun hHeld => ?_)
     generalize wr.drew = w14 at HB HR141 hHeld ⊢
     refine aN (i := 0) (N := some 17) (v := ?_) (a' := ?_) #[true, false, false, false, false, false] rfl rfl (by kernel_rfl) (fun _ _ _ h => h) (Or.inl ⟨by rfl, ?_⟩) ?_ ?_
     rotate_left
     ·intro w'
      go_simp
      with_reducible rfl
     rotate_left
     ·simp only [Act.put, List.setIfInBounds_toArray, List.set_cons_zero, List.set_cons_succ, aC, aG]
      rfl
     refine aN (i := 1) (N := some 18) (v := ?_) (a' := ?_) #[true, true, false, false, false, false] rfl rfl (by kernel_rfl) (fun _ _ _ h => h) (Or.inl ⟨by rfl, ?_⟩) ?_ ?_
     rotate_left
     ·intro w'
      go_simp
      with_reducible rfl
     rotate_left
     ·simp only [Act.put, List.setIfInBounds_toArray, List.set_cons_zero, List.set_cons_succ, aC, aG]
      rfl
     refine aN (i := 2) (N := some 19) (v := ?_) (a' := ?_) #[true, true, true, false, false, false] rfl rfl (by kernel_rfl) (fun _ _ _ h => h) (Or.inl ⟨by rfl, ?_⟩) ?_ ?_
     rotate_left
     ·intro w'
      go_simp
      with_reducible rfl
     rotate_left
     ·simp only [Act.put, List.setIfInBounds_toArray, List.set_cons_zero, List.set_cons_succ, aC, aG]
      rfl
     refine kH (i := 3) (N := some 20) #[true, true, true, true, false, false] rfl rfl (by kernel_rfl) (by decide) (fun K hK => ?_)
     refine jq Try.func37 (by kernel_rfl) rfl #[.int .i64 3] (by rfl) rfl rfl Z43 ?_
     with_reducible refine (lH 3 _).mono ?_
     rintro e wIs ⟨gIs, rfl, hbk, hge, hb⟩
     refine ⟨_, rfl, ?_⟩
     have n0_ := Aside0.mk (below_step Z4 hb)
     have BKIs := Aside0.mk hbk
     clear HB
     have HB := n0_
     clear n0_ hbk hge
     (try clear hb)
     refine hK.out _ _ trivial (fun hHeld => ?_)
     clear hK K
     refine iM (a' := ?_) ?_ ?_
     rotate_left
     ·show Act.put _ (some 20) _ = _
      simp only [Act.put, List.setIfInBounds_toArray, List.set_cons_zero, List.set_cons_succ, aC, aG]
      rfl
     refine kH (i := 4) (N := some 21) #[true, true, true, true, true, false] rfl rfl (by kernel_rfl) (by decide) (fun K hK => ?_)
     refine jq Try.func34 (by kernel_rfl) rfl #[.slice A15 (l0.drop (x3_1 : Int).toNat).length (c0 - x3_1.toNat), .func (.func 59) #[] #[.pointer (some ⟨gIs, 0, none⟩)]] (by rfl) rfl rfl (by (try simp only [List.map_toArray, List.map_cons, List.map_nil]); first | done | (rw [show (l0.drop (x3_1 : Int).toNat).length = (l0.length - x3_1.toNat) from List.length_drop] <;> rfl) | rfl | (simp only [List.length_drop, List.length_take]; rfl)) ?_
     with_reducible refine (gV.calls _ _ (l0.drop (x3_1 : Int).toNat) 3 t142 _ ?side1 ?side2 A13.out (hj := ?side3)).mono ?_
     (case side3 => exact BKIs.out)
     (case side1 => repeat (first | exact (Kd.C_below HR141.out HB.out) | (with_reducible refine Kd.C_alloc ?_ _) | (with_reducible refine Kd.C_drewN ?_ _) | (with_reducible refine Kd.C_drew ?_)))
     (case side2 => exact HC141.out)
     rintro e w16 ⟨rfl, hb⟩
     refine ⟨_, rfl, ?_⟩
     have n0_ := Aside0.mk (below_step Z4 hb)
     clear HB
     have HB := n0_
     clear n0_
     (try clear hb)
     (try clear hb2)
     (try clear hk)
     (try clear hi)
     refine hK.out _ _ trivial (fun hHeld => ?_)
     clear hK K
     refine iM (a' := ?_) ?_ ?_
     rotate_left
     ·show Act.put _ (some 21) _ = _
      simp only [Act.put, List.setIfInBounds_toArray, List.set_cons_zero, List.set_cons_succ, aC, aG]
      rfl
     refine aN (i := 5) (N := some 2) (v := ?_) (a' := ?_) #[true, true, true, true, true, true] rfl rfl (by kernel_rfl) (fun _ _ _ h => h) (Or.inl ⟨by rfl, ?_⟩) ?_ ?_
     rotate_left
     ·intro w'
      go_simp
      with_reducible rfl
     rotate_left
     ·simp only [Act.put, List.setIfInBounds_toArray, List.set_cons_zero, List.set_cons_succ, aC, aG]
      rfl
     refine jQ (by kernel_rfl) ?_
     try go_wp2
     go_ret
     exact ⟨Z5, Z4⟩
    rw [if_neg c12] at H
    exact absurd H (by simp)
   rw [if_neg c11] at H
   exact absurd H (by simp)
end Go.Proofs.Ytendgafpkeadhaa.Q
end
