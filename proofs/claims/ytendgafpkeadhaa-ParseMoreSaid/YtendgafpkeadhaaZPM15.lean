/- Walks over functions of the program, words for them, and what the functions come to; of each text only what this claim uses; no condition. -/
import Derived.Test.YtendgafpkeadhaaZPM0
import Derived.Test.YtendgafpkeadhaaZPM1
import Derived.Test.YtendgafpkeadhaaZPM3
import Derived.Test.YtendgafpkeadhaaZPM14
section
namespace Go.Proofs.Ytendgafpkeadhaa.Q
open Go.RowKit Go.Proofs.YtendgafpkeadhaaW.PrintWords Go.Proofs.YtendgafpkeadhaaW.PrintLast Go.Proofs.YtendgafpkeadhaaW.PrintMore
attribute [local go_sem] max2_int min2_int max_two min_two max_three min_three max_four min_four
set_option linter.unusedVariables false
set_option linter.unusedSimpArgs false
/-! ### chrysalislaw10_ParseMore: function 6 -/
mutual
def chrysalislaw10_ParseMore.j0 : Nat → ByteArray → ByteArray → Bool → Option (Bool)
 | 0, _, _, _ => none
 | k + 1, x0, x1, x23 => if x23 = true then ((chrysalislaw10_known.f k).bind fun t927 => (some t927)) else (if 12 + x0.size ≤ 9223372036854775807 then (if ((⟨#[109, 111, 100, 117, 108, 101, 32, 109, 32, 49, 59, 32]⟩ : ByteArray) ++ x0).size + 1 ≤ 9223372036854775807 then ((parse_Text.f k (((⟨#[109, 111, 100, 117, 108, 101, 32, 109, 32, 49, 59, 32]⟩ : ByteArray) ++ x0) ++ (⟨#[10]⟩ : ByteArray))).bind fun bt928 => (if 12 + x1.size ≤ 9223372036854775807 then (if ((⟨#[109, 111, 100, 117, 108, 101, 32, 109, 32, 49, 59, 32]⟩ : ByteArray) ++ x1).size + 1 ≤ 9223372036854775807 then ((parse_Text.f k (((⟨#[109, 111, 100, 117, 108, 101, 32, 109, 32, 49, 59, 32]⟩ : ByteArray) ++ x1) ++ (⟨#[10]⟩ : ByteArray))).bind fun bt933 => (if (((⟨#[109, 111, 100, 117, 108, 101, 32, 109, 32, 49, 59, 32]⟩ : ByteArray) ++ x0) ++ (⟨#[10]⟩ : ByteArray)).size + x1.size ≤ 9223372036854775807 then (if ((((⟨#[109, 111, 100, 117, 108, 101, 32, 109, 32, 49, 59, 32]⟩ : ByteArray) ++ x0) ++ (⟨#[10]⟩ : ByteArray)) ++ x1).size + 1 ≤ 9223372036854775807 then ((parse_Text.f k (((((⟨#[109, 111, 100, 117, 108, 101, 32, 109, 32, 49, 59, 32]⟩ : ByteArray) ++ x0) ++ (⟨#[10]⟩ : ByteArray)) ++ x1) ++ (⟨#[10]⟩ : ByteArray))).bind fun bt938 => (if bt928.2.1 = 0 then (if bt933.2.1 = 0 then (if (bt928.1.length : Int) = 0 then (chrysalislaw10_ParseMore.j1 k bt928.1 bt928.2.1 bt933.1 bt933.2.1 bt938.1 bt938.2.1 true) else (chrysalislaw10_ParseMore.j1 k bt928.1 bt928.2.1 bt933.1 bt933.2.1 bt938.1 bt938.2.1 ((bt933.1.length : Int) == 0))) else (chrysalislaw10_ParseMore.j1 k bt928.1 bt928.2.1 bt933.1 bt933.2.1 bt938.1 bt938.2.1 true)) else (chrysalislaw10_ParseMore.j1 k bt928.1 bt928.2.1 bt933.1 bt933.2.1 bt938.1 bt938.2.1 true))) else (none)) else (none))) else (none)) else (none))) else (none)) else (none))
def chrysalislaw10_ParseMore.j1 : Nat → List (S41) → Int → List (S41) → Int → List (S41) → Int → Bool → Option (Bool)
 | 0, _, _, _, _, _, _, _ => none
 | k + 1, x6, x7, x9, x10, x12, x13, x70 => if x70 = true then (if x7 = 0 then (if x10 = 0 then (some false) else ((chrysalislaw10_known.f k).bind fun t943 => (some t943))) else ((chrysalislaw10_known.f k).bind fun t944 => (some t944))) else (chrysalislaw10_ParseMore.l0 k x6 x9 x12 x13 0)
def chrysalislaw10_ParseMore.l0 : Nat → List (S41) → List (S41) → List (S41) → Int → Int → Option (Bool)
 | 0, _, _, _, _, _ => none
 | k + 1, x6, x9, x12, x13, x15 => if x15 < (x9.length : Int) then (if 0 ≤ x15 then (if ((rd_T41 x9 x15).f0) = 2 then ((chrysalislaw10_known.f k).bind fun t946 => (some t946)) else (chrysalislaw10_ParseMore.l0 k x6 x9 x12 x13 (wrap64 (x15 + 1)))) else (none)) else (if x13 = 3 then ((chrysalislaw10_known.f k).bind fun t947 => (some t947)) else (if x13 = 0 then (if (x12.length : Int) = (wrap64 ((wrap64 ((x6.length : Int) + (x9.length : Int))) - 1)) then (if 0 < (x12.length : Int) then (if 0 < (x6.length : Int) then (if 0 < (x9.length : Int) then (if ((rd_T41 x12 0).f1) = (wrap64 (((rd_T41 x6 0).f1) + ((rd_T41 x9 0).f1))) then (if 1 ≤ (x6.length : Int) then (if (x6.length : Int) ≤ (x12.length : Int) then ((chrysalisref09_Same.f k ((x12.take ((x6.length : Int) : Int).toNat).drop 1) (x6.drop 1)).bind fun t959 => (if t959 = true then (if 0 ≤ (x6.length : Int) then (if 1 ≤ (x9.length : Int) then ((chrysalisref09_Same.f k (x12.drop ((x6.length : Int) : Int).toNat) (x9.drop 1)).bind fun t968 => (if t968 = true then ((chrysalislaw10_known.f k).bind fun t969 => (some t969)) else (some false))) else (none)) else (none)) else (some false))) else (none)) else (none)) else (some false)) else (none)) else (none)) else (none)) else (some false)) else (some false)))
end
def chrysalislaw10_ParseMore.f (k : Nat) (a0 : ByteArray) (a1 : ByteArray) : Option (Bool) := if (a0.size : Int) > 1000 then (chrysalislaw10_ParseMore.j0 k a0 a1 true) else (chrysalislaw10_ParseMore.j0 k a0 a1 (decide ((a1.size : Int) > 1000)))
theorem chrysalislaw10_ParseMore.mono_l : ∀ k, (∀ y0 y1 y2, LeO (chrysalislaw10_ParseMore.j0 k y0 y1 y2) (chrysalislaw10_ParseMore.j0 (k + 1) y0 y1 y2)) ∧ (∀ y0 y1 y2 y3 y4 y5 y6, LeO (chrysalislaw10_ParseMore.j1 k y0 y1 y2 y3 y4 y5 y6) (chrysalislaw10_ParseMore.j1 (k + 1) y0 y1 y2 y3 y4 y5 y6)) ∧ (∀ y0 y1 y2 y3 y4, LeO (chrysalislaw10_ParseMore.l0 k y0 y1 y2 y3 y4) (chrysalislaw10_ParseMore.l0 (k + 1) y0 y1 y2 y3 y4))
 | 0 => ⟨fun _ _ _ r h => by simp [chrysalislaw10_ParseMore.j0] at h, fun _ _ _ _ _ _ _ r h => by simp [chrysalislaw10_ParseMore.j1] at h, fun _ _ _ _ _ r h => by simp [chrysalislaw10_ParseMore.l0] at h⟩
 | k + 1 => by
  obtain ⟨ih0, ih1, ih2⟩ := chrysalislaw10_ParseMore.mono_l k
  refine ⟨?_, ?_, ?_⟩
  ·intro y0 y1 y2
   unfold chrysalislaw10_ParseMore.j0
   have m0 := chrysalislaw10_known.mono
   have m1 := chrysalisref09_Same.mono
   have m2 := parse_Text.mono
   exact yL
  ·intro y0 y1 y2 y3 y4 y5 y6
   unfold chrysalislaw10_ParseMore.j1
   have m0 := chrysalislaw10_known.mono
   have m1 := chrysalisref09_Same.mono
   have m2 := parse_Text.mono
   exact yL
  intro y0 y1 y2 y3 y4
  unfold chrysalislaw10_ParseMore.l0
  have m0 := chrysalislaw10_known.mono
  have m1 := chrysalisref09_Same.mono
  have m2 := parse_Text.mono
  exact yL
theorem chrysalislaw10_ParseMore.mono : ∀ a0 a1 k, LeO (chrysalislaw10_ParseMore.f k a0 a1) (chrysalislaw10_ParseMore.f (k + 1) a0 a1) := by
 intro a0 a1 k
 obtain ⟨ih0, ih1, ih2⟩ := chrysalislaw10_ParseMore.mono_l k
 unfold chrysalislaw10_ParseMore.f
 have m0 := chrysalislaw10_known.mono
 have m1 := chrysalisref09_Same.mono
 have m2 := parse_Text.mono
 exact yL
def chrysalislaw10_ParseMore.T16 : Bool × List (List Nat × List Nat) := (true, [([], []), ([0], [0]), ([1], [1]), ([2], [2]), ([3, 2], [2, 3]), ([2], [2]), ([5, 2], [2, 5]), ([2], [2]), ([7, 2], [2, 7]), ([6, 8, 2], [2, 6, 8]), ([9, 2], [2, 9]), ([4, 10, 2], [2, 4, 10]), ([2, 11], [2, 11]), ([12, 2], [12]), ([13], [13]), ([14, 13], [13, 14]), ([15, 13], [13, 15]), ([16, 13], [13, 16]), ([13], [13]), ([18, 13], [13, 18]), ([19, 13], [13, 19]), ([20, 13], [13, 20]), ([13], [13]), ([22, 13], [13, 22]), ([23, 13], [13, 23]), ([24, 13], [13, 24]), ([21, 25, 13], [13, 21, 25]), ([17, 26, 13], [13, 17, 26]), ([13, 27], [13, 27]), ([28, 13], [28]), ([29], [29]), ([29], [29]), ([31, 29], [29, 31]), ([30, 32, 29], [29, 30, 32]), ([29], [29]), ([34, 29], [29, 34]), ([33, 35, 29, 29], [29, 33, 35]), ([29, 36], [29, 36]), ([37, 36], [37]), ([38], [38]), ([38], [38]), ([40, 38], [38, 40]), ([39, 41, 38], [38, 39, 41]), ([38], [38]), ([43, 38], [38, 43]), ([42, 44, 38, 38], [38, 42, 44]), ([38, 45], [38, 45]), ([46, 45], [46]), ([47, 47], [47]), ([47, 48], [47, 48]), ([49, 48, 0, 1, 2, 3, 4, 5, 6, 7, 8, 9, 10, 11, 12, 13, 14, 15, 16, 17, 18, 19, 20, 21, 22, 23, 24, 25, 26, 27, 28, 29, 30, 31, 32, 33, 34, 35, 36, 37, 38, 39, 40, 41, 42, 43, 44, 45, 46, 47, 48, 49], [49])])
def chrysalislaw10_ParseMore.B16 : List Nat := [0, 1, 3, 7, 15, 7, 39, 7, 135, 487, 999, 2047, 4095, 8191, 16383, 32767, 65535, 131071, 16383, 278527, 802815, 1851391, 16383, 4210687, 12599295, 29376511, 66863103, 134217727, 268435455, 536870911, 1073741823, 1073741823, 3221225471, 8589934591, 1073741823, 18253611007, 68719476735, 137438953471, 274877906943, 549755813887, 549755813887, 1649267441663, 4398046511103, 549755813887, 9345848836095, 35184372088831, 70368744177663, 140737488355327, 281474976710655, 562949953421311, 1125899906842623]
theorem chrysalislaw10_ParseMore.tab16 : rtab .any (opsOf Try.f6 16) = chrysalislaw10_ParseMore.T16 := by kernel_rfl
theorem chrysalislaw10_ParseMore.bits16 : waitsOk chrysalislaw10_ParseMore.T16.2 chrysalislaw10_ParseMore.B16 = true := by kernel_rfl
set_option maxHeartbeats 8000000 in
set_option maxRecDepth 100000 in
theorem chrysalislaw10_ParseMore.calls (k : Nat) (a0 : ByteArray) (a1 : ByteArray) (r : Bool) (w : World) (h : chrysalislaw10_ParseMore.f k a0 a1 = some r) (hr : r = true) :
 Calls Try.prog 6 #[.string a0, .string a1] w fun e w' => e = .returned (.bool r) ∧ Below w.heap.size w w' := by
 have HB := Aside0.mk (Below.refl w.heap.size w)
 have HR := Aside0.mk hr
 clear hr
 have H := h
 clear h
 unfold chrysalislaw10_ParseMore.f at H
 have HC3 := Aside0.mk H
 clear H
 go_enter Try.func6, Try.ntmps6
 go_upto_region 1 with (fail)
 go_cut [23] (fun v23 wc => ∃ (kq : Nat) (x23_2 : Bool), v23 = .bool x23_2 ∧ Aside0 (chrysalislaw10_ParseMore.j0 kq a0 a1 x23_2 = some r) ∧ Aside0 (kq ≤ k) ∧ Aside0 (Below w.heap.size w wc))
 case first =>
  have H := HC3.out
  clear HC3
  revert H
  refine dP (fun c4 H => ?_) fun c4 H => ?_
  ·have c4b0 : decide (1000 < (a0.size : Int)) = true := decide_eq_true c4
   have c4b1 : decide (1000 < a0.size) = true := decide_eq_true (by omega)
   clear c4
   (first | rw [c4b0] | (simp only [bW, cu]; rw [c4b0]) | skip)
   have H' := Aside0.mk H
   clear H
   go_wp2
   go_meet
   case rel => exact ⟨_, (true), Z5, H', ⟨Z36⟩, ⟨Z3⟩⟩
  have c4b0 : decide (1000 < (a0.size : Int)) = false := decide_eq_false c4
  have c4b1 : decide (1000 < a0.size) = false := decide_eq_false (by omega)
  clear c4
  (first | rw [c4b0] | (simp only [bW, cu]; rw [c4b0]) | skip)
  have H' := Aside0.mk H
  clear H
  go_wp2
  go_meet
  case rel => exact ⟨_, (decide ((a1.size : Int) > 1000)), Z5, H', ⟨Z36⟩, ⟨Z3⟩⟩
 case rest =>
  clear HC3
  try clear p2
  try clear c4
  try clear c4b0
  try clear c4b1
  obtain ⟨kq, x23_2, rfl, HA, HJ2, HB⟩ := hcut
  cases kq with
  | zero => exact absurd HA.out (by simp [chrysalislaw10_ParseMore.j0])
  | succ kj2 =>
   have H := HA.out
   clear HA
   simp only [chrysalislaw10_ParseMore.j0] at H
   cases x23_2
   rotate_left
   ·replace H := yT H
    revert H
    refine yB1 fun t927 A6 H => ?_
    obtain rfl := Option.some.inj H
    go_wp2_with (first | ((with_reducible refine gC 8 rfl ?_); refine gM 8 24 rfl Try.func8 (chrysalislaw10_known.calls kj2  t927 _ A6.out) ?_; rintro _ w7 ⟨rfl, hb⟩; refine ⟨_, rfl, yA1 (below_step Z3 hb) ?_⟩; clear HB hb; intro HB))
    go_ret
    exact ⟨Z4, Z3⟩
   replace H := yF H
   revert H
   refine iJ (fun c8 c8b0 c8b1 H => ?_) fun c8 H => ?_
   ·try have c8b2 : (9223372036854775807 < 12 + a0.size) = False := eq_false (Nat.not_lt.2 c8)
    revert H
    refine iJ (fun c9 c9b0 c9b1 H => ?_) fun c9 H => ?_
    ·have c9s := c9
     simp only [ByteArray.size_append, show ((⟨#[109, 111, 100, 117, 108, 101, 32, 109, 32, 49, 59, 32]⟩ : ByteArray)).size = 12 from rfl] at c9s
     have c9t := eq_true c9s
     have c9u := eq_false (Nat.not_lt.2 c9s)
     clear c9s
     try have c9b2 : (9223372036854775807 < ((⟨#[109, 111, 100, 117, 108, 101, 32, 109, 32, 49, 59, 32]⟩ : ByteArray) ++ a0).size + 1) = False := eq_false (Nat.not_lt.2 c9)
     revert H
     refine yB3 fun t928 t929 t930 A10 H => ?_
     try dsimp only at H
     revert H
     refine iJ (fun c11 c11b0 c11b1 H => ?_) fun c11 H => ?_
     ·try have c11b2 : (9223372036854775807 < 12 + a1.size) = False := eq_false (Nat.not_lt.2 c11)
      revert H
      refine iJ (fun c12 c12b0 c12b1 H => ?_) fun c12 H => ?_
      ·have c12s := c12
       simp only [ByteArray.size_append, show ((⟨#[109, 111, 100, 117, 108, 101, 32, 109, 32, 49, 59, 32]⟩ : ByteArray)).size = 12 from rfl] at c12s
       have c12t := eq_true c12s
       have c12u := eq_false (Nat.not_lt.2 c12s)
       clear c12s
       try have c12b2 : (9223372036854775807 < ((⟨#[109, 111, 100, 117, 108, 101, 32, 109, 32, 49, 59, 32]⟩ : ByteArray) ++ a1).size + 1) = False := eq_false (Nat.not_lt.2 c12)
       revert H
       refine yB3 fun t933 t934 t935 A13 H => ?_
       try dsimp only at H
       revert H
       refine iJ (fun c14 c14b0 c14b1 H => ?_) fun c14 H => ?_
       ·have c14s := c14
        simp only [ByteArray.size_append, show ((⟨#[109, 111, 100, 117, 108, 101, 32, 109, 32, 49, 59, 32]⟩ : ByteArray)).size = 12 from rfl, show ((⟨#[10]⟩ : ByteArray)).size = 1 from rfl] at c14s
        have c14t := eq_true c14s
        have c14u := eq_false (Nat.not_lt.2 c14s)
        clear c14s
        try have c14b2 : (9223372036854775807 < (((⟨#[109, 111, 100, 117, 108, 101, 32, 109, 32, 49, 59, 32]⟩ : ByteArray) ++ a0) ++ (⟨#[10]⟩ : ByteArray)).size + a1.size) = False := eq_false (Nat.not_lt.2 c14)
        revert H
        refine iJ (fun c15 c15b0 c15b1 H => ?_) fun c15 H => ?_
        ·have c15s := c15
         simp only [ByteArray.size_append, show ((⟨#[109, 111, 100, 117, 108, 101, 32, 109, 32, 49, 59, 32]⟩ : ByteArray)).size = 12 from rfl, show ((⟨#[10]⟩ : ByteArray)).size = 1 from rfl] at c15s
         have c15t := eq_true c15s
         have c15u := eq_false (Nat.not_lt.2 c15s)
         clear c15s
         try have c15b2 : (9223372036854775807 < ((((⟨#[109, 111, 100, 117, 108, 101, 32, 109, 32, 49, 59, 32]⟩ : ByteArray) ++ a0) ++ (⟨#[10]⟩ : ByteArray)) ++ a1).size + 1) = False := eq_false (Nat.not_lt.2 c15)
         revert H
         refine yB3 fun t938 t939 t940 A16 H => ?_
         try dsimp only at H
         have HC17 := Aside0.mk H
         clear H
         go_upto_region 7 with (first | ((with_reducible refine gC 9 rfl ?_); refine gM 9 30 rfl Try.func9 (parse_Text.calls kj2 (((⟨#[109, 111, 100, 117, 108, 101, 32, 109, 32, 49, 59, 32]⟩ : ByteArray) ++ a0) ++ (⟨#[10]⟩ : ByteArray)) t928 t929 t930 _ A10.out) ?_; rintro _ w18 ⟨v931, rfl, ho0, hb⟩; refine ⟨_, rfl, yA2 (Kd.R_lower ho0 (below_size Z3)) (below_step Z3 hb) ?_⟩; clear HB hb ho0; intro HO932 HB) | ((with_reducible refine gC 9 rfl ?_); refine gM 9 39 rfl Try.func9 (parse_Text.calls kj2 (((⟨#[109, 111, 100, 117, 108, 101, 32, 109, 32, 49, 59, 32]⟩ : ByteArray) ++ a1) ++ (⟨#[10]⟩ : ByteArray)) t933 t934 t935 _ A13.out) ?_; rintro _ w19 ⟨v936, rfl, ho0, hb⟩; refine ⟨_, rfl, yA3 (Kd.R_elder' Z66 (Kd.R_base ho0) hb) (Kd.R_lower (Kd.R_new' ho0 (Kd.R_lt Z66)) (below_size Z3)) (below_step Z3 hb) ?_⟩; clear HO932 HB hb ho0; intro HO932 HO937 HB) | ((with_reducible refine gC 9 rfl ?_); refine gM 9 51 rfl Try.func9 (parse_Text.calls kj2 (((((⟨#[109, 111, 100, 117, 108, 101, 32, 109, 32, 49, 59, 32]⟩ : ByteArray) ++ a0) ++ (⟨#[10]⟩ : ByteArray)) ++ a1) ++ (⟨#[10]⟩ : ByteArray)) t938 t939 t940 _ A16.out) ?_; rintro _ w20 ⟨v941, rfl, ho0, hb⟩; refine ⟨_, rfl, yA4 (Kd.R_elder' Z66 (Kd.R_base ho0) hb) (Kd.R_elder' (by (with_reducible repeat (first | apply Kd.R_alloc | apply Kd.R_drewN | apply Kd.R_drew)); exact HO937.out) (Kd.R_base ho0) hb) (Kd.R_lower (Kd.R_new' (Kd.R_new' ho0 (Kd.R_lt Z66)) (Kd.R_lt (by (with_reducible repeat (first | apply Kd.R_alloc | apply Kd.R_drewN | apply Kd.R_drew)); exact HO937.out))) (below_size Z3)) (below_step Z3 hb) ?_⟩; clear HO932 HO937 HB hb ho0; intro HO932 HO937 HO942 HB))
         (try simp only [Act.put, List.setIfInBounds_toArray, List.set_cons_zero, List.set_cons_succ])
         go_cut [70] (fun v70 wc => ∃ (kq : Nat) (x70_16 : Bool), v70 = .bool x70_16 ∧ Aside0 (chrysalislaw10_ParseMore.j1 kq t928 t929 t933 t934 t938 t939 x70_16 = some r) ∧ Aside0 (kq ≤ kj2) ∧ Aside0 (Kd.R k41 41 wc w.heap.size (fun k_ => some k_ ≠ (v936 : Value).ownBlock ∧ some k_ ≠ (v941 : Value).ownBlock) v931 t928) ∧ Aside0 (Kd.R k41 41 wc w.heap.size (fun k_ => some k_ ≠ (v931 : Value).ownBlock ∧ some k_ ≠ (v941 : Value).ownBlock) v936 t933) ∧ Aside0 (Kd.R k41 41 wc w.heap.size (fun k_ => some k_ ≠ (v931 : Value).ownBlock ∧ some k_ ≠ (v936 : Value).ownBlock) v941 t938) ∧ Aside0 (Below w.heap.size w wc))
         case first =>
          have H := HC17.out
          clear HC17
          revert H
          refine aC (fun c21b0 c21b1 H => ?_) fun c21 c21b0 c21b1 H => ?_
          ·(first | rw [c21b0] | (simp only [bW, cu]; rw [c21b0]) | skip)
           revert H
           refine aC (fun c22b0 c22b1 H => ?_) fun c22 c22b0 c22b1 H => ?_
           ·revert H
            refine aC (fun c23b0 c23b1 H => ?_) fun c23 c23b0 c23b1 H => ?_
            ·have H' := Aside0.mk H
             clear H
             obtain ⟨Ao24, co24, eo24⟩ := Kd.R_slice HO932.out
             subst eo24
             go_wp2
             go_meet
             case rel => exact ⟨_, (true), Z5, H', ⟨by have := HJ2.out; first | omega | exact Nat.le_refl _⟩, ⟨Z60⟩, ⟨Z61⟩, ⟨Z62⟩, ⟨Z3⟩⟩
            have c23b2 : ¬ (t928 = []) := fun h_ => c23 (by rw [h_]; rfl)
            have H' := Aside0.mk H
            clear H
            obtain ⟨Ao25, co25, eo25⟩ := Kd.R_slice HO932.out
            subst eo25
            obtain ⟨Ao26, co26, eo26⟩ := Kd.R_slice HO937.out
            subst eo26
            go_wp2
            go_meet
            case rel => exact ⟨_, (((t933.length : Int) == 0)), Z5, H', ⟨by have := HJ2.out; first | omega | exact Nat.le_refl _⟩, ⟨Z60⟩, ⟨Z61⟩, ⟨Z62⟩, ⟨Z3⟩⟩
           have H' := Aside0.mk H
           clear H
           go_wp2
           go_meet
           case rel => exact ⟨_, (true), Z5, H', ⟨by have := HJ2.out; first | omega | exact Nat.le_refl _⟩, ⟨Z60⟩, ⟨Z61⟩, ⟨Z62⟩, ⟨Z3⟩⟩
          (first | rw [c21b0] | (simp only [bW, cu]; rw [c21b0]) | skip)
          have H' := Aside0.mk H
          clear H
          go_wp2
          go_meet
          case rel => exact ⟨_, (true), Z5, H', ⟨by have := HJ2.out; first | omega | exact Nat.le_refl _⟩, ⟨Z60⟩, ⟨Z61⟩, ⟨Z62⟩, ⟨Z3⟩⟩
         case rest =>
          clear HC17
          try clear c1
          try clear c2
          try clear p2
          try clear c4
          try clear c4b0
          try clear c4b1
          try clear c5
          try clear c6
          try clear c8
          try clear c8b0
          try clear c8b1
          try clear c8b2
          try clear c9
          try clear c9b0
          try clear c9b1
          try clear c9b2
          try clear c11
          try clear c11b0
          try clear c11b1
          try clear c11b2
          try clear c12
          try clear c12b0
          try clear c12b1
          try clear c12b2
          try clear c14
          try clear c14b0
          try clear c14b1
          try clear c14b2
          try clear c15
          try clear c15b0
          try clear c15b1
          try clear c15b2
          try clear c21
          try clear c21b0
          try clear c21b1
          try clear c22
          try clear c22b0
          try clear c22b1
          try clear c23
          try clear c23b0
          try clear c23b1
          try clear c23b2
          try clear p2
          obtain ⟨kq, x70_16, rfl, HA, HJ16, HO_6, HO_9, HO_12, HB⟩ := hcut
          cases kq with
          | zero => exact absurd HA.out (by simp [chrysalislaw10_ParseMore.j1])
          | succ kj16 =>
           have H := HA.out
           clear HA
           simp only [chrysalislaw10_ParseMore.j1] at H
           cases x70_16
           rotate_left
           ·replace H := yT H
            revert H
            refine aC (fun c28b0 c28b1 H => ?_) fun c28 c28b0 c28b1 H => ?_
            ·revert H
             refine aC (fun c29b0 c29b1 H => ?_) fun c29 c29b0 c29b1 H => ?_
             ·exact absurd ((Option.some.inj H).trans HR.out) (by decide)
             revert H
             refine yB1 fun t943 A30 H => ?_
             obtain rfl := Option.some.inj H
             go_wp2_with (first | (go_at_call 8; (with_reducible refine (chrysalislaw10_known.calls kj16  t943 _ A30.out).mono ?_); rintro e w31 ⟨rfl, hb⟩; refine yA4 (Kd.R_below Z34 hb) (Kd.R_below Z54 hb) (Kd.R_below Z51 hb) (below_step Z3 hb) ?_; clear HO_6 HO_9 HO_12 HB; intro HO_6 HO_9 HO_12 HB; (try clear hb)))
             go_ret
             exact ⟨Z4, Z3⟩
            revert H
            refine yB1 fun t944 A32 H => ?_
            obtain rfl := Option.some.inj H
            go_wp2_with (first | (go_at_call 8; (with_reducible refine (chrysalislaw10_known.calls kj16  t944 _ A32.out).mono ?_); rintro e w33 ⟨rfl, hb⟩; refine yA4 (Kd.R_below Z34 hb) (Kd.R_below Z54 hb) (Kd.R_below Z51 hb) (below_step Z3 hb) ?_; clear HO_6 HO_9 HO_12 HB; intro HO_6 HO_9 HO_12 HB; (try clear hb)))
            go_ret
            exact ⟨Z4, Z3⟩
           replace H := yF H
           have H' := Aside0.mk H
           clear H
           go_wp2
           go_loopg [15] kj16 (fun kq v15 w' => ∃ (x15_3 : Int), v15 = .int .i64 x15_3 ∧ Aside0 (chrysalislaw10_ParseMore.l0 kq t928 t933 t938 t939 x15_3 = some r) ∧ Aside0 (kq ≤ kj16) ∧ Aside0 (Kd.R k41 41 w' w.heap.size (fun k_ => some k_ ≠ (v936 : Value).ownBlock ∧ some k_ ≠ (v941 : Value).ownBlock) v931 t928) ∧ Aside0 (Kd.R k41 41 w' w.heap.size (fun k_ => some k_ ≠ (v931 : Value).ownBlock ∧ some k_ ≠ (v941 : Value).ownBlock) v936 t933) ∧ Aside0 (Kd.R k41 41 w' w.heap.size (fun k_ => some k_ ≠ (v931 : Value).ownBlock ∧ some k_ ≠ (v936 : Value).ownBlock) v941 t938) ∧ Aside0 (Below w.heap.size w w'))
           case atStart => exact ⟨(0), Z5, H', ⟨Nat.le_refl _⟩, ⟨Z34⟩, ⟨Z54⟩, ⟨Z51⟩, ⟨Z3⟩⟩
           case round =>
            clear H'
            try clear c1
            try clear c2
            try clear p2
            try clear c4
            try clear c4b0
            try clear c4b1
            try clear c5
            try clear c6
            try clear c8
            try clear c8b0
            try clear c8b1
            try clear c8b2
            try clear c9
            try clear c9b0
            try clear c9b1
            try clear c9b2
            try clear c11
            try clear c11b0
            try clear c11b1
            try clear c11b2
            try clear c12
            try clear c12b0
            try clear c12b1
            try clear c12b2
            try clear c14
            try clear c14b0
            try clear c14b1
            try clear c14b2
            try clear c15
            try clear c15b0
            try clear c15b1
            try clear c15b2
            try clear c21
            try clear c21b0
            try clear c21b1
            try clear c22
            try clear c22b0
            try clear c22b1
            try clear c23
            try clear c23b0
            try clear c23b1
            try clear c23b2
            try clear c27
            try clear c28
            try clear c28b0
            try clear c28b1
            try clear c29
            try clear c29b0
            try clear c29b1
            try clear p2
            obtain ⟨x15_3, rfl, HA, HK3, HO_6, HO_9, HO_12, HB⟩ := hrel
            cases gk with
            | zero => exact absurd HA.out (by simp [chrysalislaw10_ParseMore.l0])
            | succ k3 =>
             have H := HA.out
             clear HA
             simp only [chrysalislaw10_ParseMore.l0] at H
             revert H
             refine jd (fun c34b0 H => ?_) fun c34b0 H => ?_
             ·revert H
              refine fV (fun c35b0 H => ?_) fun c35 H => ?_
              ·revert H
               refine aC (fun c36b0 c36b1 H => ?_) fun c36 c36b0 c36b1 H => ?_
               ·revert H
                refine yB1 fun t946 A37 H => ?_
                obtain rfl := Option.some.inj H
                obtain ⟨Ao38, co38, eo38⟩ := Kd.R_slice HO_9.out
                subst eo38
                have p945 : 0 ≤ (x15_3 : Int) := of_decide_eq_true Z6
                have q945 : x15_3 < (t933.length : Int) := of_decide_eq_true Z6
                obtain ⟨ad945, e945, hx945_0, hx945_1, hx945_2, hx945_3, hx945_4⟩ := dV (Kd.R_reads' HO_9.out).2.2 x15_3 p945 q945
                cases e945
                replace p945 := eq_true p945
                replace q945 := eq_true q945
                go_wp2_with (first | ((with_reducible refine gC 8 rfl ?_); refine gM 8 92 rfl Try.func8 (chrysalislaw10_known.calls k3  t946 _ A37.out) ?_; rintro _ w39 ⟨rfl, hb⟩; refine ⟨_, rfl, yA4 (Kd.R_below Z34 hb) (Kd.R_below Z54 hb) (Kd.R_below Z51 hb) (below_step Z3 hb) ?_⟩; clear HO_6 HO_9 HO_12 HB hb; intro HO_6 HO_9 HO_12 HB))
                go_ret
                exact ⟨Z4, Z3⟩
               have H' := Aside0.mk H
               clear H
               obtain ⟨Ao40, co40, eo40⟩ := Kd.R_slice HO_9.out
               subst eo40
               have p945 : 0 ≤ (x15_3 : Int) := of_decide_eq_true Z6
               have q945 : x15_3 < (t933.length : Int) := of_decide_eq_true Z6
               obtain ⟨ad945, e945, hx945_0, hx945_1, hx945_2, hx945_3, hx945_4⟩ := dV (Kd.R_reads' HO_9.out).2.2 x15_3 p945 q945
               cases e945
               replace p945 := eq_true p945
               replace q945 := eq_true q945
               go_wp2
               go_roundg k3
               case measure => have := HJ2.out; have := HJ16.out; have := HK3.out; omega
               case rel => exact ⟨(wrap64 (x15_3 + 1)), Z5, H', ⟨by have := HJ2.out; have := HJ16.out; have := HK3.out; omega⟩, ⟨Z34⟩, ⟨Z54⟩, ⟨Z51⟩, ⟨Z3⟩⟩
              exact absurd H (by simp)
             revert H
             refine aC (fun c41b0 c41b1 H => ?_) fun c41 c41b0 c41b1 H => ?_
             ·revert H
              refine yB1 fun t947 A42 H => ?_
              obtain rfl := Option.some.inj H
              obtain ⟨Ao43, co43, eo43⟩ := Kd.R_slice HO_9.out
              subst eo43
              go_wp2_with (first | ((with_reducible refine gC 8 rfl ?_); refine gM 8 95 rfl Try.func8 (chrysalislaw10_known.calls k3  t947 _ A42.out) ?_; rintro _ w44 ⟨rfl, hb⟩; refine ⟨_, rfl, yA4 (Kd.R_below Z34 hb) (Kd.R_below Z54 hb) (Kd.R_below Z51 hb) (below_step Z3 hb) ?_⟩; clear HO_6 HO_9 HO_12 HB hb; intro HO_6 HO_9 HO_12 HB))
              go_ret
              exact ⟨Z4, Z3⟩
             revert H
             refine aC (fun c45b0 c45b1 H => ?_) fun c45 c45b0 c45b1 H => ?_
             ·revert H
              refine aC (fun c46b0 c46b1 H => ?_) fun c46 c46b0 c46b1 H => ?_
              ·revert H
               refine iY (fun c47 c47b0 H => ?_) fun c47 H => ?_
               ·have c47b1 : decide (0 < t938.length) = true := decide_eq_true (by omega)
                clear c47
                revert H
                refine iY (fun c48 c48b0 H => ?_) fun c48 H => ?_
                ·have c48b1 : decide (0 < t928.length) = true := decide_eq_true (by omega)
                 clear c48
                 revert H
                 refine iY (fun c49 c49b0 H => ?_) fun c49 H => ?_
                 ·have c49b1 : decide (0 < t933.length) = true := decide_eq_true (by omega)
                  clear c49
                  revert H
                  refine aC (fun c50b0 c50b1 H => ?_) fun c50 c50b0 c50b1 H => ?_
                  ·revert H
                   refine eF (fun c51b0 c51b1 H => ?_) fun c51 H => ?_
                   ·revert H
                    refine eF (fun c52b0 c52b1 H => ?_) fun c52 H => ?_
                    ·obtain ⟨y951, hy951⟩ : ∃ y_ : List (S41), y_ = ((t938.take ((t928.length : Int) : Int).toNat).drop 1) := ⟨_, rfl⟩
                     replace H : ((chrysalisref09_Same.f k3 y951 (t928.drop 1)).bind fun t959 => (if t959 = true then (if 0 ≤ (t928.length : Int) then (if 1 ≤ (t933.length : Int) then ((chrysalisref09_Same.f k3 (t938.drop ((t928.length : Int) : Int).toNat) (t933.drop 1)).bind fun t968 => (if t968 = true then ((chrysalislaw10_known.f k3).bind fun t969 => (some t969)) else (some false))) else (none)) else (none)) else (some false))) = some r := by first | (rw [hy951]; with_reducible exact H) | (have H2_ := (Option.bind_some _ _).symm.trans H; rw [hy951]; with_reducible exact H2_) | (have H2_ := (Option.bind_some _ _).symm.trans H; with_reducible exact H2_) | with_reducible exact H | (rw [hy951]; exact H) | exact H
                     have Ny951 := Aside0.mk hy951
                     clear hy951
                     have c53b0 := eq_true (of_decide_eq_true Z6 : 1 ≤ (t928.length : Int))
                     obtain ⟨y955, hy955⟩ : ∃ y_ : List (S41), y_ = (t928.drop 1) := ⟨_, rfl⟩
                     replace H : ((chrysalisref09_Same.f k3 y951 y955).bind fun t959 => (if t959 = true then (if 0 ≤ (t928.length : Int) then (if 1 ≤ (t933.length : Int) then ((chrysalisref09_Same.f k3 (t938.drop ((t928.length : Int) : Int).toNat) (t933.drop 1)).bind fun t968 => (if t968 = true then ((chrysalislaw10_known.f k3).bind fun t969 => (some t969)) else (some false))) else (none)) else (none)) else (some false))) = some r := by first | (rw [hy955]; with_reducible exact H) | (have H2_ := (Option.bind_some _ _).symm.trans H; rw [hy955]; with_reducible exact H2_) | (have H2_ := (Option.bind_some _ _).symm.trans H; with_reducible exact H2_) | with_reducible exact H | (rw [hy955]; exact H) | exact H
                     have Ny955 := Aside0.mk hy955
                     clear hy955
                     revert H
                     refine yB1 fun t959 A54 H => ?_
                     cases t959
                     rotate_left
                     ·replace H := yT H
                      revert H
                      refine eF (fun c56b0 c56b1 H => ?_) fun c56 H => ?_
                      ·have c57b0 := eq_true (of_decide_eq_true Z6 : (t928.length : Int) ≤ (t938.length : Int))
                       obtain ⟨y960, hy960⟩ : ∃ y_ : List (S41), y_ = (t938.drop ((t928.length : Int) : Int).toNat) := ⟨_, rfl⟩
                       replace H : (if 1 ≤ (t933.length : Int) then ((chrysalisref09_Same.f k3 y960 (t933.drop 1)).bind fun t968 => (if t968 = true then ((chrysalislaw10_known.f k3).bind fun t969 => (some t969)) else (some false))) else (none)) = some r := by first | (rw [hy960]; with_reducible exact H) | (have H2_ := (Option.bind_some _ _).symm.trans H; rw [hy960]; with_reducible exact H2_) | (have H2_ := (Option.bind_some _ _).symm.trans H; with_reducible exact H2_) | with_reducible exact H | (rw [hy960]; exact H) | exact H
                       have Ny960 := Aside0.mk hy960
                       clear hy960
                       revert H
                       refine eF (fun c58b0 c58b1 H => ?_) fun c58 H => ?_
                       ·obtain ⟨y964, hy964⟩ : ∃ y_ : List (S41), y_ = (t933.drop 1) := ⟨_, rfl⟩
                        replace H : ((chrysalisref09_Same.f k3 y960 y964).bind fun t968 => (if t968 = true then ((chrysalislaw10_known.f k3).bind fun t969 => (some t969)) else (some false))) = some r := by first | (rw [hy964]; with_reducible exact H) | (have H2_ := (Option.bind_some _ _).symm.trans H; rw [hy964]; with_reducible exact H2_) | (have H2_ := (Option.bind_some _ _).symm.trans H; with_reducible exact H2_) | with_reducible exact H | (rw [hy964]; exact H) | exact H
                        have Ny964 := Aside0.mk hy964
                        clear hy964
                        revert H
                        refine yB1 fun t968 A59 H => ?_
                        cases t968
                        rotate_left
                        ·replace H := yT H
                         revert H
                         refine yB1 fun t969 A61 H => ?_
                         obtain rfl := Option.some.inj H
                         obtain ⟨Ao62, co62, eo62⟩ := Kd.R_slice HO_9.out
                         subst eo62
                         try go_wp2
                         refine yA4 (Kd.R_drew HO_6.out) (Kd.R_drew HO_9.out) (Kd.R_drew HO_12.out) (below_drew1 HB.out) ?_
                         clear HO_6 HO_9 HO_12 HB
                         intro HO_6 HO_9 HO_12 HB
                         obtain ⟨Ao64, co64, eo64⟩ := Kd.R_slice HO_12.out
                         (first | subst eo64 | (injection eo64 with f1_ f2_ f3_; have f4_ := f1_.symm; have f5_ := f3_.symm; clear f1_ f2_ f3_; subst f4_; subst f5_))
                         obtain ⟨Ao65, co65, eo65⟩ := Kd.R_slice HO_6.out
                         (first | subst eo65 | (injection eo65 with f1_ f2_ f3_; have f4_ := f1_.symm; have f5_ := f3_.symm; clear f1_ f2_ f3_; subst f4_; subst f5_))
                         have p948 : 0 ≤ (0 : Int) := (by omega)
                         have q948 : 0 < (t938.length : Int) := of_decide_eq_true Z6
                         obtain ⟨ad948, e948, hx948_0, hx948_1, hx948_2, hx948_3, hx948_4⟩ := dV (Kd.R_reads' HO_12.out).2.2 0 p948 q948
                         cases e948
                         have qi948 : (0 < t938.length) = True := eq_true (by omega)
                         (try rw [show ((0 : Int)).toNat = 0 from rfl] at hx948_0)
                         (try rw [show 0 * 5 = 0 from rfl] at hx948_0)
                         (try rw [Addr.add_zero'] at hx948_0)
                         (try rw [show ((0 : Int)).toNat = 0 from rfl] at hx948_1)
                         (try rw [show 0 * 5 = 0 from rfl] at hx948_1)
                         (try rw [Addr.add_zero'] at hx948_1)
                         (try rw [show ((0 : Int)).toNat = 0 from rfl] at hx948_2)
                         (try rw [show 0 * 5 = 0 from rfl] at hx948_2)
                         (try rw [Addr.add_zero'] at hx948_2)
                         (try rw [show ((0 : Int)).toNat = 0 from rfl] at hx948_3)
                         (try rw [show 0 * 5 = 0 from rfl] at hx948_3)
                         (try rw [Addr.add_zero'] at hx948_3)
                         (try rw [show ((0 : Int)).toNat = 0 from rfl] at hx948_4)
                         (try rw [show 0 * 5 = 0 from rfl] at hx948_4)
                         (try rw [Addr.add_zero'] at hx948_4)
                         replace p948 := eq_true p948
                         replace q948 := eq_true q948
                         have p949 : 0 ≤ (0 : Int) := (by omega)
                         have q949 : 0 < (t928.length : Int) := of_decide_eq_true Z6
                         obtain ⟨ad949, e949, hx949_0, hx949_1, hx949_2, hx949_3, hx949_4⟩ := dV (Kd.R_reads' HO_6.out).2.2 0 p949 q949
                         cases e949
                         have qi949 : (0 < t928.length) = True := eq_true (by omega)
                         (try rw [show ((0 : Int)).toNat = 0 from rfl] at hx949_0)
                         (try rw [show 0 * 5 = 0 from rfl] at hx949_0)
                         (try rw [Addr.add_zero'] at hx949_0)
                         (try rw [show ((0 : Int)).toNat = 0 from rfl] at hx949_1)
                         (try rw [show 0 * 5 = 0 from rfl] at hx949_1)
                         (try rw [Addr.add_zero'] at hx949_1)
                         (try rw [show ((0 : Int)).toNat = 0 from rfl] at hx949_2)
                         (try rw [show 0 * 5 = 0 from rfl] at hx949_2)
                         (try rw [Addr.add_zero'] at hx949_2)
                         (try rw [show ((0 : Int)).toNat = 0 from rfl] at hx949_3)
                         (try rw [show 0 * 5 = 0 from rfl] at hx949_3)
                         (try rw [Addr.add_zero'] at hx949_3)
                         (try rw [show ((0 : Int)).toNat = 0 from rfl] at hx949_4)
                         (try rw [show 0 * 5 = 0 from rfl] at hx949_4)
                         (try rw [Addr.add_zero'] at hx949_4)
                         replace p949 := eq_true p949
                         replace q949 := eq_true q949
                         have p950 : 0 ≤ (0 : Int) := (by omega)
                         have q950 : 0 < (t933.length : Int) := of_decide_eq_true Z6
                         obtain ⟨ad950, e950, hx950_0, hx950_1, hx950_2, hx950_3, hx950_4⟩ := dV (Kd.R_reads' HO_9.out).2.2 0 p950 q950
                         cases e950
                         have qi950 : (0 < t933.length) = True := eq_true (by omega)
                         (try rw [show ((0 : Int)).toNat = 0 from rfl] at hx950_0)
                         (try rw [show 0 * 5 = 0 from rfl] at hx950_0)
                         (try rw [Addr.add_zero'] at hx950_0)
                         (try rw [show ((0 : Int)).toNat = 0 from rfl] at hx950_1)
                         (try rw [show 0 * 5 = 0 from rfl] at hx950_1)
                         (try rw [Addr.add_zero'] at hx950_1)
                         (try rw [show ((0 : Int)).toNat = 0 from rfl] at hx950_2)
                         (try rw [show 0 * 5 = 0 from rfl] at hx950_2)
                         (try rw [Addr.add_zero'] at hx950_2)
                         (try rw [show ((0 : Int)).toNat = 0 from rfl] at hx950_3)
                         (try rw [show 0 * 5 = 0 from rfl] at hx950_3)
                         (try rw [Addr.add_zero'] at hx950_3)
                         (try rw [show ((0 : Int)).toNat = 0 from rfl] at hx950_4)
                         (try rw [show 0 * 5 = 0 from rfl] at hx950_4)
                         (try rw [Addr.add_zero'] at hx950_4)
                         replace p950 := eq_true p950
                         replace q950 := eq_true q950
                         have q66 : ((t928.length : Int) : Int) ≤ ((t938.length : Int) : Int) := of_decide_eq_true Z6
                         obtain ⟨i066, hi066, _, hsz66, _⟩ := info_parts nU
                         have hroom66 : t938.length ≤ co64 := (Kd.R_reads' HO_12.out).2.1
                         have hC66 : Kd.C k41 _ (some ad948) t938.length t938 := (Kd.R_reads' HO_12.out).2.2
                         have ql66 : (1 : Int) ≤ ((t928.length : Int) : Int) := of_decide_eq_true Z6
                         have hcut66 := cut_mid (P := Try.prog) 23 41 .i64 .i64 Try.underlying23 hi066 5 hsz66 (some ad948) t938.length co64 1 (t928.length : Int) (by omega) ql66 q66 hroom66
                         have hr66 := Kd.C_mid (lo := (1 : Int).toNat) (hi := ((t928.length : Int) : Int).toNat) (c := co64) hC66 (by omega) (by omega) hroom66
                         obtain ⟨A66, hA66⟩ : ∃ A1, A1 = (if co64 = (1 : Int).toNat then (some ad948) else ((some ad948) : Option Addr).map (·.add ((1 : Int).toNat * 5))) := ⟨_, rfl⟩
                         obtain ⟨c66, hc66⟩ : ∃ c1, c1 = co64 - (1 : Int).toNat := ⟨_, rfl⟩
                         have hy66 : y951.length = ((t928.length : Int) : Int).toNat - (1 : Int).toNat := (by rw [Ny951.out, List.length_drop, List.length_take] <;> omega)
                         rw [show ((t938).take ((t928.length : Int) : Int).toNat).drop (1 : Int).toNat = y951 from Ny951.out.symm] at hr66
                         replace hr66 : Kd.C k41 _ A66 y951.length y951 := (by rw [hA66]; exact hr66)
                         rw [← hy66, ← hA66, ← hc66] at hcut66
                         have HR954 := Aside0.mk hr66
                         have HC954 := Aside0.mk (show y951.length ≤ c66 from by rw [hy66, hc66]; exact Nat.sub_le_sub_right (Nat.le_trans (by omega) hroom66) _)
                         clear hr66 hC66 hroom66 hi066 hsz66 hc66
                         have KY66 := Aside0.mk hy66
                         have KA66 := Aside0.mk hA66
                         clear hy66 hA66
                         have KL66 := Aside0.mk (show ((t928.length : Int) : Int).toNat ≤ t938.length from by omega)
                         have KM66 := Aside0.mk (show 1 ≤ ((t928.length : Int) : Int).toNat from by omega)
                         replace q66 := eq_true q66
                         have q67 : (1 : Int) ≤ ((t928.length : Int) : Int) := of_decide_eq_true Z6
                         obtain ⟨i067, hi067, _, hsz67, _⟩ := info_parts nU
                         have hroom67 : t928.length ≤ co65 := (Kd.R_reads' HO_6.out).2.1
                         have hC67 : Kd.C k41 _ (some ad949) t928.length t928 := (Kd.R_reads' HO_6.out).2.2
                         have hcut67 := rJ (P := Try.prog) 23 41 .i64 Try.underlying23 hi067 5 hsz67 (some ad949) t928.length co65 1 (by omega) q67
                         have hr67 := Kd.vk (m := (1 : Int).toNat) (c := co65) hC67 (by omega) hroom67
                         obtain ⟨A67, hA67⟩ : ∃ A1, A1 = (if co65 = (1 : Int).toNat then (some ad949) else ((some ad949) : Option Addr).map (·.add ((1 : Int).toNat * 5))) := ⟨_, rfl⟩
                         obtain ⟨c67, hc67⟩ : ∃ c1, c1 = co65 - (1 : Int).toNat := ⟨_, rfl⟩
                         have hy67 : y955.length = t928.length - (1 : Int).toNat := (by rw [Ny955.out, List.length_drop] <;> omega)
                         rw [show (t928).drop (1 : Int).toNat = y955 from Ny955.out.symm] at hr67
                         replace hr67 : Kd.C k41 _ A67 y955.length y955 := (by rw [hA67]; exact hr67)
                         rw [← hy67, ← hA67, ← hc67] at hcut67
                         have HR958 := Aside0.mk hr67
                         have HC958 := Aside0.mk (show y955.length ≤ c67 from by rw [hy67, hc67]; exact Nat.sub_le_sub_right hroom67 _)
                         clear hr67 hC67 hroom67 hi067 hsz67 hc67
                         have KY67 := Aside0.mk hy67
                         have KA67 := Aside0.mk hA67
                         clear hy67 hA67
                         have KL67 := Aside0.mk (show 1 ≤ t928.length from by omega)
                         replace q67 := eq_true q67
                         refine iM (n := 51) (S := fun w' => w'.cell? ad948 = some (.int .i64 ((rd_T41 t938 0).f0)) ∧ w'.cell? ⟨ad948.block, ad948.off + 1, none⟩ = some (.int .i64 ((rd_T41 t938 0).f1)) ∧ w'.cell? ⟨ad948.block, ad948.off + 2, none⟩ = some (.string ((rd_T41 t938 0).f2)) ∧ w'.cell? ⟨ad948.block, ad948.off + 3, none⟩ = some (.int .i64 ((rd_T41 t938 0).f3)) ∧ w'.cell? ⟨ad948.block, ad948.off + 4, none⟩ = some (.string ((rd_T41 t938 0).f4)) ∧ w'.cell? ad949 = some (.int .i64 ((rd_T41 t928 0).f0)) ∧ w'.cell? ⟨ad949.block, ad949.off + 1, none⟩ = some (.int .i64 ((rd_T41 t928 0).f1)) ∧ w'.cell? ⟨ad949.block, ad949.off + 2, none⟩ = some (.string ((rd_T41 t928 0).f2)) ∧ w'.cell? ⟨ad949.block, ad949.off + 3, none⟩ = some (.int .i64 ((rd_T41 t928 0).f3)) ∧ w'.cell? ⟨ad949.block, ad949.off + 4, none⟩ = some (.string ((rd_T41 t928 0).f4)) ∧ w'.cell? ad950 = some (.int .i64 ((rd_T41 t933 0).f0)) ∧ w'.cell? ⟨ad950.block, ad950.off + 1, none⟩ = some (.int .i64 ((rd_T41 t933 0).f1)) ∧ w'.cell? ⟨ad950.block, ad950.off + 2, none⟩ = some (.string ((rd_T41 t933 0).f2)) ∧ w'.cell? ⟨ad950.block, ad950.off + 3, none⟩ = some (.int .i64 ((rd_T41 t933 0).f3)) ∧ w'.cell? ⟨ad950.block, ad950.off + 4, none⟩ = some (.string ((rd_T41 t933 0).f4))) (ds := []) #[false, false, false, false, false, false, false, false, false, false, false, false, false, false, false, false, false, false, false, false, false, false, false, false, false, false, false, false, false, false, false, false, false, false, false, false, false, false, false, false, false, false, false, false, false, false, false, false, false, false, false] (by kernel_rfl) rfl rfl ⟨hx948_0, hx948_1, hx948_2, hx948_3, hx948_4, hx949_0, hx949_1, hx949_2, hx949_3, hx949_4, hx950_0, hx950_1, hx950_2, hx950_3, hx950_4⟩ (fun hHeld => ?_); refine dY chrysalislaw10_ParseMore.tab16 chrysalislaw10_ParseMore.bits16 (fun HT_ HW_ => ?_)
                         generalize wr.drew = w63 at HO_6 HO_9 HO_12 HB HR954 HR958 hx948_0 hx948_1 hx948_2 hx948_3 hx948_4 hx949_0 hx949_1 hx949_2 hx949_3 hx949_4 hx950_0 hx950_1 hx950_2 hx950_3 hx950_4 hHeld ⊢
                         refine pA 0 96 (bQ 51 1) ?_
                         refine pA 1 97 (bQ 51 3) ?_
                         refine pA 2 98 (bQ 51 7) ?_
                         refine pA 3 99 (bQ 51 15) ?_
                         refine pA 4 100 (bQ 51 31) ?_
                         refine pA 5 101 (bQ 51 63) ?_
                         refine pA 6 102 (bQ 51 127) ?_
                         refine pA 7 103 (bQ 51 255) ?_
                         refine pA 8 104 (bQ 51 511) ?_
                         refine pA 9 105 (bQ 51 1023) ?_
                         refine pA 10 106 (bQ 51 2047) ?_
                         refine pA 11 107 (bQ 51 4095) ?_
                         refine pA 12 108 (bQ 51 8191) ?_
                         refine pA 13 109 (bQ 51 16383) ?_
                         refine pA 14 110 (bQ 51 32767) ?_
                         refine pA 15 111 (bQ 51 65535) ?_
                         refine pA 16 112 (bQ 51 131071) ?_
                         refine pA 18 114 (bQ 51 393215) ?_
                         refine pA 19 115 (bQ 51 917503) ?_
                         refine pA 20 116 (bQ 51 1966079) ?_
                         refine pA 22 118 (bQ 51 6160383) ?_
                         refine pA 23 119 (bQ 51 14548991) ?_
                         refine pA 24 120 (bQ 51 31326207) ?_
                         refine kU (i := 17) (N := some 113) (v := ?_) (a' := ?_) #[true, true, true, true, true, true, true, true, true, true, true, true, true, true, true, true, true, true, true, true, true, false, true, true, true, false, false, false, false, false, false, false, false, false, false, false, false, false, false, false, false, false, false, false, false, false, false, false, false, false, false] rfl rfl (iG HT_.out HW_.out (by kernel_rfl)) (fun _ _ _ h => h) (Or.inl ⟨by rfl, ?_⟩) hHeld ?_ ?_
                         rotate_left
                         ·rintro w' ⟨s0, s1, s2, s3, s4, s5, s6, s7, s8, s9, s10, s11, s12, s13, s14⟩
                          go_simp
                          with_reducible rfl
                         rotate_left
                         ·simp only [Act.put, List.setIfInBounds_toArray, List.set_cons_zero, List.set_cons_succ, bW, cu]
                          rfl
                         refine kU (i := 21) (N := some 117) (v := ?_) (a' := ?_) #[true, true, true, true, true, true, true, true, true, true, true, true, true, true, true, true, true, true, true, true, true, true, true, true, true, false, false, false, false, false, false, false, false, false, false, false, false, false, false, false, false, false, false, false, false, false, false, false, false, false, false] rfl rfl (iG HT_.out HW_.out (by kernel_rfl)) (fun _ _ _ h => h) (Or.inl ⟨by rfl, ?_⟩) hHeld ?_ ?_
                         rotate_left
                         ·rintro w' ⟨s0, s1, s2, s3, s4, s5, s6, s7, s8, s9, s10, s11, s12, s13, s14⟩
                          go_simp
                          with_reducible rfl
                         rotate_left
                         ·simp only [Act.put, List.setIfInBounds_toArray, List.set_cons_zero, List.set_cons_succ, bW, cu]
                          rfl
                         refine kU (i := 25) (N := some 121) (v := ?_) (a' := ?_) #[true, true, true, true, true, true, true, true, true, true, true, true, true, true, true, true, true, true, true, true, true, true, true, true, true, true, false, false, false, false, false, false, false, false, false, false, false, false, false, false, false, false, false, false, false, false, false, false, false, false, false] rfl rfl (iG HT_.out HW_.out (by kernel_rfl)) (fun _ _ _ h => h) (Or.inl ⟨by rfl, ?_⟩) hHeld ?_ ?_
                         rotate_left
                         ·rintro w' ⟨s0, s1, s2, s3, s4, s5, s6, s7, s8, s9, s10, s11, s12, s13, s14⟩
                          go_simp
                          with_reducible rfl
                         rotate_left
                         ·simp only [Act.put, List.setIfInBounds_toArray, List.set_cons_zero, List.set_cons_succ, bW, cu]
                          rfl
                         refine pA 26 122 (bQ 51 134217727) ?_
                         refine pA 27 123 (bQ 51 268435455) ?_
                         refine pA 28 124 (bQ 51 536870911) ?_
                         refine pA 29 125 (bQ 51 1073741823) ?_
                         refine pA 30 126 (bQ 51 2147483647) ?_
                         refine pA 31 127 (bQ 51 4294967295) ?_
                         refine pA 32 128 (bQ 51 8589934591) ?_
                         refine pA 33 129 (bQ 51 17179869183) ?_
                         refine pA 34 130 (bQ 51 34359738367) ?_
                         refine pA 35 131 (bQ 51 68719476735) ?_
                         refine jV (i := 36) (N := some 132) (bQ 51 137438953471) rfl rfl (gm HT_.out (by kernel_rfl)) (by decide) (fun K hK => ?_)
                         refine iU Try.func12 (by kernel_rfl) rfl #[.slice A66 y951.length c66, .slice A67 y955.length c67] (by rfl) rfl rfl Z23 ?_
                         with_reducible refine (chrysalisref09_Same.calls k3 _ _ y951 _ _ y955 true _ ?side1 ?side2 ?side3 ?side4 A54.out).mono ?_
                         (case side1 => repeat (first | exact (by repeat (first | (with_reducible exact HR954.out) | (with_reducible refine Kd.C_alloc ?_ _) | (with_reducible refine Kd.C_drewN ?_ _) | (with_reducible refine Kd.C_drew ?_) | exact HR954.out)) | (with_reducible refine Kd.C_alloc ?_ _) | (with_reducible refine Kd.C_drewN ?_ _) | (with_reducible refine Kd.C_drew ?_)))
                         (case side2 => exact HC954.out)
                         (case side3 => repeat (first | exact (by repeat (first | (with_reducible exact HR958.out) | (with_reducible refine Kd.C_alloc ?_ _) | (with_reducible refine Kd.C_drewN ?_ _) | (with_reducible refine Kd.C_drew ?_) | exact HR958.out)) | (with_reducible refine Kd.C_alloc ?_ _) | (with_reducible refine Kd.C_drewN ?_ _) | (with_reducible refine Kd.C_drew ?_)))
                         (case side4 => exact HC958.out)
                         rintro e w' ⟨rfl, ⟨nd, rfl⟩⟩
                         refine ⟨_, rfl, ?_⟩
                         have q68 : ((t928.length : Int) : Int) ≤ ((t938.length : Int) : Int) := of_decide_eq_true Z6
                         obtain ⟨i068, hi068, _, hsz68, _⟩ := info_parts nU
                         have hroom68 : t938.length ≤ co64 := (Kd.R_reads' HO_12.out).2.1
                         have hC68 : Kd.C k41 _ (some ad948) t938.length t938 := (Kd.R_reads' HO_12.out).2.2
                         have q068 : (0 : Int) ≤ ((t928.length : Int) : Int) := of_decide_eq_true Z6
                         have hcut68 := rJ (P := Try.prog) 23 41 .i64 Try.underlying23 hi068 5 hsz68 (some ad948) t938.length co64 (t928.length : Int) q068 q68
                         have hr68 := Kd.vk (m := ((t928.length : Int) : Int).toNat) (c := co64) hC68 (by omega) hroom68
                         obtain ⟨A68, hA68⟩ : ∃ A1, A1 = (if co64 = ((t928.length : Int) : Int).toNat then (some ad948) else ((some ad948) : Option Addr).map (·.add (((t928.length : Int) : Int).toNat * 5))) := ⟨_, rfl⟩
                         obtain ⟨c68, hc68⟩ : ∃ c1, c1 = co64 - ((t928.length : Int) : Int).toNat := ⟨_, rfl⟩
                         have hy68 : y960.length = t938.length - ((t928.length : Int) : Int).toNat := (by rw [Ny960.out, List.length_drop] <;> omega)
                         rw [show (t938).drop ((t928.length : Int) : Int).toNat = y960 from Ny960.out.symm] at hr68
                         replace hr68 : Kd.C k41 _ A68 y960.length y960 := (by rw [hA68]; exact hr68)
                         rw [← hy68, ← hA68, ← hc68] at hcut68
                         have HR963 := Aside0.mk hr68
                         have HC963 := Aside0.mk (show y960.length ≤ c68 from by rw [hy68, hc68]; exact Nat.sub_le_sub_right hroom68 _)
                         clear hr68 hC68 hroom68 hi068 hsz68 hc68
                         have KY68 := Aside0.mk hy68
                         have KA68 := Aside0.mk hA68
                         clear hy68 hA68
                         have KL68 := Aside0.mk (show ((t928.length : Int) : Int).toNat ≤ t938.length from by omega)
                         replace q68 := eq_true q68
                         have q69 : (1 : Int) ≤ ((t933.length : Int) : Int) := of_decide_eq_true Z6
                         obtain ⟨i069, hi069, _, hsz69, _⟩ := info_parts nU
                         have hroom69 : t933.length ≤ co62 := (Kd.R_reads' HO_9.out).2.1
                         have hC69 : Kd.C k41 _ (some ad950) t933.length t933 := (Kd.R_reads' HO_9.out).2.2
                         have hcut69 := rJ (P := Try.prog) 23 41 .i64 Try.underlying23 hi069 5 hsz69 (some ad950) t933.length co62 1 (by omega) q69
                         have hr69 := Kd.vk (m := (1 : Int).toNat) (c := co62) hC69 (by omega) hroom69
                         obtain ⟨A69, hA69⟩ : ∃ A1, A1 = (if co62 = (1 : Int).toNat then (some ad950) else ((some ad950) : Option Addr).map (·.add ((1 : Int).toNat * 5))) := ⟨_, rfl⟩
                         obtain ⟨c69, hc69⟩ : ∃ c1, c1 = co62 - (1 : Int).toNat := ⟨_, rfl⟩
                         have hy69 : y964.length = t933.length - (1 : Int).toNat := (by rw [Ny964.out, List.length_drop] <;> omega)
                         rw [show (t933).drop (1 : Int).toNat = y964 from Ny964.out.symm] at hr69
                         replace hr69 : Kd.C k41 _ A69 y964.length y964 := (by rw [hA69]; exact hr69)
                         rw [← hy69, ← hA69, ← hc69] at hcut69
                         have HR967 := Aside0.mk hr69
                         have HC967 := Aside0.mk (show y964.length ≤ c69 from by rw [hy69, hc69]; exact Nat.sub_le_sub_right hroom69 _)
                         clear hr69 hC69 hroom69 hi069 hsz69 hc69
                         have KY69 := Aside0.mk hy69
                         have KA69 := Aside0.mk hA69
                         clear hy69 hA69
                         have KL69 := Aside0.mk (show 1 ≤ t933.length from by omega)
                         replace q69 := eq_true q69
                         refine hK.out _ _ ⟨hHeld.1, hHeld.2.1, hHeld.2.2.1, hHeld.2.2.2.1, hHeld.2.2.2.2.1, hHeld.2.2.2.2.2.1, hHeld.2.2.2.2.2.2.1, hHeld.2.2.2.2.2.2.2.1, hHeld.2.2.2.2.2.2.2.2.1, hHeld.2.2.2.2.2.2.2.2.2.1, hHeld.2.2.2.2.2.2.2.2.2.2.1, hHeld.2.2.2.2.2.2.2.2.2.2.2.1, hHeld.2.2.2.2.2.2.2.2.2.2.2.2.1, hHeld.2.2.2.2.2.2.2.2.2.2.2.2.2.1, hHeld.2.2.2.2.2.2.2.2.2.2.2.2.2.2⟩ (fun hHeld => ?_)
                         clear hK K
                         refine iH (a' := ?_) ?_ ?_
                         rotate_left
                         ·show Act.put _ (some 132) _ = _
                          simp only [Act.put, List.setIfInBounds_toArray, List.set_cons_zero, List.set_cons_succ, bW, cu]
                          rfl
                         refine pA 37 133 (bQ 51 274877906943) ?_
                         refine pA 38 134 (bQ 51 549755813887) ?_
                         refine pA 39 135 (bQ 51 1099511627775) ?_
                         refine pA 40 136 (bQ 51 2199023255551) ?_
                         refine pA 41 137 (bQ 51 4398046511103) ?_
                         refine pA 42 138 (bQ 51 8796093022207) ?_
                         refine pA 43 139 (bQ 51 17592186044415) ?_
                         refine pA 44 140 (bQ 51 35184372088831) ?_
                         refine jV (i := 45) (N := some 141) (bQ 51 70368744177663) rfl rfl (gm HT_.out (by kernel_rfl)) (by decide) (fun K hK => ?_)
                         refine iU Try.func12 (by kernel_rfl) rfl #[.slice A68 y960.length c68, .slice A69 y964.length c69] (by rfl) rfl rfl Z23 ?_
                         with_reducible refine (chrysalisref09_Same.calls k3 _ _ y960 _ _ y964 true _ ?side1 ?side2 ?side3 ?side4 A59.out).mono ?_
                         (case side1 => repeat (first | exact (by repeat (first | (with_reducible exact HR963.out) | (with_reducible refine Kd.C_alloc ?_ _) | (with_reducible refine Kd.C_drewN ?_ _) | (with_reducible refine Kd.C_drew ?_) | exact HR963.out)) | (with_reducible refine Kd.C_alloc ?_ _) | (with_reducible refine Kd.C_drewN ?_ _) | (with_reducible refine Kd.C_drew ?_)))
                         (case side2 => exact HC963.out)
                         (case side3 => repeat (first | exact (by repeat (first | (with_reducible exact HR967.out) | (with_reducible refine Kd.C_alloc ?_ _) | (with_reducible refine Kd.C_drewN ?_ _) | (with_reducible refine Kd.C_drew ?_) | exact HR967.out)) | (with_reducible refine Kd.C_alloc ?_ _) | (with_reducible refine Kd.C_drewN ?_ _) | (with_reducible refine Kd.C_drew ?_)))
                         (case side4 => exact HC967.out)
                         rintro e w' ⟨rfl, ⟨nd, rfl⟩⟩
                         refine ⟨_, rfl, ?_⟩
                         refine hK.out _ _ ⟨hHeld.1, hHeld.2.1, hHeld.2.2.1, hHeld.2.2.2.1, hHeld.2.2.2.2.1, hHeld.2.2.2.2.2.1, hHeld.2.2.2.2.2.2.1, hHeld.2.2.2.2.2.2.2.1, hHeld.2.2.2.2.2.2.2.2.1, hHeld.2.2.2.2.2.2.2.2.2.1, hHeld.2.2.2.2.2.2.2.2.2.2.1, hHeld.2.2.2.2.2.2.2.2.2.2.2.1, hHeld.2.2.2.2.2.2.2.2.2.2.2.2.1, hHeld.2.2.2.2.2.2.2.2.2.2.2.2.2.1, hHeld.2.2.2.2.2.2.2.2.2.2.2.2.2.2⟩ (fun hHeld => ?_)
                         clear hK K
                         refine iH (a' := ?_) ?_ ?_
                         rotate_left
                         ·show Act.put _ (some 141) _ = _
                          simp only [Act.put, List.setIfInBounds_toArray, List.set_cons_zero, List.set_cons_succ, bW, cu]
                          rfl
                         refine pA 46 142 (bQ 51 140737488355327) ?_
                         refine pA 47 143 (bQ 51 281474976710655) ?_
                         refine jV (i := 48) (N := some 144) (bQ 51 562949953421311) rfl rfl (gm HT_.out (by kernel_rfl)) (by decide) (fun K hK => ?_)
                         refine iU Try.func8 (by kernel_rfl) rfl #[] (by rfl) rfl rfl Z23 ?_
                         with_reducible refine (chrysalislaw10_known.calls k3  t969 _ A61.out).mono ?_
                         rintro e w70 ⟨rfl, hb⟩
                         have HS0_ := (hb.cell (World.block_lt_of_cell? _ _ (hHeld.1))).trans (hHeld.1)
                         have HS1_ := (hb.cell (World.block_lt_of_cell? _ _ (hHeld.2.1))).trans (hHeld.2.1)
                         have HS2_ := (hb.cell (World.block_lt_of_cell? _ _ (hHeld.2.2.1))).trans (hHeld.2.2.1)
                         have HS3_ := (hb.cell (World.block_lt_of_cell? _ _ (hHeld.2.2.2.1))).trans (hHeld.2.2.2.1)
                         have HS4_ := (hb.cell (World.block_lt_of_cell? _ _ (hHeld.2.2.2.2.1))).trans (hHeld.2.2.2.2.1)
                         have HS5_ := (hb.cell (World.block_lt_of_cell? _ _ (hHeld.2.2.2.2.2.1))).trans (hHeld.2.2.2.2.2.1)
                         have HS6_ := (hb.cell (World.block_lt_of_cell? _ _ (hHeld.2.2.2.2.2.2.1))).trans (hHeld.2.2.2.2.2.2.1)
                         have HS7_ := (hb.cell (World.block_lt_of_cell? _ _ (hHeld.2.2.2.2.2.2.2.1))).trans (hHeld.2.2.2.2.2.2.2.1)
                         have HS8_ := (hb.cell (World.block_lt_of_cell? _ _ (hHeld.2.2.2.2.2.2.2.2.1))).trans (hHeld.2.2.2.2.2.2.2.2.1)
                         have HS9_ := (hb.cell (World.block_lt_of_cell? _ _ (hHeld.2.2.2.2.2.2.2.2.2.1))).trans (hHeld.2.2.2.2.2.2.2.2.2.1)
                         have HS10_ := (hb.cell (World.block_lt_of_cell? _ _ (hHeld.2.2.2.2.2.2.2.2.2.2.1))).trans (hHeld.2.2.2.2.2.2.2.2.2.2.1)
                         have HS11_ := (hb.cell (World.block_lt_of_cell? _ _ (hHeld.2.2.2.2.2.2.2.2.2.2.2.1))).trans (hHeld.2.2.2.2.2.2.2.2.2.2.2.1)
                         have HS12_ := (hb.cell (World.block_lt_of_cell? _ _ (hHeld.2.2.2.2.2.2.2.2.2.2.2.2.1))).trans (hHeld.2.2.2.2.2.2.2.2.2.2.2.2.1)
                         have HS13_ := (hb.cell (World.block_lt_of_cell? _ _ (hHeld.2.2.2.2.2.2.2.2.2.2.2.2.2.1))).trans (hHeld.2.2.2.2.2.2.2.2.2.2.2.2.2.1)
                         have HS14_ := (hb.cell (World.block_lt_of_cell? _ _ (hHeld.2.2.2.2.2.2.2.2.2.2.2.2.2.2))).trans (hHeld.2.2.2.2.2.2.2.2.2.2.2.2.2.2)
                         refine ⟨_, rfl, ?_⟩
                         refine yA8 (Kd.R_below Z34 hb) (Kd.R_below Z54 hb) (Kd.R_below Z51 hb) (Kd.C_below (by repeat (first | (with_reducible exact HR954.out) | (with_reducible refine Kd.C_alloc ?_ _) | (with_reducible refine Kd.C_drewN ?_ _) | (with_reducible refine Kd.C_drew ?_) | exact HR954.out)) hb) (Kd.C_below (by repeat (first | (with_reducible exact HR958.out) | (with_reducible refine Kd.C_alloc ?_ _) | (with_reducible refine Kd.C_drewN ?_ _) | (with_reducible refine Kd.C_drew ?_) | exact HR958.out)) hb) (Kd.C_below (by repeat (first | (with_reducible exact HR963.out) | (with_reducible refine Kd.C_alloc ?_ _) | (with_reducible refine Kd.C_drewN ?_ _) | (with_reducible refine Kd.C_drew ?_) | exact HR963.out)) hb) (Kd.C_below (by repeat (first | (with_reducible exact HR967.out) | (with_reducible refine Kd.C_alloc ?_ _) | (with_reducible refine Kd.C_drewN ?_ _) | (with_reducible refine Kd.C_drew ?_) | exact HR967.out)) hb) (below_step Z3 hb) ?_; clear HO_6 HO_9 HO_12 HR954 HR958 HR963 HR967 HB; intro HO_6 HO_9 HO_12 HR954 HR958 HR963 HR967 HB
                         (try clear hb)
                         (try clear hb2)
                         (try clear hk)
                         (try clear hi)
                         refine hK.out _ _ ⟨HS0_, HS1_, HS2_, HS3_, HS4_, HS5_, HS6_, HS7_, HS8_, HS9_, HS10_, HS11_, HS12_, HS13_, HS14_⟩ (fun hHeld => ?_)
                         clear hK K
                         refine iH (a' := ?_) ?_ ?_
                         rotate_left
                         ·show Act.put _ (some 144) _ = _
                          simp only [Act.put, List.setIfInBounds_toArray, List.set_cons_zero, List.set_cons_succ, bW, cu]
                          rfl
                         refine pA 49 145 (bQ 51 1125899906842623) ?_
                         refine pA 50 4 (bQ 51 2251799813685247) ?_
                         refine jP (iD HT_.out (by kernel_rfl)) ?_
                         try go_wp2
                         go_ret
                         exact ⟨Z4, Z3⟩
                        replace H := yF H
                        exact absurd ((Option.some.inj H).trans HR.out) (by decide)
                       exact absurd H (by simp)
                      exact absurd H (by simp)
                     replace H := yF H
                     exact absurd ((Option.some.inj H).trans HR.out) (by decide)
                    exact absurd H (by simp)
                   exact absurd H (by simp)
                  exact absurd ((Option.some.inj H).trans HR.out) (by decide)
                 exact absurd H (by simp)
                exact absurd H (by simp)
               exact absurd H (by simp)
              exact absurd ((Option.some.inj H).trans HR.out) (by decide)
             exact absurd ((Option.some.inj H).trans HR.out) (by decide)
        exact absurd H (by simp)
       exact absurd H (by simp)
      exact absurd H (by simp)
     exact absurd H (by simp)
    exact absurd H (by simp)
   exact absurd H (by simp)
/-- THE ONE PURE STATEMENT of chrysalislaw10_ParseMore: yours. -/
def chrysalislaw10_ParseMore.Pure : Prop := ∀ (a0 : ByteArray) (a1 : ByteArray), a0.size ≤ 140737488351232 → a1.size ≤ 140737488351232 → ∃ k, chrysalislaw10_ParseMore.f k a0 a1 = some true
theorem chrysalislaw10_ParseMore.walk (P : chrysalislaw10_ParseMore.Pure) (a0 : ByteArray) (a1 : ByteArray) (w : World) (w0 : a0.size ≤ 140737488351232) (w1 : a1.size ≤ 140737488351232) :
 Calls Try.prog 6 #[.string a0, .string a1] w fun e w' => e = .returned (.bool true) ∧ Below w.heap.size w w' := by
 obtain ⟨k, h⟩ := P a0 a1 w0 w1
 refine (chrysalislaw10_ParseMore.calls k a0 a1 true w h rfl).mono ?_
 rintro e w' ⟨rfl, hd⟩
 exact ⟨rfl, hd⟩
end Go.Proofs.Ytendgafpkeadhaa.Q
end
section
namespace Go.Proofs.Ytendgafpkeadhaa.Q
open Go.RowKit Go.Proofs.YtendgafpkeadhaaW.PrintWords Go.Proofs.YtendgafpkeadhaaW.PrintLast Go.Proofs.YtendgafpkeadhaaW.PrintMore
attribute [local go_sem] max2_int min2_int max_two min_two max_three min_three max_four min_four
set_option linter.unusedVariables false
set_option linter.unusedSimpArgs false
/-! ### lex_Quote: function 27 -/
end Go.Proofs.Ytendgafpkeadhaa.Q
end
