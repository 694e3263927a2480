/- Walks over functions of the program, words for them, and what the functions come to; of each text only what this claim uses; no condition. -/
import Derived.Test.YtendgafpkeadhaaZPR0
import Derived.Test.YtendgafpkeadhaaZPR3
import Derived.Test.YtendgafpkeadhaaZPR4
import Derived.Test.YtendgafpkeadhaaZPR6
section
namespace Go.Proofs.Ytendgafpkeadhaa.Q
open Go.RowKit Go.Proofs.YtendgafpkeadhaaW.PrintWords Go.Proofs.YtendgafpkeadhaaW.PrintLast Go.Proofs.YtendgafpkeadhaaW.PrintMore
attribute [local go_sem] max2_int min2_int max_two min_two max_three min_three max_four min_four
set_option linter.unusedVariables false
set_option linter.unusedSimpArgs false
/-! ### bf: function 10 -/
mutual
def bf.j0 : Nat → List (S41) → Bool → Option (Int × Int)
 | 0, _, _ => none
 | k + 1, x0, x13 => if x13 = true then (some (2, 0)) else ((bu.f k x0).bind fun t165 => (if t165 > 60 then (some (3, 0)) else (if 0 < (x0.length : Int) then (if ((ax x0 0).f0) = 1 then (bf.l0 k x0 x0 (x0.length : Int) 0) else (some (4, 0))) else (none))))
def bf.l0 : Nat → List (S41) → List (S41) → Int → Int → Option (Int × Int)
 | 0, _, _, _, _ => none
 | k + 1, x0, x34, x35, x36 => if x36 < x35 then (if 0 ≤ x36 then (if x36 < (x34.length : Int) then ((bJ.f k x0 x36).bind fun t169 => (bf.l1 k x0 x36 ([] : List Int) x34 x35 x36 t169 (t169.length : Int) 0 ((ax x34 x36).f0) ((ax x34 x36).f1) ((ax x34 x36).f2) ((ax x34 x36).f3) ((ax x34 x36).f4))) else (none)) else (none)) else (some (0, 0))
def bf.l1 : Nat → List (S41) → Int → List Int → List (S41) → Int → Int → List Int → Int → Int → Int → Int → ByteArray → Int → ByteArray → Option (Int × Int)
 | 0, _, _, _, _, _, _, _, _, _, _, _, _, _, _ => none
 | k + 1, x0, x4, x6, x34, x35, x36, x43, x44, x45, x169000, x169001, x169002, x169003, x169004 => if x45 < x44 then (if 0 ≤ x45 then (if x45 < (x43.length : Int) then (if 0 ≤ (rd x43 x45) then (if (rd x43 x45) < (x0.length : Int) then (if x6.length < 17592186044416 then (bf.l1 k x0 x4 (x6 ++ [(ax x0 (rd x43 x45)).f0]) x34 x35 x36 x43 x44 (wrap64 (x45 + 1)) x169000 x169001 x169002 x169003 x169004) else (none)) else (none)) else (none)) else (none)) else (none)) else ((bg.f k x169000 x169001 x169002 x169003 x169004).bind fun t177 => (if t177 = true then ((aW.f k x169000 x6).bind fun t178 => (if t178 = true then (bf.l0 k x0 x34 x35 (wrap64 (x36 + 1))) else (some (4, x4)))) else (some (4, x4))))
end
def bf.f (k : Nat) (l0 : List (S41)) : Option (Int × Int) := if (l0.length : Int) > 2000 then (some (3, 0)) else (if (l0.length : Int) = 0 then (bf.j0 k l0 true) else ((bC.f k l0 0).bind fun t164 => (bf.j0 k l0 (t164 != (l0.length : Int)))))
theorem bf.mono_l : ∀ k, (∀ y0 y1, LeO (bf.j0 k y0 y1) (bf.j0 (k + 1) y0 y1)) ∧ (∀ y0 y1 y2 y3, LeO (bf.l0 k y0 y1 y2 y3) (bf.l0 (k + 1) y0 y1 y2 y3)) ∧ (∀ y0 y1 y2 y3 y4 y5 y6 y7 y8 y9 y10 y11 y12 y13, LeO (bf.l1 k y0 y1 y2 y3 y4 y5 y6 y7 y8 y9 y10 y11 y12 y13) (bf.l1 (k + 1) y0 y1 y2 y3 y4 y5 y6 y7 y8 y9 y10 y11 y12 y13))
 | 0 => ⟨fun _ _ r h => by simp [bf.j0] at h, fun _ _ _ _ r h => by simp [bf.l0] at h, fun _ _ _ _ _ _ _ _ _ _ _ _ _ _ r h => by simp [bf.l1] at h⟩
 | k + 1 => by
  obtain ⟨ih0, ih1, ih2⟩ := bf.mono_l k
  refine ⟨?_, ?_, ?_⟩
  ·intro y0 y1
   unfold bf.j0
   repeat' first
   | (with_reducible exact ih0 _ _)
   | (with_reducible exact ih1 _ _ _ _)
   | (with_reducible exact ih2 _ _ _ _ _ _ _ _ _ _ _ _ _ _)
   | (with_reducible exact bu.mono _ _)
   | (with_reducible exact bC.mono _ _ _)
   | (with_reducible exact bJ.mono _ _ _)
   | (with_reducible exact bg.mono _ _ _ _ _ _)
   | (with_reducible exact aW.mono _ _ _)
   | (with_reducible exact LeO.refl _)
   | (with_reducible exact LeO.none _)
   | (with_reducible refine LeO.ite ?_ ?_)
   | (with_reducible refine LeO.bind ?_ (fun _ => ?_))
   | exact ih0 _ _
   | exact ih1 _ _ _ _
   | exact ih2 _ _ _ _ _ _ _ _ _ _ _ _ _ _
   | exact bu.mono _ _
   | exact bC.mono _ _ _
   | exact bJ.mono _ _ _
   | exact bg.mono _ _ _ _ _ _
   | exact aW.mono _ _ _
   | exact LeO.none _
   | refine LeO.ite ?_ ?_
   | refine LeO.bind ?_ (fun _ => ?_)
  ·intro y0 y1 y2 y3
   unfold bf.l0
   repeat' first
   | (with_reducible exact ih0 _ _)
   | (with_reducible exact ih1 _ _ _ _)
   | (with_reducible exact ih2 _ _ _ _ _ _ _ _ _ _ _ _ _ _)
   | (with_reducible exact bu.mono _ _)
   | (with_reducible exact bC.mono _ _ _)
   | (with_reducible exact bJ.mono _ _ _)
   | (with_reducible exact bg.mono _ _ _ _ _ _)
   | (with_reducible exact aW.mono _ _ _)
   | (with_reducible exact LeO.refl _)
   | (with_reducible exact LeO.none _)
   | (with_reducible refine LeO.ite ?_ ?_)
   | (with_reducible refine LeO.bind ?_ (fun _ => ?_))
   | exact ih0 _ _
   | exact ih1 _ _ _ _
   | exact ih2 _ _ _ _ _ _ _ _ _ _ _ _ _ _
   | exact bu.mono _ _
   | exact bC.mono _ _ _
   | exact bJ.mono _ _ _
   | exact bg.mono _ _ _ _ _ _
   | exact aW.mono _ _ _
   | exact LeO.none _
   | refine LeO.ite ?_ ?_
   | refine LeO.bind ?_ (fun _ => ?_)
  intro y0 y1 y2 y3 y4 y5 y6 y7 y8 y9 y10 y11 y12 y13
  unfold bf.l1
  repeat' first
  | (with_reducible exact ih0 _ _)
  | (with_reducible exact ih1 _ _ _ _)
  | (with_reducible exact ih2 _ _ _ _ _ _ _ _ _ _ _ _ _ _)
  | (with_reducible exact bu.mono _ _)
  | (with_reducible exact bC.mono _ _ _)
  | (with_reducible exact bJ.mono _ _ _)
  | (with_reducible exact bg.mono _ _ _ _ _ _)
  | (with_reducible exact aW.mono _ _ _)
  | (with_reducible exact LeO.refl _)
  | (with_reducible exact LeO.none _)
  | (with_reducible refine LeO.ite ?_ ?_)
  | (with_reducible refine LeO.bind ?_ (fun _ => ?_))
  | exact ih0 _ _
  | exact ih1 _ _ _ _
  | exact ih2 _ _ _ _ _ _ _ _ _ _ _ _ _ _
  | exact bu.mono _ _
  | exact bC.mono _ _ _
  | exact bJ.mono _ _ _
  | exact bg.mono _ _ _ _ _ _
  | exact aW.mono _ _ _
  | exact LeO.none _
  | refine LeO.ite ?_ ?_
  | refine LeO.bind ?_ (fun _ => ?_)
theorem bf.mono : ∀ a0 k, LeO (bf.f k a0) (bf.f (k + 1) a0) := by
 intro a0 k
 obtain ⟨ih0, ih1, ih2⟩ := bf.mono_l k
 unfold bf.f
 repeat' first
  | (with_reducible exact ih0 _ _)
  | (with_reducible exact ih1 _ _ _ _)
  | (with_reducible exact ih2 _ _ _ _ _ _ _ _ _ _ _ _ _ _)
  | (with_reducible exact bu.mono _ _)
  | (with_reducible exact bC.mono _ _ _)
  | (with_reducible exact bJ.mono _ _ _)
  | (with_reducible exact bg.mono _ _ _ _ _ _)
  | (with_reducible exact aW.mono _ _ _)
  | (with_reducible exact LeO.refl _)
  | (with_reducible exact LeO.none _)
  | (with_reducible refine LeO.ite ?_ ?_)
  | (with_reducible refine LeO.bind ?_ (fun _ => ?_))
  | exact ih0 _ _
  | exact ih1 _ _ _ _
  | exact ih2 _ _ _ _ _ _ _ _ _ _ _ _ _ _
  | exact bu.mono _ _
  | exact bC.mono _ _ _
  | exact bJ.mono _ _ _
  | exact bg.mono _ _ _ _ _ _
  | exact aW.mono _ _ _
  | exact LeO.none _
  | refine LeO.ite ?_ ?_
  | refine LeO.bind ?_ (fun _ => ?_)
set_option maxHeartbeats 8000000 in
set_option maxRecDepth 100000 in
theorem bf.calls (k : Nat) (A0 : Option Addr) (c0 : Nat) (l0 : List (S41)) (r1 : Int) (r2 : Int) (w : World) (hr0 : Kd.C k41 w A0 l0.length l0) (hc0 : l0.length ≤ c0) (h : bf.f k l0 = some (r1, r2)) :
 Calls Try.prog 10 #[.slice A0 l0.length c0] w fun e w' => e = .returned (.tuple #[.int .i64 r1, .int .i64 r2]) ∧ Below w.heap.size w w' := by
 have hu41 := Try.underlying41
 have HR0 := Aside0.mk hr0
 have HC0 := Aside0.mk hc0
 clear hr0 hc0
 have HB := Aside0.mk (Below.refl w.heap.size w)
 have H : (if (l0.length : Int) > 2000 then (some (3, 0)) else (if (l0.length : Int) = 0 then (bf.j0 k l0 true) else ((bC.f k l0 0).bind fun t164 => (bf.j0 k l0 (t164 != (l0.length : Int)))))) = some (r1, r2) := h
 clear h
 by_cases c2 : (l0.length : Int) > 2000
 ·rw [if_pos c2] at H
  have c2b0 : decide (2000 < (l0.length : Int)) = true := decide_eq_true c2
  have c2b1 : decide (2000 < l0.length) = true := decide_eq_true (by omega)
  clear c2
  simp only [Option.some.injEq, Prod.mk.injEq] at H
  obtain ⟨rfl, rfl⟩ := H
  go_enter Try.func10, Try.ntmps10
  go_wp2
  go_ret2
  exact ⟨Z5, Z4⟩
 rw [if_neg c2] at H
 have c2b0 : decide (2000 < (l0.length : Int)) = false := decide_eq_false c2
 have c2b1 : decide (2000 < l0.length) = false := decide_eq_false (by omega)
 clear c2
 have HC3 := Aside0.mk H
 clear H
 go_enter Try.func10, Try.ntmps10
 go_upto_region 3 with (fail)
 go_cut [13] (fun v13 wc => ∃ (kq : Nat) (x13_2 : Bool), v13 = .bool x13_2 ∧ Aside0 (bf.j0 kq l0 x13_2 = some (r1, r2)) ∧ Aside0 (kq ≤ k) ∧ Aside0 (Below w.heap.size w wc))
 case first =>
  have H := HC3.out
  clear HC3
  by_cases c4 : (l0.length : Int) = 0
  ·rw [if_pos c4] at H
   have c4b0 : ((l0.length : Int) == 0) = true := beq_iff_eq.mpr c4
   have c4b1 : ((l0.length : Int) != 0) = false := bne_eq_false_iff_eq.mpr c4
   clear c4
   (first | rw [c4b0] | (simp only [aC, aG]; rw [c4b0]) | skip)
   have H' := Aside0.mk H
   clear H
   go_wp2
   go_meet
   case rel => exact ⟨_, (true), Z7, H', ⟨Z35⟩, ⟨Z4⟩⟩
  rw [if_neg c4] at H
  have c4b0 : ((l0.length : Int) == 0) = false := beq_eq_false_iff_ne.mpr c4
  have c4b1 : ((l0.length : Int) != 0) = true := bne_iff_ne.mpr c4
  have c4b2 : ¬ (l0 = []) := fun h_ => c4 (by rw [h_]; rfl)
  (first | rw [c4b0] | (simp only [aC, aG]; rw [c4b0]) | skip)
  replace H := Option.bind_eq_some_iff.mp H
  obtain ⟨t164, A50, H⟩ := H
  replace H : (bf.j0 k l0 (t164 != (l0.length : Int))) = some (r1, r2) := H
  have A5 := Aside0.mk A50
  clear A50
  have H' := Aside0.mk H
  clear H
  go_wp2_with (first | (go_at_call 17; (with_reducible refine (bC.calls k _ _ l0 0 t164 _ ?side1 ?side2 A5.out).mono ?_); (case side1 => exact Z40); (case side2 => exact HC0.out); rintro e w' ⟨rfl, ⟨nd, rfl⟩⟩))
  go_meet
  case rel => exact ⟨_, ((t164 != (l0.length : Int))), Z7, H', ⟨Z35⟩, ⟨Z4⟩⟩
 case rest =>
  clear HC3
  try clear c1
  try clear c2
  try clear c2b0
  try clear c2b1
  try clear p2
  try clear c4
  try clear c4b0
  try clear c4b1
  try clear c4b2
  obtain ⟨kq, x13_2, rfl, HA, HJ2, HB⟩ := hcut
  cases kq with
  | zero => exact absurd HA.out (by simp [bf.j0])
  | succ kj2 =>
   have H := HA.out
   clear HA
   simp only [bf.j0] at H
   by_cases c6 : x13_2 = true
   ·subst c6
    have H1 : (some (2, 0)) = some (r1, r2) := by rw [if_pos rfl] at H; exact H
    clear H
    have H := H1
    clear H1
    simp only [Option.some.injEq, Prod.mk.injEq] at H
    obtain ⟨rfl, rfl⟩ := H
    go_wp2
    go_ret2
    exact ⟨Z5, Z4⟩
   replace c6 := Bool.eq_false_iff.mpr c6
   subst c6
   rw [if_neg (show ¬ (false = true) by decide)] at H
   have H1 := H
   clear H
   have H := H1
   clear H1
   replace H := Option.bind_eq_some_iff.mp H
   obtain ⟨t165, A70, H⟩ := H
   try dsimp only at H
   have A7 := Aside0.mk A70
   clear A70
   by_cases c8 : t165 > 60
   ·rw [if_pos c8] at H
    have c8b0 : decide (60 < t165) = true := decide_eq_true c8
    clear c8
    simp only [Option.some.injEq, Prod.mk.injEq] at H
    obtain ⟨rfl, rfl⟩ := H
    go_wp2_with (first | ((with_reducible refine gate_callee (f := 18) rfl ?_); refine goesL_ (some 26) rfl rfl Try.func18 (by kernel_rfl) rfl #[.slice A0 l0.length c0] rfl Z3 ?_; (with_reducible refine (bu.calls kj2 _ _ l0 t165 _ ?side1 ?side2 A7.out).mono ?_); (case side1 => exact Z40); (case side2 => exact HC0.out); rintro e w9 ⟨rfl, hb⟩; refine ⟨_, rfl, ?_⟩; have n0_ := Aside0.mk (below_step Z4 hb); clear HB; have HB := n0_; clear n0_; (try clear hb)))
    go_ret2
    exact ⟨Z5, Z4⟩
   rw [if_neg c8] at H
   have c8b0 : decide (60 < t165) = false := decide_eq_false c8
   clear c8
   by_cases c10 : 0 < (l0.length : Int)
   ·rw [if_pos c10] at H
    have c10b0 : decide (0 < (l0.length : Int)) = true := decide_eq_true c10
    have c10b1 : decide (0 < l0.length) = true := decide_eq_true (by omega)
    clear c10
    by_cases c11 : ((ax l0 0).f0) = 1
    ·rw [if_pos c11] at H
     have c11b0 : (((ax l0 0).f0) == 1) = true := beq_iff_eq.mpr c11
     have c11b1 : (((ax l0 0).f0) != 1) = false := bne_eq_false_iff_eq.mpr c11
     clear c11
     have H' := Aside0.mk H
     clear H
     go_wp2_with (first | ((with_reducible refine gate_callee (f := 18) rfl ?_); refine goesL_ (some 26) rfl rfl Try.func18 (by kernel_rfl) rfl #[.slice A0 l0.length c0] rfl Z3 ?_; (with_reducible refine (bu.calls kj2 _ _ l0 t165 _ ?side1 ?side2 A7.out).mono ?_); (case side1 => exact Z40); (case side2 => exact HC0.out); rintro e w12 ⟨rfl, hb⟩; refine ⟨_, rfl, ?_⟩; have n0_ := Aside0.mk (below_step Z4 hb); clear HB; have HB := n0_; clear n0_; (try clear hb); have p166 : 0 ≤ (0 : Int) := (by omega); have q166 : 0 < (l0.length : Int) := of_decide_eq_true Z8; obtain ⟨ad166, e166, hx166_0, hx166_1, hx166_2, hx166_3, hx166_4⟩ := iq HR0.out 0 p166 q166; cases e166; have qi166 : (0 < l0.length) = True := eq_true (by omega); (try rw [show ((0 : Int)).toNat = 0 from rfl] at hx166_0); (try rw [show 0 * 5 = 0 from rfl] at hx166_0); (try rw [Addr.add_zero'] at hx166_0); (try rw [show ((0 : Int)).toNat = 0 from rfl] at hx166_1); (try rw [show 0 * 5 = 0 from rfl] at hx166_1); (try rw [Addr.add_zero'] at hx166_1); (try rw [show ((0 : Int)).toNat = 0 from rfl] at hx166_2); (try rw [show 0 * 5 = 0 from rfl] at hx166_2); (try rw [Addr.add_zero'] at hx166_2); (try rw [show ((0 : Int)).toNat = 0 from rfl] at hx166_3); (try rw [show 0 * 5 = 0 from rfl] at hx166_3); (try rw [Addr.add_zero'] at hx166_3); (try rw [show ((0 : Int)).toNat = 0 from rfl] at hx166_4); (try rw [show 0 * 5 = 0 from rfl] at hx166_4); (try rw [Addr.add_zero'] at hx166_4); replace hx166_0 := (HB.out.cell (World.block_lt_of_cell? w _ hx166_0)).trans hx166_0; replace hx166_1 := (HB.out.cell (World.block_lt_of_cell? w _ hx166_1)).trans hx166_1; replace hx166_2 := (HB.out.cell (World.block_lt_of_cell? w _ hx166_2)).trans hx166_2; replace hx166_3 := (HB.out.cell (World.block_lt_of_cell? w _ hx166_3)).trans hx166_3; replace hx166_4 := (HB.out.cell (World.block_lt_of_cell? w _ hx166_4)).trans hx166_4; replace p166 := eq_true p166; replace q166 := eq_true q166))
     go_loopg [36] kj2 (fun kq v36 w' => ∃ (x36_2 : Int), v36 = .int .i64 x36_2 ∧ Aside0 (bf.l0 kq l0 l0 (l0.length : Int) x36_2 = some (r1, r2)) ∧ Aside0 (kq ≤ kj2) ∧ Aside0 (Below w.heap.size w w'))
     case atStart => exact ⟨(0), Z7, H', ⟨Nat.le_refl _⟩, ⟨Z4⟩⟩
     case round =>
      clear H'
      try clear c1
      try clear p1
      try clear q1
      try clear hx1
      try clear qi1
      try clear c2
      try clear c2b0
      try clear c2b1
      try clear p2
      try clear c4
      try clear c4b0
      try clear c4b1
      try clear c4b2
      try clear c6
      try clear c8
      try clear c8b0
      try clear c10
      try clear c10b0
      try clear c10b1
      try clear c11
      try clear c11b0
      try clear c11b1
      try clear hx166_0
      try clear hx166_1
      try clear hx166_2
      try clear hx166_3
      try clear hx166_4
      try clear p166
      try clear p2
      try clear q166
      obtain ⟨x36_2, rfl, HA, HK2, HB⟩ := hrel
      cases gk with
      | zero => exact absurd HA.out (by simp [bf.l0])
      | succ k2 =>
       have H := HA.out
       clear HA
       simp only [bf.l0] at H
       by_cases c13 : x36_2 < (l0.length : Int)
       ·rw [if_pos c13] at H
        have c13b0 : decide (x36_2 < (l0.length : Int)) = true := decide_eq_true c13
        clear c13
        by_cases c14 : 0 ≤ x36_2
        ·rw [if_pos c14] at H
         have c14b0 : decide (0 ≤ x36_2) = true := decide_eq_true c14
         clear c14
         by_cases c15 : x36_2 < (l0.length : Int)
         ·rw [if_pos c15] at H
          have c15b0 : decide (x36_2 < (l0.length : Int)) = true := decide_eq_true c15
          clear c15
          replace H := Option.bind_eq_some_iff.mp H
          obtain ⟨t169, A160, H⟩ := H
          try dsimp only at H
          have A16 := Aside0.mk A160
          clear A160
          have H' := Aside0.mk H
          clear H
          have p167 : 0 ≤ (x36_2 : Int) := of_decide_eq_true Z8
          have q167 : x36_2 < (l0.length : Int) := of_decide_eq_true Z8
          obtain ⟨ad167, e167, hx167_0, hx167_1, hx167_2, hx167_3, hx167_4⟩ := iq HR0.out x36_2 p167 q167
          obtain rfl : ad166 = ad167 := (by injection e167)
          replace hx167_0 := (HB.out.cell (World.block_lt_of_cell? w _ hx167_0)).trans hx167_0
          replace hx167_1 := (HB.out.cell (World.block_lt_of_cell? w _ hx167_1)).trans hx167_1
          replace hx167_2 := (HB.out.cell (World.block_lt_of_cell? w _ hx167_2)).trans hx167_2
          replace hx167_3 := (HB.out.cell (World.block_lt_of_cell? w _ hx167_3)).trans hx167_3
          replace hx167_4 := (HB.out.cell (World.block_lt_of_cell? w _ hx167_4)).trans hx167_4
          replace p167 := eq_true p167
          replace q167 := eq_true q167
          go_wp2_with (first | ((with_reducible refine bP (N := 5) rfl ?_); (try (refine qw (by rfl) ?_; dsimp only)); refine bT ?hg (N := 5) ?hd (cs := #[.int .i64 0, .int .i64 0, .string (⟨#[]⟩ : ByteArray), .int .i64 0, .string (⟨#[]⟩ : ByteArray)]) (t := 41) ?hr ?_; (case hd => rfl); (case hg => rfl); (case hr => first | (go_simp; done) | (go_simp; rfl)); intro gb168 hg w17 hbox hb; have n0_ := Aside0.mk (below_step Z4 hb); have n1_ := Aside0.mk (hbox); have n2_ := Aside0.mk ((by rw [hg]; exact (below_size Z4) : w.heap.size ≤ gb168)); have n3_ := Aside0.mk ((by rw [hg]; exact (below_size Z4) : w.heap.size ≤ gb168)); clear HB; have HB := n0_; have BK168 := n1_; have GW168 := n2_; have GE168 := n3_; clear n0_ n1_ n2_ n3_; clear hb hbox hg; have hcz18_0 : w17.cell? ⟨gb168, 0, none⟩ = some (.int .i64 0) := (ag BK168.out 0).trans rfl; have hcz18_1 : w17.cell? ⟨gb168, 1, none⟩ = some (.int .i64 0) := (ag BK168.out 1).trans rfl; have hcz18_2 : w17.cell? ⟨gb168, 2, none⟩ = some (.string (⟨#[]⟩ : ByteArray)) := (ag BK168.out 2).trans rfl; have hcz18_3 : w17.cell? ⟨gb168, 3, none⟩ = some (.int .i64 0) := (ag BK168.out 3).trans rfl; have hcz18_4 : w17.cell? ⟨gb168, 4, none⟩ = some (.string (⟨#[]⟩ : ByteArray)) := (ag BK168.out 4).trans rfl; have hfz18_0 := ae BK168.out 0; have hfz18_1 := ae BK168.out 1; have hfz18_2 := ae BK168.out 2; have hfz18_3 := ae BK168.out 3; have hfz18_4 := ae BK168.out 4) | ((with_reducible refine gate_callee (f := 19) rfl ?_); refine goesL_ (some 43) rfl rfl Try.func19 (by kernel_rfl) rfl #[.slice (some ad166) l0.length c0, .int .i64 x36_2] rfl Z3 ?_; (with_reducible refine (bJ.calls k2 _ _ l0 x36_2 t169 _ ?side1 ?side2 A16.out).mono ?_); (case side1 => exact Kd.C_below HR0.out Z19); (case side2 => exact HC0.out); rintro e w19 ⟨v170, rfl, ho0, hb⟩; refine ⟨_, rfl, ?_⟩; have n0_ := Aside0.mk (Kd.R_lower ho0 (below_size Z19)); have n1_ := Aside0.mk (bU (g := gb168) (o := .cells #[.int .i64 ((ax l0 x36_2).f0), .int .i64 ((ax l0 x36_2).f1), .string ((ax l0 x36_2).f2), .int .i64 ((ax l0 x36_2).f3), .string ((ax l0 x36_2).f4)] 41 (0, 0)) (by refine aZ (cs := #[.int .i64 ((ax l0 x36_2).f0), .int .i64 ((ax l0 x36_2).f1), .string ((ax l0 x36_2).f2), .int .i64 ((ax l0 x36_2).f3), .string (⟨#[]⟩ : ByteArray)]) ?_ 4 _ rfl; refine aZ (cs := #[.int .i64 ((ax l0 x36_2).f0), .int .i64 ((ax l0 x36_2).f1), .string ((ax l0 x36_2).f2), .int .i64 0, .string (⟨#[]⟩ : ByteArray)]) ?_ 3 _ rfl; refine aZ (cs := #[.int .i64 ((ax l0 x36_2).f0), .int .i64 ((ax l0 x36_2).f1), .string (⟨#[]⟩ : ByteArray), .int .i64 0, .string (⟨#[]⟩ : ByteArray)]) ?_ 2 _ rfl; refine aZ (cs := #[.int .i64 ((ax l0 x36_2).f0), .int .i64 0, .string (⟨#[]⟩ : ByteArray), .int .i64 0, .string (⟨#[]⟩ : ByteArray)]) ?_ 1 _ rfl; refine aZ (cs := #[.int .i64 0, .int .i64 0, .string (⟨#[]⟩ : ByteArray), .int .i64 0, .string (⟨#[]⟩ : ByteArray)]) ?_ 0 _ rfl; exact BK168.out) hb); have n2_ := Aside0.mk (below_step Z19 hb); clear BK168; clear HB; have HO171 := n0_; have BK168 := n1_; have HB := n2_; clear n0_ n1_ n2_; (try clear hb); (try clear ho0); obtain ⟨Ao20, co20, eo20⟩ := Kd.R_slice HO171.out; subst eo20))
          go_loopg [6, 45] k2 (fun kq v6 v45 w' => ∃ (x6_3 : List Int) (x45_3 : Int), v45 = .int .i64 x45_3 ∧ Aside0 (bf.l1 kq l0 x36_2 x6_3 l0 (l0.length : Int) x36_2 t169 (t169.length : Int) x45_3 ((ax l0 x36_2).f0) ((ax l0 x36_2).f1) ((ax l0 x36_2).f2) ((ax l0 x36_2).f3) ((ax l0 x36_2).f4) = some (r1, r2)) ∧ Aside0 (kq ≤ k2) ∧ Aside0 (Kd.R (Kd.int .i64) 3 w' w.heap.size (fun k_ => some k_ ≠ ((.slice Ao20 t169.length co20) : Value).ownBlock) v6 x6_3) ∧ Aside0 (Kd.R (Kd.int .i64) 3 w' w.heap.size (fun k_ => some k_ ≠ (v6 : Value).ownBlock) (.slice Ao20 t169.length co20) t169) ∧ Aside0 (w'.heap[gb168]? = some (.cells #[.int .i64 ((ax l0 x36_2).f0), .int .i64 ((ax l0 x36_2).f1), .string ((ax l0 x36_2).f2), .int .i64 ((ax l0 x36_2).f3), .string ((ax l0 x36_2).f4)] 41 (0, 0))) ∧ Aside0 (Below w.heap.size w w'))
          case atStart => exact ⟨(([] : List Int)), (0), Z7, H', ⟨Nat.le_refl _⟩, ⟨Z23⟩, ⟨by (with_reducible repeat (first | apply Kd.R_alloc | apply Kd.R_drewN | apply Kd.R_drew)); exact Kd.bi HO171.out (fun _ hk => (by simp [Value.ownBlock]))⟩, ⟨by exact BK168.out⟩, ⟨Z19⟩⟩
          case round =>
           clear H'
           try clear c1
           try clear p1
           try clear q1
           try clear hx1
           try clear qi1
           try clear c2
           try clear c2b0
           try clear c2b1
           try clear p2
           try clear c4
           try clear c4b0
           try clear c4b1
           try clear c4b2
           try clear c6
           try clear c8
           try clear c8b0
           try clear c10
           try clear c10b0
           try clear c10b1
           try clear c11
           try clear c11b0
           try clear c11b1
           try clear c13
           try clear c13b0
           try clear c14
           try clear c14b0
           try clear c15
           try clear c15b0
           try clear p16
           try clear q16
           try clear hx16
           try clear qi16
           try clear c18
           try clear c19
           try clear hcz18_0
           try clear hcz18_1
           try clear hcz18_2
           try clear hcz18_3
           try clear hcz18_4
           try clear hfz18_0
           try clear hfz18_1
           try clear hfz18_2
           try clear hfz18_3
           try clear hfz18_4
           try clear hx166_0
           try clear hx166_1
           try clear hx166_2
           try clear hx166_3
           try clear hx166_4
           try clear hx167_0
           try clear hx167_1
           try clear hx167_2
           try clear hx167_3
           try clear hx167_4
           try clear p1
           try clear p166
           try clear p167
           try clear p2
           try clear q1
           try clear q166
           try clear q167
           obtain ⟨x6_3, x45_3, rfl, HA, HK3, HO_6, HO_43, BK168, HB⟩ := hrel
           cases gk with
           | zero => exact absurd HA.out (by simp [bf.l1])
           | succ k3 =>
            have H := HA.out
            clear HA
            simp only [bf.l1] at H
            by_cases c21 : x45_3 < (t169.length : Int)
            ·rw [if_pos c21] at H
             have c21b0 : decide (x45_3 < (t169.length : Int)) = true := decide_eq_true c21
             clear c21
             by_cases c22 : 0 ≤ x45_3
             ·rw [if_pos c22] at H
              have c22b0 : decide (0 ≤ x45_3) = true := decide_eq_true c22
              clear c22
              by_cases c23 : x45_3 < (t169.length : Int)
              ·rw [if_pos c23] at H
               have c23b0 : decide (x45_3 < (t169.length : Int)) = true := decide_eq_true c23
               clear c23
               by_cases c24 : 0 ≤ (rd t169 x45_3)
               ·rw [if_pos c24] at H
                have c24b0 : decide (0 ≤ (rd t169 x45_3)) = true := decide_eq_true c24
                clear c24
                by_cases c25 : (rd t169 x45_3) < (l0.length : Int)
                ·rw [if_pos c25] at H
                 have c25b0 : decide ((rd t169 x45_3) < (l0.length : Int)) = true := decide_eq_true c25
                 clear c25
                 by_cases c26 : x6_3.length < 17592186044416
                 ·rw [if_pos c26] at H
                  have LMc26 := Aside0.mk c26
                  clear c26
                  obtain ⟨y174, hy174⟩ : ∃ y_ : List Int, y_ = (x6_3 ++ [(ax l0 (rd t169 x45_3)).f0]) := ⟨_, rfl⟩
                  replace H : (bf.l1 k3 l0 x36_2 y174 l0 (l0.length : Int) x36_2 t169 (t169.length : Int) (wrap64 (x45_3 + 1)) ((ax l0 x36_2).f0) ((ax l0 x36_2).f1) ((ax l0 x36_2).f2) ((ax l0 x36_2).f3) ((ax l0 x36_2).f4)) = some (r1, r2) := by first | (rw [hy174]; with_reducible exact H) | (have H2_ := (Option.bind_some _ _).symm.trans H; rw [hy174]; with_reducible exact H2_) | (have H2_ := (Option.bind_some _ _).symm.trans H; with_reducible exact H2_) | with_reducible exact H | (rw [hy174]; exact H) | exact H
                  have Ny174 := Aside0.mk hy174
                  clear hy174
                  have H' := Aside0.mk H
                  clear H
                  have p172 : 0 ≤ (x45_3 : Int) := of_decide_eq_true Z8
                  have q172 : x45_3 < (t169.length : Int) := of_decide_eq_true Z8
                  obtain ⟨ad172, e172, hx172_0⟩ := Kd.iR (Kd.R_reads' HO_43.out).2.2 x45_3 p172 q172
                  cases e172
                  replace p172 := eq_true p172
                  replace q172 := eq_true q172
                  have p173 : 0 ≤ ((rd t169 x45_3) : Int) := of_decide_eq_true Z8
                  have q173 : (rd t169 x45_3) < (l0.length : Int) := of_decide_eq_true Z8
                  obtain ⟨ad173, e173, hx173_0, hx173_1, hx173_2, hx173_3, hx173_4⟩ := iq HR0.out (rd t169 x45_3) p173 q173
                  obtain rfl : ad166 = ad173 := (by injection e173)
                  replace hx173_0 := (HB.out.cell (World.block_lt_of_cell? w _ hx173_0)).trans hx173_0
                  replace hx173_1 := (HB.out.cell (World.block_lt_of_cell? w _ hx173_1)).trans hx173_1
                  replace hx173_2 := (HB.out.cell (World.block_lt_of_cell? w _ hx173_2)).trans hx173_2
                  replace hx173_3 := (HB.out.cell (World.block_lt_of_cell? w _ hx173_3)).trans hx173_3
                  replace hx173_4 := (HB.out.cell (World.block_lt_of_cell? w _ hx173_4)).trans hx173_4
                  replace p173 := eq_true p173
                  replace q173 := eq_true q173
                  go_wp2_with (first | ((with_reducible refine dD (b := .append) (xs := #[.tmp 49, .tmp 55]) rfl ?_); (try (refine qw (by rfl) ?_; dsimp only)); at_builtin; refine Kd.jK (Kd.int .i64) (w0 := w) w.heap.size rfl (.tmp 49) (.tmp 55) 46 3 (.int .i64 0) 8 rfl Try.underlying46 info3 rfl (by decide) (by omega) u6 x6_3 ((ax l0 (rd t169 x45_3)).f0) [.int .i64 ((ax l0 (rd t169 x45_3)).f0)] (fun k_ => some k_ ≠ (.slice (some ad172) t169.length co20 : Value).ownBlock) (fun _ => False) rfl rfl ?aP (fun _ hk => hk.elim) ?aF ?aO ?aB ?aS ?aL ?_; (case aP => exact rfl); (case aB => exact Z19); (case aF => exact (fun k_ hk => Kd.fresh' (Kd.lT Z56) k_ hk)); (case aO => exact Z57); (case aS => exact (below_size Z19)); (case aL => have := LMc26.out; omega); intro v175 w27 ho hb hg hat; rw [← Ny174.out] at ho; have n0_ := Aside0.mk (Kd.Bv (ok := (fun _ => True)) (by (with_reducible repeat (first | apply Kd.R_alloc | apply Kd.R_drewN | apply Kd.R_drew)); exact Kd.bi HO_43.out (fun _ hk => ⟨trivial, hk⟩)) hg hat); have n1_ := Aside0.mk (iJ (g := gb168) (o := .cells #[.int .i64 ((ax l0 x36_2).f0), .int .i64 ((ax l0 x36_2).f1), .string ((ax l0 x36_2).f2), .int .i64 ((ax l0 x36_2).f3), .string ((ax l0 x36_2).f4)] 41 (0, 0)) (by exact BK168.out) hg (Kd.yw HO_6.out BK168.out (by decide))); have n2_ := Aside0.mk (hb); have n3_ := Aside0.mk (ho); clear HO_43; clear BK168; clear HB; clear HO_6; have HO_43 := n0_; have BK168 := n1_; have HB := n2_; have HO176 := n3_; clear n0_ n1_ n2_ n3_; clear ho hb hg hat))
                  go_roundg k3
                  case measure => have := HJ2.out; have := HK2.out; have := HK3.out; omega
                  case rel => exact ⟨(y174), (wrap64 (x45_3 + 1)), Z7, H', ⟨by have := HJ2.out; have := HK2.out; have := HK3.out; omega⟩, ⟨by (with_reducible repeat (first | apply Kd.R_alloc | apply Kd.R_drewN | apply Kd.R_drew)); exact HO176.out⟩, ⟨by (with_reducible repeat (first | apply Kd.R_alloc | apply Kd.R_drewN | apply Kd.R_drew)); exact Kd.bi HO_43.out (fun _ hk => hk.2)⟩, ⟨by exact BK168.out⟩, ⟨Z19⟩⟩
                 rw [if_neg c26] at H
                 exact absurd H (by simp)
                rw [if_neg c25] at H
                exact absurd H (by simp)
               rw [if_neg c24] at H
               exact absurd H (by simp)
              rw [if_neg c23] at H
              exact absurd H (by simp)
             rw [if_neg c22] at H
             exact absurd H (by simp)
            rw [if_neg c21] at H
            have c21b0 : decide (x45_3 < (t169.length : Int)) = false := decide_eq_false c21
            clear c21
            replace H := Option.bind_eq_some_iff.mp H
            obtain ⟨t177, A280, H⟩ := H
            try dsimp only at H
            have A28 := Aside0.mk A280
            clear A280
            by_cases c29 : t177 = true
            ·subst c29
             rw [if_pos rfl] at H
             have H1 := H
             clear H
             have H := H1
             clear H1
             replace H := Option.bind_eq_some_iff.mp H
             obtain ⟨t178, A300, H⟩ := H
             replace H : (if t178 = true then (bf.l0 k3 l0 l0 (l0.length : Int) (wrap64 (x36_2 + 1))) else (some (4, x36_2))) = some (r1, r2) := H
             have A30 := Aside0.mk A300
             clear A300
             by_cases c31 : t178 = true
             ·subst c31
              have H1 : (bf.l0 k3 l0 l0 (l0.length : Int) (wrap64 (x36_2 + 1))) = some (r1, r2) := by rw [if_pos rfl] at H; exact H
              clear H
              have H := H1
              clear H1
              have H' := Aside0.mk H
              clear H
              have hcz32_0 : wr.cell? ⟨gb168, 0, none⟩ = some (.int .i64 ((ax l0 x36_2).f0)) := (ag BK168.out 0).trans rfl
              have hcz32_1 : wr.cell? ⟨gb168, 1, none⟩ = some (.int .i64 ((ax l0 x36_2).f1)) := (ag BK168.out 1).trans rfl
              have hcz32_2 : wr.cell? ⟨gb168, 2, none⟩ = some (.string ((ax l0 x36_2).f2)) := (ag BK168.out 2).trans rfl
              have hcz32_3 : wr.cell? ⟨gb168, 3, none⟩ = some (.int .i64 ((ax l0 x36_2).f3)) := (ag BK168.out 3).trans rfl
              have hcz32_4 : wr.cell? ⟨gb168, 4, none⟩ = some (.string ((ax l0 x36_2).f4)) := (ag BK168.out 4).trans rfl
              have hfz32_0 := ae BK168.out 0
              have hfz32_1 := ae BK168.out 1
              have hfz32_2 := ae BK168.out 2
              have hfz32_3 := ae BK168.out 3
              have hfz32_4 := ae BK168.out 4
              go_wp2_with (first | ((with_reducible refine gate_callee (f := 20) rfl ?_); refine goesL_ (some 59) rfl rfl Try.func20 (by kernel_rfl) rfl #[.agg #[.int .i64 ((ax l0 x36_2).f0), .int .i64 ((ax l0 x36_2).f1), .string ((ax l0 x36_2).f2), .int .i64 ((ax l0 x36_2).f3), .string ((ax l0 x36_2).f4)]] rfl Z3 ?_; (with_reducible refine (bg.calls k3 ((ax l0 x36_2).f0) ((ax l0 x36_2).f1) ((ax l0 x36_2).f2) ((ax l0 x36_2).f3) ((ax l0 x36_2).f4) true _ A28.out).mono ?_); rintro e w33 ⟨rfl, hb⟩; refine ⟨_, rfl, ?_⟩; have n0_ := Aside0.mk (Kd.R_below Z57 hb); have n1_ := Aside0.mk (Kd.R_below Z56 hb); have n2_ := Aside0.mk (bU (g := gb168) (o := .cells #[.int .i64 ((ax l0 x36_2).f0), .int .i64 ((ax l0 x36_2).f1), .string ((ax l0 x36_2).f2), .int .i64 ((ax l0 x36_2).f3), .string ((ax l0 x36_2).f4)] 41 (0, 0)) (by exact BK168.out) hb); have n3_ := Aside0.mk (below_step Z19 hb); clear HO_6; clear HO_43; clear BK168; clear HB; have HO_6 := n0_; have HO_43 := n1_; have BK168 := n2_; have HB := n3_; clear n0_ n1_ n2_ n3_; (try clear hb); have hcz34_0 : w33.cell? ⟨gb168, 0, none⟩ = some (.int .i64 ((ax l0 x36_2).f0)) := (ag BK168.out 0).trans rfl; have hcz34_1 : w33.cell? ⟨gb168, 1, none⟩ = some (.int .i64 ((ax l0 x36_2).f1)) := (ag BK168.out 1).trans rfl; have hcz34_2 : w33.cell? ⟨gb168, 2, none⟩ = some (.string ((ax l0 x36_2).f2)) := (ag BK168.out 2).trans rfl; have hcz34_3 : w33.cell? ⟨gb168, 3, none⟩ = some (.int .i64 ((ax l0 x36_2).f3)) := (ag BK168.out 3).trans rfl; have hcz34_4 : w33.cell? ⟨gb168, 4, none⟩ = some (.string ((ax l0 x36_2).f4)) := (ag BK168.out 4).trans rfl; have hfz34_0 := ae BK168.out 0; have hfz34_1 := ae BK168.out 1; have hfz34_2 := ae BK168.out 2; have hfz34_3 := ae BK168.out 3; have hfz34_4 := ae BK168.out 4; obtain ⟨Ao35, co35, eo35⟩ := Kd.R_slice HO_6.out; subst eo35) | (go_at_call 21; (with_reducible refine (aW.calls k3 ((ax l0 x36_2).f0) _ _ x6_3 true _ ?side1 ?side2 A30.out).mono ?_); (case side1 => repeat (first | exact (Kd.R_reads' HO_6.out).2.2 | (with_reducible refine Kd.C_alloc ?_ _) | (with_reducible refine Kd.C_drewN ?_ _) | (with_reducible refine Kd.C_drew ?_))); (case side2 => exact (Kd.R_reads' HO_6.out).2.1); rintro e w36 ⟨rfl, hb⟩; have n0_ := Aside0.mk (Kd.R_below Z57 hb); have n1_ := Aside0.mk (Kd.R_below Z56 hb); have n2_ := Aside0.mk (bU (g := gb168) (o := .cells #[.int .i64 ((ax l0 x36_2).f0), .int .i64 ((ax l0 x36_2).f1), .string ((ax l0 x36_2).f2), .int .i64 ((ax l0 x36_2).f3), .string ((ax l0 x36_2).f4)] 41 (0, 0)) (by exact BK168.out) hb); have n3_ := Aside0.mk (below_step Z19 hb); clear HO_6; clear HO_43; clear BK168; clear HB; have HO_6 := n0_; have HO_43 := n1_; have BK168 := n2_; have HB := n3_; clear n0_ n1_ n2_ n3_; (try clear hb)))
              go_roundg k3
              case measure => have := HJ2.out; have := HK2.out; have := HK3.out; omega
              case rel => exact ⟨(wrap64 (x36_2 + 1)), Z7, H', ⟨by have := HJ2.out; have := HK2.out; have := HK3.out; omega⟩, ⟨Z19⟩⟩
             replace c31 := Bool.eq_false_iff.mpr c31
             subst c31
             have H1 : (some (4, x36_2)) = some (r1, r2) := by rw [if_neg (show ¬ (false = true) by decide)] at H; exact H
             clear H
             have H := H1
             clear H1
             simp only [Option.some.injEq, Prod.mk.injEq] at H
             obtain ⟨rfl, rfl⟩ := H
             have hcz37_0 : wr.cell? ⟨gb168, 0, none⟩ = some (.int .i64 ((ax l0 x36_2).f0)) := (ag BK168.out 0).trans rfl
             have hcz37_1 : wr.cell? ⟨gb168, 1, none⟩ = some (.int .i64 ((ax l0 x36_2).f1)) := (ag BK168.out 1).trans rfl
             have hcz37_2 : wr.cell? ⟨gb168, 2, none⟩ = some (.string ((ax l0 x36_2).f2)) := (ag BK168.out 2).trans rfl
             have hcz37_3 : wr.cell? ⟨gb168, 3, none⟩ = some (.int .i64 ((ax l0 x36_2).f3)) := (ag BK168.out 3).trans rfl
             have hcz37_4 : wr.cell? ⟨gb168, 4, none⟩ = some (.string ((ax l0 x36_2).f4)) := (ag BK168.out 4).trans rfl
             have hfz37_0 := ae BK168.out 0
             have hfz37_1 := ae BK168.out 1
             have hfz37_2 := ae BK168.out 2
             have hfz37_3 := ae BK168.out 3
             have hfz37_4 := ae BK168.out 4
             go_wp2_with (first | ((with_reducible refine gate_callee (f := 20) rfl ?_); refine goesL_ (some 59) rfl rfl Try.func20 (by kernel_rfl) rfl #[.agg #[.int .i64 ((ax l0 x36_2).f0), .int .i64 ((ax l0 x36_2).f1), .string ((ax l0 x36_2).f2), .int .i64 ((ax l0 x36_2).f3), .string ((ax l0 x36_2).f4)]] rfl Z3 ?_; (with_reducible refine (bg.calls k3 ((ax l0 x36_2).f0) ((ax l0 x36_2).f1) ((ax l0 x36_2).f2) ((ax l0 x36_2).f3) ((ax l0 x36_2).f4) true _ A28.out).mono ?_); rintro e w38 ⟨rfl, hb⟩; refine ⟨_, rfl, ?_⟩; have n0_ := Aside0.mk (Kd.R_below Z57 hb); have n1_ := Aside0.mk (Kd.R_below Z56 hb); have n2_ := Aside0.mk (bU (g := gb168) (o := .cells #[.int .i64 ((ax l0 x36_2).f0), .int .i64 ((ax l0 x36_2).f1), .string ((ax l0 x36_2).f2), .int .i64 ((ax l0 x36_2).f3), .string ((ax l0 x36_2).f4)] 41 (0, 0)) (by exact BK168.out) hb); have n3_ := Aside0.mk (below_step Z19 hb); clear HO_6; clear HO_43; clear BK168; clear HB; have HO_6 := n0_; have HO_43 := n1_; have BK168 := n2_; have HB := n3_; clear n0_ n1_ n2_ n3_; (try clear hb); have hcz39_0 : w38.cell? ⟨gb168, 0, none⟩ = some (.int .i64 ((ax l0 x36_2).f0)) := (ag BK168.out 0).trans rfl; have hcz39_1 : w38.cell? ⟨gb168, 1, none⟩ = some (.int .i64 ((ax l0 x36_2).f1)) := (ag BK168.out 1).trans rfl; have hcz39_2 : w38.cell? ⟨gb168, 2, none⟩ = some (.string ((ax l0 x36_2).f2)) := (ag BK168.out 2).trans rfl; have hcz39_3 : w38.cell? ⟨gb168, 3, none⟩ = some (.int .i64 ((ax l0 x36_2).f3)) := (ag BK168.out 3).trans rfl; have hcz39_4 : w38.cell? ⟨gb168, 4, none⟩ = some (.string ((ax l0 x36_2).f4)) := (ag BK168.out 4).trans rfl; have hfz39_0 := ae BK168.out 0; have hfz39_1 := ae BK168.out 1; have hfz39_2 := ae BK168.out 2; have hfz39_3 := ae BK168.out 3; have hfz39_4 := ae BK168.out 4; obtain ⟨Ao40, co40, eo40⟩ := Kd.R_slice HO_6.out; subst eo40) | (go_at_call 21; (with_reducible refine (aW.calls k3 ((ax l0 x36_2).f0) _ _ x6_3 false _ ?side1 ?side2 A30.out).mono ?_); (case side1 => repeat (first | exact (Kd.R_reads' HO_6.out).2.2 | (with_reducible refine Kd.C_alloc ?_ _) | (with_reducible refine Kd.C_drewN ?_ _) | (with_reducible refine Kd.C_drew ?_))); (case side2 => exact (Kd.R_reads' HO_6.out).2.1); rintro e w41 ⟨rfl, hb⟩; have n0_ := Aside0.mk (Kd.R_below Z57 hb); have n1_ := Aside0.mk (Kd.R_below Z56 hb); have n2_ := Aside0.mk (bU (g := gb168) (o := .cells #[.int .i64 ((ax l0 x36_2).f0), .int .i64 ((ax l0 x36_2).f1), .string ((ax l0 x36_2).f2), .int .i64 ((ax l0 x36_2).f3), .string ((ax l0 x36_2).f4)] 41 (0, 0)) (by exact BK168.out) hb); have n3_ := Aside0.mk (below_step Z19 hb); clear HO_6; clear HO_43; clear BK168; clear HB; have HO_6 := n0_; have HO_43 := n1_; have BK168 := n2_; have HB := n3_; clear n0_ n1_ n2_ n3_; (try clear hb)))
             go_ret2
             exact ⟨Z5, Z19⟩
            replace c29 := Bool.eq_false_iff.mpr c29
            subst c29
            have H1 : (some (4, x36_2)) = some (r1, r2) := by rw [if_neg (show ¬ (false = true) by decide)] at H; exact H
            clear H
            have H := H1
            clear H1
            simp only [Option.some.injEq, Prod.mk.injEq] at H
            obtain ⟨rfl, rfl⟩ := H
            have hcz42_0 : wr.cell? ⟨gb168, 0, none⟩ = some (.int .i64 ((ax l0 x36_2).f0)) := (ag BK168.out 0).trans rfl
            have hcz42_1 : wr.cell? ⟨gb168, 1, none⟩ = some (.int .i64 ((ax l0 x36_2).f1)) := (ag BK168.out 1).trans rfl
            have hcz42_2 : wr.cell? ⟨gb168, 2, none⟩ = some (.string ((ax l0 x36_2).f2)) := (ag BK168.out 2).trans rfl
            have hcz42_3 : wr.cell? ⟨gb168, 3, none⟩ = some (.int .i64 ((ax l0 x36_2).f3)) := (ag BK168.out 3).trans rfl
            have hcz42_4 : wr.cell? ⟨gb168, 4, none⟩ = some (.string ((ax l0 x36_2).f4)) := (ag BK168.out 4).trans rfl
            have hfz42_0 := ae BK168.out 0
            have hfz42_1 := ae BK168.out 1
            have hfz42_2 := ae BK168.out 2
            have hfz42_3 := ae BK168.out 3
            have hfz42_4 := ae BK168.out 4
            go_wp2_with (first | ((with_reducible refine gate_callee (f := 20) rfl ?_); refine goesL_ (some 59) rfl rfl Try.func20 (by kernel_rfl) rfl #[.agg #[.int .i64 ((ax l0 x36_2).f0), .int .i64 ((ax l0 x36_2).f1), .string ((ax l0 x36_2).f2), .int .i64 ((ax l0 x36_2).f3), .string ((ax l0 x36_2).f4)]] rfl Z3 ?_; (with_reducible refine (bg.calls k3 ((ax l0 x36_2).f0) ((ax l0 x36_2).f1) ((ax l0 x36_2).f2) ((ax l0 x36_2).f3) ((ax l0 x36_2).f4) false _ A28.out).mono ?_); rintro e w43 ⟨rfl, hb⟩; refine ⟨_, rfl, ?_⟩; have n0_ := Aside0.mk (Kd.R_below Z57 hb); have n1_ := Aside0.mk (Kd.R_below Z56 hb); have n2_ := Aside0.mk (bU (g := gb168) (o := .cells #[.int .i64 ((ax l0 x36_2).f0), .int .i64 ((ax l0 x36_2).f1), .string ((ax l0 x36_2).f2), .int .i64 ((ax l0 x36_2).f3), .string ((ax l0 x36_2).f4)] 41 (0, 0)) (by exact BK168.out) hb); have n3_ := Aside0.mk (below_step Z19 hb); clear HO_6; clear HO_43; clear BK168; clear HB; have HO_6 := n0_; have HO_43 := n1_; have BK168 := n2_; have HB := n3_; clear n0_ n1_ n2_ n3_; (try clear hb)))
            go_ret2
            exact ⟨Z5, Z19⟩
         rw [if_neg c15] at H
         exact absurd H (by simp)
        rw [if_neg c14] at H
        exact absurd H (by simp)
       rw [if_neg c13] at H
       have c13b0 : decide (x36_2 < (l0.length : Int)) = false := decide_eq_false c13
       clear c13
       simp only [Option.some.injEq, Prod.mk.injEq] at H
       obtain ⟨rfl, rfl⟩ := H
       go_wp2
       go_ret2
       exact ⟨Z5, Z4⟩
    rw [if_neg c11] at H
    have c11b0 : (((ax l0 0).f0) == 1) = false := beq_eq_false_iff_ne.mpr c11
    have c11b1 : (((ax l0 0).f0) != 1) = true := bne_iff_ne.mpr c11
    simp only [Option.some.injEq, Prod.mk.injEq] at H
    obtain ⟨rfl, rfl⟩ := H
    go_wp2_with (first | ((with_reducible refine gate_callee (f := 18) rfl ?_); refine goesL_ (some 26) rfl rfl Try.func18 (by kernel_rfl) rfl #[.slice A0 l0.length c0] rfl Z3 ?_; (with_reducible refine (bu.calls kj2 _ _ l0 t165 _ ?side1 ?side2 A7.out).mono ?_); (case side1 => exact Z40); (case side2 => exact HC0.out); rintro e w44 ⟨rfl, hb⟩; refine ⟨_, rfl, ?_⟩; have n0_ := Aside0.mk (below_step Z4 hb); clear HB; have HB := n0_; clear n0_; (try clear hb); have p166 : 0 ≤ (0 : Int) := (by omega); have q166 : 0 < (l0.length : Int) := of_decide_eq_true Z8; obtain ⟨ad166, e166, hx166_0, hx166_1, hx166_2, hx166_3, hx166_4⟩ := iq HR0.out 0 p166 q166; cases e166; have qi166 : (0 < l0.length) = True := eq_true (by omega); (try rw [show ((0 : Int)).toNat = 0 from rfl] at hx166_0); (try rw [show 0 * 5 = 0 from rfl] at hx166_0); (try rw [Addr.add_zero'] at hx166_0); (try rw [show ((0 : Int)).toNat = 0 from rfl] at hx166_1); (try rw [show 0 * 5 = 0 from rfl] at hx166_1); (try rw [Addr.add_zero'] at hx166_1); (try rw [show ((0 : Int)).toNat = 0 from rfl] at hx166_2); (try rw [show 0 * 5 = 0 from rfl] at hx166_2); (try rw [Addr.add_zero'] at hx166_2); (try rw [show ((0 : Int)).toNat = 0 from rfl] at hx166_3); (try rw [show 0 * 5 = 0 from rfl] at hx166_3); (try rw [Addr.add_zero'] at hx166_3); (try rw [show ((0 : Int)).toNat = 0 from rfl] at hx166_4); (try rw [show 0 * 5 = 0 from rfl] at hx166_4); (try rw [Addr.add_zero'] at hx166_4); replace hx166_0 := (HB.out.cell (World.block_lt_of_cell? w _ hx166_0)).trans hx166_0; replace hx166_1 := (HB.out.cell (World.block_lt_of_cell? w _ hx166_1)).trans hx166_1; replace hx166_2 := (HB.out.cell (World.block_lt_of_cell? w _ hx166_2)).trans hx166_2; replace hx166_3 := (HB.out.cell (World.block_lt_of_cell? w _ hx166_3)).trans hx166_3; replace hx166_4 := (HB.out.cell (World.block_lt_of_cell? w _ hx166_4)).trans hx166_4; replace p166 := eq_true p166; replace q166 := eq_true q166))
    go_ret2
    exact ⟨Z5, Z4⟩
   rw [if_neg c10] at H
   exact absurd H (by simp)
end Go.Proofs.Ytendgafpkeadhaa.Q
end
section
namespace Go.Proofs.Ytendgafpkeadhaa.Q
open Go.RowKit Go.Proofs.YtendgafpkeadhaaW.PrintWords Go.Proofs.YtendgafpkeadhaaW.PrintLast Go.Proofs.YtendgafpkeadhaaW.PrintMore
attribute [local go_sem] max2_int min2_int max_two min_two max_three min_three max_four min_four
set_option linter.unusedVariables false
set_option linter.unusedSimpArgs false
/-- A state of type 55 at block g of W; what its slices lead to came in by w0. -/
def ah (w0 W : World) (g : Nat) (f0 : List (S38)) (f1 : Int) (f2 : Bool) : Prop := ∃ A0 c0, W.heap[g]? = some (.cells #[.slice A0 f0.length c0, .int .i64 f1, .bool f2] 55 (0, 0)) ∧ w0.heap.size ≤ g ∧ Kd.C k38 w0 A0 f0.length f0
theorem ah.grown {w0 W : World} {g : Nat} {f0 : List (S38)} {f1 : Int} {f2 : Bool} {W1 : World} {row : Option Nat} (h : ah w0 W g f0 f1 f2) (hw : W.grownBy W1 row) (hne : some g ≠ row) : ah w0 W1 g f0 f1 f2 := by
 obtain ⟨A0, c0, hb, hg, hr0⟩ := h
 exact ⟨A0, c0, iJ hb hw hne, hg, hr0⟩
theorem ah.oW {w0 W : World} {g : Nat} {f0 : List (S38)} {f1 : Int} {f2 : Bool} {α : Type} {d : Kd α} {e : Nat} {base : Nat} {ok : Nat → Prop} {v : Value} {xs : List α} (h : ah w0 W g f0 f1 f2) (ho : Kd.N d e W base ok v xs) (ht : e ≠ 55) : some g ≠ v.ownBlock := by
 obtain ⟨A0, c0, hb, hg, hr0⟩ := h
 exact Kd.Ef ho hb ht
theorem ah.fresh {w0 W : World} {g : Nat} {f0 : List (S38)} {f1 : Int} {f2 : Bool} (h : ah w0 W g f0 f1 f2) : ∀ k, W.heap.size ≤ k → k ≠ g := by
 obtain ⟨A0, c0, hb, hg, hr0⟩ := h
 exact Kd.ng hb
theorem ah.kept {w0 W : World} {g : Nat} {f0 : List (S38)} {f1 : Int} {f2 : Bool} {W1 : World} {S : Nat → Prop} (h : ah w0 W g f0 f1 f2) (hk : Kept W W1 S) (hne : ¬ S g) : ah w0 W1 g f0 f1 f2 := by
 obtain ⟨A0, c0, hb, hg, hr0⟩ := h
 exact ⟨A0, c0, zH hb hk hne, hg, hr0⟩
theorem ah.below {w0 W : World} {g : Nat} {f0 : List (S38)} {f1 : Int} {f2 : Bool} {W1 : World} (h : ah w0 W g f0 f1 f2) (hw : Below W.heap.size W W1) : ah w0 W1 g f0 f1 f2 := h.grown (lI hw none) (by simp)
theorem ah.alloc {w0 W : World} {g : Nat} {f0 : List (S38)} {f1 : Int} {f2 : Bool} (h : ah w0 W g f0 f1 f2) (o : Obj) : ah w0 (W.alloc o) g f0 f1 f2 := h.below (below_alloc (Below.refl _ _) o)
theorem ah.drewN {w0 W : World} {g : Nat} {f0 : List (S38)} {f1 : Int} {f2 : Bool} (h : ah w0 W g f0 f1 f2) (m : Nat) : ah w0 (W.drewN m) g f0 f1 f2 := h
theorem ah.drew {w0 W : World} {g : Nat} {f0 : List (S38)} {f1 : Int} {f2 : Bool} (h : ah w0 W g f0 f1 f2) : ah w0 W.drew g f0 f1 f2 := h
theorem ah.at_ {w0 W : World} {g : Nat} {f0 : List (S38)} {f1 : Int} {f2 : Bool} {w' : World} {m : Nat} (hq : W.drewN m = w') (h : ah w0 W g f0 f1 f2) : ah w0 w' g f0 f1 f2 := by subst hq; exact ah.drewN h m
theorem ah.apart {w0 W : World} {g : Nat} {f0 : List (S38)} {f1 : Int} {f2 : Bool} {α : Type} {d : Kd α} {e : Nat} {base : Nat} {ok : Nat → Prop} {v : Value} {xs : List α} (h : ah w0 W g f0 f1 f2) (ho : d.R e W base ok v xs) (ht : ∀ q, q ∈ e :: d.E → q ≠ 55) : d.R e W base (fun k => ok k ∧ k ≠ g) v xs := by
 obtain ⟨A0, c0, hb, hg, hr0⟩ := h
 exact Kd.ug ho hb ht
theorem ah.own_ne {w0 W : World} {g : Nat} {f0 : List (S38)} {f1 : Int} {f2 : Bool} {α : Type} {d : Kd α} {e : Nat} {base : Nat} {ok : Nat → Prop} {v : Value} {xs : List α} (h : ah w0 W g f0 f1 f2) (ho : d.R e W base ok v xs) (ht : e ≠ 55) : some g ≠ v.ownBlock := by
 obtain ⟨A0, c0, hb, hg, hr0⟩ := h
 exact Kd.yw ho hb ht
theorem ah.fJ {w0 W : World} {g : Nat} {f0 : List (S38)} {f1 : Int} {f2 : Bool} {α : Type} {d : Kd α} {e : Nat} {base : Nat} {ok : Nat → Prop} {v : Value} {xs : List α} (h : ah w0 W g f0 f1 f2) (ho : d.S e W base ok v xs) (ht : ∀ q, q ∈ e :: d.E → q ≠ 55) : d.S e W base (fun k => ok k ∧ k ≠ g) v xs := by
 obtain ⟨A0, c0, hb, hg, hr0⟩ := h
 exact Kd.Bl ho hb ht
theorem ah.kN {w0 W : World} {g : Nat} {f0 : List (S38)} {f1 : Int} {f2 : Bool} {α : Type} {d : Kd α} {e : Nat} {base : Nat} {ok : Nat → Prop} {v : Value} {xs : List α} (h : ah w0 W g f0 f1 f2) (ho : d.S e W base ok v xs) (ht : e ≠ 55) : some g ≠ v.ownBlock := by
 obtain ⟨A0, c0, hb, hg, hr0⟩ := h
 exact Kd.Bo ho hb ht
theorem ah.lt {w0 W : World} {g : Nat} {f0 : List (S38)} {f1 : Int} {f2 : Bool} (h : ah w0 W g f0 f1 f2) : g < W.heap.size := by
 obtain ⟨A0, c0, hb, hg, hr0⟩ := h
 exact je hb
theorem ah.ge {w0 W : World} {g : Nat} {f0 : List (S38)} {f1 : Int} {f2 : Bool} (h : ah w0 W g f0 f1 f2) : w0.heap.size ≤ g := by
 obtain ⟨A0, c0, hb, hg, hr0⟩ := h
 exact hg
theorem ah.far {w0 W : World} {g : Nat} {f0 : List (S38)} {f1 : Int} {f2 : Bool} {p : Addr} (h : ah w0 W g f0 f1 f2) (hne : g ≠ p.block) (u : Value) : ah w0 (W.setCell p u) g f0 f1 f2 := by
 obtain ⟨A0, c0, hb, hg, hr0⟩ := h
 exact ⟨A0, c0, fM hb hne u, hg, hr0⟩
theorem df {W : World} {g : Nat} {A0 : Option Addr} {c0 : Nat} {f0 : List (S38)} {f1 : Int} {f2 : Bool} (h : W.heap[g]? = some (.cells #[.slice A0 f0.length c0, .int .i64 f1, .bool f2] 55 (0, 0))) : W.cell? ⟨g, 0, none⟩ = some (.slice A0 f0.length c0) := (ag h 0).trans rfl
theorem cZ {W : World} {g : Nat} {A0 : Option Addr} {c0 : Nat} {f0 : List (S38)} {f1 : Int} {f2 : Bool} (h : W.heap[g]? = some (.cells #[.slice A0 f0.length c0, .int .i64 f1, .bool f2] 55 (0, 0))) : W.cell? ⟨g, 1, none⟩ = some (.int .i64 f1) := (ag h 1).trans rfl
theorem ah.mG {w0 W : World} {g : Nat} {f0 : List (S38)} {f1 : Int} {f2 : Bool} (h : ah w0 W g f0 f1 f2) (x : Int) : ah w0 (W.setCell ⟨g, 1, none⟩ (.int .i64 x)) g f0 x f2 := by
 obtain ⟨A0, c0, hb, hg, hr0⟩ := h
 exact ⟨A0, c0, by simpa using tX hb 1 (.int .i64 x), hg, hr0⟩
theorem cO {W : World} {g : Nat} {A0 : Option Addr} {c0 : Nat} {f0 : List (S38)} {f1 : Int} {f2 : Bool} (h : W.heap[g]? = some (.cells #[.slice A0 f0.length c0, .int .i64 f1, .bool f2] 55 (0, 0))) : W.cell? ⟨g, 2, none⟩ = some (.bool f2) := (ag h 2).trans rfl
theorem ah.mF {w0 W : World} {g : Nat} {f0 : List (S38)} {f1 : Int} {f2 : Bool} (h : ah w0 W g f0 f1 f2) (x : Bool) : ah w0 (W.setCell ⟨g, 2, none⟩ (.bool x)) g f0 f1 x := by
 obtain ⟨A0, c0, hb, hg, hr0⟩ := h
 exact ⟨A0, c0, by simpa using tX hb 2 (.bool x), hg, hr0⟩
theorem ah.qY {w0 W : World} {g : Nat} {f0 : List (S38)} {f1 : Int} {f2 : Bool} {b j : Nat} {u : Value} (h : ah w0 W g f0 f1 f2) (hne : g ≠ b) : ah w0 (W.setCell ⟨b, j, none⟩ u) g f0 f1 f2 := ah.far h (p := ⟨b, j, none⟩) hne u
theorem ik (a : Int) (b : ByteArray) (c d : Int) (w : World) : (Instr.field 38 (.agg #[.int .i64 a, .string b, .int .i64 c, .int .i64 d]) 0).run Try.prog w = .ok (.int .i64 a) w := by kernel_rfl
theorem ig (a : Int) (b : ByteArray) (c d : Int) (w : World) : (Instr.field 38 (.agg #[.int .i64 a, .string b, .int .i64 c, .int .i64 d]) 1).run Try.prog w = .ok (.string b) w := by kernel_rfl
theorem gZ (a : Int) (b : ByteArray) (c d : Int) (w : World) : (Instr.field 38 (.agg #[.int .i64 a, .string b, .int .i64 c, .int .i64 d]) 2).run Try.prog w = .ok (.int .i64 c) w := by kernel_rfl
theorem gY (a : Int) (b : ByteArray) (c d : Int) (w : World) : (Instr.field 38 (.agg #[.int .i64 a, .string b, .int .i64 c, .int .i64 d]) 3).run Try.prog w = .ok (.int .i64 d) w := by kernel_rfl
end Go.Proofs.Ytendgafpkeadhaa.Q
end
section
set_option linter.unusedVariables false
set_option linter.unusedSimpArgs false
namespace Go.Proofs.Ytendgafpkeadhaa.Q
open Go.RowKit Go.Proofs.YtendgafpkeadhaaW.PrintWords Go.Proofs.YtendgafpkeadhaaW.PrintLast Go.Proofs.YtendgafpkeadhaaW.PrintMore
structure Fam where
 expr : List S38 → Int → Bool → Option (List S41 × Int × Bool)
 block : List S38 → Int → Bool → Option (List S41 × Int × Bool)
 bound : List S38 → Int → Bool → Int → Option (List S41 × Int × Bool)
 unary : List S38 → Int → Bool → Option (List S41 × Int × Bool)
/-- What a call of the reader's does: nodes are made, the reader goes on. -/
def Reads (f : Nat) (args : Array Value) (g : Nat) (s0 : List S38) (r1 : List S41) (r2 : Int) (r3 : Bool) (w0 w : World) : Prop :=
 Calls Try.prog f (#[.pointer (some ⟨g, 0, none⟩)] ++ args) w fun e w' => ∃ v0_ : Value, e = .returned (v0_) ∧ Kd.R k41 41 w' w.heap.size (fun _ => True) v0_ r1 ∧ ah w0 w' g s0 r2 r3 ∧ Below w0.heap.size w0 w' ∧ af w w' g none
structure jL (F : Fam) : Prop where
 expr : ∀ g s0 s1 s2 r1 r2 r3 w0 w, ah w0 w g s0 s1 s2 → Below w0.heap.size w0 w → F.expr s0 s1 s2 = some (r1, r2, r3) → Reads 77 #[] g s0 r1 r2 r3 w0 w
 block : ∀ g s0 s1 s2 r1 r2 r3 w0 w, ah w0 w g s0 s1 s2 → Below w0.heap.size w0 w → F.block s0 s1 s2 = some (r1, r2, r3) → Reads 74 #[] g s0 r1 r2 r3 w0 w
 bound : ∀ g s0 s1 s2 a1 r1 r2 r3 w0 w, ah w0 w g s0 s1 s2 → Below w0.heap.size w0 w → F.bound s0 s1 s2 a1 = some (r1, r2, r3) → Reads 80 #[.int .i64 a1] g s0 r1 r2 r3 w0 w
 unary : ∀ g s0 s1 s2 r1 r2 r3 w0 w, ah w0 w g s0 s1 s2 → Below w0.heap.size w0 w → F.unary s0 s1 s2 = some (r1, r2, r3) → Reads 82 #[] g s0 r1 r2 r3 w0 w
structure iG (F F' : Fam) : Prop where
 expr : ∀ a b c, LeO (F.expr a b c) (F'.expr a b c)
 block : ∀ a b c, LeO (F.block a b c) (F'.block a b c)
 bound : ∀ a b c d, LeO (F.bound a b c d) (F'.bound a b c d)
 unary : ∀ a b c, LeO (F.unary a b c) (F'.unary a b c)
def dI.f (F : Fam) (_k : Nat) (s0 : List S38) (s1 : Int) (s2 : Bool) : Option (List S41 × Int × Bool) := F.expr s0 s1 s2
def eQ.f (F : Fam) (_k : Nat) (s0 : List S38) (s1 : Int) (s2 : Bool) : Option (List S41 × Int × Bool) := F.block s0 s1 s2
def jc.f (F : Fam) (_k : Nat) (s0 : List S38) (s1 : Int) (s2 : Bool) (a1 : Int) : Option (List S41 × Int × Bool) := F.bound s0 s1 s2 a1
def jb.f (F : Fam) (_k : Nat) (s0 : List S38) (s1 : Int) (s2 : Bool) : Option (List S41 × Int × Bool) := F.unary s0 s1 s2
theorem dI.mono {F F' : Fam} (HLE : iG F F') (a b c) (k : Nat) : LeO (dI.f F k a b c) (dI.f F' (k + 1) a b c) := HLE.expr a b c
theorem eQ.mono {F F' : Fam} (HLE : iG F F') (a b c) (k : Nat) : LeO (eQ.f F k a b c) (eQ.f F' (k + 1) a b c) := HLE.block a b c
theorem jc.mono {F F' : Fam} (HLE : iG F F') (a b c d) (k : Nat) : LeO (jc.f F k a b c d) (jc.f F' (k + 1) a b c d) := HLE.bound a b c d
theorem jb.mono {F F' : Fam} (HLE : iG F F') (a b c) (k : Nat) : LeO (jb.f F k a b c) (jb.f F' (k + 1) a b c) := HLE.unary a b c
theorem dI.calls (F : Fam) (HF : jL F) (k : Nat) (g : Nat) (s0_0 : List S38) (s0_1 : Int) (s0_2 : Bool) (r1 : List S41) (r2 : Int) (r3 : Bool) (w0 w : World) (hI : ah w0 w g s0_0 s0_1 s0_2) (hB : Below w0.heap.size w0 w) (h : dI.f F k s0_0 s0_1 s0_2 = some (r1, r2, r3)) :
 Calls Try.prog 77 #[.pointer (some ⟨g, 0, none⟩)] w fun e w' => ∃ v0_ : Value, e = .returned (v0_) ∧ Kd.R k41 41 w' w.heap.size (fun _ => True) v0_ r1 ∧ ah w0 w' g s0_0 r2 r3 ∧ Below w0.heap.size w0 w' ∧ af w w' g none := HF.expr g s0_0 s0_1 s0_2 r1 r2 r3 w0 w hI hB h
theorem eQ.calls (F : Fam) (HF : jL F) (k : Nat) (g : Nat) (s0_0 : List S38) (s0_1 : Int) (s0_2 : Bool) (r1 : List S41) (r2 : Int) (r3 : Bool) (w0 w : World) (hI : ah w0 w g s0_0 s0_1 s0_2) (hB : Below w0.heap.size w0 w) (h : eQ.f F k s0_0 s0_1 s0_2 = some (r1, r2, r3)) :
 Calls Try.prog 74 #[.pointer (some ⟨g, 0, none⟩)] w fun e w' => ∃ v0_ : Value, e = .returned (v0_) ∧ Kd.R k41 41 w' w.heap.size (fun _ => True) v0_ r1 ∧ ah w0 w' g s0_0 r2 r3 ∧ Below w0.heap.size w0 w' ∧ af w w' g none := HF.block g s0_0 s0_1 s0_2 r1 r2 r3 w0 w hI hB h
theorem jb.calls (F : Fam) (HF : jL F) (k : Nat) (g : Nat) (s0_0 : List S38) (s0_1 : Int) (s0_2 : Bool) (r1 : List S41) (r2 : Int) (r3 : Bool) (w0 w : World) (hI : ah w0 w g s0_0 s0_1 s0_2) (hB : Below w0.heap.size w0 w) (h : jb.f F k s0_0 s0_1 s0_2 = some (r1, r2, r3)) :
 Calls Try.prog 82 #[.pointer (some ⟨g, 0, none⟩)] w fun e w' => ∃ v0_ : Value, e = .returned (v0_) ∧ Kd.R k41 41 w' w.heap.size (fun _ => True) v0_ r1 ∧ ah w0 w' g s0_0 r2 r3 ∧ Below w0.heap.size w0 w' ∧ af w w' g none := HF.unary g s0_0 s0_1 s0_2 r1 r2 r3 w0 w hI hB h
theorem jc.calls (F : Fam) (HF : jL F) (k : Nat) (g : Nat) (s0_0 : List S38) (s0_1 : Int) (s0_2 : Bool) (a1 : Int) (r1 : List S41) (r2 : Int) (r3 : Bool) (w0 w : World) (hI : ah w0 w g s0_0 s0_1 s0_2) (hB : Below w0.heap.size w0 w) (h : jc.f F k s0_0 s0_1 s0_2 a1 = some (r1, r2, r3)) :
 Calls Try.prog 80 #[.pointer (some ⟨g, 0, none⟩), .int .i64 a1] w fun e w' => ∃ v0_ : Value, e = .returned (v0_) ∧ Kd.R k41 41 w' w.heap.size (fun _ => True) v0_ r1 ∧ ah w0 w' g s0_0 r2 r3 ∧ Below w0.heap.size w0 w' ∧ af w w' g none := HF.bound g s0_0 s0_1 s0_2 a1 r1 r2 r3 w0 w hI hB h
end Go.Proofs.Ytendgafpkeadhaa.Q
end
section
set_option linter.unusedVariables false
set_option linter.unusedSimpArgs false
namespace Go.Proofs.Ytendgafpkeadhaa.Q
open Go.RowKit Go.Proofs.YtendgafpkeadhaaW.PrintWords Go.Proofs.YtendgafpkeadhaaW.PrintLast Go.Proofs.YtendgafpkeadhaaW.PrintMore
def eY.f (s0 : List S38) (s1 : Int) (s2 : Bool) : Option (Int × ByteArray × Int × Int × Bool × Int × Bool) :=
 if s2 = true then some (0, (⟨#[]⟩ : ByteArray), 0, 0, false, s1, s2) else if s1 ≥ (s0.length : Int) then some (0, (⟨#[]⟩ : ByteArray), 0, 0, false, s1, s2)
 else if 0 ≤ s1 then some ((eu s0 s1).f0, (eu s0 s1).f1, (eu s0 s1).f2, (eu s0 s1).f3, true, s1, s2) else none
set_option maxHeartbeats 8000000 in
set_option maxRecDepth 100000 in
theorem eY.calls (g : Nat) (s0_0 : List S38) (s0_1 : Int) (s0_2 : Bool) (r1 : Int) (r2 : ByteArray) (r3 : Int) (r4 : Int) (r5 : Bool) (r6 : Int) (r7 : Bool) (w0 w : World) (hI : ah w0 w g s0_0 s0_1 s0_2) (hB : Below w0.heap.size w0 w) (h : eY.f s0_0 s0_1 s0_2 = some (r1, r2, r3, r4, r5, r6, r7)) :
 Calls Try.prog 70 #[.pointer (some ⟨g, 0, none⟩)] w fun e w' => e = .returned (.tuple #[.agg #[.int .i64 r1, .string r2, .int .i64 r3, .int .i64 r4], .bool r5]) ∧ ah w0 w' g s0_0 r6 r7 ∧ Below w0.heap.size w0 w' ∧ af w w' g none := by
 have HI0 := Aside0.mk hI
 have HB := Aside0.mk hB
 clear hI hB
 unfold eY.f at h
 have HQ := Aside0.mk h
 clear h
 go_enter Try.func70, Try.ntmps70
 go_upto_region 1 with (first | ((with_reducible refine bP (N := 2) rfl ?_); refine bT ?hg (N := 2) ?hd (cs := #[.int .i64 0, .string (⟨#[]⟩ : ByteArray), .int .i64 0, .int .i64 0]) (t := 38) ?hr ?_; (case hd => rfl); (case hg => rfl); (case hr => first | (go_simp; done) | (go_simp; rfl)); intro gb hg w1 hbox hb; have HI1 := Aside0.mk (HI0.out.below hb); have HB1 := Aside0.mk (below_step HB.out hb); have HK1 := Aside0.mk (af.of_below hb g none); have BX := Aside0.mk hbox; have GB := Aside0.mk (show w.heap.size ≤ gb by rw [hg]; exact Nat.le_refl _); have GW := Aside0.mk (show w0.heap.size ≤ gb by rw [hg]; exact HB.out.size); have GN := Aside0.mk (show gb ≠ g by rw [hg]; exact HI0.out.fresh _ (Nat.le_refl _)); clear hbox hb hg))
 obtain ⟨ASz, cSz, HGz, hgz, HSz⟩ := HI1.out
 have hcz0 := df HGz
 have hcz1 := cZ HGz
 have hcz2 := cO HGz
 clear HGz hgz
 have hcb0 : w1.cell? ⟨gb, 0, none⟩ = some (.int .i64 0) := (ag BX.out 0).trans rfl
 have hcb1 : w1.cell? ⟨gb, 1, none⟩ = some (.string (⟨#[]⟩ : ByteArray)) := (ag BX.out 1).trans rfl
 have hcb2 : w1.cell? ⟨gb, 2, none⟩ = some (.int .i64 0) := (ag BX.out 2).trans rfl
 have hcb3 : w1.cell? ⟨gb, 3, none⟩ = some (.int .i64 0) := (ag BX.out 3).trans rfl
 have hfb0 := ae BX.out 0
 have hfb1 := ae BX.out 1
 have hfb2 := ae BX.out 2
 have hfb3 := ae BX.out 3
 have h := HQ.out
 clear HQ
 by_cases c1 : s0_2 = true
 ·rw [if_pos c1] at h
  subst c1
  cases h
  go_quiet (fail)
  go_wp2
  refine bodyPost_ret (mX rfl _ _ gb 38 #[.int .i64 0, .string (⟨#[]⟩ : ByteArray), .int .i64 0, .int .i64 0] (0, 0) _ rfl (by (with_reducible repeat (first | refine jY ?_ _ | refine kD ?_)); refine aZ (cs := #[.int .i64 0, .string (⟨#[]⟩ : ByteArray), .int .i64 0, .int .i64 0]) ?_ 3 _ rfl; refine aZ (cs := #[.int .i64 0, .string (⟨#[]⟩ : ByteArray), .int .i64 0, .int .i64 0]) ?_ 2 _ rfl; refine aZ (cs := #[.int .i64 0, .string (⟨#[]⟩ : ByteArray), .int .i64 0, .int .i64 0]) ?_ 1 _ rfl; refine aZ (cs := #[.int .i64 0, .string (⟨#[]⟩ : ByteArray), .int .i64 0, .int .i64 0]) ?_ 0 _ rfl; (with_reducible repeat (first | refine jY ?_ _ | refine kD ?_)); exact BX.out) Try.underlying38 rfl (by kernel_rfl)) rfl ?_
  exact ⟨rfl, Z61, Z62, Z63⟩
 have c1' : s0_2 = false := Bool.eq_false_iff.2 c1
 rw [if_neg c1] at h
 subst c1'
 clear c1
 by_cases c2 : s0_1 ≥ (s0_0.length : Int)
 ·rw [if_pos c2] at h
  cases h
  have c2b : decide ((s0_0.length : Int) ≤ s0_1) = true := decide_eq_true c2
  go_quiet (fail)
  go_wp2
  refine bodyPost_ret (mX rfl _ _ gb 38 #[.int .i64 0, .string (⟨#[]⟩ : ByteArray), .int .i64 0, .int .i64 0] (0, 0) _ rfl (by (with_reducible repeat (first | refine jY ?_ _ | refine kD ?_)); refine aZ (cs := #[.int .i64 0, .string (⟨#[]⟩ : ByteArray), .int .i64 0, .int .i64 0]) ?_ 3 _ rfl; refine aZ (cs := #[.int .i64 0, .string (⟨#[]⟩ : ByteArray), .int .i64 0, .int .i64 0]) ?_ 2 _ rfl; refine aZ (cs := #[.int .i64 0, .string (⟨#[]⟩ : ByteArray), .int .i64 0, .int .i64 0]) ?_ 1 _ rfl; refine aZ (cs := #[.int .i64 0, .string (⟨#[]⟩ : ByteArray), .int .i64 0, .int .i64 0]) ?_ 0 _ rfl; (with_reducible repeat (first | refine jY ?_ _ | refine kD ?_)); exact BX.out) Try.underlying38 rfl (by kernel_rfl)) rfl ?_
  exact ⟨rfl, Z61, Z62, Z63⟩
 rw [if_neg c2] at h
 have c2b : decide ((s0_0.length : Int) ≤ s0_1) = false := decide_eq_false c2
 by_cases c3 : 0 ≤ s0_1
 ·rw [if_pos c3] at h
  cases h
  obtain ⟨ad, ead, hx0, hx1, hx2, hx3⟩ := wJ HSz s0_1 c3 (by omega)
  cases ead
  replace hx0 := dM HB1.out hx0
  replace hx1 := dM HB1.out hx1
  replace hx2 := dM HB1.out hx2
  replace hx3 := dM HB1.out hx3
  have p3 := eq_true c3
  have q3 := eq_true (show s0_1 < (s0_0.length : Int) by omega)
  clear c2 c3
  go_quiet (fail)
  go_wp2
  go_region
  go_wp2
  refine bodyPost_ret (mX rfl _ _ gb 38 #[.int .i64 (eu s0_0 s0_1).f0, .string (eu s0_0 s0_1).f1, .int .i64 (eu s0_0 s0_1).f2, .int .i64 (eu s0_0 s0_1).f3] (0, 0) _ rfl (by (with_reducible repeat (first | refine jY ?_ _ | refine kD ?_)); refine aZ (cs := #[.int .i64 (eu s0_0 s0_1).f0, .string (eu s0_0 s0_1).f1, .int .i64 (eu s0_0 s0_1).f2, .int .i64 0]) ?_ 3 _ rfl; refine aZ (cs := #[.int .i64 (eu s0_0 s0_1).f0, .string (eu s0_0 s0_1).f1, .int .i64 0, .int .i64 0]) ?_ 2 _ rfl; refine aZ (cs := #[.int .i64 (eu s0_0 s0_1).f0, .string (⟨#[]⟩ : ByteArray), .int .i64 0, .int .i64 0]) ?_ 1 _ rfl; refine aZ (cs := #[.int .i64 0, .string (⟨#[]⟩ : ByteArray), .int .i64 0, .int .i64 0]) ?_ 0 _ rfl; (with_reducible repeat (first | refine jY ?_ _ | refine kD ?_)); exact BX.out) Try.underlying38 rfl (by kernel_rfl)) rfl ?_
  exact ⟨rfl, Z61, Z62, Z63⟩
 rw [if_neg c3] at h
 cases h
end Go.Proofs.Ytendgafpkeadhaa.Q
end
section
namespace Go.Proofs.Ytendgafpkeadhaa.Q
open Go.RowKit Go.Proofs.YtendgafpkeadhaaW.PrintWords Go.Proofs.YtendgafpkeadhaaW.PrintLast Go.Proofs.YtendgafpkeadhaaW.PrintMore
attribute [local go_sem] max2_int min2_int max_two min_two max_three min_three max_four min_four
set_option linter.unusedVariables false
set_option linter.unusedSimpArgs false
-- BY HAND: function 23 (lex_pass)
/-! ### bF: function 48 -/
mutual
def bF.j0 : Nat → ByteArray → Bool → Option (Int × Bool)
 | 0, _, _ => none
 | k + 1, x0, x18 => if x18 = true then (some (0, false)) else (bF.l0 k x0 0 (x0.size : Int) 0)
def bF.l0 : Nat → ByteArray → Int → Int → Int → Option (Int × Bool)
 | 0, _, _, _, _ => none
 | k + 1, x0, x4, x20, x21 => if x21 < x20 then (if 0 ≤ x21 then (if x21 < (x0.size : Int) then (bF.l0 k x0 (IntKind.u64.wrap ((IntKind.u64.wrap (10 * x4)) + (((bt x0 x21) - 48) % 256))) x20 (wrap64 (x21 + 1))) else (none)) else (none)) else (some (wrap64 (x4), ((x4 / 9223372036854775808) == 0)))
end
def bF.f (k : Nat) (a0 : ByteArray) : Option (Int × Bool) := if (a0.size : Int) > 19 then (bF.j0 k a0 true) else (if (a0.size : Int) > 1 then (if 0 < (a0.size : Int) then (bF.j0 k a0 ((bt a0 0) == 48)) else (none)) else (bF.j0 k a0 false))
theorem bF.mono_l : ∀ k, (∀ y0 y1, LeO (bF.j0 k y0 y1) (bF.j0 (k + 1) y0 y1)) ∧ (∀ y0 y1 y2 y3, LeO (bF.l0 k y0 y1 y2 y3) (bF.l0 (k + 1) y0 y1 y2 y3))
 | 0 => ⟨fun _ _ r h => by simp [bF.j0] at h, fun _ _ _ _ r h => by simp [bF.l0] at h⟩
 | k + 1 => by
  obtain ⟨ih0, ih1⟩ := bF.mono_l k
  refine ⟨?_, ?_⟩
  ·intro y0 y1
   unfold bF.j0
   repeat' first
   | (with_reducible exact ih0 _ _)
   | (with_reducible exact ih1 _ _ _ _)
   | (with_reducible exact LeO.refl _)
   | (with_reducible exact LeO.none _)
   | (with_reducible refine LeO.ite ?_ ?_)
   | (with_reducible refine LeO.bind ?_ (fun _ => ?_))
   | exact ih0 _ _
   | exact ih1 _ _ _ _
   | exact LeO.none _
   | refine LeO.ite ?_ ?_
   | refine LeO.bind ?_ (fun _ => ?_)
  intro y0 y1 y2 y3
  unfold bF.l0
  repeat' first
  | (with_reducible exact ih0 _ _)
  | (with_reducible exact ih1 _ _ _ _)
  | (with_reducible exact LeO.refl _)
  | (with_reducible exact LeO.none _)
  | (with_reducible refine LeO.ite ?_ ?_)
  | (with_reducible refine LeO.bind ?_ (fun _ => ?_))
  | exact ih0 _ _
  | exact ih1 _ _ _ _
  | exact LeO.none _
  | refine LeO.ite ?_ ?_
  | refine LeO.bind ?_ (fun _ => ?_)
theorem bF.mono : ∀ a0 k, LeO (bF.f k a0) (bF.f (k + 1) a0) := by
 intro a0 k
 obtain ⟨ih0, ih1⟩ := bF.mono_l k
 unfold bF.f
 repeat' first
  | (with_reducible exact ih0 _ _)
  | (with_reducible exact ih1 _ _ _ _)
  | (with_reducible exact LeO.refl _)
  | (with_reducible exact LeO.none _)
  | (with_reducible refine LeO.ite ?_ ?_)
  | (with_reducible refine LeO.bind ?_ (fun _ => ?_))
  | exact ih0 _ _
  | exact ih1 _ _ _ _
  | exact LeO.none _
  | refine LeO.ite ?_ ?_
  | refine LeO.bind ?_ (fun _ => ?_)
set_option maxHeartbeats 8000000 in
set_option maxRecDepth 100000 in
theorem bF.calls (k : Nat) (a0 : ByteArray) (r1 : Int) (r2 : Bool) (w : World) (h : bF.f k a0 = some (r1, r2)) :
 Calls Try.prog 48 #[.string a0] w fun e w' => e = .returned (.tuple #[.int .i64 r1, .bool r2]) ∧ dA w w' := by
 have H : (if (a0.size : Int) > 19 then (bF.j0 k a0 true) else (if (a0.size : Int) > 1 then (if 0 < (a0.size : Int) then (bF.j0 k a0 ((bt a0 0) == 48)) else (none)) else (bF.j0 k a0 false))) = some (r1, r2) := h
 clear h
 have HC2 := Aside0.mk H
 clear H
 go_enter Try.func48, Try.ntmps48
 go_upto_region 1 with (fail)
 go_cut [18] (fun v18 wc => ∃ (kq : Nat) (x18_1 : Bool), v18 = .bool x18_1 ∧ Aside0 (bF.j0 kq a0 x18_1 = some (r1, r2)) ∧ Aside0 (kq ≤ k) ∧ dA w wc)
 case first =>
  have H := HC2.out
  clear HC2
  by_cases c3 : (a0.size : Int) > 19
  ·rw [if_pos c3] at H
   have c3b0 : decide (19 < (a0.size : Int)) = true := decide_eq_true c3
   have c3b1 : decide (19 < a0.size) = true := decide_eq_true (by omega)
   clear c3
   (first | rw [c3b0] | (simp only [aC, aG]; rw [c3b0]) | skip)
   have H' := Aside0.mk H
   clear H
   go_wp2
   go_meet
   case rel => exact ⟨_, (true), Z7, H', ⟨Z35⟩, Z10⟩
  rw [if_neg c3] at H
  have c3b0 : decide (19 < (a0.size : Int)) = false := decide_eq_false c3
  have c3b1 : decide (19 < a0.size) = false := decide_eq_false (by omega)
  clear c3
  (first | rw [c3b0] | (simp only [aC, aG]; rw [c3b0]) | skip)
  by_cases c4 : (a0.size : Int) > 1
  ·rw [if_pos c4] at H
   have c4b0 : decide (1 < (a0.size : Int)) = true := decide_eq_true c4
   have c4b1 : decide (1 < a0.size) = true := decide_eq_true (by omega)
   clear c4
   by_cases c5 : 0 < (a0.size : Int)
   ·rw [if_pos c5] at H
    have c5b0 : decide (0 < (a0.size : Int)) = true := decide_eq_true c5
    have c5b1 : decide (0 < a0.size) = true := decide_eq_true (by omega)
    clear c5
    have H' := Aside0.mk H
    clear H
    have p6 : 0 ≤ (0 : Int) := (by omega)
    have q6 : 0 < a0.size := (by have : (0 : Int) < (a0.size : Int) := of_decide_eq_true Z8; omega)
    have hx6 : ∀ h : 0 < a0.size, ((a0[0]'h).toNat : Int) = bt a0 0 := iO a0 0
    clear p6
    have qi6 : (0 < (a0.size : Int)) = True := eq_true (of_decide_eq_true Z8)
    replace q6 := eq_true q6
    go_wp2
    go_meet
    case rel => exact ⟨_, (((bt a0 0) == 48)), Z7, H', ⟨Z35⟩, Z10⟩
   rw [if_neg c5] at H
   exact absurd H (by simp)
  rw [if_neg c4] at H
  have c4b0 : decide (1 < (a0.size : Int)) = false := decide_eq_false c4
  have c4b1 : decide (1 < a0.size) = false := decide_eq_false (by omega)
  clear c4
  have H' := Aside0.mk H
  clear H
  go_wp2
  go_meet
  case rel => exact ⟨_, (false), Z7, H', ⟨Z35⟩, Z10⟩
 case rest =>
  clear HC2
  try clear p2
  try clear c3
  try clear c3b0
  try clear c3b1
  try clear c4
  try clear c4b0
  try clear c4b1
  try clear c5
  try clear c5b0
  try clear c5b1
  try clear p6
  try clear q6
  try clear hx6
  try clear qi6
  try clear p6
  try clear q6
  obtain ⟨kq, x18_1, rfl, HA, HJ1, ⟨mc1, rfl⟩⟩ := hcut
  cases kq with
  | zero => exact absurd HA.out (by simp [bF.j0])
  | succ kj1 =>
   have H := HA.out
   clear HA
   simp only [bF.j0] at H
   by_cases c7 : x18_1 = true
   ·subst c7
    have H1 : (some (0, false)) = some (r1, r2) := by rw [if_pos rfl] at H; exact H
    clear H
    have H := H1
    clear H1
    simp only [Option.some.injEq, Prod.mk.injEq] at H
    obtain ⟨rfl, rfl⟩ := H
    go_wp2
    go_ret2
    exact ⟨Z7, Z10⟩
   replace c7 := Bool.eq_false_iff.mpr c7
   subst c7
   have H1 : (bF.l0 kj1 a0 0 (a0.size : Int) 0) = some (r1, r2) := by rw [if_neg (show ¬ (false = true) by decide)] at H; exact H
   clear H
   have H := H1
   clear H1
   have H' := Aside0.mk H
   clear H
   go_wp2
   go_loopg [4, 21] kj1 (fun kq v4 v21 w' => ∃ (x4_2 : Int) (x21_2 : Int), v4 = .int .u64 x4_2 ∧ v21 = .int .i64 x21_2 ∧ Aside0 (bF.l0 kq a0 x4_2 (a0.size : Int) x21_2 = some (r1, r2)) ∧ Aside0 (kq ≤ kj1) ∧ dA w w')
   case atStart => exact ⟨(0), (0), Z7, Z7, H', ⟨Nat.le_refl _⟩, Z10⟩
   case round =>
    clear H'
    try clear c1
    try clear p2
    try clear c3
    try clear c3b0
    try clear c3b1
    try clear c4
    try clear c4b0
    try clear c4b1
    try clear c5
    try clear c5b0
    try clear c5b1
    try clear p6
    try clear q6
    try clear hx6
    try clear qi6
    try clear c7
    try clear p2
    try clear p6
    try clear q6
    obtain ⟨x4_2, x21_2, rfl, rfl, HA, HK2, ⟨m2, rfl⟩⟩ := hrel
    cases gk with
    | zero => exact absurd HA.out (by simp [bF.l0])
    | succ k2 =>
     have H := HA.out
     clear HA
     simp only [bF.l0] at H
     by_cases c8 : x21_2 < (a0.size : Int)
     ·rw [if_pos c8] at H
      have c8b0 : decide (x21_2 < (a0.size : Int)) = true := decide_eq_true c8
      clear c8
      by_cases c9 : 0 ≤ x21_2
      ·rw [if_pos c9] at H
       have c9b0 : decide (0 ≤ x21_2) = true := decide_eq_true c9
       clear c9
       by_cases c10 : x21_2 < (a0.size : Int)
       ·rw [if_pos c10] at H
        have c10b0 : decide (x21_2 < (a0.size : Int)) = true := decide_eq_true c10
        clear c10
        have H' := Aside0.mk H
        clear H
        have p11 : 0 ≤ (x21_2 : Int) := of_decide_eq_true Z8
        have q11 : x21_2 < (a0.size : Int) := of_decide_eq_true Z8
        have hx11 := iO a0 x21_2
        replace p11 := eq_true p11
        replace q11 := eq_true q11
        go_wp2
        go_roundg k2
        case measure => have := HJ1.out; have := HK2.out; omega
        case rel => exact ⟨(IntKind.u64.wrap ((IntKind.u64.wrap (10 * x4_2)) + (((bt a0 x21_2) - 48) % 256))), (wrap64 (x21_2 + 1)), Z7, Z7, H', ⟨by have := HJ1.out; have := HK2.out; omega⟩, Z10⟩
       rw [if_neg c10] at H
       exact absurd H (by simp)
      rw [if_neg c9] at H
      exact absurd H (by simp)
     rw [if_neg c8] at H
     have c8b0 : decide (x21_2 < (a0.size : Int)) = false := decide_eq_false c8
     clear c8
     simp only [Option.some.injEq, Prod.mk.injEq] at H
     obtain ⟨rfl, rfl⟩ := H
     go_wp2
     go_ret2
     exact ⟨Z7, Z10⟩
/-! ### iH: function 69 -/
def iH.f (a0 : Int) : Option (Int × Bool) := if a0 = 110 then (some (10, true)) else (if a0 = 34 then (some (a0, true)) else (if a0 = 92 then (some (a0, true)) else (some (0, false))))
set_option maxHeartbeats 8000000 in
set_option maxRecDepth 100000 in
theorem iH.calls (a0 : Int) (r1 : Int) (r2 : Bool) (w : World) (h : iH.f a0 = some (r1, r2)) :
 Calls Try.prog 69 #[.int .u8 a0] w fun e w' => e = .returned (.tuple #[.int .u8 r1, .bool r2]) ∧ dA w w' := by
 have H : (if a0 = 110 then (some (10, true)) else (if a0 = 34 then (some (a0, true)) else (if a0 = 92 then (some (a0, true)) else (some (0, false))))) = some (r1, r2) := h
 clear h
 by_cases c2 : a0 = 110
 ·rw [if_pos c2] at H
  have c2b0 : (a0 == 110) = true := beq_iff_eq.mpr c2
  have c2b1 : (a0 != 110) = false := bne_eq_false_iff_eq.mpr c2
  clear c2
  simp only [Option.some.injEq, Prod.mk.injEq] at H
  obtain ⟨rfl, rfl⟩ := H
  go_enter Try.func69, Try.ntmps69
  go_wp2
  go_ret2
  exact ⟨Z7, Z10⟩
 rw [if_neg c2] at H
 have c2b0 : (a0 == 110) = false := beq_eq_false_iff_ne.mpr c2
 have c2b1 : (a0 != 110) = true := bne_iff_ne.mpr c2
 by_cases c3 : a0 = 34
 ·rw [if_pos c3] at H
  have c3b0 : (a0 == 34) = true := beq_iff_eq.mpr c3
  have c3b1 : (a0 != 34) = false := bne_eq_false_iff_eq.mpr c3
  clear c3
  simp only [Option.some.injEq, Prod.mk.injEq] at H
  obtain ⟨rfl, rfl⟩ := H
  go_enter Try.func69, Try.ntmps69
  go_wp2
  go_ret2
  exact ⟨Z7, Z10⟩
 rw [if_neg c3] at H
 have c3b0 : (a0 == 34) = false := beq_eq_false_iff_ne.mpr c3
 have c3b1 : (a0 != 34) = true := bne_iff_ne.mpr c3
 by_cases c4 : a0 = 92
 ·rw [if_pos c4] at H
  have c4b0 : (a0 == 92) = true := beq_iff_eq.mpr c4
  have c4b1 : (a0 != 92) = false := bne_eq_false_iff_eq.mpr c4
  clear c4
  simp only [Option.some.injEq, Prod.mk.injEq] at H
  obtain ⟨rfl, rfl⟩ := H
  go_enter Try.func69, Try.ntmps69
  go_wp2
  go_ret2
  exact ⟨Z7, Z10⟩
 rw [if_neg c4] at H
 have c4b0 : (a0 == 92) = false := beq_eq_false_iff_ne.mpr c4
 have c4b1 : (a0 != 92) = true := bne_iff_ne.mpr c4
 simp only [Option.some.injEq, Prod.mk.injEq] at H
 obtain ⟨rfl, rfl⟩ := H
 go_enter Try.func69, Try.ntmps69
 go_wp2
 go_ret2
 exact ⟨Z7, Z10⟩
end Go.Proofs.Ytendgafpkeadhaa.Q
end
