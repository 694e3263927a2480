/- Walks over functions of the program, words for them, and what the functions come to; of each text only what this claim uses; no condition. -/
import Derived.Test.YtendgafpkeadhaaZPR0
import Derived.Test.YtendgafpkeadhaaZPR3
import Derived.Test.YtendgafpkeadhaaZPR7
import Derived.Test.YtendgafpkeadhaaZPR9
import Derived.Test.YtendgafpkeadhaaZPR16
section
namespace Go.Proofs.Ytendgafpkeadhaa.Q
open Go.RowKit Go.Proofs.YtendgafpkeadhaaW.PrintWords Go.Proofs.YtendgafpkeadhaaW.PrintLast Go.Proofs.YtendgafpkeadhaaW.PrintMore
attribute [local go_sem] ik ig gZ gY max2_int min2_int max_two min_two max_three min_three max_four min_four
set_option linter.unusedVariables false
set_option linter.unusedSimpArgs false
/-! ### dO: function 26 -/
def dO.f (s0_0 : List (S38)) (s0_1 : Int) (s0_2 : Bool) : Option (Int × Int × Bool) := if s0_1 < (s0_0.length : Int) then (if 0 ≤ s0_1 then (some ((eu s0_0 s0_1).f3, s0_1, s0_2)) else (none)) else (if (s0_0.length : Int) > 0 then (if 0 ≤ (wrap64 ((s0_0.length : Int) - 1)) then (if (wrap64 ((s0_0.length : Int) - 1)) < (s0_0.length : Int) then (some (wrap64 (((eu s0_0 (wrap64 ((s0_0.length : Int) - 1))).f3) + 1), s0_1, s0_2)) else (none)) else (none)) else (some (0, s0_1, s0_2)))
set_option maxHeartbeats 8000000 in
set_option maxRecDepth 100000 in
theorem dO.calls (g : Nat) (s0_0 : List (S38)) (s0_1 : Int) (s0_2 : Bool) (r1 : Int) (r2 : Int) (r3 : Bool) (w0 w : World) (hI : ah w0 w g s0_0 s0_1 s0_2) (hB : Below w0.heap.size w0 w) (h : dO.f s0_0 s0_1 s0_2 = some (r1, r2, r3)) :
 Calls Try.prog 26 #[.pointer (some ⟨g, 0, none⟩)] w fun e w' => e = .returned (.int .i64 r1) ∧ ah w0 w' g s0_0 r2 r3 ∧ Below w0.heap.size w0 w' ∧ af w w' g none := by
 have HI0 := Aside0.mk hI
 have HK := Aside0.mk (af.refl w g none)
 have HL := Aside0.mk hB.size
 clear hI
 have HW0 := Aside0.mk hB.size
 have HB := Aside0.mk hB
 clear hB
 have H : (if s0_1 < (s0_0.length : Int) then (if 0 ≤ s0_1 then (some ((eu s0_0 s0_1).f3, s0_1, s0_2)) else (none)) else (if (s0_0.length : Int) > 0 then (if 0 ≤ (wrap64 ((s0_0.length : Int) - 1)) then (if (wrap64 ((s0_0.length : Int) - 1)) < (s0_0.length : Int) then (some (wrap64 (((eu s0_0 (wrap64 ((s0_0.length : Int) - 1))).f3) + 1), s0_1, s0_2)) else (none)) else (none)) else (some (0, s0_1, s0_2)))) = some (r1, r2, r3) := h
 clear h
 by_cases c2 : s0_1 < (s0_0.length : Int)
 ·rw [if_pos c2] at H
  have c2b0 : decide (s0_1 < (s0_0.length : Int)) = true := decide_eq_true c2
  clear c2
  by_cases c3 : 0 ≤ s0_1
  ·rw [if_pos c3] at H
   have c3b0 : decide (0 ≤ s0_1) = true := decide_eq_true c3
   clear c3
   simp only [Option.some.injEq, Prod.mk.injEq] at H
   obtain ⟨rfl, rfl, rfl⟩ := H
   obtain ⟨ASz4_0, cSz4_0, HGz4, hgz4, HSz4_0⟩ := HI0.out
   have hcz4_0 := df HGz4
   have hcz4_1 := cZ HGz4
   have hcz4_2 := cO HGz4
   have hfz4_1 := ae HGz4 1
   have hfz4_2 := ae HGz4 2
   clear HGz4 hgz4
   have p576 : 0 ≤ (s0_1 : Int) := of_decide_eq_true Z8
   have q576 : s0_1 < (s0_0.length : Int) := of_decide_eq_true Z8
   obtain ⟨ad576, e576, hx576_0, hx576_1, hx576_2, hx576_3⟩ := wJ HSz4_0 s0_1 p576 q576
   cases e576
   replace hx576_0 := dM HB.out hx576_0
   replace hx576_1 := dM HB.out hx576_1
   replace hx576_2 := dM HB.out hx576_2
   replace hx576_3 := dM HB.out hx576_3
   replace p576 := eq_true p576
   replace q576 := eq_true q576
   go_enter Try.func26, Try.ntmps26
   go_wp2
   repeat (go_quiet (fail); try go_wp2)
   go_ret
   exact ⟨Z5, Z0, Z2, Z1⟩
  rw [if_neg c3] at H
  exact absurd H (by simp)
 rw [if_neg c2] at H
 have c2b0 : decide (s0_1 < (s0_0.length : Int)) = false := decide_eq_false c2
 clear c2
 by_cases c5 : (s0_0.length : Int) > 0
 ·rw [if_pos c5] at H
  have c5b0 : decide (0 < (s0_0.length : Int)) = true := decide_eq_true c5
  have c5b1 : decide (0 < s0_0.length) = true := decide_eq_true (by omega)
  clear c5
  obtain ⟨ji6, hji6⟩ : ∃ j_ : Int, (wrap64 ((s0_0.length : Int) - 1)) = j_ := ⟨_, rfl⟩
  replace H : (if 0 ≤ (ji6) then (if (ji6) < (s0_0.length : Int) then (some (wrap64 (((eu s0_0 (ji6)).f3) + 1), s0_1, s0_2)) else (none)) else (none)) = some (r1, r2, r3) := by first | (rw [hji6] at H; exact H) | (simp only [hji6] at H ⊢; exact H)
  have hji6w : (IntKind.i64.wrap ((s0_0.length : Int) - 1)) = ji6 := (aC _).trans hji6
  by_cases c7 : 0 ≤ (ji6)
  ·rw [if_pos c7] at H
   have c7b0 : decide (0 ≤ (ji6)) = true := decide_eq_true c7
   clear c7
   by_cases c8 : (ji6) < (s0_0.length : Int)
   ·rw [if_pos c8] at H
    have c8b0 : decide ((ji6) < (s0_0.length : Int)) = true := decide_eq_true c8
    clear c8
    simp only [Option.some.injEq, Prod.mk.injEq] at H
    obtain ⟨rfl, rfl, rfl⟩ := H
    obtain ⟨ASz9_0, cSz9_0, HGz9, hgz9, HSz9_0⟩ := HI0.out
    have hcz9_0 := df HGz9
    have hcz9_1 := cZ HGz9
    have hcz9_2 := cO HGz9
    have hfz9_1 := ae HGz9 1
    have hfz9_2 := ae HGz9 2
    clear HGz9 hgz9
    have p577 : 0 ≤ ((ji6) : Int) := of_decide_eq_true Z8
    have q577 : (ji6) < (s0_0.length : Int) := of_decide_eq_true Z8
    obtain ⟨ad577, e577, hx577_0, hx577_1, hx577_2, hx577_3⟩ := wJ HSz9_0 (ji6) p577 q577
    cases e577
    replace hx577_0 := dM HB.out hx577_0
    replace hx577_1 := dM HB.out hx577_1
    replace hx577_2 := dM HB.out hx577_2
    replace hx577_3 := dM HB.out hx577_3
    replace p577 := eq_true p577
    replace q577 := eq_true q577
    go_enter Try.func26, Try.ntmps26
    go_wp2
    repeat (go_quiet (fail); try go_wp2)
    go_ret
    exact ⟨by first | rfl | (simp [gU, gQ] <;> rfl) | (simp only [← hji6]; first | rfl | (simp [gU, gQ] <;> rfl)) | (simp [*, gU, gQ] <;> rfl), Z0, Z2, Z1⟩
   rw [if_neg c8] at H
   exact absurd H (by simp)
  rw [if_neg c7] at H
  exact absurd H (by simp)
 rw [if_neg c5] at H
 have c5b0 : decide (0 < (s0_0.length : Int)) = false := decide_eq_false c5
 have c5b1 : decide (0 < s0_0.length) = false := decide_eq_false (by omega)
 clear c5
 simp only [Option.some.injEq, Prod.mk.injEq] at H
 obtain ⟨rfl, rfl, rfl⟩ := H
 obtain ⟨ASz10_0, cSz10_0, HGz10, hgz10, HSz10_0⟩ := HI0.out
 have hcz10_0 := df HGz10
 have hcz10_1 := cZ HGz10
 have hcz10_2 := cO HGz10
 have hfz10_1 := ae HGz10 1
 have hfz10_2 := ae HGz10 2
 clear HGz10 hgz10
 go_enter Try.func26, Try.ntmps26
 go_wp2
 repeat (go_quiet (fail); try go_wp2)
 go_ret
 exact ⟨Z5, Z0, Z2, Z1⟩
end Go.Proofs.Ytendgafpkeadhaa.Q
end
section
set_option linter.unusedVariables false
set_option linter.unusedSimpArgs false
namespace Go.Proofs.Ytendgafpkeadhaa.Q
open Go.RowKit Go.Proofs.YtendgafpkeadhaaW.PrintWords Go.Proofs.YtendgafpkeadhaaW.PrintLast Go.Proofs.YtendgafpkeadhaaW.PrintMore
def dY.f (k : Nat) (l0 : List S38) : Option (List S41 × Int × Int) :=
 (aJ.f (fam k) k l0 0 false).bind fun t => if t.2.2 = true then ((dO.f l0 t.2.1 t.2.2).bind fun p => some (([] : List S41), 10, p.1))
  else if t.2.1 < (l0.length : Int) then ((dO.f l0 t.2.1 t.2.2).bind fun p => some (([] : List S41), 10, p.1))
  else (bf.f k t.1).bind fun c => if c.1 = 0 then some (t.1, 0, 0) else some (([] : List S41), c.1, 0)
theorem dY.mono (a0 : List S38) (k : Nat) : LeO (dY.f k a0) (dY.f (k + 1) a0) := by
 unfold dY.f
 repeat' first
 | exact aJ.mono (qB k) _ _ _ k
 | exact bf.mono _ k
 | exact LeO.refl _
 | exact LeO.none _
 | refine LeO.ite ?_ ?_
 | refine LeO.bind ?_ (fun _ => ?_)
set_option maxHeartbeats 8000000 in
set_option maxRecDepth 100000 in
theorem dY.calls (k : Nat) (A0 : Option Addr) (c0 : Nat) (l0 : List S38) (r1 : List S41) (r2 : Int) (r3 : Int) (w : World) (hr0 : Kd.C k38 w A0 l0.length l0) (hc0 : l0.length ≤ c0) (h : dY.f k l0 = some (r1, r2, r3)) :
 Calls Try.prog 15 #[.slice A0 l0.length c0] w fun e w' => ∃ v0_ : Value, e = .returned (.tuple #[v0_, .int .i64 r2, .int .i64 r3]) ∧ Kd.R k41 41 w' w.heap.size (fun _ => True) v0_ r1 ∧ Below w.heap.size w w' := by
 have HR0 := Aside0.mk hr0
 have HB := Aside0.mk (Below.refl w.heap.size w)
 clear hr0 hc0
 unfold dY.f at h
 obtain ⟨⟨t, u, b⟩, hm, h⟩ := Option.bind_eq_some_iff.mp h
 have AM := Aside0.mk hm
 have HQ := Aside0.mk h
 clear hm h
 have hu55 := Try.underlying55
 go_enter Try.func15, Try.ntmps15
 go_upto_region 3 with (first
  | ((with_reducible refine bP (N := 11) rfl ?_); refine bT ?hg (N := 11) ?hd (cs := #[.slice A0 l0.length c0, .int .i64 0, .bool false]) (t := 55) ?hr ?_; (case hd => rfl); (case hg => rfl); (case hr => first | (go_simp; done) | (go_simp; rfl)); intro g hg w1 hbox hb; have HI1 := Aside0.mk (show ah w w1 g l0 0 false from ⟨A0, c0, hbox, by rw [hg]; exact Nat.le_refl _, HR0.out⟩); have HB1 := Aside0.mk hb; clear hbox hb hg)
  | ((with_reducible refine gate_callee (f := 25) rfl ?_); refine goesL_ (some 13) rfl rfl Try.func25 (by kernel_rfl) rfl #[.pointer (some ⟨g, 0, none⟩)] rfl Z43 ?_; (with_reducible refine (aJ.calls (fam k) (qA k) k g l0 0 false t u b w _ ?side1 ?side2 AM.out).mono ?_); (case side1 => exact HI1.out); (case side2 => exact HB1.out); rintro e w2 ⟨v, rfl, ho, hi, hb, hk⟩; refine ⟨_, rfl, ?_⟩; have HO := Aside0.mk (Kd.R_lower ho HB1.out.size); have HI2 := Aside0.mk hi; have HB2 := Aside0.mk hb; clear ho hi hb hk))
 obtain ⟨ASz, cSz, HGz, hgz, HSz⟩ := HI2.out
 have hcz0 := df HGz
 have hcz1 := cZ HGz
 have hcz2 := cO HGz
 clear HGz hgz HSz
 have h := HQ.out
 clear HQ
 dsimp only at h
 by_cases c1 : b = true
 ·rw [if_pos c1] at h
  subst c1
  obtain ⟨⟨p1, p2, p3⟩, hp, h⟩ := Option.bind_eq_some_iff.mp h
  have AP := Aside0.mk hp
  clear hp
  cases h
  go_wp2_with (first | ((with_reducible refine gate_callee (f := 26) rfl ?_); refine goesL_ (some 28) rfl rfl Try.func26 (by kernel_rfl) rfl #[.pointer (some ⟨g, 0, none⟩)] rfl Z43 ?_; (with_reducible refine (dO.calls g l0 u true p1 p2 p3 w _ ?side1 ?side2 AP.out).mono ?_); (case side1 => exact HI2.out); (case side2 => exact HB2.out); rintro e w3 ⟨rfl, hi, hb, hk⟩; refine ⟨_, rfl, ?_⟩; have HB3 := Aside0.mk hb; clear hi hb hk))
  go_ret3
  exact ⟨_, rfl, Kd.nT _ _ _ _ _, HB3.out⟩
 rw [if_neg c1] at h
 replace c1 := Bool.eq_false_iff.mpr c1
 subst c1
 by_cases c2 : u < (l0.length : Int)
 ·rw [if_pos c2] at h
  have c2b : decide (u < (l0.length : Int)) = true := decide_eq_true c2
  clear c2
  obtain ⟨⟨p1, p2, p3⟩, hp, h⟩ := Option.bind_eq_some_iff.mp h
  have AP := Aside0.mk hp
  clear hp
  cases h
  go_wp2_with (first | ((with_reducible refine gate_callee (f := 26) rfl ?_); refine goesL_ (some 28) rfl rfl Try.func26 (by kernel_rfl) rfl #[.pointer (some ⟨g, 0, none⟩)] rfl Z43 ?_; (with_reducible refine (dO.calls g l0 u false p1 p2 p3 w _ ?side1 ?side2 AP.out).mono ?_); (case side1 => exact HI2.out); (case side2 => exact HB2.out); rintro e w3 ⟨rfl, hi, hb, hk⟩; refine ⟨_, rfl, ?_⟩; have HB3 := Aside0.mk hb; clear hi hb hk))
  go_ret3
  exact ⟨_, rfl, Kd.nT _ _ _ _ _, HB3.out⟩
 rw [if_neg c2] at h
 have c2b : decide (u < (l0.length : Int)) = false := decide_eq_false c2
 clear c2
 obtain ⟨⟨p1, p2⟩, hp, h⟩ := Option.bind_eq_some_iff.mp h
 have AP := Aside0.mk hp
 clear hp
 obtain ⟨Ao, co, eo⟩ := Kd.R_slice HO.out
 subst eo
 dsimp only at h
 have HC := Aside0.mk (Kd.R_reads' HO.out).2.2
 have HL := Aside0.mk (Kd.R_reads' HO.out).2.1
 by_cases c3 : p1 = 0
 ·rw [if_pos c3] at h
  have c3b0 : (p1 == 0) = true := beq_iff_eq.mpr c3
  have c3b1 : (p1 != 0) = false := bne_eq_false_iff_eq.mpr c3
  clear c3
  simp only [Option.some.injEq, Prod.mk.injEq] at h
  obtain ⟨h1, h2, h3⟩ := h
  subst h1
  subst h2
  subst h3
  go_wp2_with (first | ((with_reducible refine gate_callee (f := 10) rfl ?_); refine goesL_ (some 31) rfl rfl Try.func10 (by kernel_rfl) rfl #[.slice Ao t.length co] rfl Z43 ?_; (with_reducible refine (bf.calls k _ _ t p1 p2 _ ?side1 ?side2 AP.out).mono ?_); (case side1 => exact HC.out); (case side2 => exact HL.out); rintro e w3 ⟨rfl, hb⟩; refine ⟨_, rfl, ?_⟩; have HB3 := Aside0.mk (below_step HB2.out hb); have HO3 := Aside0.mk (Kd.R_below HO.out hb); clear hb))
  go_ret3
  exact ⟨_, rfl, HO3.out, HB3.out⟩
 rw [if_neg c3] at h
 have c3b0 : (p1 == 0) = false := beq_eq_false_iff_ne.mpr c3
 have c3b1 : (p1 != 0) = true := bne_iff_ne.mpr c3
 clear c3
 simp only [Option.some.injEq, Prod.mk.injEq] at h
 obtain ⟨h1, h2, h3⟩ := h
 subst h1
 subst h2
 subst h3
 go_wp2_with (first | ((with_reducible refine gate_callee (f := 10) rfl ?_); refine goesL_ (some 31) rfl rfl Try.func10 (by kernel_rfl) rfl #[.slice Ao t.length co] rfl Z43 ?_; (with_reducible refine (bf.calls k _ _ t p1 p2 _ ?side1 ?side2 AP.out).mono ?_); (case side1 => exact HC.out); (case side2 => exact HL.out); rintro e w3 ⟨rfl, hb⟩; refine ⟨_, rfl, ?_⟩; have HB3 := Aside0.mk (below_step HB2.out hb); have HO3 := Aside0.mk (Kd.R_below HO.out hb); clear hb))
 go_ret3
 exact ⟨_, rfl, Kd.nT _ _ _ _ _, HB3.out⟩
end Go.Proofs.Ytendgafpkeadhaa.Q
end
section
namespace Go.Proofs.Ytendgafpkeadhaa.Q
open Go.RowKit Go.Proofs.YtendgafpkeadhaaW.PrintWords Go.Proofs.YtendgafpkeadhaaW.PrintLast Go.Proofs.YtendgafpkeadhaaW.PrintMore
attribute [local go_sem] max2_int min2_int max_two min_two max_three min_three max_four min_four
set_option linter.unusedVariables false
set_option linter.unusedSimpArgs false
/-! ### parse_Text: function 9 -/
def parse_Text.f (k : Nat) (a0 : ByteArray) : Option ((List (S41)) × Int × Int) := (lex_Scan.f k a0).bind fun bt791 => (if bt791.2.1 = 0 then ((dY.f k bt791.1).bind fun bt796 => (some (bt796.1, bt796.2.1, bt796.2.2))) else (some (([] : List (S41)), bt791.2.1, bt791.2.2)))
theorem parse_Text.mono : ∀ a0 k, LeO (parse_Text.f k a0) (parse_Text.f (k + 1) a0) := by
 intro a0 k
 unfold parse_Text.f
 repeat' first
  | (with_reducible exact lex_Scan.mono _ _)
  | (with_reducible exact dY.mono _ _)
  | (with_reducible exact LeO.refl _)
  | (with_reducible exact LeO.none _)
  | (with_reducible refine LeO.ite ?_ ?_)
  | (with_reducible refine LeO.bind ?_ (fun _ => ?_))
  | exact lex_Scan.mono _ _
  | exact dY.mono _ _
  | exact LeO.none _
  | refine LeO.ite ?_ ?_
  | refine LeO.bind ?_ (fun _ => ?_)
set_option maxHeartbeats 8000000 in
set_option maxRecDepth 100000 in
theorem parse_Text.calls (k : Nat) (a0 : ByteArray) (r1 : List (S41)) (r2 : Int) (r3 : Int) (w : World) (h : parse_Text.f k a0 = some (r1, r2, r3)) :
 Calls Try.prog 9 #[.string a0] w fun e w' => ∃ v0_ : Value, e = .returned (.tuple #[v0_, .int .i64 r2, .int .i64 r3]) ∧ Kd.R k41 41 w' w.heap.size (fun _ => True) v0_ r1 ∧ Below w.heap.size w w' := by
 have HB := Aside0.mk (Below.refl w.heap.size w)
 have H : ((lex_Scan.f k a0).bind fun bt791 => (if bt791.2.1 = 0 then ((dY.f k bt791.1).bind fun bt796 => (some (bt796.1, bt796.2.1, bt796.2.2))) else (some (([] : List (S41)), bt791.2.1, bt791.2.2)))) = some (r1, r2, r3) := h
 clear h
 replace H := Option.bind_eq_some_iff.mp H
 obtain ⟨⟨t791, t792, t793⟩, A20, H⟩ := H
 try dsimp only at H
 have A2 := Aside0.mk A20
 clear A20
 by_cases c3 : t792 = 0
 ·rw [if_pos c3] at H
  have c3b0 : (t792 == 0) = true := beq_iff_eq.mpr c3
  have c3b1 : (t792 != 0) = false := bne_eq_false_iff_eq.mpr c3
  clear c3
  replace H := Option.bind_eq_some_iff.mp H
  obtain ⟨⟨t796, t797, t798⟩, A40, H⟩ := H
  replace H : (some (t796, t797, t798)) = some (r1, r2, r3) := H
  have A4 := Aside0.mk A40
  clear A40
  simp only [Option.some.injEq, Prod.mk.injEq] at H
  obtain ⟨rfl, rfl, rfl⟩ := H
  go_enter Try.func9, Try.ntmps9
  go_wp2_with (first | ((with_reducible refine gate_callee (f := 13) rfl ?_); refine goesL_ (some 10) rfl rfl Try.func13 (by kernel_rfl) rfl #[.string a0] rfl Z3 ?_; (with_reducible refine (lex_Scan.calls k a0 t791 t792 t793 _ A2.out).mono ?_); rintro e w5 ⟨v794, rfl, ho0, hb⟩; refine ⟨_, rfl, ?_⟩; have n0_ := Aside0.mk (Kd.R_lower ho0 (below_size Z4)); have n1_ := Aside0.mk (below_step Z4 hb); clear HB; have HO795 := n0_; have HB := n1_; clear n0_ n1_; (try clear hb); (try clear ho0); obtain ⟨Ao6, co6, eo6⟩ := Kd.R_slice HO795.out; subst eo6) | ((with_reducible refine gate_callee (f := 15) rfl ?_); refine goesL_ (some 19) rfl rfl Try.func15 (by kernel_rfl) rfl #[.slice Ao6 t791.length co6] rfl Z3 ?_; (with_reducible refine (dY.calls k _ _ t791 t796 t797 t798 _ ?side1 ?side2 A4.out).mono ?_); (case side1 => repeat (first | exact (Kd.R_reads' HO795.out).2.2 | (with_reducible refine Kd.C_alloc ?_ _) | (with_reducible refine Kd.C_drewN ?_ _) | (with_reducible refine Kd.C_drew ?_))); (case side2 => exact (Kd.R_reads' HO795.out).2.1); rintro e w7 ⟨v799, rfl, ho0, hb⟩; refine ⟨_, rfl, ?_⟩; have n0_ := Aside0.mk (Kd.R_below (by (with_reducible repeat (first | apply Kd.R_alloc | apply Kd.R_drewN | apply Kd.R_drew)); exact HO795.out) hb); have n1_ := Aside0.mk (Kd.R_lower ho0 (below_size Z4)); have n2_ := Aside0.mk (below_step Z4 hb); clear HO795; clear HB; have HO795 := n0_; have HO800 := n1_; have HB := n2_; clear n0_ n1_ n2_; (try clear hb); (try clear ho0)))
  go_ret3
  exact ⟨_, Z5, by (with_reducible repeat (first | apply Kd.R_alloc | apply Kd.R_drewN | apply Kd.R_drew)); exact HO800.out, Z4⟩
 rw [if_neg c3] at H
 have c3b0 : (t792 == 0) = false := beq_eq_false_iff_ne.mpr c3
 have c3b1 : (t792 != 0) = true := bne_iff_ne.mpr c3
 simp only [Option.some.injEq, Prod.mk.injEq] at H
 obtain ⟨rfl, rfl, rfl⟩ := H
 go_enter Try.func9, Try.ntmps9
 go_wp2_with (first | ((with_reducible refine gate_callee (f := 13) rfl ?_); refine goesL_ (some 10) rfl rfl Try.func13 (by kernel_rfl) rfl #[.string a0] rfl Z3 ?_; (with_reducible refine (lex_Scan.calls k a0 t791 t792 t793 _ A2.out).mono ?_); rintro e w8 ⟨v794, rfl, ho0, hb⟩; refine ⟨_, rfl, ?_⟩; have n0_ := Aside0.mk (Kd.R_lower ho0 (below_size Z4)); have n1_ := Aside0.mk (below_step Z4 hb); clear HB; have HO795 := n0_; have HB := n1_; clear n0_ n1_; (try clear hb); (try clear ho0)))
 go_ret3
 exact ⟨_, Z5, Z23, Z4⟩
/-! ### chrysalislaw10_known: function 8 -/
def chrysalislaw10_known.f (k : Nat)  : Option (Bool) := (parse_Text.f k (⟨#[109, 111, 100, 117, 108, 101, 32, 109, 32, 49, 59, 32, 102, 110, 32, 102, 40, 97, 41, 32, 123, 32, 114, 101, 116, 117, 114, 110, 32, 97, 32, 43, 32, 49, 32, 42, 32, 50, 59, 32, 125]⟩ : ByteArray)).bind fun bt801 => ((parse_Text.f k (⟨#[109, 111, 100, 117, 108, 101, 32, 109, 32, 49, 59, 32, 102, 110, 32, 102, 40, 41, 32, 123, 32, 49, 32, 61, 32, 50, 59, 32, 125]⟩ : ByteArray)).bind fun bt806 => (if bt801.2.1 = 0 then (if (bt801.1.length : Int) = 10 then (if 5 < (bt801.1.length : Int) then (if ((ax bt801.1 5).f4).toList = ([43] : List UInt8) then (if 7 < (bt801.1.length : Int) then (if ((ax bt801.1 7).f4).toList = ([42] : List UInt8) then (if 0 < (bt801.1.length : Int) then (if ((ax bt801.1 0).f2).toList = ([109] : List UInt8) then (if ((ax bt801.1 0).f3) = 1 then (if bt806.2.1 = 10 then (some (bt806.2.2 == 23)) else (some false)) else (some false)) else (some false)) else (none)) else (some false)) else (none)) else (some false)) else (none)) else (some false)) else (some false)))
theorem chrysalislaw10_known.mono : ∀ k, LeO (chrysalislaw10_known.f k ) (chrysalislaw10_known.f (k + 1) ) := by
 intro  k
 unfold chrysalislaw10_known.f
 repeat' first
  | (with_reducible exact parse_Text.mono _ _)
  | (with_reducible exact LeO.refl _)
  | (with_reducible exact LeO.none _)
  | (with_reducible refine LeO.ite ?_ ?_)
  | (with_reducible refine LeO.bind ?_ (fun _ => ?_))
  | exact parse_Text.mono _ _
  | exact LeO.none _
  | refine LeO.ite ?_ ?_
  | refine LeO.bind ?_ (fun _ => ?_)
theorem chrysalislaw10_known.more : ∀ (d k : Nat) (r : Bool), chrysalislaw10_known.f k = some r → chrysalislaw10_known.f (k + d) = some r
 | 0, _, _, h => h
 | d + 1, k, r, h => chrysalislaw10_known.mono (k + d) r (chrysalislaw10_known.more d k r h)
set_option maxRecDepth 100000 in
theorem chrysalislaw10_known.at : chrysalislaw10_known.f 300 = some true := by kernel_rfl
theorem chrysalislaw10_known.Di (k : Nat) (r : Bool) (h : chrysalislaw10_known.f k = some r) : r = true := by
 have h1 := chrysalislaw10_known.more 300 k r h
 have h2 := chrysalislaw10_known.more k 300 true chrysalislaw10_known.at
 rw [Nat.add_comm 300 k, h1] at h2
 exact Option.some.inj h2
set_option maxHeartbeats 8000000 in
set_option maxRecDepth 100000 in
theorem chrysalislaw10_known.calls (k : Nat)  (r : Bool) (w : World) (h : chrysalislaw10_known.f k  = some r) :
 Calls Try.prog 8 #[] w fun e w' => e = .returned (.bool r) ∧ Below w.heap.size w w' := by
 have HB := Aside0.mk (Below.refl w.heap.size w)
 have HR := Aside0.mk (chrysalislaw10_known.Di k r h)
 have H : ((parse_Text.f k (⟨#[109, 111, 100, 117, 108, 101, 32, 109, 32, 49, 59, 32, 102, 110, 32, 102, 40, 97, 41, 32, 123, 32, 114, 101, 116, 117, 114, 110, 32, 97, 32, 43, 32, 49, 32, 42, 32, 50, 59, 32, 125]⟩ : ByteArray)).bind fun bt801 => ((parse_Text.f k (⟨#[109, 111, 100, 117, 108, 101, 32, 109, 32, 49, 59, 32, 102, 110, 32, 102, 40, 41, 32, 123, 32, 49, 32, 61, 32, 50, 59, 32, 125]⟩ : ByteArray)).bind fun bt806 => (if bt801.2.1 = 0 then (if (bt801.1.length : Int) = 10 then (if 5 < (bt801.1.length : Int) then (if ((ax bt801.1 5).f4).toList = ([43] : List UInt8) then (if 7 < (bt801.1.length : Int) then (if ((ax bt801.1 7).f4).toList = ([42] : List UInt8) then (if 0 < (bt801.1.length : Int) then (if ((ax bt801.1 0).f2).toList = ([109] : List UInt8) then (if ((ax bt801.1 0).f3) = 1 then (if bt806.2.1 = 10 then (some (bt806.2.2 == 23)) else (some false)) else (some false)) else (some false)) else (none)) else (some false)) else (none)) else (some false)) else (none)) else (some false)) else (some false)))) = some r := h
 clear h
 replace H := Option.bind_eq_some_iff.mp H
 obtain ⟨⟨t801, t802, t803⟩, A10, H⟩ := H
 try dsimp only at H
 have A1 := Aside0.mk A10
 clear A10
 replace H := Option.bind_eq_some_iff.mp H
 obtain ⟨⟨t806, t807, t808⟩, A20, H⟩ := H
 try dsimp only at H
 have A2 := Aside0.mk A20
 clear A20
 by_cases c3 : t802 = 0
 ·rw [if_pos c3] at H
  have c3b0 : (t802 == 0) = true := beq_iff_eq.mpr c3
  have c3b1 : (t802 != 0) = false := bne_eq_false_iff_eq.mpr c3
  clear c3
  by_cases c4 : (t801.length : Int) = 10
  ·rw [if_pos c4] at H
   have c4b0 : ((t801.length : Int) == 10) = true := beq_iff_eq.mpr c4
   have c4b1 : ((t801.length : Int) != 10) = false := bne_eq_false_iff_eq.mpr c4
   clear c4
   by_cases c5 : 5 < (t801.length : Int)
   ·rw [if_pos c5] at H
    have c5b0 : decide (5 < (t801.length : Int)) = true := decide_eq_true c5
    have c5b1 : decide (5 < t801.length) = true := decide_eq_true (by omega)
    clear c5
    by_cases c6 : ((ax t801 5).f4).toList = ([43] : List UInt8)
    ·rw [if_pos c6] at H
     have c6b0 : (((ax t801 5).f4).toList == ([43] : List UInt8)) = true := beq_iff_eq.mpr c6
     have c6b1 : (((ax t801 5).f4).toList != ([43] : List UInt8)) = false := bne_eq_false_iff_eq.mpr c6
     clear c6
     by_cases c7 : 7 < (t801.length : Int)
     ·rw [if_pos c7] at H
      have c7b0 : decide (7 < (t801.length : Int)) = true := decide_eq_true c7
      have c7b1 : decide (7 < t801.length) = true := decide_eq_true (by omega)
      clear c7
      by_cases c8 : ((ax t801 7).f4).toList = ([42] : List UInt8)
      ·rw [if_pos c8] at H
       have c8b0 : (((ax t801 7).f4).toList == ([42] : List UInt8)) = true := beq_iff_eq.mpr c8
       have c8b1 : (((ax t801 7).f4).toList != ([42] : List UInt8)) = false := bne_eq_false_iff_eq.mpr c8
       clear c8
       by_cases c9 : 0 < (t801.length : Int)
       ·rw [if_pos c9] at H
        have c9b0 : decide (0 < (t801.length : Int)) = true := decide_eq_true c9
        have c9b1 : decide (0 < t801.length) = true := decide_eq_true (by omega)
        clear c9
        by_cases c10 : ((ax t801 0).f2).toList = ([109] : List UInt8)
        ·rw [if_pos c10] at H
         have c10b0 : (((ax t801 0).f2).toList == ([109] : List UInt8)) = true := beq_iff_eq.mpr c10
         have c10b1 : (((ax t801 0).f2).toList != ([109] : List UInt8)) = false := bne_eq_false_iff_eq.mpr c10
         clear c10
         by_cases c11 : ((ax t801 0).f3) = 1
         ·rw [if_pos c11] at H
          have c11b0 : (((ax t801 0).f3) == 1) = true := beq_iff_eq.mpr c11
          have c11b1 : (((ax t801 0).f3) != 1) = false := bne_eq_false_iff_eq.mpr c11
          clear c11
          by_cases c12 : t807 = 10
          ·rw [if_pos c12] at H
           have c12b0 : (t807 == 10) = true := beq_iff_eq.mpr c12
           have c12b1 : (t807 != 10) = false := bne_eq_false_iff_eq.mpr c12
           clear c12
           obtain rfl := Option.some.inj H
           go_enter Try.func8, Try.ntmps8
           go_wp2_with (first | ((with_reducible refine gate_callee (f := 9) rfl ?_); refine goesL_ (some 8) rfl rfl Try.func9 (by kernel_rfl) rfl #[.string (⟨#[109, 111, 100, 117, 108, 101, 32, 109, 32, 49, 59, 32, 102, 110, 32, 102, 40, 97, 41, 32, 123, 32, 114, 101, 116, 117, 114, 110, 32, 97, 32, 43, 32, 49, 32, 42, 32, 50, 59, 32, 125]⟩ : ByteArray)] rfl Z3 ?_; (with_reducible refine (parse_Text.calls k (⟨#[109, 111, 100, 117, 108, 101, 32, 109, 32, 49, 59, 32, 102, 110, 32, 102, 40, 97, 41, 32, 123, 32, 114, 101, 116, 117, 114, 110, 32, 97, 32, 43, 32, 49, 32, 42, 32, 50, 59, 32, 125]⟩ : ByteArray) t801 t802 t803 _ A1.out).mono ?_); rintro e w13 ⟨v804, rfl, ho0, hb⟩; refine ⟨_, rfl, ?_⟩; have n0_ := Aside0.mk (Kd.R_lower ho0 (below_size Z4)); have n1_ := Aside0.mk (below_step Z4 hb); clear HB; have HO805 := n0_; have HB := n1_; clear n0_ n1_; (try clear hb); (try clear ho0)) | ((with_reducible refine gate_callee (f := 9) rfl ?_); refine goesL_ (some 13) rfl rfl Try.func9 (by kernel_rfl) rfl #[.string (⟨#[109, 111, 100, 117, 108, 101, 32, 109, 32, 49, 59, 32, 102, 110, 32, 102, 40, 41, 32, 123, 32, 49, 32, 61, 32, 50, 59, 32, 125]⟩ : ByteArray)] rfl Z3 ?_; (with_reducible refine (parse_Text.calls k (⟨#[109, 111, 100, 117, 108, 101, 32, 109, 32, 49, 59, 32, 102, 110, 32, 102, 40, 41, 32, 123, 32, 49, 32, 61, 32, 50, 59, 32, 125]⟩ : ByteArray) t806 t807 t808 _ A2.out).mono ?_); rintro e w14 ⟨v809, rfl, ho0, hb⟩; refine ⟨_, rfl, ?_⟩; have n0_ := Aside0.mk (Kd.jJ (by (with_reducible repeat (first | apply Kd.R_alloc | apply Kd.R_drewN | apply Kd.R_drew)); exact HO805.out) (Kd.dH ho0) hb); have n1_ := Aside0.mk (Kd.R_lower (Kd.jB ho0 (Kd.lT (by (with_reducible repeat (first | apply Kd.R_alloc | apply Kd.R_drewN | apply Kd.R_drew)); exact HO805.out))) (below_size Z4)); have n2_ := Aside0.mk (below_step Z4 hb); clear HO805; clear HB; have HO805 := n0_; have HO810 := n1_; have HB := n2_; clear n0_ n1_ n2_; (try clear hb); (try clear ho0); obtain ⟨Ao15, co15, eo15⟩ := Kd.R_slice HO805.out; subst eo15; have p811 : 0 ≤ (5 : Int) := (by omega); have q811 : 5 < (t801.length : Int) := of_decide_eq_true Z8; obtain ⟨ad811, e811, hx811_0, hx811_1, hx811_2, hx811_3, hx811_4⟩ := iq (Kd.R_reads' HO805.out).2.2 5 p811 q811; cases e811; (try simp only [show (5 : Int).toNat = 5 from rfl, Nat.reduceMul, Nat.reduceEqDiff, Go.Addr.add, ↓reduceIte] at hx811_0); (try simp only [show (5 : Int).toNat = 5 from rfl, Nat.reduceMul, Nat.reduceEqDiff, Go.Addr.add, ↓reduceIte] at hx811_1); (try simp only [show (5 : Int).toNat = 5 from rfl, Nat.reduceMul, Nat.reduceEqDiff, Go.Addr.add, ↓reduceIte] at hx811_2); (try simp only [show (5 : Int).toNat = 5 from rfl, Nat.reduceMul, Nat.reduceEqDiff, Go.Addr.add, ↓reduceIte] at hx811_3); (try simp only [show (5 : Int).toNat = 5 from rfl, Nat.reduceMul, Nat.reduceEqDiff, Go.Addr.add, ↓reduceIte] at hx811_4); have qi811 : (5 < t801.length) = True := eq_true (by omega); (try rw [show ((5 : Int)).toNat = 5 from rfl] at hx811_0); (try rw [show 5 * 5 = 25 from rfl] at hx811_0); (try rw [show ((5 : Int)).toNat = 5 from rfl] at hx811_1); (try rw [show 5 * 5 = 25 from rfl] at hx811_1); (try rw [show ((5 : Int)).toNat = 5 from rfl] at hx811_2); (try rw [show 5 * 5 = 25 from rfl] at hx811_2); (try rw [show ((5 : Int)).toNat = 5 from rfl] at hx811_3); (try rw [show 5 * 5 = 25 from rfl] at hx811_3); (try rw [show ((5 : Int)).toNat = 5 from rfl] at hx811_4); (try rw [show 5 * 5 = 25 from rfl] at hx811_4); replace p811 := eq_true p811; replace q811 := eq_true q811; have p812 : 0 ≤ (7 : Int) := (by omega); have q812 : 7 < (t801.length : Int) := of_decide_eq_true Z8; obtain ⟨ad812, e812, hx812_0, hx812_1, hx812_2, hx812_3, hx812_4⟩ := iq (Kd.R_reads' HO805.out).2.2 7 p812 q812; obtain rfl : ad811 = ad812 := (by injection e812); (try simp only [show (7 : Int).toNat = 7 from rfl, Nat.reduceMul, Nat.reduceEqDiff, Go.Addr.add, ↓reduceIte] at hx812_0); (try simp only [show (7 : Int).toNat = 7 from rfl, Nat.reduceMul, Nat.reduceEqDiff, Go.Addr.add, ↓reduceIte] at hx812_1); (try simp only [show (7 : Int).toNat = 7 from rfl, Nat.reduceMul, Nat.reduceEqDiff, Go.Addr.add, ↓reduceIte] at hx812_2); (try simp only [show (7 : Int).toNat = 7 from rfl, Nat.reduceMul, Nat.reduceEqDiff, Go.Addr.add, ↓reduceIte] at hx812_3); (try simp only [show (7 : Int).toNat = 7 from rfl, Nat.reduceMul, Nat.reduceEqDiff, Go.Addr.add, ↓reduceIte] at hx812_4); have qi812 : (7 < t801.length) = True := eq_true (by omega); (try rw [show ((7 : Int)).toNat = 7 from rfl] at hx812_0); (try rw [show 7 * 5 = 35 from rfl] at hx812_0); (try rw [show ((7 : Int)).toNat = 7 from rfl] at hx812_1); (try rw [show 7 * 5 = 35 from rfl] at hx812_1); (try rw [show ((7 : Int)).toNat = 7 from rfl] at hx812_2); (try rw [show 7 * 5 = 35 from rfl] at hx812_2); (try rw [show ((7 : Int)).toNat = 7 from rfl] at hx812_3); (try rw [show 7 * 5 = 35 from rfl] at hx812_3); (try rw [show ((7 : Int)).toNat = 7 from rfl] at hx812_4); (try rw [show 7 * 5 = 35 from rfl] at hx812_4); replace p812 := eq_true p812; replace q812 := eq_true q812; have p813 : 0 ≤ (0 : Int) := (by omega); have q813 : 0 < (t801.length : Int) := of_decide_eq_true Z8; obtain ⟨ad813, e813, hx813_0, hx813_1, hx813_2, hx813_3, hx813_4⟩ := iq (Kd.R_reads' HO805.out).2.2 0 p813 q813; obtain rfl : ad811 = ad813 := (by injection e813); have qi813 : (0 < t801.length) = True := eq_true (by omega); (try rw [show ((0 : Int)).toNat = 0 from rfl] at hx813_0); (try rw [show 0 * 5 = 0 from rfl] at hx813_0); (try rw [Addr.add_zero'] at hx813_0); (try rw [show ((0 : Int)).toNat = 0 from rfl] at hx813_1); (try rw [show 0 * 5 = 0 from rfl] at hx813_1); (try rw [Addr.add_zero'] at hx813_1); (try rw [show ((0 : Int)).toNat = 0 from rfl] at hx813_2); (try rw [show 0 * 5 = 0 from rfl] at hx813_2); (try rw [Addr.add_zero'] at hx813_2); (try rw [show ((0 : Int)).toNat = 0 from rfl] at hx813_3); (try rw [show 0 * 5 = 0 from rfl] at hx813_3); (try rw [Addr.add_zero'] at hx813_3); (try rw [show ((0 : Int)).toNat = 0 from rfl] at hx813_4); (try rw [show 0 * 5 = 0 from rfl] at hx813_4); (try rw [Addr.add_zero'] at hx813_4); replace p813 := eq_true p813; replace q813 := eq_true q813; have p814 : 0 ≤ (0 : Int) := (by omega); have q814 : 0 < (t801.length : Int) := of_decide_eq_true Z8; obtain ⟨ad814, e814, hx814_0, hx814_1, hx814_2, hx814_3, hx814_4⟩ := iq (Kd.R_reads' HO805.out).2.2 0 p814 q814; obtain rfl : ad811 = ad814 := (by injection e814); have qi814 : (0 < t801.length) = True := eq_true (by omega); (try rw [show ((0 : Int)).toNat = 0 from rfl] at hx814_0); (try rw [show 0 * 5 = 0 from rfl] at hx814_0); (try rw [Addr.add_zero'] at hx814_0); (try rw [show ((0 : Int)).toNat = 0 from rfl] at hx814_1); (try rw [show 0 * 5 = 0 from rfl] at hx814_1); (try rw [Addr.add_zero'] at hx814_1); (try rw [show ((0 : Int)).toNat = 0 from rfl] at hx814_2); (try rw [show 0 * 5 = 0 from rfl] at hx814_2); (try rw [Addr.add_zero'] at hx814_2); (try rw [show ((0 : Int)).toNat = 0 from rfl] at hx814_3); (try rw [show 0 * 5 = 0 from rfl] at hx814_3); (try rw [Addr.add_zero'] at hx814_3); (try rw [show ((0 : Int)).toNat = 0 from rfl] at hx814_4); (try rw [show 0 * 5 = 0 from rfl] at hx814_4); (try rw [Addr.add_zero'] at hx814_4); replace p814 := eq_true p814; replace q814 := eq_true q814))
           go_ret
           exact ⟨Z5, Z4⟩
          rw [if_neg c12] at H
          have c12b0 : (t807 == 10) = false := beq_eq_false_iff_ne.mpr c12
          have c12b1 : (t807 != 10) = true := bne_iff_ne.mpr c12
          exact absurd ((Option.some.inj H).trans HR.out) (by decide)
         rw [if_neg c11] at H
         have c11b0 : (((ax t801 0).f3) == 1) = false := beq_eq_false_iff_ne.mpr c11
         have c11b1 : (((ax t801 0).f3) != 1) = true := bne_iff_ne.mpr c11
         exact absurd ((Option.some.inj H).trans HR.out) (by decide)
        rw [if_neg c10] at H
        have c10b0 : (((ax t801 0).f2).toList == ([109] : List UInt8)) = false := beq_eq_false_iff_ne.mpr c10
        have c10b1 : (((ax t801 0).f2).toList != ([109] : List UInt8)) = true := bne_iff_ne.mpr c10
        exact absurd ((Option.some.inj H).trans HR.out) (by decide)
       rw [if_neg c9] at H
       exact absurd H (by simp)
      rw [if_neg c8] at H
      have c8b0 : (((ax t801 7).f4).toList == ([42] : List UInt8)) = false := beq_eq_false_iff_ne.mpr c8
      have c8b1 : (((ax t801 7).f4).toList != ([42] : List UInt8)) = true := bne_iff_ne.mpr c8
      exact absurd ((Option.some.inj H).trans HR.out) (by decide)
     rw [if_neg c7] at H
     exact absurd H (by simp)
    rw [if_neg c6] at H
    have c6b0 : (((ax t801 5).f4).toList == ([43] : List UInt8)) = false := beq_eq_false_iff_ne.mpr c6
    have c6b1 : (((ax t801 5).f4).toList != ([43] : List UInt8)) = true := bne_iff_ne.mpr c6
    exact absurd ((Option.some.inj H).trans HR.out) (by decide)
   rw [if_neg c5] at H
   exact absurd H (by simp)
  rw [if_neg c4] at H
  have c4b0 : ((t801.length : Int) == 10) = false := beq_eq_false_iff_ne.mpr c4
  have c4b1 : ((t801.length : Int) != 10) = true := bne_iff_ne.mpr c4
  exact absurd ((Option.some.inj H).trans HR.out) (by decide)
 rw [if_neg c3] at H
 have c3b0 : (t802 == 0) = false := beq_eq_false_iff_ne.mpr c3
 have c3b1 : (t802 != 0) = true := bne_iff_ne.mpr c3
 exact absurd ((Option.some.inj H).trans HR.out) (by decide)
end Go.Proofs.Ytendgafpkeadhaa.Q
end
section
namespace Go.Proofs.Ytendgafpkeadhaa.Q
open Go.RowKit Go.Proofs.YtendgafpkeadhaaW.PrintWords Go.Proofs.YtendgafpkeadhaaW.PrintLast Go.Proofs.YtendgafpkeadhaaW.PrintMore
attribute [local go_sem] max2_int min2_int max_two min_two max_three min_three max_four min_four
set_option linter.unusedVariables false
set_option linter.unusedSimpArgs false
/-! ### bD: function 3 -/
def bD.f (k : Nat) (a0 : ByteArray) : Option (Bool) := if (a0.size : Int) > 3000 then ((chrysalislaw10_known.f k).bind fun t815 => (some t815)) else ((parse_Text.f k a0).bind fun bt816 => (if bt816.2.1 = 0 then ((bf.f k bt816.1).bind fun bt821 => (if bt821.1 = 0 then (if bt821.2 = 0 then (if bt816.2.2 = 0 then ((chrysalislaw10_known.f k).bind fun t823 => (some t823)) else (some false)) else (some false)) else (some false))) else (if (bt816.1.length : Int) = 0 then (if bt816.2.2 ≥ 0 then (if bt816.2.2 ≤ (a0.size : Int) then ((chrysalislaw10_known.f k).bind fun t824 => (some t824)) else (some false)) else (some false)) else (some false))))
theorem bD.mono : ∀ a0 k, LeO (bD.f k a0) (bD.f (k + 1) a0) := by
 intro a0 k
 unfold bD.f
 repeat' first
  | (with_reducible exact chrysalislaw10_known.mono _)
  | (with_reducible exact parse_Text.mono _ _)
  | (with_reducible exact bf.mono _ _)
  | (with_reducible exact LeO.refl _)
  | (with_reducible exact LeO.none _)
  | (with_reducible refine LeO.ite ?_ ?_)
  | (with_reducible refine LeO.bind ?_ (fun _ => ?_))
  | exact chrysalislaw10_known.mono _
  | exact parse_Text.mono _ _
  | exact bf.mono _ _
  | exact LeO.none _
  | refine LeO.ite ?_ ?_
  | refine LeO.bind ?_ (fun _ => ?_)
set_option maxHeartbeats 8000000 in
set_option maxRecDepth 100000 in
theorem bD.calls (k : Nat) (a0 : ByteArray) (r : Bool) (w : World) (h : bD.f k a0 = some r) (hr : r = true) :
 Calls Try.prog 3 #[.string a0] w fun e w' => e = .returned (.bool r) ∧ Below w.heap.size w w' := by
 have HB := Aside0.mk (Below.refl w.heap.size w)
 have HR := Aside0.mk hr
 clear hr
 have H : (if (a0.size : Int) > 3000 then ((chrysalislaw10_known.f k).bind fun t815 => (some t815)) else ((parse_Text.f k a0).bind fun bt816 => (if bt816.2.1 = 0 then ((bf.f k bt816.1).bind fun bt821 => (if bt821.1 = 0 then (if bt821.2 = 0 then (if bt816.2.2 = 0 then ((chrysalislaw10_known.f k).bind fun t823 => (some t823)) else (some false)) else (some false)) else (some false))) else (if (bt816.1.length : Int) = 0 then (if bt816.2.2 ≥ 0 then (if bt816.2.2 ≤ (a0.size : Int) then ((chrysalislaw10_known.f k).bind fun t824 => (some t824)) else (some false)) else (some false)) else (some false))))) = some r := h
 clear h
 by_cases c2 : (a0.size : Int) > 3000
 ·rw [if_pos c2] at H
  have c2b0 : decide (3000 < (a0.size : Int)) = true := decide_eq_true c2
  have c2b1 : decide (3000 < a0.size) = true := decide_eq_true (by omega)
  clear c2
  replace H := Option.bind_eq_some_iff.mp H
  obtain ⟨t815, A30, H⟩ := H
  replace H : (some t815) = some r := H
  have A3 := Aside0.mk A30
  clear A30
  obtain rfl := Option.some.inj H
  go_enter Try.func3, Try.ntmps3
  go_wp2_with (first | ((with_reducible refine gate_callee (f := 8) rfl ?_); refine goesL_ (some 11) rfl rfl Try.func8 (by kernel_rfl) rfl #[] rfl Z3 ?_; (with_reducible refine (chrysalislaw10_known.calls k  t815 _ A3.out).mono ?_); rintro e w4 ⟨rfl, hb⟩; refine ⟨_, rfl, ?_⟩; have n0_ := Aside0.mk (below_step Z4 hb); clear HB; have HB := n0_; clear n0_; (try clear hb)))
  go_ret
  exact ⟨Z5, Z4⟩
 rw [if_neg c2] at H
 have c2b0 : decide (3000 < (a0.size : Int)) = false := decide_eq_false c2
 have c2b1 : decide (3000 < a0.size) = false := decide_eq_false (by omega)
 clear c2
 replace H := Option.bind_eq_some_iff.mp H
 obtain ⟨⟨t816, t817, t818⟩, A50, H⟩ := H
 try dsimp only at H
 have A5 := Aside0.mk A50
 clear A50
 by_cases c6 : t817 = 0
 ·rw [if_pos c6] at H
  have c6b0 : (t817 == 0) = true := beq_iff_eq.mpr c6
  have c6b1 : (t817 != 0) = false := bne_eq_false_iff_eq.mpr c6
  clear c6
  replace H := Option.bind_eq_some_iff.mp H
  obtain ⟨⟨t821, t822⟩, A70, H⟩ := H
  try dsimp only at H
  have A7 := Aside0.mk A70
  clear A70
  by_cases c8 : t821 = 0
  ·rw [if_pos c8] at H
   have c8b0 : (t821 == 0) = true := beq_iff_eq.mpr c8
   have c8b1 : (t821 != 0) = false := bne_eq_false_iff_eq.mpr c8
   clear c8
   by_cases c9 : t822 = 0
   ·rw [if_pos c9] at H
    have c9b0 : (t822 == 0) = true := beq_iff_eq.mpr c9
    have c9b1 : (t822 != 0) = false := bne_eq_false_iff_eq.mpr c9
    clear c9
    by_cases c10 : t818 = 0
    ·rw [if_pos c10] at H
     have c10b0 : (t818 == 0) = true := beq_iff_eq.mpr c10
     have c10b1 : (t818 != 0) = false := bne_eq_false_iff_eq.mpr c10
     clear c10
     replace H := Option.bind_eq_some_iff.mp H
     obtain ⟨t823, A110, H⟩ := H
     replace H : (some t823) = some r := H
     have A11 := Aside0.mk A110
     clear A110
     obtain rfl := Option.some.inj H
     go_enter Try.func3, Try.ntmps3
     go_wp2_with (first | ((with_reducible refine gate_callee (f := 9) rfl ?_); refine goesL_ (some 14) rfl rfl Try.func9 (by kernel_rfl) rfl #[.string a0] rfl Z3 ?_; (with_reducible refine (parse_Text.calls k a0 t816 t817 t818 _ A5.out).mono ?_); rintro e w12 ⟨v819, rfl, ho0, hb⟩; refine ⟨_, rfl, ?_⟩; have n0_ := Aside0.mk (Kd.R_lower ho0 (below_size Z4)); have n1_ := Aside0.mk (below_step Z4 hb); clear HB; have HO820 := n0_; have HB := n1_; clear n0_ n1_; (try clear hb); (try clear ho0); obtain ⟨Ao13, co13, eo13⟩ := Kd.R_slice HO820.out; subst eo13) | ((with_reducible refine gate_callee (f := 10) rfl ?_); refine goesL_ (some 38) rfl rfl Try.func10 (by kernel_rfl) rfl #[.slice Ao13 t816.length co13] rfl Z3 ?_; (with_reducible refine (bf.calls k _ _ t816 t821 t822 _ ?side1 ?side2 A7.out).mono ?_); (case side1 => repeat (first | exact (Kd.R_reads' HO820.out).2.2 | (with_reducible refine Kd.C_alloc ?_ _) | (with_reducible refine Kd.C_drewN ?_ _) | (with_reducible refine Kd.C_drew ?_))); (case side2 => exact (Kd.R_reads' HO820.out).2.1); rintro e w14 ⟨rfl, hb⟩; refine ⟨_, rfl, ?_⟩; have n0_ := Aside0.mk (Kd.R_below Z65 hb); have n1_ := Aside0.mk (below_step Z4 hb); clear HO820; clear HB; have HO820 := n0_; have HB := n1_; clear n0_ n1_; (try clear hb)) | (go_at_call 8; (with_reducible refine (chrysalislaw10_known.calls k  t823 _ A11.out).mono ?_); rintro e w15 ⟨rfl, hb⟩; have n0_ := Aside0.mk (Kd.R_below Z65 hb); have n1_ := Aside0.mk (below_step Z4 hb); clear HO820; clear HB; have HO820 := n0_; have HB := n1_; clear n0_ n1_; (try clear hb)))
     go_ret
     exact ⟨Z5, Z4⟩
    rw [if_neg c10] at H
    have c10b0 : (t818 == 0) = false := beq_eq_false_iff_ne.mpr c10
    have c10b1 : (t818 != 0) = true := bne_iff_ne.mpr c10
    exact absurd ((Option.some.inj H).trans HR.out) (by decide)
   rw [if_neg c9] at H
   have c9b0 : (t822 == 0) = false := beq_eq_false_iff_ne.mpr c9
   have c9b1 : (t822 != 0) = true := bne_iff_ne.mpr c9
   exact absurd ((Option.some.inj H).trans HR.out) (by decide)
  rw [if_neg c8] at H
  have c8b0 : (t821 == 0) = false := beq_eq_false_iff_ne.mpr c8
  have c8b1 : (t821 != 0) = true := bne_iff_ne.mpr c8
  exact absurd ((Option.some.inj H).trans HR.out) (by decide)
 rw [if_neg c6] at H
 have c6b0 : (t817 == 0) = false := beq_eq_false_iff_ne.mpr c6
 have c6b1 : (t817 != 0) = true := bne_iff_ne.mpr c6
 by_cases c25 : (t816.length : Int) = 0
 ·rw [if_pos c25] at H
  have c25b0 : ((t816.length : Int) == 0) = true := beq_iff_eq.mpr c25
  have c25b1 : ((t816.length : Int) != 0) = false := bne_eq_false_iff_eq.mpr c25
  clear c25
  by_cases c26 : t818 ≥ 0
  ·rw [if_pos c26] at H
   have c26b0 : decide (0 ≤ t818) = true := decide_eq_true c26
   clear c26
   by_cases c27 : t818 ≤ (a0.size : Int)
   ·rw [if_pos c27] at H
    have c27b0 : decide (t818 ≤ (a0.size : Int)) = true := decide_eq_true c27
    clear c27
    replace H := Option.bind_eq_some_iff.mp H
    obtain ⟨t824, A280, H⟩ := H
    replace H : (some t824) = some r := H
    have A28 := Aside0.mk A280
    clear A280
    obtain rfl := Option.some.inj H
    go_enter Try.func3, Try.ntmps3
    go_wp2_with (first | ((with_reducible refine gate_callee (f := 9) rfl ?_); refine goesL_ (some 14) rfl rfl Try.func9 (by kernel_rfl) rfl #[.string a0] rfl Z3 ?_; (with_reducible refine (parse_Text.calls k a0 t816 t817 t818 _ A5.out).mono ?_); rintro e w29 ⟨v819, rfl, ho0, hb⟩; refine ⟨_, rfl, ?_⟩; have n0_ := Aside0.mk (Kd.R_lower ho0 (below_size Z4)); have n1_ := Aside0.mk (below_step Z4 hb); clear HB; have HO820 := n0_; have HB := n1_; clear n0_ n1_; (try clear hb); (try clear ho0); obtain ⟨Ao30, co30, eo30⟩ := Kd.R_slice HO820.out; subst eo30) | (go_at_call 8; (with_reducible refine (chrysalislaw10_known.calls k  t824 _ A28.out).mono ?_); rintro e w31 ⟨rfl, hb⟩; have n0_ := Aside0.mk (Kd.R_below Z65 hb); have n1_ := Aside0.mk (below_step Z4 hb); clear HO820; clear HB; have HO820 := n0_; have HB := n1_; clear n0_ n1_; (try clear hb)))
    go_ret
    exact ⟨Z5, Z4⟩
   rw [if_neg c27] at H
   have c27b0 : decide (t818 ≤ (a0.size : Int)) = false := decide_eq_false c27
   clear c27
   exact absurd ((Option.some.inj H).trans HR.out) (by decide)
  rw [if_neg c26] at H
  have c26b0 : decide (0 ≤ t818) = false := decide_eq_false c26
  clear c26
  exact absurd ((Option.some.inj H).trans HR.out) (by decide)
 rw [if_neg c25] at H
 have c25b0 : ((t816.length : Int) == 0) = false := beq_eq_false_iff_ne.mpr c25
 have c25b1 : ((t816.length : Int) != 0) = true := bne_iff_ne.mpr c25
 have c25b2 : ¬ (t816 = []) := fun h_ => c25 (by rw [h_]; rfl)
 exact absurd ((Option.some.inj H).trans HR.out) (by decide)
/-- THE ONE PURE STATEMENT of bD: yours. -/
def bD.Pure : Prop := ∀ (a0 : ByteArray), a0.size ≤ 140737488351232 → ∃ k, bD.f k a0 = some true
theorem bD.walk (P : bD.Pure) (a0 : ByteArray) (w : World) (w0 : a0.size ≤ 140737488351232) :
 Calls Try.prog 3 #[.string a0] w fun e w' => e = .returned (.bool true) ∧ Below w.heap.size w w' := by
 obtain ⟨k, h⟩ := P a0 w0
 refine (bD.calls k a0 true w h rfl).mono ?_
 rintro e w' ⟨rfl, hd⟩
 exact ⟨rfl, hd⟩
end Go.Proofs.Ytendgafpkeadhaa.Q
end
section
namespace Go.Proofs.Ytendgafpkeadhaa.Q
open Go.RowKit Go.Proofs.YtendgafpkeadhaaW.PrintWords Go.Proofs.YtendgafpkeadhaaW.PrintLast Go.Proofs.YtendgafpkeadhaaW.PrintMore
attribute [local go_sem] max2_int min2_int max_two min_two max_three min_three max_four min_four
set_option linter.unusedVariables false
set_option linter.unusedSimpArgs false
/-! ### lex_Quote: function 27 -/
end Go.Proofs.Ytendgafpkeadhaa.Q
end
