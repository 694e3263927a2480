/- Walks over functions of the program, words for them, and what the functions come to; of each text only what this claim uses; no condition. -/
import Derived.Test.YtendgafpkeadhaaZPR0
import Derived.Test.YtendgafpkeadhaaZPR3
import Derived.Test.YtendgafpkeadhaaZPR7
import Derived.Test.YtendgafpkeadhaaZPR9
import Derived.Test.YtendgafpkeadhaaZPR10
namespace Go.Proofs.Ytendgafpkeadhaa.Q
open Go.RowKit Go.Proofs.YtendgafpkeadhaaW.PrintWords Go.Proofs.YtendgafpkeadhaaW.PrintLast Go.Proofs.YtendgafpkeadhaaW.PrintMore
attribute [local go_sem] ik ig gZ gY max2_int min2_int max_two min_two max_three min_three max_four min_four
set_option linter.unusedVariables false
set_option linter.unusedSimpArgs false
/-! ### aK: function 79 -/
def aK.j0 (F : Fam) : Nat → List (S41) → Bool → List (S38) → Int → Bool → Option ((List (S41)) × Int × Bool)
 | 0, _, _, _, _, _ => none
 | k + 1, x3, x8, x1000, x1001, x1002 => if x8 = true then ((ak.f x1000 x1001 x1002 (⟨#[59]⟩ : ByteArray)).bind fun bt307 => ((aj.f k 17 0 (⟨#[]⟩ : ByteArray) 0 (⟨#[]⟩ : ByteArray) (([x3] : List (List (S41))))).bind fun t312 => (some (t312, bt307.1, bt307.2)))) else (if 0 < (x3.length : Int) then (if ((ax x3 0).f0) = 21 then ((ak.f x1000 x1001 x1002 (⟨#[61]⟩ : ByteArray)).bind fun bt316 => ((aY.f F k x1000 bt316.1 bt316.2 7 0 ((ax x3 0).f2) 0 (⟨#[]⟩ : ByteArray)).bind fun bt319 => (some (bt319.1, bt319.2.1, bt319.2.2)))) else (if ((ax x3 0).f0) = 26 then ((ak.f x1000 x1001 x1002 (⟨#[61]⟩ : ByteArray)).bind fun bt325 => ((bJ.f k x3 0).bind fun t327 => ((dI.f F k x1000 bt325.1 bt325.2).bind fun bt330 => ((ak.f x1000 bt330.2.1 bt330.2.2 (⟨#[59]⟩ : ByteArray)).bind fun bt335 => (if 0 < (t327.length : Int) then ((ed.f k x3 (rd t327 0)).bind fun t338 => (if 1 < (t327.length : Int) then ((ed.f k x3 (rd t327 1)).bind fun t342 => ((aj.f k 8 0 (⟨#[]⟩ : ByteArray) 0 (⟨#[]⟩ : ByteArray) (([t338, t342, bt330.1] : List (List (S41))))).bind fun t348 => (some (t348, bt335.1, bt335.2)))) else (none))) else (none)))))) else (some (([] : List (S41)), x1001, true)))) else (none))
def aK.f (F : Fam) (k : Nat) (s0_0 : List (S38)) (s0_1 : Int) (s0_2 : Bool) : Option ((List (S41)) × Int × Bool) := (dI.f F k s0_0 s0_1 s0_2).bind fun bt299 => (if bt299.2.2 = true then (aK.j0 F k bt299.1 true s0_0 bt299.2.1 bt299.2.2) else ((aV.f s0_0 bt299.2.1 bt299.2.2).bind fun bt304 => (aK.j0 F k bt299.1 (bt304.1.toList != ([61] : List UInt8)) s0_0 bt304.2.1 bt304.2.2)))
theorem aK.mono_l {F F' : Fam} (HLE : iG F F') : ∀ k, (∀ y0 y1 y2 y3 y4, LeO (aK.j0 F k y0 y1 y2 y3 y4) (aK.j0 F' (k + 1) y0 y1 y2 y3 y4))
 | 0 => fun _ _ _ _ _ r h => by simp [aK.j0] at h
 | k + 1 => by
  have ih0 := aK.mono_l HLE k
  intro y0 y1 y2 y3 y4
  unfold aK.j0
  repeat' first
  | (with_reducible exact ih0 _ _ _ _ _)
  | (with_reducible exact aj.mono _ _ _ _ _ _ _)
  | (with_reducible exact aY.mono HLE _ _ _ _ _ _ _ _ _)
  | (with_reducible exact dI.mono HLE _ _ _ _)
  | (with_reducible exact bJ.mono _ _ _)
  | (with_reducible exact ed.mono _ _ _)
  | (with_reducible exact LeO.refl _)
  | (with_reducible exact LeO.none _)
  | (with_reducible refine LeO.ite ?_ ?_)
  | (with_reducible refine LeO.bind ?_ (fun _ => ?_))
  | exact ih0 _ _ _ _ _
  | exact aj.mono _ _ _ _ _ _ _
  | exact aY.mono HLE _ _ _ _ _ _ _ _ _
  | exact dI.mono HLE _ _ _ _
  | exact bJ.mono _ _ _
  | exact ed.mono _ _ _
  | exact LeO.none _
  | refine LeO.ite ?_ ?_
  | refine LeO.bind ?_ (fun _ => ?_)
theorem aK.mono {F F' : Fam} (HLE : iG F F') : ∀ a0 a1 a2 k, LeO (aK.f F k a0 a1 a2) (aK.f F' (k + 1) a0 a1 a2) := by
 intro a0 a1 a2 k
 have ih0 := aK.mono_l HLE k
 unfold aK.f
 repeat' first
  | (with_reducible exact ih0 _ _ _ _ _)
  | (with_reducible exact aj.mono _ _ _ _ _ _ _)
  | (with_reducible exact aY.mono HLE _ _ _ _ _ _ _ _ _)
  | (with_reducible exact dI.mono HLE _ _ _ _)
  | (with_reducible exact bJ.mono _ _ _)
  | (with_reducible exact ed.mono _ _ _)
  | (with_reducible exact LeO.refl _)
  | (with_reducible exact LeO.none _)
  | (with_reducible refine LeO.ite ?_ ?_)
  | (with_reducible refine LeO.bind ?_ (fun _ => ?_))
  | exact ih0 _ _ _ _ _
  | exact aj.mono _ _ _ _ _ _ _
  | exact aY.mono HLE _ _ _ _ _ _ _ _ _
  | exact dI.mono HLE _ _ _ _
  | exact bJ.mono _ _ _
  | exact ed.mono _ _ _
  | exact LeO.none _
  | refine LeO.ite ?_ ?_
  | refine LeO.bind ?_ (fun _ => ?_)
def aK.T13 : Bool × List (List Nat × List Nat) := (true, [([], []), ([], []), ([], []), ([2], [2]), ([3], [3]), ([1, 4], [1, 4]), ([], []), ([], []), ([7], [7]), ([8], [8]), ([6, 9, 5], [6, 9]), ([], []), ([5, 10, 11], [5, 10, 11]), ([0, 12, 10], [0, 12]), ([13, 13, 0, 1, 2, 3, 4, 5, 6, 7, 8, 9, 10, 11, 12, 13], [13])])
def aK.B13 : List Nat := [0, 0, 0, 4, 12, 30, 0, 0, 128, 384, 1022, 0, 4094, 8191, 16383]
theorem aK.DI : jR .any (opsOf Try.f79 13) = aK.T13 := by kernel_rfl
theorem aK.Dl : kJ aK.T13.2 aK.B13 = true := by kernel_rfl
set_option maxHeartbeats 8000000 in
set_option maxRecDepth 100000 in
theorem aK.calls (F : Fam) (HF : jL F) (k : Nat) (g : Nat) (s0_0 : List (S38)) (s0_1 : Int) (s0_2 : Bool) (r1 : List (S41)) (r2 : Int) (r3 : Bool) (w0 w : World) (hI : ah w0 w g s0_0 s0_1 s0_2) (hB : Below w0.heap.size w0 w) (h : aK.f F k s0_0 s0_1 s0_2 = some (r1, r2, r3)) :
 Calls Try.prog 79 #[.pointer (some ⟨g, 0, none⟩)] w fun e w' => ∃ v0_ : Value, e = .returned (v0_) ∧ Kd.R k41 41 w' w.heap.size (fun _ => True) v0_ r1 ∧ ah w0 w' g s0_0 r2 r3 ∧ Below w0.heap.size w0 w' ∧ af w w' g none := by
 have hu41 := Try.underlying41
 have HI0 := Aside0.mk hI
 have HK := Aside0.mk (af.refl w g none)
 have HL := Aside0.mk hB.size
 clear hI
 have HW0 := Aside0.mk hB.size
 have HB := Aside0.mk hB
 clear hB
 have H : ((dI.f F k s0_0 s0_1 s0_2).bind fun bt299 => (if bt299.2.2 = true then (aK.j0 F k bt299.1 true s0_0 bt299.2.1 bt299.2.2) else ((aV.f s0_0 bt299.2.1 bt299.2.2).bind fun bt304 => (aK.j0 F k bt299.1 (bt304.1.toList != ([61] : List UInt8)) s0_0 bt304.2.1 bt304.2.2)))) = some (r1, r2, r3) := h
 clear h
 replace H := Option.bind_eq_some_iff.mp H
 obtain ⟨⟨t299, t302, t303⟩, A20, H⟩ := H
 try dsimp only at H
 have A2 := Aside0.mk A20
 clear A20
 have HC3 := Aside0.mk H
 clear H
 go_enter Try.func79, Try.ntmps79
 go_upto_region 2 with (first | ((with_reducible refine gate_callee (f := 77) rfl ?_); refine goesL_ (some 7) rfl rfl Try.func77 (by kernel_rfl) rfl #[.pointer (some ⟨g, 0, none⟩)] rfl Z3 ?_; (with_reducible refine (dI.calls F HF k g s0_0 s0_1 s0_2 t299 t302 t303 w0 _ ?side1 ?side2 A2.out).mono ?_); (case side1 => exact Z0); (case side2 => exact Z2); rintro e w4 ⟨v300, rfl, ho0, hi, hb, hk⟩; refine ⟨_, rfl, ?_⟩; have n0_ := Aside0.mk (Kd.R_lower ho0 (aH (w := w) (g := g) (row := none) Z1)); have n1_ := Aside0.mk (af.trans Z1 hk (.inl rfl)); have n2_ := Aside0.mk (hb); have n3_ := Aside0.mk (hi); clear HK; clear HB; clear HI0; have HO301 := n0_; have HK := n1_; have HB := n2_; have HI0 := n3_; clear n0_ n1_ n2_ n3_; (try clear hb); (try clear ho0)))
 (try simp only [Act.put, List.setIfInBounds_toArray, List.set_cons_zero, List.set_cons_succ])
 go_cut [8] (fun v8 wc => ∃ (kq : Nat) (x8_2 : Bool) (x1001_2 : Int) (x1002_2 : Bool), v8 = .bool x8_2 ∧ Aside0 (aK.j0 F kq t299 x8_2 s0_0 x1001_2 x1002_2 = some (r1, r2, r3)) ∧ Aside0 (kq ≤ k) ∧ Aside0 (Kd.R k41 41 wc w.heap.size (fun _ => True) v300 t299) ∧ Aside0 (ah w0 wc g s0_0 x1001_2 x1002_2) ∧ Aside0 (af w wc g none) ∧ Aside0 (Below w0.heap.size w0 wc))
 case first =>
  have H := HC3.out
  clear HC3
  by_cases c5 : t303 = true
  ·subst c5
   have H1 : (aK.j0 F k t299 true s0_0 t302 true) = some (r1, r2, r3) := by rw [if_pos rfl] at H; exact H
   clear H
   have H := H1
   clear H1
   have H' := Aside0.mk H
   clear H
   obtain ⟨ASz6_0, cSz6_0, HGz6, hgz6, HSz6_0⟩ := HI0.out
   have hcz6_0 := df HGz6
   have hcz6_1 := cZ HGz6
   have hcz6_2 := cO HGz6
   have hfz6_1 := ae HGz6 1
   have hfz6_2 := ae HGz6 2
   clear HGz6 hgz6
   go_wp2
   go_meet
   case rel => exact ⟨_, (true), (t302), (true), Z7, H', ⟨Z35⟩, ⟨Z64⟩, ⟨Z0⟩, ⟨Z1⟩, ⟨Z2⟩⟩
  replace c5 := Bool.eq_false_iff.mpr c5
  subst c5
  rw [if_neg (show ¬ (false = true) by decide)] at H
  have H1 := H
  clear H
  have H := H1
  clear H1
  replace H := Option.bind_eq_some_iff.mp H
  obtain ⟨⟨t304, t305, t306⟩, A70, H⟩ := H
  replace H : (aK.j0 F k t299 (t304.toList != ([61] : List UInt8)) s0_0 t305 t306) = some (r1, r2, r3) := H
  have A7 := Aside0.mk A70
  clear A70
  have H' := Aside0.mk H
  clear H
  obtain ⟨ASz8_0, cSz8_0, HGz8, hgz8, HSz8_0⟩ := HI0.out
  have hcz8_0 := df HGz8
  have hcz8_1 := cZ HGz8
  have hcz8_2 := cO HGz8
  have hfz8_1 := ae HGz8 1
  have hfz8_2 := ae HGz8 2
  clear HGz8 hgz8
  go_wp2_with (first | (go_at_call 71; (with_reducible refine (aV.calls g s0_0 t302 false t304 t305 t306 w0 _ ?side1 ?side2 A7.out).mono ?_); (case side1 => exact Z0); (case side2 => exact Z2); rintro e w9 ⟨rfl, hi, hb, hk⟩; have n0_ := Aside0.mk (Kd.bi (Kd.gz (ah.apart (show ah w0 _ g s0_0 t302 false from Z0) Z64 (by decide)) hk (fun _ h => h.2)) (fun _ h => h.1)); have n1_ := Aside0.mk (af.trans Z1 hk (.inl rfl)); have n2_ := Aside0.mk (hb); have n3_ := Aside0.mk (hi); clear HO301; clear HK; clear HB; clear HI0; have HO301 := n0_; have HK := n1_; have HB := n2_; have HI0 := n3_; clear n0_ n1_ n2_ n3_; (try clear hb)))
  go_meet
  case rel => exact ⟨_, ((t304.toList != ([61] : List UInt8))), (t305), (t306), Z7, H', ⟨Z35⟩, ⟨Z64⟩, ⟨Z0⟩, ⟨Z1⟩, ⟨Z2⟩⟩
 case rest =>
  clear HC3
  try clear p2
  try clear c5
  try clear c7
  try clear c8
  try clear hcz6_0
  try clear hcz6_1
  try clear hcz6_2
  try clear hcz8_0
  try clear hcz8_1
  try clear hcz8_2
  try clear hfz6_1
  try clear hfz6_2
  try clear hfz8_1
  try clear hfz8_2
  obtain ⟨kq, x8_2, x1001_2, x1002_2, rfl, HA, HJ2, HO_3, HI0, HK, HB⟩ := hcut
  cases kq with
  | zero => exact absurd HA.out (by simp [aK.j0])
  | succ kj2 =>
   have H := HA.out
   clear HA
   simp only [aK.j0] at H
   by_cases c10 : x8_2 = true
   ·subst c10
    rw [if_pos rfl] at H
    have H1 := H
    clear H
    have H := H1
    clear H1
    replace H := Option.bind_eq_some_iff.mp H
    obtain ⟨⟨t307, t308⟩, A110, H⟩ := H
    try dsimp only at H
    have A11 := Aside0.mk A110
    clear A110
    obtain ⟨y309, hy309⟩ : ∃ y_ : List (List (S41)), y_ = (([t299] : List (List (S41)))) := ⟨_, rfl⟩
    replace H : ((aj.f kj2 17 0 (⟨#[]⟩ : ByteArray) 0 (⟨#[]⟩ : ByteArray) y309).bind fun t312 => (some (t312, t307, t308))) = some (r1, r2, r3) := by first | (rw [hy309]; with_reducible exact H) | (have H2_ := (Option.bind_some _ _).symm.trans H; rw [hy309]; with_reducible exact H2_) | (have H2_ := (Option.bind_some _ _).symm.trans H; with_reducible exact H2_) | with_reducible exact H | (rw [hy309]; exact H) | exact H
    have Ny309 := Aside0.mk hy309
    clear hy309
    replace H := Option.bind_eq_some_iff.mp H
    obtain ⟨t312, A120, H⟩ := H
    replace H : (some (t312, t307, t308)) = some (r1, r2, r3) := H
    have A12 := Aside0.mk A120
    clear A120
    simp only [Option.some.injEq, Prod.mk.injEq] at H
    obtain ⟨rfl, rfl, rfl⟩ := H
    go_wp2_with (first | ((with_reducible refine gate_callee (f := 51) rfl ?_); refine goesL_ (some 19) rfl rfl Try.func51 (by kernel_rfl) rfl #[.pointer (some ⟨g, 0, none⟩), .string (⟨#[59]⟩ : ByteArray)] rfl Z3 ?_; (with_reducible refine (ak.calls g s0_0 x1001_2 x1002_2 (⟨#[59]⟩ : ByteArray) t307 t308 w0 _ ?side1 ?side2 A11.out).mono ?_); (case side1 => exact Z0); (case side2 => exact Z2); rintro e w13 ⟨rfl, hi, hb, hk⟩; refine ⟨_, rfl, ?_⟩; have n0_ := Aside0.mk (Kd.bi (Kd.gz (ah.apart (show ah w0 _ g s0_0 x1001_2 x1002_2 from Z0) Z22 (by decide)) hk (fun _ h => h.2)) (fun _ h => h.1)); have n1_ := Aside0.mk (af.trans Z1 hk (.inl rfl)); have n2_ := Aside0.mk (hb); have n3_ := Aside0.mk (hi); clear HO_3; clear HK; clear HB; clear HI0; have HO_3 := n0_; have HK := n1_; have HB := n2_; have HI0 := n3_; clear n0_ n1_ n2_ n3_; (try clear hb); obtain ⟨Ao14, co14, eo14⟩ := Kd.R_slice HO_3.out; subst eo14) | ((with_reducible refine bP (N := 22) rfl ?_); refine Kd.lU (Kd.slice 41 k41) _ 23 ?hg (N' := 22) ?hd (xs := ([t299] : List (List (S41)))) (inner := [.slice Ao14 t299.length co14]) (ok := (fun k_ => k_ ≠ g)) (okp := (fun k_ => k_ ≠ g)) ?hr ?hp (fun _ hk => hk) ((show ∀ k_, w13.heap.size ≤ k_ → (fun k_ => k_ ≠ g) k_ from fun k_ hk => ah.fresh Z0 k_ hk) _ (Nat.le_refl _)) (Below.refl _ _) (Nat.le_refl _) (by simp) ?_; (case hd => rfl); (case hg => rfl); (case hr => first | (go_simp; done) | (go_simp; rfl)); (case hp => exact (dw.one (show Kd.FK (Kd.slice 41 k41) _ _ t299 [.slice Ao14 t299.length co14] from (Kd.dF (Kd.R_reads' (Kd.bi (ok' := (fun k_ => k_ ≠ g)) (ah.apart HI0.out (HO_3.out) (by decide)) (fun k_ hk => hk.2))).2.1 (Kd.R_F (Kd.bi (ok' := (fun k_ => k_ ≠ g)) (ah.apart HI0.out (HO_3.out) (by decide)) (fun k_ hk => hk.2))))) (dw.none _ _))); intro v310 w15 ho16 hb hg_ hnew_; clear hg_ hnew_; (first | rw [← Ny309.out] at ho16 | (simp only [Int.reduceToNat] at ho16; rw [← Ny309.out] at ho16)); have n0_ := Aside0.mk (Kd.iL ho16 (aH (w := w) (g := g) (row := none) Z1)); have n1_ := Aside0.mk (ah.below Z0 hb); have n2_ := Aside0.mk (af.trans Z1 (af.of_below hb g none) (.inl rfl)); have n3_ := Aside0.mk (below_step Z2 hb); clear HI0; clear HK; clear HB; clear HO_3; have HO311 := n0_; have HI0 := n1_; have HK := n2_; have HB := n3_; clear n0_ n1_ n2_ n3_; clear hb ho16; obtain ⟨Ao17, co17, eo17⟩ := Kd.iK HO311.out; subst eo17) | ((with_reducible refine gate_callee (f := 56) rfl ?_); refine goesL_ (some 23) rfl rfl Try.func56 (by kernel_rfl) rfl #[.agg #[.int .i64 17, .int .i64 0, .string (⟨#[]⟩ : ByteArray), .int .i64 0, .string (⟨#[]⟩ : ByteArray)], .slice Ao17 y309.length co17] rfl Z3 ?_; (with_reducible refine (aj.calls kj2 17 0 (⟨#[]⟩ : ByteArray) 0 (⟨#[]⟩ : ByteArray) _ _ y309 t312 _ ?side1 ?side2 A12.out).mono ?_); (case side1 => repeat (first | exact (Kd.dQ HO311.out).2.2 | (with_reducible refine Kd.C_alloc ?_ _) | (with_reducible refine Kd.C_drewN ?_ _) | (with_reducible refine Kd.C_drew ?_))); (case side2 => exact (Kd.dQ HO311.out).2.1); rintro e w18 ⟨v313, rfl, ho0, hb⟩; refine ⟨_, rfl, ?_⟩; have n0_ := Aside0.mk (Kd.gW (by (with_reducible repeat (first | apply Kd.eH | apply Kd.eG | apply Kd.fK)); exact HO311.out) (Kd.dH ho0) hb); have n1_ := Aside0.mk (Kd.R_lower ho0 (aH (w := w) (g := g) (row := none) Z1)); have n2_ := Aside0.mk (ah.below Z0 hb); have n3_ := Aside0.mk (af.trans Z1 (af.of_below hb g none) (.inl rfl)); have n4_ := Aside0.mk (below_step Z2 hb); clear HO311; clear HI0; clear HK; clear HB; have HO311 := n0_; have HO314 := n1_; have HI0 := n2_; have HK := n3_; have HB := n4_; clear n0_ n1_ n2_ n3_ n4_; (try clear hb); (try clear ho0)))
    go_ret
    exact ⟨_, Z5, by (with_reducible repeat (first | apply Kd.R_alloc | apply Kd.R_drewN | apply Kd.R_drew)); exact HO314.out, Z0, Z2, Z1⟩
   replace c10 := Bool.eq_false_iff.mpr c10
   subst c10
   rw [if_neg (show ¬ (false = true) by decide)] at H
   have H1 := H
   clear H
   have H := H1
   clear H1
   by_cases c19 : 0 < (t299.length : Int)
   ·rw [if_pos c19] at H
    have c19b0 : decide (0 < (t299.length : Int)) = true := decide_eq_true c19
    have c19b1 : decide (0 < t299.length) = true := decide_eq_true (by omega)
    clear c19
    by_cases c20 : ((ax t299 0).f0) = 21
    ·rw [if_pos c20] at H
     have c20b0 : (((ax t299 0).f0) == 21) = true := beq_iff_eq.mpr c20
     have c20b1 : (((ax t299 0).f0) != 21) = false := bne_eq_false_iff_eq.mpr c20
     clear c20
     replace H := Option.bind_eq_some_iff.mp H
     obtain ⟨⟨t316, t317⟩, A210, H⟩ := H
     try dsimp only at H
     have A21 := Aside0.mk A210
     clear A210
     replace H := Option.bind_eq_some_iff.mp H
     obtain ⟨⟨t319, t322, t323⟩, A220, H⟩ := H
     replace H : (some (t319, t322, t323)) = some (r1, r2, r3) := H
     have A22 := Aside0.mk A220
     clear A220
     simp only [Option.some.injEq, Prod.mk.injEq] at H
     obtain ⟨rfl, rfl, rfl⟩ := H
     obtain ⟨Ao23, co23, eo23⟩ := Kd.R_slice HO_3.out
     subst eo23
     have p315 : 0 ≤ (0 : Int) := (by omega)
     have q315 : 0 < (t299.length : Int) := of_decide_eq_true Z8
     obtain ⟨ad315, e315, hx315_0, hx315_1, hx315_2, hx315_3, hx315_4⟩ := iq (Kd.R_reads' HO_3.out).2.2 0 p315 q315
     cases e315
     have qi315 : (0 < t299.length) = True := eq_true (by omega)
     (try rw [show ((0 : Int)).toNat = 0 from rfl] at hx315_0)
     (try rw [show 0 * 5 = 0 from rfl] at hx315_0)
     (try rw [Addr.add_zero'] at hx315_0)
     (try rw [show ((0 : Int)).toNat = 0 from rfl] at hx315_1)
     (try rw [show 0 * 5 = 0 from rfl] at hx315_1)
     (try rw [Addr.add_zero'] at hx315_1)
     (try rw [show ((0 : Int)).toNat = 0 from rfl] at hx315_2)
     (try rw [show 0 * 5 = 0 from rfl] at hx315_2)
     (try rw [Addr.add_zero'] at hx315_2)
     (try rw [show ((0 : Int)).toNat = 0 from rfl] at hx315_3)
     (try rw [show 0 * 5 = 0 from rfl] at hx315_3)
     (try rw [Addr.add_zero'] at hx315_3)
     (try rw [show ((0 : Int)).toNat = 0 from rfl] at hx315_4)
     (try rw [show 0 * 5 = 0 from rfl] at hx315_4)
     (try rw [Addr.add_zero'] at hx315_4)
     replace p315 := eq_true p315
     replace q315 := eq_true q315
     go_wp2_with (first | ((with_reducible refine gate_callee (f := 51) rfl ?_); refine goesL_ (some 31) rfl rfl Try.func51 (by kernel_rfl) rfl #[.pointer (some ⟨g, 0, none⟩), .string (⟨#[61]⟩ : ByteArray)] rfl Z3 ?_; (with_reducible refine (ak.calls g s0_0 x1001_2 x1002_2 (⟨#[61]⟩ : ByteArray) t316 t317 w0 _ ?side1 ?side2 A21.out).mono ?_); (case side1 => exact Z0); (case side2 => exact Z2); rintro e w24 ⟨rfl, hi, hb, hk⟩; refine ⟨_, rfl, ?_⟩; have n0_ := Aside0.mk (Kd.bi (Kd.gz (ah.apart (show ah w0 _ g s0_0 x1001_2 x1002_2 from Z0) Z22 (by decide)) hk (fun _ h => h.2)) (fun _ h => h.1)); have n1_ := Aside0.mk (af.trans Z1 hk (.inl rfl)); have n2_ := Aside0.mk (hb); have n3_ := Aside0.mk (hi); clear HO_3; clear HK; clear HB; clear HI0; have HO_3 := n0_; have HK := n1_; have HB := n2_; have HI0 := n3_; clear n0_ n1_ n2_ n3_; (try clear hb); have p318 : 0 ≤ (0 : Int) := (by omega); have q318 : 0 < (t299.length : Int) := of_decide_eq_true Z8; obtain ⟨ad318, e318, hx318_0, hx318_1, hx318_2, hx318_3, hx318_4⟩ := iq (Kd.R_reads' HO_3.out).2.2 0 p318 q318; obtain rfl : ad315 = ad318 := (by injection e318); have qi318 : (0 < t299.length) = True := eq_true (by omega); (try rw [show ((0 : Int)).toNat = 0 from rfl] at hx318_0); (try rw [show 0 * 5 = 0 from rfl] at hx318_0); (try rw [Addr.add_zero'] at hx318_0); (try rw [show ((0 : Int)).toNat = 0 from rfl] at hx318_1); (try rw [show 0 * 5 = 0 from rfl] at hx318_1); (try rw [Addr.add_zero'] at hx318_1); (try rw [show ((0 : Int)).toNat = 0 from rfl] at hx318_2); (try rw [show 0 * 5 = 0 from rfl] at hx318_2); (try rw [Addr.add_zero'] at hx318_2); (try rw [show ((0 : Int)).toNat = 0 from rfl] at hx318_3); (try rw [show 0 * 5 = 0 from rfl] at hx318_3); (try rw [Addr.add_zero'] at hx318_3); (try rw [show ((0 : Int)).toNat = 0 from rfl] at hx318_4); (try rw [show 0 * 5 = 0 from rfl] at hx318_4); (try rw [Addr.add_zero'] at hx318_4); replace p318 := eq_true p318; replace q318 := eq_true q318) | ((with_reducible refine gate_callee (f := 76) rfl ?_); refine goesL_ (some 38) rfl rfl Try.func76 (by kernel_rfl) rfl #[.pointer (some ⟨g, 0, none⟩), .agg #[.int .i64 7, .int .i64 0, .string ((ax t299 0).f2), .int .i64 0, .string (⟨#[]⟩ : ByteArray)]] rfl Z3 ?_; (with_reducible refine (aY.calls F HF kj2 g s0_0 t316 t317 7 0 ((ax t299 0).f2) 0 (⟨#[]⟩ : ByteArray) t319 t322 t323 w0 _ ?side1 ?side2 A22.out).mono ?_); (case side1 => exact Z0); (case side2 => exact Z2); rintro e w25 ⟨v320, rfl, ho0, hi, hb, hk⟩; refine ⟨_, rfl, ?_⟩; have n0_ := Aside0.mk (Kd.bi (Kd.o6 (Kd.o7 (ah.apart (show ah w0 _ g s0_0 t316 t317 from Z0) Z22 (by decide)) hk) (Kd.dH ho0)) (fun _ h_ => h_.1)); have n1_ := Aside0.mk (Kd.R_lower (Kd.jB ho0 (Kd.lT Z22)) (aH (w := w) (g := g) (row := none) Z1)); have n2_ := Aside0.mk (af.trans Z1 hk (.inl rfl)); have n3_ := Aside0.mk (hb); have n4_ := Aside0.mk (hi); clear HO_3; clear HK; clear HB; clear HI0; have HO_3 := n0_; have HO321 := n1_; have HK := n2_; have HB := n3_; have HI0 := n4_; clear n0_ n1_ n2_ n3_ n4_; (try clear hb); (try clear ho0)))
     go_ret
     exact ⟨_, Z5, by (with_reducible repeat (first | apply Kd.R_alloc | apply Kd.R_drewN | apply Kd.R_drew)); exact Kd.bi HO321.out (fun _ hk => trivial), Z0, Z2, Z1⟩
    rw [if_neg c20] at H
    have c20b0 : (((ax t299 0).f0) == 21) = false := beq_eq_false_iff_ne.mpr c20
    have c20b1 : (((ax t299 0).f0) != 21) = true := bne_iff_ne.mpr c20
    by_cases c26 : ((ax t299 0).f0) = 26
    ·rw [if_pos c26] at H
     have c26b0 : (((ax t299 0).f0) == 26) = true := beq_iff_eq.mpr c26
     have c26b1 : (((ax t299 0).f0) != 26) = false := bne_eq_false_iff_eq.mpr c26
     clear c26
     replace H := Option.bind_eq_some_iff.mp H
     obtain ⟨⟨t325, t326⟩, A270, H⟩ := H
     try dsimp only at H
     have A27 := Aside0.mk A270
     clear A270
     replace H := Option.bind_eq_some_iff.mp H
     obtain ⟨t327, A280, H⟩ := H
     try dsimp only at H
     have A28 := Aside0.mk A280
     clear A280
     replace H := Option.bind_eq_some_iff.mp H
     obtain ⟨⟨t330, t333, t334⟩, A290, H⟩ := H
     try dsimp only at H
     have A29 := Aside0.mk A290
     clear A290
     replace H := Option.bind_eq_some_iff.mp H
     obtain ⟨⟨t335, t336⟩, A300, H⟩ := H
     try dsimp only at H
     have A30 := Aside0.mk A300
     clear A300
     by_cases c31 : 0 < (t327.length : Int)
     ·rw [if_pos c31] at H
      have c31b0 : decide (0 < (t327.length : Int)) = true := decide_eq_true c31
      have c31b1 : decide (0 < t327.length) = true := decide_eq_true (by omega)
      clear c31
      replace H := Option.bind_eq_some_iff.mp H
      obtain ⟨t338, A320, H⟩ := H
      try dsimp only at H
      have A32 := Aside0.mk A320
      clear A320
      by_cases c33 : 1 < (t327.length : Int)
      ·rw [if_pos c33] at H
       have c33b0 : decide (1 < (t327.length : Int)) = true := decide_eq_true c33
       have c33b1 : decide (1 < t327.length) = true := decide_eq_true (by omega)
       clear c33
       replace H := Option.bind_eq_some_iff.mp H
       obtain ⟨t342, A340, H⟩ := H
       try dsimp only at H
       have A34 := Aside0.mk A340
       clear A340
       obtain ⟨y345, hy345⟩ : ∃ y_ : List (List (S41)), y_ = (([t338, t342, t330] : List (List (S41)))) := ⟨_, rfl⟩
       replace H : ((aj.f kj2 8 0 (⟨#[]⟩ : ByteArray) 0 (⟨#[]⟩ : ByteArray) y345).bind fun t348 => (some (t348, t335, t336))) = some (r1, r2, r3) := by first | (rw [hy345]; with_reducible exact H) | (have H2_ := (Option.bind_some _ _).symm.trans H; rw [hy345]; with_reducible exact H2_) | (have H2_ := (Option.bind_some _ _).symm.trans H; with_reducible exact H2_) | with_reducible exact H | (rw [hy345]; exact H) | exact H
       have Ny345 := Aside0.mk hy345
       clear hy345
       replace H := Option.bind_eq_some_iff.mp H
       obtain ⟨t348, A350, H⟩ := H
       replace H : (some (t348, t335, t336)) = some (r1, r2, r3) := H
       have A35 := Aside0.mk A350
       clear A350
       simp only [Option.some.injEq, Prod.mk.injEq] at H
       obtain ⟨rfl, rfl, rfl⟩ := H
       obtain ⟨Ao36, co36, eo36⟩ := Kd.R_slice HO_3.out
       subst eo36
       have p315 : 0 ≤ (0 : Int) := (by omega)
       have q315 : 0 < (t299.length : Int) := of_decide_eq_true Z8
       obtain ⟨ad315, e315, hx315_0, hx315_1, hx315_2, hx315_3, hx315_4⟩ := iq (Kd.R_reads' HO_3.out).2.2 0 p315 q315
       cases e315
       have qi315 : (0 < t299.length) = True := eq_true (by omega)
       (try rw [show ((0 : Int)).toNat = 0 from rfl] at hx315_0)
       (try rw [show 0 * 5 = 0 from rfl] at hx315_0)
       (try rw [Addr.add_zero'] at hx315_0)
       (try rw [show ((0 : Int)).toNat = 0 from rfl] at hx315_1)
       (try rw [show 0 * 5 = 0 from rfl] at hx315_1)
       (try rw [Addr.add_zero'] at hx315_1)
       (try rw [show ((0 : Int)).toNat = 0 from rfl] at hx315_2)
       (try rw [show 0 * 5 = 0 from rfl] at hx315_2)
       (try rw [Addr.add_zero'] at hx315_2)
       (try rw [show ((0 : Int)).toNat = 0 from rfl] at hx315_3)
       (try rw [show 0 * 5 = 0 from rfl] at hx315_3)
       (try rw [Addr.add_zero'] at hx315_3)
       (try rw [show ((0 : Int)).toNat = 0 from rfl] at hx315_4)
       (try rw [show 0 * 5 = 0 from rfl] at hx315_4)
       (try rw [Addr.add_zero'] at hx315_4)
       replace p315 := eq_true p315
       replace q315 := eq_true q315
       have p324 : 0 ≤ (0 : Int) := (by omega)
       have q324 : 0 < (t299.length : Int) := of_decide_eq_true Z8
       obtain ⟨ad324, e324, hx324_0, hx324_1, hx324_2, hx324_3, hx324_4⟩ := iq (Kd.R_reads' HO_3.out).2.2 0 p324 q324
       obtain rfl : ad315 = ad324 := (by injection e324)
       have qi324 : (0 < t299.length) = True := eq_true (by omega)
       (try rw [show ((0 : Int)).toNat = 0 from rfl] at hx324_0)
       (try rw [show 0 * 5 = 0 from rfl] at hx324_0)
       (try rw [Addr.add_zero'] at hx324_0)
       (try rw [show ((0 : Int)).toNat = 0 from rfl] at hx324_1)
       (try rw [show 0 * 5 = 0 from rfl] at hx324_1)
       (try rw [Addr.add_zero'] at hx324_1)
       (try rw [show ((0 : Int)).toNat = 0 from rfl] at hx324_2)
       (try rw [show 0 * 5 = 0 from rfl] at hx324_2)
       (try rw [Addr.add_zero'] at hx324_2)
       (try rw [show ((0 : Int)).toNat = 0 from rfl] at hx324_3)
       (try rw [show 0 * 5 = 0 from rfl] at hx324_3)
       (try rw [Addr.add_zero'] at hx324_3)
       (try rw [show ((0 : Int)).toNat = 0 from rfl] at hx324_4)
       (try rw [show 0 * 5 = 0 from rfl] at hx324_4)
       (try rw [Addr.add_zero'] at hx324_4)
       replace p324 := eq_true p324
       replace q324 := eq_true q324
       try go_wp2_with (first | ((with_reducible refine gate_callee (f := 51) rfl ?_); refine goesL_ (some 46) rfl rfl Try.func51 (by kernel_rfl) rfl #[.pointer (some ⟨g, 0, none⟩), .string (⟨#[61]⟩ : ByteArray)] rfl Z3 ?_; (with_reducible refine (ak.calls g s0_0 x1001_2 x1002_2 (⟨#[61]⟩ : ByteArray) t325 t326 w0 _ ?side1 ?side2 A27.out).mono ?_); (case side1 => exact Z0); (case side2 => exact Z2); rintro e w37 ⟨rfl, hi, hb, hk⟩; refine ⟨_, rfl, ?_⟩; have n0_ := Aside0.mk (Kd.bi (Kd.gz (ah.apart (show ah w0 _ g s0_0 x1001_2 x1002_2 from Z0) Z22 (by decide)) hk (fun _ h => h.2)) (fun _ h => h.1)); have n1_ := Aside0.mk (af.trans Z1 hk (.inl rfl)); have n2_ := Aside0.mk (hb); have n3_ := Aside0.mk (hi); clear HO_3; clear HK; clear HB; clear HI0; have HO_3 := n0_; have HK := n1_; have HB := n2_; have HI0 := n3_; clear n0_ n1_ n2_ n3_; (try clear hb)) | ((with_reducible refine gate_callee (f := 19) rfl ?_); refine goesL_ (some 48) rfl rfl Try.func19 (by kernel_rfl) rfl #[.slice (some ad315) t299.length co36, .int .i64 0] rfl Z3 ?_; (with_reducible refine (bJ.calls kj2 _ _ t299 0 t327 _ ?side1 ?side2 A28.out).mono ?_); (case side1 => repeat (first | exact (Kd.R_reads' HO_3.out).2.2 | (with_reducible refine Kd.C_alloc ?_ _) | (with_reducible refine Kd.C_drewN ?_ _) | (with_reducible refine Kd.C_drew ?_))); (case side2 => exact (Kd.R_reads' HO_3.out).2.1); rintro e w38 ⟨v328, rfl, ho0, hb⟩; refine ⟨_, rfl, ?_⟩; have n0_ := Aside0.mk (Kd.R_below Z22 hb); have n1_ := Aside0.mk (Kd.R_lower ho0 (aH (w := w) (g := g) (row := none) Z1)); have n2_ := Aside0.mk (ah.below Z0 hb); have n3_ := Aside0.mk (af.trans Z1 (af.of_below hb g none) (.inl rfl)); have n4_ := Aside0.mk (below_step Z2 hb); clear HO_3; clear HI0; clear HK; clear HB; have HO_3 := n0_; have HO329 := n1_; have HI0 := n2_; have HK := n3_; have HB := n4_; clear n0_ n1_ n2_ n3_ n4_; (try clear hb); (try clear ho0)) | ((with_reducible refine gate_callee (f := 77) rfl ?_); refine goesL_ (some 50) rfl rfl Try.func77 (by kernel_rfl) rfl #[.pointer (some ⟨g, 0, none⟩)] rfl Z3 ?_; (with_reducible refine (dI.calls F HF kj2 g s0_0 t325 t326 t330 t333 t334 w0 _ ?side1 ?side2 A29.out).mono ?_); (case side1 => exact Z0); (case side2 => exact Z2); rintro e w39 ⟨v331, rfl, ho0, hi, hb, hk⟩; refine ⟨_, rfl, ?_⟩; have n0_ := Aside0.mk (Kd.bi (Kd.o6 (Kd.o7 (ah.apart (show ah w0 _ g s0_0 t325 t326 from Z0) Z22 (by decide)) hk) (Kd.dH ho0)) (fun _ h_ => h_.1)); have n1_ := Aside0.mk (Kd.bi (Kd.gz (ah.apart (show ah w0 _ g s0_0 t325 t326 from Z0) Z49 (by decide)) hk (fun _ h => h.2)) (fun _ h => h.1)); have n2_ := Aside0.mk (Kd.R_lower (Kd.jB ho0 (Kd.lT Z22)) (aH (w := w) (g := g) (row := none) Z1)); have n3_ := Aside0.mk (af.trans Z1 hk (.inl rfl)); have n4_ := Aside0.mk (hb); have n5_ := Aside0.mk (hi); clear HO_3; clear HO329; clear HK; clear HB; clear HI0; have HO_3 := n0_; have HO329 := n1_; have HO332 := n2_; have HK := n3_; have HB := n4_; have HI0 := n5_; clear n0_ n1_ n2_ n3_ n4_ n5_; (try clear hb); (try clear ho0)) | ((with_reducible refine gate_callee (f := 51) rfl ?_); refine goesL_ (some 52) rfl rfl Try.func51 (by kernel_rfl) rfl #[.pointer (some ⟨g, 0, none⟩), .string (⟨#[59]⟩ : ByteArray)] rfl Z3 ?_; (with_reducible refine (ak.calls g s0_0 t333 t334 (⟨#[59]⟩ : ByteArray) t335 t336 w0 _ ?side1 ?side2 A30.out).mono ?_); (case side1 => exact Z0); (case side2 => exact Z2); rintro e w40 ⟨rfl, hi, hb, hk⟩; refine ⟨_, rfl, ?_⟩; have n0_ := Aside0.mk (Kd.bi (Kd.gz (ah.apart (show ah w0 _ g s0_0 t333 t334 from Z0) Z22 (by decide)) hk (fun _ h => h.2)) (fun _ h => h.1)); have n1_ := Aside0.mk (Kd.bi (Kd.gz (ah.apart (show ah w0 _ g s0_0 t333 t334 from Z0) Z49 (by decide)) hk (fun _ h => h.2)) (fun _ h => h.1)); have n2_ := Aside0.mk (Kd.bi (Kd.gz (ah.apart (show ah w0 _ g s0_0 t333 t334 from Z0) Z59 (by decide)) hk (fun _ h => h.2)) (fun _ h => h.1)); have n3_ := Aside0.mk (af.trans Z1 hk (.inl rfl)); have n4_ := Aside0.mk (hb); have n5_ := Aside0.mk (hi); clear HO_3; clear HO329; clear HO332; clear HK; clear HB; clear HI0; have HO_3 := n0_; have HO329 := n1_; have HO332 := n2_; have HK := n3_; have HB := n4_; have HI0 := n5_; clear n0_ n1_ n2_ n3_ n4_ n5_; (try clear hb)))
       have n0_ := Aside0.mk (Kd.R_drew HO_3.out)
       have n1_ := Aside0.mk (Kd.R_drew HO329.out)
       have n2_ := Aside0.mk (Kd.R_drew HO332.out)
       have n3_ := Aside0.mk (ah.drew HI0.out)
       have n4_ := Aside0.mk (gK HK.out)
       have n5_ := Aside0.mk (below_drew1 HB.out)
       clear HO_3
       clear HO329
       clear HO332
       clear HI0
       clear HK
       clear HB
       have HO_3 := n0_
       have HO329 := n1_
       have HO332 := n2_
       have HI0 := n3_
       have HK := n4_
       have HB := n5_
       clear n0_ n1_ n2_ n3_ n4_ n5_
       obtain ⟨Ao42, co42, eo42⟩ := Kd.R_slice HO329.out
       (first | subst eo42 | (injection eo42 with f1_ f2_ f3_; have f4_ := f1_.symm; have f5_ := f3_.symm; clear f1_ f2_ f3_; subst f4_; subst f5_))
       have p337 : 0 ≤ (0 : Int) := (by omega)
       have q337 : 0 < (t327.length : Int) := of_decide_eq_true Z8
       obtain ⟨ad337, e337, hx337_0⟩ := Kd.iR (Kd.R_reads' HO329.out).2.2 0 p337 q337
       cases e337
       have qi337 : (0 < t327.length) = True := eq_true (by omega)
       (try rw [show ((0 : Int)).toNat = 0 from rfl] at hx337_0)
       (try rw [Addr.add_zero'] at hx337_0)
       replace p337 := eq_true p337
       replace q337 := eq_true q337
       have p341 : 0 ≤ (1 : Int) := (by omega)
       have q341 : 1 < (t327.length : Int) := of_decide_eq_true Z8
       obtain ⟨ad341, e341, hx341_0⟩ := Kd.iR (Kd.R_reads' HO329.out).2.2 1 p341 q341
       obtain rfl : ad337 = ad341 := (by injection e341)
       (try simp only [show (1 : Int).toNat = 1 from rfl, Nat.reduceMul, Nat.reduceEqDiff, Go.Addr.add, ↓reduceIte] at hx341_0)
       have qi341 : (1 < t327.length) = True := eq_true (by omega)
       (try rw [show ((1 : Int)).toNat = 1 from rfl] at hx341_0)
       replace p341 := eq_true p341
       replace q341 := eq_true q341
       refine iQ (n := 15) (S := fun w' => w'.cell? ad337 = some (.int .i64 (rd t327 0)) ∧ w'.cell? ⟨ad337.block, ad337.off + 1, none⟩ = some (.int .i64 (rd t327 1))) (ds := []) #[false, false, false, false, false, false, false, false, false, false, false, false, false, false, false] (by kernel_rfl) rfl rfl ⟨hx337_0, hx341_0⟩ (fun hHeld => ?_); refine fA aK.DI aK.Dl (fun HT_ HW_ => ?_)
       generalize w40.drew = w41 at HO_3 HO329 HO332 HI0 HK HB hx337_0 hx341_0 hHeld ⊢
       refine aN (i := 0) (N := some 53) (v := ?_) (a' := ?_) #[true, false, false, false, false, false, false, false, false, false, false, false, false, false, false] rfl rfl (aA HT_.out (by kernel_rfl)) (fun _ _ _ h => h) (Or.inl ⟨by rfl, ?_⟩) ?_ ?_
       rotate_left
       ·intro w'
        go_simp
        with_reducible rfl
       rotate_left
       ·simp only [Act.put, List.setIfInBounds_toArray, List.set_cons_zero, List.set_cons_succ, aC, aG]
        rfl
       refine aN (i := 1) (N := some 54) (v := ?_) (a' := ?_) #[true, true, false, false, false, false, false, false, false, false, false, false, false, false, false] rfl rfl (aA HT_.out (by kernel_rfl)) (fun _ _ _ h => h) (Or.inl ⟨by rfl, ?_⟩) ?_ ?_
       rotate_left
       ·intro w'
        go_simp
        with_reducible rfl
       rotate_left
       ·simp only [Act.put, List.setIfInBounds_toArray, List.set_cons_zero, List.set_cons_succ, aC, aG]
        rfl
       refine aN (i := 2) (N := some 55) (v := ?_) (a' := ?_) #[true, true, true, false, false, false, false, false, false, false, false, false, false, false, false] rfl rfl (aA HT_.out (by kernel_rfl)) (fun _ _ _ h => h) (Or.inl ⟨by rfl, ?_⟩) ?_ ?_
       rotate_left
       ·intro w'
        go_simp
        with_reducible rfl
       rotate_left
       ·simp only [Act.put, List.setIfInBounds_toArray, List.set_cons_zero, List.set_cons_succ, aC, aG]
        rfl
       refine aN (i := 3) (N := some 56) (v := ?_) (a' := ?_) #[true, true, true, true, false, false, false, false, false, false, false, false, false, false, false] rfl rfl (aA HT_.out (by kernel_rfl)) (fun _ _ _ h => h) (Or.inl ⟨by rfl, ?_⟩) ?_ ?_
       rotate_left
       ·intro w'
        go_simp
        with_reducible rfl
       rotate_left
       ·simp only [Act.put, List.setIfInBounds_toArray, List.set_cons_zero, List.set_cons_succ, aC, aG]
        rfl
       refine aN (i := 6) (N := some 59) (v := ?_) (a' := ?_) #[true, true, true, true, false, false, true, false, false, false, false, false, false, false, false] rfl rfl (aA HT_.out (by kernel_rfl)) (fun _ _ _ h => h) (Or.inl ⟨by rfl, ?_⟩) ?_ ?_
       rotate_left
       ·intro w'
        go_simp
        with_reducible rfl
       rotate_left
       ·simp only [Act.put, List.setIfInBounds_toArray, List.set_cons_zero, List.set_cons_succ, aC, aG]
        rfl
       refine aN (i := 7) (N := some 60) (v := ?_) (a' := ?_) #[true, true, true, true, false, false, true, true, false, false, false, false, false, false, false] rfl rfl (aA HT_.out (by kernel_rfl)) (fun _ _ _ h => h) (Or.inl ⟨by rfl, ?_⟩) ?_ ?_
       rotate_left
       ·intro w'
        go_simp
        with_reducible rfl
       rotate_left
       ·simp only [Act.put, List.setIfInBounds_toArray, List.set_cons_zero, List.set_cons_succ, aC, aG]
        rfl
       refine aN (i := 8) (N := some 61) (v := ?_) (a' := ?_) #[true, true, true, true, false, false, true, true, true, false, false, false, false, false, false] rfl rfl (aA HT_.out (by kernel_rfl)) (fun _ _ _ h => h) (Or.inl ⟨by rfl, ?_⟩) ?_ ?_
       rotate_left
       ·intro w'
        go_simp
        with_reducible rfl
       rotate_left
       ·simp only [Act.put, List.setIfInBounds_toArray, List.set_cons_zero, List.set_cons_succ, aC, aG]
        rfl
       refine aN (i := 11) (N := some 64) (v := ?_) (a' := ?_) #[true, true, true, true, false, false, true, true, true, false, false, true, false, false, false] rfl rfl (aA HT_.out (by kernel_rfl)) (fun _ _ _ h => h) (Or.inl ⟨by rfl, ?_⟩) ?_ ?_
       rotate_left
       ·intro w'
        go_simp
        with_reducible rfl
       rotate_left
       ·simp only [Act.put, List.setIfInBounds_toArray, List.set_cons_zero, List.set_cons_succ, aC, aG]
        rfl
       refine lC (i := 4) (N := some 57) (v := ?_) (a' := ?_) #[true, true, true, true, true, false, true, true, true, false, false, true, false, false, false] rfl rfl (jk HT_.out HW_.out (by kernel_rfl)) (fun _ _ _ h => h) (Or.inl ⟨by rfl, ?_⟩) hHeld ?_ ?_
       rotate_left
       ·rintro w' ⟨s0, s1⟩
        go_simp
        with_reducible rfl
       rotate_left
       ·simp only [Act.put, List.setIfInBounds_toArray, List.set_cons_zero, List.set_cons_succ, aC, aG]
        rfl
       refine lC (i := 9) (N := some 62) (v := ?_) (a' := ?_) #[true, true, true, true, true, false, true, true, true, true, false, true, false, false, false] rfl rfl (jk HT_.out HW_.out (by kernel_rfl)) (fun _ _ _ h => h) (Or.inl ⟨by rfl, ?_⟩) hHeld ?_ ?_
       rotate_left
       ·rintro w' ⟨s0, s1⟩
        go_simp
        with_reducible rfl
       rotate_left
       ·simp only [Act.put, List.setIfInBounds_toArray, List.set_cons_zero, List.set_cons_succ, aC, aG]
        rfl
       refine kH (i := 5) (N := some 58) #[true, true, true, true, true, true, true, true, true, true, false, true, false, false, false] rfl rfl (iE HT_.out (by kernel_rfl)) (by decide) (fun K hK => ?_)
       refine jq Try.func81 (by kernel_rfl) rfl #[.slice (some ad315) t299.length co36, .int .i64 (rd t327 0)] (by rfl) rfl rfl Z3 ?_
       with_reducible refine (ed.calls kj2 _ _ t299 (rd t327 0) t338 _ ?side1 ?side2 A32.out).mono ?_
       (case side1 => repeat (first | exact (Kd.R_reads' HO_3.out).2.2 | (with_reducible refine Kd.C_alloc ?_ _) | (with_reducible refine Kd.C_drewN ?_ _) | (with_reducible refine Kd.C_drew ?_)))
       (case side2 => exact (Kd.R_reads' HO_3.out).2.1)
       rintro e w43 ⟨v339, rfl, ho0, hb⟩
       have HS0_ := (hb.cell (World.block_lt_of_cell? _ _ (hHeld.1))).trans (hHeld.1)
       have HS1_ := (hb.cell (World.block_lt_of_cell? _ _ (hHeld.2))).trans (hHeld.2)
       refine ⟨_, rfl, ?_⟩
       have n0_ := Aside0.mk (Kd.jJ Z22 (Kd.dH ho0) hb)
       have n1_ := Aside0.mk (Kd.R_below Z49 hb)
       have n2_ := Aside0.mk (Kd.jJ Z59 (Kd.dH ho0) hb)
       have n3_ := Aside0.mk (Kd.R_lower (Kd.jB (Kd.jB ho0 (Kd.lT Z22)) (Kd.lT Z59)) (aH (w := w) (g := g) (row := none) Z1))
       have n4_ := Aside0.mk (ah.below Z0 hb)
       have n5_ := Aside0.mk (af.trans Z1 (af.of_below hb g none) (.inl rfl))
       have n6_ := Aside0.mk (below_step Z2 hb)
       clear HO_3
       clear HO329
       clear HO332
       clear HI0
       clear HK
       clear HB
       have HO_3 := n0_
       have HO329 := n1_
       have HO332 := n2_
       have HO340 := n3_
       have HI0 := n4_
       have HK := n5_
       have HB := n6_
       clear n0_ n1_ n2_ n3_ n4_ n5_ n6_
       (try clear hb)
       (try clear hb2)
       (try clear hk)
       (try clear hi)
       (try clear ho0)
       refine hK.out _ _ ⟨HS0_, HS1_⟩ (fun hHeld => ?_)
       clear hK K
       refine iM (a' := ?_) ?_ ?_
       rotate_left
       ·show Act.put _ (some 58) _ = _
        simp only [Act.put, List.setIfInBounds_toArray, List.set_cons_zero, List.set_cons_succ, aC, aG]
        rfl
       refine kH (i := 10) (N := some 63) #[true, true, true, true, true, true, true, true, true, true, true, true, false, false, false] rfl rfl (iE HT_.out (by kernel_rfl)) (by decide) (fun K hK => ?_)
       refine jq Try.func81 (by kernel_rfl) rfl #[.slice (some ad315) t299.length co36, .int .i64 (rd t327 1)] (by rfl) rfl rfl Z3 ?_
       with_reducible refine (ed.calls kj2 _ _ t299 (rd t327 1) t342 _ ?side1 ?side2 A34.out).mono ?_
       (case side1 => repeat (first | exact (Kd.R_reads' HO_3.out).2.2 | (with_reducible refine Kd.C_alloc ?_ _) | (with_reducible refine Kd.C_drewN ?_ _) | (with_reducible refine Kd.C_drew ?_)))
       (case side2 => exact (Kd.R_reads' HO_3.out).2.1)
       rintro e w44 ⟨v343, rfl, ho0, hb⟩
       have HS0_ := (hb.cell (World.block_lt_of_cell? _ _ (hHeld.1))).trans (hHeld.1)
       have HS1_ := (hb.cell (World.block_lt_of_cell? _ _ (hHeld.2))).trans (hHeld.2)
       refine ⟨_, rfl, ?_⟩
       have n0_ := Aside0.mk (Kd.jJ Z22 (Kd.dH ho0) hb)
       have n1_ := Aside0.mk (Kd.R_below Z49 hb)
       have n2_ := Aside0.mk (Kd.jJ Z59 (Kd.dH ho0) hb)
       have n3_ := Aside0.mk (Kd.jJ (by (with_reducible repeat (first | apply Kd.R_alloc | apply Kd.R_drewN | apply Kd.R_drew)); exact HO340.out) (Kd.dH ho0) hb)
       have n4_ := Aside0.mk (Kd.R_lower (Kd.jB (Kd.jB (Kd.jB ho0 (Kd.lT Z22)) (Kd.lT Z59)) (Kd.lT (by (with_reducible repeat (first | apply Kd.R_alloc | apply Kd.R_drewN | apply Kd.R_drew)); exact HO340.out))) (aH (w := w) (g := g) (row := none) Z1))
       have n5_ := Aside0.mk (ah.below Z0 hb)
       have n6_ := Aside0.mk (af.trans Z1 (af.of_below hb g none) (.inl rfl))
       have n7_ := Aside0.mk (below_step Z2 hb)
       clear HO_3
       clear HO329
       clear HO332
       clear HO340
       clear HI0
       clear HK
       clear HB
       have HO_3 := n0_
       have HO329 := n1_
       have HO332 := n2_
       have HO340 := n3_
       have HO344 := n4_
       have HI0 := n5_
       have HK := n6_
       have HB := n7_
       clear n0_ n1_ n2_ n3_ n4_ n5_ n6_ n7_
       (try clear hb)
       (try clear hb2)
       (try clear hk)
       (try clear hi)
       (try clear ho0)
       obtain ⟨Ao45, co45, eo45⟩ := Kd.R_slice HO340.out
       (first | subst eo45 | (injection eo45 with f1_ f2_ f3_; have f4_ := f1_.symm; have f5_ := f3_.symm; clear f1_ f2_ f3_; subst f4_; subst f5_))
       obtain ⟨Ao46, co46, eo46⟩ := Kd.R_slice HO344.out
       (first | subst eo46 | (injection eo46 with f1_ f2_ f3_; have f4_ := f1_.symm; have f5_ := f3_.symm; clear f1_ f2_ f3_; subst f4_; subst f5_))
       obtain ⟨Ao47, co47, eo47⟩ := Kd.R_slice HO332.out
       (first | subst eo47 | (injection eo47 with f1_ f2_ f3_; have f4_ := f1_.symm; have f5_ := f3_.symm; clear f1_ f2_ f3_; subst f4_; subst f5_))
       refine hK.out _ _ ⟨HS0_, HS1_⟩ (fun hHeld => ?_)
       clear hK K
       refine iM (a' := ?_) ?_ ?_
       rotate_left
       ·show Act.put _ (some 63) _ = _
        simp only [Act.put, List.setIfInBounds_toArray, List.set_cons_zero, List.set_cons_succ, aC, aG]
        rfl
       refine kH (i := 12) (N := some 65) #[true, true, true, true, true, true, true, true, true, true, true, true, true, false, false] rfl rfl (iE HT_.out (by kernel_rfl)) (by decide) (fun K hK => ?_)
       refine Kd.wM (Kd.slice 41 k41) _ 23 ?hg (N' := 65) ?hd (xs := ([t338, t342, t330] : List (List (S41)))) (inner := [.slice Ao45 t338.length co45, .slice Ao46 t342.length co46, .slice Ao47 t330.length co47]) (ok := (fun k_ => some k_ ≠ (.slice (some ad315) t299.length co36 : Value).ownBlock ∧ some k_ ≠ (.slice (some ad337) t327.length co42 : Value).ownBlock ∧ k_ ≠ g)) (okp := (fun k_ => some k_ ≠ (.slice (some ad315) t299.length co36 : Value).ownBlock ∧ some k_ ≠ (.slice (some ad337) t327.length co42 : Value).ownBlock ∧ k_ ≠ g)) ?hr ?hp (fun _ hk => hk) ((show ∀ k_, w44.heap.size ≤ k_ → (fun k_ => some k_ ≠ (.slice (some ad315) t299.length co36 : Value).ownBlock ∧ some k_ ≠ (.slice (some ad337) t327.length co42 : Value).ownBlock ∧ k_ ≠ g) k_ from fun k_ hk => ⟨Kd.fresh' (Kd.lT Z22) k_ hk, Kd.fresh' (Kd.lT Z49) k_ hk, ah.fresh Z0 k_ hk⟩) _ (Nat.le_refl _)) (Below.refl _ _) (Nat.le_refl _) (by simp) ?_; (case hd => rfl); (case hg => rfl); (case hr => first | (go_simp; done) | (go_simp; rfl)); (case hp => exact (dw.one (show Kd.FK (Kd.slice 41 k41) _ _ t338 [.slice Ao45 t338.length co45] from (Kd.dF (Kd.R_reads' (Kd.bi (ok' := (fun k_ => some k_ ≠ (.slice (some ad315) t299.length co36 : Value).ownBlock ∧ some k_ ≠ (.slice (some ad337) t327.length co42 : Value).ownBlock ∧ k_ ≠ g)) (ah.apart HI0.out (Kd.dJ (HO340.out) (Kd.kR HO329.out) (by decide)) (by decide)) (fun k_ hk => ⟨hk.1.1.1.1.2, ⟨hk.1.2, hk.2⟩⟩))).2.1 (Kd.R_F (Kd.bi (ok' := (fun k_ => some k_ ≠ (.slice (some ad315) t299.length co36 : Value).ownBlock ∧ some k_ ≠ (.slice (some ad337) t327.length co42 : Value).ownBlock ∧ k_ ≠ g)) (ah.apart HI0.out (Kd.dJ (HO340.out) (Kd.kR HO329.out) (by decide)) (by decide)) (fun k_ hk => ⟨hk.1.1.1.1.2, ⟨hk.1.2, hk.2⟩⟩))))) (dw.one (show Kd.FK (Kd.slice 41 k41) _ _ t342 [.slice Ao46 t342.length co46] from (Kd.dF (Kd.R_reads' (Kd.bi (ok' := (fun k_ => some k_ ≠ (.slice (some ad315) t299.length co36 : Value).ownBlock ∧ some k_ ≠ (.slice (some ad337) t327.length co42 : Value).ownBlock ∧ k_ ≠ g)) (ah.apart HI0.out (Kd.dJ (HO344.out) (Kd.kR HO329.out) (by decide)) (by decide)) (fun k_ hk => ⟨hk.1.1.1.1.2, ⟨hk.1.2, hk.2⟩⟩))).2.1 (Kd.R_F (Kd.bi (ok' := (fun k_ => some k_ ≠ (.slice (some ad315) t299.length co36 : Value).ownBlock ∧ some k_ ≠ (.slice (some ad337) t327.length co42 : Value).ownBlock ∧ k_ ≠ g)) (ah.apart HI0.out (Kd.dJ (HO344.out) (Kd.kR HO329.out) (by decide)) (by decide)) (fun k_ hk => ⟨hk.1.1.1.1.2, ⟨hk.1.2, hk.2⟩⟩))))) (dw.one (show Kd.FK (Kd.slice 41 k41) _ _ t330 [.slice Ao47 t330.length co47] from (Kd.dF (Kd.R_reads' (Kd.bi (ok' := (fun k_ => some k_ ≠ (.slice (some ad315) t299.length co36 : Value).ownBlock ∧ some k_ ≠ (.slice (some ad337) t327.length co42 : Value).ownBlock ∧ k_ ≠ g)) (ah.apart HI0.out (Kd.dJ (HO332.out) (Kd.kR HO329.out) (by decide)) (by decide)) (fun k_ hk => ⟨hk.1.1.1.1.2, ⟨hk.1.2, hk.2⟩⟩))).2.1 (Kd.R_F (Kd.bi (ok' := (fun k_ => some k_ ≠ (.slice (some ad315) t299.length co36 : Value).ownBlock ∧ some k_ ≠ (.slice (some ad337) t327.length co42 : Value).ownBlock ∧ k_ ≠ g)) (ah.apart HI0.out (Kd.dJ (HO332.out) (Kd.kR HO329.out) (by decide)) (by decide)) (fun k_ hk => ⟨hk.1.1.1.1.2, ⟨hk.1.2, hk.2⟩⟩))))) (dw.none _ _)))))
       intro v346 w48 ho49 hb hg_ hnew_
       have HS0_ := (hb.cell (World.block_lt_of_cell? _ _ (hHeld.1))).trans (hHeld.1)
       have HS1_ := (hb.cell (World.block_lt_of_cell? _ _ (hHeld.2))).trans (hHeld.2)
       clear hg_ hnew_
       (first | rw [← Ny345.out] at ho49 | (simp only [Int.reduceToNat] at ho49; rw [← Ny345.out] at ho49))
       have n0_ := Aside0.mk (Kd.R_below Z22 hb)
       have n1_ := Aside0.mk (Kd.R_below Z49 hb)
       have n2_ := Aside0.mk (Kd.iL ho49 (aH (w := w) (g := g) (row := none) Z1))
       have n3_ := Aside0.mk (ah.below Z0 hb)
       have n4_ := Aside0.mk (af.trans Z1 (af.of_below hb g none) (.inl rfl))
       have n5_ := Aside0.mk (below_step Z2 hb)
       clear HO_3
       clear HO329
       clear HI0
       clear HK
       clear HB
       clear HO332
       clear HO340
       clear HO344
       have HO_3 := n0_
       have HO329 := n1_
       have HO347 := n2_
       have HI0 := n3_
       have HK := n4_
       have HB := n5_
       clear n0_ n1_ n2_ n3_ n4_ n5_
       clear hb ho49
       obtain ⟨Ao50, co50, eo50⟩ := Kd.iK HO347.out
       (first | subst eo50 | (injection eo50 with f1_ f2_ f3_; have f4_ := f1_.symm; have f5_ := f3_.symm; clear f1_ f2_ f3_; subst f4_; subst f5_))
       refine hK.out _ _ ⟨HS0_, HS1_⟩ (fun hHeld => ?_)
       clear hK K
       refine iM (a' := ?_) ?_ ?_
       rotate_left
       ·show Act.put _ (some 65) _ = _
        simp only [Act.put, List.setIfInBounds_toArray, List.set_cons_zero, List.set_cons_succ, aC, aG]
        rfl
       refine kH (i := 13) (N := some 66) #[true, true, true, true, true, true, true, true, true, true, true, true, true, true, false] rfl rfl (iE HT_.out (by kernel_rfl)) (by decide) (fun K hK => ?_)
       refine jq Try.func56 (by kernel_rfl) rfl #[.agg #[.int .i64 8, .int .i64 0, .string (⟨#[]⟩ : ByteArray), .int .i64 0, .string (⟨#[]⟩ : ByteArray)], .slice Ao50 y345.length co50] (by rfl) rfl rfl Z3 ?_
       with_reducible refine (aj.calls kj2 8 0 (⟨#[]⟩ : ByteArray) 0 (⟨#[]⟩ : ByteArray) _ _ y345 t348 _ ?side1 ?side2 A35.out).mono ?_
       (case side1 => repeat (first | exact (Kd.dQ HO347.out).2.2 | (with_reducible refine Kd.C_alloc ?_ _) | (with_reducible refine Kd.C_drewN ?_ _) | (with_reducible refine Kd.C_drew ?_)))
       (case side2 => exact (Kd.dQ HO347.out).2.1)
       rintro e w51 ⟨v349, rfl, ho0, hb⟩
       have HS0_ := (hb.cell (World.block_lt_of_cell? _ _ (hHeld.1))).trans (hHeld.1)
       have HS1_ := (hb.cell (World.block_lt_of_cell? _ _ (hHeld.2))).trans (hHeld.2)
       refine ⟨_, rfl, ?_⟩
       have n0_ := Aside0.mk (Kd.jJ Z22 (Kd.dH ho0) hb)
       have n1_ := Aside0.mk (Kd.R_below Z49 hb)
       have n2_ := Aside0.mk (Kd.gW (by (with_reducible repeat (first | apply Kd.eH | apply Kd.eG | apply Kd.fK)); exact HO347.out) (Kd.dH ho0) hb)
       have n3_ := Aside0.mk (Kd.R_lower (Kd.jB ho0 (Kd.lT Z22)) (aH (w := w) (g := g) (row := none) Z1))
       have n4_ := Aside0.mk (ah.below Z0 hb)
       have n5_ := Aside0.mk (af.trans Z1 (af.of_below hb g none) (.inl rfl))
       have n6_ := Aside0.mk (below_step Z2 hb)
       clear HO_3
       clear HO329
       clear HO347
       clear HI0
       clear HK
       clear HB
       have HO_3 := n0_
       have HO329 := n1_
       have HO347 := n2_
       have HO350 := n3_
       have HI0 := n4_
       have HK := n5_
       have HB := n6_
       clear n0_ n1_ n2_ n3_ n4_ n5_ n6_
       (try clear hb)
       (try clear hb2)
       (try clear hk)
       (try clear hi)
       (try clear ho0)
       refine hK.out _ _ ⟨HS0_, HS1_⟩ (fun hHeld => ?_)
       clear hK K
       refine iM (a' := ?_) ?_ ?_
       rotate_left
       ·show Act.put _ (some 66) _ = _
        simp only [Act.put, List.setIfInBounds_toArray, List.set_cons_zero, List.set_cons_succ, aC, aG]
        rfl
       refine aN (i := 14) (N := some 2) (v := ?_) (a' := ?_) #[true, true, true, true, true, true, true, true, true, true, true, true, true, true, true] rfl rfl (aA HT_.out (by kernel_rfl)) (fun _ _ _ h => h) (Or.inl ⟨by rfl, ?_⟩) ?_ ?_
       rotate_left
       ·intro w'
        go_simp
        with_reducible rfl
       rotate_left
       ·simp only [Act.put, List.setIfInBounds_toArray, List.set_cons_zero, List.set_cons_succ, aC, aG]
        rfl
       refine jQ (iF HT_.out (by kernel_rfl)) ?_
       try go_wp2
       go_ret
       exact ⟨_, Z5, by (with_reducible repeat (first | apply Kd.R_alloc | apply Kd.R_drewN | apply Kd.R_drew)); exact Kd.bi HO350.out (fun _ hk => trivial), Z0, Z2, Z1⟩
      rw [if_neg c33] at H
      exact absurd H (by simp)
     rw [if_neg c31] at H
     exact absurd H (by simp)
    rw [if_neg c26] at H
    have c26b0 : (((ax t299 0).f0) == 26) = false := beq_eq_false_iff_ne.mpr c26
    have c26b1 : (((ax t299 0).f0) != 26) = true := bne_iff_ne.mpr c26
    simp only [Option.some.injEq, Prod.mk.injEq] at H
    obtain ⟨rfl, rfl, rfl⟩ := H
    obtain ⟨Ao52, co52, eo52⟩ := Kd.R_slice HO_3.out
    subst eo52
    have p315 : 0 ≤ (0 : Int) := (by omega)
    have q315 : 0 < (t299.length : Int) := of_decide_eq_true Z8
    obtain ⟨ad315, e315, hx315_0, hx315_1, hx315_2, hx315_3, hx315_4⟩ := iq (Kd.R_reads' HO_3.out).2.2 0 p315 q315
    cases e315
    have qi315 : (0 < t299.length) = True := eq_true (by omega)
    (try rw [show ((0 : Int)).toNat = 0 from rfl] at hx315_0)
    (try rw [show 0 * 5 = 0 from rfl] at hx315_0)
    (try rw [Addr.add_zero'] at hx315_0)
    (try rw [show ((0 : Int)).toNat = 0 from rfl] at hx315_1)
    (try rw [show 0 * 5 = 0 from rfl] at hx315_1)
    (try rw [Addr.add_zero'] at hx315_1)
    (try rw [show ((0 : Int)).toNat = 0 from rfl] at hx315_2)
    (try rw [show 0 * 5 = 0 from rfl] at hx315_2)
    (try rw [Addr.add_zero'] at hx315_2)
    (try rw [show ((0 : Int)).toNat = 0 from rfl] at hx315_3)
    (try rw [show 0 * 5 = 0 from rfl] at hx315_3)
    (try rw [Addr.add_zero'] at hx315_3)
    (try rw [show ((0 : Int)).toNat = 0 from rfl] at hx315_4)
    (try rw [show 0 * 5 = 0 from rfl] at hx315_4)
    (try rw [Addr.add_zero'] at hx315_4)
    replace p315 := eq_true p315
    replace q315 := eq_true q315
    have p324 : 0 ≤ (0 : Int) := (by omega)
    have q324 : 0 < (t299.length : Int) := of_decide_eq_true Z8
    obtain ⟨ad324, e324, hx324_0, hx324_1, hx324_2, hx324_3, hx324_4⟩ := iq (Kd.R_reads' HO_3.out).2.2 0 p324 q324
    obtain rfl : ad315 = ad324 := (by injection e324)
    have qi324 : (0 < t299.length) = True := eq_true (by omega)
    (try rw [show ((0 : Int)).toNat = 0 from rfl] at hx324_0)
    (try rw [show 0 * 5 = 0 from rfl] at hx324_0)
    (try rw [Addr.add_zero'] at hx324_0)
    (try rw [show ((0 : Int)).toNat = 0 from rfl] at hx324_1)
    (try rw [show 0 * 5 = 0 from rfl] at hx324_1)
    (try rw [Addr.add_zero'] at hx324_1)
    (try rw [show ((0 : Int)).toNat = 0 from rfl] at hx324_2)
    (try rw [show 0 * 5 = 0 from rfl] at hx324_2)
    (try rw [Addr.add_zero'] at hx324_2)
    (try rw [show ((0 : Int)).toNat = 0 from rfl] at hx324_3)
    (try rw [show 0 * 5 = 0 from rfl] at hx324_3)
    (try rw [Addr.add_zero'] at hx324_3)
    (try rw [show ((0 : Int)).toNat = 0 from rfl] at hx324_4)
    (try rw [show 0 * 5 = 0 from rfl] at hx324_4)
    (try rw [Addr.add_zero'] at hx324_4)
    replace p324 := eq_true p324
    replace q324 := eq_true q324
    obtain ⟨ASz53_0, cSz53_0, HGz53, hgz53, HSz53_0⟩ := HI0.out
    have hcz53_0 := df HGz53
    have hcz53_1 := cZ HGz53
    have hcz53_2 := cO HGz53
    have hfz53_1 := ae HGz53 1
    have hfz53_2 := ae HGz53 2
    clear HGz53 hgz53
    go_wp2
    go_ret
    exact ⟨_, Z5, Z23, Z0, Z2, Z1⟩
   rw [if_neg c19] at H
   exact absurd H (by simp)
end Go.Proofs.Ytendgafpkeadhaa.Q
