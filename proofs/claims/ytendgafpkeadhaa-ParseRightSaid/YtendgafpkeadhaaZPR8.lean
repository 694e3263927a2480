/- Walks over functions of the program, words for them, and what the functions come to; of each text only what this claim uses; no condition. -/
import Derived.Test.YtendgafpkeadhaaZPR0
import Derived.Test.YtendgafpkeadhaaZPR2
import Derived.Test.YtendgafpkeadhaaZPR3
import Derived.Test.YtendgafpkeadhaaZPR4
import Derived.Test.YtendgafpkeadhaaZPR7
section
namespace Go.Proofs.Ytendgafpkeadhaa.Q
open Go.RowKit Go.Proofs.YtendgafpkeadhaaW.PrintWords Go.Proofs.YtendgafpkeadhaaW.PrintLast Go.Proofs.YtendgafpkeadhaaW.PrintMore
attribute [local go_sem] max2_int min2_int max_two min_two max_three min_three max_four min_four
set_option linter.unusedVariables false
set_option linter.unusedSimpArgs false
/-! ### bH: function 49 -/
def bH.l0 : Nat → ByteArray → List Int → Bool → Int → Option (ByteArray × Int)
 | 0, _, _, _, _ => none
 | k + 1, x0, x4, x5, x6 => if x6 < (x0.size : Int) then (if 0 ≤ x6 then (if x5 = true then ((iH.f (bt x0 x6)).bind fun bt179 => (if bt179.2 = true then (if x4.length < 140737488355328 then (bH.l0 k x0 (x4 ++ [bt179.1]) false (wrap64 (x6 + 1))) else (none)) else (some ((⟨#[]⟩ : ByteArray), 0)))) else (if (bt x0 x6) = 34 then (some (strOfNums x4, wrap64 (x6 + 1))) else (if (bt x0 x6) = 10 then (some ((⟨#[]⟩ : ByteArray), 0)) else (if (bt x0 x6) = 92 then (bH.l0 k x0 x4 true (wrap64 (x6 + 1))) else (if x4.length < 140737488355328 then (bH.l0 k x0 (x4 ++ [bt x0 x6]) x5 (wrap64 (x6 + 1))) else (none)))))) else (none)) else (some ((⟨#[]⟩ : ByteArray), 0))
def bH.f (k : Nat) (a0 : ByteArray) : Option (ByteArray × Int) := bH.l0 k a0 ([] : List Int) false 1
theorem bH.mono_l : ∀ k, (∀ y0 y1 y2 y3, LeO (bH.l0 k y0 y1 y2 y3) (bH.l0 (k + 1) y0 y1 y2 y3))
 | 0 => fun _ _ _ _ r h => by simp [bH.l0] at h
 | k + 1 => by
  have ih0 := bH.mono_l k
  intro y0 y1 y2 y3
  unfold bH.l0
  repeat' first
  | (with_reducible exact ih0 _ _ _ _)
  | (with_reducible exact LeO.refl _)
  | (with_reducible exact LeO.none _)
  | (with_reducible refine LeO.ite ?_ ?_)
  | (with_reducible refine LeO.bind ?_ (fun _ => ?_))
  | exact ih0 _ _ _ _
  | exact LeO.none _
  | refine LeO.ite ?_ ?_
  | refine LeO.bind ?_ (fun _ => ?_)
theorem bH.mono : ∀ a0 k, LeO (bH.f k a0) (bH.f (k + 1) a0) := by
 intro a0 k
 have ih0 := bH.mono_l k
 unfold bH.f
 repeat' first
  | (with_reducible exact ih0 _ _ _ _)
  | (with_reducible exact LeO.refl _)
  | (with_reducible exact LeO.none _)
  | (with_reducible refine LeO.ite ?_ ?_)
  | (with_reducible refine LeO.bind ?_ (fun _ => ?_))
  | exact ih0 _ _ _ _
  | exact LeO.none _
  | refine LeO.ite ?_ ?_
  | refine LeO.bind ?_ (fun _ => ?_)
set_option maxHeartbeats 8000000 in
set_option maxRecDepth 100000 in
theorem bH.calls (k : Nat) (a0 : ByteArray) (r1 : ByteArray) (r2 : Int) (w : World) (h : bH.f k a0 = some (r1, r2)) :
 Calls Try.prog 49 #[.string a0] w fun e w' => e = .returned (.tuple #[.string r1, .int .i64 r2]) ∧ Below w.heap.size w w' := by
 have HB := Aside0.mk (Below.refl w.heap.size w)
 have H : (bH.l0 k a0 ([] : List Int) false 1) = some (r1, r2) := h
 clear h
 have H' := Aside0.mk H
 clear H
 go_enter Try.func49, Try.ntmps49
 go_wp2
 go_loopg [4, 5, 6] k (fun kq v4 v5 v6 w' => ∃ (x4_1 : List Int) (x5_1 : Bool) (x6_1 : Int), v5 = .bool x5_1 ∧ v6 = .int .i64 x6_1 ∧ Aside0 (bH.l0 kq a0 x4_1 x5_1 x6_1 = some (r1, r2)) ∧ Aside0 (kq ≤ k) ∧ Aside0 (Kd.R (Kd.int .u8) 5 w' w.heap.size (fun _ => True) v4 x4_1) ∧ Aside0 (Below w.heap.size w w'))
 case atStart => exact ⟨(([] : List Int)), (false), (1), Z7, Z7, H', ⟨Nat.le_refl _⟩, ⟨Z23⟩, ⟨Z4⟩⟩
 case round =>
  clear H'
  obtain ⟨x4_1, x5_1, x6_1, rfl, rfl, HA, HK1, HO_4, HB⟩ := hrel
  cases gk with
  | zero => exact absurd HA.out (by simp [bH.l0])
  | succ k1 =>
   have H := HA.out
   clear HA
   simp only [bH.l0] at H
   by_cases c2 : x6_1 < (a0.size : Int)
   ·rw [if_pos c2] at H
    have c2b0 : decide (x6_1 < (a0.size : Int)) = true := decide_eq_true c2
    clear c2
    by_cases c3 : 0 ≤ x6_1
    ·rw [if_pos c3] at H
     have c3b0 : decide (0 ≤ x6_1) = true := decide_eq_true c3
     clear c3
     by_cases c5 : x5_1 = true
     ·subst c5
      rw [if_pos rfl] at H
      have H1 := H
      clear H
      have H := H1
      clear H1
      replace H := Option.bind_eq_some_iff.mp H
      obtain ⟨⟨t179, t180⟩, A60, H⟩ := H
      try dsimp only at H
      have A6 := Aside0.mk A60
      clear A60
      by_cases c7 : t180 = true
      ·subst c7
       have H1 : (if x4_1.length < 140737488355328 then (bH.l0 k1 a0 (x4_1 ++ [t179]) false (wrap64 (x6_1 + 1))) else (none)) = some (r1, r2) := by rw [if_pos rfl] at H; exact H
       clear H
       have H := H1
       clear H1
       by_cases c8 : x4_1.length < 140737488355328
       ·rw [if_pos c8] at H
        have LMc8 := Aside0.mk c8
        clear c8
        obtain ⟨y181, hy181⟩ : ∃ y_ : List Int, y_ = (x4_1 ++ [t179]) := ⟨_, rfl⟩
        replace H : (bH.l0 k1 a0 y181 false (wrap64 (x6_1 + 1))) = some (r1, r2) := by first | (rw [hy181]; with_reducible exact H) | (have H2_ := (Option.bind_some _ _).symm.trans H; rw [hy181]; with_reducible exact H2_) | (have H2_ := (Option.bind_some _ _).symm.trans H; with_reducible exact H2_) | with_reducible exact H | (rw [hy181]; exact H) | exact H
        have Ny181 := Aside0.mk hy181
        clear hy181
        have H' := Aside0.mk H
        clear H
        have p4 : 0 ≤ (x6_1 : Int) := of_decide_eq_true Z8
        have q4 : x6_1 < (a0.size : Int) := of_decide_eq_true Z8
        have hx4 := iO a0 x6_1
        replace p4 := eq_true p4
        replace q4 := eq_true q4
        go_wp2_with (first | ((with_reducible refine gate_callee (f := 69) rfl ?_); refine goesL_ (some 27) rfl rfl Try.func69 (by kernel_rfl) rfl #[.int .u8 (bt a0 x6_1)] rfl Z3 ?_; (with_reducible refine (iH.calls (bt a0 x6_1) t179 true _ A6.out).mono ?_); rintro e w' ⟨rfl, ⟨nd, rfl⟩⟩; refine ⟨_, rfl, ?_⟩) | ((with_reducible refine dD (b := .append) (xs := #[.tmp 32, .tmp 34]) rfl ?_); at_builtin; refine Kd.jK (Kd.int .u8) (w0 := w) w.heap.size rfl (.tmp 32) (.tmp 34) 81 5 (.int .u8 0) 1 rfl Try.underlying81 info5 rfl (by decide) (by omega) u4 x4_1 t179 [.int .u8 t179] (fun _ => True) (fun _ => False) rfl rfl ?aP (fun _ hk => hk.elim) ?aF ?aO ?aB ?aS ?aL ?_; (case aP => exact rfl); (case aB => exact Z4); (case aF => exact (fun _ _ => trivial)); (case aO => exact Z29); (case aS => exact (below_size Z4)); (case aL => have := LMc8.out; omega); intro v182 w9 ho hb hg hat; rw [← Ny181.out] at ho; have n0_ := Aside0.mk (hb); have n1_ := Aside0.mk (ho); clear HB; clear HO_4; have HB := n0_; have HO183 := n1_; clear n0_ n1_; clear ho hb hg hat))
        go_roundg k1
        case measure => have := HK1.out; omega
        case rel => exact ⟨(y181), (false), (wrap64 (x6_1 + 1)), Z7, Z7, H', ⟨by have := HK1.out; omega⟩, ⟨by (with_reducible repeat (first | apply Kd.R_alloc | apply Kd.R_drewN | apply Kd.R_drew)); exact HO183.out⟩, ⟨Z4⟩⟩
       rw [if_neg c8] at H
       exact absurd H (by simp)
      replace c7 := Bool.eq_false_iff.mpr c7
      subst c7
      have H1 : (some ((⟨#[]⟩ : ByteArray), 0)) = some (r1, r2) := by rw [if_neg (show ¬ (false = true) by decide)] at H; exact H
      clear H
      have H := H1
      clear H1
      simp only [Option.some.injEq, Prod.mk.injEq] at H
      obtain ⟨rfl, rfl⟩ := H
      have p4 : 0 ≤ (x6_1 : Int) := of_decide_eq_true Z8
      have q4 : x6_1 < (a0.size : Int) := of_decide_eq_true Z8
      have hx4 := iO a0 x6_1
      replace p4 := eq_true p4
      replace q4 := eq_true q4
      go_wp2_with (first | ((with_reducible refine gate_callee (f := 69) rfl ?_); refine goesL_ (some 27) rfl rfl Try.func69 (by kernel_rfl) rfl #[.int .u8 (bt a0 x6_1)] rfl Z3 ?_; (with_reducible refine (iH.calls (bt a0 x6_1) t179 false _ A6.out).mono ?_); rintro e w' ⟨rfl, ⟨nd, rfl⟩⟩; refine ⟨_, rfl, ?_⟩))
      go_ret2
      exact ⟨Z5, Z4⟩
     replace c5 := Bool.eq_false_iff.mpr c5
     subst c5
     rw [if_neg (show ¬ (false = true) by decide)] at H
     have H1 := H
     clear H
     have H := H1
     clear H1
     by_cases c10 : (bt a0 x6_1) = 34
     ·rw [if_pos c10] at H
      have c10b0 : ((bt a0 x6_1) == 34) = true := beq_iff_eq.mpr c10
      have c10b1 : ((bt a0 x6_1) != 34) = false := bne_eq_false_iff_eq.mpr c10
      clear c10
      simp only [Option.some.injEq, Prod.mk.injEq] at H
      obtain ⟨rfl, rfl⟩ := H
      have p4 : 0 ≤ (x6_1 : Int) := of_decide_eq_true Z8
      have q4 : x6_1 < (a0.size : Int) := of_decide_eq_true Z8
      have hx4 := iO a0 x6_1
      replace p4 := eq_true p4
      replace q4 := eq_true q4
      have hcv11 := vP (P := Try.prog) Try.underlying81 Try.underlying5 Try.underlying9 (Kd.qi HO_4.out)
      go_wp2
      go_ret2
      exact ⟨Z5, Z4⟩
     rw [if_neg c10] at H
     have c10b0 : ((bt a0 x6_1) == 34) = false := beq_eq_false_iff_ne.mpr c10
     have c10b1 : ((bt a0 x6_1) != 34) = true := bne_iff_ne.mpr c10
     by_cases c12 : (bt a0 x6_1) = 10
     ·rw [if_pos c12] at H
      have c12b0 : ((bt a0 x6_1) == 10) = true := beq_iff_eq.mpr c12
      have c12b1 : ((bt a0 x6_1) != 10) = false := bne_eq_false_iff_eq.mpr c12
      clear c12
      simp only [Option.some.injEq, Prod.mk.injEq] at H
      obtain ⟨rfl, rfl⟩ := H
      have p4 : 0 ≤ (x6_1 : Int) := of_decide_eq_true Z8
      have q4 : x6_1 < (a0.size : Int) := of_decide_eq_true Z8
      have hx4 := iO a0 x6_1
      replace p4 := eq_true p4
      replace q4 := eq_true q4
      go_wp2
      go_ret2
      exact ⟨Z5, Z4⟩
     rw [if_neg c12] at H
     have c12b0 : ((bt a0 x6_1) == 10) = false := beq_eq_false_iff_ne.mpr c12
     have c12b1 : ((bt a0 x6_1) != 10) = true := bne_iff_ne.mpr c12
     by_cases c13 : (bt a0 x6_1) = 92
     ·rw [if_pos c13] at H
      have c13b0 : ((bt a0 x6_1) == 92) = true := beq_iff_eq.mpr c13
      have c13b1 : ((bt a0 x6_1) != 92) = false := bne_eq_false_iff_eq.mpr c13
      clear c13
      have H' := Aside0.mk H
      clear H
      have p4 : 0 ≤ (x6_1 : Int) := of_decide_eq_true Z8
      have q4 : x6_1 < (a0.size : Int) := of_decide_eq_true Z8
      have hx4 := iO a0 x6_1
      replace p4 := eq_true p4
      replace q4 := eq_true q4
      go_wp2
      go_roundg k1
      case measure => have := HK1.out; omega
      case rel => exact ⟨(x4_1), (true), (wrap64 (x6_1 + 1)), Z7, Z7, H', ⟨by have := HK1.out; omega⟩, ⟨Z29⟩, ⟨Z4⟩⟩
     rw [if_neg c13] at H
     have c13b0 : ((bt a0 x6_1) == 92) = false := beq_eq_false_iff_ne.mpr c13
     have c13b1 : ((bt a0 x6_1) != 92) = true := bne_iff_ne.mpr c13
     by_cases c14 : x4_1.length < 140737488355328
     ·rw [if_pos c14] at H
      have LMc14 := Aside0.mk c14
      clear c14
      obtain ⟨y184, hy184⟩ : ∃ y_ : List Int, y_ = (x4_1 ++ [bt a0 x6_1]) := ⟨_, rfl⟩
      replace H : (bH.l0 k1 a0 y184 false (wrap64 (x6_1 + 1))) = some (r1, r2) := by first | (rw [hy184]; with_reducible exact H) | (have H2_ := (Option.bind_some _ _).symm.trans H; rw [hy184]; with_reducible exact H2_) | (have H2_ := (Option.bind_some _ _).symm.trans H; with_reducible exact H2_) | with_reducible exact H | (rw [hy184]; exact H) | exact H
      have Ny184 := Aside0.mk hy184
      clear hy184
      have H' := Aside0.mk H
      clear H
      have p4 : 0 ≤ (x6_1 : Int) := of_decide_eq_true Z8
      have q4 : x6_1 < (a0.size : Int) := of_decide_eq_true Z8
      have hx4 := iO a0 x6_1
      replace p4 := eq_true p4
      replace q4 := eq_true q4
      go_wp2_with (first | ((with_reducible refine dD (b := .append) (xs := #[.tmp 19, .tmp 21]) rfl ?_); at_builtin; refine Kd.jK (Kd.int .u8) (w0 := w) w.heap.size rfl (.tmp 19) (.tmp 21) 81 5 (.int .u8 0) 1 rfl Try.underlying81 info5 rfl (by decide) (by omega) u4 x4_1 (bt a0 x6_1) [.int .u8 (bt a0 x6_1)] (fun _ => True) (fun _ => False) rfl rfl ?aP (fun _ hk => hk.elim) ?aF ?aO ?aB ?aS ?aL ?_; (case aP => exact rfl); (case aB => exact Z4); (case aF => exact (fun _ _ => trivial)); (case aO => exact Z29); (case aS => exact (below_size Z4)); (case aL => have := LMc14.out; omega); intro v185 w15 ho hb hg hat; rw [← Ny184.out] at ho; have n0_ := Aside0.mk (hb); have n1_ := Aside0.mk (ho); clear HB; clear HO_4; have HB := n0_; have HO186 := n1_; clear n0_ n1_; clear ho hb hg hat))
      go_roundg k1
      case measure => have := HK1.out; omega
      case rel => exact ⟨(y184), (false), (wrap64 (x6_1 + 1)), Z7, Z7, H', ⟨by have := HK1.out; omega⟩, ⟨by (with_reducible repeat (first | apply Kd.R_alloc | apply Kd.R_drewN | apply Kd.R_drew)); exact HO186.out⟩, ⟨Z4⟩⟩
     rw [if_neg c14] at H
     exact absurd H (by simp)
    rw [if_neg c3] at H
    exact absurd H (by simp)
   rw [if_neg c2] at H
   have c2b0 : decide (x6_1 < (a0.size : Int)) = false := decide_eq_false c2
   clear c2
   simp only [Option.some.injEq, Prod.mk.injEq] at H
   obtain ⟨rfl, rfl⟩ := H
   go_wp2
   go_ret2
   exact ⟨Z5, Z4⟩
end Go.Proofs.Ytendgafpkeadhaa.Q
end
section
namespace Go.Proofs.Ytendgafpkeadhaa.Q
open Go.RowKit Go.Proofs.YtendgafpkeadhaaW.PrintWords Go.Proofs.YtendgafpkeadhaaW.PrintLast Go.Proofs.YtendgafpkeadhaaW.PrintMore
attribute [local go_sem] max2_int min2_int max_two min_two max_three min_three max_four min_four
set_option linter.unusedVariables false
set_option linter.unusedSimpArgs false
/-! ### cu: function 50 -/
def cu.j0 : Nat → ByteArray → Bool → Option (ByteArray)
 | 0, _, _ => none
 | k + 1, x0, x16 => if x16 = true then (if 0 ≤ 2 then (if 2 ≤ (x0.size : Int) then (some (x0.extract 0 2)) else (none)) else (none)) else (if 0 ≤ 1 then (if 1 ≤ (x0.size : Int) then ((bG.f k (⟨#[40, 41, 123, 125, 91, 93, 44, 59, 46, 47, 61, 60, 43, 45, 42, 37]⟩ : ByteArray) (x0.extract 0 1)).bind fun t188 => (if t188 = true then (some (x0.extract 0 1)) else (some (⟨#[]⟩ : ByteArray)))) else (none)) else (none))
def cu.f (k : Nat) (a0 : ByteArray) : Option (ByteArray) := if (a0.size : Int) > 1 then (if 0 ≤ 2 then (if 2 ≤ (a0.size : Int) then (if (a0.extract 0 2).size + 1 ≤ 9223372036854775807 then ((bG.f k (⟨#[61, 61, 32, 33, 61, 32, 60, 61, 32, 46, 46, 32]⟩ : ByteArray) ((a0.extract 0 2) ++ (⟨#[32]⟩ : ByteArray))).bind fun t187 => (if t187 = true then (if 1 < (a0.size : Int) then (cu.j0 k a0 ((bt a0 1) != 32)) else (none)) else (cu.j0 k a0 false))) else (none)) else (none)) else (none)) else (cu.j0 k a0 false)
theorem cu.mono_l : ∀ k, (∀ y0 y1, LeO (cu.j0 k y0 y1) (cu.j0 (k + 1) y0 y1))
 | 0 => fun _ _ r h => by simp [cu.j0] at h
 | k + 1 => by
  have ih0 := cu.mono_l k
  intro y0 y1
  unfold cu.j0
  repeat' first
  | (with_reducible exact ih0 _ _)
  | (with_reducible exact bG.mono _ _ _)
  | (with_reducible exact LeO.refl _)
  | (with_reducible exact LeO.none _)
  | (with_reducible refine LeO.ite ?_ ?_)
  | (with_reducible refine LeO.bind ?_ (fun _ => ?_))
  | exact ih0 _ _
  | exact bG.mono _ _ _
  | exact LeO.none _
  | refine LeO.ite ?_ ?_
  | refine LeO.bind ?_ (fun _ => ?_)
theorem cu.mono : ∀ a0 k, LeO (cu.f k a0) (cu.f (k + 1) a0) := by
 intro a0 k
 have ih0 := cu.mono_l k
 unfold cu.f
 repeat' first
  | (with_reducible exact ih0 _ _)
  | (with_reducible exact bG.mono _ _ _)
  | (with_reducible exact LeO.refl _)
  | (with_reducible exact LeO.none _)
  | (with_reducible refine LeO.ite ?_ ?_)
  | (with_reducible refine LeO.bind ?_ (fun _ => ?_))
  | exact ih0 _ _
  | exact bG.mono _ _ _
  | exact LeO.none _
  | refine LeO.ite ?_ ?_
  | refine LeO.bind ?_ (fun _ => ?_)
set_option maxHeartbeats 8000000 in
set_option maxRecDepth 100000 in
theorem cu.calls (k : Nat) (a0 : ByteArray) (r : ByteArray) (w : World) (h : cu.f k a0 = some r) :
 Calls Try.prog 50 #[.string a0] w fun e w' => e = .returned (.string r) ∧ dA w w' := by
 have H : (if (a0.size : Int) > 1 then (if 0 ≤ 2 then (if 2 ≤ (a0.size : Int) then (if (a0.extract 0 2).size + 1 ≤ 9223372036854775807 then ((bG.f k (⟨#[61, 61, 32, 33, 61, 32, 60, 61, 32, 46, 46, 32]⟩ : ByteArray) ((a0.extract 0 2) ++ (⟨#[32]⟩ : ByteArray))).bind fun t187 => (if t187 = true then (if 1 < (a0.size : Int) then (cu.j0 k a0 ((bt a0 1) != 32)) else (none)) else (cu.j0 k a0 false))) else (none)) else (none)) else (none)) else (cu.j0 k a0 false)) = some r := h
 clear h
 have HC2 := Aside0.mk H
 clear H
 go_enter Try.func50, Try.ntmps50
 go_upto_region 1 with (fail)
 go_cut [16] (fun v16 wc => ∃ (kq : Nat) (x16_1 : Bool), v16 = .bool x16_1 ∧ Aside0 (cu.j0 kq a0 x16_1 = some r) ∧ Aside0 (kq ≤ k) ∧ dA w wc)
 case first =>
  have H := HC2.out
  clear HC2
  by_cases c3 : (a0.size : Int) > 1
  ·rw [if_pos c3] at H
   have c3b0 : decide (1 < (a0.size : Int)) = true := decide_eq_true c3
   have c3b1 : decide (1 < a0.size) = true := decide_eq_true (by omega)
   clear c3
   (first | rw [c3b0] | (simp only [aC, aG]; rw [c3b0]) | skip)
   by_cases c4 : 0 ≤ 2
   ·rw [if_pos c4] at H
    have c4b0 := eq_true c4
    have c4b1 : decide (0 ≤ 2) = true := decide_eq_true c4
    clear c4
    by_cases c5 : 2 ≤ (a0.size : Int)
    ·rw [if_pos c5] at H
     have c5b0 := eq_true c5
     have c5b1 : decide (2 ≤ (a0.size : Int)) = true := decide_eq_true c5
     clear c5
     by_cases c6 : (a0.extract 0 2).size + 1 ≤ 9223372036854775807
     ·rw [if_pos c6] at H
      have c6b0 := eq_true c6
      have c6b1 : decide ((a0.extract 0 2).size + 1 ≤ 9223372036854775807) = true := decide_eq_true c6
      try have c6b2 : (9223372036854775807 < (a0.extract 0 2).size + 1) = False := eq_false (Nat.not_lt.2 c6)
      replace H := Option.bind_eq_some_iff.mp H
      obtain ⟨t187, A70, H⟩ := H
      replace H : (if t187 = true then (if 1 < (a0.size : Int) then (cu.j0 k a0 ((bt a0 1) != 32)) else (none)) else (cu.j0 k a0 false)) = some r := H
      have A7 := Aside0.mk A70
      clear A70
      by_cases c8 : t187 = true
      ·subst c8
       have H1 : (if 1 < (a0.size : Int) then (cu.j0 k a0 ((bt a0 1) != 32)) else (none)) = some r := by rw [if_pos rfl] at H; exact H
       clear H
       have H := H1
       clear H1
       by_cases c9 : 1 < (a0.size : Int)
       ·rw [if_pos c9] at H
        have c9b0 : decide (1 < (a0.size : Int)) = true := decide_eq_true c9
        have c9b1 : decide (1 < a0.size) = true := decide_eq_true (by omega)
        clear c9
        have H' := Aside0.mk H
        clear H
        go_wp2_with (first | (go_at_call 68; (with_reducible refine (bG.calls k (⟨#[61, 61, 32, 33, 61, 32, 60, 61, 32, 46, 46, 32]⟩ : ByteArray) ((a0.extract 0 2) ++ (⟨#[32]⟩ : ByteArray)) true _ A7.out).mono ?_); rintro e w' ⟨rfl, ⟨nd, rfl⟩⟩; have p10 : 0 ≤ (1 : Int) := (by omega); have q10 : 1 < a0.size := (by have : (1 : Int) < (a0.size : Int) := of_decide_eq_true Z8; omega); have hx10 : ∀ h : 1 < a0.size, ((a0[1]'h).toNat : Int) = bt a0 1 := iO a0 1; clear p10; have qi10 : (1 < (a0.size : Int)) = True := eq_true (of_decide_eq_true Z8); replace q10 := eq_true q10))
        go_meet
        case rel => exact ⟨_, (((bt a0 1) != 32)), Z7, H', ⟨Z35⟩, Z10⟩
       rw [if_neg c9] at H
       exact absurd H (by simp)
      replace c8 := Bool.eq_false_iff.mpr c8
      subst c8
      have H1 : (cu.j0 k a0 false) = some r := by rw [if_neg (show ¬ (false = true) by decide)] at H; exact H
      clear H
      have H := H1
      clear H1
      have H' := Aside0.mk H
      clear H
      go_wp2_with (first | (go_at_call 68; (with_reducible refine (bG.calls k (⟨#[61, 61, 32, 33, 61, 32, 60, 61, 32, 46, 46, 32]⟩ : ByteArray) ((a0.extract 0 2) ++ (⟨#[32]⟩ : ByteArray)) false _ A7.out).mono ?_); rintro e w' ⟨rfl, ⟨nd, rfl⟩⟩))
      go_meet
      case rel => exact ⟨_, (false), Z7, H', ⟨Z35⟩, Z10⟩
     rw [if_neg c6] at H
     exact absurd H (by simp)
    rw [if_neg c5] at H
    exact absurd H (by simp)
   rw [if_neg c4] at H
   exact absurd H (by simp)
  rw [if_neg c3] at H
  have c3b0 : decide (1 < (a0.size : Int)) = false := decide_eq_false c3
  have c3b1 : decide (1 < a0.size) = false := decide_eq_false (by omega)
  clear c3
  (first | rw [c3b0] | (simp only [aC, aG]; rw [c3b0]) | skip)
  have H' := Aside0.mk H
  clear H
  go_wp2
  go_meet
  case rel => exact ⟨_, (false), Z7, H', ⟨Z35⟩, Z10⟩
 case rest =>
  clear HC2
  try clear p1
  try clear q1
  try clear hx1
  try clear qi1
  try clear p2
  try clear c3
  try clear c3b0
  try clear c3b1
  try clear c4
  try clear c4b0
  try clear c4b1
  try clear c5
  try clear c5b0
  try clear c5b1
  try clear c6
  try clear c6b0
  try clear c6b1
  try clear c6b2
  try clear c8
  try clear c9
  try clear c9b0
  try clear c9b1
  try clear p10
  try clear q10
  try clear hx10
  try clear qi10
  try clear p10
  try clear q10
  obtain ⟨kq, x16_1, rfl, HA, HJ1, ⟨mc1, rfl⟩⟩ := hcut
  cases kq with
  | zero => exact absurd HA.out (by simp [cu.j0])
  | succ kj1 =>
   have H := HA.out
   clear HA
   simp only [cu.j0] at H
   by_cases c11 : x16_1 = true
   ·subst c11
    have H1 : (if 0 ≤ 2 then (if 2 ≤ (a0.size : Int) then (some (a0.extract 0 2)) else (none)) else (none)) = some r := by rw [if_pos rfl] at H; exact H
    clear H
    have H := H1
    clear H1
    by_cases c12 : 0 ≤ 2
    ·rw [if_pos c12] at H
     have c12b0 := eq_true c12
     have c12b1 : decide (0 ≤ 2) = true := decide_eq_true c12
     clear c12
     by_cases c13 : 2 ≤ (a0.size : Int)
     ·rw [if_pos c13] at H
      have c13b0 := eq_true c13
      have c13b1 : decide (2 ≤ (a0.size : Int)) = true := decide_eq_true c13
      clear c13
      obtain rfl := Option.some.inj H
      go_wp2
      go_ret
      exact ⟨Z7, Z10⟩
     rw [if_neg c13] at H
     exact absurd H (by simp)
    rw [if_neg c12] at H
    exact absurd H (by simp)
   replace c11 := Bool.eq_false_iff.mpr c11
   subst c11
   rw [if_neg (show ¬ (false = true) by decide)] at H
   have H1 := H
   clear H
   have H := H1
   clear H1
   by_cases c14 : 0 ≤ 1
   ·rw [if_pos c14] at H
    have c14b0 := eq_true c14
    have c14b1 : decide (0 ≤ 1) = true := decide_eq_true c14
    clear c14
    by_cases c15 : 1 ≤ (a0.size : Int)
    ·rw [if_pos c15] at H
     have c15b0 := eq_true c15
     have c15b1 : decide (1 ≤ (a0.size : Int)) = true := decide_eq_true c15
     clear c15
     replace H := Option.bind_eq_some_iff.mp H
     obtain ⟨t188, A160, H⟩ := H
     replace H : (if t188 = true then (some (a0.extract 0 1)) else (some (⟨#[]⟩ : ByteArray))) = some r := H
     have A16 := Aside0.mk A160
     clear A160
     by_cases c17 : t188 = true
     ·subst c17
      have H1 : (some (a0.extract 0 1)) = some r := by rw [if_pos rfl] at H; exact H
      clear H
      have H := H1
      clear H1
      have c18b0 := eq_true (of_decide_eq_true Z8 : 0 ≤ 1)
      have c19b0 := eq_true (of_decide_eq_true Z8 : 1 ≤ (a0.size : Int))
      obtain rfl := Option.some.inj H
      go_wp2_with (first | ((with_reducible refine gate_callee (f := 68) rfl ?_); refine goesL_ (some 21) rfl rfl Try.func68 (by kernel_rfl) rfl #[.string (⟨#[40, 41, 123, 125, 91, 93, 44, 59, 46, 47, 61, 60, 43, 45, 42, 37]⟩ : ByteArray), .string (a0.extract 0 1)] rfl Z3 ?_; (with_reducible refine (bG.calls kj1 (⟨#[40, 41, 123, 125, 91, 93, 44, 59, 46, 47, 61, 60, 43, 45, 42, 37]⟩ : ByteArray) (a0.extract 0 1) true _ A16.out).mono ?_); rintro e w' ⟨rfl, ⟨nd, rfl⟩⟩; refine ⟨_, rfl, ?_⟩))
      go_ret
      exact ⟨Z7, Z10⟩
     replace c17 := Bool.eq_false_iff.mpr c17
     subst c17
     have H1 : (some (⟨#[]⟩ : ByteArray)) = some r := by rw [if_neg (show ¬ (false = true) by decide)] at H; exact H
     clear H
     have H := H1
     clear H1
     obtain rfl := Option.some.inj H
     go_wp2_with (first | ((with_reducible refine gate_callee (f := 68) rfl ?_); refine goesL_ (some 21) rfl rfl Try.func68 (by kernel_rfl) rfl #[.string (⟨#[40, 41, 123, 125, 91, 93, 44, 59, 46, 47, 61, 60, 43, 45, 42, 37]⟩ : ByteArray), .string (a0.extract 0 1)] rfl Z3 ?_; (with_reducible refine (bG.calls kj1 (⟨#[40, 41, 123, 125, 91, 93, 44, 59, 46, 47, 61, 60, 43, 45, 42, 37]⟩ : ByteArray) (a0.extract 0 1) false _ A16.out).mono ?_); rintro e w' ⟨rfl, ⟨nd, rfl⟩⟩; refine ⟨_, rfl, ?_⟩))
     go_ret
     exact ⟨Z7, Z10⟩
    rw [if_neg c15] at H
    exact absurd H (by simp)
   rw [if_neg c14] at H
   exact absurd H (by simp)
end Go.Proofs.Ytendgafpkeadhaa.Q
end
section
namespace Go.Proofs.Ytendgafpkeadhaa.Q
open Go.RowKit Go.Proofs.YtendgafpkeadhaaW.PrintWords Go.Proofs.YtendgafpkeadhaaW.PrintLast Go.Proofs.YtendgafpkeadhaaW.PrintMore
attribute [local go_sem] max2_int min2_int max_two min_two max_three min_three max_four min_four
set_option linter.unusedVariables false
set_option linter.unusedSimpArgs false
/-! ### fC: function 24 -/
def fC.f (k : Nat) (a0 : ByteArray) : Option (Int × ByteArray × Int × Int × Int × Int) := if 0 < (a0.size : Int) then ((dL.f (wrap32 (bt a0 0))).bind fun t190 => (if t190 = true then ((eU.f a0).bind fun t191 => ((eF.f k t191).bind fun t192 => (if t192 = true then (some (5, t191, 0, 0, (t191.size : Int), 0)) else ((dE.f k t191).bind fun t193 => (if t193 = true then (some (1, t191, 0, 0, (t191.size : Int), 0)) else (some (0, (⟨#[]⟩ : ByteArray), 0, 0, 0, 10))))))) else ((fE.f (wrap32 (bt a0 0))).bind fun t194 => (if t194 = true then ((jf.f a0).bind fun t195 => ((bF.f k t195).bind fun bt196 => (if bt196.2 = true then (some (2, t195, bt196.1, 0, (t195.size : Int), 0)) else (some (0, (⟨#[]⟩ : ByteArray), 0, 0, 0, 10))))) else (if (wrap32 (bt a0 0)) = 34 then ((bH.f k a0).bind fun bt198 => (if bt198.2 > 0 then (some (3, bt198.1, 0, 0, bt198.2, 0)) else (some (0, (⟨#[]⟩ : ByteArray), 0, 0, 0, 10)))) else ((cu.f k a0).bind fun t200 => (if t200.toList = ([] : List UInt8) then (some (0, (⟨#[]⟩ : ByteArray), 0, 0, 0, 9)) else (some (4, t200, 0, 0, (t200.size : Int), 0))))))))) else (none)
theorem fC.mono : ∀ a0 k, LeO (fC.f k a0) (fC.f (k + 1) a0) := by
 intro a0 k
 unfold fC.f
 repeat' first
  | (with_reducible exact eF.mono _ _)
  | (with_reducible exact dE.mono _ _)
  | (with_reducible exact bF.mono _ _)
  | (with_reducible exact bH.mono _ _)
  | (with_reducible exact cu.mono _ _)
  | (with_reducible exact LeO.refl _)
  | (with_reducible exact LeO.none _)
  | (with_reducible refine LeO.ite ?_ ?_)
  | (with_reducible refine LeO.bind ?_ (fun _ => ?_))
  | exact eF.mono _ _
  | exact dE.mono _ _
  | exact bF.mono _ _
  | exact bH.mono _ _
  | exact cu.mono _ _
  | exact LeO.none _
  | refine LeO.ite ?_ ?_
  | refine LeO.bind ?_ (fun _ => ?_)
set_option maxHeartbeats 8000000 in
set_option maxRecDepth 100000 in
theorem fC.calls (k : Nat) (a0 : ByteArray) (r1 : Int) (r2 : ByteArray) (r3 : Int) (r4 : Int) (r5 : Int) (r6 : Int) (w : World) (h : fC.f k a0 = some (r1, r2, r3, r4, r5, r6)) :
 Calls Try.prog 24 #[.string a0] w fun e w' => e = .returned (.tuple #[.agg #[.int .i64 r1, .string r2, .int .i64 r3, .int .i64 r4], .int .i64 r5, .int .i64 r6]) ∧ Below w.heap.size w w' := by
 have hu38 := Try.underlying38
 have HB := Aside0.mk (Below.refl w.heap.size w)
 have H : (if 0 < (a0.size : Int) then ((dL.f (wrap32 (bt a0 0))).bind fun t190 => (if t190 = true then ((eU.f a0).bind fun t191 => ((eF.f k t191).bind fun t192 => (if t192 = true then (some (5, t191, 0, 0, (t191.size : Int), 0)) else ((dE.f k t191).bind fun t193 => (if t193 = true then (some (1, t191, 0, 0, (t191.size : Int), 0)) else (some (0, (⟨#[]⟩ : ByteArray), 0, 0, 0, 10))))))) else ((fE.f (wrap32 (bt a0 0))).bind fun t194 => (if t194 = true then ((jf.f a0).bind fun t195 => ((bF.f k t195).bind fun bt196 => (if bt196.2 = true then (some (2, t195, bt196.1, 0, (t195.size : Int), 0)) else (some (0, (⟨#[]⟩ : ByteArray), 0, 0, 0, 10))))) else (if (wrap32 (bt a0 0)) = 34 then ((bH.f k a0).bind fun bt198 => (if bt198.2 > 0 then (some (3, bt198.1, 0, 0, bt198.2, 0)) else (some (0, (⟨#[]⟩ : ByteArray), 0, 0, 0, 10)))) else ((cu.f k a0).bind fun t200 => (if t200.toList = ([] : List UInt8) then (some (0, (⟨#[]⟩ : ByteArray), 0, 0, 0, 9)) else (some (4, t200, 0, 0, (t200.size : Int), 0))))))))) else (none)) = some (r1, r2, r3, r4, r5, r6) := h
 clear h
 by_cases c2 : 0 < (a0.size : Int)
 ·rw [if_pos c2] at H
  have c2b0 : decide (0 < (a0.size : Int)) = true := decide_eq_true c2
  have c2b1 : decide (0 < a0.size) = true := decide_eq_true (by omega)
  clear c2
  replace H := Option.bind_eq_some_iff.mp H
  obtain ⟨t190, A40, H⟩ := H
  try dsimp only at H
  have A4 := Aside0.mk A40
  clear A40
  by_cases c5 : t190 = true
  ·subst c5
   rw [if_pos rfl] at H
   have H1 := H
   clear H
   have H := H1
   clear H1
   replace H := Option.bind_eq_some_iff.mp H
   obtain ⟨t191, A60, H⟩ := H
   try dsimp only at H
   have A6 := Aside0.mk A60
   clear A60
   replace H := Option.bind_eq_some_iff.mp H
   obtain ⟨t192, A70, H⟩ := H
   try dsimp only at H
   have A7 := Aside0.mk A70
   clear A70
   by_cases c8 : t192 = true
   ·subst c8
    have H1 : (some (5, t191, 0, 0, (t191.size : Int), 0)) = some (r1, r2, r3, r4, r5, r6) := by rw [if_pos rfl] at H; exact H
    clear H
    have H := H1
    clear H1
    simp only [Option.some.injEq, Prod.mk.injEq] at H
    obtain ⟨rfl, rfl, rfl, rfl, rfl, rfl⟩ := H
    go_enter Try.func24, Try.ntmps24
    go_wp2_with (first | ((with_reducible refine bP (N := 2) rfl ?_); refine bT ?hg (N := 2) ?hd (cs := #[.int .i64 0, .string (⟨#[]⟩ : ByteArray), .int .i64 0, .int .i64 0]) (t := 38) ?hr ?_; (case hd => rfl); (case hg => rfl); (case hr => first | (go_simp; done) | (go_simp; rfl)); intro gb189 hg w9 hbox hb; have n0_ := Aside0.mk (below_step Z4 hb); have n1_ := Aside0.mk (hbox); have n2_ := Aside0.mk ((by rw [hg]; exact (below_size Z4) : w.heap.size ≤ gb189)); have n3_ := Aside0.mk ((by rw [hg]; exact (below_size Z4) : w.heap.size ≤ gb189)); clear HB; have HB := n0_; have BK189 := n1_; have GW189 := n2_; have GE189 := n3_; clear n0_ n1_ n2_ n3_; clear hb hbox hg; have p3 : 0 ≤ (0 : Int) := (by omega); have q3 : 0 < a0.size := (by have : (0 : Int) < (a0.size : Int) := of_decide_eq_true Z8; omega); have hx3 : ∀ h : 0 < a0.size, ((a0[0]'h).toNat : Int) = bt a0 0 := iO a0 0; clear p3; have qi3 : (0 < (a0.size : Int)) = True := eq_true (of_decide_eq_true Z8); replace q3 := eq_true q3) | ((with_reducible refine gate_callee (f := 44) rfl ?_); refine goesL_ (some 27) rfl rfl Try.func44 (by kernel_rfl) rfl #[.int .i32 (wrap32 (bt a0 0))] rfl Z3 ?_; (with_reducible refine (dL.calls (wrap32 (bt a0 0)) true _ A4.out).mono ?_); rintro e w' ⟨rfl, ⟨nd, rfl⟩⟩; refine ⟨_, rfl, ?_⟩; (try (rw [dP w9]; generalize hq_ : World.drewN w9 _ = w9; have n0_ : Aside0 (w9.heap[gb189]? = some (.cells #[.int .i64 0, .string (⟨#[]⟩ : ByteArray), .int .i64 0, .int .i64 0] 38 (0, 0))) := ⟨Z50⟩; have n1_ : Aside0 (Below w.heap.size w w9) := ⟨Z13⟩; clear BK189 HB hq_; have BK189 := n0_; have HB := n1_; clear n0_ n1_))) | ((with_reducible refine gate_callee (f := 41) rfl ?_); refine goesL_ (some 29) rfl rfl Try.func41 (by kernel_rfl) rfl #[.string a0, .func (.func 45) #[] #[]] rfl Z3 ?_; (with_reducible refine (eU.calls a0 t191 _ A6.out).mono ?_); rintro e w10 ⟨rfl, hb⟩; refine ⟨_, rfl, ?_⟩; have n0_ := Aside0.mk (bU (g := gb189) (o := .cells #[.int .i64 0, .string (⟨#[]⟩ : ByteArray), .int .i64 0, .int .i64 0] 38 (0, 0)) (by exact BK189.out) hb); have n1_ := Aside0.mk (below_step Z6 hb); clear BK189; clear HB; have BK189 := n0_; have HB := n1_; clear n0_ n1_; (try clear hb)) | ((with_reducible refine gate_callee (f := 46) rfl ?_); refine goesL_ (some 32) rfl rfl Try.func46 (by kernel_rfl) rfl #[.string t191] rfl Z3 ?_; (with_reducible refine (eF.calls k t191 true _ A7.out).mono ?_); rintro e w11 ⟨rfl, hb⟩; refine ⟨_, rfl, ?_⟩; have n0_ := Aside0.mk (bU (g := gb189) (o := .cells #[.int .i64 0, .string (⟨#[]⟩ : ByteArray), .int .i64 0, .int .i64 0] 38 (0, 0)) (by exact BK189.out) hb); have n1_ := Aside0.mk (below_step Z6 hb); clear BK189; clear HB; have BK189 := n0_; have HB := n1_; clear n0_ n1_; (try clear hb); have hcz12_0 : w11.cell? ⟨gb189, 0, none⟩ = some (.int .i64 0) := (ag BK189.out 0).trans rfl; have hcz12_1 : w11.cell? ⟨gb189, 1, none⟩ = some (.string (⟨#[]⟩ : ByteArray)) := (ag BK189.out 1).trans rfl; have hcz12_2 : w11.cell? ⟨gb189, 2, none⟩ = some (.int .i64 0) := (ag BK189.out 2).trans rfl; have hcz12_3 : w11.cell? ⟨gb189, 3, none⟩ = some (.int .i64 0) := (ag BK189.out 3).trans rfl; have hfz12_0 := ae BK189.out 0; have hfz12_1 := ae BK189.out 1; have hfz12_2 := ae BK189.out 2; have hfz12_3 := ae BK189.out 3))
    refine bodyPost_ret (gm rfl _ _ gb189 38 #[.int .i64 5, .string t191, .int .i64 0, .int .i64 0] (0, 0) _ rfl (by refine aZ (cs := #[.int .i64 5, .string t191, .int .i64 0, .int .i64 0]) ?_ 3 _ rfl; refine aZ (cs := #[.int .i64 5, .string t191, .int .i64 0, .int .i64 0]) ?_ 2 _ rfl; refine aZ (cs := #[.int .i64 5, .string (⟨#[]⟩ : ByteArray), .int .i64 0, .int .i64 0]) ?_ 1 _ rfl; refine aZ (cs := #[.int .i64 0, .string (⟨#[]⟩ : ByteArray), .int .i64 0, .int .i64 0]) ?_ 0 _ rfl; exact BK189.out) Try.underlying38 rfl (by kernel_rfl)) rfl ?_
    exact ⟨Z5, Z6⟩
   replace c8 := Bool.eq_false_iff.mpr c8
   subst c8
   rw [if_neg (show ¬ (false = true) by decide)] at H
   have H1 := H
   clear H
   have H := H1
   clear H1
   replace H := Option.bind_eq_some_iff.mp H
   obtain ⟨t193, A130, H⟩ := H
   replace H : (if t193 = true then (some (1, t191, 0, 0, (t191.size : Int), 0)) else (some (0, (⟨#[]⟩ : ByteArray), 0, 0, 0, 10))) = some (r1, r2, r3, r4, r5, r6) := H
   have A13 := Aside0.mk A130
   clear A130
   by_cases c14 : t193 = true
   ·subst c14
    have H1 : (some (1, t191, 0, 0, (t191.size : Int), 0)) = some (r1, r2, r3, r4, r5, r6) := by rw [if_pos rfl] at H; exact H
    clear H
    have H := H1
    clear H1
    simp only [Option.some.injEq, Prod.mk.injEq] at H
    obtain ⟨rfl, rfl, rfl, rfl, rfl, rfl⟩ := H
    go_enter Try.func24, Try.ntmps24
    go_wp2_with (first | ((with_reducible refine bP (N := 2) rfl ?_); refine bT ?hg (N := 2) ?hd (cs := #[.int .i64 0, .string (⟨#[]⟩ : ByteArray), .int .i64 0, .int .i64 0]) (t := 38) ?hr ?_; (case hd => rfl); (case hg => rfl); (case hr => first | (go_simp; done) | (go_simp; rfl)); intro gb189 hg w15 hbox hb; have n0_ := Aside0.mk (below_step Z4 hb); have n1_ := Aside0.mk (hbox); have n2_ := Aside0.mk ((by rw [hg]; exact (below_size Z4) : w.heap.size ≤ gb189)); have n3_ := Aside0.mk ((by rw [hg]; exact (below_size Z4) : w.heap.size ≤ gb189)); clear HB; have HB := n0_; have BK189 := n1_; have GW189 := n2_; have GE189 := n3_; clear n0_ n1_ n2_ n3_; clear hb hbox hg; have p3 : 0 ≤ (0 : Int) := (by omega); have q3 : 0 < a0.size := (by have : (0 : Int) < (a0.size : Int) := of_decide_eq_true Z8; omega); have hx3 : ∀ h : 0 < a0.size, ((a0[0]'h).toNat : Int) = bt a0 0 := iO a0 0; clear p3; have qi3 : (0 < (a0.size : Int)) = True := eq_true (of_decide_eq_true Z8); replace q3 := eq_true q3) | ((with_reducible refine gate_callee (f := 44) rfl ?_); refine goesL_ (some 27) rfl rfl Try.func44 (by kernel_rfl) rfl #[.int .i32 (wrap32 (bt a0 0))] rfl Z3 ?_; (with_reducible refine (dL.calls (wrap32 (bt a0 0)) true _ A4.out).mono ?_); rintro e w' ⟨rfl, ⟨nd, rfl⟩⟩; refine ⟨_, rfl, ?_⟩; (try (rw [dP w15]; generalize hq_ : World.drewN w15 _ = w15; have n0_ : Aside0 (w15.heap[gb189]? = some (.cells #[.int .i64 0, .string (⟨#[]⟩ : ByteArray), .int .i64 0, .int .i64 0] 38 (0, 0))) := ⟨Z50⟩; have n1_ : Aside0 (Below w.heap.size w w15) := ⟨Z13⟩; clear BK189 HB hq_; have BK189 := n0_; have HB := n1_; clear n0_ n1_))) | ((with_reducible refine gate_callee (f := 41) rfl ?_); refine goesL_ (some 29) rfl rfl Try.func41 (by kernel_rfl) rfl #[.string a0, .func (.func 45) #[] #[]] rfl Z3 ?_; (with_reducible refine (eU.calls a0 t191 _ A6.out).mono ?_); rintro e w16 ⟨rfl, hb⟩; refine ⟨_, rfl, ?_⟩; have n0_ := Aside0.mk (bU (g := gb189) (o := .cells #[.int .i64 0, .string (⟨#[]⟩ : ByteArray), .int .i64 0, .int .i64 0] 38 (0, 0)) (by exact BK189.out) hb); have n1_ := Aside0.mk (below_step Z6 hb); clear BK189; clear HB; have BK189 := n0_; have HB := n1_; clear n0_ n1_; (try clear hb)) | ((with_reducible refine gate_callee (f := 46) rfl ?_); refine goesL_ (some 32) rfl rfl Try.func46 (by kernel_rfl) rfl #[.string t191] rfl Z3 ?_; (with_reducible refine (eF.calls k t191 false _ A7.out).mono ?_); rintro e w17 ⟨rfl, hb⟩; refine ⟨_, rfl, ?_⟩; have n0_ := Aside0.mk (bU (g := gb189) (o := .cells #[.int .i64 0, .string (⟨#[]⟩ : ByteArray), .int .i64 0, .int .i64 0] 38 (0, 0)) (by exact BK189.out) hb); have n1_ := Aside0.mk (below_step Z6 hb); clear BK189; clear HB; have BK189 := n0_; have HB := n1_; clear n0_ n1_; (try clear hb)) | ((with_reducible refine gate_callee (f := 31) rfl ?_); refine goesL_ (some 39) rfl rfl Try.func31 (by kernel_rfl) rfl #[.string t191] rfl Z3 ?_; (with_reducible refine (dE.calls k t191 true _ A13.out).mono ?_); rintro e w18 ⟨rfl, hb⟩; refine ⟨_, rfl, ?_⟩; have n0_ := Aside0.mk (bU (g := gb189) (o := .cells #[.int .i64 0, .string (⟨#[]⟩ : ByteArray), .int .i64 0, .int .i64 0] 38 (0, 0)) (by exact BK189.out) hb); have n1_ := Aside0.mk (below_step Z6 hb); clear BK189; clear HB; have BK189 := n0_; have HB := n1_; clear n0_ n1_; (try clear hb); have hcz19_0 : w18.cell? ⟨gb189, 0, none⟩ = some (.int .i64 0) := (ag BK189.out 0).trans rfl; have hcz19_1 : w18.cell? ⟨gb189, 1, none⟩ = some (.string (⟨#[]⟩ : ByteArray)) := (ag BK189.out 1).trans rfl; have hcz19_2 : w18.cell? ⟨gb189, 2, none⟩ = some (.int .i64 0) := (ag BK189.out 2).trans rfl; have hcz19_3 : w18.cell? ⟨gb189, 3, none⟩ = some (.int .i64 0) := (ag BK189.out 3).trans rfl; have hfz19_0 := ae BK189.out 0; have hfz19_1 := ae BK189.out 1; have hfz19_2 := ae BK189.out 2; have hfz19_3 := ae BK189.out 3))
    refine bodyPost_ret (gm rfl _ _ gb189 38 #[.int .i64 1, .string t191, .int .i64 0, .int .i64 0] (0, 0) _ rfl (by refine aZ (cs := #[.int .i64 1, .string t191, .int .i64 0, .int .i64 0]) ?_ 3 _ rfl; refine aZ (cs := #[.int .i64 1, .string t191, .int .i64 0, .int .i64 0]) ?_ 2 _ rfl; refine aZ (cs := #[.int .i64 1, .string (⟨#[]⟩ : ByteArray), .int .i64 0, .int .i64 0]) ?_ 1 _ rfl; refine aZ (cs := #[.int .i64 0, .string (⟨#[]⟩ : ByteArray), .int .i64 0, .int .i64 0]) ?_ 0 _ rfl; exact BK189.out) Try.underlying38 rfl (by kernel_rfl)) rfl ?_
    exact ⟨Z5, Z6⟩
   replace c14 := Bool.eq_false_iff.mpr c14
   subst c14
   have H1 : (some (0, (⟨#[]⟩ : ByteArray), 0, 0, 0, 10)) = some (r1, r2, r3, r4, r5, r6) := by rw [if_neg (show ¬ (false = true) by decide)] at H; exact H
   clear H
   have H := H1
   clear H1
   simp only [Option.some.injEq, Prod.mk.injEq] at H
   obtain ⟨rfl, rfl, rfl, rfl, rfl, rfl⟩ := H
   go_enter Try.func24, Try.ntmps24
   go_wp2_with (first | ((with_reducible refine bP (N := 2) rfl ?_); refine bT ?hg (N := 2) ?hd (cs := #[.int .i64 0, .string (⟨#[]⟩ : ByteArray), .int .i64 0, .int .i64 0]) (t := 38) ?hr ?_; (case hd => rfl); (case hg => rfl); (case hr => first | (go_simp; done) | (go_simp; rfl)); intro gb189 hg w20 hbox hb; have n0_ := Aside0.mk (below_step Z4 hb); have n1_ := Aside0.mk (hbox); have n2_ := Aside0.mk ((by rw [hg]; exact (below_size Z4) : w.heap.size ≤ gb189)); have n3_ := Aside0.mk ((by rw [hg]; exact (below_size Z4) : w.heap.size ≤ gb189)); clear HB; have HB := n0_; have BK189 := n1_; have GW189 := n2_; have GE189 := n3_; clear n0_ n1_ n2_ n3_; clear hb hbox hg; have p3 : 0 ≤ (0 : Int) := (by omega); have q3 : 0 < a0.size := (by have : (0 : Int) < (a0.size : Int) := of_decide_eq_true Z8; omega); have hx3 : ∀ h : 0 < a0.size, ((a0[0]'h).toNat : Int) = bt a0 0 := iO a0 0; clear p3; have qi3 : (0 < (a0.size : Int)) = True := eq_true (of_decide_eq_true Z8); replace q3 := eq_true q3) | ((with_reducible refine gate_callee (f := 44) rfl ?_); refine goesL_ (some 27) rfl rfl Try.func44 (by kernel_rfl) rfl #[.int .i32 (wrap32 (bt a0 0))] rfl Z3 ?_; (with_reducible refine (dL.calls (wrap32 (bt a0 0)) true _ A4.out).mono ?_); rintro e w' ⟨rfl, ⟨nd, rfl⟩⟩; refine ⟨_, rfl, ?_⟩; (try (rw [dP w20]; generalize hq_ : World.drewN w20 _ = w20; have n0_ : Aside0 (w20.heap[gb189]? = some (.cells #[.int .i64 0, .string (⟨#[]⟩ : ByteArray), .int .i64 0, .int .i64 0] 38 (0, 0))) := ⟨Z50⟩; have n1_ : Aside0 (Below w.heap.size w w20) := ⟨Z13⟩; clear BK189 HB hq_; have BK189 := n0_; have HB := n1_; clear n0_ n1_))) | ((with_reducible refine gate_callee (f := 41) rfl ?_); refine goesL_ (some 29) rfl rfl Try.func41 (by kernel_rfl) rfl #[.string a0, .func (.func 45) #[] #[]] rfl Z3 ?_; (with_reducible refine (eU.calls a0 t191 _ A6.out).mono ?_); rintro e w21 ⟨rfl, hb⟩; refine ⟨_, rfl, ?_⟩; have n0_ := Aside0.mk (bU (g := gb189) (o := .cells #[.int .i64 0, .string (⟨#[]⟩ : ByteArray), .int .i64 0, .int .i64 0] 38 (0, 0)) (by exact BK189.out) hb); have n1_ := Aside0.mk (below_step Z6 hb); clear BK189; clear HB; have BK189 := n0_; have HB := n1_; clear n0_ n1_; (try clear hb)) | ((with_reducible refine gate_callee (f := 46) rfl ?_); refine goesL_ (some 32) rfl rfl Try.func46 (by kernel_rfl) rfl #[.string t191] rfl Z3 ?_; (with_reducible refine (eF.calls k t191 false _ A7.out).mono ?_); rintro e w22 ⟨rfl, hb⟩; refine ⟨_, rfl, ?_⟩; have n0_ := Aside0.mk (bU (g := gb189) (o := .cells #[.int .i64 0, .string (⟨#[]⟩ : ByteArray), .int .i64 0, .int .i64 0] 38 (0, 0)) (by exact BK189.out) hb); have n1_ := Aside0.mk (below_step Z6 hb); clear BK189; clear HB; have BK189 := n0_; have HB := n1_; clear n0_ n1_; (try clear hb)) | ((with_reducible refine gate_callee (f := 31) rfl ?_); refine goesL_ (some 39) rfl rfl Try.func31 (by kernel_rfl) rfl #[.string t191] rfl Z3 ?_; (with_reducible refine (dE.calls k t191 false _ A13.out).mono ?_); rintro e w23 ⟨rfl, hb⟩; refine ⟨_, rfl, ?_⟩; have n0_ := Aside0.mk (bU (g := gb189) (o := .cells #[.int .i64 0, .string (⟨#[]⟩ : ByteArray), .int .i64 0, .int .i64 0] 38 (0, 0)) (by exact BK189.out) hb); have n1_ := Aside0.mk (below_step Z6 hb); clear BK189; clear HB; have BK189 := n0_; have HB := n1_; clear n0_ n1_; (try clear hb); have hcz24_0 : w23.cell? ⟨gb189, 0, none⟩ = some (.int .i64 0) := (ag BK189.out 0).trans rfl; have hcz24_1 : w23.cell? ⟨gb189, 1, none⟩ = some (.string (⟨#[]⟩ : ByteArray)) := (ag BK189.out 1).trans rfl; have hcz24_2 : w23.cell? ⟨gb189, 2, none⟩ = some (.int .i64 0) := (ag BK189.out 2).trans rfl; have hcz24_3 : w23.cell? ⟨gb189, 3, none⟩ = some (.int .i64 0) := (ag BK189.out 3).trans rfl; have hfz24_0 := ae BK189.out 0; have hfz24_1 := ae BK189.out 1; have hfz24_2 := ae BK189.out 2; have hfz24_3 := ae BK189.out 3))
   refine bodyPost_ret (gm rfl _ _ gb189 38 #[.int .i64 0, .string (⟨#[]⟩ : ByteArray), .int .i64 0, .int .i64 0] (0, 0) _ rfl (by refine aZ (cs := #[.int .i64 0, .string (⟨#[]⟩ : ByteArray), .int .i64 0, .int .i64 0]) ?_ 3 _ rfl; refine aZ (cs := #[.int .i64 0, .string (⟨#[]⟩ : ByteArray), .int .i64 0, .int .i64 0]) ?_ 2 _ rfl; refine aZ (cs := #[.int .i64 0, .string (⟨#[]⟩ : ByteArray), .int .i64 0, .int .i64 0]) ?_ 1 _ rfl; refine aZ (cs := #[.int .i64 0, .string (⟨#[]⟩ : ByteArray), .int .i64 0, .int .i64 0]) ?_ 0 _ rfl; exact BK189.out) Try.underlying38 rfl (by kernel_rfl)) rfl ?_
   exact ⟨Z5, Z6⟩
  replace c5 := Bool.eq_false_iff.mpr c5
  subst c5
  rw [if_neg (show ¬ (false = true) by decide)] at H
  have H1 := H
  clear H
  have H := H1
  clear H1
  replace H := Option.bind_eq_some_iff.mp H
  obtain ⟨t194, A250, H⟩ := H
  try dsimp only at H
  have A25 := Aside0.mk A250
  clear A250
  by_cases c26 : t194 = true
  ·subst c26
   rw [if_pos rfl] at H
   have H1 := H
   clear H
   have H := H1
   clear H1
   replace H := Option.bind_eq_some_iff.mp H
   obtain ⟨t195, A270, H⟩ := H
   try dsimp only at H
   have A27 := Aside0.mk A270
   clear A270
   replace H := Option.bind_eq_some_iff.mp H
   obtain ⟨⟨t196, t197⟩, A280, H⟩ := H
   replace H : (if t197 = true then (some (2, t195, t196, 0, (t195.size : Int), 0)) else (some (0, (⟨#[]⟩ : ByteArray), 0, 0, 0, 10))) = some (r1, r2, r3, r4, r5, r6) := H
   have A28 := Aside0.mk A280
   clear A280
   by_cases c29 : t197 = true
   ·subst c29
    have H1 : (some (2, t195, t196, 0, (t195.size : Int), 0)) = some (r1, r2, r3, r4, r5, r6) := by rw [if_pos rfl] at H; exact H
    clear H
    have H := H1
    clear H1
    simp only [Option.some.injEq, Prod.mk.injEq] at H
    obtain ⟨rfl, rfl, rfl, rfl, rfl, rfl⟩ := H
    go_enter Try.func24, Try.ntmps24
    go_wp2_with (first | ((with_reducible refine bP (N := 2) rfl ?_); refine bT ?hg (N := 2) ?hd (cs := #[.int .i64 0, .string (⟨#[]⟩ : ByteArray), .int .i64 0, .int .i64 0]) (t := 38) ?hr ?_; (case hd => rfl); (case hg => rfl); (case hr => first | (go_simp; done) | (go_simp; rfl)); intro gb189 hg w30 hbox hb; have n0_ := Aside0.mk (below_step Z4 hb); have n1_ := Aside0.mk (hbox); have n2_ := Aside0.mk ((by rw [hg]; exact (below_size Z4) : w.heap.size ≤ gb189)); have n3_ := Aside0.mk ((by rw [hg]; exact (below_size Z4) : w.heap.size ≤ gb189)); clear HB; have HB := n0_; have BK189 := n1_; have GW189 := n2_; have GE189 := n3_; clear n0_ n1_ n2_ n3_; clear hb hbox hg; have p3 : 0 ≤ (0 : Int) := (by omega); have q3 : 0 < a0.size := (by have : (0 : Int) < (a0.size : Int) := of_decide_eq_true Z8; omega); have hx3 : ∀ h : 0 < a0.size, ((a0[0]'h).toNat : Int) = bt a0 0 := iO a0 0; clear p3; have qi3 : (0 < (a0.size : Int)) = True := eq_true (of_decide_eq_true Z8); replace q3 := eq_true q3) | ((with_reducible refine gate_callee (f := 44) rfl ?_); refine goesL_ (some 27) rfl rfl Try.func44 (by kernel_rfl) rfl #[.int .i32 (wrap32 (bt a0 0))] rfl Z3 ?_; (with_reducible refine (dL.calls (wrap32 (bt a0 0)) false _ A4.out).mono ?_); rintro e w' ⟨rfl, ⟨nd, rfl⟩⟩; refine ⟨_, rfl, ?_⟩; (try (rw [dP w30]; generalize hq_ : World.drewN w30 _ = w30; have n0_ : Aside0 (w30.heap[gb189]? = some (.cells #[.int .i64 0, .string (⟨#[]⟩ : ByteArray), .int .i64 0, .int .i64 0] 38 (0, 0))) := ⟨Z50⟩; have n1_ : Aside0 (Below w.heap.size w w30) := ⟨Z13⟩; clear BK189 HB hq_; have BK189 := n0_; have HB := n1_; clear n0_ n1_))) | ((with_reducible refine gate_callee (f := 47) rfl ?_); refine goesL_ (some 46) rfl rfl Try.func47 (by kernel_rfl) rfl #[.int .i32 (wrap32 (bt a0 0))] rfl Z3 ?_; (with_reducible refine (fE.calls (wrap32 (bt a0 0)) true _ A25.out).mono ?_); rintro e w' ⟨rfl, ⟨nd, rfl⟩⟩; refine ⟨_, rfl, ?_⟩; (try (rw [dP w30]; generalize hq_ : World.drewN w30 _ = w30; have n0_ : Aside0 (w30.heap[gb189]? = some (.cells #[.int .i64 0, .string (⟨#[]⟩ : ByteArray), .int .i64 0, .int .i64 0] 38 (0, 0))) := ⟨Z50⟩; have n1_ : Aside0 (Below w.heap.size w w30) := ⟨Z13⟩; clear BK189 HB hq_; have BK189 := n0_; have HB := n1_; clear n0_ n1_))) | ((with_reducible refine gate_callee (f := 41) rfl ?_); refine goesL_ (some 48) rfl rfl Try.func41 (by kernel_rfl) rfl #[.string a0, .func (.func 47) #[] #[]] rfl Z3 ?_; (with_reducible refine (jf.calls a0 t195 _ A27.out).mono ?_); rintro e w31 ⟨rfl, hb⟩; refine ⟨_, rfl, ?_⟩; have n0_ := Aside0.mk (bU (g := gb189) (o := .cells #[.int .i64 0, .string (⟨#[]⟩ : ByteArray), .int .i64 0, .int .i64 0] 38 (0, 0)) (by exact BK189.out) hb); have n1_ := Aside0.mk (below_step Z6 hb); clear BK189; clear HB; have BK189 := n0_; have HB := n1_; clear n0_ n1_; (try clear hb)) | ((with_reducible refine gate_callee (f := 48) rfl ?_); refine goesL_ (some 51) rfl rfl Try.func48 (by kernel_rfl) rfl #[.string t195] rfl Z3 ?_; (with_reducible refine (bF.calls k t195 t196 true _ A28.out).mono ?_); rintro e w' ⟨rfl, ⟨nd, rfl⟩⟩; refine ⟨_, rfl, ?_⟩; (try (rw [dP w31]; generalize hq_ : World.drewN w31 _ = w31; have n0_ : Aside0 (w31.heap[gb189]? = some (.cells #[.int .i64 0, .string (⟨#[]⟩ : ByteArray), .int .i64 0, .int .i64 0] 38 (0, 0))) := ⟨Z50⟩; have n1_ : Aside0 (Below w.heap.size w w31) := ⟨Z13⟩; clear BK189 HB hq_; have BK189 := n0_; have HB := n1_; clear n0_ n1_)); have hcz32_0 : w31.cell? ⟨gb189, 0, none⟩ = some (.int .i64 0) := (ag BK189.out 0).trans rfl; have hcz32_1 : w31.cell? ⟨gb189, 1, none⟩ = some (.string (⟨#[]⟩ : ByteArray)) := (ag BK189.out 1).trans rfl; have hcz32_2 : w31.cell? ⟨gb189, 2, none⟩ = some (.int .i64 0) := (ag BK189.out 2).trans rfl; have hcz32_3 : w31.cell? ⟨gb189, 3, none⟩ = some (.int .i64 0) := (ag BK189.out 3).trans rfl; have hfz32_0 := ae BK189.out 0; have hfz32_1 := ae BK189.out 1; have hfz32_2 := ae BK189.out 2; have hfz32_3 := ae BK189.out 3))
    refine bodyPost_ret (gm rfl _ _ gb189 38 #[.int .i64 2, .string t195, .int .i64 t196, .int .i64 0] (0, 0) _ rfl (by refine aZ (cs := #[.int .i64 2, .string t195, .int .i64 t196, .int .i64 0]) ?_ 3 _ rfl; refine aZ (cs := #[.int .i64 2, .string t195, .int .i64 0, .int .i64 0]) ?_ 2 _ rfl; refine aZ (cs := #[.int .i64 2, .string (⟨#[]⟩ : ByteArray), .int .i64 0, .int .i64 0]) ?_ 1 _ rfl; refine aZ (cs := #[.int .i64 0, .string (⟨#[]⟩ : ByteArray), .int .i64 0, .int .i64 0]) ?_ 0 _ rfl; exact BK189.out) Try.underlying38 rfl (by kernel_rfl)) rfl ?_
    exact ⟨Z5, Z6⟩
   replace c29 := Bool.eq_false_iff.mpr c29
   subst c29
   have H1 : (some (0, (⟨#[]⟩ : ByteArray), 0, 0, 0, 10)) = some (r1, r2, r3, r4, r5, r6) := by rw [if_neg (show ¬ (false = true) by decide)] at H; exact H
   clear H
   have H := H1
   clear H1
   simp only [Option.some.injEq, Prod.mk.injEq] at H
   obtain ⟨rfl, rfl, rfl, rfl, rfl, rfl⟩ := H
   go_enter Try.func24, Try.ntmps24
   go_wp2_with (first | ((with_reducible refine bP (N := 2) rfl ?_); refine bT ?hg (N := 2) ?hd (cs := #[.int .i64 0, .string (⟨#[]⟩ : ByteArray), .int .i64 0, .int .i64 0]) (t := 38) ?hr ?_; (case hd => rfl); (case hg => rfl); (case hr => first | (go_simp; done) | (go_simp; rfl)); intro gb189 hg w33 hbox hb; have n0_ := Aside0.mk (below_step Z4 hb); have n1_ := Aside0.mk (hbox); have n2_ := Aside0.mk ((by rw [hg]; exact (below_size Z4) : w.heap.size ≤ gb189)); have n3_ := Aside0.mk ((by rw [hg]; exact (below_size Z4) : w.heap.size ≤ gb189)); clear HB; have HB := n0_; have BK189 := n1_; have GW189 := n2_; have GE189 := n3_; clear n0_ n1_ n2_ n3_; clear hb hbox hg; have p3 : 0 ≤ (0 : Int) := (by omega); have q3 : 0 < a0.size := (by have : (0 : Int) < (a0.size : Int) := of_decide_eq_true Z8; omega); have hx3 : ∀ h : 0 < a0.size, ((a0[0]'h).toNat : Int) = bt a0 0 := iO a0 0; clear p3; have qi3 : (0 < (a0.size : Int)) = True := eq_true (of_decide_eq_true Z8); replace q3 := eq_true q3) | ((with_reducible refine gate_callee (f := 44) rfl ?_); refine goesL_ (some 27) rfl rfl Try.func44 (by kernel_rfl) rfl #[.int .i32 (wrap32 (bt a0 0))] rfl Z3 ?_; (with_reducible refine (dL.calls (wrap32 (bt a0 0)) false _ A4.out).mono ?_); rintro e w' ⟨rfl, ⟨nd, rfl⟩⟩; refine ⟨_, rfl, ?_⟩; (try (rw [dP w33]; generalize hq_ : World.drewN w33 _ = w33; have n0_ : Aside0 (w33.heap[gb189]? = some (.cells #[.int .i64 0, .string (⟨#[]⟩ : ByteArray), .int .i64 0, .int .i64 0] 38 (0, 0))) := ⟨Z50⟩; have n1_ : Aside0 (Below w.heap.size w w33) := ⟨Z13⟩; clear BK189 HB hq_; have BK189 := n0_; have HB := n1_; clear n0_ n1_))) | ((with_reducible refine gate_callee (f := 47) rfl ?_); refine goesL_ (some 46) rfl rfl Try.func47 (by kernel_rfl) rfl #[.int .i32 (wrap32 (bt a0 0))] rfl Z3 ?_; (with_reducible refine (fE.calls (wrap32 (bt a0 0)) true _ A25.out).mono ?_); rintro e w' ⟨rfl, ⟨nd, rfl⟩⟩; refine ⟨_, rfl, ?_⟩; (try (rw [dP w33]; generalize hq_ : World.drewN w33 _ = w33; have n0_ : Aside0 (w33.heap[gb189]? = some (.cells #[.int .i64 0, .string (⟨#[]⟩ : ByteArray), .int .i64 0, .int .i64 0] 38 (0, 0))) := ⟨Z50⟩; have n1_ : Aside0 (Below w.heap.size w w33) := ⟨Z13⟩; clear BK189 HB hq_; have BK189 := n0_; have HB := n1_; clear n0_ n1_))) | ((with_reducible refine gate_callee (f := 41) rfl ?_); refine goesL_ (some 48) rfl rfl Try.func41 (by kernel_rfl) rfl #[.string a0, .func (.func 47) #[] #[]] rfl Z3 ?_; (with_reducible refine (jf.calls a0 t195 _ A27.out).mono ?_); rintro e w34 ⟨rfl, hb⟩; refine ⟨_, rfl, ?_⟩; have n0_ := Aside0.mk (bU (g := gb189) (o := .cells #[.int .i64 0, .string (⟨#[]⟩ : ByteArray), .int .i64 0, .int .i64 0] 38 (0, 0)) (by exact BK189.out) hb); have n1_ := Aside0.mk (below_step Z6 hb); clear BK189; clear HB; have BK189 := n0_; have HB := n1_; clear n0_ n1_; (try clear hb)) | ((with_reducible refine gate_callee (f := 48) rfl ?_); refine goesL_ (some 51) rfl rfl Try.func48 (by kernel_rfl) rfl #[.string t195] rfl Z3 ?_; (with_reducible refine (bF.calls k t195 t196 false _ A28.out).mono ?_); rintro e w' ⟨rfl, ⟨nd, rfl⟩⟩; refine ⟨_, rfl, ?_⟩; (try (rw [dP w34]; generalize hq_ : World.drewN w34 _ = w34; have n0_ : Aside0 (w34.heap[gb189]? = some (.cells #[.int .i64 0, .string (⟨#[]⟩ : ByteArray), .int .i64 0, .int .i64 0] 38 (0, 0))) := ⟨Z50⟩; have n1_ : Aside0 (Below w.heap.size w w34) := ⟨Z13⟩; clear BK189 HB hq_; have BK189 := n0_; have HB := n1_; clear n0_ n1_)); have hcz35_0 : w34.cell? ⟨gb189, 0, none⟩ = some (.int .i64 0) := (ag BK189.out 0).trans rfl; have hcz35_1 : w34.cell? ⟨gb189, 1, none⟩ = some (.string (⟨#[]⟩ : ByteArray)) := (ag BK189.out 1).trans rfl; have hcz35_2 : w34.cell? ⟨gb189, 2, none⟩ = some (.int .i64 0) := (ag BK189.out 2).trans rfl; have hcz35_3 : w34.cell? ⟨gb189, 3, none⟩ = some (.int .i64 0) := (ag BK189.out 3).trans rfl; have hfz35_0 := ae BK189.out 0; have hfz35_1 := ae BK189.out 1; have hfz35_2 := ae BK189.out 2; have hfz35_3 := ae BK189.out 3))
   refine bodyPost_ret (gm rfl _ _ gb189 38 #[.int .i64 0, .string (⟨#[]⟩ : ByteArray), .int .i64 0, .int .i64 0] (0, 0) _ rfl (by refine aZ (cs := #[.int .i64 0, .string (⟨#[]⟩ : ByteArray), .int .i64 0, .int .i64 0]) ?_ 3 _ rfl; refine aZ (cs := #[.int .i64 0, .string (⟨#[]⟩ : ByteArray), .int .i64 0, .int .i64 0]) ?_ 2 _ rfl; refine aZ (cs := #[.int .i64 0, .string (⟨#[]⟩ : ByteArray), .int .i64 0, .int .i64 0]) ?_ 1 _ rfl; refine aZ (cs := #[.int .i64 0, .string (⟨#[]⟩ : ByteArray), .int .i64 0, .int .i64 0]) ?_ 0 _ rfl; exact BK189.out) Try.underlying38 rfl (by kernel_rfl)) rfl ?_
   exact ⟨Z5, Z6⟩
  replace c26 := Bool.eq_false_iff.mpr c26
  subst c26
  rw [if_neg (show ¬ (false = true) by decide)] at H
  have H1 := H
  clear H
  have H := H1
  clear H1
  by_cases c36 : (wrap32 (bt a0 0)) = 34
  ·rw [if_pos c36] at H
   have c36b0 : ((wrap32 (bt a0 0)) == 34) = true := beq_iff_eq.mpr c36
   have c36b1 : ((wrap32 (bt a0 0)) != 34) = false := bne_eq_false_iff_eq.mpr c36
   clear c36
   replace H := Option.bind_eq_some_iff.mp H
   obtain ⟨⟨t198, t199⟩, A370, H⟩ := H
   replace H : (if t199 > 0 then (some (3, t198, 0, 0, t199, 0)) else (some (0, (⟨#[]⟩ : ByteArray), 0, 0, 0, 10))) = some (r1, r2, r3, r4, r5, r6) := H
   have A37 := Aside0.mk A370
   clear A370
   by_cases c38 : t199 > 0
   ·rw [if_pos c38] at H
    have c38b0 : decide (0 < t199) = true := decide_eq_true c38
    clear c38
    simp only [Option.some.injEq, Prod.mk.injEq] at H
    obtain ⟨rfl, rfl, rfl, rfl, rfl, rfl⟩ := H
    go_enter Try.func24, Try.ntmps24
    go_wp2_with (first | ((with_reducible refine bP (N := 2) rfl ?_); refine bT ?hg (N := 2) ?hd (cs := #[.int .i64 0, .string (⟨#[]⟩ : ByteArray), .int .i64 0, .int .i64 0]) (t := 38) ?hr ?_; (case hd => rfl); (case hg => rfl); (case hr => first | (go_simp; done) | (go_simp; rfl)); intro gb189 hg w39 hbox hb; have n0_ := Aside0.mk (below_step Z4 hb); have n1_ := Aside0.mk (hbox); have n2_ := Aside0.mk ((by rw [hg]; exact (below_size Z4) : w.heap.size ≤ gb189)); have n3_ := Aside0.mk ((by rw [hg]; exact (below_size Z4) : w.heap.size ≤ gb189)); clear HB; have HB := n0_; have BK189 := n1_; have GW189 := n2_; have GE189 := n3_; clear n0_ n1_ n2_ n3_; clear hb hbox hg; have p3 : 0 ≤ (0 : Int) := (by omega); have q3 : 0 < a0.size := (by have : (0 : Int) < (a0.size : Int) := of_decide_eq_true Z8; omega); have hx3 : ∀ h : 0 < a0.size, ((a0[0]'h).toNat : Int) = bt a0 0 := iO a0 0; clear p3; have qi3 : (0 < (a0.size : Int)) = True := eq_true (of_decide_eq_true Z8); replace q3 := eq_true q3) | ((with_reducible refine gate_callee (f := 44) rfl ?_); refine goesL_ (some 27) rfl rfl Try.func44 (by kernel_rfl) rfl #[.int .i32 (wrap32 (bt a0 0))] rfl Z3 ?_; (with_reducible refine (dL.calls (wrap32 (bt a0 0)) false _ A4.out).mono ?_); rintro e w' ⟨rfl, ⟨nd, rfl⟩⟩; refine ⟨_, rfl, ?_⟩; (try (rw [dP w39]; generalize hq_ : World.drewN w39 _ = w39; have n0_ : Aside0 (w39.heap[gb189]? = some (.cells #[.int .i64 0, .string (⟨#[]⟩ : ByteArray), .int .i64 0, .int .i64 0] 38 (0, 0))) := ⟨Z50⟩; have n1_ : Aside0 (Below w.heap.size w w39) := ⟨Z13⟩; clear BK189 HB hq_; have BK189 := n0_; have HB := n1_; clear n0_ n1_))) | ((with_reducible refine gate_callee (f := 47) rfl ?_); refine goesL_ (some 46) rfl rfl Try.func47 (by kernel_rfl) rfl #[.int .i32 (wrap32 (bt a0 0))] rfl Z3 ?_; (with_reducible refine (fE.calls (wrap32 (bt a0 0)) false _ A25.out).mono ?_); rintro e w' ⟨rfl, ⟨nd, rfl⟩⟩; refine ⟨_, rfl, ?_⟩; (try (rw [dP w39]; generalize hq_ : World.drewN w39 _ = w39; have n0_ : Aside0 (w39.heap[gb189]? = some (.cells #[.int .i64 0, .string (⟨#[]⟩ : ByteArray), .int .i64 0, .int .i64 0] 38 (0, 0))) := ⟨Z50⟩; have n1_ : Aside0 (Below w.heap.size w w39) := ⟨Z13⟩; clear BK189 HB hq_; have BK189 := n0_; have HB := n1_; clear n0_ n1_))) | ((with_reducible refine gate_callee (f := 49) rfl ?_); refine goesL_ (some 65) rfl rfl Try.func49 (by kernel_rfl) rfl #[.string a0] rfl Z3 ?_; (with_reducible refine (bH.calls k a0 t198 t199 _ A37.out).mono ?_); rintro e w40 ⟨rfl, hb⟩; refine ⟨_, rfl, ?_⟩; have n0_ := Aside0.mk (bU (g := gb189) (o := .cells #[.int .i64 0, .string (⟨#[]⟩ : ByteArray), .int .i64 0, .int .i64 0] 38 (0, 0)) (by exact BK189.out) hb); have n1_ := Aside0.mk (below_step Z6 hb); clear BK189; clear HB; have BK189 := n0_; have HB := n1_; clear n0_ n1_; (try clear hb); have hcz41_0 : w40.cell? ⟨gb189, 0, none⟩ = some (.int .i64 0) := (ag BK189.out 0).trans rfl; have hcz41_1 : w40.cell? ⟨gb189, 1, none⟩ = some (.string (⟨#[]⟩ : ByteArray)) := (ag BK189.out 1).trans rfl; have hcz41_2 : w40.cell? ⟨gb189, 2, none⟩ = some (.int .i64 0) := (ag BK189.out 2).trans rfl; have hcz41_3 : w40.cell? ⟨gb189, 3, none⟩ = some (.int .i64 0) := (ag BK189.out 3).trans rfl; have hfz41_0 := ae BK189.out 0; have hfz41_1 := ae BK189.out 1; have hfz41_2 := ae BK189.out 2; have hfz41_3 := ae BK189.out 3))
    refine bodyPost_ret (gm rfl _ _ gb189 38 #[.int .i64 3, .string t198, .int .i64 0, .int .i64 0] (0, 0) _ rfl (by refine aZ (cs := #[.int .i64 3, .string t198, .int .i64 0, .int .i64 0]) ?_ 3 _ rfl; refine aZ (cs := #[.int .i64 3, .string t198, .int .i64 0, .int .i64 0]) ?_ 2 _ rfl; refine aZ (cs := #[.int .i64 3, .string (⟨#[]⟩ : ByteArray), .int .i64 0, .int .i64 0]) ?_ 1 _ rfl; refine aZ (cs := #[.int .i64 0, .string (⟨#[]⟩ : ByteArray), .int .i64 0, .int .i64 0]) ?_ 0 _ rfl; exact BK189.out) Try.underlying38 rfl (by kernel_rfl)) rfl ?_
    exact ⟨Z5, Z6⟩
   rw [if_neg c38] at H
   have c38b0 : decide (0 < t199) = false := decide_eq_false c38
   clear c38
   simp only [Option.some.injEq, Prod.mk.injEq] at H
   obtain ⟨rfl, rfl, rfl, rfl, rfl, rfl⟩ := H
   go_enter Try.func24, Try.ntmps24
   go_wp2_with (first | ((with_reducible refine bP (N := 2) rfl ?_); refine bT ?hg (N := 2) ?hd (cs := #[.int .i64 0, .string (⟨#[]⟩ : ByteArray), .int .i64 0, .int .i64 0]) (t := 38) ?hr ?_; (case hd => rfl); (case hg => rfl); (case hr => first | (go_simp; done) | (go_simp; rfl)); intro gb189 hg w42 hbox hb; have n0_ := Aside0.mk (below_step Z4 hb); have n1_ := Aside0.mk (hbox); have n2_ := Aside0.mk ((by rw [hg]; exact (below_size Z4) : w.heap.size ≤ gb189)); have n3_ := Aside0.mk ((by rw [hg]; exact (below_size Z4) : w.heap.size ≤ gb189)); clear HB; have HB := n0_; have BK189 := n1_; have GW189 := n2_; have GE189 := n3_; clear n0_ n1_ n2_ n3_; clear hb hbox hg; have p3 : 0 ≤ (0 : Int) := (by omega); have q3 : 0 < a0.size := (by have : (0 : Int) < (a0.size : Int) := of_decide_eq_true Z8; omega); have hx3 : ∀ h : 0 < a0.size, ((a0[0]'h).toNat : Int) = bt a0 0 := iO a0 0; clear p3; have qi3 : (0 < (a0.size : Int)) = True := eq_true (of_decide_eq_true Z8); replace q3 := eq_true q3) | ((with_reducible refine gate_callee (f := 44) rfl ?_); refine goesL_ (some 27) rfl rfl Try.func44 (by kernel_rfl) rfl #[.int .i32 (wrap32 (bt a0 0))] rfl Z3 ?_; (with_reducible refine (dL.calls (wrap32 (bt a0 0)) false _ A4.out).mono ?_); rintro e w' ⟨rfl, ⟨nd, rfl⟩⟩; refine ⟨_, rfl, ?_⟩; (try (rw [dP w42]; generalize hq_ : World.drewN w42 _ = w42; have n0_ : Aside0 (w42.heap[gb189]? = some (.cells #[.int .i64 0, .string (⟨#[]⟩ : ByteArray), .int .i64 0, .int .i64 0] 38 (0, 0))) := ⟨Z50⟩; have n1_ : Aside0 (Below w.heap.size w w42) := ⟨Z13⟩; clear BK189 HB hq_; have BK189 := n0_; have HB := n1_; clear n0_ n1_))) | ((with_reducible refine gate_callee (f := 47) rfl ?_); refine goesL_ (some 46) rfl rfl Try.func47 (by kernel_rfl) rfl #[.int .i32 (wrap32 (bt a0 0))] rfl Z3 ?_; (with_reducible refine (fE.calls (wrap32 (bt a0 0)) false _ A25.out).mono ?_); rintro e w' ⟨rfl, ⟨nd, rfl⟩⟩; refine ⟨_, rfl, ?_⟩; (try (rw [dP w42]; generalize hq_ : World.drewN w42 _ = w42; have n0_ : Aside0 (w42.heap[gb189]? = some (.cells #[.int .i64 0, .string (⟨#[]⟩ : ByteArray), .int .i64 0, .int .i64 0] 38 (0, 0))) := ⟨Z50⟩; have n1_ : Aside0 (Below w.heap.size w w42) := ⟨Z13⟩; clear BK189 HB hq_; have BK189 := n0_; have HB := n1_; clear n0_ n1_))) | ((with_reducible refine gate_callee (f := 49) rfl ?_); refine goesL_ (some 65) rfl rfl Try.func49 (by kernel_rfl) rfl #[.string a0] rfl Z3 ?_; (with_reducible refine (bH.calls k a0 t198 t199 _ A37.out).mono ?_); rintro e w43 ⟨rfl, hb⟩; refine ⟨_, rfl, ?_⟩; have n0_ := Aside0.mk (bU (g := gb189) (o := .cells #[.int .i64 0, .string (⟨#[]⟩ : ByteArray), .int .i64 0, .int .i64 0] 38 (0, 0)) (by exact BK189.out) hb); have n1_ := Aside0.mk (below_step Z6 hb); clear BK189; clear HB; have BK189 := n0_; have HB := n1_; clear n0_ n1_; (try clear hb); have hcz44_0 : w43.cell? ⟨gb189, 0, none⟩ = some (.int .i64 0) := (ag BK189.out 0).trans rfl; have hcz44_1 : w43.cell? ⟨gb189, 1, none⟩ = some (.string (⟨#[]⟩ : ByteArray)) := (ag BK189.out 1).trans rfl; have hcz44_2 : w43.cell? ⟨gb189, 2, none⟩ = some (.int .i64 0) := (ag BK189.out 2).trans rfl; have hcz44_3 : w43.cell? ⟨gb189, 3, none⟩ = some (.int .i64 0) := (ag BK189.out 3).trans rfl; have hfz44_0 := ae BK189.out 0; have hfz44_1 := ae BK189.out 1; have hfz44_2 := ae BK189.out 2; have hfz44_3 := ae BK189.out 3))
   refine bodyPost_ret (gm rfl _ _ gb189 38 #[.int .i64 0, .string (⟨#[]⟩ : ByteArray), .int .i64 0, .int .i64 0] (0, 0) _ rfl (by refine aZ (cs := #[.int .i64 0, .string (⟨#[]⟩ : ByteArray), .int .i64 0, .int .i64 0]) ?_ 3 _ rfl; refine aZ (cs := #[.int .i64 0, .string (⟨#[]⟩ : ByteArray), .int .i64 0, .int .i64 0]) ?_ 2 _ rfl; refine aZ (cs := #[.int .i64 0, .string (⟨#[]⟩ : ByteArray), .int .i64 0, .int .i64 0]) ?_ 1 _ rfl; refine aZ (cs := #[.int .i64 0, .string (⟨#[]⟩ : ByteArray), .int .i64 0, .int .i64 0]) ?_ 0 _ rfl; exact BK189.out) Try.underlying38 rfl (by kernel_rfl)) rfl ?_
   exact ⟨Z5, Z6⟩
  rw [if_neg c36] at H
  have c36b0 : ((wrap32 (bt a0 0)) == 34) = false := beq_eq_false_iff_ne.mpr c36
  have c36b1 : ((wrap32 (bt a0 0)) != 34) = true := bne_iff_ne.mpr c36
  replace H := Option.bind_eq_some_iff.mp H
  obtain ⟨t200, A450, H⟩ := H
  try dsimp only at H
  have A45 := Aside0.mk A450
  clear A450
  by_cases c46 : t200.toList = ([] : List UInt8)
  ·rw [if_pos c46] at H
   have c46b0 : (t200.toList == ([] : List UInt8)) = true := beq_iff_eq.mpr c46
   have c46b1 : (t200.toList != ([] : List UInt8)) = false := bne_eq_false_iff_eq.mpr c46
   clear c46
   simp only [Option.some.injEq, Prod.mk.injEq] at H
   obtain ⟨rfl, rfl, rfl, rfl, rfl, rfl⟩ := H
   go_enter Try.func24, Try.ntmps24
   go_wp2_with (first | ((with_reducible refine bP (N := 2) rfl ?_); refine bT ?hg (N := 2) ?hd (cs := #[.int .i64 0, .string (⟨#[]⟩ : ByteArray), .int .i64 0, .int .i64 0]) (t := 38) ?hr ?_; (case hd => rfl); (case hg => rfl); (case hr => first | (go_simp; done) | (go_simp; rfl)); intro gb189 hg w47 hbox hb; have n0_ := Aside0.mk (below_step Z4 hb); have n1_ := Aside0.mk (hbox); have n2_ := Aside0.mk ((by rw [hg]; exact (below_size Z4) : w.heap.size ≤ gb189)); have n3_ := Aside0.mk ((by rw [hg]; exact (below_size Z4) : w.heap.size ≤ gb189)); clear HB; have HB := n0_; have BK189 := n1_; have GW189 := n2_; have GE189 := n3_; clear n0_ n1_ n2_ n3_; clear hb hbox hg; have p3 : 0 ≤ (0 : Int) := (by omega); have q3 : 0 < a0.size := (by have : (0 : Int) < (a0.size : Int) := of_decide_eq_true Z8; omega); have hx3 : ∀ h : 0 < a0.size, ((a0[0]'h).toNat : Int) = bt a0 0 := iO a0 0; clear p3; have qi3 : (0 < (a0.size : Int)) = True := eq_true (of_decide_eq_true Z8); replace q3 := eq_true q3) | ((with_reducible refine gate_callee (f := 44) rfl ?_); refine goesL_ (some 27) rfl rfl Try.func44 (by kernel_rfl) rfl #[.int .i32 (wrap32 (bt a0 0))] rfl Z3 ?_; (with_reducible refine (dL.calls (wrap32 (bt a0 0)) false _ A4.out).mono ?_); rintro e w' ⟨rfl, ⟨nd, rfl⟩⟩; refine ⟨_, rfl, ?_⟩; (try (rw [dP w47]; generalize hq_ : World.drewN w47 _ = w47; have n0_ : Aside0 (w47.heap[gb189]? = some (.cells #[.int .i64 0, .string (⟨#[]⟩ : ByteArray), .int .i64 0, .int .i64 0] 38 (0, 0))) := ⟨Z50⟩; have n1_ : Aside0 (Below w.heap.size w w47) := ⟨Z13⟩; clear BK189 HB hq_; have BK189 := n0_; have HB := n1_; clear n0_ n1_))) | ((with_reducible refine gate_callee (f := 47) rfl ?_); refine goesL_ (some 46) rfl rfl Try.func47 (by kernel_rfl) rfl #[.int .i32 (wrap32 (bt a0 0))] rfl Z3 ?_; (with_reducible refine (fE.calls (wrap32 (bt a0 0)) false _ A25.out).mono ?_); rintro e w' ⟨rfl, ⟨nd, rfl⟩⟩; refine ⟨_, rfl, ?_⟩; (try (rw [dP w47]; generalize hq_ : World.drewN w47 _ = w47; have n0_ : Aside0 (w47.heap[gb189]? = some (.cells #[.int .i64 0, .string (⟨#[]⟩ : ByteArray), .int .i64 0, .int .i64 0] 38 (0, 0))) := ⟨Z50⟩; have n1_ : Aside0 (Below w.heap.size w w47) := ⟨Z13⟩; clear BK189 HB hq_; have BK189 := n0_; have HB := n1_; clear n0_ n1_))) | ((with_reducible refine gate_callee (f := 50) rfl ?_); refine goesL_ (some 17) rfl rfl Try.func50 (by kernel_rfl) rfl #[.string a0] rfl Z3 ?_; (with_reducible refine (cu.calls k a0 t200 _ A45.out).mono ?_); rintro e w' ⟨rfl, ⟨nd, rfl⟩⟩; refine ⟨_, rfl, ?_⟩; (try (rw [dP w47]; generalize hq_ : World.drewN w47 _ = w47; have n0_ : Aside0 (w47.heap[gb189]? = some (.cells #[.int .i64 0, .string (⟨#[]⟩ : ByteArray), .int .i64 0, .int .i64 0] 38 (0, 0))) := ⟨Z50⟩; have n1_ : Aside0 (Below w.heap.size w w47) := ⟨Z13⟩; clear BK189 HB hq_; have BK189 := n0_; have HB := n1_; clear n0_ n1_)); have hcz48_0 : w47.cell? ⟨gb189, 0, none⟩ = some (.int .i64 0) := (ag BK189.out 0).trans rfl; have hcz48_1 : w47.cell? ⟨gb189, 1, none⟩ = some (.string (⟨#[]⟩ : ByteArray)) := (ag BK189.out 1).trans rfl; have hcz48_2 : w47.cell? ⟨gb189, 2, none⟩ = some (.int .i64 0) := (ag BK189.out 2).trans rfl; have hcz48_3 : w47.cell? ⟨gb189, 3, none⟩ = some (.int .i64 0) := (ag BK189.out 3).trans rfl; have hfz48_0 := ae BK189.out 0; have hfz48_1 := ae BK189.out 1; have hfz48_2 := ae BK189.out 2; have hfz48_3 := ae BK189.out 3))
   refine bodyPost_ret (gm rfl _ _ gb189 38 #[.int .i64 0, .string (⟨#[]⟩ : ByteArray), .int .i64 0, .int .i64 0] (0, 0) _ rfl (by refine aZ (cs := #[.int .i64 0, .string (⟨#[]⟩ : ByteArray), .int .i64 0, .int .i64 0]) ?_ 3 _ rfl; refine aZ (cs := #[.int .i64 0, .string (⟨#[]⟩ : ByteArray), .int .i64 0, .int .i64 0]) ?_ 2 _ rfl; refine aZ (cs := #[.int .i64 0, .string (⟨#[]⟩ : ByteArray), .int .i64 0, .int .i64 0]) ?_ 1 _ rfl; refine aZ (cs := #[.int .i64 0, .string (⟨#[]⟩ : ByteArray), .int .i64 0, .int .i64 0]) ?_ 0 _ rfl; exact BK189.out) Try.underlying38 rfl (by kernel_rfl)) rfl ?_
   exact ⟨Z5, Z6⟩
  rw [if_neg c46] at H
  have c46b0 : (t200.toList == ([] : List UInt8)) = false := beq_eq_false_iff_ne.mpr c46
  have c46b1 : (t200.toList != ([] : List UInt8)) = true := bne_iff_ne.mpr c46
  simp only [Option.some.injEq, Prod.mk.injEq] at H
  obtain ⟨rfl, rfl, rfl, rfl, rfl, rfl⟩ := H
  go_enter Try.func24, Try.ntmps24
  go_wp2_with (first | ((with_reducible refine bP (N := 2) rfl ?_); refine bT ?hg (N := 2) ?hd (cs := #[.int .i64 0, .string (⟨#[]⟩ : ByteArray), .int .i64 0, .int .i64 0]) (t := 38) ?hr ?_; (case hd => rfl); (case hg => rfl); (case hr => first | (go_simp; done) | (go_simp; rfl)); intro gb189 hg w49 hbox hb; have n0_ := Aside0.mk (below_step Z4 hb); have n1_ := Aside0.mk (hbox); have n2_ := Aside0.mk ((by rw [hg]; exact (below_size Z4) : w.heap.size ≤ gb189)); have n3_ := Aside0.mk ((by rw [hg]; exact (below_size Z4) : w.heap.size ≤ gb189)); clear HB; have HB := n0_; have BK189 := n1_; have GW189 := n2_; have GE189 := n3_; clear n0_ n1_ n2_ n3_; clear hb hbox hg; have p3 : 0 ≤ (0 : Int) := (by omega); have q3 : 0 < a0.size := (by have : (0 : Int) < (a0.size : Int) := of_decide_eq_true Z8; omega); have hx3 : ∀ h : 0 < a0.size, ((a0[0]'h).toNat : Int) = bt a0 0 := iO a0 0; clear p3; have qi3 : (0 < (a0.size : Int)) = True := eq_true (of_decide_eq_true Z8); replace q3 := eq_true q3) | ((with_reducible refine gate_callee (f := 44) rfl ?_); refine goesL_ (some 27) rfl rfl Try.func44 (by kernel_rfl) rfl #[.int .i32 (wrap32 (bt a0 0))] rfl Z3 ?_; (with_reducible refine (dL.calls (wrap32 (bt a0 0)) false _ A4.out).mono ?_); rintro e w' ⟨rfl, ⟨nd, rfl⟩⟩; refine ⟨_, rfl, ?_⟩; (try (rw [dP w49]; generalize hq_ : World.drewN w49 _ = w49; have n0_ : Aside0 (w49.heap[gb189]? = some (.cells #[.int .i64 0, .string (⟨#[]⟩ : ByteArray), .int .i64 0, .int .i64 0] 38 (0, 0))) := ⟨Z50⟩; have n1_ : Aside0 (Below w.heap.size w w49) := ⟨Z13⟩; clear BK189 HB hq_; have BK189 := n0_; have HB := n1_; clear n0_ n1_))) | ((with_reducible refine gate_callee (f := 47) rfl ?_); refine goesL_ (some 46) rfl rfl Try.func47 (by kernel_rfl) rfl #[.int .i32 (wrap32 (bt a0 0))] rfl Z3 ?_; (with_reducible refine (fE.calls (wrap32 (bt a0 0)) false _ A25.out).mono ?_); rintro e w' ⟨rfl, ⟨nd, rfl⟩⟩; refine ⟨_, rfl, ?_⟩; (try (rw [dP w49]; generalize hq_ : World.drewN w49 _ = w49; have n0_ : Aside0 (w49.heap[gb189]? = some (.cells #[.int .i64 0, .string (⟨#[]⟩ : ByteArray), .int .i64 0, .int .i64 0] 38 (0, 0))) := ⟨Z50⟩; have n1_ : Aside0 (Below w.heap.size w w49) := ⟨Z13⟩; clear BK189 HB hq_; have BK189 := n0_; have HB := n1_; clear n0_ n1_))) | ((with_reducible refine gate_callee (f := 50) rfl ?_); refine goesL_ (some 17) rfl rfl Try.func50 (by kernel_rfl) rfl #[.string a0] rfl Z3 ?_; (with_reducible refine (cu.calls k a0 t200 _ A45.out).mono ?_); rintro e w' ⟨rfl, ⟨nd, rfl⟩⟩; refine ⟨_, rfl, ?_⟩; (try (rw [dP w49]; generalize hq_ : World.drewN w49 _ = w49; have n0_ : Aside0 (w49.heap[gb189]? = some (.cells #[.int .i64 0, .string (⟨#[]⟩ : ByteArray), .int .i64 0, .int .i64 0] 38 (0, 0))) := ⟨Z50⟩; have n1_ : Aside0 (Below w.heap.size w w49) := ⟨Z13⟩; clear BK189 HB hq_; have BK189 := n0_; have HB := n1_; clear n0_ n1_)); have hcz50_0 : w49.cell? ⟨gb189, 0, none⟩ = some (.int .i64 0) := (ag BK189.out 0).trans rfl; have hcz50_1 : w49.cell? ⟨gb189, 1, none⟩ = some (.string (⟨#[]⟩ : ByteArray)) := (ag BK189.out 1).trans rfl; have hcz50_2 : w49.cell? ⟨gb189, 2, none⟩ = some (.int .i64 0) := (ag BK189.out 2).trans rfl; have hcz50_3 : w49.cell? ⟨gb189, 3, none⟩ = some (.int .i64 0) := (ag BK189.out 3).trans rfl; have hfz50_0 := ae BK189.out 0; have hfz50_1 := ae BK189.out 1; have hfz50_2 := ae BK189.out 2; have hfz50_3 := ae BK189.out 3))
  refine bodyPost_ret (gm rfl _ _ gb189 38 #[.int .i64 4, .string t200, .int .i64 0, .int .i64 0] (0, 0) _ rfl (by refine aZ (cs := #[.int .i64 4, .string t200, .int .i64 0, .int .i64 0]) ?_ 3 _ rfl; refine aZ (cs := #[.int .i64 4, .string t200, .int .i64 0, .int .i64 0]) ?_ 2 _ rfl; refine aZ (cs := #[.int .i64 4, .string (⟨#[]⟩ : ByteArray), .int .i64 0, .int .i64 0]) ?_ 1 _ rfl; refine aZ (cs := #[.int .i64 0, .string (⟨#[]⟩ : ByteArray), .int .i64 0, .int .i64 0]) ?_ 0 _ rfl; exact BK189.out) Try.underlying38 rfl (by kernel_rfl)) rfl ?_
  exact ⟨Z5, Z6⟩
 rw [if_neg c2] at H
 exact absurd H (by simp)
end Go.Proofs.Ytendgafpkeadhaa.Q
end
