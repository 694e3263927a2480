/- Walks over functions of the program, words for them, and what the functions come to; of each text only what this claim uses; no condition. -/
import Derived.Test.YtendgafpkeadhaaZRO0
import Derived.Test.YtendgafpkeadhaaZRO1
import Derived.Test.YtendgafpkeadhaaZRO3
import Derived.Test.YtendgafpkeadhaaZRO5
section
namespace Go.Proofs.Ytendgafpkeadhaa.Q
open Go.RowKit Go.Proofs.YtendgafpkeadhaaW.PrintWords Go.Proofs.YtendgafpkeadhaaW.PrintLast Go.Proofs.YtendgafpkeadhaaW.PrintMore
attribute [local go_sem] max2_int min2_int max_two min_two max_three min_three max_four min_four
set_option linter.unusedVariables false
set_option linter.unusedSimpArgs false
/-! ### bF: function 18 -/
mutual
def bF.l0 : Nat → List (S41) → Int → List Int → List (S41) → Int → Int → Option (Int)
 | 0, _, _, _, _, _, _ => none
 | k + 1, x0, x3, x4, x8, x9, x10 => if x10 < x9 then (if 0 ≤ x10 then (if x10 < (x8.length : Int) then ((bM.f k x0 x10).bind fun t104 => (if t104 < 0 then (some (-1)) else (if x4.length < 17592186044416 then ((some (x4 ++ [(rd_T41 x8 x10).f1] : List Int)).bind fun y105 => (bF.l1 k x0 (mx x3 (y105.length : Int)) y105 x8 x9 x10)) else (none)))) else (none)) else (none)) else (some x3)
def bF.l1 : Nat → List (S41) → Int → List Int → List (S41) → Int → Int → Option (Int)
 | 0, _, _, _, _, _, _ => none
 | k + 1, x0, x3, x4, x8, x9, x10 => if 0 ≤ (wrap64 ((x4.length : Int) - 1)) then (if (wrap64 ((x4.length : Int) - 1)) < (x4.length : Int) then (if (rd x4 (wrap64 ((x4.length : Int) - 1))) > 0 then (bF.l0 k x0 x3 (x4.set ((wrap64 ((x4.length : Int) - 1)) : Int).toNat (wrap64 ((rd x4 (wrap64 ((x4.length : Int) - 1))) - 1))) x8 x9 (wrap64 (x10 + 1))) else (if (wrap64 ((x4.length : Int) - 1)) ≤ (x4.length : Int) then ((some (x4.take ((wrap64 ((x4.length : Int) - 1)) : Int).toNat : List Int)).bind fun y111 => (if (wrap64 ((x4.length : Int) - 1)) = 0 then (bF.l0 k x0 x3 y111 x8 x9 (wrap64 (x10 + 1))) else (bF.l1 k x0 x3 y111 x8 x9 x10))) else (none))) else (none)) else (none)
end
def bF.f (k : Nat) (l0 : List (S41)) : Option (Int) := bF.l0 k l0 0 ([] : List Int) l0 (l0.length : Int) 0
theorem bF.mono_l : ∀ k, (∀ y0 y1 y2 y3 y4 y5, LeO (bF.l0 k y0 y1 y2 y3 y4 y5) (bF.l0 (k + 1) y0 y1 y2 y3 y4 y5)) ∧ (∀ y0 y1 y2 y3 y4 y5, LeO (bF.l1 k y0 y1 y2 y3 y4 y5) (bF.l1 (k + 1) y0 y1 y2 y3 y4 y5))
 | 0 => ⟨fun _ _ _ _ _ _ r h => by simp [bF.l0] at h, fun _ _ _ _ _ _ r h => by simp [bF.l1] at h⟩
 | k + 1 => by
  obtain ⟨ih0, ih1⟩ := bF.mono_l k
  refine ⟨?_, ?_⟩
  ·intro y0 y1 y2 y3 y4 y5
   unfold bF.l0
   have m0 := bM.mono
   exact yL
  intro y0 y1 y2 y3 y4 y5
  unfold bF.l1
  have m0 := bM.mono
  exact yL
theorem bF.mono : ∀ a0 k, LeO (bF.f k a0) (bF.f (k + 1) a0) := by
 intro a0 k
 obtain ⟨ih0, ih1⟩ := bF.mono_l k
 unfold bF.f
 have m0 := bM.mono
 exact yL
set_option maxHeartbeats 8000000 in
set_option maxRecDepth 100000 in
theorem bF.calls (k : Nat) (A0 : Option Addr) (c0 : Nat) (l0 : List (S41)) (r : Int) (w : World) (hr0 : Kd.C k41 w A0 l0.length l0) (hc0 : l0.length ≤ c0) (h : bF.f k l0 = some r) :
 Calls Try.prog 18 #[.slice A0 l0.length c0] w fun e w' => e = .returned (.int .i64 r) ∧ Below w.heap.size w w' := by
 have hu41 := Try.underlying41
 have HR0 := Aside0.mk hr0
 have HC0 := Aside0.mk hc0
 clear hr0 hc0
 have HB := Aside0.mk (Below.refl w.heap.size w)
 have H := h
 clear h
 unfold bF.f at H
 have H' := Aside0.mk H
 clear H
 go_enter Try.func18, Try.ntmps18
 go_wp2
 go_step3
 go_wp2
 go_step3
 go_wp2
 go_loopg [3, 4, 10] k (fun kq v3 v4 v10 w' => ∃ (x3_1 : Int) (x4_1 : List Int) (x10_1 : Int), v3 = .int .i64 x3_1 ∧ v10 = .int .i64 x10_1 ∧ Aside0 (bF.l0 kq l0 x3_1 x4_1 l0 (l0.length : Int) x10_1 = some r) ∧ Aside0 (kq ≤ k) ∧ Aside0 (Kd.R (Kd.int .i64) 3 w' w.heap.size (fun _ => True) v4 x4_1) ∧ Aside0 (Below w.heap.size w w'))
 case atStart => exact ⟨(0), (([] : List Int)), (0), Z6, Z6, H', ⟨Nat.le_refl _⟩, ⟨Z24⟩, ⟨Z3⟩⟩
 case round =>
  clear H'
  try clear c1
  obtain ⟨x3_1, x4_1, x10_1, rfl, rfl, HA, HK1, HO_4, HB⟩ := hrel
  cases gk with
  | zero => exact absurd HA.out (by simp [bF.l0])
  | succ k1 =>
   have H := HA.out
   clear HA
   simp only [bF.l0] at H
   revert H
   refine fO (fun c2b0 H => ?_) fun c2b0 H => ?_
   ·revert H
    refine eQ (fun c3b0 H => ?_) fun c3 H => ?_
    ·revert H
     refine eQ (fun c4b0 H => ?_) fun c4 H => ?_
     ·revert H
      refine yB1 fun t104 A5 H => ?_
      revert H
      refine fO (fun c6b0 H => ?_) fun c6b0 H => ?_
      ·obtain rfl := Option.some.inj H
       have p102 : 0 ≤ (x10_1 : Int) := of_decide_eq_true Z5
       have q102 : x10_1 < (l0.length : Int) := of_decide_eq_true Z5
       obtain ⟨ad102, e102, hx102_0, hx102_1, hx102_2, hx102_3, hx102_4⟩ := gJ HR0.out x10_1 p102 q102
       cases e102
       replace hx102_0 := (HB.out.cell (World.block_lt_of_cell? w _ hx102_0)).trans hx102_0
       replace hx102_1 := (HB.out.cell (World.block_lt_of_cell? w _ hx102_1)).trans hx102_1
       replace hx102_2 := (HB.out.cell (World.block_lt_of_cell? w _ hx102_2)).trans hx102_2
       replace hx102_3 := (HB.out.cell (World.block_lt_of_cell? w _ hx102_3)).trans hx102_3
       replace hx102_4 := (HB.out.cell (World.block_lt_of_cell? w _ hx102_4)).trans hx102_4
       replace p102 := eq_true p102
       replace q102 := eq_true q102
       go_wp2_with (first | ((with_reducible refine bJ (N := 6) rfl ?_); refine bU ?hg (N := 6) ?hd (cs := #[.int .i64 0, .int .i64 0, .string (⟨#[]⟩ : ByteArray), .int .i64 0, .string (⟨#[]⟩ : ByteArray)]) (t := 41) ?hr ?_; (case hd => rfl); (case hg => rfl); (case hr => first | (go_simp; done) | (go_simp; rfl)); intro gb103 hg w7 hbox hb; refine yA5 (Kd.R_below Z33 hb) (below_step Z3 hb) (hbox) ((by rw [hg]; exact (below_size Z3) : w.heap.size ≤ gb103)) ((by rw [hg]; exact (below_size Z3) : w.heap.size ≤ gb103)) ?_; clear HO_4 HB; intro HO_4 HB BK103 GW103 GE103; clear hb hbox hg; have hcz8_0 : w7.cell? ⟨gb103, 0, none⟩ = some (.int .i64 0) := (af BK103.out 0).trans rfl; have hcz8_1 : w7.cell? ⟨gb103, 1, none⟩ = some (.int .i64 0) := (af BK103.out 1).trans rfl; have hcz8_2 : w7.cell? ⟨gb103, 2, none⟩ = some (.string (⟨#[]⟩ : ByteArray)) := (af BK103.out 2).trans rfl; have hcz8_3 : w7.cell? ⟨gb103, 3, none⟩ = some (.int .i64 0) := (af BK103.out 3).trans rfl; have hcz8_4 : w7.cell? ⟨gb103, 4, none⟩ = some (.string (⟨#[]⟩ : ByteArray)) := (af BK103.out 4).trans rfl; have hfz8_0 := ae BK103.out 0; have hfz8_1 := ae BK103.out 1; have hfz8_2 := ae BK103.out 2; have hfz8_3 := ae BK103.out 3; have hfz8_4 := ae BK103.out 4) | ((with_reducible refine gC 17 rfl ?_); refine gM 17 17 rfl Try.func17 (bM.calls k1 _ _ l0 x10_1 t104 _ (Kd.C_below HR0.out Z30) HC0.out A5.out) ?_; rintro _ w' ⟨rfl, ⟨nd, rfl⟩⟩; refine ⟨_, rfl, ?_⟩))
       go_ret
       exact ⟨Z4, Z30⟩
      revert H
      refine dX (fun c9 H => ?_) fun c9 H => ?_
      ·have LMc9 := Aside0.mk c9
       clear c9
       obtain ⟨y105, hy105⟩ : ∃ y_ : List Int, y_ = (x4_1 ++ [(rd_T41 l0 x10_1).f1]) := ⟨_, rfl⟩
       replace H : (bF.l1 k1 l0 (mx x3_1 (y105.length : Int)) y105 l0 (l0.length : Int) x10_1) = some r := by first | (rw [hy105]; with_reducible exact H) | (have H2_ := (Option.bind_some _ _).symm.trans H; rw [hy105]; with_reducible exact H2_) | (have H2_ := (Option.bind_some _ _).symm.trans H; with_reducible exact H2_) | with_reducible exact H | (rw [hy105]; exact H) | exact H
       have Ny105 := Aside0.mk hy105
       clear hy105
       obtain ⟨ji10, hji10⟩ : ∃ j_ : Int, (mx x3_1 (y105.length : Int)) = j_ := ⟨_, rfl⟩
       replace H : (bF.l1 k1 l0 ji10 y105 l0 (l0.length : Int) x10_1) = some r := by first | (rw [hji10] at H; exact H) | (simp only [hji10] at H ⊢; exact H)
       (try rw [hji10] at A5)
       have hji10_ : (if x3_1 < (y105.length : Int) then (y105.length : Int) else x3_1) = ji10 := hji10
       have H' := Aside0.mk H
       clear H
       have p102 : 0 ≤ (x10_1 : Int) := of_decide_eq_true Z5
       have q102 : x10_1 < (l0.length : Int) := of_decide_eq_true Z5
       obtain ⟨ad102, e102, hx102_0, hx102_1, hx102_2, hx102_3, hx102_4⟩ := gJ HR0.out x10_1 p102 q102
       cases e102
       replace hx102_0 := (HB.out.cell (World.block_lt_of_cell? w _ hx102_0)).trans hx102_0
       replace hx102_1 := (HB.out.cell (World.block_lt_of_cell? w _ hx102_1)).trans hx102_1
       replace hx102_2 := (HB.out.cell (World.block_lt_of_cell? w _ hx102_2)).trans hx102_2
       replace hx102_3 := (HB.out.cell (World.block_lt_of_cell? w _ hx102_3)).trans hx102_3
       replace hx102_4 := (HB.out.cell (World.block_lt_of_cell? w _ hx102_4)).trans hx102_4
       replace p102 := eq_true p102
       replace q102 := eq_true q102
       go_wp2_with (first | ((with_reducible refine bJ (N := 6) rfl ?_); refine bU ?hg (N := 6) ?hd (cs := #[.int .i64 0, .int .i64 0, .string (⟨#[]⟩ : ByteArray), .int .i64 0, .string (⟨#[]⟩ : ByteArray)]) (t := 41) ?hr ?_; (case hd => rfl); (case hg => rfl); (case hr => first | (go_simp; done) | (go_simp; rfl)); intro gb103 hg w11 hbox hb; refine yA5 (Kd.R_below Z33 hb) (below_step Z3 hb) (hbox) ((by rw [hg]; exact (below_size Z3) : w.heap.size ≤ gb103)) ((by rw [hg]; exact (below_size Z3) : w.heap.size ≤ gb103)) ?_; clear HO_4 HB; intro HO_4 HB BK103 GW103 GE103; clear hb hbox hg; have hcz12_0 : w11.cell? ⟨gb103, 0, none⟩ = some (.int .i64 0) := (af BK103.out 0).trans rfl; have hcz12_1 : w11.cell? ⟨gb103, 1, none⟩ = some (.int .i64 0) := (af BK103.out 1).trans rfl; have hcz12_2 : w11.cell? ⟨gb103, 2, none⟩ = some (.string (⟨#[]⟩ : ByteArray)) := (af BK103.out 2).trans rfl; have hcz12_3 : w11.cell? ⟨gb103, 3, none⟩ = some (.int .i64 0) := (af BK103.out 3).trans rfl; have hcz12_4 : w11.cell? ⟨gb103, 4, none⟩ = some (.string (⟨#[]⟩ : ByteArray)) := (af BK103.out 4).trans rfl; have hfz12_0 := ae BK103.out 0; have hfz12_1 := ae BK103.out 1; have hfz12_2 := ae BK103.out 2; have hfz12_3 := ae BK103.out 3; have hfz12_4 := ae BK103.out 4) | ((with_reducible refine gC 17 rfl ?_); refine gM 17 17 rfl Try.func17 (bM.calls k1 _ _ l0 x10_1 t104 _ (Kd.C_below HR0.out Z30) HC0.out A5.out) ?_; rintro _ w' ⟨rfl, ⟨nd, rfl⟩⟩; refine ⟨_, rfl, ?_⟩) | ((with_reducible refine dB (b := .append) (xs := #[.tmp 19, .tmp 22]) rfl ?_); at_builtin; refine Kd.iP (Kd.int .i64) (w0 := w) w.heap.size rfl (.tmp 19) (.tmp 22) 46 3 (.int .i64 0) 8 rfl Try.underlying46 info3 rfl (by decide) (by omega) u4 x4_1 ((rd_T41 l0 x10_1).f1) [.int .i64 ((rd_T41 l0 x10_1).f1)] (fun _ => True) (fun _ => False) rfl (by first | (go_simp; done) | (go_simp; rfl)) ?aP (fun _ hk => hk.elim) ?aF ?aO ?aB ?aS ?aL ?_; (case aP => exact rfl); (case aB => exact Z30); (case aF => exact (fun _ _ => trivial)); (case aO => exact (by (with_reducible repeat (first | apply Kd.R_alloc | apply Kd.R_drewN | apply Kd.R_drew)); exact Kd.bn (Kd.ku (p := ⟨gb103, 4, none⟩) (Kd.ku (p := ⟨gb103, 3, none⟩) (Kd.ku (p := ⟨gb103, 2, none⟩) (Kd.ku (p := ⟨gb103, 1, none⟩) (Kd.ku (p := ⟨gb103, 0, none⟩) (Kd.xn HO_4.out BK103.out (by decide)) (fun _ hk => hk.2) (.int .i64 ((rd_T41 l0 x10_1).f0))) (fun _ hk => hk.2) (.int .i64 ((rd_T41 l0 x10_1).f1))) (fun _ hk => hk.2) (.string ((rd_T41 l0 x10_1).f2))) (fun _ hk => hk.2) (.int .i64 ((rd_T41 l0 x10_1).f3))) (fun _ hk => hk.2) (.string ((rd_T41 l0 x10_1).f4))) (fun _ hk => trivial))); (case aS => exact (below_size Z30)); (case aL => have := LMc9.out; omega); intro v106 w13 ho hb hg hat; rw [← Ny105.out] at ho; refine yA3 (jd (g := gb103) (o := .cells #[.int .i64 ((rd_T41 l0 x10_1).f0), .int .i64 ((rd_T41 l0 x10_1).f1), .string ((rd_T41 l0 x10_1).f2), .int .i64 ((rd_T41 l0 x10_1).f3), .string ((rd_T41 l0 x10_1).f4)] 41 (0, 0)) (by refine aA (cs := #[.int .i64 ((rd_T41 l0 x10_1).f0), .int .i64 ((rd_T41 l0 x10_1).f1), .string ((rd_T41 l0 x10_1).f2), .int .i64 ((rd_T41 l0 x10_1).f3), .string (⟨#[]⟩ : ByteArray)]) ?_ 4 _ rfl; refine aA (cs := #[.int .i64 ((rd_T41 l0 x10_1).f0), .int .i64 ((rd_T41 l0 x10_1).f1), .string ((rd_T41 l0 x10_1).f2), .int .i64 0, .string (⟨#[]⟩ : ByteArray)]) ?_ 3 _ rfl; refine aA (cs := #[.int .i64 ((rd_T41 l0 x10_1).f0), .int .i64 ((rd_T41 l0 x10_1).f1), .string (⟨#[]⟩ : ByteArray), .int .i64 0, .string (⟨#[]⟩ : ByteArray)]) ?_ 2 _ rfl; refine aA (cs := #[.int .i64 ((rd_T41 l0 x10_1).f0), .int .i64 0, .string (⟨#[]⟩ : ByteArray), .int .i64 0, .string (⟨#[]⟩ : ByteArray)]) ?_ 1 _ rfl; refine aA (cs := #[.int .i64 0, .int .i64 0, .string (⟨#[]⟩ : ByteArray), .int .i64 0, .string (⟨#[]⟩ : ByteArray)]) ?_ 0 _ rfl; exact BK103.out) hg (Kd.Dh HO_4.out BK103.out (by decide))) (hb) (ho) ?_; clear BK103 HB HO_4; intro BK103 HB HO107; clear ho hb hg hat; obtain ⟨Ao14, co14, rfl⟩ := Kd.R_slice HO107.out))
       go_loopg [4] k1 (fun kq v4 w' => ∃ (x4_2 : List Int), Aside0 (bF.l1 kq l0 ji10 x4_2 l0 (l0.length : Int) x10_1 = some r) ∧ Aside0 (kq ≤ k1) ∧ Aside0 (Kd.R (Kd.int .i64) 3 w' w.heap.size (fun _ => True) v4 x4_2) ∧ Aside0 (w'.heap[gb103]? = some (.cells #[.int .i64 ((rd_T41 l0 x10_1).f0), .int .i64 ((rd_T41 l0 x10_1).f1), .string ((rd_T41 l0 x10_1).f2), .int .i64 ((rd_T41 l0 x10_1).f3), .string ((rd_T41 l0 x10_1).f4)] 41 (0, 0))) ∧ Aside0 (Below w.heap.size w w'))
       case atStart => exact ⟨(y105), H', ⟨Nat.le_refl _⟩, ⟨by (with_reducible repeat (first | apply Kd.R_alloc | apply Kd.R_drewN | apply Kd.R_drew)); exact HO107.out⟩, ⟨by exact BK103.out⟩, ⟨Z30⟩⟩
       case round =>
        clear H'
        try clear c1
        try clear p1
        try clear q1
        try clear hx1
        try clear c2
        try clear c2b0
        try clear p2
        try clear c3
        try clear c3b0
        try clear c4
        try clear c4b0
        try clear c6
        try clear c6b0
        try clear c9
        try clear p10
        try clear q10
        try clear hx10
        try clear hcz12_0
        try clear hcz12_1
        try clear hcz12_2
        try clear hcz12_3
        try clear hcz12_4
        try clear hcz8_0
        try clear hcz8_1
        try clear hcz8_2
        try clear hcz8_3
        try clear hcz8_4
        try clear hfz12_0
        try clear hfz12_1
        try clear hfz12_2
        try clear hfz12_3
        try clear hfz12_4
        try clear hfz8_0
        try clear hfz8_1
        try clear hfz8_2
        try clear hfz8_3
        try clear hfz8_4
        try clear hx102_0
        try clear hx102_1
        try clear hx102_2
        try clear hx102_3
        try clear hx102_4
        try clear p102
        try clear q102
        obtain ⟨x4_2, HA, HK2, HO_4, BK103, HB⟩ := hrel
        cases gk with
        | zero => exact absurd HA.out (by simp [bF.l1])
        | succ k2 =>
         have H := HA.out
         clear HA
         simp only [bF.l1] at H
         obtain ⟨ji15, hji15⟩ : ∃ j_ : Int, (wrap64 ((x4_2.length : Int) - 1)) = j_ := ⟨_, rfl⟩
         replace H : (if 0 ≤ (ji15) then (if (ji15) < (x4_2.length : Int) then (if (rd x4_2 (ji15)) > 0 then (bF.l0 k2 l0 ji10 (x4_2.set ((ji15) : Int).toNat (wrap64 ((rd x4_2 (ji15)) - 1))) l0 (l0.length : Int) (wrap64 (x10_1 + 1))) else (if (ji15) ≤ (x4_2.length : Int) then ((some (x4_2.take ((ji15) : Int).toNat : List Int)).bind fun y111 => (if (ji15) = 0 then (bF.l0 k2 l0 ji10 y111 l0 (l0.length : Int) (wrap64 (x10_1 + 1))) else (bF.l1 k2 l0 ji10 y111 l0 (l0.length : Int) x10_1))) else (none))) else (none)) else (none)) = some r := by first | (rw [hji15] at H; exact H) | (simp only [hji15] at H ⊢; exact H)
         have hji15w : (IntKind.i64.wrap ((x4_2.length : Int) - 1)) = ji15 := (dE _).trans hji15
         revert H
         refine eQ (fun c16b0 H => ?_) fun c16 H => ?_
         ·revert H
          refine eQ (fun c17b0 H => ?_) fun c17 H => ?_
          ·revert H
           refine dX (fun c18 H => ?_) fun c18 H => ?_
           ·have c18b0 : decide (0 < (rd x4_2 (ji15))) = true := decide_eq_true c18
            clear c18
            obtain ⟨y110, hy110⟩ : ∃ y_ : List Int, y_ = (x4_2.set ((ji15) : Int).toNat (wrap64 ((rd x4_2 (ji15)) - 1))) := ⟨_, rfl⟩
            replace H : (bF.l0 k2 l0 ji10 y110 l0 (l0.length : Int) (wrap64 (x10_1 + 1))) = some r := by first | (rw [hy110]; with_reducible exact H) | (have H2_ := (Option.bind_some _ _).symm.trans H; rw [hy110]; with_reducible exact H2_) | (have H2_ := (Option.bind_some _ _).symm.trans H; with_reducible exact H2_) | with_reducible exact H | (rw [hy110]; exact H) | exact H
            have Ny110 := Aside0.mk hy110
            clear hy110
            have H' := Aside0.mk H
            clear H
            obtain ⟨Ao20, co20, eo20⟩ := Kd.R_slice HO_4.out
            subst eo20
            have p108 : 0 ≤ ((ji15) : Int) := of_decide_eq_true Z5
            have q108 : (ji15) < (x4_2.length : Int) := of_decide_eq_true Z5
            obtain ⟨ad108, e108, hx108_0⟩ := Kd.jF (Kd.R_reads' HO_4.out).2.2 (ji15) p108 q108
            cases e108
            replace p108 := eq_true p108
            replace q108 := eq_true q108
            have p109 : 0 ≤ ((ji15) : Int) := of_decide_eq_true Z5
            have q109 : (ji15) < (x4_2.length : Int) := of_decide_eq_true Z5
            obtain ⟨ad109, e109, hx109_0⟩ := Kd.jF (Kd.R_reads' HO_4.out).2.2 (ji15) p109 q109
            obtain rfl : ad108 = ad109 := (by injection e109)
            replace p109 := eq_true p109
            replace q109 := eq_true q109
            have p19 : 0 ≤ ((ji15) : Int) := of_decide_eq_true Z5
            have q19 : ((ji15) : Int) < ((x4_2.length : Int) : Int) := of_decide_eq_true Z5
            obtain ⟨go19, co19, eo19, gb19, gl19, cl19, HG19⟩ := Kd.Jl HO_4.out (by omega)
            (first | cases eo19 | (injection eo19 with ea_ en_ ec_; (first | subst ea_ | (injection ea_ with ea_; subst ea_)); subst ec_; clear en_))
            have GB19 := Aside0.mk gb19
            have GG19 := Aside0.mk HG19
            clear gb19 gl19 HG19
            (first | simp only [add_plain] at hx108_0 | skip)
            (first | simp only [add_plain] at hx109_0 | skip)
            obtain ⟨hx19_0, hf19_0⟩ := Kd.GR 0 HO_4.out ((ji15) : Int) p19 q19
            replace p19 := eq_true p19
            replace q19 := eq_true q19
            have HP21 := Kd.Jk HO_4.out ((ji15) : Int) (wrap64 ((rd x4_2 (ji15)) - 1))
            go_wp2_with (first | ((with_reducible refine zx (t := 3) (p := 41) rfl ?_); refine xX (t := 3) (p := 41) (v := ?vo_w22) (w1 := (wr.setCell ⟨go19, ((ji15) : Int).toNat, none⟩ (.int .i64 (wrap64 ((rd x4_2 (ji15)) - 1))))) ?hg ?ho ?hn ?hr ?_; (case ho => rfl); (case hg => rfl); (case hn => rfl); (case hr => first | (go_simp; done) | (go_simp; rfl)); intro w22 hw; have hg : wr.grownBy w22 (some go19) := (by rw [hw]; exact HP21.2); have hp_ : Kd.R (Kd.int .i64) 3 w22 w.heap.size (fun _ => True) (.slice (some ⟨go19, 0, none⟩) x4_2.length co20) y110 := (by rw [hw, Ny110.out]; exact HP21.1); clear HP21; refine yA3 (hp_) (jd (g := gb103) (o := .cells #[.int .i64 ((rd_T41 l0 x10_1).f0), .int .i64 ((rd_T41 l0 x10_1).f1), .string ((rd_T41 l0 x10_1).f2), .int .i64 ((rd_T41 l0 x10_1).f3), .string ((rd_T41 l0 x10_1).f4)] 41 (0, 0)) (by exact BK103.out) hg (Kd.Dh HO_4.out BK103.out (by decide))) ((by rw [hw]; exact dA (HB.out) GB19.out : Below w.heap.size w w22)) ?_; clear HO_4 BK103 HB; intro HO_4 BK103 HB; clear hg hw hp_))
            go_roundg k2
            case measure => have := HK1.out; have := HK2.out; omega
            case rel => exact ⟨(ji10), (y110), (wrap64 (x10_1 + 1)), (by first | rfl | (simp; done) | (simp only [← hji10] <;> (first | rfl | simp)) | (simp [*]; done)), Z6, H', ⟨by have := HK1.out; have := HK2.out; omega⟩, ⟨Z33⟩, ⟨Z30⟩⟩
           have c18b0 : decide (0 < (rd x4_2 (ji15))) = false := decide_eq_false c18
           clear c18
           revert H
           refine fU (fun c23b0 c23b1 H => ?_) fun c23 H => ?_
           ·obtain ⟨y111, hy111⟩ : ∃ y_ : List Int, y_ = (x4_2.take ((ji15) : Int).toNat) := ⟨_, rfl⟩
            replace H : (if (ji15) = 0 then (bF.l0 k2 l0 ji10 y111 l0 (l0.length : Int) (wrap64 (x10_1 + 1))) else (bF.l1 k2 l0 ji10 y111 l0 (l0.length : Int) x10_1)) = some r := by first | (rw [hy111]; with_reducible exact H) | (have H2_ := (Option.bind_some _ _).symm.trans H; rw [hy111]; with_reducible exact H2_) | (have H2_ := (Option.bind_some _ _).symm.trans H; with_reducible exact H2_) | with_reducible exact H | (rw [hy111]; exact H) | exact H
            have Ny111 := Aside0.mk hy111
            clear hy111
            revert H
            refine aJ (fun c24b0 c24b1 H => ?_) fun c24 c24b0 c24b1 H => ?_
            ·have H' := Aside0.mk H
             clear H
             obtain ⟨Ao25, co25, eo25⟩ := Kd.R_slice HO_4.out
             subst eo25
             have p108 : 0 ≤ ((ji15) : Int) := of_decide_eq_true Z5
             have q108 : (ji15) < (x4_2.length : Int) := of_decide_eq_true Z5
             obtain ⟨ad108, e108, hx108_0⟩ := Kd.jF (Kd.R_reads' HO_4.out).2.2 (ji15) p108 q108
             cases e108
             replace p108 := eq_true p108
             replace q108 := eq_true q108
             have q26 : ((ji15) : Int) ≤ ((x4_2.length : Int) : Int) := of_decide_eq_true Z5
             obtain ⟨i026, hi026, _, hsz26, _⟩ := info_parts info3
             have hcut26 := EI (P := Try.prog) 46 3 .i64 Try.underlying46 hi026 (some ad108) x4_2.length co25 (ji15) (of_decide_eq_true Z5) q26 (Kd.R_reads' HO_4.out).2.1
             have hr26 := Kd.EZ (m := ((ji15) : Int).toNat) HO_4.out (by omega)
             have hy26 : y111.length = ((ji15) : Int).toNat := (by rw [Ny111.out, List.length_take]; omega)
             rw [← Ny111.out] at hr26
             rw [← hy26] at hr26 hcut26
             clear hy26 hi026 hsz26 HO_4
             have HO113 := Aside0.mk hr26
             clear hr26
             replace q26 := eq_true q26
             go_wp2
             go_roundg k2
             case measure => have := HK1.out; have := HK2.out; omega
             case rel => exact ⟨(ji10), (y111), (wrap64 (x10_1 + 1)), (by first | rfl | (simp; done) | (simp only [← hji10] <;> (first | rfl | simp)) | (simp [*]; done)), Z6, H', ⟨by have := HK1.out; have := HK2.out; omega⟩, ⟨by (with_reducible repeat (first | apply Kd.R_alloc | apply Kd.R_drewN | apply Kd.R_drew)); exact HO113.out⟩, ⟨Z30⟩⟩
            have H' := Aside0.mk H
            clear H
            obtain ⟨Ao27, co27, eo27⟩ := Kd.R_slice HO_4.out
            subst eo27
            have p108 : 0 ≤ ((ji15) : Int) := of_decide_eq_true Z5
            have q108 : (ji15) < (x4_2.length : Int) := of_decide_eq_true Z5
            obtain ⟨ad108, e108, hx108_0⟩ := Kd.jF (Kd.R_reads' HO_4.out).2.2 (ji15) p108 q108
            cases e108
            replace p108 := eq_true p108
            replace q108 := eq_true q108
            have q28 : ((ji15) : Int) ≤ ((x4_2.length : Int) : Int) := of_decide_eq_true Z5
            obtain ⟨i028, hi028, _, hsz28, _⟩ := info_parts info3
            have hcut28 := EI (P := Try.prog) 46 3 .i64 Try.underlying46 hi028 (some ad108) x4_2.length co27 (ji15) (of_decide_eq_true Z5) q28 (Kd.R_reads' HO_4.out).2.1
            have hr28 := Kd.EZ (m := ((ji15) : Int).toNat) HO_4.out (by omega)
            have hy28 : y111.length = ((ji15) : Int).toNat := (by rw [Ny111.out, List.length_take]; omega)
            rw [← Ny111.out] at hr28
            rw [← hy28] at hr28 hcut28
            clear hy28 hi028 hsz28 HO_4
            have HO113 := Aside0.mk hr28
            clear hr28
            replace q28 := eq_true q28
            go_wp2
            go_roundg k2
            case measure => have := HK1.out; have := HK2.out; omega
            case rel => exact ⟨(y111), H', ⟨by have := HK1.out; have := HK2.out; omega⟩, ⟨by (with_reducible repeat (first | apply Kd.R_alloc | apply Kd.R_drewN | apply Kd.R_drew)); exact HO113.out⟩, ⟨by exact BK103.out⟩, ⟨Z30⟩⟩
           exact absurd H (by simp)
          exact absurd H (by simp)
         exact absurd H (by simp)
      exact absurd H (by simp)
     exact absurd H (by simp)
    exact absurd H (by simp)
   obtain rfl := Option.some.inj H
   go_wp2
   go_ret
   exact ⟨Z4, Z3⟩
end Go.Proofs.Ytendgafpkeadhaa.Q
end
section
namespace Go.Proofs.Ytendgafpkeadhaa.Q
open Go.RowKit Go.Proofs.YtendgafpkeadhaaW.PrintWords Go.Proofs.YtendgafpkeadhaaW.PrintLast Go.Proofs.YtendgafpkeadhaaW.PrintMore
attribute [local go_sem] max2_int min2_int max_two min_two max_three min_three max_four min_four
set_option linter.unusedVariables false
set_option linter.unusedSimpArgs false
/-! ### dN: function 28 -/
def dN.j0 : Nat → Int → Int → Bool → Option (Int × Bool)
 | 0, _, _, _ => none
 | k + 1, x0, x4, x9 => if x9 = true then (some (1, true)) else (if x4 = 19 then (some (4, true)) else (if x4 = 20 then (some (32, true)) else (if x4 = 23 then (some (3, true)) else (if x4 = 27 then (some (8, true)) else (if x4 = 28 then (some (16, true)) else (if x0 ≥ 1 then (some (0, decide (x0 ≤ 30))) else (some (0, false))))))))
def dN.f (k : Nat) (a0 : Int) : Option (Int × Bool) := if a0 = 1 then (some (5, true)) else (if a0 = 2 then (some (7, true)) else (if a0 = 3 then (dN.j0 k a0 a0 (a0 == 3)) else (if a0 = 4 then (dN.j0 k a0 a0 (a0 == 4)) else (if a0 = 6 then (dN.j0 k a0 a0 (a0 == 6)) else (if a0 = 7 then (dN.j0 k a0 a0 (a0 == 7)) else (dN.j0 k a0 a0 (a0 == 21)))))))
theorem dN.mono_l : ∀ k, (∀ y0 y1 y2, LeO (dN.j0 k y0 y1 y2) (dN.j0 (k + 1) y0 y1 y2))
 | 0 => fun _ _ _ r h => by simp [dN.j0] at h
 | k + 1 => by
  have ih0 := dN.mono_l k
  intro y0 y1 y2
  unfold dN.j0
  exact yL
theorem dN.mono : ∀ a0 k, LeO (dN.f k a0) (dN.f (k + 1) a0) := by
 intro a0 k
 have ih0 := dN.mono_l k
 unfold dN.f
 exact yL
set_option maxHeartbeats 8000000 in
set_option maxRecDepth 100000 in
theorem dN.calls (k : Nat) (a0 : Int) (r1 : Int) (r2 : Bool) (w : World) (h : dN.f k a0 = some (r1, r2)) :
 Calls Try.prog 28 #[.int .i64 a0] w fun e w' => e = .returned (.tuple #[.int .i64 r1, .bool r2]) ∧ dw w w' := by
 have H := h
 clear h
 unfold dN.f at H
 revert H
 refine aJ (fun c2b0 c2b1 H => ?_) fun c2 c2b0 c2b1 H => ?_
 ·simp only [Option.some.injEq, Prod.mk.injEq] at H
  obtain ⟨rfl, rfl⟩ := H
  go_enter Try.func28, Try.ntmps28
  go_wp2
  go_ret2
  exact ⟨Z6, Z8⟩
 revert H
 refine aJ (fun c3b0 c3b1 H => ?_) fun c3 c3b0 c3b1 H => ?_
 ·simp only [Option.some.injEq, Prod.mk.injEq] at H
  obtain ⟨rfl, rfl⟩ := H
  go_enter Try.func28, Try.ntmps28
  go_wp2
  go_ret2
  exact ⟨Z6, Z8⟩
 have HC4 := Aside0.mk H
 clear H
 go_enter Try.func28, Try.ntmps28
 go_upto_if 9 with (fail)
 go_cut [9] (fun v9 wc => ∃ (kq : Nat) (x9_3 : Bool), v9 = .bool x9_3 ∧ Aside0 (dN.j0 kq a0 a0 x9_3 = some (r1, r2)) ∧ Aside0 (kq ≤ k) ∧ dw w wc)
 case first =>
  have H := HC4.out
  clear HC4
  revert H
  refine aJ (fun c5b0 c5b1 H => ?_) fun c5 c5b0 c5b1 H => ?_
  ·(first | rw [c5b0] | (simp only [dE, dM]; rw [c5b0]) | skip)
   have H' := Aside0.mk H
   clear H
   go_wp2
   go_meet
   case rel => exact ⟨_, ((a0 == 3)), Z6, H', ⟨Z38⟩, Z8⟩
  (first | rw [c5b0] | (simp only [dE, dM]; rw [c5b0]) | skip)
  revert H
  refine aJ (fun c6b0 c6b1 H => ?_) fun c6 c6b0 c6b1 H => ?_
  ·have H' := Aside0.mk H
   clear H
   go_wp2
   go_meet
   case rel => exact ⟨_, ((a0 == 4)), Z6, H', ⟨Z38⟩, Z8⟩
  revert H
  refine aJ (fun c7b0 c7b1 H => ?_) fun c7 c7b0 c7b1 H => ?_
  ·have H' := Aside0.mk H
   clear H
   go_wp2
   go_meet
   case rel => exact ⟨_, ((a0 == 6)), Z6, H', ⟨Z38⟩, Z8⟩
  revert H
  refine aJ (fun c8b0 c8b1 H => ?_) fun c8 c8b0 c8b1 H => ?_
  ·have H' := Aside0.mk H
   clear H
   go_wp2
   go_meet
   case rel => exact ⟨_, ((a0 == 7)), Z6, H', ⟨Z38⟩, Z8⟩
  have H' := Aside0.mk H
  clear H
  go_wp2
  go_meet
  case rel => exact ⟨_, ((a0 == 21)), Z6, H', ⟨Z38⟩, Z8⟩
 case rest =>
  clear HC4
  try clear c2
  try clear c2b0
  try clear c2b1
  try clear p2
  try clear c3
  try clear c3b0
  try clear c3b1
  try clear c5
  try clear c5b0
  try clear c5b1
  try clear c6
  try clear c6b0
  try clear c6b1
  try clear c7
  try clear c7b0
  try clear c7b1
  try clear c8
  try clear c8b0
  try clear c8b1
  obtain ⟨kq, x9_3, rfl, HA, HJ3, ⟨mc3, rfl⟩⟩ := hcut
  cases kq with
  | zero => exact absurd HA.out (by simp [dN.j0])
  | succ kj3 =>
   have H := HA.out
   clear HA
   simp only [dN.j0] at H
   cases x9_3
   rotate_left
   ·replace H := yT H
    simp only [Option.some.injEq, Prod.mk.injEq] at H
    obtain ⟨rfl, rfl⟩ := H
    go_wp2
    go_ret2
    exact ⟨Z6, Z8⟩
   replace H := yF H
   revert H
   refine aJ (fun c10b0 c10b1 H => ?_) fun c10 c10b0 c10b1 H => ?_
   ·simp only [Option.some.injEq, Prod.mk.injEq] at H
    obtain ⟨rfl, rfl⟩ := H
    go_wp2
    go_ret2
    exact ⟨Z6, Z8⟩
   revert H
   refine aJ (fun c11b0 c11b1 H => ?_) fun c11 c11b0 c11b1 H => ?_
   ·simp only [Option.some.injEq, Prod.mk.injEq] at H
    obtain ⟨rfl, rfl⟩ := H
    go_wp2
    go_ret2
    exact ⟨Z6, Z8⟩
   revert H
   refine aJ (fun c12b0 c12b1 H => ?_) fun c12 c12b0 c12b1 H => ?_
   ·simp only [Option.some.injEq, Prod.mk.injEq] at H
    obtain ⟨rfl, rfl⟩ := H
    go_wp2
    go_ret2
    exact ⟨Z6, Z8⟩
   revert H
   refine aJ (fun c13b0 c13b1 H => ?_) fun c13 c13b0 c13b1 H => ?_
   ·simp only [Option.some.injEq, Prod.mk.injEq] at H
    obtain ⟨rfl, rfl⟩ := H
    go_wp2
    go_ret2
    exact ⟨Z6, Z8⟩
   revert H
   refine aJ (fun c14b0 c14b1 H => ?_) fun c14 c14b0 c14b1 H => ?_
   ·simp only [Option.some.injEq, Prod.mk.injEq] at H
    obtain ⟨rfl, rfl⟩ := H
    go_wp2
    go_ret2
    exact ⟨Z6, Z8⟩
   revert H
   refine dX (fun c15 H => ?_) fun c15 H => ?_
   ·have c15b0 : decide (1 ≤ a0) = true := decide_eq_true c15
    clear c15
    simp only [Option.some.injEq, Prod.mk.injEq] at H
    obtain ⟨rfl, rfl⟩ := H
    go_wp2
    go_ret2
    exact ⟨Z6, Z8⟩
   have c15b0 : decide (1 ≤ a0) = false := decide_eq_false c15
   clear c15
   simp only [Option.some.injEq, Prod.mk.injEq] at H
   obtain ⟨rfl, rfl⟩ := H
   go_wp2
   go_ret2
   exact ⟨Z6, Z8⟩
end Go.Proofs.Ytendgafpkeadhaa.Q
end
section
namespace Go.Proofs.Ytendgafpkeadhaa.Q
open Go.RowKit Go.Proofs.YtendgafpkeadhaaW.PrintWords Go.Proofs.YtendgafpkeadhaaW.PrintLast Go.Proofs.YtendgafpkeadhaaW.PrintMore
attribute [local go_sem] max2_int min2_int max_two min_two max_three min_three max_four min_four
set_option linter.unusedVariables false
set_option linter.unusedSimpArgs false
/-! ### bD: function 57 -/
mutual
def bD.l0 : Nat → ByteArray → ByteArray → Int → Int → Option (Bool)
 | 0, _, _, _, _ => none
 | k + 1, x0, x1, x9, x10 => if x10 < x9 then (if 0 ≤ x10 then (if x10 < (x1.size : Int) then (if (bt x1 x10) = 32 then (some false) else (bD.l0 k x0 x1 x9 (wrap64 (x10 + 1)))) else (none)) else (none)) else (bD.l1 k x0 x1 (wrap64 ((x1.size : Int) + 2)) 0)
def bD.l1 : Nat → ByteArray → ByteArray → Int → Int → Option (Bool)
 | 0, _, _, _, _ => none
 | k + 1, x0, x1, x6, x7 => if x1.toList = ([] : List UInt8) then (bD.j2 k x0 x1 x6 x7 false) else (bD.j2 k x0 x1 x6 x7 (decide ((wrap64 (x7 + x6)) ≤ (x0.size : Int))))
def bD.j2 : Nat → ByteArray → ByteArray → Int → Int → Bool → Option (Bool)
 | 0, _, _, _, _, _ => none
 | k + 1, x0, x1, x6, x7, x30 => if x30 = true then (if 0 ≤ x7 then (if x7 ≤ (wrap64 (x7 + x6)) then (if (wrap64 (x7 + x6)) ≤ (x0.size : Int) then (if 1 + x1.size ≤ 9223372036854775807 then (if ((⟨#[32]⟩ : ByteArray) ++ x1).size + 1 ≤ 9223372036854775807 then (if (x0.extract (x7 : Int).toNat ((wrap64 (x7 + x6)) : Int).toNat).toList = (((⟨#[32]⟩ : ByteArray) ++ x1) ++ (⟨#[32]⟩ : ByteArray)).toList then (some true) else (bD.l1 k x0 x1 x6 (wrap64 (x7 + 1)))) else (none)) else (none)) else (none)) else (none)) else (none)) else (some false)
end
def bD.f (k : Nat) (a0 : ByteArray) (a1 : ByteArray) : Option (Bool) := bD.l0 k a0 a1 (a1.size : Int) 0
theorem bD.mono_l : ∀ k, (∀ y0 y1 y2 y3, LeO (bD.l0 k y0 y1 y2 y3) (bD.l0 (k + 1) y0 y1 y2 y3)) ∧ (∀ y0 y1 y2 y3, LeO (bD.l1 k y0 y1 y2 y3) (bD.l1 (k + 1) y0 y1 y2 y3)) ∧ (∀ y0 y1 y2 y3 y4, LeO (bD.j2 k y0 y1 y2 y3 y4) (bD.j2 (k + 1) y0 y1 y2 y3 y4))
 | 0 => ⟨fun _ _ _ _ r h => by simp [bD.l0] at h, fun _ _ _ _ r h => by simp [bD.l1] at h, fun _ _ _ _ _ r h => by simp [bD.j2] at h⟩
 | k + 1 => by
  obtain ⟨ih0, ih1, ih2⟩ := bD.mono_l k
  refine ⟨?_, ?_, ?_⟩
  ·intro y0 y1 y2 y3
   unfold bD.l0
   exact yL
  ·intro y0 y1 y2 y3
   unfold bD.l1
   exact yL
  intro y0 y1 y2 y3 y4
  unfold bD.j2
  exact yL
theorem bD.mono : ∀ a0 a1 k, LeO (bD.f k a0 a1) (bD.f (k + 1) a0 a1) := by
 intro a0 a1 k
 obtain ⟨ih0, ih1, ih2⟩ := bD.mono_l k
 unfold bD.f
 exact yL
set_option maxHeartbeats 8000000 in
set_option maxRecDepth 100000 in
theorem bD.calls (k : Nat) (a0 : ByteArray) (a1 : ByteArray) (r : Bool) (w : World) (h : bD.f k a0 a1 = some r) :
 Calls Try.prog 57 #[.string a0, .string a1] w fun e w' => e = .returned (.bool r) ∧ dw w w' := by
 have H := h
 clear h
 unfold bD.f at H
 have H' := Aside0.mk H
 clear H
 go_enter Try.func57, Try.ntmps57
 go_wp2
 go_loopg [10] k (fun kq v10 w' => ∃ (x10_1 : Int), v10 = .int .i64 x10_1 ∧ Aside0 (bD.l0 kq a0 a1 (a1.size : Int) x10_1 = some r) ∧ Aside0 (kq ≤ k) ∧ dw w w')
 case atStart => exact ⟨(0), Z6, H', ⟨Nat.le_refl _⟩, Z8⟩
 case round =>
  clear H'
  try clear p2
  obtain ⟨x10_1, rfl, HA, HK1, ⟨m1, rfl⟩⟩ := hrel
  cases gk with
  | zero => exact absurd HA.out (by simp [bD.l0])
  | succ k1 =>
   have H := HA.out
   clear HA
   simp only [bD.l0] at H
   revert H
   refine fO (fun c3b0 H => ?_) fun c3b0 H => ?_
   ·revert H
    refine eQ (fun c4b0 H => ?_) fun c4 H => ?_
    ·revert H
     refine eQ (fun c5b0 H => ?_) fun c5 H => ?_
     ·revert H
      refine aJ (fun c7b0 c7b1 H => ?_) fun c7 c7b0 c7b1 H => ?_
      ·obtain rfl := Option.some.inj H
       have p6 : 0 ≤ (x10_1 : Int) := of_decide_eq_true Z5
       have q6 : x10_1 < (a1.size : Int) := of_decide_eq_true Z5
       have hx6 := dL a1 x10_1
       replace p6 := eq_true p6
       replace q6 := eq_true q6
       go_wp2
       go_ret
       exact ⟨Z6, Z8⟩
      have H' := Aside0.mk H
      clear H
      have p6 : 0 ≤ (x10_1 : Int) := of_decide_eq_true Z5
      have q6 : x10_1 < (a1.size : Int) := of_decide_eq_true Z5
      have hx6 := dL a1 x10_1
      replace p6 := eq_true p6
      replace q6 := eq_true q6
      go_wp2
      go_roundg k1
      case measure => have := HK1.out; omega
      case rel => exact ⟨(wrap64 (x10_1 + 1)), Z6, H', ⟨by have := HK1.out; omega⟩, Z8⟩
     exact absurd H (by simp)
    exact absurd H (by simp)
   have H' := Aside0.mk H
   clear H
   go_wp2
   go_loopg [7] k1 (fun kq v7 w' => ∃ (x7_2 : Int), v7 = .int .i64 x7_2 ∧ Aside0 (bD.l1 kq a0 a1 (wrap64 ((a1.size : Int) + 2)) x7_2 = some r) ∧ Aside0 (kq ≤ k1) ∧ dw w w')
   case atStart => exact ⟨(0), Z6, H', ⟨Nat.le_refl _⟩, Z8⟩
   case round =>
    clear H'
    try clear p2
    try clear c3
    try clear c3b0
    try clear c4
    try clear c4b0
    try clear c5
    try clear c5b0
    try clear p6
    try clear q6
    try clear hx6
    try clear c7
    try clear c7b0
    try clear c7b1
    try clear p2
    try clear p6
    try clear q6
    obtain ⟨x7_2, rfl, HA, HK2, ⟨m2, rfl⟩⟩ := hrel
    cases gk with
    | zero => exact absurd HA.out (by simp [bD.l1])
    | succ k2 =>
     have H := HA.out
     clear HA
     simp only [bD.l1] at H
     have HC8 := Aside0.mk H
     clear H
     go_upto_region 9 with (fail)
     go_cut [30] (fun v30 wc => ∃ (kq : Nat) (x30_7 : Bool), v30 = .bool x30_7 ∧ Aside0 (bD.j2 kq a0 a1 (wrap64 ((a1.size : Int) + 2)) x7_2 x30_7 = some r) ∧ Aside0 (kq ≤ k2) ∧ dw w wc)
     case first =>
      have H := HC8.out
      clear HC8
      revert H
      refine aJ (fun c9b0 c9b1 H => ?_) fun c9 c9b0 c9b1 H => ?_
      ·(first | rw [c9b0] | (simp only [dE, dM]; rw [c9b0]) | skip)
       have H' := Aside0.mk H
       clear H
       go_wp2
       go_meet
       case rel => exact ⟨_, (false), Z6, H', ⟨by have := HK1.out; have := HK2.out; first | omega | exact Nat.le_refl _⟩, Z8⟩
      (first | rw [c9b0] | (simp only [dE, dM]; rw [c9b0]) | skip)
      have H' := Aside0.mk H
      clear H
      go_wp2
      go_meet
      case rel => exact ⟨_, (decide ((wrap64 (x7_2 + (wrap64 ((a1.size : Int) + 2)))) ≤ (a0.size : Int))), Z6, H', ⟨by have := HK1.out; have := HK2.out; first | omega | exact Nat.le_refl _⟩, Z8⟩
     case rest =>
      clear HC8
      try clear p2
      try clear c3
      try clear c3b0
      try clear c4
      try clear c4b0
      try clear c5
      try clear c5b0
      try clear p6
      try clear q6
      try clear hx6
      try clear c7
      try clear c7b0
      try clear c7b1
      try clear c9
      try clear c9b0
      try clear c9b1
      try clear p2
      try clear p6
      try clear q6
      obtain ⟨kq, x30_7, rfl, HA, HJ7, ⟨mc7, rfl⟩⟩ := hcut
      cases kq with
      | zero => exact absurd HA.out (by simp [bD.j2])
      | succ kj7 =>
       have H := HA.out
       clear HA
       simp only [bD.j2] at H
       cases x30_7
       rotate_left
       ·replace H := yT H
        revert H
        refine fU (fun c11b0 c11b1 H => ?_) fun c11 H => ?_
        ·revert H
         refine fB (fun c12 c12b0 c12b1 H => ?_) fun c12 H => ?_
         ·revert H
          refine fB (fun c13 c13b0 c13b1 H => ?_) fun c13 H => ?_
          ·revert H
           refine fB (fun c14 c14b0 c14b1 H => ?_) fun c14 H => ?_
           ·try have c14b2 : (9223372036854775807 < 1 + a1.size) = False := eq_false (Nat.not_lt.2 c14)
            revert H
            refine fB (fun c15 c15b0 c15b1 H => ?_) fun c15 H => ?_
            ·have c15s := c15
             simp only [ByteArray.size_append, show ((⟨#[32]⟩ : ByteArray)).size = 1 from rfl] at c15s
             have c15t := eq_true c15s
             have c15u := eq_false (Nat.not_lt.2 c15s)
             clear c15s
             try have c15b2 : (9223372036854775807 < ((⟨#[32]⟩ : ByteArray) ++ a1).size + 1) = False := eq_false (Nat.not_lt.2 c15)
             revert H
             refine aJ (fun c16b0 c16b1 H => ?_) fun c16 c16b0 c16b1 H => ?_
             ·obtain rfl := Option.some.inj H
              go_wp2
              go_ret
              exact ⟨Z6, Z8⟩
             have H' := Aside0.mk H
             clear H
             go_wp2
             go_roundg kj7
             case measure => have := HK1.out; have := HK2.out; have := HJ7.out; omega
             case rel => exact ⟨(wrap64 (x7_2 + 1)), Z6, H', ⟨by have := HK1.out; have := HK2.out; have := HJ7.out; omega⟩, Z8⟩
            exact absurd H (by simp)
           exact absurd H (by simp)
          exact absurd H (by simp)
         exact absurd H (by simp)
        exact absurd H (by simp)
       replace H := yF H
       obtain rfl := Option.some.inj H
       go_wp2
       go_ret
       exact ⟨Z6, Z8⟩
end Go.Proofs.Ytendgafpkeadhaa.Q
end
section
namespace Go.Proofs.Ytendgafpkeadhaa.Q
open Go.RowKit Go.Proofs.YtendgafpkeadhaaW.PrintWords Go.Proofs.YtendgafpkeadhaaW.PrintLast Go.Proofs.YtendgafpkeadhaaW.PrintMore
attribute [local go_sem] max2_int min2_int max_two min_two max_three min_three max_four min_four
set_option linter.unusedVariables false
set_option linter.unusedSimpArgs false
/-! ### fM: function 30 -/
def fM.f (k : Nat) (a0 : Int) (a1 : ByteArray) : Option (Bool) := if (Go.bits .and .i64 a0 2) = 0 then (if (Go.bits .and .i64 a0 8) = 0 then (if (Go.bits .and .i64 a0 16) = 0 then (if (Go.bits .and .i64 a0 32) = 0 then (some (a1.toList == ([] : List UInt8))) else (some (decide ((a1.size : Int) ≤ 1024)))) else ((bD.f k (⟨#[32, 45, 32, 110, 111, 116, 32, 108, 101, 110, 32]⟩ : ByteArray) a1).bind fun t128 => (some t128))) else ((bD.f k (⟨#[32, 43, 32, 45, 32, 42, 32, 47, 32, 37, 32, 46, 46, 32, 61, 61, 32, 33, 61, 32, 60, 32, 60, 61, 32, 97, 110, 100, 32, 111, 114, 32]⟩ : ByteArray) a1).bind fun t129 => (some t129))) else ((ed.f k a1).bind fun t130 => (some t130))
theorem fM.mono : ∀ a0 a1 k, LeO (fM.f k a0 a1) (fM.f (k + 1) a0 a1) := by
 intro a0 a1 k
 unfold fM.f
 have m0 := ed.mono
 have m1 := bD.mono
 exact yL
set_option maxHeartbeats 8000000 in
set_option maxRecDepth 100000 in
theorem fM.calls (k : Nat) (a0 : Int) (a1 : ByteArray) (r : Bool) (w : World) (h : fM.f k a0 a1 = some r) :
 Calls Try.prog 30 #[.int .i64 a0, .string a1] w fun e w' => e = .returned (.bool r) ∧ Below w.heap.size w w' := by
 have HB := Aside0.mk (Below.refl w.heap.size w)
 have H := h
 clear h
 unfold fM.f at H
 revert H
 refine aJ (fun c3b0 c3b1 H => ?_) fun c3 c3b0 c3b1 H => ?_
 ·revert H
  refine aJ (fun c4b0 c4b1 H => ?_) fun c4 c4b0 c4b1 H => ?_
  ·revert H
   refine aJ (fun c5b0 c5b1 H => ?_) fun c5 c5b0 c5b1 H => ?_
   ·revert H
    refine aJ (fun c6b0 c6b1 H => ?_) fun c6 c6b0 c6b1 H => ?_
    ·obtain rfl := Option.some.inj H
     go_enter Try.func30, Try.ntmps30
     go_wp2
     go_ret
     exact ⟨Z4, Z3⟩
    obtain rfl := Option.some.inj H
    go_enter Try.func30, Try.ntmps30
    go_wp2
    go_ret
    exact ⟨Z4, Z3⟩
   revert H
   refine yB1 fun t128 A7 H => ?_
   obtain rfl := Option.some.inj H
   go_enter Try.func30, Try.ntmps30
   go_wp2_with (first | ((with_reducible refine gC 57 rfl ?_); refine gM 57 22 rfl Try.func57 (bD.calls k (⟨#[32, 45, 32, 110, 111, 116, 32, 108, 101, 110, 32]⟩ : ByteArray) a1 t128 _ A7.out) ?_; rintro _ w' ⟨rfl, ⟨nd, rfl⟩⟩; refine ⟨_, rfl, ?_⟩))
   go_ret
   exact ⟨Z4, Z3⟩
  revert H
  refine yB1 fun t129 A8 H => ?_
  obtain rfl := Option.some.inj H
  go_enter Try.func30, Try.ntmps30
  go_wp2_with (first | ((with_reducible refine gC 57 rfl ?_); refine gM 57 16 rfl Try.func57 (bD.calls k (⟨#[32, 43, 32, 45, 32, 42, 32, 47, 32, 37, 32, 46, 46, 32, 61, 61, 32, 33, 61, 32, 60, 32, 60, 61, 32, 97, 110, 100, 32, 111, 114, 32]⟩ : ByteArray) a1 t129 _ A8.out) ?_; rintro _ w' ⟨rfl, ⟨nd, rfl⟩⟩; refine ⟨_, rfl, ?_⟩))
  go_ret
  exact ⟨Z4, Z3⟩
 revert H
 refine yB1 fun t130 A9 H => ?_
 obtain rfl := Option.some.inj H
 go_enter Try.func30, Try.ntmps30
 go_wp2_with (first | ((with_reducible refine gC 31 rfl ?_); refine gM 31 10 rfl Try.func31 (ed.calls k a1 t130 _ A9.out) ?_; rintro _ w10 ⟨rfl, hb⟩; refine ⟨_, rfl, yA1 (below_step Z3 hb) ?_⟩; clear HB hb; intro HB))
 go_ret
 exact ⟨Z4, Z3⟩
end Go.Proofs.Ytendgafpkeadhaa.Q
end
section
namespace Go.Proofs.Ytendgafpkeadhaa.Q
open Go.RowKit Go.Proofs.YtendgafpkeadhaaW.PrintWords Go.Proofs.YtendgafpkeadhaaW.PrintLast Go.Proofs.YtendgafpkeadhaaW.PrintMore
attribute [local go_sem] max2_int min2_int max_two min_two max_three min_three max_four min_four
set_option linter.unusedVariables false
set_option linter.unusedSimpArgs false
/-! ### bH: function 20 -/
mutual
def bH.j0 : Nat → Int → Int → Int → Bool → Int → Int → ByteArray → Int → ByteArray → Option (Bool)
 | 0, _, _, _, _, _, _, _, _, _ => none
 | k + 1, x3, x5, x6, x19, x132000, x132001, x132002, x132003, x132004 => if x19 = true then (some false) else ((ed.f k x132002).bind fun t137 => (if (((Go.bits .and .i64 x3 1) != 0) != t137) = true then (bH.j1 k x3 x5 x6 true x132000 x132001 x132002 x132003 x132004) else (if (Go.bits .and .i64 x3 1) = 0 then (bH.j1 k x3 x5 x6 (x132002.toList != ([] : List UInt8)) x132000 x132001 x132002 x132003 x132004) else (bH.j1 k x3 x5 x6 false x132000 x132001 x132002 x132003 x132004))))
def bH.j1 : Nat → Int → Int → Int → Bool → Int → Int → ByteArray → Int → ByteArray → Option (Bool)
 | 0, _, _, _, _, _, _, _, _, _ => none
 | k + 1, x3, x5, x6, x29, x132000, x132001, x132002, x132003, x132004 => if x29 = true then (some false) else (if (Go.bits .and .i64 x3 4) = 0 then (some (x132003 == 0)) else (if x132003 ≥ x5 then (some (decide (x132003 ≤ x6))) else (some false)))
end
def bH.f (k : Nat) (a0_0 : Int) (a0_1 : Int) (a0_2 : ByteArray) (a0_3 : Int) (a0_4 : ByteArray) : Option (Bool) := (dN.f k a0_0).bind fun bt132 => ((ik.f a0_0).bind fun bt134 => (if bt132.2 = true then ((fM.f k bt132.1 a0_4).bind fun t136 => (bH.j0 k bt132.1 bt134.1 bt134.2 (!t136) a0_0 a0_1 a0_2 a0_3 a0_4)) else (bH.j0 k bt132.1 bt134.1 bt134.2 true a0_0 a0_1 a0_2 a0_3 a0_4)))
theorem bH.mono_l : ∀ k, (∀ y0 y1 y2 y3 y4 y5 y6 y7 y8, LeO (bH.j0 k y0 y1 y2 y3 y4 y5 y6 y7 y8) (bH.j0 (k + 1) y0 y1 y2 y3 y4 y5 y6 y7 y8)) ∧ (∀ y0 y1 y2 y3 y4 y5 y6 y7 y8, LeO (bH.j1 k y0 y1 y2 y3 y4 y5 y6 y7 y8) (bH.j1 (k + 1) y0 y1 y2 y3 y4 y5 y6 y7 y8))
 | 0 => ⟨fun _ _ _ _ _ _ _ _ _ r h => by simp [bH.j0] at h, fun _ _ _ _ _ _ _ _ _ r h => by simp [bH.j1] at h⟩
 | k + 1 => by
  obtain ⟨ih0, ih1⟩ := bH.mono_l k
  refine ⟨?_, ?_⟩
  ·intro y0 y1 y2 y3 y4 y5 y6 y7 y8
   unfold bH.j0
   have m0 := ed.mono
   have m1 := dN.mono
   have m2 := fM.mono
   exact yL
  intro y0 y1 y2 y3 y4 y5 y6 y7 y8
  unfold bH.j1
  have m0 := ed.mono
  have m1 := dN.mono
  have m2 := fM.mono
  exact yL
theorem bH.mono : ∀ a0 a1 a2 a3 a4 k, LeO (bH.f k a0 a1 a2 a3 a4) (bH.f (k + 1) a0 a1 a2 a3 a4) := by
 intro a0 a1 a2 a3 a4 k
 obtain ⟨ih0, ih1⟩ := bH.mono_l k
 unfold bH.f
 have m0 := ed.mono
 have m1 := dN.mono
 have m2 := fM.mono
 exact yL
set_option maxHeartbeats 8000000 in
set_option maxRecDepth 100000 in
theorem bH.calls (k : Nat) (a0_0 : Int) (a0_1 : Int) (a0_2 : ByteArray) (a0_3 : Int) (a0_4 : ByteArray) (r : Bool) (w : World) (h : bH.f k a0_0 a0_1 a0_2 a0_3 a0_4 = some r) :
 Calls Try.prog 20 #[.agg #[.int .i64 a0_0, .int .i64 a0_1, .string a0_2, .int .i64 a0_3, .string a0_4]] w fun e w' => e = .returned (.bool r) ∧ Below w.heap.size w w' := by
 have hu41 := Try.underlying41
 have HB := Aside0.mk (Below.refl w.heap.size w)
 have H := h
 clear h
 unfold bH.f at H
 revert H
 refine yB2 fun t132 t133 A2 H => ?_
 try dsimp only at H
 revert H
 refine yB2 fun t134 t135 A3 H => ?_
 try dsimp only at H
 have HC4 := Aside0.mk H
 clear H
 go_enter Try.func20, Try.ntmps20
 go_upto_region 3 with (first | ((with_reducible refine bJ (N := 1) rfl ?_); refine bU ?hg (N := 1) ?hd (cs := #[.int .i64 a0_0, .int .i64 a0_1, .string a0_2, .int .i64 a0_3, .string a0_4]) (t := 41) ?hr ?_; (case hd => rfl); (case hg => rfl); (case hr => first | (go_simp; done) | (go_simp; rfl)); intro gb131 hg w5 hbox hb; refine yA4 (below_step Z3 hb) (hbox) ((by rw [hg]; exact (below_size Z3) : w.heap.size ≤ gb131)) ((by rw [hg]; exact (below_size Z3) : w.heap.size ≤ gb131)) ?_; clear HB; intro HB BK131 GW131 GE131; clear hb hbox hg; have hcz6_0 : w5.cell? ⟨gb131, 0, none⟩ = some (.int .i64 a0_0) := (af BK131.out 0).trans rfl; have hcz6_1 : w5.cell? ⟨gb131, 1, none⟩ = some (.int .i64 a0_1) := (af BK131.out 1).trans rfl; have hcz6_2 : w5.cell? ⟨gb131, 2, none⟩ = some (.string a0_2) := (af BK131.out 2).trans rfl; have hcz6_3 : w5.cell? ⟨gb131, 3, none⟩ = some (.int .i64 a0_3) := (af BK131.out 3).trans rfl; have hcz6_4 : w5.cell? ⟨gb131, 4, none⟩ = some (.string a0_4) := (af BK131.out 4).trans rfl; have hfz6_0 := ae BK131.out 0; have hfz6_1 := ae BK131.out 1; have hfz6_2 := ae BK131.out 2; have hfz6_3 := ae BK131.out 3; have hfz6_4 := ae BK131.out 4) | ((with_reducible refine gC 28 rfl ?_); refine gM 28 10 rfl Try.func28 (dN.calls k a0_0 t132 t133 _ A2.out) ?_; rintro _ w' ⟨rfl, ⟨nd, rfl⟩⟩; refine ⟨_, rfl, ?_⟩) | ((with_reducible refine gC 29 rfl ?_); refine gM 29 16 rfl Try.func29 (ik.calls a0_0 t134 t135 _ A3.out) ?_; rintro _ w' ⟨rfl, ⟨nd, rfl⟩⟩; refine ⟨_, rfl, ?_⟩))
 (try simp only [Act.put, List.setIfInBounds_toArray, List.set_cons_zero, List.set_cons_succ])
 go_cut [19] (fun v19 wc => ∃ (kq : Nat) (x19_3 : Bool), v19 = .bool x19_3 ∧ Aside0 (bH.j0 kq t132 t134 t135 x19_3 a0_0 a0_1 a0_2 a0_3 a0_4 = some r) ∧ Aside0 (kq ≤ k) ∧ Aside0 (wc.heap[gb131]? = some (.cells #[.int .i64 a0_0, .int .i64 a0_1, .string a0_2, .int .i64 a0_3, .string a0_4] 41 (0, 0))) ∧ Aside0 (Below w.heap.size w wc))
 case first =>
  have H := HC4.out
  clear HC4
  cases t133
  rotate_left
  ·replace H := yT H
   revert H
   refine yB1 fun t136 A8 H => ?_
   have H' := Aside0.mk H
   clear H
   have hcz9_0 : w5.cell? ⟨gb131, 0, none⟩ = some (.int .i64 a0_0) := (af BK131.out 0).trans rfl
   have hcz9_1 : w5.cell? ⟨gb131, 1, none⟩ = some (.int .i64 a0_1) := (af BK131.out 1).trans rfl
   have hcz9_2 : w5.cell? ⟨gb131, 2, none⟩ = some (.string a0_2) := (af BK131.out 2).trans rfl
   have hcz9_3 : w5.cell? ⟨gb131, 3, none⟩ = some (.int .i64 a0_3) := (af BK131.out 3).trans rfl
   have hcz9_4 : w5.cell? ⟨gb131, 4, none⟩ = some (.string a0_4) := (af BK131.out 4).trans rfl
   have hfz9_0 := ae BK131.out 0
   have hfz9_1 := ae BK131.out 1
   have hfz9_2 := ae BK131.out 2
   have hfz9_3 := ae BK131.out 3
   have hfz9_4 := ae BK131.out 4
   go_wp2_with (first | (go_at_call 30; (with_reducible refine (fM.calls k t132 a0_4 t136 _ A8.out).mono ?_); rintro e w10 ⟨rfl, hb⟩; refine yA2 (bV (g := gb131) (o := .cells #[.int .i64 a0_0, .int .i64 a0_1, .string a0_2, .int .i64 a0_3, .string a0_4] 41 (0, 0)) (by exact BK131.out) hb) (below_step Z20 hb) ?_; clear BK131 HB; intro BK131 HB; (try clear hb)))
   go_meet
   case rel => exact ⟨_, (!t136), Z6, H', ⟨Z38⟩, ⟨by exact BK131.out⟩, ⟨Z20⟩⟩
  replace H := yF H
  have H' := Aside0.mk H
  clear H
  go_wp2
  go_meet
  case rel => exact ⟨_, (true), Z6, H', ⟨Z38⟩, ⟨by exact BK131.out⟩, ⟨Z20⟩⟩
 case rest =>
  clear HC4
  try clear c2
  try clear p2
  try clear c7
  try clear hcz6_0
  try clear hcz6_1
  try clear hcz6_2
  try clear hcz6_3
  try clear hcz6_4
  try clear hcz9_0
  try clear hcz9_1
  try clear hcz9_2
  try clear hcz9_3
  try clear hcz9_4
  try clear hfz6_0
  try clear hfz6_1
  try clear hfz6_2
  try clear hfz6_3
  try clear hfz6_4
  try clear hfz9_0
  try clear hfz9_1
  try clear hfz9_2
  try clear hfz9_3
  try clear hfz9_4
  obtain ⟨kq, x19_3, rfl, HA, HJ3, BK131, HB⟩ := hcut
  cases kq with
  | zero => exact absurd HA.out (by simp [bH.j0])
  | succ kj3 =>
   have H := HA.out
   clear HA
   simp only [bH.j0] at H
   cases x19_3
   rotate_left
   ·replace H := yT H
    obtain rfl := Option.some.inj H
    go_wp2
    go_ret
    exact ⟨Z4, Z20⟩
   replace H := yF H
   have HC12 := Aside0.mk H
   clear H
   go_upto_region 5 with (fail)
   go_cut [29] (fun v29 wc => ∃ (kq : Nat) (x29_11 : Bool), v29 = .bool x29_11 ∧ Aside0 (bH.j1 kq t132 t134 t135 x29_11 a0_0 a0_1 a0_2 a0_3 a0_4 = some r) ∧ Aside0 (kq ≤ kj3) ∧ Aside0 (wc.heap[gb131]? = some (.cells #[.int .i64 a0_0, .int .i64 a0_1, .string a0_2, .int .i64 a0_3, .string a0_4] 41 (0, 0))) ∧ Aside0 (Below w.heap.size w wc))
   case first =>
    have H := HC12.out
    clear HC12
    revert H
    refine yB1 fun t137 A13 H => ?_
    revert H
    refine dX (fun c14 H => ?_) fun c14 H => ?_
    ·have c14b0 : (((Go.bits .and .i64 t132 1) != 0) != t137) = true := c14
     (try (have c14b1 : decide (((Go.bits .and .i64 t132 1) != 0) = t137) = false := by simpa using c14))
     (try (have c14b2 : (((Go.bits .and .i64 t132 1) != 0) == t137) = false := by simpa using c14))
     (try (have c14b3 : ¬ (((Go.bits .and .i64 t132 1) != 0) = t137) := by simpa using c14))
     clear c14
     (first | rw [c14b0] | (simp only [dE, dM]; rw [c14b0]) | skip)
     have H' := Aside0.mk H
     clear H
     have hcz15_0 : wc.cell? ⟨gb131, 0, none⟩ = some (.int .i64 a0_0) := (af BK131.out 0).trans rfl
     have hcz15_1 : wc.cell? ⟨gb131, 1, none⟩ = some (.int .i64 a0_1) := (af BK131.out 1).trans rfl
     have hcz15_2 : wc.cell? ⟨gb131, 2, none⟩ = some (.string a0_2) := (af BK131.out 2).trans rfl
     have hcz15_3 : wc.cell? ⟨gb131, 3, none⟩ = some (.int .i64 a0_3) := (af BK131.out 3).trans rfl
     have hcz15_4 : wc.cell? ⟨gb131, 4, none⟩ = some (.string a0_4) := (af BK131.out 4).trans rfl
     have hfz15_0 := ae BK131.out 0
     have hfz15_1 := ae BK131.out 1
     have hfz15_2 := ae BK131.out 2
     have hfz15_3 := ae BK131.out 3
     have hfz15_4 := ae BK131.out 4
     go_wp2_with (first | ((with_reducible refine gC 31 rfl ?_); refine gM 31 35 rfl Try.func31 (ed.calls kj3 a0_2 t137 _ A13.out) ?_; rintro _ w16 ⟨rfl, hb⟩; refine ⟨_, rfl, yA2 (bV (g := gb131) (o := .cells #[.int .i64 a0_0, .int .i64 a0_1, .string a0_2, .int .i64 a0_3, .string a0_4] 41 (0, 0)) (by exact BK131.out) hb) (below_step Z20 hb) ?_⟩; clear BK131 HB hb; intro BK131 HB))
     go_meet
     case rel => exact ⟨_, (true), Z6, H', ⟨by have := HJ3.out; first | omega | exact Nat.le_refl _⟩, ⟨by exact BK131.out⟩, ⟨Z20⟩⟩
    have c14b0 : (((Go.bits .and .i64 t132 1) != 0) != t137) = false := by simpa using c14
    (try (have c14b1 : decide (((Go.bits .and .i64 t132 1) != 0) = t137) = true := by simpa using c14))
    (try (have c14b2 : (((Go.bits .and .i64 t132 1) != 0) == t137) = true := by simpa using c14))
    clear c14
    (first | rw [c14b0] | (simp only [dE, dM]; rw [c14b0]) | skip)
    revert H
    refine vG (fun c17 c17b0 c17b1 H => ?_) fun c17 c17b0 c17b1 H => ?_
    ·have ct_ : t137 = false := by have q_ := c14b0; rw [c17b1] at q_; simpa using q_
     clear c17
     have H' := Aside0.mk H
     clear H
     have hcz18_0 : wc.cell? ⟨gb131, 0, none⟩ = some (.int .i64 a0_0) := (af BK131.out 0).trans rfl
     have hcz18_1 : wc.cell? ⟨gb131, 1, none⟩ = some (.int .i64 a0_1) := (af BK131.out 1).trans rfl
     have hcz18_2 : wc.cell? ⟨gb131, 2, none⟩ = some (.string a0_2) := (af BK131.out 2).trans rfl
     have hcz18_3 : wc.cell? ⟨gb131, 3, none⟩ = some (.int .i64 a0_3) := (af BK131.out 3).trans rfl
     have hcz18_4 : wc.cell? ⟨gb131, 4, none⟩ = some (.string a0_4) := (af BK131.out 4).trans rfl
     have hfz18_0 := ae BK131.out 0
     have hfz18_1 := ae BK131.out 1
     have hfz18_2 := ae BK131.out 2
     have hfz18_3 := ae BK131.out 3
     have hfz18_4 := ae BK131.out 4
     have hem : (a0_2.toList != ([] : List UInt8)) = (!a0_2.toList.isEmpty) := by cases a0_2.toList <;> rfl
     cases hempt : a0_2.toList.isEmpty
     ·simp only [hem, hempt, Bool.not_false, Bool.not_true] at H'
      have hemq : (a0_2.toList == ([] : List UInt8)) = false := by rw [← hempt]; cases a0_2.toList <;> rfl
      clear hem
      go_wp2_with (first | ((with_reducible refine gC 31 rfl ?_); refine gM 31 35 rfl Try.func31 (ed.calls kj3 a0_2 t137 _ A13.out) ?_; rintro _ w19 ⟨rfl, hb⟩; refine ⟨_, rfl, yA2 (bV (g := gb131) (o := .cells #[.int .i64 a0_0, .int .i64 a0_1, .string a0_2, .int .i64 a0_3, .string a0_4] 41 (0, 0)) (by exact BK131.out) hb) (below_step Z20 hb) ?_⟩; clear BK131 HB hb; intro BK131 HB; have hcz20_0 : w19.cell? ⟨gb131, 0, none⟩ = some (.int .i64 a0_0) := (af BK131.out 0).trans rfl; have hcz20_1 : w19.cell? ⟨gb131, 1, none⟩ = some (.int .i64 a0_1) := (af BK131.out 1).trans rfl; have hcz20_2 : w19.cell? ⟨gb131, 2, none⟩ = some (.string a0_2) := (af BK131.out 2).trans rfl; have hcz20_3 : w19.cell? ⟨gb131, 3, none⟩ = some (.int .i64 a0_3) := (af BK131.out 3).trans rfl; have hcz20_4 : w19.cell? ⟨gb131, 4, none⟩ = some (.string a0_4) := (af BK131.out 4).trans rfl; have hfz20_0 := ae BK131.out 0; have hfz20_1 := ae BK131.out 1; have hfz20_2 := ae BK131.out 2; have hfz20_3 := ae BK131.out 3; have hfz20_4 := ae BK131.out 4))
      go_meet
      case rel => exact ⟨_, (true), Z6, H', ⟨by have := HJ3.out; first | omega | exact Nat.le_refl _⟩, ⟨by exact BK131.out⟩, ⟨Z20⟩⟩
     simp only [hem, hempt, Bool.not_false, Bool.not_true] at H'
     have hemq : (a0_2.toList == ([] : List UInt8)) = true := by rw [← hempt]; cases a0_2.toList <;> rfl
     clear hem
     go_wp2_with (first | ((with_reducible refine gC 31 rfl ?_); refine gM 31 35 rfl Try.func31 (ed.calls kj3 a0_2 t137 _ A13.out) ?_; rintro _ w19 ⟨rfl, hb⟩; refine ⟨_, rfl, yA2 (bV (g := gb131) (o := .cells #[.int .i64 a0_0, .int .i64 a0_1, .string a0_2, .int .i64 a0_3, .string a0_4] 41 (0, 0)) (by exact BK131.out) hb) (below_step Z20 hb) ?_⟩; clear BK131 HB hb; intro BK131 HB; have hcz20_0 : w19.cell? ⟨gb131, 0, none⟩ = some (.int .i64 a0_0) := (af BK131.out 0).trans rfl; have hcz20_1 : w19.cell? ⟨gb131, 1, none⟩ = some (.int .i64 a0_1) := (af BK131.out 1).trans rfl; have hcz20_2 : w19.cell? ⟨gb131, 2, none⟩ = some (.string a0_2) := (af BK131.out 2).trans rfl; have hcz20_3 : w19.cell? ⟨gb131, 3, none⟩ = some (.int .i64 a0_3) := (af BK131.out 3).trans rfl; have hcz20_4 : w19.cell? ⟨gb131, 4, none⟩ = some (.string a0_4) := (af BK131.out 4).trans rfl; have hfz20_0 := ae BK131.out 0; have hfz20_1 := ae BK131.out 1; have hfz20_2 := ae BK131.out 2; have hfz20_3 := ae BK131.out 3; have hfz20_4 := ae BK131.out 4))
     go_meet
     case rel => exact ⟨_, (false), Z6, H', ⟨by have := HJ3.out; first | omega | exact Nat.le_refl _⟩, ⟨by exact BK131.out⟩, ⟨Z20⟩⟩
    have ct_ : t137 = true := by have q_ := c14b0; rw [c17b1] at q_; simpa using q_
    have H' := Aside0.mk H
    clear H
    have hcz21_0 : wc.cell? ⟨gb131, 0, none⟩ = some (.int .i64 a0_0) := (af BK131.out 0).trans rfl
    have hcz21_1 : wc.cell? ⟨gb131, 1, none⟩ = some (.int .i64 a0_1) := (af BK131.out 1).trans rfl
    have hcz21_2 : wc.cell? ⟨gb131, 2, none⟩ = some (.string a0_2) := (af BK131.out 2).trans rfl
    have hcz21_3 : wc.cell? ⟨gb131, 3, none⟩ = some (.int .i64 a0_3) := (af BK131.out 3).trans rfl
    have hcz21_4 : wc.cell? ⟨gb131, 4, none⟩ = some (.string a0_4) := (af BK131.out 4).trans rfl
    have hfz21_0 := ae BK131.out 0
    have hfz21_1 := ae BK131.out 1
    have hfz21_2 := ae BK131.out 2
    have hfz21_3 := ae BK131.out 3
    have hfz21_4 := ae BK131.out 4
    go_wp2_with (first | ((with_reducible refine gC 31 rfl ?_); refine gM 31 35 rfl Try.func31 (ed.calls kj3 a0_2 t137 _ A13.out) ?_; rintro _ w22 ⟨rfl, hb⟩; refine ⟨_, rfl, yA2 (bV (g := gb131) (o := .cells #[.int .i64 a0_0, .int .i64 a0_1, .string a0_2, .int .i64 a0_3, .string a0_4] 41 (0, 0)) (by exact BK131.out) hb) (below_step Z20 hb) ?_⟩; clear BK131 HB hb; intro BK131 HB))
    go_meet
    case rel => exact ⟨_, (false), Z6, H', ⟨by have := HJ3.out; first | omega | exact Nat.le_refl _⟩, ⟨by exact BK131.out⟩, ⟨Z20⟩⟩
   case rest =>
    clear HC12
    try clear c1
    try clear c2
    try clear p2
    try clear c3
    try clear c7
    try clear c11
    try clear c14
    try clear c14b0
    try clear c14b1
    try clear c14b2
    try clear c17
    try clear c17b0
    try clear c17b1
    try clear c20
    try clear hcz15_0
    try clear hcz15_1
    try clear hcz15_2
    try clear hcz15_3
    try clear hcz15_4
    try clear hcz18_0
    try clear hcz18_1
    try clear hcz18_2
    try clear hcz18_3
    try clear hcz18_4
    try clear hcz20_0
    try clear hcz20_1
    try clear hcz20_2
    try clear hcz20_3
    try clear hcz20_4
    try clear hcz21_0
    try clear hcz21_1
    try clear hcz21_2
    try clear hcz21_3
    try clear hcz21_4
    try clear hcz6_0
    try clear hcz6_1
    try clear hcz6_2
    try clear hcz6_3
    try clear hcz6_4
    try clear hcz9_0
    try clear hcz9_1
    try clear hcz9_2
    try clear hcz9_3
    try clear hcz9_4
    try clear hfz15_0
    try clear hfz15_1
    try clear hfz15_2
    try clear hfz15_3
    try clear hfz15_4
    try clear hfz18_0
    try clear hfz18_1
    try clear hfz18_2
    try clear hfz18_3
    try clear hfz18_4
    try clear hfz20_0
    try clear hfz20_1
    try clear hfz20_2
    try clear hfz20_3
    try clear hfz20_4
    try clear hfz21_0
    try clear hfz21_1
    try clear hfz21_2
    try clear hfz21_3
    try clear hfz21_4
    try clear hfz6_0
    try clear hfz6_1
    try clear hfz6_2
    try clear hfz6_3
    try clear hfz6_4
    try clear hfz9_0
    try clear hfz9_1
    try clear hfz9_2
    try clear hfz9_3
    try clear hfz9_4
    try clear p2
    obtain ⟨kq, x29_11, rfl, HA, HJ11, BK131, HB⟩ := hcut
    cases kq with
    | zero => exact absurd HA.out (by simp [bH.j1])
    | succ kj11 =>
     have H := HA.out
     clear HA
     simp only [bH.j1] at H
     cases x29_11
     rotate_left
     ·replace H := yT H
      obtain rfl := Option.some.inj H
      go_wp2
      go_ret
      exact ⟨Z4, Z20⟩
     replace H := yF H
     revert H
     refine aJ (fun c24b0 c24b1 H => ?_) fun c24 c24b0 c24b1 H => ?_
     ·obtain rfl := Option.some.inj H
      have hcz25_0 : wc.cell? ⟨gb131, 0, none⟩ = some (.int .i64 a0_0) := (af BK131.out 0).trans rfl
      have hcz25_1 : wc.cell? ⟨gb131, 1, none⟩ = some (.int .i64 a0_1) := (af BK131.out 1).trans rfl
      have hcz25_2 : wc.cell? ⟨gb131, 2, none⟩ = some (.string a0_2) := (af BK131.out 2).trans rfl
      have hcz25_3 : wc.cell? ⟨gb131, 3, none⟩ = some (.int .i64 a0_3) := (af BK131.out 3).trans rfl
      have hcz25_4 : wc.cell? ⟨gb131, 4, none⟩ = some (.string a0_4) := (af BK131.out 4).trans rfl
      have hfz25_0 := ae BK131.out 0
      have hfz25_1 := ae BK131.out 1
      have hfz25_2 := ae BK131.out 2
      have hfz25_3 := ae BK131.out 3
      have hfz25_4 := ae BK131.out 4
      go_wp2
      go_ret
      exact ⟨Z4, Z20⟩
     revert H
     refine dX (fun c26 H => ?_) fun c26 H => ?_
     ·have c26b0 : decide (t134 ≤ a0_3) = true := decide_eq_true c26
      clear c26
      obtain rfl := Option.some.inj H
      have hcz27_0 : wc.cell? ⟨gb131, 0, none⟩ = some (.int .i64 a0_0) := (af BK131.out 0).trans rfl
      have hcz27_1 : wc.cell? ⟨gb131, 1, none⟩ = some (.int .i64 a0_1) := (af BK131.out 1).trans rfl
      have hcz27_2 : wc.cell? ⟨gb131, 2, none⟩ = some (.string a0_2) := (af BK131.out 2).trans rfl
      have hcz27_3 : wc.cell? ⟨gb131, 3, none⟩ = some (.int .i64 a0_3) := (af BK131.out 3).trans rfl
      have hcz27_4 : wc.cell? ⟨gb131, 4, none⟩ = some (.string a0_4) := (af BK131.out 4).trans rfl
      have hfz27_0 := ae BK131.out 0
      have hfz27_1 := ae BK131.out 1
      have hfz27_2 := ae BK131.out 2
      have hfz27_3 := ae BK131.out 3
      have hfz27_4 := ae BK131.out 4
      go_wp2
      go_ret
      exact ⟨Z4, Z20⟩
     have c26b0 : decide (t134 ≤ a0_3) = false := decide_eq_false c26
     clear c26
     obtain rfl := Option.some.inj H
     have hcz28_0 : wc.cell? ⟨gb131, 0, none⟩ = some (.int .i64 a0_0) := (af BK131.out 0).trans rfl
     have hcz28_1 : wc.cell? ⟨gb131, 1, none⟩ = some (.int .i64 a0_1) := (af BK131.out 1).trans rfl
     have hcz28_2 : wc.cell? ⟨gb131, 2, none⟩ = some (.string a0_2) := (af BK131.out 2).trans rfl
     have hcz28_3 : wc.cell? ⟨gb131, 3, none⟩ = some (.int .i64 a0_3) := (af BK131.out 3).trans rfl
     have hcz28_4 : wc.cell? ⟨gb131, 4, none⟩ = some (.string a0_4) := (af BK131.out 4).trans rfl
     have hfz28_0 := ae BK131.out 0
     have hfz28_1 := ae BK131.out 1
     have hfz28_2 := ae BK131.out 2
     have hfz28_3 := ae BK131.out 3
     have hfz28_4 := ae BK131.out 4
     go_wp2
     go_ret
     exact ⟨Z4, Z20⟩
end Go.Proofs.Ytendgafpkeadhaa.Q
end
section
namespace Go.Proofs.Ytendgafpkeadhaa.Q
open Go.RowKit Go.Proofs.YtendgafpkeadhaaW.PrintWords Go.Proofs.YtendgafpkeadhaaW.PrintLast Go.Proofs.YtendgafpkeadhaaW.PrintMore
attribute [local go_sem] max2_int min2_int max_two min_two max_three min_three max_four min_four
set_option linter.unusedVariables false
set_option linter.unusedSimpArgs false
/-! ### cZ: function 32 -/
def cZ.l0 : Nat → List Int → Int → Option (Bool)
 | 0, _, _ => none
 | k + 1, x0, x3 => if x3 < (x0.length : Int) then (if 0 ≤ x3 then (if (rd x0 x3) = 2 then (cZ.l0 k x0 (wrap64 (x3 + 1))) else (if x3 ≤ (x0.length : Int) then ((jP.f (x0.drop (x3 : Int).toNat) 3).bind fun t140 => (some t140)) else (none))) else (none)) else (if 0 ≤ x3 then (if x3 ≤ (x0.length : Int) then ((jP.f (x0.drop (x3 : Int).toNat) 3).bind fun t142 => (some t142)) else (none)) else (none))
def cZ.f (k : Nat) (l0 : List Int) : Option (Bool) := cZ.l0 k l0 0
theorem cZ.mono_l : ∀ k, (∀ y0 y1, LeO (cZ.l0 k y0 y1) (cZ.l0 (k + 1) y0 y1))
 | 0 => fun _ _ r h => by simp [cZ.l0] at h
 | k + 1 => by
  have ih0 := cZ.mono_l k
  intro y0 y1
  unfold cZ.l0
  exact yL
theorem cZ.mono : ∀ a0 k, LeO (cZ.f k a0) (cZ.f (k + 1) a0) := by
 intro a0 k
 have ih0 := cZ.mono_l k
 unfold cZ.f
 exact yL
set_option maxHeartbeats 8000000 in
set_option maxRecDepth 100000 in
theorem cZ.calls (k : Nat) (A0 : Option Addr) (c0 : Nat) (l0 : List Int) (r : Bool) (w : World) (hr0 : Kd.C (Kd.int .i64) w A0 l0.length l0) (hc0 : l0.length ≤ c0) (h : cZ.f k l0 = some r) :
 Calls Try.prog 32 #[.slice A0 l0.length c0] w fun e w' => e = .returned (.bool r) ∧ Below w.heap.size w w' := by
 have HR0 := Aside0.mk hr0
 have HC0 := Aside0.mk hc0
 clear hr0 hc0
 have HB := Aside0.mk (Below.refl w.heap.size w)
 have H := h
 clear h
 unfold cZ.f at H
 have H' := Aside0.mk H
 clear H
 go_enter Try.func32, Try.ntmps32
 go_wp2
 go_loopg [3] k (fun kq v3 w' => ∃ (x3_1 : Int), v3 = .int .i64 x3_1 ∧ Aside0 (cZ.l0 kq l0 x3_1 = some r) ∧ Aside0 (kq ≤ k) ∧ Aside0 (Below w.heap.size w w'))
 case atStart => exact ⟨(0), Z6, H', ⟨Nat.le_refl _⟩, ⟨Z3⟩⟩
 case round =>
  clear H'
  obtain ⟨x3_1, rfl, HA, HK1, HB⟩ := hrel
  cases gk with
  | zero => exact absurd HA.out (by simp [cZ.l0])
  | succ k1 =>
   have H := HA.out
   clear HA
   simp only [cZ.l0] at H
   revert H
   refine fO (fun c2b0 H => ?_) fun c2b0 H => ?_
   ·revert H
    refine eQ (fun c3b0 H => ?_) fun c3 H => ?_
    ·revert H
     refine aJ (fun c4b0 c4b1 H => ?_) fun c4 c4b0 c4b1 H => ?_
     ·have H' := Aside0.mk H
      clear H
      have p138 : 0 ≤ (x3_1 : Int) := of_decide_eq_true Z5
      have q138 : x3_1 < (l0.length : Int) := of_decide_eq_true Z5
      obtain ⟨ad138, e138, hx138_0⟩ := Kd.jF HR0.out x3_1 p138 q138
      cases e138
      replace hx138_0 := (HB.out.cell (World.block_lt_of_cell? w _ hx138_0)).trans hx138_0
      replace p138 := eq_true p138
      replace q138 := eq_true q138
      go_wp2
      go_roundg k1
      case measure => have := HK1.out; omega
      case rel => exact ⟨(wrap64 (x3_1 + 1)), Z6, H', ⟨by have := HK1.out; omega⟩, ⟨Z3⟩⟩
     have c5b0 := eq_true (of_decide_eq_true Z5 : 0 ≤ x3_1)
     revert H
     refine fU (fun c6b0 c6b1 H => ?_) fun c6 H => ?_
     ·revert H
      refine yB1 fun t140 A7 H => ?_
      obtain rfl := Option.some.inj H
      have p138 : 0 ≤ (x3_1 : Int) := of_decide_eq_true Z5
      have q138 : x3_1 < (l0.length : Int) := of_decide_eq_true Z5
      obtain ⟨ad138, e138, hx138_0⟩ := Kd.jF HR0.out x3_1 p138 q138
      cases e138
      replace hx138_0 := (HB.out.cell (World.block_lt_of_cell? w _ hx138_0)).trans hx138_0
      replace p138 := eq_true p138
      replace q138 := eq_true q138
      try go_wp2
      refine yA1 (below_drew1 HB.out) ?_
      clear HB
      intro HB
      obtain ⟨i09, hi09, _, hsz9, _⟩ := info_parts info3
      obtain ⟨A9, hcut9, hA9, hC9⟩ := kH (P := Try.prog) (Value.int .i64) 0 46 3 .i64 Try.underlying46 hi09 hsz9 (some ad138) c0 l0 x3_1 (of_decide_eq_true Z5) (of_decide_eq_true Z5) HC0.out
      have HR139 := Aside0.mk (Kd.lH (h1 := fun _ => rfl) (hA9 _ (Kd.jO HR0.out)))
      have HC139 := Aside0.mk hC9
      clear hA9 hC9 hi09 hsz9
      refine jB (n := 6) (S := fun w' => True) (ds := []) #[false, false, false, false, false, false] (by kernel_rfl) rfl rfl trivial (fun hHeld => ?_)
      generalize wr.drew = w8 at HB HR139 hHeld ⊢
      refine pA 0 17 (bQ 6 1) ?_
      refine pA 1 18 (bQ 6 3) ?_
      refine pA 2 19 (bQ 6 7) ?_
      refine lJ (i := 3) (N := some 20) (bQ 6 15) rfl rfl (by kernel_rfl) (by decide) (fun K hK => ?_)
      refine jY Try.func37 (by kernel_rfl) rfl #[.int .i64 3] (by rfl) rfl rfl Z49 ?_
      with_reducible refine (nJ 3 _).mono ?_
      rintro e wIs ⟨gIs, rfl, hbk, hge, hb⟩
      refine ⟨_, rfl, ?_⟩
      have n0_ := Aside0.mk (below_step Z3 hb)
      have BKIs := Aside0.mk hbk
      clear HB
      have HB := n0_
      clear n0_ hbk hge
      (try clear hb)
      refine hK.out _ _ trivial (fun hHeld => ?_)
      clear hK K
      refine jw (a' := ?_) ?_ ?_
      rotate_left
      ·show Act.put _ (some 20) _ = _
       simp only [Act.put, List.setIfInBounds_toArray, List.set_cons_zero, List.set_cons_succ, dE, dM]
       rfl
      refine lJ (i := 4) (N := some 21) (bQ 6 31) rfl rfl (by kernel_rfl) (by decide) (fun K hK => ?_)
      refine jY Try.func34 (by kernel_rfl) rfl #[.slice A9 (l0.drop (x3_1 : Int).toNat).length (c0 - x3_1.toNat), .func (.func 59) #[] #[.pointer (some ⟨gIs, 0, none⟩)]] (by rfl) rfl rfl (by (try simp only [List.map_toArray, List.map_cons, List.map_nil]); first | done | (rw [show (l0.drop (x3_1 : Int).toNat).length = (l0.length - x3_1.toNat) from List.length_drop] <;> rfl) | rfl | (simp only [List.length_drop, List.length_take]; rfl)) ?_
      with_reducible refine (jP.calls _ _ (l0.drop (x3_1 : Int).toNat) 3 t140 _ ?side1 ?side2 A7.out (hj := ?side3)).mono ?_
      (case side3 => exact BKIs.out)
      (case side1 => repeat (first | exact (Kd.C_below HR139.out HB.out) | (with_reducible refine Kd.C_alloc ?_ _) | (with_reducible refine Kd.C_drewN ?_ _) | (with_reducible refine Kd.C_drew ?_)))
      (case side2 => exact HC139.out)
      rintro e w10 ⟨rfl, hb⟩
      refine ⟨_, rfl, ?_⟩
      refine yA1 (below_step Z3 hb) ?_
      clear HB
      intro HB
      (try clear hb)
      (try clear hb2)
      (try clear hk)
      (try clear hi)
      refine hK.out _ _ trivial (fun hHeld => ?_)
      clear hK K
      refine jw (a' := ?_) ?_ ?_
      rotate_left
      ·show Act.put _ (some 21) _ = _
       simp only [Act.put, List.setIfInBounds_toArray, List.set_cons_zero, List.set_cons_succ, dE, dM]
       rfl
      refine pA 5 2 (bQ 6 63) ?_
      refine kT (by kernel_rfl) ?_
      try go_wp2
      go_ret
      exact ⟨Z4, Z3⟩
     exact absurd H (by simp)
    exact absurd H (by simp)
   revert H
   refine fU (fun c11b0 c11b1 H => ?_) fun c11 H => ?_
   ·revert H
    refine fU (fun c12b0 c12b1 H => ?_) fun c12 H => ?_
    ·revert H
     refine yB1 fun t142 A13 H => ?_
     obtain rfl := Option.some.inj H
     try go_wp2
     refine yA1 (below_drew1 HB.out) ?_
     clear HB
     intro HB
     obtain ⟨i015, hi015, _, hsz15, _⟩ := info_parts info3
     obtain ⟨A15, hcut15, hA15, hC15⟩ := kH (P := Try.prog) (Value.int .i64) 0 46 3 .i64 Try.underlying46 hi015 hsz15 A0 c0 l0 x3_1 (of_decide_eq_true Z5) (of_decide_eq_true Z5) HC0.out
     have HR141 := Aside0.mk (Kd.lH (h1 := fun _ => rfl) (hA15 _ (Kd.jO HR0.out)))
     have HC141 := Aside0.mk hC15
     clear hA15 hC15 hi015 hsz15
     refine jB (n := 6) (S := fun w' => True) (ds := []) #[false, false, false, false, false, false] (by kernel_rfl) rfl rfl trivial (fun hHeld => ?_)
     generalize wr.drew = w14 at HB HR141 hHeld ⊢
     refine pA 0 17 (bQ 6 1) ?_
     refine pA 1 18 (bQ 6 3) ?_
     refine pA 2 19 (bQ 6 7) ?_
     refine lJ (i := 3) (N := some 20) (bQ 6 15) rfl rfl (by kernel_rfl) (by decide) (fun K hK => ?_)
     refine jY Try.func37 (by kernel_rfl) rfl #[.int .i64 3] (by rfl) rfl rfl Z49 ?_
     with_reducible refine (nJ 3 _).mono ?_
     rintro e wIs ⟨gIs, rfl, hbk, hge, hb⟩
     refine ⟨_, rfl, ?_⟩
     have n0_ := Aside0.mk (below_step Z3 hb)
     have BKIs := Aside0.mk hbk
     clear HB
     have HB := n0_
     clear n0_ hbk hge
     (try clear hb)
     refine hK.out _ _ trivial (fun hHeld => ?_)
     clear hK K
     refine jw (a' := ?_) ?_ ?_
     rotate_left
     ·show Act.put _ (some 20) _ = _
      simp only [Act.put, List.setIfInBounds_toArray, List.set_cons_zero, List.set_cons_succ, dE, dM]
      rfl
     refine lJ (i := 4) (N := some 21) (bQ 6 31) rfl rfl (by kernel_rfl) (by decide) (fun K hK => ?_)
     refine jY Try.func34 (by kernel_rfl) rfl #[.slice A15 (l0.drop (x3_1 : Int).toNat).length (c0 - x3_1.toNat), .func (.func 59) #[] #[.pointer (some ⟨gIs, 0, none⟩)]] (by rfl) rfl rfl (by (try simp only [List.map_toArray, List.map_cons, List.map_nil]); first | done | (rw [show (l0.drop (x3_1 : Int).toNat).length = (l0.length - x3_1.toNat) from List.length_drop] <;> rfl) | rfl | (simp only [List.length_drop, List.length_take]; rfl)) ?_
     with_reducible refine (jP.calls _ _ (l0.drop (x3_1 : Int).toNat) 3 t142 _ ?side1 ?side2 A13.out (hj := ?side3)).mono ?_
     (case side3 => exact BKIs.out)
     (case side1 => repeat (first | exact (Kd.C_below HR141.out HB.out) | (with_reducible refine Kd.C_alloc ?_ _) | (with_reducible refine Kd.C_drewN ?_ _) | (with_reducible refine Kd.C_drew ?_)))
     (case side2 => exact HC141.out)
     rintro e w16 ⟨rfl, hb⟩
     refine ⟨_, rfl, ?_⟩
     refine yA1 (below_step Z3 hb) ?_
     clear HB
     intro HB
     (try clear hb)
     (try clear hb2)
     (try clear hk)
     (try clear hi)
     refine hK.out _ _ trivial (fun hHeld => ?_)
     clear hK K
     refine jw (a' := ?_) ?_ ?_
     rotate_left
     ·show Act.put _ (some 21) _ = _
      simp only [Act.put, List.setIfInBounds_toArray, List.set_cons_zero, List.set_cons_succ, dE, dM]
      rfl
     refine pA 5 2 (bQ 6 63) ?_
     refine kT (by kernel_rfl) ?_
     try go_wp2
     go_ret
     exact ⟨Z4, Z3⟩
    exact absurd H (by simp)
   exact absurd H (by simp)
end Go.Proofs.Ytendgafpkeadhaa.Q
end
