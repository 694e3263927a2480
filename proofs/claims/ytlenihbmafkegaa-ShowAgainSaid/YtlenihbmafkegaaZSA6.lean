/- Walks over functions of the program, words for them, and what the functions come to; of each text only what this claim uses; no condition. -/
import Derived.Test.YtlenihbmafkegaaZSA0
import Derived.Test.YtlenihbmafkegaaZSA1
import Derived.Test.YtlenihbmafkegaaZSA3
import Derived.Test.YtlenihbmafkegaaZSA4
section
namespace Go.Proofs.Ytlenihbmafkegaa.Q
open Go.RowKit Go.Proofs.YtlenihbmafkegaaW.PrintWords Go.Proofs.YtlenihbmafkegaaW.PrintLast Go.Proofs.YtlenihbmafkegaaW.PrintMore
attribute [local go_sem] dC dA dP dO cZ cO dB dw
set_option linter.unusedVariables false
set_option linter.unusedSimpArgs false
/-! ### bu: function 17 -/
mutual
def bu.l0 : Nat → List (S40) → Int → List Int → List (S40) → Int → Int → Option (Int)
 | 0, _, _, _, _, _, _ => none
 | k + 1, x0, x3, x4, x8, x9, x10 => if x10 < x9 then (if 0 ≤ x10 then (if x10 < (x8.length : Int) then ((bK.f k x0 x10).bind fun t106 => (if t106 < 0 then (some (-1)) else (if x4.length < 17592186044416 then ((some (x4 ++ [(au x8 x10).f1] : List Int)).bind fun y107 => (bu.l1 k x0 (mx x3 (y107.length : Int)) y107 x8 x9 x10)) else (none)))) else (none)) else (none)) else (some x3)
def bu.l1 : Nat → List (S40) → Int → List Int → List (S40) → Int → Int → Option (Int)
 | 0, _, _, _, _, _, _ => none
 | k + 1, x0, x3, x4, x8, x9, x10 => if 0 ≤ (wrap64 ((x4.length : Int) - 1)) then (if (wrap64 ((x4.length : Int) - 1)) < (x4.length : Int) then (if (rd x4 (wrap64 ((x4.length : Int) - 1))) > 0 then (bu.l0 k x0 x3 (x4.set ((wrap64 ((x4.length : Int) - 1)) : Int).toNat (wrap64 ((rd x4 (wrap64 ((x4.length : Int) - 1))) - 1))) x8 x9 (wrap64 (x10 + 1))) else (if (wrap64 ((x4.length : Int) - 1)) ≤ (x4.length : Int) then ((some (x4.take ((wrap64 ((x4.length : Int) - 1)) : Int).toNat : List Int)).bind fun y113 => (if (wrap64 ((x4.length : Int) - 1)) = 0 then (bu.l0 k x0 x3 y113 x8 x9 (wrap64 (x10 + 1))) else (bu.l1 k x0 x3 y113 x8 x9 x10))) else (none))) else (none)) else (none)
end
def bu.f (k : Nat) (l0 : List (S40)) : Option (Int) := bu.l0 k l0 0 ([] : List Int) l0 (l0.length : Int) 0
theorem bu.cu : ∀ k, (∀ y0 y1 y2 y3 y4 y5, LeO (bu.l0 k y0 y1 y2 y3 y4 y5) (bu.l0 (k + 1) y0 y1 y2 y3 y4 y5)) ∧ (∀ y0 y1 y2 y3 y4 y5, LeO (bu.l1 k y0 y1 y2 y3 y4 y5) (bu.l1 (k + 1) y0 y1 y2 y3 y4 y5))
 | 0 => ⟨fun _ _ _ _ _ _ r h => by simp [bu.l0] at h, fun _ _ _ _ _ _ r h => by simp [bu.l1] at h⟩
 | k + 1 => by
  obtain ⟨ih0, ih1⟩ := bu.cu k
  refine ⟨?_, ?_⟩
  ·intro y0 y1 y2 y3 y4 y5
   unfold bu.l0
   have m0 := bK.mono
   exact yL
  intro y0 y1 y2 y3 y4 y5
  unfold bu.l1
  have m0 := bK.mono
  exact yL
theorem bu.mono : ∀ a0 k, LeO (bu.f k a0) (bu.f (k + 1) a0) := by
 intro a0 k
 obtain ⟨ih0, ih1⟩ := bu.cu k
 unfold bu.f
 have m0 := bK.mono
 exact yL
set_option maxHeartbeats 8000000 in
set_option maxRecDepth 100000 in
theorem bu.calls (k : Nat) (A0 : Option Addr) (c0 : Nat) (l0 : List (S40)) (r : Int) (w : World) (hr0 : Kd.C k40 w A0 l0.length l0) (hc0 : l0.length ≤ c0) (h : bu.f k l0 = some r) :
 Calls Try.prog 17 #[.slice A0 l0.length c0] w fun e w' => e = .returned (.int .i64 r) ∧ Below w.heap.size w w' := by
 have hu40 := Try.underlying40
 have HR0 := ae.mk hr0
 have HC0 := ae.mk hc0
 clear hr0 hc0
 have HB := ae.mk (Below.refl w.heap.size w)
 have H := h
 clear h
 unfold bu.f at H
 have H' := ae.mk H
 clear H
 go_enter Try.func17, Try.ntmps17
 go_wp2
 go_step3
 go_wp2
 go_step3
 go_wp2
 go_loopg [3, 4, 10] k (fun kq v3 v4 v10 w' => ∃ (x3_1 : Int) (x4_1 : List Int) (x10_1 : Int), v3 = .int .i64 x3_1 ∧ v10 = .int .i64 x10_1 ∧ ae (bu.l0 kq l0 x3_1 x4_1 l0 (l0.length : Int) x10_1 = some r) ∧ ae (kq ≤ k) ∧ ae (Kd.R (Kd.int .i64) 3 w' w.heap.size (fun _ => True) v4 x4_1) ∧ ae (Below w.heap.size w w'))
 case atStart => exact ⟨(0), (([] : List Int)), (0), fT, fT, H', ⟨Nat.le_refl _⟩, ⟨Z5⟩, ⟨bT HB⟩⟩
 case round =>
  clear H'
  try clear c1
  obtain ⟨x3_1, x4_1, x10_1, rfl, rfl, HA, HK1, HO_4, HB⟩ := hrel
  cases gk with
  | zero => exact absurd HA.out (by simp [bu.l0])
  | succ k1 =>
   have H := HA.out
   clear HA
   simp only [bu.l0] at H
   revert H
   refine jU (fun c2b0 H => ?_) fun c2b0 H => ?_
   ·revert H
    refine gY (fun c3b0 H => ?_) fun c3 H => ?_
    ·revert H
     refine gY (fun c4b0 H => ?_) fun c4 H => ?_
     ·revert H
      refine yB1 fun t106 A5 H => ?_
      revert H
      refine jU (fun c6b0 H => ?_) fun c6b0 H => ?_
      ·obtain rfl := Option.some.inj H
       have p104 : 0 ≤ (x10_1 : Int) := of_decide_eq_true aT
       have q104 : x10_1 < (l0.length : Int) := of_decide_eq_true aT
       obtain ⟨ad104, e104, hx104_0, hx104_1, hx104_2, hx104_3, hx104_4⟩ := kF HR0.out x10_1 p104 q104
       cases e104
       replace hx104_0 := (HB.out.cell (World.block_lt_of_cell? w _ hx104_0)).trans hx104_0
       replace hx104_1 := (HB.out.cell (World.block_lt_of_cell? w _ hx104_1)).trans hx104_1
       replace hx104_2 := (HB.out.cell (World.block_lt_of_cell? w _ hx104_2)).trans hx104_2
       replace hx104_3 := (HB.out.cell (World.block_lt_of_cell? w _ hx104_3)).trans hx104_3
       replace hx104_4 := (HB.out.cell (World.block_lt_of_cell? w _ hx104_4)).trans hx104_4
       replace p104 := eq_true p104
       replace q104 := eq_true q104
       go_wp2_with (first | ((with_reducible refine bI (N := 6) rfl ?_); refine dW ?hg (N := 6) ?hd (cs := #[.int .i64 0, .int .i64 0, .string (⟨#[]⟩ : ByteArray), .int .i64 0, .string (⟨#[]⟩ : ByteArray)]) (t := 40) ?hr ?_; (case hd => rfl); (case hg => rfl); (case hr => first | (go_simp; done) | (go_simp; rfl)); intro gb105 hg w7 hbox hb; refine yA5 (Kd.aQ (qR HO_4) hb) (aj (bT HB) hb) (hbox) ((by rw [hg]; exact (aG (bT HB)) : w.heap.size ≤ gb105)) ((by rw [hg]; exact (aG (bT HB)) : w.heap.size ≤ gb105)) ?_; clear HO_4 HB; intro HO_4 HB BK105 GW105 GE105; clear hb hbox hg; have hcz8_0 : w7.cell? ⟨gb105, 0, none⟩ = some (.int .i64 0) := (ah BK105.out 0).trans rfl; have hcz8_1 : w7.cell? ⟨gb105, 1, none⟩ = some (.int .i64 0) := (ah BK105.out 1).trans rfl; have hcz8_2 : w7.cell? ⟨gb105, 2, none⟩ = some (.string (⟨#[]⟩ : ByteArray)) := (ah BK105.out 2).trans rfl; have hcz8_3 : w7.cell? ⟨gb105, 3, none⟩ = some (.int .i64 0) := (ah BK105.out 3).trans rfl; have hcz8_4 : w7.cell? ⟨gb105, 4, none⟩ = some (.string (⟨#[]⟩ : ByteArray)) := (ah BK105.out 4).trans rfl; have hfz8_0 := af BK105.out 0; have hfz8_1 := af BK105.out 1; have hfz8_2 := af BK105.out 2; have hfz8_3 := af BK105.out 3; have hfz8_4 := af BK105.out 4) | ((with_reducible refine gC 16 rfl ?_); refine gM 16 17 rfl Try.func16 (bK.calls k1 _ _ l0 x10_1 t106 _ (Kd.ik HR0.out (bT HB)) HC0.out A5.out) ?_; rintro _ w' ⟨rfl, ⟨nd, rfl⟩⟩; refine ⟨_, rfl, ?_⟩))
       go_ret
       exact ⟨eT, bT HB⟩
      revert H
      refine gZ (fun c9 H => ?_) fun c9 H => ?_
      ·have LMc9 := ae.mk c9
       clear c9
       obtain ⟨y107, hy107⟩ : ∃ y_ : List Int, y_ = (x4_1 ++ [(au l0 x10_1).f1]) := ⟨_, rfl⟩
       replace H : (bu.l1 k1 l0 (mx x3_1 (y107.length : Int)) y107 l0 (l0.length : Int) x10_1) = some r := by first | (rw [hy107]; with_reducible exact H) | (have H2_ := (Option.bind_some _ _).symm.trans H; rw [hy107]; with_reducible exact H2_) | (have H2_ := (Option.bind_some _ _).symm.trans H; with_reducible exact H2_) | with_reducible exact H | (rw [hy107]; exact H) | exact H
       have Ny107 := ae.mk hy107
       clear hy107
       obtain ⟨ji10, hji10⟩ : ∃ j_ : Int, (mx x3_1 (y107.length : Int)) = j_ := ⟨_, rfl⟩
       replace H : (bu.l1 k1 l0 ji10 y107 l0 (l0.length : Int) x10_1) = some r := by first | (rw [hji10] at H; exact H) | (simp only [hji10] at H ⊢; exact H)
       (try rw [hji10] at A5)
       have hji10_ : (if x3_1 < (y107.length : Int) then (y107.length : Int) else x3_1) = ji10 := hji10
       have H' := ae.mk H
       clear H
       have p104 : 0 ≤ (x10_1 : Int) := of_decide_eq_true aT
       have q104 : x10_1 < (l0.length : Int) := of_decide_eq_true aT
       obtain ⟨ad104, e104, hx104_0, hx104_1, hx104_2, hx104_3, hx104_4⟩ := kF HR0.out x10_1 p104 q104
       cases e104
       replace hx104_0 := (HB.out.cell (World.block_lt_of_cell? w _ hx104_0)).trans hx104_0
       replace hx104_1 := (HB.out.cell (World.block_lt_of_cell? w _ hx104_1)).trans hx104_1
       replace hx104_2 := (HB.out.cell (World.block_lt_of_cell? w _ hx104_2)).trans hx104_2
       replace hx104_3 := (HB.out.cell (World.block_lt_of_cell? w _ hx104_3)).trans hx104_3
       replace hx104_4 := (HB.out.cell (World.block_lt_of_cell? w _ hx104_4)).trans hx104_4
       replace p104 := eq_true p104
       replace q104 := eq_true q104
       go_wp2_with (first | ((with_reducible refine bI (N := 6) rfl ?_); refine dW ?hg (N := 6) ?hd (cs := #[.int .i64 0, .int .i64 0, .string (⟨#[]⟩ : ByteArray), .int .i64 0, .string (⟨#[]⟩ : ByteArray)]) (t := 40) ?hr ?_; (case hd => rfl); (case hg => rfl); (case hr => first | (go_simp; done) | (go_simp; rfl)); intro gb105 hg w11 hbox hb; refine yA5 (Kd.aQ (qR HO_4) hb) (aj (bT HB) hb) (hbox) ((by rw [hg]; exact (aG (bT HB)) : w.heap.size ≤ gb105)) ((by rw [hg]; exact (aG (bT HB)) : w.heap.size ≤ gb105)) ?_; clear HO_4 HB; intro HO_4 HB BK105 GW105 GE105; clear hb hbox hg; have hcz12_0 : w11.cell? ⟨gb105, 0, none⟩ = some (.int .i64 0) := (ah BK105.out 0).trans rfl; have hcz12_1 : w11.cell? ⟨gb105, 1, none⟩ = some (.int .i64 0) := (ah BK105.out 1).trans rfl; have hcz12_2 : w11.cell? ⟨gb105, 2, none⟩ = some (.string (⟨#[]⟩ : ByteArray)) := (ah BK105.out 2).trans rfl; have hcz12_3 : w11.cell? ⟨gb105, 3, none⟩ = some (.int .i64 0) := (ah BK105.out 3).trans rfl; have hcz12_4 : w11.cell? ⟨gb105, 4, none⟩ = some (.string (⟨#[]⟩ : ByteArray)) := (ah BK105.out 4).trans rfl; have hfz12_0 := af BK105.out 0; have hfz12_1 := af BK105.out 1; have hfz12_2 := af BK105.out 2; have hfz12_3 := af BK105.out 3; have hfz12_4 := af BK105.out 4) | ((with_reducible refine gC 16 rfl ?_); refine gM 16 17 rfl Try.func16 (bK.calls k1 _ _ l0 x10_1 t106 _ (Kd.ik HR0.out (bT HB)) HC0.out A5.out) ?_; rintro _ w' ⟨rfl, ⟨nd, rfl⟩⟩; refine ⟨_, rfl, ?_⟩) | ((with_reducible refine dR (b := .append) (xs := #[.tmp 19, .tmp 22]) rfl ?_); at_builtin; refine Kd.lZ (Kd.int .i64) (w0 := w) w.heap.size rfl (.tmp 19) (.tmp 22) 45 3 (.int .i64 0) 8 rfl Try.underlying45 info3 rfl (by decide) (by omega) u4 x4_1 ((au l0 x10_1).f1) [.int .i64 ((au l0 x10_1).f1)] (fun _ => True) (fun _ => False) rfl (by first | (go_simp; done) | (go_simp; rfl)) ?aP (fun _ hk => hk.elim) ?aF ?aO ?aB ?aS ?aL ?_; (case aP => exact rfl); (case aB => exact (bT HB)); (case aF => exact (fun _ _ => trivial)); (case aO => exact (by (with_reducible repeat (first | apply Kd.jQ | apply Kd.kw | apply Kd.lM)); exact Kd.fK (Kd.qG (p := ⟨gb105, 4, none⟩) (Kd.qG (p := ⟨gb105, 3, none⟩) (Kd.qG (p := ⟨gb105, 2, none⟩) (Kd.qG (p := ⟨gb105, 1, none⟩) (Kd.qG (p := ⟨gb105, 0, none⟩) (Kd.qQ HO_4.out BK105.out (by decide)) (fun _ hk => hk.2) (.int .i64 ((au l0 x10_1).f0))) (fun _ hk => hk.2) (.int .i64 ((au l0 x10_1).f1))) (fun _ hk => hk.2) (.string ((au l0 x10_1).f2))) (fun _ hk => hk.2) (.int .i64 ((au l0 x10_1).f3))) (fun _ hk => hk.2) (.string ((au l0 x10_1).f4))) (fun _ hk => trivial))); (case aS => exact (aG (bT HB))); (case aL => have := LMc9.out; omega); intro v108 w13 ho hb hg hat; rw [← Ny107.out] at ho; refine yA3 (kV (g := gb105) (o := .cells #[.int .i64 ((au l0 x10_1).f0), .int .i64 ((au l0 x10_1).f1), .string ((au l0 x10_1).f2), .int .i64 ((au l0 x10_1).f3), .string ((au l0 x10_1).f4)] 40 (0, 0)) (by refine dE (cs := #[.int .i64 ((au l0 x10_1).f0), .int .i64 ((au l0 x10_1).f1), .string ((au l0 x10_1).f2), .int .i64 ((au l0 x10_1).f3), .string (⟨#[]⟩ : ByteArray)]) ?_ 4 _ rfl; refine dE (cs := #[.int .i64 ((au l0 x10_1).f0), .int .i64 ((au l0 x10_1).f1), .string ((au l0 x10_1).f2), .int .i64 0, .string (⟨#[]⟩ : ByteArray)]) ?_ 3 _ rfl; refine dE (cs := #[.int .i64 ((au l0 x10_1).f0), .int .i64 ((au l0 x10_1).f1), .string (⟨#[]⟩ : ByteArray), .int .i64 0, .string (⟨#[]⟩ : ByteArray)]) ?_ 2 _ rfl; refine dE (cs := #[.int .i64 ((au l0 x10_1).f0), .int .i64 0, .string (⟨#[]⟩ : ByteArray), .int .i64 0, .string (⟨#[]⟩ : ByteArray)]) ?_ 1 _ rfl; refine dE (cs := #[.int .i64 0, .int .i64 0, .string (⟨#[]⟩ : ByteArray), .int .i64 0, .string (⟨#[]⟩ : ByteArray)]) ?_ 0 _ rfl; exact BK105.out) hg (Kd.Be HO_4.out BK105.out (by decide))) (hb) (ho) ?_; clear BK105 HB HO_4; intro BK105 HB HO109; clear ho hb hg hat; obtain ⟨Ao14, co14, rfl⟩ := Kd.bY HO109.out))
       go_loopg [4] k1 (fun kq v4 w' => ∃ (x4_2 : List Int), ae (bu.l1 kq l0 ji10 x4_2 l0 (l0.length : Int) x10_1 = some r) ∧ ae (kq ≤ k1) ∧ ae (Kd.R (Kd.int .i64) 3 w' w.heap.size (fun _ => True) v4 x4_2) ∧ ae (w'.heap[gb105]? = some (.cells #[.int .i64 ((au l0 x10_1).f0), .int .i64 ((au l0 x10_1).f1), .string ((au l0 x10_1).f2), .int .i64 ((au l0 x10_1).f3), .string ((au l0 x10_1).f4)] 40 (0, 0))) ∧ ae (Below w.heap.size w w'))
       case atStart => exact ⟨(y107), H', ⟨Nat.le_refl _⟩, ⟨qR HO109⟩, ⟨by exact BK105.out⟩, ⟨bT HB⟩⟩
       case round =>
        clear H'
        try clear c1
        try clear p1
        try clear q1
        try clear hx1
        try clear c2
        try clear c2b0
        try clear p2
        try clear c3
        try clear c3b0
        try clear c4
        try clear c4b0
        try clear c6
        try clear c6b0
        try clear c9
        try clear p10
        try clear q10
        try clear hx10
        try clear hcz12_0
        try clear hcz12_1
        try clear hcz12_2
        try clear hcz12_3
        try clear hcz12_4
        try clear hcz8_0
        try clear hcz8_1
        try clear hcz8_2
        try clear hcz8_3
        try clear hcz8_4
        try clear hfz12_0
        try clear hfz12_1
        try clear hfz12_2
        try clear hfz12_3
        try clear hfz12_4
        try clear hfz8_0
        try clear hfz8_1
        try clear hfz8_2
        try clear hfz8_3
        try clear hfz8_4
        try clear hx104_0
        try clear hx104_1
        try clear hx104_2
        try clear hx104_3
        try clear hx104_4
        try clear p104
        try clear q104
        obtain ⟨x4_2, HA, HK2, HO_4, BK105, HB⟩ := hrel
        cases gk with
        | zero => exact absurd HA.out (by simp [bu.l1])
        | succ k2 =>
         have H := HA.out
         clear HA
         simp only [bu.l1] at H
         obtain ⟨ji15, hji15⟩ : ∃ j_ : Int, (wrap64 ((x4_2.length : Int) - 1)) = j_ := ⟨_, rfl⟩
         replace H : (if 0 ≤ (ji15) then (if (ji15) < (x4_2.length : Int) then (if (rd x4_2 (ji15)) > 0 then (bu.l0 k2 l0 ji10 (x4_2.set ((ji15) : Int).toNat (wrap64 ((rd x4_2 (ji15)) - 1))) l0 (l0.length : Int) (wrap64 (x10_1 + 1))) else (if (ji15) ≤ (x4_2.length : Int) then ((some (x4_2.take ((ji15) : Int).toNat : List Int)).bind fun y113 => (if (ji15) = 0 then (bu.l0 k2 l0 ji10 y113 l0 (l0.length : Int) (wrap64 (x10_1 + 1))) else (bu.l1 k2 l0 ji10 y113 l0 (l0.length : Int) x10_1))) else (none))) else (none)) else (none)) = some r := by first | (rw [hji15] at H; exact H) | (simp only [hji15] at H ⊢; exact H)
         have hji15w : (IntKind.i64.wrap ((x4_2.length : Int) - 1)) = ji15 := (gB _).trans hji15
         revert H
         refine gY (fun c16b0 H => ?_) fun c16 H => ?_
         ·revert H
          refine gY (fun c17b0 H => ?_) fun c17 H => ?_
          ·revert H
           refine gZ (fun c18 H => ?_) fun c18 H => ?_
           ·have c18b0 : decide (0 < (rd x4_2 (ji15))) = true := decide_eq_true c18
            clear c18
            obtain ⟨y112, hy112⟩ : ∃ y_ : List Int, y_ = (x4_2.set ((ji15) : Int).toNat (wrap64 ((rd x4_2 (ji15)) - 1))) := ⟨_, rfl⟩
            replace H : (bu.l0 k2 l0 ji10 y112 l0 (l0.length : Int) (wrap64 (x10_1 + 1))) = some r := by first | (rw [hy112]; with_reducible exact H) | (have H2_ := (Option.bind_some _ _).symm.trans H; rw [hy112]; with_reducible exact H2_) | (have H2_ := (Option.bind_some _ _).symm.trans H; with_reducible exact H2_) | with_reducible exact H | (rw [hy112]; exact H) | exact H
            have Ny112 := ae.mk hy112
            clear hy112
            have H' := ae.mk H
            clear H
            obtain ⟨Ao20, co20, eo20⟩ := Kd.bY HO_4.out
            subst eo20
            have p110 : 0 ≤ ((ji15) : Int) := of_decide_eq_true aT
            have q110 : (ji15) < (x4_2.length : Int) := of_decide_eq_true aT
            obtain ⟨ad110, e110, hx110_0⟩ := Kd.lK (Kd.aI HO_4.out).2.2 (ji15) p110 q110
            cases e110
            replace p110 := eq_true p110
            replace q110 := eq_true q110
            have p111 : 0 ≤ ((ji15) : Int) := of_decide_eq_true aT
            have q111 : (ji15) < (x4_2.length : Int) := of_decide_eq_true aT
            obtain ⟨ad111, e111, hx111_0⟩ := Kd.lK (Kd.aI HO_4.out).2.2 (ji15) p111 q111
            obtain rfl : ad110 = ad111 := (by injection e111)
            replace p111 := eq_true p111
            replace q111 := eq_true q111
            have p19 : 0 ≤ ((ji15) : Int) := of_decide_eq_true aT
            have q19 : ((ji15) : Int) < ((x4_2.length : Int) : Int) := of_decide_eq_true aT
            obtain ⟨go19, co19, eo19, gb19, gl19, cl19, HG19⟩ := Kd.Ip HO_4.out (by omega)
            (first | cases eo19 | (injection eo19 with ea_ en_ ec_; (first | subst ea_ | (injection ea_ with ea_; subst ea_)); subst ec_; clear en_))
            have GB19 := ae.mk gb19
            have GG19 := ae.mk HG19
            clear gb19 gl19 HG19
            (first | simp only [add_plain] at hx110_0 | skip)
            (first | simp only [add_plain] at hx111_0 | skip)
            obtain ⟨hx19_0, hf19_0⟩ := Kd.JZ 0 HO_4.out ((ji15) : Int) p19 q19
            replace p19 := eq_true p19
            replace q19 := eq_true q19
            have HP21 := Kd.Nl HO_4.out ((ji15) : Int) (wrap64 ((rd x4_2 (ji15)) - 1))
            go_wp2_with (first | ((with_reducible refine Cj (t := 3) (p := 41) rfl ?_); refine zL (t := 3) (p := 41) (v := ?vo_w22) (w1 := (wr.setCell ⟨go19, ((ji15) : Int).toNat, none⟩ (.int .i64 (wrap64 ((rd x4_2 (ji15)) - 1))))) ?hg ?ho ?hn ?hr ?_; (case ho => rfl); (case hg => rfl); (case hn => rfl); (case hr => first | (go_simp; done) | (go_simp; rfl)); intro w22 hw; have hg : wr.grownBy w22 (some go19) := (by rw [hw]; exact HP21.2); have hp_ : Kd.R (Kd.int .i64) 3 w22 w.heap.size (fun _ => True) (.slice (some ⟨go19, 0, none⟩) x4_2.length co20) y112 := (by rw [hw, Ny112.out]; exact HP21.1); clear HP21; refine yA3 (hp_) (kV (g := gb105) (o := .cells #[.int .i64 ((au l0 x10_1).f0), .int .i64 ((au l0 x10_1).f1), .string ((au l0 x10_1).f2), .int .i64 ((au l0 x10_1).f3), .string ((au l0 x10_1).f4)] 40 (0, 0)) (by exact BK105.out) hg (Kd.Be HO_4.out BK105.out (by decide))) ((by rw [hw]; exact gQ (HB.out) GB19.out : Below w.heap.size w w22)) ?_; clear HO_4 BK105 HB; intro HO_4 BK105 HB; clear hg hw hp_))
            go_roundg k2
            case measure => have := HK1.out; have := HK2.out; omega
            case rel => exact ⟨(ji10), (y112), (wrap64 (x10_1 + 1)), (by first | rfl | (simp; done) | (simp only [← hji10] <;> (first | rfl | simp)) | (simp [*]; done)), fT, H', ⟨by have := HK1.out; have := HK2.out; omega⟩, ⟨qR HO_4⟩, ⟨bT HB⟩⟩
           have c18b0 : decide (0 < (rd x4_2 (ji15))) = false := decide_eq_false c18
           clear c18
           revert H
           refine jL (fun c23b0 c23b1 H => ?_) fun c23 H => ?_
           ·obtain ⟨y113, hy113⟩ : ∃ y_ : List Int, y_ = (x4_2.take ((ji15) : Int).toNat) := ⟨_, rfl⟩
            replace H : (if (ji15) = 0 then (bu.l0 k2 l0 ji10 y113 l0 (l0.length : Int) (wrap64 (x10_1 + 1))) else (bu.l1 k2 l0 ji10 y113 l0 (l0.length : Int) x10_1)) = some r := by first | (rw [hy113]; with_reducible exact H) | (have H2_ := (Option.bind_some _ _).symm.trans H; rw [hy113]; with_reducible exact H2_) | (have H2_ := (Option.bind_some _ _).symm.trans H; with_reducible exact H2_) | with_reducible exact H | (rw [hy113]; exact H) | exact H
            have Ny113 := ae.mk hy113
            clear hy113
            revert H
            refine bn (fun c24b0 c24b1 H => ?_) fun c24 c24b0 c24b1 H => ?_
            ·have H' := ae.mk H
             clear H
             obtain ⟨Ao25, co25, eo25⟩ := Kd.bY HO_4.out
             subst eo25
             have p110 : 0 ≤ ((ji15) : Int) := of_decide_eq_true aT
             have q110 : (ji15) < (x4_2.length : Int) := of_decide_eq_true aT
             obtain ⟨ad110, e110, hx110_0⟩ := Kd.lK (Kd.aI HO_4.out).2.2 (ji15) p110 q110
             cases e110
             replace p110 := eq_true p110
             replace q110 := eq_true q110
             have q26 : ((ji15) : Int) ≤ ((x4_2.length : Int) : Int) := of_decide_eq_true aT
             obtain ⟨i026, hi026, _, hsz26, _⟩ := info_parts info3
             have hcut26 := H6 (P := Try.prog) 45 3 .i64 Try.underlying45 hi026 (some ad110) x4_2.length co25 (ji15) (of_decide_eq_true aT) q26 (Kd.aI HO_4.out).2.1
             have hr26 := Kd.Io (m := ((ji15) : Int).toNat) HO_4.out (by omega)
             have hy26 : y113.length = ((ji15) : Int).toNat := (by rw [Ny113.out, List.length_take]; omega)
             rw [← Ny113.out] at hr26
             rw [← hy26] at hr26 hcut26
             clear hy26 hi026 hsz26 HO_4
             have HO115 := ae.mk hr26
             clear hr26
             replace q26 := eq_true q26
             go_wp2
             go_roundg k2
             case measure => have := HK1.out; have := HK2.out; omega
             case rel => exact ⟨(ji10), (y113), (wrap64 (x10_1 + 1)), (by first | rfl | (simp; done) | (simp only [← hji10] <;> (first | rfl | simp)) | (simp [*]; done)), fT, H', ⟨by have := HK1.out; have := HK2.out; omega⟩, ⟨qR HO115⟩, ⟨bT HB⟩⟩
            have H' := ae.mk H
            clear H
            obtain ⟨Ao27, co27, eo27⟩ := Kd.bY HO_4.out
            subst eo27
            have p110 : 0 ≤ ((ji15) : Int) := of_decide_eq_true aT
            have q110 : (ji15) < (x4_2.length : Int) := of_decide_eq_true aT
            obtain ⟨ad110, e110, hx110_0⟩ := Kd.lK (Kd.aI HO_4.out).2.2 (ji15) p110 q110
            cases e110
            replace p110 := eq_true p110
            replace q110 := eq_true q110
            have q28 : ((ji15) : Int) ≤ ((x4_2.length : Int) : Int) := of_decide_eq_true aT
            obtain ⟨i028, hi028, _, hsz28, _⟩ := info_parts info3
            have hcut28 := H6 (P := Try.prog) 45 3 .i64 Try.underlying45 hi028 (some ad110) x4_2.length co27 (ji15) (of_decide_eq_true aT) q28 (Kd.aI HO_4.out).2.1
            have hr28 := Kd.Io (m := ((ji15) : Int).toNat) HO_4.out (by omega)
            have hy28 : y113.length = ((ji15) : Int).toNat := (by rw [Ny113.out, List.length_take]; omega)
            rw [← Ny113.out] at hr28
            rw [← hy28] at hr28 hcut28
            clear hy28 hi028 hsz28 HO_4
            have HO115 := ae.mk hr28
            clear hr28
            replace q28 := eq_true q28
            go_wp2
            go_roundg k2
            case measure => have := HK1.out; have := HK2.out; omega
            case rel => exact ⟨(y113), H', ⟨by have := HK1.out; have := HK2.out; omega⟩, ⟨qR HO115⟩, ⟨by exact BK105.out⟩, ⟨bT HB⟩⟩
           exact absurd H (by simp)
          exact absurd H (by simp)
         exact absurd H (by simp)
      exact absurd H (by simp)
     exact absurd H (by simp)
    exact absurd H (by simp)
   obtain rfl := Option.some.inj H
   go_wp2
   go_ret
   exact ⟨eT, bT HB⟩
end Go.Proofs.Ytlenihbmafkegaa.Q
end
section
namespace Go.Proofs.Ytlenihbmafkegaa.Q
open Go.RowKit Go.Proofs.YtlenihbmafkegaaW.PrintWords Go.Proofs.YtlenihbmafkegaaW.PrintLast Go.Proofs.YtlenihbmafkegaaW.PrintMore
attribute [local go_sem] dC dA dP dO cZ cO dB dw
set_option linter.unusedVariables false
set_option linter.unusedSimpArgs false
/-! ### dY: function 28 -/
def dY.j0 : Nat → Int → Int → Bool → Option (Int × Bool)
 | 0, _, _, _ => none
 | k + 1, x0, x4, x9 => if x9 = true then (some (1, true)) else (if x4 = 19 then (some (4, true)) else (if x4 = 20 then (some (32, true)) else (if x4 = 23 then (some (3, true)) else (if x4 = 27 then (some (8, true)) else (if x4 = 28 then (some (16, true)) else (if x0 ≥ 1 then (some (0, decide (x0 ≤ 30))) else (some (0, false))))))))
def dY.f (k : Nat) (a0 : Int) : Option (Int × Bool) := if a0 = 1 then (some (5, true)) else (if a0 = 2 then (some (7, true)) else (if a0 = 3 then (dY.j0 k a0 a0 (a0 == 3)) else (if a0 = 4 then (dY.j0 k a0 a0 (a0 == 4)) else (if a0 = 6 then (dY.j0 k a0 a0 (a0 == 6)) else (if a0 = 7 then (dY.j0 k a0 a0 (a0 == 7)) else (dY.j0 k a0 a0 (a0 == 21)))))))
theorem dY.cu : ∀ k, (∀ y0 y1 y2, LeO (dY.j0 k y0 y1 y2) (dY.j0 (k + 1) y0 y1 y2))
 | 0 => fun _ _ _ r h => by simp [dY.j0] at h
 | k + 1 => by
  have ih0 := dY.cu k
  intro y0 y1 y2
  unfold dY.j0
  exact yL
theorem dY.mono : ∀ a0 k, LeO (dY.f k a0) (dY.f (k + 1) a0) := by
 intro a0 k
 have ih0 := dY.cu k
 unfold dY.f
 exact yL
set_option maxHeartbeats 8000000 in
set_option maxRecDepth 100000 in
theorem dY.calls (k : Nat) (a0 : Int) (r1 : Int) (r2 : Bool) (w : World) (h : dY.f k a0 = some (r1, r2)) :
 Calls Try.prog 28 #[.int .i64 a0] w fun e w' => e = .returned (.tuple #[.int .i64 r1, .bool r2]) ∧ dQ w w' := by
 have H := h
 clear h
 unfold dY.f at H
 revert H
 refine bn (fun c2b0 c2b1 H => ?_) fun c2 c2b0 c2b1 H => ?_
 ·simp only [Option.some.injEq, Prod.mk.injEq] at H
  obtain ⟨rfl, rfl⟩ := H
  go_enter Try.func28, Try.ntmps28
  go_wp2
  go_ret2
  exact ⟨fT, Z0⟩
 revert H
 refine bn (fun c3b0 c3b1 H => ?_) fun c3 c3b0 c3b1 H => ?_
 ·simp only [Option.some.injEq, Prod.mk.injEq] at H
  obtain ⟨rfl, rfl⟩ := H
  go_enter Try.func28, Try.ntmps28
  go_wp2
  go_ret2
  exact ⟨fT, Z0⟩
 have HC4 := ae.mk H
 clear H
 go_enter Try.func28, Try.ntmps28
 go_upto_if 9 with (fail)
 go_cut [9] (fun v9 wc => ∃ (kq : Nat) (x9_3 : Bool), v9 = .bool x9_3 ∧ ae (dY.j0 kq a0 a0 x9_3 = some (r1, r2)) ∧ ae (kq ≤ k) ∧ dQ w wc)
 case first =>
  have H := HC4.out
  clear HC4
  revert H
  refine bn (fun c5b0 c5b1 H => ?_) fun c5 c5b0 c5b1 H => ?_
  ·(first | rw [c5b0] | (simp only [gB, iP]; rw [c5b0]) | skip)
   have H' := ae.mk H
   clear H
   go_wp2
   go_meet
   case rel => exact ⟨_, ((a0 == 3)), fT, H', ⟨Z13⟩, Z0⟩
  (first | rw [c5b0] | (simp only [gB, iP]; rw [c5b0]) | skip)
  revert H
  refine bn (fun c6b0 c6b1 H => ?_) fun c6 c6b0 c6b1 H => ?_
  ·have H' := ae.mk H
   clear H
   go_wp2
   go_meet
   case rel => exact ⟨_, ((a0 == 4)), fT, H', ⟨Z13⟩, Z0⟩
  revert H
  refine bn (fun c7b0 c7b1 H => ?_) fun c7 c7b0 c7b1 H => ?_
  ·have H' := ae.mk H
   clear H
   go_wp2
   go_meet
   case rel => exact ⟨_, ((a0 == 6)), fT, H', ⟨Z13⟩, Z0⟩
  revert H
  refine bn (fun c8b0 c8b1 H => ?_) fun c8 c8b0 c8b1 H => ?_
  ·have H' := ae.mk H
   clear H
   go_wp2
   go_meet
   case rel => exact ⟨_, ((a0 == 7)), fT, H', ⟨Z13⟩, Z0⟩
  have H' := ae.mk H
  clear H
  go_wp2
  go_meet
  case rel => exact ⟨_, ((a0 == 21)), fT, H', ⟨Z13⟩, Z0⟩
 case rest =>
  clear HC4
  try clear c2
  try clear c2b0
  try clear c2b1
  try clear p2
  try clear c3
  try clear c3b0
  try clear c3b1
  try clear c5
  try clear c5b0
  try clear c5b1
  try clear c6
  try clear c6b0
  try clear c6b1
  try clear c7
  try clear c7b0
  try clear c7b1
  try clear c8
  try clear c8b0
  try clear c8b1
  obtain ⟨kq, x9_3, rfl, HA, HJ3, ⟨mc3, rfl⟩⟩ := hcut
  cases kq with
  | zero => exact absurd HA.out (by simp [dY.j0])
  | succ kj3 =>
   have H := HA.out
   clear HA
   simp only [dY.j0] at H
   cases x9_3
   rotate_left
   ·replace H := yT H
    simp only [Option.some.injEq, Prod.mk.injEq] at H
    obtain ⟨rfl, rfl⟩ := H
    go_wp2
    go_ret2
    exact ⟨fT, Z0⟩
   replace H := yF H
   revert H
   refine bn (fun c10b0 c10b1 H => ?_) fun c10 c10b0 c10b1 H => ?_
   ·simp only [Option.some.injEq, Prod.mk.injEq] at H
    obtain ⟨rfl, rfl⟩ := H
    go_wp2
    go_ret2
    exact ⟨fT, Z0⟩
   revert H
   refine bn (fun c11b0 c11b1 H => ?_) fun c11 c11b0 c11b1 H => ?_
   ·simp only [Option.some.injEq, Prod.mk.injEq] at H
    obtain ⟨rfl, rfl⟩ := H
    go_wp2
    go_ret2
    exact ⟨fT, Z0⟩
   revert H
   refine bn (fun c12b0 c12b1 H => ?_) fun c12 c12b0 c12b1 H => ?_
   ·simp only [Option.some.injEq, Prod.mk.injEq] at H
    obtain ⟨rfl, rfl⟩ := H
    go_wp2
    go_ret2
    exact ⟨fT, Z0⟩
   revert H
   refine bn (fun c13b0 c13b1 H => ?_) fun c13 c13b0 c13b1 H => ?_
   ·simp only [Option.some.injEq, Prod.mk.injEq] at H
    obtain ⟨rfl, rfl⟩ := H
    go_wp2
    go_ret2
    exact ⟨fT, Z0⟩
   revert H
   refine bn (fun c14b0 c14b1 H => ?_) fun c14 c14b0 c14b1 H => ?_
   ·simp only [Option.some.injEq, Prod.mk.injEq] at H
    obtain ⟨rfl, rfl⟩ := H
    go_wp2
    go_ret2
    exact ⟨fT, Z0⟩
   revert H
   refine gZ (fun c15 H => ?_) fun c15 H => ?_
   ·have c15b0 : decide (1 ≤ a0) = true := decide_eq_true c15
    clear c15
    simp only [Option.some.injEq, Prod.mk.injEq] at H
    obtain ⟨rfl, rfl⟩ := H
    go_wp2
    go_ret2
    exact ⟨fT, Z0⟩
   have c15b0 : decide (1 ≤ a0) = false := decide_eq_false c15
   clear c15
   simp only [Option.some.injEq, Prod.mk.injEq] at H
   obtain ⟨rfl, rfl⟩ := H
   go_wp2
   go_ret2
   exact ⟨fT, Z0⟩
end Go.Proofs.Ytlenihbmafkegaa.Q
end
section
namespace Go.Proofs.Ytlenihbmafkegaa.Q
open Go.RowKit Go.Proofs.YtlenihbmafkegaaW.PrintWords Go.Proofs.YtlenihbmafkegaaW.PrintLast Go.Proofs.YtlenihbmafkegaaW.PrintMore
attribute [local go_sem] dC dA dP dO cZ cO dB dw
set_option linter.unusedVariables false
set_option linter.unusedSimpArgs false
/-! ### bi: function 53 -/
mutual
def bi.l0 : Nat → ByteArray → ByteArray → Int → Int → Option (Bool)
 | 0, _, _, _, _ => none
 | k + 1, x0, x1, x9, x10 => if x10 < x9 then (if 0 ≤ x10 then (if x10 < (x1.size : Int) then (if (bt x1 x10) = 32 then (some false) else (bi.l0 k x0 x1 x9 (wrap64 (x10 + 1)))) else (none)) else (none)) else (bi.l1 k x0 x1 (wrap64 ((x1.size : Int) + 2)) 0)
def bi.l1 : Nat → ByteArray → ByteArray → Int → Int → Option (Bool)
 | 0, _, _, _, _ => none
 | k + 1, x0, x1, x6, x7 => if x1.toList = ([] : List UInt8) then (bi.j2 k x0 x1 x6 x7 false) else (bi.j2 k x0 x1 x6 x7 (decide ((wrap64 (x7 + x6)) ≤ (x0.size : Int))))
def bi.j2 : Nat → ByteArray → ByteArray → Int → Int → Bool → Option (Bool)
 | 0, _, _, _, _, _ => none
 | k + 1, x0, x1, x6, x7, x30 => if x30 = true then (if 0 ≤ x7 then (if x7 ≤ (wrap64 (x7 + x6)) then (if (wrap64 (x7 + x6)) ≤ (x0.size : Int) then (if 1 + x1.size ≤ 9223372036854775807 then (if ((⟨#[32]⟩ : ByteArray) ++ x1).size + 1 ≤ 9223372036854775807 then (if (x0.extract (x7 : Int).toNat ((wrap64 (x7 + x6)) : Int).toNat).toList = (((⟨#[32]⟩ : ByteArray) ++ x1) ++ (⟨#[32]⟩ : ByteArray)).toList then (some true) else (bi.l1 k x0 x1 x6 (wrap64 (x7 + 1)))) else (none)) else (none)) else (none)) else (none)) else (none)) else (some false)
end
def bi.f (k : Nat) (a0 : ByteArray) (a1 : ByteArray) : Option (Bool) := bi.l0 k a0 a1 (a1.size : Int) 0
theorem bi.cu : ∀ k, (∀ y0 y1 y2 y3, LeO (bi.l0 k y0 y1 y2 y3) (bi.l0 (k + 1) y0 y1 y2 y3)) ∧ (∀ y0 y1 y2 y3, LeO (bi.l1 k y0 y1 y2 y3) (bi.l1 (k + 1) y0 y1 y2 y3)) ∧ (∀ y0 y1 y2 y3 y4, LeO (bi.j2 k y0 y1 y2 y3 y4) (bi.j2 (k + 1) y0 y1 y2 y3 y4))
 | 0 => ⟨fun _ _ _ _ r h => by simp [bi.l0] at h, fun _ _ _ _ r h => by simp [bi.l1] at h, fun _ _ _ _ _ r h => by simp [bi.j2] at h⟩
 | k + 1 => by
  obtain ⟨ih0, ih1, ih2⟩ := bi.cu k
  refine ⟨?_, ?_, ?_⟩
  ·intro y0 y1 y2 y3
   unfold bi.l0
   exact yL
  ·intro y0 y1 y2 y3
   unfold bi.l1
   exact yL
  intro y0 y1 y2 y3 y4
  unfold bi.j2
  exact yL
theorem bi.mono : ∀ a0 a1 k, LeO (bi.f k a0 a1) (bi.f (k + 1) a0 a1) := by
 intro a0 a1 k
 obtain ⟨ih0, ih1, ih2⟩ := bi.cu k
 unfold bi.f
 exact yL
set_option maxHeartbeats 8000000 in
set_option maxRecDepth 100000 in
theorem bi.calls (k : Nat) (a0 : ByteArray) (a1 : ByteArray) (r : Bool) (w : World) (h : bi.f k a0 a1 = some r) :
 Calls Try.prog 53 #[.string a0, .string a1] w fun e w' => e = .returned (.bool r) ∧ dQ w w' := by
 have H := h
 clear h
 unfold bi.f at H
 have H' := ae.mk H
 clear H
 go_enter Try.func53, Try.ntmps53
 go_wp2
 go_loopg [10] k (fun kq v10 w' => ∃ (x10_1 : Int), v10 = .int .i64 x10_1 ∧ ae (bi.l0 kq a0 a1 (a1.size : Int) x10_1 = some r) ∧ ae (kq ≤ k) ∧ dQ w w')
 case atStart => exact ⟨(0), fT, H', ⟨Nat.le_refl _⟩, Z0⟩
 case round =>
  clear H'
  try clear p2
  obtain ⟨x10_1, rfl, HA, HK1, ⟨m1, rfl⟩⟩ := hrel
  cases gk with
  | zero => exact absurd HA.out (by simp [bi.l0])
  | succ k1 =>
   have H := HA.out
   clear HA
   simp only [bi.l0] at H
   revert H
   refine jU (fun c3b0 H => ?_) fun c3b0 H => ?_
   ·revert H
    refine gY (fun c4b0 H => ?_) fun c4 H => ?_
    ·revert H
     refine gY (fun c5b0 H => ?_) fun c5 H => ?_
     ·revert H
      refine bn (fun c7b0 c7b1 H => ?_) fun c7 c7b0 c7b1 H => ?_
      ·obtain rfl := Option.some.inj H
       have p6 : 0 ≤ (x10_1 : Int) := of_decide_eq_true aT
       have q6 : x10_1 < (a1.size : Int) := of_decide_eq_true aT
       have hx6 := l9 a1 x10_1
       replace p6 := eq_true p6
       replace q6 := eq_true q6
       go_wp2
       go_ret
       exact ⟨fT, Z0⟩
      have H' := ae.mk H
      clear H
      have p6 : 0 ≤ (x10_1 : Int) := of_decide_eq_true aT
      have q6 : x10_1 < (a1.size : Int) := of_decide_eq_true aT
      have hx6 := l9 a1 x10_1
      replace p6 := eq_true p6
      replace q6 := eq_true q6
      go_wp2
      go_roundg k1
      case measure => have := HK1.out; omega
      case rel => exact ⟨(wrap64 (x10_1 + 1)), fT, H', ⟨by have := HK1.out; omega⟩, Z0⟩
     exact absurd H (by simp)
    exact absurd H (by simp)
   have H' := ae.mk H
   clear H
   go_wp2
   go_loopg [7] k1 (fun kq v7 w' => ∃ (x7_2 : Int), v7 = .int .i64 x7_2 ∧ ae (bi.l1 kq a0 a1 (wrap64 ((a1.size : Int) + 2)) x7_2 = some r) ∧ ae (kq ≤ k1) ∧ dQ w w')
   case atStart => exact ⟨(0), fT, H', ⟨Nat.le_refl _⟩, Z0⟩
   case round =>
    clear H'
    try clear p2
    try clear c3
    try clear c3b0
    try clear c4
    try clear c4b0
    try clear c5
    try clear c5b0
    try clear p6
    try clear q6
    try clear hx6
    try clear c7
    try clear c7b0
    try clear c7b1
    try clear p2
    try clear p6
    try clear q6
    obtain ⟨x7_2, rfl, HA, HK2, ⟨m2, rfl⟩⟩ := hrel
    cases gk with
    | zero => exact absurd HA.out (by simp [bi.l1])
    | succ k2 =>
     have H := HA.out
     clear HA
     simp only [bi.l1] at H
     have HC8 := ae.mk H
     clear H
     go_upto_region 9 with (fail)
     go_cut [30] (fun v30 wc => ∃ (kq : Nat) (x30_7 : Bool), v30 = .bool x30_7 ∧ ae (bi.j2 kq a0 a1 (wrap64 ((a1.size : Int) + 2)) x7_2 x30_7 = some r) ∧ ae (kq ≤ k2) ∧ dQ w wc)
     case first =>
      have H := HC8.out
      clear HC8
      revert H
      refine bn (fun c9b0 c9b1 H => ?_) fun c9 c9b0 c9b1 H => ?_
      ·(first | rw [c9b0] | (simp only [gB, iP]; rw [c9b0]) | skip)
       have H' := ae.mk H
       clear H
       go_wp2
       go_meet
       case rel => exact ⟨_, (false), fT, H', ⟨by have := HK1.out; have := HK2.out; first | omega | exact Nat.le_refl _⟩, Z0⟩
      (first | rw [c9b0] | (simp only [gB, iP]; rw [c9b0]) | skip)
      have H' := ae.mk H
      clear H
      go_wp2
      go_meet
      case rel => exact ⟨_, (decide ((wrap64 (x7_2 + (wrap64 ((a1.size : Int) + 2)))) ≤ (a0.size : Int))), fT, H', ⟨by have := HK1.out; have := HK2.out; first | omega | exact Nat.le_refl _⟩, Z0⟩
     case rest =>
      clear HC8
      try clear p2
      try clear c3
      try clear c3b0
      try clear c4
      try clear c4b0
      try clear c5
      try clear c5b0
      try clear p6
      try clear q6
      try clear hx6
      try clear c7
      try clear c7b0
      try clear c7b1
      try clear c9
      try clear c9b0
      try clear c9b1
      try clear p2
      try clear p6
      try clear q6
      obtain ⟨kq, x30_7, rfl, HA, HJ7, ⟨mc7, rfl⟩⟩ := hcut
      cases kq with
      | zero => exact absurd HA.out (by simp [bi.j2])
      | succ kj7 =>
       have H := HA.out
       clear HA
       simp only [bi.j2] at H
       cases x30_7
       rotate_left
       ·replace H := yT H
        revert H
        refine jL (fun c11b0 c11b1 H => ?_) fun c11 H => ?_
        ·revert H
         refine jY (fun c12 c12b0 c12b1 H => ?_) fun c12 H => ?_
         ·revert H
          refine jY (fun c13 c13b0 c13b1 H => ?_) fun c13 H => ?_
          ·revert H
           refine jY (fun c14 c14b0 c14b1 H => ?_) fun c14 H => ?_
           ·try have c14b2 : (9223372036854775807 < 1 + a1.size) = False := eq_false (Nat.not_lt.2 c14)
            revert H
            refine jY (fun c15 c15b0 c15b1 H => ?_) fun c15 H => ?_
            ·have c15s := c15
             simp only [ByteArray.size_append, show ((⟨#[32]⟩ : ByteArray)).size = 1 from rfl] at c15s
             have c15t := eq_true c15s
             have c15u := eq_false (Nat.not_lt.2 c15s)
             clear c15s
             try have c15b2 : (9223372036854775807 < ((⟨#[32]⟩ : ByteArray) ++ a1).size + 1) = False := eq_false (Nat.not_lt.2 c15)
             revert H
             refine bn (fun c16b0 c16b1 H => ?_) fun c16 c16b0 c16b1 H => ?_
             ·obtain rfl := Option.some.inj H
              go_wp2
              go_ret
              exact ⟨fT, Z0⟩
             have H' := ae.mk H
             clear H
             go_wp2
             go_roundg kj7
             case measure => have := HK1.out; have := HK2.out; have := HJ7.out; omega
             case rel => exact ⟨(wrap64 (x7_2 + 1)), fT, H', ⟨by have := HK1.out; have := HK2.out; have := HJ7.out; omega⟩, Z0⟩
            exact absurd H (by simp)
           exact absurd H (by simp)
          exact absurd H (by simp)
         exact absurd H (by simp)
        exact absurd H (by simp)
       replace H := yF H
       obtain rfl := Option.some.inj H
       go_wp2
       go_ret
       exact ⟨fT, Z0⟩
end Go.Proofs.Ytlenihbmafkegaa.Q
end
section
namespace Go.Proofs.Ytlenihbmafkegaa.Q
open Go.RowKit Go.Proofs.YtlenihbmafkegaaW.PrintWords Go.Proofs.YtlenihbmafkegaaW.PrintLast Go.Proofs.YtlenihbmafkegaaW.PrintMore
attribute [local go_sem] dC dA dP dO cZ cO dB dw
set_option linter.unusedVariables false
set_option linter.unusedSimpArgs false
/-! ### gJ: function 30 -/
def gJ.f (k : Nat) (a0 : Int) (a1 : ByteArray) : Option (Bool) := if (Go.bits .and .i64 a0 2) = 0 then (if (Go.bits .and .i64 a0 8) = 0 then (if (Go.bits .and .i64 a0 16) = 0 then (if (Go.bits .and .i64 a0 32) = 0 then (some (a1.toList == ([] : List UInt8))) else (some (decide ((a1.size : Int) ≤ 1024)))) else ((bi.f k (⟨#[32, 45, 32, 110, 111, 116, 32, 108, 101, 110, 32]⟩ : ByteArray) a1).bind fun t130 => (some t130))) else ((bi.f k (⟨#[32, 43, 32, 45, 32, 42, 32, 47, 32, 37, 32, 46, 46, 32, 61, 61, 32, 33, 61, 32, 60, 32, 60, 61, 32, 97, 110, 100, 32, 111, 114, 32]⟩ : ByteArray) a1).bind fun t131 => (some t131))) else ((eP.f k a1).bind fun t132 => (some t132))
theorem gJ.mono : ∀ a0 a1 k, LeO (gJ.f k a0 a1) (gJ.f (k + 1) a0 a1) := by
 intro a0 a1 k
 unfold gJ.f
 have m0 := eP.mono
 have m1 := bi.mono
 exact yL
set_option maxHeartbeats 8000000 in
set_option maxRecDepth 100000 in
theorem gJ.calls (k : Nat) (a0 : Int) (a1 : ByteArray) (r : Bool) (w : World) (h : gJ.f k a0 a1 = some r) :
 Calls Try.prog 30 #[.int .i64 a0, .string a1] w fun e w' => e = .returned (.bool r) ∧ Below w.heap.size w w' := by
 have HB := ae.mk (Below.refl w.heap.size w)
 have H := h
 clear h
 unfold gJ.f at H
 revert H
 refine bn (fun c3b0 c3b1 H => ?_) fun c3 c3b0 c3b1 H => ?_
 ·revert H
  refine bn (fun c4b0 c4b1 H => ?_) fun c4 c4b0 c4b1 H => ?_
  ·revert H
   refine bn (fun c5b0 c5b1 H => ?_) fun c5 c5b0 c5b1 H => ?_
   ·revert H
    refine bn (fun c6b0 c6b1 H => ?_) fun c6 c6b0 c6b1 H => ?_
    ·obtain rfl := Option.some.inj H
     go_enter Try.func30, Try.ntmps30
     go_wp2
     go_ret
     exact ⟨eT, bT HB⟩
    obtain rfl := Option.some.inj H
    go_enter Try.func30, Try.ntmps30
    go_wp2
    go_ret
    exact ⟨eT, bT HB⟩
   revert H
   refine yB1 fun t130 A7 H => ?_
   obtain rfl := Option.some.inj H
   go_enter Try.func30, Try.ntmps30
   go_wp2_with (first | ((with_reducible refine gC 53 rfl ?_); refine gM 53 22 rfl Try.func53 (bi.calls k (⟨#[32, 45, 32, 110, 111, 116, 32, 108, 101, 110, 32]⟩ : ByteArray) a1 t130 _ A7.out) ?_; rintro _ w' ⟨rfl, ⟨nd, rfl⟩⟩; refine ⟨_, rfl, ?_⟩))
   go_ret
   exact ⟨eT, bT HB⟩
  revert H
  refine yB1 fun t131 A8 H => ?_
  obtain rfl := Option.some.inj H
  go_enter Try.func30, Try.ntmps30
  go_wp2_with (first | ((with_reducible refine gC 53 rfl ?_); refine gM 53 16 rfl Try.func53 (bi.calls k (⟨#[32, 43, 32, 45, 32, 42, 32, 47, 32, 37, 32, 46, 46, 32, 61, 61, 32, 33, 61, 32, 60, 32, 60, 61, 32, 97, 110, 100, 32, 111, 114, 32]⟩ : ByteArray) a1 t131 _ A8.out) ?_; rintro _ w' ⟨rfl, ⟨nd, rfl⟩⟩; refine ⟨_, rfl, ?_⟩))
  go_ret
  exact ⟨eT, bT HB⟩
 revert H
 refine yB1 fun t132 A9 H => ?_
 obtain rfl := Option.some.inj H
 go_enter Try.func30, Try.ntmps30
 go_wp2_with (first | ((with_reducible refine gC 31 rfl ?_); refine gM 31 10 rfl Try.func31 (eP.calls k a1 t132 _ A9.out) ?_; rintro _ w10 ⟨rfl, hb⟩; refine ⟨_, rfl, yA1 (aj (bT HB) hb) ?_⟩; clear HB hb; intro HB))
 go_ret
 exact ⟨eT, bT HB⟩
end Go.Proofs.Ytlenihbmafkegaa.Q
end
section
namespace Go.Proofs.Ytlenihbmafkegaa.Q
open Go.RowKit Go.Proofs.YtlenihbmafkegaaW.PrintWords Go.Proofs.YtlenihbmafkegaaW.PrintLast Go.Proofs.YtlenihbmafkegaaW.PrintMore
attribute [local go_sem] dC dA dP dO cZ cO dB dw
set_option linter.unusedVariables false
set_option linter.unusedSimpArgs false
/-! ### bF: function 19 -/
mutual
def bF.j0 : Nat → Int → Int → Int → Bool → Int → Int → ByteArray → Int → ByteArray → Option (Bool)
 | 0, _, _, _, _, _, _, _, _, _ => none
 | k + 1, x3, x5, x6, x19, x134000, x134001, x134002, x134003, x134004 => if x19 = true then (some false) else ((eP.f k x134002).bind fun t139 => (if (((Go.bits .and .i64 x3 1) != 0) != t139) = true then (bF.j1 k x3 x5 x6 true x134000 x134001 x134002 x134003 x134004) else (if (Go.bits .and .i64 x3 1) = 0 then (bF.j1 k x3 x5 x6 (x134002.toList != ([] : List UInt8)) x134000 x134001 x134002 x134003 x134004) else (bF.j1 k x3 x5 x6 false x134000 x134001 x134002 x134003 x134004))))
def bF.j1 : Nat → Int → Int → Int → Bool → Int → Int → ByteArray → Int → ByteArray → Option (Bool)
 | 0, _, _, _, _, _, _, _, _, _ => none
 | k + 1, x3, x5, x6, x29, x134000, x134001, x134002, x134003, x134004 => if x29 = true then (some false) else (if (Go.bits .and .i64 x3 4) = 0 then (some (x134003 == 0)) else (if x134003 ≥ x5 then (some (decide (x134003 ≤ x6))) else (some false)))
end
def bF.f (k : Nat) (a0_0 : Int) (a0_1 : Int) (a0_2 : ByteArray) (a0_3 : Int) (a0_4 : ByteArray) : Option (Bool) := (dY.f k a0_0).bind fun bt134 => ((iU.f a0_0).bind fun bt136 => (if bt134.2 = true then ((gJ.f k bt134.1 a0_4).bind fun t138 => (bF.j0 k bt134.1 bt136.1 bt136.2 (!t138) a0_0 a0_1 a0_2 a0_3 a0_4)) else (bF.j0 k bt134.1 bt136.1 bt136.2 true a0_0 a0_1 a0_2 a0_3 a0_4)))
theorem bF.cu : ∀ k, (∀ y0 y1 y2 y3 y4 y5 y6 y7 y8, LeO (bF.j0 k y0 y1 y2 y3 y4 y5 y6 y7 y8) (bF.j0 (k + 1) y0 y1 y2 y3 y4 y5 y6 y7 y8)) ∧ (∀ y0 y1 y2 y3 y4 y5 y6 y7 y8, LeO (bF.j1 k y0 y1 y2 y3 y4 y5 y6 y7 y8) (bF.j1 (k + 1) y0 y1 y2 y3 y4 y5 y6 y7 y8))
 | 0 => ⟨fun _ _ _ _ _ _ _ _ _ r h => by simp [bF.j0] at h, fun _ _ _ _ _ _ _ _ _ r h => by simp [bF.j1] at h⟩
 | k + 1 => by
  obtain ⟨ih0, ih1⟩ := bF.cu k
  refine ⟨?_, ?_⟩
  ·intro y0 y1 y2 y3 y4 y5 y6 y7 y8
   unfold bF.j0
   have m0 := eP.mono
   have m1 := dY.mono
   have m2 := gJ.mono
   exact yL
  intro y0 y1 y2 y3 y4 y5 y6 y7 y8
  unfold bF.j1
  have m0 := eP.mono
  have m1 := dY.mono
  have m2 := gJ.mono
  exact yL
theorem bF.mono : ∀ a0 a1 a2 a3 a4 k, LeO (bF.f k a0 a1 a2 a3 a4) (bF.f (k + 1) a0 a1 a2 a3 a4) := by
 intro a0 a1 a2 a3 a4 k
 obtain ⟨ih0, ih1⟩ := bF.cu k
 unfold bF.f
 have m0 := eP.mono
 have m1 := dY.mono
 have m2 := gJ.mono
 exact yL
set_option maxHeartbeats 8000000 in
set_option maxRecDepth 100000 in
theorem bF.calls (k : Nat) (a0_0 : Int) (a0_1 : Int) (a0_2 : ByteArray) (a0_3 : Int) (a0_4 : ByteArray) (r : Bool) (w : World) (h : bF.f k a0_0 a0_1 a0_2 a0_3 a0_4 = some r) :
 Calls Try.prog 19 #[.agg #[.int .i64 a0_0, .int .i64 a0_1, .string a0_2, .int .i64 a0_3, .string a0_4]] w fun e w' => e = .returned (.bool r) ∧ Below w.heap.size w w' := by
 have hu40 := Try.underlying40
 have HB := ae.mk (Below.refl w.heap.size w)
 have H := h
 clear h
 unfold bF.f at H
 revert H
 refine yB2 fun t134 t135 A2 H => ?_
 try dsimp only at H
 revert H
 refine yB2 fun t136 t137 A3 H => ?_
 try dsimp only at H
 have HC4 := ae.mk H
 clear H
 go_enter Try.func19, Try.ntmps19
 go_upto_region 3 with (first | ((with_reducible refine bI (N := 1) rfl ?_); refine dW ?hg (N := 1) ?hd (cs := #[.int .i64 a0_0, .int .i64 a0_1, .string a0_2, .int .i64 a0_3, .string a0_4]) (t := 40) ?hr ?_; (case hd => rfl); (case hg => rfl); (case hr => first | (go_simp; done) | (go_simp; rfl)); intro gb133 hg w5 hbox hb; refine yA4 (aj (bT HB) hb) (hbox) ((by rw [hg]; exact (aG (bT HB)) : w.heap.size ≤ gb133)) ((by rw [hg]; exact (aG (bT HB)) : w.heap.size ≤ gb133)) ?_; clear HB; intro HB BK133 GW133 GE133; clear hb hbox hg; have hcz6_0 : w5.cell? ⟨gb133, 0, none⟩ = some (.int .i64 a0_0) := (ah BK133.out 0).trans rfl; have hcz6_1 : w5.cell? ⟨gb133, 1, none⟩ = some (.int .i64 a0_1) := (ah BK133.out 1).trans rfl; have hcz6_2 : w5.cell? ⟨gb133, 2, none⟩ = some (.string a0_2) := (ah BK133.out 2).trans rfl; have hcz6_3 : w5.cell? ⟨gb133, 3, none⟩ = some (.int .i64 a0_3) := (ah BK133.out 3).trans rfl; have hcz6_4 : w5.cell? ⟨gb133, 4, none⟩ = some (.string a0_4) := (ah BK133.out 4).trans rfl; have hfz6_0 := af BK133.out 0; have hfz6_1 := af BK133.out 1; have hfz6_2 := af BK133.out 2; have hfz6_3 := af BK133.out 3; have hfz6_4 := af BK133.out 4) | ((with_reducible refine gC 28 rfl ?_); refine gM 28 10 rfl Try.func28 (dY.calls k a0_0 t134 t135 _ A2.out) ?_; rintro _ w' ⟨rfl, ⟨nd, rfl⟩⟩; refine ⟨_, rfl, ?_⟩) | ((with_reducible refine gC 29 rfl ?_); refine gM 29 16 rfl Try.func29 (iU.calls a0_0 t136 t137 _ A3.out) ?_; rintro _ w' ⟨rfl, ⟨nd, rfl⟩⟩; refine ⟨_, rfl, ?_⟩))
 (try simp only [Act.put, List.setIfInBounds_toArray, List.set_cons_zero, List.set_cons_succ])
 go_cut [19] (fun v19 wc => ∃ (kq : Nat) (x19_3 : Bool), v19 = .bool x19_3 ∧ ae (bF.j0 kq t134 t136 t137 x19_3 a0_0 a0_1 a0_2 a0_3 a0_4 = some r) ∧ ae (kq ≤ k) ∧ ae (wc.heap[gb133]? = some (.cells #[.int .i64 a0_0, .int .i64 a0_1, .string a0_2, .int .i64 a0_3, .string a0_4] 40 (0, 0))) ∧ ae (Below w.heap.size w wc))
 case first =>
  have H := HC4.out
  clear HC4
  cases t135
  rotate_left
  ·replace H := yT H
   revert H
   refine yB1 fun t138 A8 H => ?_
   have H' := ae.mk H
   clear H
   have hcz9_0 : w5.cell? ⟨gb133, 0, none⟩ = some (.int .i64 a0_0) := (ah BK133.out 0).trans rfl
   have hcz9_1 : w5.cell? ⟨gb133, 1, none⟩ = some (.int .i64 a0_1) := (ah BK133.out 1).trans rfl
   have hcz9_2 : w5.cell? ⟨gb133, 2, none⟩ = some (.string a0_2) := (ah BK133.out 2).trans rfl
   have hcz9_3 : w5.cell? ⟨gb133, 3, none⟩ = some (.int .i64 a0_3) := (ah BK133.out 3).trans rfl
   have hcz9_4 : w5.cell? ⟨gb133, 4, none⟩ = some (.string a0_4) := (ah BK133.out 4).trans rfl
   have hfz9_0 := af BK133.out 0
   have hfz9_1 := af BK133.out 1
   have hfz9_2 := af BK133.out 2
   have hfz9_3 := af BK133.out 3
   have hfz9_4 := af BK133.out 4
   go_wp2_with (first | (go_at_call 30; (with_reducible refine (gJ.calls k t134 a0_4 t138 _ A8.out).mono ?_); rintro e w10 ⟨rfl, hb⟩; refine yA2 (eH (g := gb133) (o := .cells #[.int .i64 a0_0, .int .i64 a0_1, .string a0_2, .int .i64 a0_3, .string a0_4] 40 (0, 0)) (by exact BK133.out) hb) (aj (bT HB) hb) ?_; clear BK133 HB; intro BK133 HB; (try clear hb)))
   go_meet
   case rel => exact ⟨_, (!t138), fT, H', ⟨Z13⟩, ⟨by exact BK133.out⟩, ⟨bT HB⟩⟩
  replace H := yF H
  have H' := ae.mk H
  clear H
  go_wp2
  go_meet
  case rel => exact ⟨_, (true), fT, H', ⟨Z13⟩, ⟨by exact BK133.out⟩, ⟨bT HB⟩⟩
 case rest =>
  clear HC4
  try clear c1
  try clear c2
  try clear p2
  try clear c7
  try clear hcz6_0
  try clear hcz6_1
  try clear hcz6_2
  try clear hcz6_3
  try clear hcz6_4
  try clear hcz9_0
  try clear hcz9_1
  try clear hcz9_2
  try clear hcz9_3
  try clear hcz9_4
  try clear hfz6_0
  try clear hfz6_1
  try clear hfz6_2
  try clear hfz6_3
  try clear hfz6_4
  try clear hfz9_0
  try clear hfz9_1
  try clear hfz9_2
  try clear hfz9_3
  try clear hfz9_4
  obtain ⟨kq, x19_3, rfl, HA, HJ3, BK133, HB⟩ := hcut
  cases kq with
  | zero => exact absurd HA.out (by simp [bF.j0])
  | succ kj3 =>
   have H := HA.out
   clear HA
   simp only [bF.j0] at H
   cases x19_3
   rotate_left
   ·replace H := yT H
    obtain rfl := Option.some.inj H
    go_wp2
    go_ret
    exact ⟨eT, bT HB⟩
   replace H := yF H
   have HC12 := ae.mk H
   clear H
   go_upto_region 5 with (fail)
   go_cut [29] (fun v29 wc => ∃ (kq : Nat) (x29_11 : Bool), v29 = .bool x29_11 ∧ ae (bF.j1 kq t134 t136 t137 x29_11 a0_0 a0_1 a0_2 a0_3 a0_4 = some r) ∧ ae (kq ≤ kj3) ∧ ae (wc.heap[gb133]? = some (.cells #[.int .i64 a0_0, .int .i64 a0_1, .string a0_2, .int .i64 a0_3, .string a0_4] 40 (0, 0))) ∧ ae (Below w.heap.size w wc))
   case first =>
    have H := HC12.out
    clear HC12
    revert H
    refine yB1 fun t139 A13 H => ?_
    revert H
    refine gZ (fun c14 H => ?_) fun c14 H => ?_
    ·have c14b0 : (((Go.bits .and .i64 t134 1) != 0) != t139) = true := c14
     (try (have c14b1 : decide (((Go.bits .and .i64 t134 1) != 0) = t139) = false := by simpa using c14))
     (try (have c14b2 : (((Go.bits .and .i64 t134 1) != 0) == t139) = false := by simpa using c14))
     (try (have c14b3 : ¬ (((Go.bits .and .i64 t134 1) != 0) = t139) := by simpa using c14))
     clear c14
     (first | rw [c14b0] | (simp only [gB, iP]; rw [c14b0]) | skip)
     have H' := ae.mk H
     clear H
     have hcz15_0 : wc.cell? ⟨gb133, 0, none⟩ = some (.int .i64 a0_0) := (ah BK133.out 0).trans rfl
     have hcz15_1 : wc.cell? ⟨gb133, 1, none⟩ = some (.int .i64 a0_1) := (ah BK133.out 1).trans rfl
     have hcz15_2 : wc.cell? ⟨gb133, 2, none⟩ = some (.string a0_2) := (ah BK133.out 2).trans rfl
     have hcz15_3 : wc.cell? ⟨gb133, 3, none⟩ = some (.int .i64 a0_3) := (ah BK133.out 3).trans rfl
     have hcz15_4 : wc.cell? ⟨gb133, 4, none⟩ = some (.string a0_4) := (ah BK133.out 4).trans rfl
     have hfz15_0 := af BK133.out 0
     have hfz15_1 := af BK133.out 1
     have hfz15_2 := af BK133.out 2
     have hfz15_3 := af BK133.out 3
     have hfz15_4 := af BK133.out 4
     go_wp2_with (first | ((with_reducible refine gC 31 rfl ?_); refine gM 31 35 rfl Try.func31 (eP.calls kj3 a0_2 t139 _ A13.out) ?_; rintro _ w16 ⟨rfl, hb⟩; refine ⟨_, rfl, yA2 (eH (g := gb133) (o := .cells #[.int .i64 a0_0, .int .i64 a0_1, .string a0_2, .int .i64 a0_3, .string a0_4] 40 (0, 0)) (by exact BK133.out) hb) (aj (bT HB) hb) ?_⟩; clear BK133 HB hb; intro BK133 HB))
     go_meet
     case rel => exact ⟨_, (true), fT, H', ⟨by have := HJ3.out; first | omega | exact Nat.le_refl _⟩, ⟨by exact BK133.out⟩, ⟨bT HB⟩⟩
    have c14b0 : (((Go.bits .and .i64 t134 1) != 0) != t139) = false := by simpa using c14
    (try (have c14b1 : decide (((Go.bits .and .i64 t134 1) != 0) = t139) = true := by simpa using c14))
    (try (have c14b2 : (((Go.bits .and .i64 t134 1) != 0) == t139) = true := by simpa using c14))
    clear c14
    (first | rw [c14b0] | (simp only [gB, iP]; rw [c14b0]) | skip)
    revert H
    refine ut (fun c17 c17b0 c17b1 H => ?_) fun c17 c17b0 c17b1 H => ?_
    ·have ct_ : t139 = false := by have q_ := c14b0; rw [c17b1] at q_; simpa using q_
     clear c17
     have H' := ae.mk H
     clear H
     have hcz18_0 : wc.cell? ⟨gb133, 0, none⟩ = some (.int .i64 a0_0) := (ah BK133.out 0).trans rfl
     have hcz18_1 : wc.cell? ⟨gb133, 1, none⟩ = some (.int .i64 a0_1) := (ah BK133.out 1).trans rfl
     have hcz18_2 : wc.cell? ⟨gb133, 2, none⟩ = some (.string a0_2) := (ah BK133.out 2).trans rfl
     have hcz18_3 : wc.cell? ⟨gb133, 3, none⟩ = some (.int .i64 a0_3) := (ah BK133.out 3).trans rfl
     have hcz18_4 : wc.cell? ⟨gb133, 4, none⟩ = some (.string a0_4) := (ah BK133.out 4).trans rfl
     have hfz18_0 := af BK133.out 0
     have hfz18_1 := af BK133.out 1
     have hfz18_2 := af BK133.out 2
     have hfz18_3 := af BK133.out 3
     have hfz18_4 := af BK133.out 4
     have hem : (a0_2.toList != ([] : List UInt8)) = (!a0_2.toList.isEmpty) := by cases a0_2.toList <;> rfl
     cases hempt : a0_2.toList.isEmpty
     ·simp only [hem, hempt, Bool.not_false, Bool.not_true] at H'
      have hemq : (a0_2.toList == ([] : List UInt8)) = false := by rw [← hempt]; cases a0_2.toList <;> rfl
      clear hem
      go_wp2_with (first | ((with_reducible refine gC 31 rfl ?_); refine gM 31 35 rfl Try.func31 (eP.calls kj3 a0_2 t139 _ A13.out) ?_; rintro _ w19 ⟨rfl, hb⟩; refine ⟨_, rfl, yA2 (eH (g := gb133) (o := .cells #[.int .i64 a0_0, .int .i64 a0_1, .string a0_2, .int .i64 a0_3, .string a0_4] 40 (0, 0)) (by exact BK133.out) hb) (aj (bT HB) hb) ?_⟩; clear BK133 HB hb; intro BK133 HB; have hcz20_0 : w19.cell? ⟨gb133, 0, none⟩ = some (.int .i64 a0_0) := (ah BK133.out 0).trans rfl; have hcz20_1 : w19.cell? ⟨gb133, 1, none⟩ = some (.int .i64 a0_1) := (ah BK133.out 1).trans rfl; have hcz20_2 : w19.cell? ⟨gb133, 2, none⟩ = some (.string a0_2) := (ah BK133.out 2).trans rfl; have hcz20_3 : w19.cell? ⟨gb133, 3, none⟩ = some (.int .i64 a0_3) := (ah BK133.out 3).trans rfl; have hcz20_4 : w19.cell? ⟨gb133, 4, none⟩ = some (.string a0_4) := (ah BK133.out 4).trans rfl; have hfz20_0 := af BK133.out 0; have hfz20_1 := af BK133.out 1; have hfz20_2 := af BK133.out 2; have hfz20_3 := af BK133.out 3; have hfz20_4 := af BK133.out 4))
      go_meet
      case rel => exact ⟨_, (true), fT, H', ⟨by have := HJ3.out; first | omega | exact Nat.le_refl _⟩, ⟨by exact BK133.out⟩, ⟨bT HB⟩⟩
     simp only [hem, hempt, Bool.not_false, Bool.not_true] at H'
     have hemq : (a0_2.toList == ([] : List UInt8)) = true := by rw [← hempt]; cases a0_2.toList <;> rfl
     clear hem
     go_wp2_with (first | ((with_reducible refine gC 31 rfl ?_); refine gM 31 35 rfl Try.func31 (eP.calls kj3 a0_2 t139 _ A13.out) ?_; rintro _ w19 ⟨rfl, hb⟩; refine ⟨_, rfl, yA2 (eH (g := gb133) (o := .cells #[.int .i64 a0_0, .int .i64 a0_1, .string a0_2, .int .i64 a0_3, .string a0_4] 40 (0, 0)) (by exact BK133.out) hb) (aj (bT HB) hb) ?_⟩; clear BK133 HB hb; intro BK133 HB; have hcz20_0 : w19.cell? ⟨gb133, 0, none⟩ = some (.int .i64 a0_0) := (ah BK133.out 0).trans rfl; have hcz20_1 : w19.cell? ⟨gb133, 1, none⟩ = some (.int .i64 a0_1) := (ah BK133.out 1).trans rfl; have hcz20_2 : w19.cell? ⟨gb133, 2, none⟩ = some (.string a0_2) := (ah BK133.out 2).trans rfl; have hcz20_3 : w19.cell? ⟨gb133, 3, none⟩ = some (.int .i64 a0_3) := (ah BK133.out 3).trans rfl; have hcz20_4 : w19.cell? ⟨gb133, 4, none⟩ = some (.string a0_4) := (ah BK133.out 4).trans rfl; have hfz20_0 := af BK133.out 0; have hfz20_1 := af BK133.out 1; have hfz20_2 := af BK133.out 2; have hfz20_3 := af BK133.out 3; have hfz20_4 := af BK133.out 4))
     go_meet
     case rel => exact ⟨_, (false), fT, H', ⟨by have := HJ3.out; first | omega | exact Nat.le_refl _⟩, ⟨by exact BK133.out⟩, ⟨bT HB⟩⟩
    have ct_ : t139 = true := by have q_ := c14b0; rw [c17b1] at q_; simpa using q_
    have H' := ae.mk H
    clear H
    have hcz21_0 : wc.cell? ⟨gb133, 0, none⟩ = some (.int .i64 a0_0) := (ah BK133.out 0).trans rfl
    have hcz21_1 : wc.cell? ⟨gb133, 1, none⟩ = some (.int .i64 a0_1) := (ah BK133.out 1).trans rfl
    have hcz21_2 : wc.cell? ⟨gb133, 2, none⟩ = some (.string a0_2) := (ah BK133.out 2).trans rfl
    have hcz21_3 : wc.cell? ⟨gb133, 3, none⟩ = some (.int .i64 a0_3) := (ah BK133.out 3).trans rfl
    have hcz21_4 : wc.cell? ⟨gb133, 4, none⟩ = some (.string a0_4) := (ah BK133.out 4).trans rfl
    have hfz21_0 := af BK133.out 0
    have hfz21_1 := af BK133.out 1
    have hfz21_2 := af BK133.out 2
    have hfz21_3 := af BK133.out 3
    have hfz21_4 := af BK133.out 4
    go_wp2_with (first | ((with_reducible refine gC 31 rfl ?_); refine gM 31 35 rfl Try.func31 (eP.calls kj3 a0_2 t139 _ A13.out) ?_; rintro _ w22 ⟨rfl, hb⟩; refine ⟨_, rfl, yA2 (eH (g := gb133) (o := .cells #[.int .i64 a0_0, .int .i64 a0_1, .string a0_2, .int .i64 a0_3, .string a0_4] 40 (0, 0)) (by exact BK133.out) hb) (aj (bT HB) hb) ?_⟩; clear BK133 HB hb; intro BK133 HB))
    go_meet
    case rel => exact ⟨_, (false), fT, H', ⟨by have := HJ3.out; first | omega | exact Nat.le_refl _⟩, ⟨by exact BK133.out⟩, ⟨bT HB⟩⟩
   case rest =>
    clear HC12
    try clear c1
    try clear c2
    try clear p2
    try clear c3
    try clear c7
    try clear c11
    try clear c14
    try clear c14b0
    try clear c14b1
    try clear c14b2
    try clear c17
    try clear c17b0
    try clear c17b1
    try clear c19
    try clear hcz15_0
    try clear hcz15_1
    try clear hcz15_2
    try clear hcz15_3
    try clear hcz15_4
    try clear hcz18_0
    try clear hcz18_1
    try clear hcz18_2
    try clear hcz18_3
    try clear hcz18_4
    try clear hcz20_0
    try clear hcz20_1
    try clear hcz20_2
    try clear hcz20_3
    try clear hcz20_4
    try clear hcz21_0
    try clear hcz21_1
    try clear hcz21_2
    try clear hcz21_3
    try clear hcz21_4
    try clear hcz6_0
    try clear hcz6_1
    try clear hcz6_2
    try clear hcz6_3
    try clear hcz6_4
    try clear hcz9_0
    try clear hcz9_1
    try clear hcz9_2
    try clear hcz9_3
    try clear hcz9_4
    try clear hfz15_0
    try clear hfz15_1
    try clear hfz15_2
    try clear hfz15_3
    try clear hfz15_4
    try clear hfz18_0
    try clear hfz18_1
    try clear hfz18_2
    try clear hfz18_3
    try clear hfz18_4
    try clear hfz20_0
    try clear hfz20_1
    try clear hfz20_2
    try clear hfz20_3
    try clear hfz20_4
    try clear hfz21_0
    try clear hfz21_1
    try clear hfz21_2
    try clear hfz21_3
    try clear hfz21_4
    try clear hfz6_0
    try clear hfz6_1
    try clear hfz6_2
    try clear hfz6_3
    try clear hfz6_4
    try clear hfz9_0
    try clear hfz9_1
    try clear hfz9_2
    try clear hfz9_3
    try clear hfz9_4
    try clear p2
    obtain ⟨kq, x29_11, rfl, HA, HJ11, BK133, HB⟩ := hcut
    cases kq with
    | zero => exact absurd HA.out (by simp [bF.j1])
    | succ kj11 =>
     have H := HA.out
     clear HA
     simp only [bF.j1] at H
     cases x29_11
     rotate_left
     ·replace H := yT H
      obtain rfl := Option.some.inj H
      go_wp2
      go_ret
      exact ⟨eT, bT HB⟩
     replace H := yF H
     revert H
     refine bn (fun c24b0 c24b1 H => ?_) fun c24 c24b0 c24b1 H => ?_
     ·obtain rfl := Option.some.inj H
      have hcz25_0 : wc.cell? ⟨gb133, 0, none⟩ = some (.int .i64 a0_0) := (ah BK133.out 0).trans rfl
      have hcz25_1 : wc.cell? ⟨gb133, 1, none⟩ = some (.int .i64 a0_1) := (ah BK133.out 1).trans rfl
      have hcz25_2 : wc.cell? ⟨gb133, 2, none⟩ = some (.string a0_2) := (ah BK133.out 2).trans rfl
      have hcz25_3 : wc.cell? ⟨gb133, 3, none⟩ = some (.int .i64 a0_3) := (ah BK133.out 3).trans rfl
      have hcz25_4 : wc.cell? ⟨gb133, 4, none⟩ = some (.string a0_4) := (ah BK133.out 4).trans rfl
      have hfz25_0 := af BK133.out 0
      have hfz25_1 := af BK133.out 1
      have hfz25_2 := af BK133.out 2
      have hfz25_3 := af BK133.out 3
      have hfz25_4 := af BK133.out 4
      go_wp2
      go_ret
      exact ⟨eT, bT HB⟩
     revert H
     refine gZ (fun c26 H => ?_) fun c26 H => ?_
     ·have c26b0 : decide (t136 ≤ a0_3) = true := decide_eq_true c26
      clear c26
      obtain rfl := Option.some.inj H
      have hcz27_0 : wc.cell? ⟨gb133, 0, none⟩ = some (.int .i64 a0_0) := (ah BK133.out 0).trans rfl
      have hcz27_1 : wc.cell? ⟨gb133, 1, none⟩ = some (.int .i64 a0_1) := (ah BK133.out 1).trans rfl
      have hcz27_2 : wc.cell? ⟨gb133, 2, none⟩ = some (.string a0_2) := (ah BK133.out 2).trans rfl
      have hcz27_3 : wc.cell? ⟨gb133, 3, none⟩ = some (.int .i64 a0_3) := (ah BK133.out 3).trans rfl
      have hcz27_4 : wc.cell? ⟨gb133, 4, none⟩ = some (.string a0_4) := (ah BK133.out 4).trans rfl
      have hfz27_0 := af BK133.out 0
      have hfz27_1 := af BK133.out 1
      have hfz27_2 := af BK133.out 2
      have hfz27_3 := af BK133.out 3
      have hfz27_4 := af BK133.out 4
      go_wp2
      go_ret
      exact ⟨eT, bT HB⟩
     have c26b0 : decide (t136 ≤ a0_3) = false := decide_eq_false c26
     clear c26
     obtain rfl := Option.some.inj H
     have hcz28_0 : wc.cell? ⟨gb133, 0, none⟩ = some (.int .i64 a0_0) := (ah BK133.out 0).trans rfl
     have hcz28_1 : wc.cell? ⟨gb133, 1, none⟩ = some (.int .i64 a0_1) := (ah BK133.out 1).trans rfl
     have hcz28_2 : wc.cell? ⟨gb133, 2, none⟩ = some (.string a0_2) := (ah BK133.out 2).trans rfl
     have hcz28_3 : wc.cell? ⟨gb133, 3, none⟩ = some (.int .i64 a0_3) := (ah BK133.out 3).trans rfl
     have hcz28_4 : wc.cell? ⟨gb133, 4, none⟩ = some (.string a0_4) := (ah BK133.out 4).trans rfl
     have hfz28_0 := af BK133.out 0
     have hfz28_1 := af BK133.out 1
     have hfz28_2 := af BK133.out 2
     have hfz28_3 := af BK133.out 3
     have hfz28_4 := af BK133.out 4
     go_wp2
     go_ret
     exact ⟨eT, bT HB⟩
end Go.Proofs.Ytlenihbmafkegaa.Q
end
