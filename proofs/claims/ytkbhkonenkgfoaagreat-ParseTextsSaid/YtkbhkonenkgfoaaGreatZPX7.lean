/- Walks over functions of the program, words for them, and what the functions come to; of each text only what this claim uses; no condition. -/
import Derived.Test.YtkbhkonenkgfoaaGreatZPX0
import Derived.Test.YtkbhkonenkgfoaaGreatZPX1
import Derived.Test.YtkbhkonenkgfoaaGreatZPX2
import Derived.Test.YtkbhkonenkgfoaaGreatZPX3
import Derived.Test.YtkbhkonenkgfoaaGreatZPX4
import Derived.Test.YtkbhkonenkgfoaaGreatZPX5
section
namespace Go.Proofs.YtkbhkonenkgfoaaGreat.Q
open Go.RowKit Go.Proofs.YtkbhkonenkgfoaaGreatW.PrintWords Go.Proofs.YtkbhkonenkgfoaaGreatW.PrintLast Go.Proofs.YtkbhkonenkgfoaaGreatW.PrintMore
attribute [local go_sem] dJ dH dW dV dh df dI dG
set_option linter.unusedVariables false
set_option linter.unusedSimpArgs false
/-! ### fA: function 71 -/
def fA.l0 : Nat → List Int → Int → Option (Bool)
 | 0, _, _ => none
 | k + 1, x0, x3 => if x3 < (x0.length : Int) then (if 0 ≤ x3 then (if (rd x0 x3) = 2 then (fA.l0 k x0 (wrap64 (x3 + 1))) else (if x3 ≤ (x0.length : Int) then ((mG.f (x0.drop (x3 : Int).toNat) 3).bind fun t539 => (some t539)) else (none))) else (none)) else (if 0 ≤ x3 then (if x3 ≤ (x0.length : Int) then ((mG.f (x0.drop (x3 : Int).toNat) 3).bind fun t541 => (some t541)) else (none)) else (none))
def fA.f (k : Nat) (l0 : List Int) : Option (Bool) := fA.l0 k l0 0
theorem fA.bP : ∀ k, (∀ y0 y1, LeO (fA.l0 k y0 y1) (fA.l0 (k + 1) y0 y1))
 | 0 => fun _ _ r h => by simp [fA.l0] at h
 | k + 1 => by
  have ih0 := fA.bP k
  intro y0 y1
  unfold fA.l0
  exact yL
theorem fA.mono : ∀ a0 k, LeO (fA.f k a0) (fA.f (k + 1) a0) := by
 intro a0 k
 have ih0 := fA.bP k
 unfold fA.f
 exact yL
set_option maxHeartbeats 8000000 in
set_option maxRecDepth 100000 in
theorem fA.calls (k : Nat) (A0 : Option Addr) (c0 : Nat) (l0 : List Int) (r : Bool) (w : World) (hr0 : Kd.C (Kd.int .i64) w A0 l0.length l0) (hc0 : l0.length ≤ c0) (h : fA.f k l0 = some r) :
 Calls Tryz.prog 71 #[.slice A0 l0.length c0] w fun e w' => e = .returned (.bool r) ∧ Below w.heap.size w w' := by
 have HR0 := ae.mk hr0
 have HC0 := ae.mk hc0
 clear hr0 hc0
 have HB := ae.mk (Below.refl w.heap.size w)
 have H := h
 clear h
 unfold fA.f at H
 have H' := ae.mk H
 clear H
 go_enter Tryz.func71, Tryz.ntmps71
 go_wp2
 go_loopg [3] k (fun kq v3 w' => ∃ (x3_1 : Int), v3 = .int .i64 x3_1 ∧ ae (fA.l0 kq l0 x3_1 = some r) ∧ ae (kq ≤ k) ∧ ae (Below w.heap.size w w'))
 case atStart => exact ⟨(0), fT, H', ⟨Nat.le_refl _⟩, ⟨bT HB⟩⟩
 case round =>
  clear H'
  obtain ⟨x3_1, rfl, HA, HK1, HB⟩ := hrel
  cases gk with
  | zero => exact absurd HA.out (by simp [fA.l0])
  | succ k1 =>
   have H := HA.out
   clear HA
   simp only [fA.l0] at H
   revert H
   refine iQ (fun c2b0 H => ?_) fun c2b0 H => ?_
   ·revert H
    refine gJ (fun c3b0 H => ?_) fun c3 H => ?_
    ·revert H
     refine cZ (fun c4b0 c4b1 H => ?_) fun c4 c4b0 c4b1 H => ?_
     ·have H' := ae.mk H
      clear H
      have p537 : 0 ≤ (x3_1 : Int) := of_decide_eq_true aT
      have q537 : x3_1 < (l0.length : Int) := of_decide_eq_true aT
      obtain ⟨ad537, e537, hx537_0⟩ := Kd.jv HR0.out x3_1 p537 q537
      cases e537
      replace hx537_0 := (HB.out.cell (World.block_lt_of_cell? w _ hx537_0)).trans hx537_0
      replace p537 := eq_true p537
      replace q537 := eq_true q537
      go_wp2
      go_roundg k1
      case measure => have := HK1.out; omega
      case rel => exact ⟨(wrap64 (x3_1 + 1)), fT, H', ⟨by have := HK1.out; omega⟩, ⟨bT HB⟩⟩
     have c5b0 := eq_true (of_decide_eq_true aT : 0 ≤ x3_1)
     revert H
     refine jO (fun c6b0 c6b1 H => ?_) fun c6 H => ?_
     ·revert H
      refine yB1 fun t539 A7 H => ?_
      obtain rfl := Option.some.inj H
      have p537 : 0 ≤ (x3_1 : Int) := of_decide_eq_true aT
      have q537 : x3_1 < (l0.length : Int) := of_decide_eq_true aT
      obtain ⟨ad537, e537, hx537_0⟩ := Kd.jv HR0.out x3_1 p537 q537
      cases e537
      replace hx537_0 := (HB.out.cell (World.block_lt_of_cell? w _ hx537_0)).trans hx537_0
      replace p537 := eq_true p537
      replace q537 := eq_true q537
      try go_wp2
      refine yA1 (jc HB.out) ?_
      clear HB
      intro HB
      obtain ⟨i09, hi09, _, hsz9, _⟩ := info_parts info3
      obtain ⟨A9, hcut9, hA9, hC9⟩ := oW (P := Tryz.prog) (Value.int .i64) 0 60 3 .i64 Tryz.underlying60 hi09 hsz9 (some ad537) c0 l0 x3_1 (of_decide_eq_true aT) (of_decide_eq_true aT) HC0.out
      have HR538 := ae.mk (Kd.ql (h1 := fun _ => rfl) (hA9 _ (Kd.mV HR0.out)))
      have HC538 := ae.mk hC9
      clear hA9 hC9 hi09 hsz9
      refine qo (n := 6) (S := fun w' => True) (ds := []) #[false, false, false, false, false, false] (by kernel_rfl) rfl rfl trivial (fun hHeld => ?_)
      generalize wr.drew = w8 at HB HR538 hHeld ⊢
      refine pA 0 17 (bQ 6 1) ?_
      refine pA 1 18 (bQ 6 3) ?_
      refine pA 2 19 (bQ 6 7) ?_
      refine BQ (i := 3) (N := some 20) (bQ 6 15) rfl rfl (by kernel_rfl) (by decide) (fun K hK => ?_)
      refine xq Tryz.func76 (by kernel_rfl) rfl #[.int .i64 3] (by rfl) rfl rfl Z17 ?_
      with_reducible refine (ui 3 _).mono ?_
      rintro e wIs ⟨gIs, rfl, hbk, hge, hb⟩
      refine ⟨_, rfl, ?_⟩
      have n0_ := ae.mk (aY (bT HB) hb)
      have BKIs := ae.mk hbk
      clear HB
      have HB := n0_
      clear n0_ hbk hge
      (try clear hb)
      refine hK.out _ _ trivial (fun hHeld => ?_)
      clear hK K
      refine wU (a' := ?_) ?_ ?_
      rotate_left
      ·show Act.put _ (some 20) _ = _
       simp only [Act.put, List.setIfInBounds_toArray, List.set_cons_zero, List.set_cons_succ, gX, iP]
       rfl
      refine BQ (i := 4) (N := some 21) (bQ 6 31) rfl rfl (by kernel_rfl) (by decide) (fun K hK => ?_)
      refine xq Tryz.func73 (by kernel_rfl) rfl #[.slice A9 (l0.drop (x3_1 : Int).toNat).length (c0 - x3_1.toNat), .func (.func 93) #[] #[.pointer (some ⟨gIs, 0, none⟩)]] (by rfl) rfl rfl (by (try simp only [List.map_toArray, List.map_cons, List.map_nil]); first | done | (rw [show (l0.drop (x3_1 : Int).toNat).length = (l0.length - x3_1.toNat) from List.length_drop] <;> rfl) | rfl | (simp only [List.length_drop, List.length_take]; rfl)) ?_
      with_reducible refine (mG.calls _ _ (l0.drop (x3_1 : Int).toNat) 3 t539 _ ?side1 ?side2 A7.out (hj := ?side3)).mono ?_
      (case side3 => exact BKIs.out)
      (case side1 => repeat (first | exact (Kd.lh HR538.out HB.out) | (with_reducible refine Kd.jY ?_ _) | (with_reducible refine Kd.jX ?_ _) | (with_reducible refine Kd.lu ?_)))
      (case side2 => exact HC538.out)
      rintro e w10 ⟨rfl, hb⟩
      refine ⟨_, rfl, ?_⟩
      refine yA1 (aY (bT HB) hb) ?_
      clear HB
      intro HB
      (try clear hb)
      (try clear hb2)
      (try clear hk)
      (try clear hi)
      refine hK.out _ _ trivial (fun hHeld => ?_)
      clear hK K
      refine wU (a' := ?_) ?_ ?_
      rotate_left
      ·show Act.put _ (some 21) _ = _
       simp only [Act.put, List.setIfInBounds_toArray, List.set_cons_zero, List.set_cons_succ, gX, iP]
       rfl
      refine pA 5 2 (bQ 6 63) ?_
      refine vF (by kernel_rfl) ?_
      try go_wp2
      go_ret
      exact ⟨eT, bT HB⟩
     exact absurd H (by simp)
    exact absurd H (by simp)
   revert H
   refine jO (fun c11b0 c11b1 H => ?_) fun c11 H => ?_
   ·revert H
    refine jO (fun c12b0 c12b1 H => ?_) fun c12 H => ?_
    ·revert H
     refine yB1 fun t541 A13 H => ?_
     obtain rfl := Option.some.inj H
     try go_wp2
     refine yA1 (jc HB.out) ?_
     clear HB
     intro HB
     obtain ⟨i015, hi015, _, hsz15, _⟩ := info_parts info3
     obtain ⟨A15, hcut15, hA15, hC15⟩ := oW (P := Tryz.prog) (Value.int .i64) 0 60 3 .i64 Tryz.underlying60 hi015 hsz15 A0 c0 l0 x3_1 (of_decide_eq_true aT) (of_decide_eq_true aT) HC0.out
     have HR540 := ae.mk (Kd.ql (h1 := fun _ => rfl) (hA15 _ (Kd.mV HR0.out)))
     have HC540 := ae.mk hC15
     clear hA15 hC15 hi015 hsz15
     refine qo (n := 6) (S := fun w' => True) (ds := []) #[false, false, false, false, false, false] (by kernel_rfl) rfl rfl trivial (fun hHeld => ?_)
     generalize wr.drew = w14 at HB HR540 hHeld ⊢
     refine pA 0 17 (bQ 6 1) ?_
     refine pA 1 18 (bQ 6 3) ?_
     refine pA 2 19 (bQ 6 7) ?_
     refine BQ (i := 3) (N := some 20) (bQ 6 15) rfl rfl (by kernel_rfl) (by decide) (fun K hK => ?_)
     refine xq Tryz.func76 (by kernel_rfl) rfl #[.int .i64 3] (by rfl) rfl rfl Z17 ?_
     with_reducible refine (ui 3 _).mono ?_
     rintro e wIs ⟨gIs, rfl, hbk, hge, hb⟩
     refine ⟨_, rfl, ?_⟩
     have n0_ := ae.mk (aY (bT HB) hb)
     have BKIs := ae.mk hbk
     clear HB
     have HB := n0_
     clear n0_ hbk hge
     (try clear hb)
     refine hK.out _ _ trivial (fun hHeld => ?_)
     clear hK K
     refine wU (a' := ?_) ?_ ?_
     rotate_left
     ·show Act.put _ (some 20) _ = _
      simp only [Act.put, List.setIfInBounds_toArray, List.set_cons_zero, List.set_cons_succ, gX, iP]
      rfl
     refine BQ (i := 4) (N := some 21) (bQ 6 31) rfl rfl (by kernel_rfl) (by decide) (fun K hK => ?_)
     refine xq Tryz.func73 (by kernel_rfl) rfl #[.slice A15 (l0.drop (x3_1 : Int).toNat).length (c0 - x3_1.toNat), .func (.func 93) #[] #[.pointer (some ⟨gIs, 0, none⟩)]] (by rfl) rfl rfl (by (try simp only [List.map_toArray, List.map_cons, List.map_nil]); first | done | (rw [show (l0.drop (x3_1 : Int).toNat).length = (l0.length - x3_1.toNat) from List.length_drop] <;> rfl) | rfl | (simp only [List.length_drop, List.length_take]; rfl)) ?_
     with_reducible refine (mG.calls _ _ (l0.drop (x3_1 : Int).toNat) 3 t541 _ ?side1 ?side2 A13.out (hj := ?side3)).mono ?_
     (case side3 => exact BKIs.out)
     (case side1 => repeat (first | exact (Kd.lh HR540.out HB.out) | (with_reducible refine Kd.jY ?_ _) | (with_reducible refine Kd.jX ?_ _) | (with_reducible refine Kd.lu ?_)))
     (case side2 => exact HC540.out)
     rintro e w16 ⟨rfl, hb⟩
     refine ⟨_, rfl, ?_⟩
     refine yA1 (aY (bT HB) hb) ?_
     clear HB
     intro HB
     (try clear hb)
     (try clear hb2)
     (try clear hk)
     (try clear hi)
     refine hK.out _ _ trivial (fun hHeld => ?_)
     clear hK K
     refine wU (a' := ?_) ?_ ?_
     rotate_left
     ·show Act.put _ (some 21) _ = _
      simp only [Act.put, List.setIfInBounds_toArray, List.set_cons_zero, List.set_cons_succ, gX, iP]
      rfl
     refine pA 5 2 (bQ 6 63) ?_
     refine vF (by kernel_rfl) ?_
     try go_wp2
     go_ret
     exact ⟨eT, bT HB⟩
    exact absurd H (by simp)
   exact absurd H (by simp)
end Go.Proofs.YtkbhkonenkgfoaaGreat.Q
end
section
namespace Go.Proofs.YtkbhkonenkgfoaaGreat.Q
open Go.RowKit Go.Proofs.YtkbhkonenkgfoaaGreatW.PrintWords Go.Proofs.YtkbhkonenkgfoaaGreatW.PrintLast Go.Proofs.YtkbhkonenkgfoaaGreatW.PrintMore
attribute [local go_sem] dJ dH dW dV dh df dI dG
set_option linter.unusedVariables false
set_option linter.unusedSimpArgs false
/-! ### fM: function 72 -/
def fM.f (l0 : List Int) : Option (Bool) := if (wrap64 ((l0.length : Int) - 1)) ≥ 0 then (if (wrap64 ((l0.length : Int) - 1)) ≤ 8 then (if 0 ≤ (wrap64 ((l0.length : Int) - 1)) then (if (wrap64 ((l0.length : Int) - 1)) < (l0.length : Int) then (if (rd l0 (wrap64 ((l0.length : Int) - 1))) = 5 then (if (wrap64 ((l0.length : Int) - 1)) ≤ (l0.length : Int) then ((mG.f (l0.take ((wrap64 ((l0.length : Int) - 1)) : Int).toNat) 4).bind fun t544 => (some t544)) else (none)) else (some false)) else (none)) else (none)) else (some false)) else (some false)
def fM.T2 : Bool × List (List Nat × List Nat) := (true, [([], []), ([0], [0]), ([1], [1]), ([2], [2]), ([3, 2], [2, 3]), ([2, 4], [2, 4]), ([5, 2], [5]), ([6], [6]), ([6], [6]), ([7, 8, 6], [6, 7, 8]), ([9, 6], [6, 9]), ([10, 6], [6, 10]), ([6, 11], [6, 11]), ([12, 6], [12]), ([13], [13]), ([13], [13]), ([14, 15, 13], [13, 14, 15]), ([13, 13], [13]), ([16, 17, 17, 13], [13, 16, 17]), ([13, 18], [13, 18]), ([19, 18, 0, 1, 2, 3, 4, 5, 6, 7, 8, 9, 10, 11, 12, 13, 14, 15, 16, 17, 18, 19], [19])])
def fM.B2 : List Nat := [0, 1, 3, 7, 15, 31, 63, 127, 127, 511, 1023, 2047, 4095, 8191, 16383, 16383, 65535, 16383, 262143, 524287, 1048575]
theorem fM.EX : oz .any (opsOf Tryz.f72 2) = fM.T2 := by kernel_rfl
theorem fM.Bo : pK fM.T2.2 fM.B2 = true := by kernel_rfl
set_option maxHeartbeats 8000000 in
set_option maxRecDepth 100000 in
theorem fM.calls (A0 : Option Addr) (c0 : Nat) (l0 : List Int) (r : Bool) (w : World) (hr0 : Kd.C (Kd.int .i64) w A0 l0.length l0) (hc0 : l0.length ≤ c0) (h : fM.f l0 = some r) :
 Calls Tryz.prog 72 #[.slice A0 l0.length c0] w fun e w' => e = .returned (.bool r) ∧ Below w.heap.size w w' := by
 have HR0 := ae.mk hr0
 have HC0 := ae.mk hc0
 clear hr0 hc0
 have HB := ae.mk (Below.refl w.heap.size w)
 have H := h
 clear h
 unfold fM.f at H
 revert H
 refine iC (fun c2 H => ?_) fun c2 H => ?_
 ·have c2b0 : decide (0 ≤ (wrap64 ((l0.length : Int) - 1))) = true := decide_eq_true c2
  clear c2
  revert H
  refine iQ (fun c3b0 H => ?_) fun c3b0 H => ?_
  ·obtain ⟨ji4, hji4⟩ : ∃ j_ : Int, (wrap64 ((l0.length : Int) - 1)) = j_ := ⟨_, rfl⟩
   replace H : (if 0 ≤ (ji4) then (if (ji4) < (l0.length : Int) then (if (rd l0 (ji4)) = 5 then (if (ji4) ≤ (l0.length : Int) then ((mG.f (l0.take ((ji4) : Int).toNat) 4).bind fun t544 => (some t544)) else (none)) else (some false)) else (none)) else (none)) = some r := by first | (rw [hji4] at H; exact H) | (simp only [hji4] at H ⊢; exact H)
   (try rw [hji4] at c2b0)
   (try rw [hji4] at c3b0)
   have hji4w : (IntKind.i64.wrap ((l0.length : Int) - 1)) = ji4 := (gX _).trans hji4
   revert H
   refine gJ (fun c5b0 H => ?_) fun c5 H => ?_
   ·revert H
    refine gJ (fun c6b0 H => ?_) fun c6 H => ?_
    ·revert H
     refine cZ (fun c7b0 c7b1 H => ?_) fun c7 c7b0 c7b1 H => ?_
     ·have c8b0 := eq_true (of_decide_eq_true aT : 0 ≤ (ji4))
      revert H
      refine jO (fun c9b0 c9b1 H => ?_) fun c9 H => ?_
      ·revert H
       refine yB1 fun t544 A10 H => ?_
       obtain rfl := Option.some.inj H
       go_enter Tryz.func72, Tryz.ntmps72
       try go_wp2
       refine yA1 (jc HB.out) ?_
       clear HB
       intro HB
       have p542 : 0 ≤ ((ji4) : Int) := of_decide_eq_true aT
       have q542 : (ji4) < (l0.length : Int) := of_decide_eq_true aT
       obtain ⟨ad542, e542, hx542_0⟩ := Kd.jv HR0.out (ji4) p542 q542
       have hw542_0 := hx542_0
       cases e542
       replace hx542_0 := (HB.out.cell (World.block_lt_of_cell? w _ hx542_0)).trans hx542_0
       replace p542 := eq_true p542
       replace q542 := eq_true q542
       obtain ⟨i012, hi012, _, hsz12, _⟩ := info_parts info3
       obtain ⟨hcut12, hA12, hC12⟩ := xW (P := Tryz.prog) (Value.int .i64) 0 60 3 .i64 Tryz.underlying60 hi012 hsz12 (some ad542) c0 l0 (ji4) (of_decide_eq_true aT) (of_decide_eq_true aT) HC0.out
       have HR543 := ae.mk (Kd.ql (h1 := fun _ => rfl) (hA12 _ (Kd.mV HR0.out)))
       have HC543 := ae.mk hC12
       clear hA12 hC12 hi012 hsz12
       refine qo (n := 21) (S := fun w' => w'.cell? (ad542.add ((ji4)).toNat) = some (.int .i64 (rd l0 (ji4)))) (ds := []) #[false, false, false, false, false, false, false, false, false, false, false, false, false, false, false, false, false, false, false, false, false] (by kernel_rfl) rfl rfl (((HB.out.cell (World.block_lt_of_cell? w _ hw542_0)).trans hw542_0)) (fun hHeld => ?_); refine nT fM.EX fM.Bo (fun HT_ HW_ => ?_)
       generalize w.drew = w11 at HB HR543 hx542_0 hHeld ⊢
       refine pA 0 7 (bQ 21 1) ?_
       refine pA 1 8 (bQ 21 3) ?_
       refine pA 2 9 (bQ 21 7) ?_
       refine pA 3 10 (bQ 21 15) ?_
       refine pA 4 11 (bQ 21 31) ?_
       refine pA 5 12 (bQ 21 63) ?_
       refine pA 6 13 (bQ 21 127) ?_
       refine pA 7 14 (bQ 21 255) ?_
       refine pA 8 15 (bQ 21 511) ?_
       refine pA 9 16 (bQ 21 1023) ?_
       refine zY (i := 10) (N := some 17) (v := ?_) (a' := ?_) #[true, true, true, true, true, true, true, true, true, true, true, false, false, false, false, false, false, false, false, false, false] rfl rfl (wC HT_.out HW_.out (by kernel_rfl)) (fun _ _ _ h => h) (Or.inl ⟨by rfl, ?_⟩) hHeld ?_ ?_
       rotate_left
       ·intro w' s0
        go_simp
        with_reducible rfl
       rotate_left
       ·simp only [Act.put, List.setIfInBounds_toArray, List.set_cons_zero, List.set_cons_succ, gX, iP]
        rfl
       refine pA 11 18 (bQ 21 4095) ?_
       refine pA 12 19 (bQ 21 8191) ?_
       refine pA 13 20 (bQ 21 16383) ?_
       refine pA 14 21 (bQ 21 32767) ?_
       refine pA 15 22 (bQ 21 65535) ?_
       refine pA 16 23 (bQ 21 131071) ?_
       refine BQ (i := 17) (N := some 24) (bQ 21 262143) rfl rfl (BP HT_.out (by kernel_rfl)) (by decide) (fun K hK => ?_)
       refine xq Tryz.func76 (by kernel_rfl) rfl #[.int .i64 4] (by rfl) rfl rfl Z17 ?_
       with_reducible refine (ui 4 _).mono ?_
       rintro e wIs ⟨gIs, rfl, hbk, hge, hb⟩
       refine ⟨_, rfl, ?_⟩
       have n0_ := ae.mk (aY (bT HB) hb)
       have BKIs := ae.mk hbk
       clear HB
       have HB := n0_
       clear n0_ hbk hge
       (try clear hb)
       refine hK.out _ _ (((HB.out.cell (World.block_lt_of_cell? w _ hw542_0)).trans hw542_0)) (fun hHeld => ?_)
       clear hK K
       refine wU (a' := ?_) ?_ ?_
       rotate_left
       ·show Act.put _ (some 24) _ = _
        simp only [Act.put, List.setIfInBounds_toArray, List.set_cons_zero, List.set_cons_succ, gX, iP]
        rfl
       refine BQ (i := 18) (N := some 25) (bQ 21 524287) rfl rfl (BP HT_.out (by kernel_rfl)) (by decide) (fun K hK => ?_)
       refine xq Tryz.func73 (by kernel_rfl) rfl #[.slice (some ad542) (l0.take ((ji4) : Int).toNat).length c0, .func (.func 93) #[] #[.pointer (some ⟨gIs, 0, none⟩)]] (by rfl) rfl rfl (by (try simp only [List.map_toArray, List.map_cons, List.map_nil]); first | done | (rw [show (l0.take ((ji4) : Int).toNat).length = (ji4).toNat from (by rw [List.length_take]; have h_ : ((ji4) : Int) ≤ (l0.length : Int) := of_decide_eq_true aT; omega)] <;> rfl) | (simp only [hji4]; rfl) | rfl | (simp only [List.length_drop, List.length_take]; rfl)) ?_
       with_reducible refine (mG.calls _ _ (l0.take ((ji4) : Int).toNat) 4 t544 _ ?side1 ?side2 A10.out (hj := ?side3)).mono ?_
       (case side3 => exact BKIs.out)
       (case side1 => repeat (first | exact (Kd.lh HR543.out HB.out) | (with_reducible refine Kd.jY ?_ _) | (with_reducible refine Kd.jX ?_ _) | (with_reducible refine Kd.lu ?_)))
       (case side2 => exact HC543.out)
       rintro e w13 ⟨rfl, hb⟩
       refine ⟨_, rfl, ?_⟩
       refine yA1 (aY (bT HB) hb) ?_
       clear HB
       intro HB
       (try clear hb)
       (try clear hb2)
       (try clear hk)
       (try clear hi)
       refine hK.out _ _ (((HB.out.cell (World.block_lt_of_cell? w _ hw542_0)).trans hw542_0)) (fun hHeld => ?_)
       clear hK K
       refine wU (a' := ?_) ?_ ?_
       rotate_left
       ·show Act.put _ (some 25) _ = _
        simp only [Act.put, List.setIfInBounds_toArray, List.set_cons_zero, List.set_cons_succ, gX, iP]
        rfl
       refine pA 19 26 (bQ 21 1048575) ?_
       refine pA 20 2 (bQ 21 2097151) ?_
       refine vF (rC HT_.out (by kernel_rfl)) ?_
       try go_wp2
       go_ret
       exact ⟨by first | rfl | (simp [jm, jl] <;> rfl) | (simp only [← hji4]; first | rfl | (simp [jm, jl] <;> rfl)) | (simp [*, jm, jl] <;> rfl), bT HB⟩
      exact absurd H (by simp)
     obtain rfl := Option.some.inj H
     go_enter Tryz.func72, Tryz.ntmps72
     try go_wp2
     refine yA1 (jc HB.out) ?_
     clear HB
     intro HB
     have p542 : 0 ≤ ((ji4) : Int) := of_decide_eq_true aT
     have q542 : (ji4) < (l0.length : Int) := of_decide_eq_true aT
     obtain ⟨ad542, e542, hx542_0⟩ := Kd.jv HR0.out (ji4) p542 q542
     have hw542_0 := hx542_0
     cases e542
     replace hx542_0 := (HB.out.cell (World.block_lt_of_cell? w _ hx542_0)).trans hx542_0
     replace p542 := eq_true p542
     replace q542 := eq_true q542
     refine qo (n := 21) (S := fun w' => w'.cell? (ad542.add ((ji4)).toNat) = some (.int .i64 (rd l0 (ji4)))) (ds := []) #[false, false, false, false, false, false, false, false, false, false, false, false, false, false, false, false, false, false, false, false, false] (by kernel_rfl) rfl rfl (((HB.out.cell (World.block_lt_of_cell? w _ hw542_0)).trans hw542_0)) (fun hHeld => ?_); refine nT fM.EX fM.Bo (fun HT_ HW_ => ?_)
     generalize w.drew = w14 at HB hx542_0 hHeld ⊢
     refine pA 0 7 (bQ 21 1) ?_
     refine pA 1 8 (bQ 21 3) ?_
     refine pA 2 9 (bQ 21 7) ?_
     refine pA 3 10 (bQ 21 15) ?_
     refine pA 4 11 (bQ 21 31) ?_
     refine pA 5 12 (bQ 21 63) ?_
     refine pA 6 13 (bQ 21 127) ?_
     refine pA 7 14 (bQ 21 255) ?_
     refine pA 8 15 (bQ 21 511) ?_
     refine pA 9 16 (bQ 21 1023) ?_
     refine zY (i := 10) (N := some 17) (v := ?_) (a' := ?_) #[true, true, true, true, true, true, true, true, true, true, true, false, false, false, false, false, false, false, false, false, false] rfl rfl (wC HT_.out HW_.out (by kernel_rfl)) (fun _ _ _ h => h) (Or.inl ⟨by rfl, ?_⟩) hHeld ?_ ?_
     rotate_left
     ·intro w' s0
      go_simp
      with_reducible rfl
     rotate_left
     ·simp only [Act.put, List.setIfInBounds_toArray, List.set_cons_zero, List.set_cons_succ, gX, iP]
      rfl
     refine pA 11 18 (bQ 21 4095) ?_
     refine pA 12 19 (bQ 21 8191) ?_
     refine pA 13 20 (bQ 21 16383) ?_
     refine pU 14 21 (bQ 21 32767) ?_
     refine pU 15 22 (bQ 21 65535) ?_
     refine pU 16 23 (bQ 21 131071) ?_
     refine pU 17 24 (bQ 21 262143) ?_
     refine pU 18 25 (bQ 21 524287) ?_
     refine pA 19 26 (bQ 21 1048575) ?_
     refine pA 20 2 (bQ 21 2097151) ?_
     refine vF (rC HT_.out (by kernel_rfl)) ?_
     try go_wp2
     go_ret
     exact ⟨by first | rfl | (simp [jm, jl] <;> rfl) | (simp only [← hji4]; first | rfl | (simp [jm, jl] <;> rfl)) | (simp [*, jm, jl] <;> rfl), bT HB⟩
    exact absurd H (by simp)
   exact absurd H (by simp)
  obtain rfl := Option.some.inj H
  go_enter Tryz.func72, Tryz.ntmps72
  try go_wp2
  refine yA1 (jc HB.out) ?_
  clear HB
  intro HB
  refine qo (n := 21) (S := fun w' => True) (ds := []) #[false, false, false, false, false, false, false, false, false, false, false, false, false, false, false, false, false, false, false, false, false] (by kernel_rfl) rfl rfl trivial (fun hHeld => ?_); refine nT fM.EX fM.Bo (fun HT_ HW_ => ?_)
  generalize w.drew = w15 at HB hHeld ⊢
  refine pA 0 7 (bQ 21 1) ?_
  refine pA 1 8 (bQ 21 3) ?_
  refine pA 2 9 (bQ 21 7) ?_
  refine pA 3 10 (bQ 21 15) ?_
  refine pA 4 11 (bQ 21 31) ?_
  refine pA 5 12 (bQ 21 63) ?_
  refine pA 6 13 (bQ 21 127) ?_
  refine pU 7 14 (bQ 21 255) ?_
  refine pU 8 15 (bQ 21 511) ?_
  refine pU 9 16 (bQ 21 1023) ?_
  refine pU 10 17 (bQ 21 2047) ?_
  refine pU 11 18 (bQ 21 4095) ?_
  refine pA 12 19 (bQ 21 8191) ?_
  refine pA 13 20 (bQ 21 16383) ?_
  refine pU 14 21 (bQ 21 32767) ?_
  refine pU 15 22 (bQ 21 65535) ?_
  refine pU 16 23 (bQ 21 131071) ?_
  refine pU 17 24 (bQ 21 262143) ?_
  refine pU 18 25 (bQ 21 524287) ?_
  refine pA 19 26 (bQ 21 1048575) ?_
  refine pA 20 2 (bQ 21 2097151) ?_
  refine vF (rC HT_.out (by kernel_rfl)) ?_
  try go_wp2
  go_ret
  exact ⟨eT, bT HB⟩
 have c2b0 : decide (0 ≤ (wrap64 ((l0.length : Int) - 1))) = false := decide_eq_false c2
 clear c2
 obtain rfl := Option.some.inj H
 go_enter Tryz.func72, Tryz.ntmps72
 try go_wp2
 refine yA1 (jc HB.out) ?_
 clear HB
 intro HB
 refine qo (n := 21) (S := fun w' => True) (ds := []) #[false, false, false, false, false, false, false, false, false, false, false, false, false, false, false, false, false, false, false, false, false] (by kernel_rfl) rfl rfl trivial (fun hHeld => ?_); refine nT fM.EX fM.Bo (fun HT_ HW_ => ?_)
 generalize w.drew = w16 at HB hHeld ⊢
 refine pA 0 7 (bQ 21 1) ?_
 refine pA 1 8 (bQ 21 3) ?_
 refine pA 2 9 (bQ 21 7) ?_
 refine pU 3 10 (bQ 21 15) ?_
 refine pU 4 11 (bQ 21 31) ?_
 refine pA 5 12 (bQ 21 63) ?_
 refine pA 6 13 (bQ 21 127) ?_
 refine pU 7 14 (bQ 21 255) ?_
 refine pU 8 15 (bQ 21 511) ?_
 refine pU 9 16 (bQ 21 1023) ?_
 refine pU 10 17 (bQ 21 2047) ?_
 refine pU 11 18 (bQ 21 4095) ?_
 refine pA 12 19 (bQ 21 8191) ?_
 refine pA 13 20 (bQ 21 16383) ?_
 refine pU 14 21 (bQ 21 32767) ?_
 refine pU 15 22 (bQ 21 65535) ?_
 refine pU 16 23 (bQ 21 131071) ?_
 refine pU 17 24 (bQ 21 262143) ?_
 refine pU 18 25 (bQ 21 524287) ?_
 refine pA 19 26 (bQ 21 1048575) ?_
 refine pA 20 2 (bQ 21 2097151) ?_
 refine vF (rC HT_.out (by kernel_rfl)) ?_
 try go_wp2
 go_ret
 exact ⟨eT, bT HB⟩
end Go.Proofs.YtkbhkonenkgfoaaGreat.Q
end
section
namespace Go.Proofs.YtkbhkonenkgfoaaGreat.Q
open Go.RowKit Go.Proofs.YtkbhkonenkgfoaaGreatW.PrintWords Go.Proofs.YtkbhkonenkgfoaaGreatW.PrintLast Go.Proofs.YtkbhkonenkgfoaaGreatW.PrintMore
attribute [local go_sem] dJ dH dW dV dh df dI dG
set_option linter.unusedVariables false
set_option linter.unusedSimpArgs false
/-! ### tree_Stmt: function 74 -/
/-! ### kE: function 75 -/
def kE.f (a0 : Int) : Option (Bool) := if a0 ≥ 18 then (some (decide (a0 ≤ 30))) else (some false)
set_option maxHeartbeats 8000000 in
set_option maxRecDepth 100000 in
theorem kE.calls (a0 : Int) (r : Bool) (w : World) (h : kE.f a0 = some r) :
 Calls Tryz.prog 75 #[.int .i64 a0] w fun e w' => e = .returned (.bool r) ∧ eF w w' := by
 have H := h
 clear h
 unfold kE.f at H
 revert H
 refine iC (fun c2 H => ?_) fun c2 H => ?_
 ·have c2b0 : decide (18 ≤ a0) = true := decide_eq_true c2
  clear c2
  obtain rfl := Option.some.inj H
  go_enter Tryz.func75, Tryz.ntmps75
  go_wp2
  go_ret
  exact ⟨fT, Z0⟩
 have c2b0 : decide (18 ≤ a0) = false := decide_eq_false c2
 clear c2
 obtain rfl := Option.some.inj H
 go_enter Tryz.func75, Tryz.ntmps75
 go_wp2
 go_ret
 exact ⟨fT, Z0⟩
/-! ### jr: function 77 -/
def jr.f (l0 : List Int) (a1 : Int) (a2 : Int) : Option (Bool) := if (l0.length : Int) ≥ a1 then (if (l0.length : Int) ≤ a2 then ((qI.f l0).bind fun t545 => (some t545)) else (some false)) else (some false)
set_option maxHeartbeats 8000000 in
set_option maxRecDepth 100000 in
theorem jr.calls (A0 : Option Addr) (c0 : Nat) (l0 : List Int) (a1 : Int) (a2 : Int) (r : Bool) (w : World) (hr0 : Kd.C (Kd.int .i64) w A0 l0.length l0) (hc0 : l0.length ≤ c0) (h : jr.f l0 a1 a2 = some r) :
 Calls Tryz.prog 77 #[.slice A0 l0.length c0, .int .i64 a1, .int .i64 a2] w fun e w' => e = .returned (.bool r) ∧ eF w w' := by
 have HR0 := ae.mk hr0
 have HC0 := ae.mk hc0
 clear hr0 hc0
 have H := h
 clear h
 unfold jr.f at H
 revert H
 refine iC (fun c4 H => ?_) fun c4 H => ?_
 ·have c4b0 : decide (a1 ≤ (l0.length : Int)) = true := decide_eq_true c4
  clear c4
  revert H
  refine iQ (fun c5b0 H => ?_) fun c5b0 H => ?_
  ·revert H
   refine yB1 fun t545 A6 H => ?_
   obtain rfl := Option.some.inj H
   go_enter Tryz.func77, Tryz.ntmps77
   go_wp2_with (first | (go_at_call 73; (with_reducible refine (qI.calls _ _ l0 t545 _ ?side1 ?side2 A6.out).mono ?_); (case side1 => exact Z8); (case side2 => exact HC0.out); rintro e w' ⟨rfl, ⟨nd, rfl⟩⟩))
   go_ret
   exact ⟨fT, Z0⟩
  obtain rfl := Option.some.inj H
  go_enter Tryz.func77, Tryz.ntmps77
  go_wp2
  go_ret
  exact ⟨fT, Z0⟩
 have c4b0 : decide (a1 ≤ (l0.length : Int)) = false := decide_eq_false c4
 clear c4
 obtain rfl := Option.some.inj H
 go_enter Tryz.func77, Tryz.ntmps77
 go_wp2
 go_ret
 exact ⟨fT, Z0⟩
end Go.Proofs.YtkbhkonenkgfoaaGreat.Q
end
section
namespace Go.Proofs.YtkbhkonenkgfoaaGreat.Q
open Go.RowKit Go.Proofs.YtkbhkonenkgfoaaGreatW.PrintWords Go.Proofs.YtkbhkonenkgfoaaGreatW.PrintLast Go.Proofs.YtkbhkonenkgfoaaGreatW.PrintMore
attribute [local go_sem] dJ dH dW dV dh df dI dG
set_option linter.unusedVariables false
set_option linter.unusedSimpArgs false
/-! ### dw: function 33 -/
mutual
def dw.j0 : Nat → Int → List Int → Int → Int → Bool → Option (Bool)
 | 0, _, _, _, _, _ => none
 | k + 1, x0, x1, x5, x9, x14 => if x14 = true then ((fM.f x1).bind fun t547 => (some t547)) else (if x9 = 5 then ((ut.f x1).bind fun t548 => (some t548)) else (if x9 = 9 then (dw.j1 k x0 x1 x5 x9 (x9 == 9)) else (dw.j1 k x0 x1 x5 x9 (x9 == 10))))
def dw.j1 : Nat → Int → List Int → Int → Int → Bool → Option (Bool)
 | 0, _, _, _, _, _ => none
 | k + 1, x0, x1, x5, x9, x23 => if x23 = true then (if x0 = 9 then (if x5 ≥ 2 then (if x5 ≤ 3 then (if 0 < (x1.length : Int) then ((kE.f (rd x1 0)).bind fun t550 => (if t550 = true then (if 1 ≤ (x1.length : Int) then ((mG.f (x1.drop 1) 5).bind fun t552 => (some t552)) else (none)) else (some false))) else (none)) else (some false)) else (some false)) else (if x5 ≥ 2 then (if x5 ≤ 2 then (if 0 < (x1.length : Int) then ((kE.f (rd x1 0)).bind fun t554 => (if t554 = true then (if 1 ≤ (x1.length : Int) then ((mG.f (x1.drop 1) 5).bind fun t556 => (some t556)) else (none)) else (some false))) else (none)) else (some false)) else (some false))) else (if x9 = 8 then ((jr.f x1 3 3).bind fun t557 => (some t557)) else (if x9 = 6 then (dw.j2 k x1 x5 x9 (x9 == 6)) else (if x9 = 7 then (dw.j2 k x1 x5 x9 (x9 == 7)) else (if x9 = 13 then (dw.j2 k x1 x5 x9 (x9 == 13)) else (if x9 = 14 then (dw.j2 k x1 x5 x9 (x9 == 14)) else (if x9 = 15 then (dw.j2 k x1 x5 x9 (x9 == 15)) else (if x9 = 17 then (dw.j2 k x1 x5 x9 (x9 == 17)) else (if x9 = 28 then (dw.j2 k x1 x5 x9 (x9 == 28)) else (dw.j2 k x1 x5 x9 (x9 == 30))))))))))
def dw.j2 : Nat → List Int → Int → Int → Bool → Option (Bool)
 | 0, _, _, _, _ => none
 | k + 1, x1, x5, x9, x51 => if x51 = true then ((jr.f x1 1 1).bind fun t558 => (some t558)) else (if x9 = 22 then ((jr.f x1 1 9).bind fun t559 => (some t559)) else (if x9 = 23 then ((jr.f x1 0 8).bind fun t560 => (some t560)) else (if x9 = 26 then ((jr.f x1 2 2).bind fun t561 => (some t561)) else (if x9 = 27 then ((jr.f x1 2 2).bind fun t562 => (some t562)) else (some (x5 == 0))))))
end
def dw.f (k : Nat) (a0 : Int) (l1 : List Int) : Option (Bool) := if a0 = 1 then ((fA.f k l1).bind fun t546 => (some t546)) else (if a0 = 3 then (dw.j0 k a0 l1 (l1.length : Int) a0 (a0 == 3)) else (dw.j0 k a0 l1 (l1.length : Int) a0 (a0 == 24)))
theorem dw.bP : ∀ k, (∀ y0 y1 y2 y3 y4, LeO (dw.j0 k y0 y1 y2 y3 y4) (dw.j0 (k + 1) y0 y1 y2 y3 y4)) ∧ (∀ y0 y1 y2 y3 y4, LeO (dw.j1 k y0 y1 y2 y3 y4) (dw.j1 (k + 1) y0 y1 y2 y3 y4)) ∧ (∀ y0 y1 y2 y3, LeO (dw.j2 k y0 y1 y2 y3) (dw.j2 (k + 1) y0 y1 y2 y3))
 | 0 => ⟨fun _ _ _ _ _ r h => by simp [dw.j0] at h, fun _ _ _ _ _ r h => by simp [dw.j1] at h, fun _ _ _ _ r h => by simp [dw.j2] at h⟩
 | k + 1 => by
  obtain ⟨ih0, ih1, ih2⟩ := dw.bP k
  refine ⟨?_, ?_, ?_⟩
  ·intro y0 y1 y2 y3 y4
   unfold dw.j0
   have m0 := fA.mono
   exact yL
  ·intro y0 y1 y2 y3 y4
   unfold dw.j1
   have m0 := fA.mono
   exact yL
  intro y0 y1 y2 y3
  unfold dw.j2
  have m0 := fA.mono
  exact yL
theorem dw.mono : ∀ a0 a1 k, LeO (dw.f k a0 a1) (dw.f (k + 1) a0 a1) := by
 intro a0 a1 k
 obtain ⟨ih0, ih1, ih2⟩ := dw.bP k
 unfold dw.f
 have m0 := fA.mono
 exact yL
def dw.T15 : Bool × List (List Nat × List Nat) := (true, [([], []), ([0], [0]), ([1], [1]), ([2], [2]), ([2], [2]), ([3, 4, 2], [2, 3, 4]), ([2, 5], [2, 5]), ([6, 2], [6]), ([7], [7]), ([8, 7], [7, 8]), ([9, 7], [7, 9]), ([10, 7, 7], [7, 10]), ([7, 11], [7, 11]), ([12, 11], [12]), ([13], [13]), ([14, 13], [13, 14]), ([13, 13], [13]), ([15, 16, 16, 13], [13, 15, 16]), ([13, 17], [13, 17]), ([18, 17, 0, 1, 2, 3, 4, 5, 6, 7, 8, 9, 10, 11, 12, 13, 14, 15, 16, 17, 18], [18])])
def dw.B15 : List Nat := [0, 1, 3, 7, 7, 31, 63, 127, 255, 511, 1023, 2047, 4095, 8191, 16383, 32767, 16383, 131071, 262143, 524287]
theorem dw.Jy : oz .any (opsOf Tryz.f33 15) = dw.T15 := by kernel_rfl
theorem dw.GM : pK dw.T15.2 dw.B15 = true := by kernel_rfl
end Go.Proofs.YtkbhkonenkgfoaaGreat.Q
end
section
set_option linter.unusedVariables false
set_option linter.unusedSimpArgs false
namespace Go.Proofs.YtkbhkonenkgfoaaGreat.Q
open Go Go.RowKit Go.Proofs.YtkbhkonenkgfoaaGreatW.PrintWords Go.Proofs.YtkbhkonenkgfoaaGreatW.PrintLast Go.Proofs.YtkbhkonenkgfoaaGreatW.PrintMore
attribute [local go_sem] dJ dH dW dV dh df dI dG
set_option maxHeartbeats 8000000 in
set_option maxRecDepth 100000 in
theorem dw.calls (k : Nat) (a0 : Int) (A1 : Option Addr) (c1 : Nat) (l1 : List Int) (r : Bool) (w : World) (hr1 : Kd.C (Kd.int .i64) w A1 l1.length l1) (hc1 : l1.length ≤ c1) (h : dw.f k a0 l1 = some r) :
 Calls Tryz.prog 33 #[.int .i64 a0, .slice A1 l1.length c1] w fun e w' => e = .returned (.bool r) ∧ Below w.heap.size w w' := by
 have HR := ae.mk hr1
 have HC := ae.mk hc1
 unfold dw.f at h
 have HS := PS.new w
 have H := ae.mk h
 clear h hr1 hc1
 (repeat' (first | (with_reducible exact absurd H.out (Option.some_ne_none _).symm) | (first | replace H := qB1 H (by assumption) | replace H := qB0 H (by assumption) | replace H := qE1 H (by assumption) | replace H := qE0 H (by assumption) | replace H := qD1 H (by assumption) | replace H := qD0 H (by assumption)) | (refine qB H ?_ ?_ <;> clear H <;> intro cb_ H <;> (try subst cb_)) | (refine qE H ?_ ?_ <;> clear H <;> intro cb_ cn_ H) | (refine qD H ?_ ?_ <;> clear H <;> intro cp_ cb_ H <;> (try simp only [ge_iff_le, gt_iff_lt] at cp_ cb_)) | (rcases k with _ | k; (simp only [dw.j0] at H; first | exact H.out.elim | exact absurd H.out (Option.some_ne_none _).symm); simp only [dw.j0] at H) | (rcases k with _ | k; (simp only [dw.j1] at H; first | exact H.out.elim | exact absurd H.out (Option.some_ne_none _).symm); simp only [dw.j1] at H) | (rcases k with _ | k; (simp only [dw.j2] at H; first | exact H.out.elim | exact absurd H.out (Option.some_ne_none _).symm); simp only [dw.j2] at H)))
 all_goals
  (try (have e_ := at0 HR (by assumption); obtain ⟨ad, rfl, hx, q0⟩ := e_))
  go_enter Tryz.func33, Tryz.ntmps33
  go_wp2_with (first | ((with_reducible refine gC 71 rfl ?_); refine pV .bool 71 rfl Tryz.func71 (stP HS) H (fun t h => fA.calls _ _ _ _ t _ (cT HR) HC.out h) ?_; clear HS H; intro t w' HS H; (try dsimp only at H)) | ((with_reducible refine gC 72 rfl ?_); refine pV .bool 72 rfl Tryz.func72 (stP HS) H (fun t h => fM.calls _ _ _ t _ (cT HR) HC.out h) ?_; clear HS H; intro t w' HS H; (try dsimp only at H)) | ((with_reducible refine gC 73 rfl ?_); refine pV .bool 73 rfl Tryz.func73 (stP HS) H (fun t h => ofD (ut.calls _ _ _ t _ (cT HR) HC.out h)) ?_; clear HS H; intro t w' HS H; (try dsimp only at H)) | ((with_reducible refine gC 77 rfl ?_); refine pV .bool 77 rfl Tryz.func77 (stP HS) H (fun t h => ofD (jr.calls _ _ _ _ _ t _ (cT HR) HC.out h)) ?_; clear HS H; intro t w' HS H; (try dsimp only at H)))
 all_goals first
  | (obtain rfl := Option.some.inj H.out; go_ret; exact ⟨Z19, (stP HS).below⟩)
  | ((try simp only [Act.put, List.setIfInBounds_toArray, List.set_cons_zero, List.set_cons_succ]); obtain rfl := Option.some.inj H.out; refine qo (n := 20) (S := fun w' => True) (ds := []) #[false, false, false, false, false, false, false, false, false, false, false, false, false, false, false, false, false, false, false, false] (by kernel_rfl) rfl rfl trivial (fun hHeld => ?_); refine nT dw.Jy dw.GM (fun HT_ HW_ => ?_); (first | refine pA 0 28 (bQ 20 1) ?_ | refine pU 0 28 (bQ 20 1) ?_); (first | refine pA 1 29 (bQ 20 3) ?_ | refine pU 1 29 (bQ 20 3) ?_); (first | refine pA 2 30 (bQ 20 7) ?_ | refine pU 2 30 (bQ 20 7) ?_); (first | refine pA 3 31 (bQ 20 15) ?_ | refine pU 3 31 (bQ 20 15) ?_); (first | refine pA 4 32 (bQ 20 31) ?_ | refine pU 4 32 (bQ 20 31) ?_); (first | refine pA 5 33 (bQ 20 63) ?_ | refine pU 5 33 (bQ 20 63) ?_); (first | refine pA 6 34 (bQ 20 127) ?_ | refine pU 6 34 (bQ 20 127) ?_); (first | refine pA 7 35 (bQ 20 255) ?_ | refine pU 7 35 (bQ 20 255) ?_); (first | refine pA 8 36 (bQ 20 511) ?_ | refine pU 8 36 (bQ 20 511) ?_); (first | refine pA 9 37 (bQ 20 1023) ?_ | refine pU 9 37 (bQ 20 1023) ?_); (first | refine pA 10 38 (bQ 20 2047) ?_ | refine pU 10 38 (bQ 20 2047) ?_); (first | refine pA 11 39 (bQ 20 4095) ?_ | refine pU 11 39 (bQ 20 4095) ?_); (first | refine pA 12 40 (bQ 20 8191) ?_ | refine pU 12 40 (bQ 20 8191) ?_); (first | refine pA 13 41 (bQ 20 16383) ?_ | refine pU 13 41 (bQ 20 16383) ?_); (first | refine pA 14 42 (bQ 20 32767) ?_ | refine pU 14 42 (bQ 20 32767) ?_); (first | refine pA 15 43 (bQ 20 65535) ?_ | refine pU 15 43 (bQ 20 65535) ?_); (first | refine pA 16 44 (bQ 20 131071) ?_ | refine pU 16 44 (bQ 20 131071) ?_); (first | refine pA 17 45 (bQ 20 262143) ?_ | refine pU 17 45 (bQ 20 262143) ?_); (first | refine pA 18 46 (bQ 20 524287) ?_ | refine pU 18 46 (bQ 20 524287) ?_); (first | refine pA 19 4 (bQ 20 1048575) ?_ | refine pU 19 4 (bQ 20 1048575) ?_); refine vF (rC HT_.out (by kernel_rfl)) ?_; try go_wp2; go_ret; exact ⟨rfl, (stP HS).below⟩)
  | skip
 all_goals
  obtain ⟨t, ht, h⟩ := Option.bind_eq_some_iff.mp H.out
  replace H := ae.mk h
  (try simp only [Act.put, List.setIfInBounds_toArray, List.set_cons_zero, List.set_cons_succ])
  cases t
 all_goals first
  | (obtain rfl := Option.some.inj H.out; refine qo (n := 20) (S := (fun w' => w'.cell? ad = some (.int .i64 (rd l1 0)))) (ds := []) #[false, false, false, false, false, false, false, false, false, false, false, false, false, false, false, false, false, false, false, false] (by kernel_rfl) rfl rfl hx (fun hHeld => ?_); refine nT dw.Jy dw.GM (fun HT_ HW_ => ?_); refine pA 0 28 (bQ 20 1) ?_; refine pA 1 29 (bQ 20 3) ?_; refine pA 2 30 (bQ 20 7) ?_; refine pA 3 31 (bQ 20 15) ?_; refine pA 4 32 (bQ 20 31) ?_; refine pA 5 33 (bQ 20 63) ?_; refine pA 6 34 (bQ 20 127) ?_; refine pA 7 35 (bQ 20 255) ?_; refine pA 8 36 (bQ 20 511) ?_; refine pA 9 37 (bQ 20 1023) ?_; refine zY (i := 10) (N := some 38) (v := ?_) (a' := ?_) #[true, true, true, true, true, true, true, true, true, true, true, false, false, false, false, false, false, false, false, false] rfl rfl (wC HT_.out HW_.out (by kernel_rfl)) (fun _ _ _ h => h) (Or.inl ⟨by rfl, ?_⟩) hHeld ?_ ?_; rotate_left; (intro w' s0; go_simp; with_reducible rfl); rotate_left; (simp only [Act.put, List.setIfInBounds_toArray, List.set_cons_zero, List.set_cons_succ, gX, iP]; rfl); refine BQ (i := 11) (N := some 39) (bQ 20 4095) rfl rfl (BP HT_.out (by kernel_rfl)) (by decide) (fun K hK => ?_); refine xq Tryz.func75 (by kernel_rfl) rfl #[.int .i64 (rd l1 0)] (by rfl) rfl rfl Z17 ?_; refine (kE.calls _ false _ ht).mono ?_; rintro e w' ⟨rfl, ⟨nd, rfl⟩⟩; refine ⟨_, rfl, ?_⟩; refine hK.out _ _ hx (fun hHeld => ?_); clear hK K; refine wU (a' := ?_) ?_ ?_; rotate_left; (show Act.put _ (some 39) _ = _; simp only [Act.put, List.setIfInBounds_toArray, List.set_cons_zero, List.set_cons_succ, gX, iP]; rfl); refine pA 12 40 (bQ 20 8191) ?_; refine pA 13 41 (bQ 20 16383) ?_; refine pU 14 42 (bQ 20 32767) ?_; refine pU 15 43 (bQ 20 65535) ?_; refine pU 16 44 (bQ 20 131071) ?_; refine pU 17 45 (bQ 20 262143) ?_; refine pA 18 46 (bQ 20 524287) ?_; refine pA 19 4 (bQ 20 1048575) ?_; refine vF (rC HT_.out (by kernel_rfl)) ?_; try go_wp2; go_ret; exact ⟨rfl, (stP HS).below⟩)
  | skip
 all_goals
  have h1 : (1 : Int) ≤ (l1.length : Int) := by have := of_eq_true q0; omega
  replace H := qD1 (qB1 H rfl) (eq_true h1)
  obtain ⟨t2, ht2, h⟩ := Option.bind_eq_some_iff.mp H.out
  obtain rfl := Option.some.inj h
  obtain ⟨i0, hi0, _, hsz, _⟩ := info_parts info3
  obtain ⟨A2, hcut, hA2, hC2⟩ := oW (P := Tryz.prog) (Value.int .i64) 0 60 3 .i64 Tryz.underlying60 hi0 hsz (some ad) c1 l1 1 (by omega) h1 HC.out
  have HR2 := ae.mk (Kd.ql (h1 := fun _ => rfl) (hA2 _ (Kd.mV HR.out)))
  clear hA2 hi0 hsz h H
  go_region_held3 (fun w' => w'.cell? ad = some (.int .i64 (rd l1 0))) (first | exact hx | go_keep) (first | (go_at_call 75; refine (kE.calls _ true _ ht).mono ?_; rintro e w' ⟨rfl, ⟨nd, rfl⟩⟩) | (go_at_call 76; refine (ui 5 _).mono ?_; rintro e w' ⟨gI, rfl, hbk, hge, hb⟩; have hx1 := (hb.cell (World.block_lt_of_cell? _ _ hx)).trans hx; have HS1 := PS.Jz hb (stP HS); clear hx HS hge hb; have hx := hx1; have HS := HS1; clear hx1 HS1) | (go_at_call 73; (try rw [show l1.length - 1 = (l1.drop 1).length from List.length_drop.symm]); refine (mG.calls _ _ (l1.drop 1) 5 t2 _ (Kd.lh HR2.out HS.below) hC2 ht2 (hj := hbk)).mono ?_; rintro e w' ⟨rfl, hb⟩; have hx1 := (hb.cell (World.block_lt_of_cell? _ _ hx)).trans hx; have HS1 := PS.Jz hb (stP HS); clear hx HS hb; have hx := hx1; have HS := HS1; clear hx1 HS1))
  go_wp2; go_ret; exact ⟨rfl, (stP HS).below⟩
end Go.Proofs.YtkbhkonenkgfoaaGreat.Q
end
section
namespace Go.Proofs.YtkbhkonenkgfoaaGreat.Q
open Go.RowKit Go.Proofs.YtkbhkonenkgfoaaGreatW.PrintWords Go.Proofs.YtkbhkonenkgfoaaGreatW.PrintLast Go.Proofs.YtkbhkonenkgfoaaGreatW.PrintMore
attribute [local go_sem] dJ dH dW dV dh df dI dG
set_option linter.unusedVariables false
set_option linter.unusedSimpArgs false
/-! ### dM: function 30 -/
mutual
def dM.l0 : Nat → List (S29) → Int → List Int → List (S29) → Int → Int → Option (Int)
 | 0, _, _, _, _, _, _ => none
 | k + 1, x0, x3, x4, x8, x9, x10 => if x10 < x9 then (if 0 ≤ x10 then (if x10 < (x8.length : Int) then ((dX.f k x0 x10).bind fun t517 => (if t517 < 0 then (some (-1)) else (if x4.length < 17592186044416 then ((some (x4 ++ [(ax x8 x10).f1] : List Int)).bind fun y518 => (dM.l1 k x0 (mx x3 (y518.length : Int)) y518 x8 x9 x10)) else (none)))) else (none)) else (none)) else (some x3)
def dM.l1 : Nat → List (S29) → Int → List Int → List (S29) → Int → Int → Option (Int)
 | 0, _, _, _, _, _, _ => none
 | k + 1, x0, x3, x4, x8, x9, x10 => if 0 ≤ (wrap64 ((x4.length : Int) - 1)) then (if (wrap64 ((x4.length : Int) - 1)) < (x4.length : Int) then (if (rd x4 (wrap64 ((x4.length : Int) - 1))) > 0 then (dM.l0 k x0 x3 (x4.set ((wrap64 ((x4.length : Int) - 1)) : Int).toNat (wrap64 ((rd x4 (wrap64 ((x4.length : Int) - 1))) - 1))) x8 x9 (wrap64 (x10 + 1))) else (if (wrap64 ((x4.length : Int) - 1)) ≤ (x4.length : Int) then ((some (x4.take ((wrap64 ((x4.length : Int) - 1)) : Int).toNat : List Int)).bind fun y524 => (if (wrap64 ((x4.length : Int) - 1)) = 0 then (dM.l0 k x0 x3 y524 x8 x9 (wrap64 (x10 + 1))) else (dM.l1 k x0 x3 y524 x8 x9 x10))) else (none))) else (none)) else (none)
end
def dM.f (k : Nat) (l0 : List (S29)) : Option (Int) := dM.l0 k l0 0 ([] : List Int) l0 (l0.length : Int) 0
theorem dM.bP : ∀ k, (∀ y0 y1 y2 y3 y4 y5, LeO (dM.l0 k y0 y1 y2 y3 y4 y5) (dM.l0 (k + 1) y0 y1 y2 y3 y4 y5)) ∧ (∀ y0 y1 y2 y3 y4 y5, LeO (dM.l1 k y0 y1 y2 y3 y4 y5) (dM.l1 (k + 1) y0 y1 y2 y3 y4 y5))
 | 0 => ⟨fun _ _ _ _ _ _ r h => by simp [dM.l0] at h, fun _ _ _ _ _ _ r h => by simp [dM.l1] at h⟩
 | k + 1 => by
  obtain ⟨ih0, ih1⟩ := dM.bP k
  refine ⟨?_, ?_⟩
  ·intro y0 y1 y2 y3 y4 y5
   unfold dM.l0
   have m0 := dX.mono
   exact yL
  intro y0 y1 y2 y3 y4 y5
  unfold dM.l1
  have m0 := dX.mono
  exact yL
theorem dM.mono : ∀ a0 k, LeO (dM.f k a0) (dM.f (k + 1) a0) := by
 intro a0 k
 obtain ⟨ih0, ih1⟩ := dM.bP k
 unfold dM.f
 have m0 := dX.mono
 exact yL
set_option maxHeartbeats 8000000 in
set_option maxRecDepth 100000 in
theorem dM.calls (k : Nat) (A0 : Option Addr) (c0 : Nat) (l0 : List (S29)) (r : Int) (w : World) (hr0 : Kd.C k29 w A0 l0.length l0) (hc0 : l0.length ≤ c0) (h : dM.f k l0 = some r) :
 Calls Tryz.prog 30 #[.slice A0 l0.length c0] w fun e w' => e = .returned (.int .i64 r) ∧ Below w.heap.size w w' := by
 have hu29 := Tryz.underlying29
 have HR0 := ae.mk hr0
 have HC0 := ae.mk hc0
 clear hr0 hc0
 have HB := ae.mk (Below.refl w.heap.size w)
 have H := h
 clear h
 unfold dM.f at H
 have H' := ae.mk H
 clear H
 go_enter Tryz.func30, Tryz.ntmps30
 go_wp2
 go_step3
 go_wp2
 go_step3
 go_wp2
 go_loopg [3, 4, 10] k (fun kq v3 v4 v10 w' => ∃ (x3_1 : Int) (x4_1 : List Int) (x10_1 : Int), v3 = .int .i64 x3_1 ∧ v10 = .int .i64 x10_1 ∧ ae (dM.l0 kq l0 x3_1 x4_1 l0 (l0.length : Int) x10_1 = some r) ∧ ae (kq ≤ k) ∧ ae (Kd.R (Kd.int .i64) 3 w' w.heap.size (fun _ => True) v4 x4_1) ∧ ae (Below w.heap.size w w'))
 case atStart => exact ⟨(0), (([] : List Int)), (0), fT, fT, H', ⟨Nat.le_refl _⟩, ⟨Z4⟩, ⟨bT HB⟩⟩
 case round =>
  clear H'
  obtain ⟨x3_1, x4_1, x10_1, rfl, rfl, HA, HK1, HO_4, HB⟩ := hrel
  cases gk with
  | zero => exact absurd HA.out (by simp [dM.l0])
  | succ k1 =>
   have H := HA.out
   clear HA
   simp only [dM.l0] at H
   revert H
   refine iQ (fun c2b0 H => ?_) fun c2b0 H => ?_
   ·revert H
    refine gJ (fun c3b0 H => ?_) fun c3 H => ?_
    ·revert H
     refine gJ (fun c4b0 H => ?_) fun c4 H => ?_
     ·revert H
      refine yB1 fun t517 A5 H => ?_
      revert H
      refine iQ (fun c6b0 H => ?_) fun c6b0 H => ?_
      ·obtain rfl := Option.some.inj H
       have p515 : 0 ≤ (x10_1 : Int) := of_decide_eq_true aT
       have q515 : x10_1 < (l0.length : Int) := of_decide_eq_true aT
       obtain ⟨ad515, e515, hx515_0, hx515_1, hx515_2, hx515_3, hx515_4⟩ := ja HR0.out x10_1 p515 q515
       cases e515
       replace hx515_0 := (HB.out.cell (World.block_lt_of_cell? w _ hx515_0)).trans hx515_0
       replace hx515_1 := (HB.out.cell (World.block_lt_of_cell? w _ hx515_1)).trans hx515_1
       replace hx515_2 := (HB.out.cell (World.block_lt_of_cell? w _ hx515_2)).trans hx515_2
       replace hx515_3 := (HB.out.cell (World.block_lt_of_cell? w _ hx515_3)).trans hx515_3
       replace hx515_4 := (HB.out.cell (World.block_lt_of_cell? w _ hx515_4)).trans hx515_4
       replace p515 := eq_true p515
       replace q515 := eq_true q515
       go_wp2_with (first | ((with_reducible refine bH (N := 6) rfl ?_); refine gp ?hg (N := 6) ?hd (cs := #[.int .i64 0, .int .i64 0, .string (⟨#[]⟩ : ByteArray), .int .i64 0, .string (⟨#[]⟩ : ByteArray)]) (t := 29) ?hr ?_; (case hd => rfl); (case hg => rfl); (case hr => first | (go_simp; done) | (go_simp; rfl)); intro gb516 hg w7 hbox hb; refine yA5 (Kd.gK (qR HO_4) hb) (aY (bT HB) hb) (hbox) ((by rw [hg]; exact (bY (bT HB)) : w.heap.size ≤ gb516)) ((by rw [hg]; exact (bY (bT HB)) : w.heap.size ≤ gb516)) ?_; clear HO_4 HB; intro HO_4 HB BK516 GW516 GE516; clear hb hbox hg; have hcz8_0 : w7.cell? ⟨gb516, 0, none⟩ = some (.int .i64 0) := (aj BK516.out 0).trans rfl; have hcz8_1 : w7.cell? ⟨gb516, 1, none⟩ = some (.int .i64 0) := (aj BK516.out 1).trans rfl; have hcz8_2 : w7.cell? ⟨gb516, 2, none⟩ = some (.string (⟨#[]⟩ : ByteArray)) := (aj BK516.out 2).trans rfl; have hcz8_3 : w7.cell? ⟨gb516, 3, none⟩ = some (.int .i64 0) := (aj BK516.out 3).trans rfl; have hcz8_4 : w7.cell? ⟨gb516, 4, none⟩ = some (.string (⟨#[]⟩ : ByteArray)) := (aj BK516.out 4).trans rfl; have hfz8_0 := ag BK516.out 0; have hfz8_1 := ag BK516.out 1; have hfz8_2 := ag BK516.out 2; have hfz8_3 := ag BK516.out 3; have hfz8_4 := ag BK516.out 4) | ((with_reducible refine gC 29 rfl ?_); refine gM 29 17 rfl Tryz.func29 (dX.calls k1 _ _ l0 x10_1 t517 _ (Kd.lh HR0.out (bT HB)) HC0.out A5.out) ?_; rintro _ w' ⟨rfl, ⟨nd, rfl⟩⟩; refine ⟨_, rfl, ?_⟩))
       go_ret
       exact ⟨eT, bT HB⟩
      revert H
      refine iC (fun c9 H => ?_) fun c9 H => ?_
      ·have LMc9 := ae.mk c9
       clear c9
       obtain ⟨y518, hy518⟩ : ∃ y_ : List Int, y_ = (x4_1 ++ [(ax l0 x10_1).f1]) := ⟨_, rfl⟩
       replace H : (dM.l1 k1 l0 (mx x3_1 (y518.length : Int)) y518 l0 (l0.length : Int) x10_1) = some r := by first | (rw [hy518]; with_reducible exact H) | (have H2_ := (Option.bind_some _ _).symm.trans H; rw [hy518]; with_reducible exact H2_) | (have H2_ := (Option.bind_some _ _).symm.trans H; with_reducible exact H2_) | with_reducible exact H | (rw [hy518]; exact H) | exact H
       have Ny518 := ae.mk hy518
       clear hy518
       obtain ⟨ji10, hji10⟩ : ∃ j_ : Int, (mx x3_1 (y518.length : Int)) = j_ := ⟨_, rfl⟩
       replace H : (dM.l1 k1 l0 ji10 y518 l0 (l0.length : Int) x10_1) = some r := by first | (rw [hji10] at H; exact H) | (simp only [hji10] at H ⊢; exact H)
       (try rw [hji10] at A5)
       have hji10_ : (if x3_1 < (y518.length : Int) then (y518.length : Int) else x3_1) = ji10 := hji10
       have H' := ae.mk H
       clear H
       have p515 : 0 ≤ (x10_1 : Int) := of_decide_eq_true aT
       have q515 : x10_1 < (l0.length : Int) := of_decide_eq_true aT
       obtain ⟨ad515, e515, hx515_0, hx515_1, hx515_2, hx515_3, hx515_4⟩ := ja HR0.out x10_1 p515 q515
       cases e515
       replace hx515_0 := (HB.out.cell (World.block_lt_of_cell? w _ hx515_0)).trans hx515_0
       replace hx515_1 := (HB.out.cell (World.block_lt_of_cell? w _ hx515_1)).trans hx515_1
       replace hx515_2 := (HB.out.cell (World.block_lt_of_cell? w _ hx515_2)).trans hx515_2
       replace hx515_3 := (HB.out.cell (World.block_lt_of_cell? w _ hx515_3)).trans hx515_3
       replace hx515_4 := (HB.out.cell (World.block_lt_of_cell? w _ hx515_4)).trans hx515_4
       replace p515 := eq_true p515
       replace q515 := eq_true q515
       go_wp2_with (first | ((with_reducible refine bH (N := 6) rfl ?_); refine gp ?hg (N := 6) ?hd (cs := #[.int .i64 0, .int .i64 0, .string (⟨#[]⟩ : ByteArray), .int .i64 0, .string (⟨#[]⟩ : ByteArray)]) (t := 29) ?hr ?_; (case hd => rfl); (case hg => rfl); (case hr => first | (go_simp; done) | (go_simp; rfl)); intro gb516 hg w11 hbox hb; refine yA5 (Kd.gK (qR HO_4) hb) (aY (bT HB) hb) (hbox) ((by rw [hg]; exact (bY (bT HB)) : w.heap.size ≤ gb516)) ((by rw [hg]; exact (bY (bT HB)) : w.heap.size ≤ gb516)) ?_; clear HO_4 HB; intro HO_4 HB BK516 GW516 GE516; clear hb hbox hg; have hcz12_0 : w11.cell? ⟨gb516, 0, none⟩ = some (.int .i64 0) := (aj BK516.out 0).trans rfl; have hcz12_1 : w11.cell? ⟨gb516, 1, none⟩ = some (.int .i64 0) := (aj BK516.out 1).trans rfl; have hcz12_2 : w11.cell? ⟨gb516, 2, none⟩ = some (.string (⟨#[]⟩ : ByteArray)) := (aj BK516.out 2).trans rfl; have hcz12_3 : w11.cell? ⟨gb516, 3, none⟩ = some (.int .i64 0) := (aj BK516.out 3).trans rfl; have hcz12_4 : w11.cell? ⟨gb516, 4, none⟩ = some (.string (⟨#[]⟩ : ByteArray)) := (aj BK516.out 4).trans rfl; have hfz12_0 := ag BK516.out 0; have hfz12_1 := ag BK516.out 1; have hfz12_2 := ag BK516.out 2; have hfz12_3 := ag BK516.out 3; have hfz12_4 := ag BK516.out 4) | ((with_reducible refine gC 29 rfl ?_); refine gM 29 17 rfl Tryz.func29 (dX.calls k1 _ _ l0 x10_1 t517 _ (Kd.lh HR0.out (bT HB)) HC0.out A5.out) ?_; rintro _ w' ⟨rfl, ⟨nd, rfl⟩⟩; refine ⟨_, rfl, ?_⟩) | ((with_reducible refine eu (b := .append) (xs := #[.tmp 19, .tmp 22]) rfl ?_); at_builtin; refine Kd.jW (Kd.int .i64) (w0 := w) w.heap.size rfl (.tmp 19) (.tmp 22) 60 3 (.int .i64 0) 8 rfl Tryz.underlying60 info3 rfl (by decide) (by omega) u4 x4_1 ((ax l0 x10_1).f1) [.int .i64 ((ax l0 x10_1).f1)] (fun _ => True) (fun _ => False) rfl (by first | (go_simp; done) | (go_simp; rfl)) ?aP (fun _ hk => hk.elim) ?aF ?aO ?aB ?aS ?aL ?_; (case aP => exact rfl); (case aB => exact (bT HB)); (case aF => exact (fun _ _ => trivial)); (case aO => exact (by (with_reducible repeat (first | apply Kd.iw | apply Kd.ik | apply Kd.jb)); exact Kd.iO (Kd.oQ (p := ⟨gb516, 4, none⟩) (Kd.oQ (p := ⟨gb516, 3, none⟩) (Kd.oQ (p := ⟨gb516, 2, none⟩) (Kd.oQ (p := ⟨gb516, 1, none⟩) (Kd.oQ (p := ⟨gb516, 0, none⟩) (Kd.rD HO_4.out BK516.out (by decide)) (fun _ hk => hk.2) (.int .i64 ((ax l0 x10_1).f0))) (fun _ hk => hk.2) (.int .i64 ((ax l0 x10_1).f1))) (fun _ hk => hk.2) (.string ((ax l0 x10_1).f2))) (fun _ hk => hk.2) (.int .i64 ((ax l0 x10_1).f3))) (fun _ hk => hk.2) (.string ((ax l0 x10_1).f4))) (fun _ hk => trivial))); (case aS => exact (bY (bT HB))); (case aL => have := LMc9.out; omega); intro v519 w13 ho hb hg hat; rw [← Ny518.out] at ho; refine yA3 (kN (g := gb516) (o := .cells #[.int .i64 ((ax l0 x10_1).f0), .int .i64 ((ax l0 x10_1).f1), .string ((ax l0 x10_1).f2), .int .i64 ((ax l0 x10_1).f3), .string ((ax l0 x10_1).f4)] 29 (0, 0)) (by refine eQ (cs := #[.int .i64 ((ax l0 x10_1).f0), .int .i64 ((ax l0 x10_1).f1), .string ((ax l0 x10_1).f2), .int .i64 ((ax l0 x10_1).f3), .string (⟨#[]⟩ : ByteArray)]) ?_ 4 _ rfl; refine eQ (cs := #[.int .i64 ((ax l0 x10_1).f0), .int .i64 ((ax l0 x10_1).f1), .string ((ax l0 x10_1).f2), .int .i64 0, .string (⟨#[]⟩ : ByteArray)]) ?_ 3 _ rfl; refine eQ (cs := #[.int .i64 ((ax l0 x10_1).f0), .int .i64 ((ax l0 x10_1).f1), .string (⟨#[]⟩ : ByteArray), .int .i64 0, .string (⟨#[]⟩ : ByteArray)]) ?_ 2 _ rfl; refine eQ (cs := #[.int .i64 ((ax l0 x10_1).f0), .int .i64 0, .string (⟨#[]⟩ : ByteArray), .int .i64 0, .string (⟨#[]⟩ : ByteArray)]) ?_ 1 _ rfl; refine eQ (cs := #[.int .i64 0, .int .i64 0, .string (⟨#[]⟩ : ByteArray), .int .i64 0, .string (⟨#[]⟩ : ByteArray)]) ?_ 0 _ rfl; exact BK516.out) hg (Kd.EM HO_4.out BK516.out (by decide))) (hb) (ho) ?_; clear BK516 HB HO_4; intro BK516 HB HO520; clear ho hb hg hat; obtain ⟨Ao14, co14, rfl⟩ := Kd.eU HO520.out))
       go_loopg [4] k1 (fun kq v4 w' => ∃ (x4_2 : List Int), ae (dM.l1 kq l0 ji10 x4_2 l0 (l0.length : Int) x10_1 = some r) ∧ ae (kq ≤ k1) ∧ ae (Kd.R (Kd.int .i64) 3 w' w.heap.size (fun _ => True) v4 x4_2) ∧ ae (w'.heap[gb516]? = some (.cells #[.int .i64 ((ax l0 x10_1).f0), .int .i64 ((ax l0 x10_1).f1), .string ((ax l0 x10_1).f2), .int .i64 ((ax l0 x10_1).f3), .string ((ax l0 x10_1).f4)] 29 (0, 0))) ∧ ae (Below w.heap.size w w'))
       case atStart => exact ⟨(y518), H', ⟨Nat.le_refl _⟩, ⟨qR HO520⟩, ⟨by exact BK516.out⟩, ⟨bT HB⟩⟩
       case round =>
        clear H'
        try clear c2
        try clear c2b0
        try clear p2
        try clear c3
        try clear c3b0
        try clear c4
        try clear c4b0
        try clear p5
        try clear q5
        try clear hx5
        try clear c6
        try clear c6b0
        try clear c9
        try clear hcz12_0
        try clear hcz12_1
        try clear hcz12_2
        try clear hcz12_3
        try clear hcz12_4
        try clear hcz8_0
        try clear hcz8_1
        try clear hcz8_2
        try clear hcz8_3
        try clear hcz8_4
        try clear hfz12_0
        try clear hfz12_1
        try clear hfz12_2
        try clear hfz12_3
        try clear hfz12_4
        try clear hfz8_0
        try clear hfz8_1
        try clear hfz8_2
        try clear hfz8_3
        try clear hfz8_4
        try clear hx515_0
        try clear hx515_1
        try clear hx515_2
        try clear hx515_3
        try clear hx515_4
        try clear p515
        try clear q515
        obtain ⟨x4_2, HA, HK2, HO_4, BK516, HB⟩ := hrel
        cases gk with
        | zero => exact absurd HA.out (by simp [dM.l1])
        | succ k2 =>
         have H := HA.out
         clear HA
         simp only [dM.l1] at H
         obtain ⟨ji15, hji15⟩ : ∃ j_ : Int, (wrap64 ((x4_2.length : Int) - 1)) = j_ := ⟨_, rfl⟩
         replace H : (if 0 ≤ (ji15) then (if (ji15) < (x4_2.length : Int) then (if (rd x4_2 (ji15)) > 0 then (dM.l0 k2 l0 ji10 (x4_2.set ((ji15) : Int).toNat (wrap64 ((rd x4_2 (ji15)) - 1))) l0 (l0.length : Int) (wrap64 (x10_1 + 1))) else (if (ji15) ≤ (x4_2.length : Int) then ((some (x4_2.take ((ji15) : Int).toNat : List Int)).bind fun y524 => (if (ji15) = 0 then (dM.l0 k2 l0 ji10 y524 l0 (l0.length : Int) (wrap64 (x10_1 + 1))) else (dM.l1 k2 l0 ji10 y524 l0 (l0.length : Int) x10_1))) else (none))) else (none)) else (none)) = some r := by first | (rw [hji15] at H; exact H) | (simp only [hji15] at H ⊢; exact H)
         have hji15w : (IntKind.i64.wrap ((x4_2.length : Int) - 1)) = ji15 := (gX _).trans hji15
         revert H
         refine gJ (fun c16b0 H => ?_) fun c16 H => ?_
         ·revert H
          refine gJ (fun c17b0 H => ?_) fun c17 H => ?_
          ·revert H
           refine iC (fun c18 H => ?_) fun c18 H => ?_
           ·have c18b0 : decide (0 < (rd x4_2 (ji15))) = true := decide_eq_true c18
            clear c18
            obtain ⟨y523, hy523⟩ : ∃ y_ : List Int, y_ = (x4_2.set ((ji15) : Int).toNat (wrap64 ((rd x4_2 (ji15)) - 1))) := ⟨_, rfl⟩
            replace H : (dM.l0 k2 l0 ji10 y523 l0 (l0.length : Int) (wrap64 (x10_1 + 1))) = some r := by first | (rw [hy523]; with_reducible exact H) | (have H2_ := (Option.bind_some _ _).symm.trans H; rw [hy523]; with_reducible exact H2_) | (have H2_ := (Option.bind_some _ _).symm.trans H; with_reducible exact H2_) | with_reducible exact H | (rw [hy523]; exact H) | exact H
            have Ny523 := ae.mk hy523
            clear hy523
            have H' := ae.mk H
            clear H
            obtain ⟨Ao20, co20, eo20⟩ := Kd.eU HO_4.out
            subst eo20
            have p521 : 0 ≤ ((ji15) : Int) := of_decide_eq_true aT
            have q521 : (ji15) < (x4_2.length : Int) := of_decide_eq_true aT
            obtain ⟨ad521, e521, hx521_0⟩ := Kd.jv (Kd.dL HO_4.out).2.2 (ji15) p521 q521
            cases e521
            replace p521 := eq_true p521
            replace q521 := eq_true q521
            have p522 : 0 ≤ ((ji15) : Int) := of_decide_eq_true aT
            have q522 : (ji15) < (x4_2.length : Int) := of_decide_eq_true aT
            obtain ⟨ad522, e522, hx522_0⟩ := Kd.jv (Kd.dL HO_4.out).2.2 (ji15) p522 q522
            obtain rfl : ad521 = ad522 := (by injection e522)
            replace p522 := eq_true p522
            replace q522 := eq_true q522
            have p19 : 0 ≤ ((ji15) : Int) := of_decide_eq_true aT
            have q19 : ((ji15) : Int) < ((x4_2.length : Int) : Int) := of_decide_eq_true aT
            obtain ⟨go19, co19, eo19, gb19, gl19, cl19, HG19⟩ := Kd.CU HO_4.out (by omega)
            (first | cases eo19 | (injection eo19 with ea_ en_ ec_; (first | subst ea_ | (injection ea_ with ea_; subst ea_)); subst ec_; clear en_))
            have GB19 := ae.mk gb19
            have GG19 := ae.mk HG19
            clear gb19 gl19 HG19
            (first | simp only [add_plain] at hx521_0 | skip)
            (first | simp only [add_plain] at hx522_0 | skip)
            obtain ⟨hx19_0, hf19_0⟩ := Kd.DR 0 HO_4.out ((ji15) : Int) p19 q19
            replace p19 := eq_true p19
            replace q19 := eq_true q19
            have HP21 := Kd.Hl HO_4.out ((ji15) : Int) (wrap64 ((rd x4_2 (ji15)) - 1))
            go_wp2_with (first | ((with_reducible refine xu (t := 3) (p := 41) rfl ?_); refine uQ (t := 3) (p := 41) (v := ?vo_w22) (w1 := (wr.setCell ⟨go19, ((ji15) : Int).toNat, none⟩ (.int .i64 (wrap64 ((rd x4_2 (ji15)) - 1))))) ?hg ?ho ?hn ?hr ?_; (case ho => rfl); (case hg => rfl); (case hn => rfl); (case hr => first | (go_simp; done) | (go_simp; rfl)); intro w22 hw; have hg : wr.grownBy w22 (some go19) := (by rw [hw]; exact HP21.2); have hp_ : Kd.R (Kd.int .i64) 3 w22 w.heap.size (fun _ => True) (.slice (some ⟨go19, 0, none⟩) x4_2.length co20) y523 := (by rw [hw, Ny523.out]; exact HP21.1); clear HP21; refine yA3 (hp_) (kN (g := gb516) (o := .cells #[.int .i64 ((ax l0 x10_1).f0), .int .i64 ((ax l0 x10_1).f1), .string ((ax l0 x10_1).f2), .int .i64 ((ax l0 x10_1).f3), .string ((ax l0 x10_1).f4)] 29 (0, 0)) (by exact BK516.out) hg (Kd.EM HO_4.out BK516.out (by decide))) ((by rw [hw]; exact iZ (HB.out) GB19.out : Below w.heap.size w w22)) ?_; clear HO_4 BK516 HB; intro HO_4 BK516 HB; clear hg hw hp_))
            go_roundg k2
            case measure => have := HK1.out; have := HK2.out; omega
            case rel => exact ⟨(ji10), (y523), (wrap64 (x10_1 + 1)), (by first | rfl | (simp; done) | (simp only [← hji10] <;> (first | rfl | simp)) | (simp [*]; done)), fT, H', ⟨by have := HK1.out; have := HK2.out; omega⟩, ⟨qR HO_4⟩, ⟨bT HB⟩⟩
           have c18b0 : decide (0 < (rd x4_2 (ji15))) = false := decide_eq_false c18
           clear c18
           revert H
           refine jO (fun c23b0 c23b1 H => ?_) fun c23 H => ?_
           ·obtain ⟨y524, hy524⟩ : ∃ y_ : List Int, y_ = (x4_2.take ((ji15) : Int).toNat) := ⟨_, rfl⟩
            replace H : (if (ji15) = 0 then (dM.l0 k2 l0 ji10 y524 l0 (l0.length : Int) (wrap64 (x10_1 + 1))) else (dM.l1 k2 l0 ji10 y524 l0 (l0.length : Int) x10_1)) = some r := by first | (rw [hy524]; with_reducible exact H) | (have H2_ := (Option.bind_some _ _).symm.trans H; rw [hy524]; with_reducible exact H2_) | (have H2_ := (Option.bind_some _ _).symm.trans H; with_reducible exact H2_) | with_reducible exact H | (rw [hy524]; exact H) | exact H
            have Ny524 := ae.mk hy524
            clear hy524
            revert H
            refine cZ (fun c24b0 c24b1 H => ?_) fun c24 c24b0 c24b1 H => ?_
            ·have H' := ae.mk H
             clear H
             obtain ⟨Ao25, co25, eo25⟩ := Kd.eU HO_4.out
             subst eo25
             have p521 : 0 ≤ ((ji15) : Int) := of_decide_eq_true aT
             have q521 : (ji15) < (x4_2.length : Int) := of_decide_eq_true aT
             obtain ⟨ad521, e521, hx521_0⟩ := Kd.jv (Kd.dL HO_4.out).2.2 (ji15) p521 q521
             cases e521
             replace p521 := eq_true p521
             replace q521 := eq_true q521
             have q26 : ((ji15) : Int) ≤ ((x4_2.length : Int) : Int) := of_decide_eq_true aT
             obtain ⟨i026, hi026, _, hsz26, _⟩ := info_parts info3
             have hcut26 := CG (P := Tryz.prog) 60 3 .i64 Tryz.underlying60 hi026 (some ad521) x4_2.length co25 (ji15) (of_decide_eq_true aT) q26 (Kd.dL HO_4.out).2.1
             have hr26 := Kd.CQ (m := ((ji15) : Int).toNat) HO_4.out (by omega)
             have hy26 : y524.length = ((ji15) : Int).toNat := (by rw [Ny524.out, List.length_take]; omega)
             rw [← Ny524.out] at hr26
             rw [← hy26] at hr26 hcut26
             clear hy26 hi026 hsz26 HO_4
             have HO526 := ae.mk hr26
             clear hr26
             replace q26 := eq_true q26
             go_wp2
             go_roundg k2
             case measure => have := HK1.out; have := HK2.out; omega
             case rel => exact ⟨(ji10), (y524), (wrap64 (x10_1 + 1)), (by first | rfl | (simp; done) | (simp only [← hji10] <;> (first | rfl | simp)) | (simp [*]; done)), fT, H', ⟨by have := HK1.out; have := HK2.out; omega⟩, ⟨qR HO526⟩, ⟨bT HB⟩⟩
            have H' := ae.mk H
            clear H
            obtain ⟨Ao27, co27, eo27⟩ := Kd.eU HO_4.out
            subst eo27
            have p521 : 0 ≤ ((ji15) : Int) := of_decide_eq_true aT
            have q521 : (ji15) < (x4_2.length : Int) := of_decide_eq_true aT
            obtain ⟨ad521, e521, hx521_0⟩ := Kd.jv (Kd.dL HO_4.out).2.2 (ji15) p521 q521
            cases e521
            replace p521 := eq_true p521
            replace q521 := eq_true q521
            have q28 : ((ji15) : Int) ≤ ((x4_2.length : Int) : Int) := of_decide_eq_true aT
            obtain ⟨i028, hi028, _, hsz28, _⟩ := info_parts info3
            have hcut28 := CG (P := Tryz.prog) 60 3 .i64 Tryz.underlying60 hi028 (some ad521) x4_2.length co27 (ji15) (of_decide_eq_true aT) q28 (Kd.dL HO_4.out).2.1
            have hr28 := Kd.CQ (m := ((ji15) : Int).toNat) HO_4.out (by omega)
            have hy28 : y524.length = ((ji15) : Int).toNat := (by rw [Ny524.out, List.length_take]; omega)
            rw [← Ny524.out] at hr28
            rw [← hy28] at hr28 hcut28
            clear hy28 hi028 hsz28 HO_4
            have HO526 := ae.mk hr28
            clear hr28
            replace q28 := eq_true q28
            go_wp2
            go_roundg k2
            case measure => have := HK1.out; have := HK2.out; omega
            case rel => exact ⟨(y524), H', ⟨by have := HK1.out; have := HK2.out; omega⟩, ⟨qR HO526⟩, ⟨by exact BK516.out⟩, ⟨bT HB⟩⟩
           exact absurd H (by simp)
          exact absurd H (by simp)
         exact absurd H (by simp)
      exact absurd H (by simp)
     exact absurd H (by simp)
    exact absurd H (by simp)
   obtain rfl := Option.some.inj H
   go_wp2
   go_ret
   exact ⟨eT, bT HB⟩
end Go.Proofs.YtkbhkonenkgfoaaGreat.Q
end
section
namespace Go.Proofs.YtkbhkonenkgfoaaGreat.Q
open Go.RowKit Go.Proofs.YtkbhkonenkgfoaaGreatW.PrintWords Go.Proofs.YtkbhkonenkgfoaaGreatW.PrintLast Go.Proofs.YtkbhkonenkgfoaaGreatW.PrintMore
attribute [local go_sem] dJ dH dW dV dh df dI dG
set_option linter.unusedVariables false
set_option linter.unusedSimpArgs false
/-! ### gy: function 68 -/
def gy.j0 : Nat → Int → Int → Bool → Option (Int × Bool)
 | 0, _, _, _ => none
 | k + 1, x0, x4, x9 => if x9 = true then (some (1, true)) else (if x4 = 19 then (some (4, true)) else (if x4 = 20 then (some (32, true)) else (if x4 = 23 then (some (3, true)) else (if x4 = 27 then (some (8, true)) else (if x4 = 28 then (some (16, true)) else (if x0 ≥ 1 then (some (0, decide (x0 ≤ 30))) else (some (0, false))))))))
def gy.f (k : Nat) (a0 : Int) : Option (Int × Bool) := if a0 = 1 then (some (5, true)) else (if a0 = 2 then (some (7, true)) else (if a0 = 3 then (gy.j0 k a0 a0 (a0 == 3)) else (if a0 = 4 then (gy.j0 k a0 a0 (a0 == 4)) else (if a0 = 6 then (gy.j0 k a0 a0 (a0 == 6)) else (if a0 = 7 then (gy.j0 k a0 a0 (a0 == 7)) else (gy.j0 k a0 a0 (a0 == 21)))))))
theorem gy.bP : ∀ k, (∀ y0 y1 y2, LeO (gy.j0 k y0 y1 y2) (gy.j0 (k + 1) y0 y1 y2))
 | 0 => fun _ _ _ r h => by simp [gy.j0] at h
 | k + 1 => by
  have ih0 := gy.bP k
  intro y0 y1 y2
  unfold gy.j0
  exact yL
theorem gy.mono : ∀ a0 k, LeO (gy.f k a0) (gy.f (k + 1) a0) := by
 intro a0 k
 have ih0 := gy.bP k
 unfold gy.f
 exact yL
set_option maxHeartbeats 8000000 in
set_option maxRecDepth 100000 in
theorem gy.calls (k : Nat) (a0 : Int) (r1 : Int) (r2 : Bool) (w : World) (h : gy.f k a0 = some (r1, r2)) :
 Calls Tryz.prog 68 #[.int .i64 a0] w fun e w' => e = .returned (.tuple #[.int .i64 r1, .bool r2]) ∧ eF w w' := by
 have H := h
 clear h
 unfold gy.f at H
 revert H
 refine cZ (fun c2b0 c2b1 H => ?_) fun c2 c2b0 c2b1 H => ?_
 ·simp only [Option.some.injEq, Prod.mk.injEq] at H
  obtain ⟨rfl, rfl⟩ := H
  go_enter Tryz.func68, Tryz.ntmps68
  go_wp2
  go_ret2
  exact ⟨fT, Z0⟩
 revert H
 refine cZ (fun c3b0 c3b1 H => ?_) fun c3 c3b0 c3b1 H => ?_
 ·simp only [Option.some.injEq, Prod.mk.injEq] at H
  obtain ⟨rfl, rfl⟩ := H
  go_enter Tryz.func68, Tryz.ntmps68
  go_wp2
  go_ret2
  exact ⟨fT, Z0⟩
 have HC4 := ae.mk H
 clear H
 go_enter Tryz.func68, Tryz.ntmps68
 go_upto_if 9 with (fail)
 go_cut [9] (fun v9 wc => ∃ (kq : Nat) (x9_3 : Bool), v9 = .bool x9_3 ∧ ae (gy.j0 kq a0 a0 x9_3 = some (r1, r2)) ∧ ae (kq ≤ k) ∧ eF w wc)
 case first =>
  have H := HC4.out
  clear HC4
  revert H
  refine cZ (fun c5b0 c5b1 H => ?_) fun c5 c5b0 c5b1 H => ?_
  ·(first | rw [c5b0] | (simp only [gX, iP]; rw [c5b0]) | skip)
   have H' := ae.mk H
   clear H
   go_wp2
   go_meet
   case rel => exact ⟨_, ((a0 == 3)), fT, H', ⟨Z11⟩, Z0⟩
  (first | rw [c5b0] | (simp only [gX, iP]; rw [c5b0]) | skip)
  revert H
  refine cZ (fun c6b0 c6b1 H => ?_) fun c6 c6b0 c6b1 H => ?_
  ·have H' := ae.mk H
   clear H
   go_wp2
   go_meet
   case rel => exact ⟨_, ((a0 == 4)), fT, H', ⟨Z11⟩, Z0⟩
  revert H
  refine cZ (fun c7b0 c7b1 H => ?_) fun c7 c7b0 c7b1 H => ?_
  ·have H' := ae.mk H
   clear H
   go_wp2
   go_meet
   case rel => exact ⟨_, ((a0 == 6)), fT, H', ⟨Z11⟩, Z0⟩
  revert H
  refine cZ (fun c8b0 c8b1 H => ?_) fun c8 c8b0 c8b1 H => ?_
  ·have H' := ae.mk H
   clear H
   go_wp2
   go_meet
   case rel => exact ⟨_, ((a0 == 7)), fT, H', ⟨Z11⟩, Z0⟩
  have H' := ae.mk H
  clear H
  go_wp2
  go_meet
  case rel => exact ⟨_, ((a0 == 21)), fT, H', ⟨Z11⟩, Z0⟩
 case rest =>
  clear HC4
  try clear c2
  try clear c2b0
  try clear c2b1
  try clear p2
  try clear c3
  try clear c3b0
  try clear c3b1
  try clear c5
  try clear c5b0
  try clear c5b1
  try clear c6
  try clear c6b0
  try clear c6b1
  try clear c7
  try clear c7b0
  try clear c7b1
  try clear c8
  try clear c8b0
  try clear c8b1
  obtain ⟨kq, x9_3, rfl, HA, HJ3, ⟨mc3, rfl⟩⟩ := hcut
  cases kq with
  | zero => exact absurd HA.out (by simp [gy.j0])
  | succ kj3 =>
   have H := HA.out
   clear HA
   simp only [gy.j0] at H
   cases x9_3
   rotate_left
   ·replace H := yT H
    simp only [Option.some.injEq, Prod.mk.injEq] at H
    obtain ⟨rfl, rfl⟩ := H
    go_wp2
    go_ret2
    exact ⟨fT, Z0⟩
   replace H := yF H
   revert H
   refine cZ (fun c10b0 c10b1 H => ?_) fun c10 c10b0 c10b1 H => ?_
   ·simp only [Option.some.injEq, Prod.mk.injEq] at H
    obtain ⟨rfl, rfl⟩ := H
    go_wp2
    go_ret2
    exact ⟨fT, Z0⟩
   revert H
   refine cZ (fun c11b0 c11b1 H => ?_) fun c11 c11b0 c11b1 H => ?_
   ·simp only [Option.some.injEq, Prod.mk.injEq] at H
    obtain ⟨rfl, rfl⟩ := H
    go_wp2
    go_ret2
    exact ⟨fT, Z0⟩
   revert H
   refine cZ (fun c12b0 c12b1 H => ?_) fun c12 c12b0 c12b1 H => ?_
   ·simp only [Option.some.injEq, Prod.mk.injEq] at H
    obtain ⟨rfl, rfl⟩ := H
    go_wp2
    go_ret2
    exact ⟨fT, Z0⟩
   revert H
   refine cZ (fun c13b0 c13b1 H => ?_) fun c13 c13b0 c13b1 H => ?_
   ·simp only [Option.some.injEq, Prod.mk.injEq] at H
    obtain ⟨rfl, rfl⟩ := H
    go_wp2
    go_ret2
    exact ⟨fT, Z0⟩
   revert H
   refine cZ (fun c14b0 c14b1 H => ?_) fun c14 c14b0 c14b1 H => ?_
   ·simp only [Option.some.injEq, Prod.mk.injEq] at H
    obtain ⟨rfl, rfl⟩ := H
    go_wp2
    go_ret2
    exact ⟨fT, Z0⟩
   revert H
   refine iC (fun c15 H => ?_) fun c15 H => ?_
   ·have c15b0 : decide (1 ≤ a0) = true := decide_eq_true c15
    clear c15
    simp only [Option.some.injEq, Prod.mk.injEq] at H
    obtain ⟨rfl, rfl⟩ := H
    go_wp2
    go_ret2
    exact ⟨fT, Z0⟩
   have c15b0 : decide (1 ≤ a0) = false := decide_eq_false c15
   clear c15
   simp only [Option.some.injEq, Prod.mk.injEq] at H
   obtain ⟨rfl, rfl⟩ := H
   go_wp2
   go_ret2
   exact ⟨fT, Z0⟩
end Go.Proofs.YtkbhkonenkgfoaaGreat.Q
end
section
namespace Go.Proofs.YtkbhkonenkgfoaaGreat.Q
open Go.RowKit Go.Proofs.YtkbhkonenkgfoaaGreatW.PrintWords Go.Proofs.YtkbhkonenkgfoaaGreatW.PrintLast Go.Proofs.YtkbhkonenkgfoaaGreatW.PrintMore
attribute [local go_sem] dJ dH dW dV dh df dI dG
set_option linter.unusedVariables false
set_option linter.unusedSimpArgs false
/-! ### jU: function 69 -/
def jU.f (a0 : Int) : Option (Int × Int) := if a0 = 1 then (some (1, 2147483647)) else (if a0 = 2 then (some (0, 8)) else (some (0, 9223372036854775807)))
set_option maxHeartbeats 8000000 in
set_option maxRecDepth 100000 in
theorem jU.calls (a0 : Int) (r1 : Int) (r2 : Int) (w : World) (h : jU.f a0 = some (r1, r2)) :
 Calls Tryz.prog 69 #[.int .i64 a0] w fun e w' => e = .returned (.tuple #[.int .i64 r1, .int .i64 r2]) ∧ eF w w' := by
 have H := h
 clear h
 unfold jU.f at H
 revert H
 refine cZ (fun c2b0 c2b1 H => ?_) fun c2 c2b0 c2b1 H => ?_
 ·simp only [Option.some.injEq, Prod.mk.injEq] at H
  obtain ⟨rfl, rfl⟩ := H
  go_enter Tryz.func69, Tryz.ntmps69
  go_wp2
  go_ret2
  exact ⟨fT, Z0⟩
 revert H
 refine cZ (fun c3b0 c3b1 H => ?_) fun c3 c3b0 c3b1 H => ?_
 ·simp only [Option.some.injEq, Prod.mk.injEq] at H
  obtain ⟨rfl, rfl⟩ := H
  go_enter Tryz.func69, Tryz.ntmps69
  go_wp2
  go_ret2
  exact ⟨fT, Z0⟩
 simp only [Option.some.injEq, Prod.mk.injEq] at H
 obtain ⟨rfl, rfl⟩ := H
 go_enter Tryz.func69, Tryz.ntmps69
 go_wp2
 go_ret2
 exact ⟨fT, Z0⟩
end Go.Proofs.YtkbhkonenkgfoaaGreat.Q
end
section
namespace Go.Proofs.YtkbhkonenkgfoaaGreat.Q
open Go.RowKit Go.Proofs.YtkbhkonenkgfoaaGreatW.PrintWords Go.Proofs.YtkbhkonenkgfoaaGreatW.PrintLast Go.Proofs.YtkbhkonenkgfoaaGreatW.PrintMore
attribute [local go_sem] dJ dH dW dV dh df dI dG
set_option linter.unusedVariables false
set_option linter.unusedSimpArgs false
/-! ### dF: function 92 -/
mutual
def dF.l0 : Nat → ByteArray → ByteArray → Int → Int → Option (Bool)
 | 0, _, _, _, _ => none
 | k + 1, x0, x1, x9, x10 => if x10 < x9 then (if 0 ≤ x10 then (if x10 < (x1.size : Int) then (if (bt x1 x10) = 32 then (some false) else (dF.l0 k x0 x1 x9 (wrap64 (x10 + 1)))) else (none)) else (none)) else (dF.l1 k x0 x1 (wrap64 ((x1.size : Int) + 2)) 0)
def dF.l1 : Nat → ByteArray → ByteArray → Int → Int → Option (Bool)
 | 0, _, _, _, _ => none
 | k + 1, x0, x1, x6, x7 => if x1.toList = ([] : List UInt8) then (dF.j2 k x0 x1 x6 x7 false) else (dF.j2 k x0 x1 x6 x7 (decide ((wrap64 (x7 + x6)) ≤ (x0.size : Int))))
def dF.j2 : Nat → ByteArray → ByteArray → Int → Int → Bool → Option (Bool)
 | 0, _, _, _, _, _ => none
 | k + 1, x0, x1, x6, x7, x30 => if x30 = true then (if 0 ≤ x7 then (if x7 ≤ (wrap64 (x7 + x6)) then (if (wrap64 (x7 + x6)) ≤ (x0.size : Int) then (if 1 + x1.size ≤ 9223372036854775807 then (if ((⟨#[32]⟩ : ByteArray) ++ x1).size + 1 ≤ 9223372036854775807 then (if (x0.extract (x7 : Int).toNat ((wrap64 (x7 + x6)) : Int).toNat).toList = (((⟨#[32]⟩ : ByteArray) ++ x1) ++ (⟨#[32]⟩ : ByteArray)).toList then (some true) else (dF.l1 k x0 x1 x6 (wrap64 (x7 + 1)))) else (none)) else (none)) else (none)) else (none)) else (none)) else (some false)
end
def dF.f (k : Nat) (a0 : ByteArray) (a1 : ByteArray) : Option (Bool) := dF.l0 k a0 a1 (a1.size : Int) 0
theorem dF.bP : ∀ k, (∀ y0 y1 y2 y3, LeO (dF.l0 k y0 y1 y2 y3) (dF.l0 (k + 1) y0 y1 y2 y3)) ∧ (∀ y0 y1 y2 y3, LeO (dF.l1 k y0 y1 y2 y3) (dF.l1 (k + 1) y0 y1 y2 y3)) ∧ (∀ y0 y1 y2 y3 y4, LeO (dF.j2 k y0 y1 y2 y3 y4) (dF.j2 (k + 1) y0 y1 y2 y3 y4))
 | 0 => ⟨fun _ _ _ _ r h => by simp [dF.l0] at h, fun _ _ _ _ r h => by simp [dF.l1] at h, fun _ _ _ _ _ r h => by simp [dF.j2] at h⟩
 | k + 1 => by
  obtain ⟨ih0, ih1, ih2⟩ := dF.bP k
  refine ⟨?_, ?_, ?_⟩
  ·intro y0 y1 y2 y3
   unfold dF.l0
   exact yL
  ·intro y0 y1 y2 y3
   unfold dF.l1
   exact yL
  intro y0 y1 y2 y3 y4
  unfold dF.j2
  exact yL
theorem dF.mono : ∀ a0 a1 k, LeO (dF.f k a0 a1) (dF.f (k + 1) a0 a1) := by
 intro a0 a1 k
 obtain ⟨ih0, ih1, ih2⟩ := dF.bP k
 unfold dF.f
 exact yL
set_option maxHeartbeats 8000000 in
set_option maxRecDepth 100000 in
theorem dF.calls (k : Nat) (a0 : ByteArray) (a1 : ByteArray) (r : Bool) (w : World) (h : dF.f k a0 a1 = some r) :
 Calls Tryz.prog 92 #[.string a0, .string a1] w fun e w' => e = .returned (.bool r) ∧ eF w w' := by
 have H := h
 clear h
 unfold dF.f at H
 have H' := ae.mk H
 clear H
 go_enter Tryz.func92, Tryz.ntmps92
 go_wp2
 go_loopg [10] k (fun kq v10 w' => ∃ (x10_1 : Int), v10 = .int .i64 x10_1 ∧ ae (dF.l0 kq a0 a1 (a1.size : Int) x10_1 = some r) ∧ ae (kq ≤ k) ∧ eF w w')
 case atStart => exact ⟨(0), fT, H', ⟨Nat.le_refl _⟩, Z0⟩
 case round =>
  clear H'
  try clear p2
  obtain ⟨x10_1, rfl, HA, HK1, ⟨m1, rfl⟩⟩ := hrel
  cases gk with
  | zero => exact absurd HA.out (by simp [dF.l0])
  | succ k1 =>
   have H := HA.out
   clear HA
   simp only [dF.l0] at H
   revert H
   refine iQ (fun c3b0 H => ?_) fun c3b0 H => ?_
   ·revert H
    refine gJ (fun c4b0 H => ?_) fun c4 H => ?_
    ·revert H
     refine gJ (fun c5b0 H => ?_) fun c5 H => ?_
     ·revert H
      refine cZ (fun c7b0 c7b1 H => ?_) fun c7 c7b0 c7b1 H => ?_
      ·obtain rfl := Option.some.inj H
       have p6 : 0 ≤ (x10_1 : Int) := of_decide_eq_true aT
       have q6 : x10_1 < (a1.size : Int) := of_decide_eq_true aT
       have hx6 := iE a1 x10_1
       replace p6 := eq_true p6
       replace q6 := eq_true q6
       go_wp2
       go_ret
       exact ⟨fT, Z0⟩
      have H' := ae.mk H
      clear H
      have p6 : 0 ≤ (x10_1 : Int) := of_decide_eq_true aT
      have q6 : x10_1 < (a1.size : Int) := of_decide_eq_true aT
      have hx6 := iE a1 x10_1
      replace p6 := eq_true p6
      replace q6 := eq_true q6
      go_wp2
      go_roundg k1
      case measure => have := HK1.out; omega
      case rel => exact ⟨(wrap64 (x10_1 + 1)), fT, H', ⟨by have := HK1.out; omega⟩, Z0⟩
     exact absurd H (by simp)
    exact absurd H (by simp)
   have H' := ae.mk H
   clear H
   go_wp2
   go_loopg [7] k1 (fun kq v7 w' => ∃ (x7_2 : Int), v7 = .int .i64 x7_2 ∧ ae (dF.l1 kq a0 a1 (wrap64 ((a1.size : Int) + 2)) x7_2 = some r) ∧ ae (kq ≤ k1) ∧ eF w w')
   case atStart => exact ⟨(0), fT, H', ⟨Nat.le_refl _⟩, Z0⟩
   case round =>
    clear H'
    try clear p2
    try clear c3
    try clear c3b0
    try clear c4
    try clear c4b0
    try clear c5
    try clear c5b0
    try clear p6
    try clear q6
    try clear hx6
    try clear c7
    try clear c7b0
    try clear c7b1
    try clear p2
    try clear p6
    try clear q6
    obtain ⟨x7_2, rfl, HA, HK2, ⟨m2, rfl⟩⟩ := hrel
    cases gk with
    | zero => exact absurd HA.out (by simp [dF.l1])
    | succ k2 =>
     have H := HA.out
     clear HA
     simp only [dF.l1] at H
     have HC8 := ae.mk H
     clear H
     go_upto_region 9 with (fail)
     go_cut [30] (fun v30 wc => ∃ (kq : Nat) (x30_7 : Bool), v30 = .bool x30_7 ∧ ae (dF.j2 kq a0 a1 (wrap64 ((a1.size : Int) + 2)) x7_2 x30_7 = some r) ∧ ae (kq ≤ k2) ∧ eF w wc)
     case first =>
      have H := HC8.out
      clear HC8
      revert H
      refine cZ (fun c9b0 c9b1 H => ?_) fun c9 c9b0 c9b1 H => ?_
      ·(first | rw [c9b0] | (simp only [gX, iP]; rw [c9b0]) | skip)
       have H' := ae.mk H
       clear H
       go_wp2
       go_meet
       case rel => exact ⟨_, (false), fT, H', ⟨by have := HK1.out; have := HK2.out; first | omega | exact Nat.le_refl _⟩, Z0⟩
      (first | rw [c9b0] | (simp only [gX, iP]; rw [c9b0]) | skip)
      have H' := ae.mk H
      clear H
      go_wp2
      go_meet
      case rel => exact ⟨_, (decide ((wrap64 (x7_2 + (wrap64 ((a1.size : Int) + 2)))) ≤ (a0.size : Int))), fT, H', ⟨by have := HK1.out; have := HK2.out; first | omega | exact Nat.le_refl _⟩, Z0⟩
     case rest =>
      clear HC8
      try clear p2
      try clear c3
      try clear c3b0
      try clear c4
      try clear c4b0
      try clear c5
      try clear c5b0
      try clear p6
      try clear q6
      try clear hx6
      try clear c7
      try clear c7b0
      try clear c7b1
      try clear c9
      try clear c9b0
      try clear c9b1
      try clear p2
      try clear p6
      try clear q6
      obtain ⟨kq, x30_7, rfl, HA, HJ7, ⟨mc7, rfl⟩⟩ := hcut
      cases kq with
      | zero => exact absurd HA.out (by simp [dF.j2])
      | succ kj7 =>
       have H := HA.out
       clear HA
       simp only [dF.j2] at H
       cases x30_7
       rotate_left
       ·replace H := yT H
        revert H
        refine jO (fun c11b0 c11b1 H => ?_) fun c11 H => ?_
        ·revert H
         refine nD (fun c12 c12b0 c12b1 H => ?_) fun c12 H => ?_
         ·revert H
          refine nD (fun c13 c13b0 c13b1 H => ?_) fun c13 H => ?_
          ·revert H
           refine nD (fun c14 c14b0 c14b1 H => ?_) fun c14 H => ?_
           ·try have c14b2 : (9223372036854775807 < 1 + a1.size) = False := eq_false (Nat.not_lt.2 c14)
            revert H
            refine nD (fun c15 c15b0 c15b1 H => ?_) fun c15 H => ?_
            ·have c15s := c15
             simp only [ByteArray.size_append, show ((⟨#[32]⟩ : ByteArray)).size = 1 from rfl] at c15s
             have c15t := eq_true c15s
             have c15u := eq_false (Nat.not_lt.2 c15s)
             clear c15s
             try have c15b2 : (9223372036854775807 < ((⟨#[32]⟩ : ByteArray) ++ a1).size + 1) = False := eq_false (Nat.not_lt.2 c15)
             revert H
             refine cZ (fun c16b0 c16b1 H => ?_) fun c16 c16b0 c16b1 H => ?_
             ·obtain rfl := Option.some.inj H
              go_wp2
              go_ret
              exact ⟨fT, Z0⟩
             have H' := ae.mk H
             clear H
             go_wp2
             go_roundg kj7
             case measure => have := HK1.out; have := HK2.out; have := HJ7.out; omega
             case rel => exact ⟨(wrap64 (x7_2 + 1)), fT, H', ⟨by have := HK1.out; have := HK2.out; have := HJ7.out; omega⟩, Z0⟩
            exact absurd H (by simp)
           exact absurd H (by simp)
          exact absurd H (by simp)
         exact absurd H (by simp)
        exact absurd H (by simp)
       replace H := yF H
       obtain rfl := Option.some.inj H
       go_wp2
       go_ret
       exact ⟨fT, Z0⟩
end Go.Proofs.YtkbhkonenkgfoaaGreat.Q
end
section
namespace Go.Proofs.YtkbhkonenkgfoaaGreat.Q
open Go.RowKit Go.Proofs.YtkbhkonenkgfoaaGreatW.PrintWords Go.Proofs.YtkbhkonenkgfoaaGreatW.PrintLast Go.Proofs.YtkbhkonenkgfoaaGreatW.PrintMore
attribute [local go_sem] dJ dH dW dV dh df dI dG
set_option linter.unusedVariables false
set_option linter.unusedSimpArgs false
/-! ### jq: function 70 -/
def jq.f (k : Nat) (a0 : Int) (a1 : ByteArray) : Option (Bool) := if (Go.bits .and .i64 a0 2) = 0 then (if (Go.bits .and .i64 a0 8) = 0 then (if (Go.bits .and .i64 a0 16) = 0 then (if (Go.bits .and .i64 a0 32) = 0 then (some (a1.toList == ([] : List UInt8))) else (some (decide ((a1.size : Int) ≤ 1024)))) else ((dF.f k (⟨#[32, 45, 32, 110, 111, 116, 32, 108, 101, 110, 32]⟩ : ByteArray) a1).bind fun t527 => (some t527))) else ((dF.f k (⟨#[32, 43, 32, 45, 32, 42, 32, 47, 32, 37, 32, 46, 46, 32, 61, 61, 32, 33, 61, 32, 60, 32, 60, 61, 32, 97, 110, 100, 32, 111, 114, 32]⟩ : ByteArray) a1).bind fun t528 => (some t528))) else ((iH.f k a1).bind fun t529 => (some t529))
theorem jq.mono : ∀ a0 a1 k, LeO (jq.f k a0 a1) (jq.f (k + 1) a0 a1) := by
 intro a0 a1 k
 unfold jq.f
 have m0 := iH.mono
 have m1 := dF.mono
 exact yL
set_option maxHeartbeats 8000000 in
set_option maxRecDepth 100000 in
theorem jq.calls (k : Nat) (a0 : Int) (a1 : ByteArray) (r : Bool) (w : World) (h : jq.f k a0 a1 = some r) :
 Calls Tryz.prog 70 #[.int .i64 a0, .string a1] w fun e w' => e = .returned (.bool r) ∧ Below w.heap.size w w' := by
 have HB := ae.mk (Below.refl w.heap.size w)
 have H := h
 clear h
 unfold jq.f at H
 revert H
 refine cZ (fun c3b0 c3b1 H => ?_) fun c3 c3b0 c3b1 H => ?_
 ·revert H
  refine cZ (fun c4b0 c4b1 H => ?_) fun c4 c4b0 c4b1 H => ?_
  ·revert H
   refine cZ (fun c5b0 c5b1 H => ?_) fun c5 c5b0 c5b1 H => ?_
   ·revert H
    refine cZ (fun c6b0 c6b1 H => ?_) fun c6 c6b0 c6b1 H => ?_
    ·obtain rfl := Option.some.inj H
     go_enter Tryz.func70, Tryz.ntmps70
     go_wp2
     go_ret
     exact ⟨eT, bT HB⟩
    obtain rfl := Option.some.inj H
    go_enter Tryz.func70, Tryz.ntmps70
    go_wp2
    go_ret
    exact ⟨eT, bT HB⟩
   revert H
   refine yB1 fun t527 A7 H => ?_
   obtain rfl := Option.some.inj H
   go_enter Tryz.func70, Tryz.ntmps70
   go_wp2_with (first | ((with_reducible refine gC 92 rfl ?_); refine gM 92 22 rfl Tryz.func92 (dF.calls k (⟨#[32, 45, 32, 110, 111, 116, 32, 108, 101, 110, 32]⟩ : ByteArray) a1 t527 _ A7.out) ?_; rintro _ w' ⟨rfl, ⟨nd, rfl⟩⟩; refine ⟨_, rfl, ?_⟩))
   go_ret
   exact ⟨eT, bT HB⟩
  revert H
  refine yB1 fun t528 A8 H => ?_
  obtain rfl := Option.some.inj H
  go_enter Tryz.func70, Tryz.ntmps70
  go_wp2_with (first | ((with_reducible refine gC 92 rfl ?_); refine gM 92 16 rfl Tryz.func92 (dF.calls k (⟨#[32, 43, 32, 45, 32, 42, 32, 47, 32, 37, 32, 46, 46, 32, 61, 61, 32, 33, 61, 32, 60, 32, 60, 61, 32, 97, 110, 100, 32, 111, 114, 32]⟩ : ByteArray) a1 t528 _ A8.out) ?_; rintro _ w' ⟨rfl, ⟨nd, rfl⟩⟩; refine ⟨_, rfl, ?_⟩))
  go_ret
  exact ⟨eT, bT HB⟩
 revert H
 refine yB1 fun t529 A9 H => ?_
 obtain rfl := Option.some.inj H
 go_enter Tryz.func70, Tryz.ntmps70
 go_wp2_with (first | ((with_reducible refine gC 50 rfl ?_); refine gM 50 10 rfl Tryz.func50 (iH.calls k a1 t529 _ A9.out) ?_; rintro _ w10 ⟨rfl, hb⟩; refine ⟨_, rfl, yA1 (aY (bT HB) hb) ?_⟩; clear HB hb; intro HB))
 go_ret
 exact ⟨eT, bT HB⟩
end Go.Proofs.YtkbhkonenkgfoaaGreat.Q
end
