/- Walks over functions of the program, words for them, and what the functions come to; of each text only what this claim uses; no condition. -/
import Derived.Test.YtendgafpkeadhaaZRO0
import Derived.Test.YtendgafpkeadhaaZRO1
import Derived.Test.YtendgafpkeadhaaZRO3
import Derived.Test.YtendgafpkeadhaaZRO12
section
namespace Go.Proofs.Ytendgafpkeadhaa.Q
open Go.RowKit Go.Proofs.YtendgafpkeadhaaW.PrintWords Go.Proofs.YtendgafpkeadhaaW.PrintLast Go.Proofs.YtendgafpkeadhaaW.PrintMore
attribute [local go_sem] max2_int min2_int max_two min_two max_three min_three max_four min_four
set_option linter.unusedVariables false
set_option linter.unusedSimpArgs false
/-! ### dn: function 33 -/
def dn.f (l0 : List Int) : Option (Bool) := if (wrap64 ((l0.length : Int) - 1)) ≥ 0 then (if (wrap64 ((l0.length : Int) - 1)) ≤ 8 then (if 0 ≤ (wrap64 ((l0.length : Int) - 1)) then (if (wrap64 ((l0.length : Int) - 1)) < (l0.length : Int) then (if (rd l0 (wrap64 ((l0.length : Int) - 1))) = 5 then (if (wrap64 ((l0.length : Int) - 1)) ≤ (l0.length : Int) then ((jP.f (l0.take ((wrap64 ((l0.length : Int) - 1)) : Int).toNat) 4).bind fun t145 => (some t145)) else (none)) else (some false)) else (none)) else (none)) else (some false)) else (some false)
def dn.T2 : Bool × List (List Nat × List Nat) := (true, [([], []), ([0], [0]), ([1], [1]), ([2], [2]), ([3, 2], [2, 3]), ([2, 4], [2, 4]), ([5, 2], [5]), ([6], [6]), ([6], [6]), ([7, 8, 6], [6, 7, 8]), ([9, 6], [6, 9]), ([10, 6], [6, 10]), ([6, 11], [6, 11]), ([12, 6], [12]), ([13], [13]), ([13], [13]), ([14, 15, 13], [13, 14, 15]), ([13, 13], [13]), ([16, 17, 17, 13], [13, 16, 17]), ([13, 18], [13, 18]), ([19, 18, 0, 1, 2, 3, 4, 5, 6, 7, 8, 9, 10, 11, 12, 13, 14, 15, 16, 17, 18, 19], [19])])
def dn.B2 : List Nat := [0, 1, 3, 7, 15, 31, 63, 127, 127, 511, 1023, 2047, 4095, 8191, 16383, 16383, 65535, 16383, 262143, 524287, 1048575]
theorem dn.BL : rtab .any (opsOf Try.f33 2) = dn.T2 := by kernel_rfl
theorem dn.vT : waitsOk dn.T2.2 dn.B2 = true := by kernel_rfl
set_option maxHeartbeats 8000000 in
set_option maxRecDepth 100000 in
theorem dn.calls (A0 : Option Addr) (c0 : Nat) (l0 : List Int) (r : Bool) (w : World) (hr0 : Kd.C (Kd.int .i64) w A0 l0.length l0) (hc0 : l0.length ≤ c0) (h : dn.f l0 = some r) :
 Calls Try.prog 33 #[.slice A0 l0.length c0] w fun e w' => e = .returned (.bool r) ∧ Below w.heap.size w w' := by
 have HR0 := Aside0.mk hr0
 have HC0 := Aside0.mk hc0
 clear hr0 hc0
 have HB := Aside0.mk (Below.refl w.heap.size w)
 have H := h
 clear h
 unfold dn.f at H
 revert H
 refine dX (fun c2 H => ?_) fun c2 H => ?_
 ·have c2b0 : decide (0 ≤ (wrap64 ((l0.length : Int) - 1))) = true := decide_eq_true c2
  clear c2
  revert H
  refine fO (fun c3b0 H => ?_) fun c3b0 H => ?_
  ·obtain ⟨ji4, hji4⟩ : ∃ j_ : Int, (wrap64 ((l0.length : Int) - 1)) = j_ := ⟨_, rfl⟩
   replace H : (if 0 ≤ (ji4) then (if (ji4) < (l0.length : Int) then (if (rd l0 (ji4)) = 5 then (if (ji4) ≤ (l0.length : Int) then ((jP.f (l0.take ((ji4) : Int).toNat) 4).bind fun t145 => (some t145)) else (none)) else (some false)) else (none)) else (none)) = some r := by first | (rw [hji4] at H; exact H) | (simp only [hji4] at H ⊢; exact H)
   (try rw [hji4] at c2b0)
   (try rw [hji4] at c3b0)
   have hji4w : (IntKind.i64.wrap ((l0.length : Int) - 1)) = ji4 := (dE _).trans hji4
   revert H
   refine eQ (fun c5b0 H => ?_) fun c5 H => ?_
   ·revert H
    refine eQ (fun c6b0 H => ?_) fun c6 H => ?_
    ·revert H
     refine aJ (fun c7b0 c7b1 H => ?_) fun c7 c7b0 c7b1 H => ?_
     ·have c8b0 := eq_true (of_decide_eq_true Z5 : 0 ≤ (ji4))
      revert H
      refine fU (fun c9b0 c9b1 H => ?_) fun c9 H => ?_
      ·revert H
       refine yB1 fun t145 A10 H => ?_
       obtain rfl := Option.some.inj H
       go_enter Try.func33, Try.ntmps33
       try go_wp2
       refine yA1 (below_drew1 HB.out) ?_
       clear HB
       intro HB
       have p143 : 0 ≤ ((ji4) : Int) := of_decide_eq_true Z5
       have q143 : (ji4) < (l0.length : Int) := of_decide_eq_true Z5
       obtain ⟨ad143, e143, hx143_0⟩ := Kd.jF HR0.out (ji4) p143 q143
       have hw143_0 := hx143_0
       cases e143
       replace hx143_0 := (HB.out.cell (World.block_lt_of_cell? w _ hx143_0)).trans hx143_0
       replace p143 := eq_true p143
       replace q143 := eq_true q143
       obtain ⟨i012, hi012, _, hsz12, _⟩ := info_parts info3
       obtain ⟨hcut12, hA12, hC12⟩ := uI (P := Try.prog) (Value.int .i64) 0 46 3 .i64 Try.underlying46 hi012 hsz12 (some ad143) c0 l0 (ji4) (of_decide_eq_true Z5) (of_decide_eq_true Z5) HC0.out
       have HR144 := Aside0.mk (Kd.lH (h1 := fun _ => rfl) (hA12 _ (Kd.jO HR0.out)))
       have HC144 := Aside0.mk hC12
       clear hA12 hC12 hi012 hsz12
       refine jB (n := 21) (S := fun w' => w'.cell? (ad143.add ((ji4)).toNat) = some (.int .i64 (rd l0 (ji4)))) (ds := []) #[false, false, false, false, false, false, false, false, false, false, false, false, false, false, false, false, false, false, false, false, false] (by kernel_rfl) rfl rfl (((HB.out.cell (World.block_lt_of_cell? w _ hw143_0)).trans hw143_0)) (fun hHeld => ?_); refine fQ dn.BL dn.vT (fun HT_ HW_ => ?_)
       generalize w.drew = w11 at HB HR144 hx143_0 hHeld ⊢
       refine pA 0 7 (bQ 21 1) ?_
       refine pA 1 8 (bQ 21 3) ?_
       refine pA 2 9 (bQ 21 7) ?_
       refine pA 3 10 (bQ 21 15) ?_
       refine pA 4 11 (bQ 21 31) ?_
       refine pA 5 12 (bQ 21 63) ?_
       refine pA 6 13 (bQ 21 127) ?_
       refine pA 7 14 (bQ 21 255) ?_
       refine pA 8 15 (bQ 21 511) ?_
       refine pA 9 16 (bQ 21 1023) ?_
       refine nH (i := 10) (N := some 17) (v := ?_) (a' := ?_) #[true, true, true, true, true, true, true, true, true, true, true, false, false, false, false, false, false, false, false, false, false] rfl rfl (jU HT_.out HW_.out (by kernel_rfl)) (fun _ _ _ h => h) (Or.inl ⟨by rfl, ?_⟩) hHeld ?_ ?_
       rotate_left
       ·intro w' s0
        go_simp
        with_reducible rfl
       rotate_left
       ·simp only [Act.put, List.setIfInBounds_toArray, List.set_cons_zero, List.set_cons_succ, dE, dM]
        rfl
       refine pA 11 18 (bQ 21 4095) ?_
       refine pA 12 19 (bQ 21 8191) ?_
       refine pA 13 20 (bQ 21 16383) ?_
       refine pA 14 21 (bQ 21 32767) ?_
       refine pA 15 22 (bQ 21 65535) ?_
       refine pA 16 23 (bQ 21 131071) ?_
       refine lJ (i := 17) (N := some 24) (bQ 21 262143) rfl rfl (jf HT_.out (by kernel_rfl)) (by decide) (fun K hK => ?_)
       refine jY Try.func37 (by kernel_rfl) rfl #[.int .i64 4] (by rfl) rfl rfl Z49 ?_
       with_reducible refine (nJ 4 _).mono ?_
       rintro e wIs ⟨gIs, rfl, hbk, hge, hb⟩
       refine ⟨_, rfl, ?_⟩
       have n0_ := Aside0.mk (below_step Z3 hb)
       have BKIs := Aside0.mk hbk
       clear HB
       have HB := n0_
       clear n0_ hbk hge
       (try clear hb)
       refine hK.out _ _ (((HB.out.cell (World.block_lt_of_cell? w _ hw143_0)).trans hw143_0)) (fun hHeld => ?_)
       clear hK K
       refine jw (a' := ?_) ?_ ?_
       rotate_left
       ·show Act.put _ (some 24) _ = _
        simp only [Act.put, List.setIfInBounds_toArray, List.set_cons_zero, List.set_cons_succ, dE, dM]
        rfl
       refine lJ (i := 18) (N := some 25) (bQ 21 524287) rfl rfl (jf HT_.out (by kernel_rfl)) (by decide) (fun K hK => ?_)
       refine jY Try.func34 (by kernel_rfl) rfl #[.slice (some ad143) (l0.take ((ji4) : Int).toNat).length c0, .func (.func 59) #[] #[.pointer (some ⟨gIs, 0, none⟩)]] (by rfl) rfl rfl (by (try simp only [List.map_toArray, List.map_cons, List.map_nil]); first | done | (rw [show (l0.take ((ji4) : Int).toNat).length = (ji4).toNat from (by rw [List.length_take]; have h_ : ((ji4) : Int) ≤ (l0.length : Int) := of_decide_eq_true Z5; omega)] <;> rfl) | (simp only [hji4]; rfl) | rfl | (simp only [List.length_drop, List.length_take]; rfl)) ?_
       with_reducible refine (jP.calls _ _ (l0.take ((ji4) : Int).toNat) 4 t145 _ ?side1 ?side2 A10.out (hj := ?side3)).mono ?_
       (case side3 => exact BKIs.out)
       (case side1 => repeat (first | exact (Kd.C_below HR144.out HB.out) | (with_reducible refine Kd.C_alloc ?_ _) | (with_reducible refine Kd.C_drewN ?_ _) | (with_reducible refine Kd.C_drew ?_)))
       (case side2 => exact HC144.out)
       rintro e w13 ⟨rfl, hb⟩
       refine ⟨_, rfl, ?_⟩
       refine yA1 (below_step Z3 hb) ?_
       clear HB
       intro HB
       (try clear hb)
       (try clear hb2)
       (try clear hk)
       (try clear hi)
       refine hK.out _ _ (((HB.out.cell (World.block_lt_of_cell? w _ hw143_0)).trans hw143_0)) (fun hHeld => ?_)
       clear hK K
       refine jw (a' := ?_) ?_ ?_
       rotate_left
       ·show Act.put _ (some 25) _ = _
        simp only [Act.put, List.setIfInBounds_toArray, List.set_cons_zero, List.set_cons_succ, dE, dM]
        rfl
       refine pA 19 26 (bQ 21 1048575) ?_
       refine pA 20 2 (bQ 21 2097151) ?_
       refine kT (jh HT_.out (by kernel_rfl)) ?_
       try go_wp2
       go_ret
       exact ⟨by first | rfl | (simp [errW_none, errW_some] <;> rfl) | (simp only [← hji4]; first | rfl | (simp [errW_none, errW_some] <;> rfl)) | (simp [*, errW_none, errW_some] <;> rfl), Z3⟩
      exact absurd H (by simp)
     obtain rfl := Option.some.inj H
     go_enter Try.func33, Try.ntmps33
     try go_wp2
     refine yA1 (below_drew1 HB.out) ?_
     clear HB
     intro HB
     have p143 : 0 ≤ ((ji4) : Int) := of_decide_eq_true Z5
     have q143 : (ji4) < (l0.length : Int) := of_decide_eq_true Z5
     obtain ⟨ad143, e143, hx143_0⟩ := Kd.jF HR0.out (ji4) p143 q143
     have hw143_0 := hx143_0
     cases e143
     replace hx143_0 := (HB.out.cell (World.block_lt_of_cell? w _ hx143_0)).trans hx143_0
     replace p143 := eq_true p143
     replace q143 := eq_true q143
     refine jB (n := 21) (S := fun w' => w'.cell? (ad143.add ((ji4)).toNat) = some (.int .i64 (rd l0 (ji4)))) (ds := []) #[false, false, false, false, false, false, false, false, false, false, false, false, false, false, false, false, false, false, false, false, false] (by kernel_rfl) rfl rfl (((HB.out.cell (World.block_lt_of_cell? w _ hw143_0)).trans hw143_0)) (fun hHeld => ?_); refine fQ dn.BL dn.vT (fun HT_ HW_ => ?_)
     generalize w.drew = w14 at HB hx143_0 hHeld ⊢
     refine pA 0 7 (bQ 21 1) ?_
     refine pA 1 8 (bQ 21 3) ?_
     refine pA 2 9 (bQ 21 7) ?_
     refine pA 3 10 (bQ 21 15) ?_
     refine pA 4 11 (bQ 21 31) ?_
     refine pA 5 12 (bQ 21 63) ?_
     refine pA 6 13 (bQ 21 127) ?_
     refine pA 7 14 (bQ 21 255) ?_
     refine pA 8 15 (bQ 21 511) ?_
     refine pA 9 16 (bQ 21 1023) ?_
     refine nH (i := 10) (N := some 17) (v := ?_) (a' := ?_) #[true, true, true, true, true, true, true, true, true, true, true, false, false, false, false, false, false, false, false, false, false] rfl rfl (jU HT_.out HW_.out (by kernel_rfl)) (fun _ _ _ h => h) (Or.inl ⟨by rfl, ?_⟩) hHeld ?_ ?_
     rotate_left
     ·intro w' s0
      go_simp
      with_reducible rfl
     rotate_left
     ·simp only [Act.put, List.setIfInBounds_toArray, List.set_cons_zero, List.set_cons_succ, dE, dM]
      rfl
     refine pA 11 18 (bQ 21 4095) ?_
     refine pA 12 19 (bQ 21 8191) ?_
     refine pA 13 20 (bQ 21 16383) ?_
     refine pU 14 21 (bQ 21 32767) ?_
     refine pU 15 22 (bQ 21 65535) ?_
     refine pU 16 23 (bQ 21 131071) ?_
     refine pU 17 24 (bQ 21 262143) ?_
     refine pU 18 25 (bQ 21 524287) ?_
     refine pA 19 26 (bQ 21 1048575) ?_
     refine pA 20 2 (bQ 21 2097151) ?_
     refine kT (jh HT_.out (by kernel_rfl)) ?_
     try go_wp2
     go_ret
     exact ⟨by first | rfl | (simp [errW_none, errW_some] <;> rfl) | (simp only [← hji4]; first | rfl | (simp [errW_none, errW_some] <;> rfl)) | (simp [*, errW_none, errW_some] <;> rfl), Z3⟩
    exact absurd H (by simp)
   exact absurd H (by simp)
  obtain rfl := Option.some.inj H
  go_enter Try.func33, Try.ntmps33
  try go_wp2
  refine yA1 (below_drew1 HB.out) ?_
  clear HB
  intro HB
  refine jB (n := 21) (S := fun w' => True) (ds := []) #[false, false, false, false, false, false, false, false, false, false, false, false, false, false, false, false, false, false, false, false, false] (by kernel_rfl) rfl rfl trivial (fun hHeld => ?_); refine fQ dn.BL dn.vT (fun HT_ HW_ => ?_)
  generalize w.drew = w15 at HB hHeld ⊢
  refine pA 0 7 (bQ 21 1) ?_
  refine pA 1 8 (bQ 21 3) ?_
  refine pA 2 9 (bQ 21 7) ?_
  refine pA 3 10 (bQ 21 15) ?_
  refine pA 4 11 (bQ 21 31) ?_
  refine pA 5 12 (bQ 21 63) ?_
  refine pA 6 13 (bQ 21 127) ?_
  refine pU 7 14 (bQ 21 255) ?_
  refine pU 8 15 (bQ 21 511) ?_
  refine pU 9 16 (bQ 21 1023) ?_
  refine pU 10 17 (bQ 21 2047) ?_
  refine pU 11 18 (bQ 21 4095) ?_
  refine pA 12 19 (bQ 21 8191) ?_
  refine pA 13 20 (bQ 21 16383) ?_
  refine pU 14 21 (bQ 21 32767) ?_
  refine pU 15 22 (bQ 21 65535) ?_
  refine pU 16 23 (bQ 21 131071) ?_
  refine pU 17 24 (bQ 21 262143) ?_
  refine pU 18 25 (bQ 21 524287) ?_
  refine pA 19 26 (bQ 21 1048575) ?_
  refine pA 20 2 (bQ 21 2097151) ?_
  refine kT (jh HT_.out (by kernel_rfl)) ?_
  try go_wp2
  go_ret
  exact ⟨Z4, Z3⟩
 have c2b0 : decide (0 ≤ (wrap64 ((l0.length : Int) - 1))) = false := decide_eq_false c2
 clear c2
 obtain rfl := Option.some.inj H
 go_enter Try.func33, Try.ntmps33
 try go_wp2
 refine yA1 (below_drew1 HB.out) ?_
 clear HB
 intro HB
 refine jB (n := 21) (S := fun w' => True) (ds := []) #[false, false, false, false, false, false, false, false, false, false, false, false, false, false, false, false, false, false, false, false, false] (by kernel_rfl) rfl rfl trivial (fun hHeld => ?_); refine fQ dn.BL dn.vT (fun HT_ HW_ => ?_)
 generalize w.drew = w16 at HB hHeld ⊢
 refine pA 0 7 (bQ 21 1) ?_
 refine pA 1 8 (bQ 21 3) ?_
 refine pA 2 9 (bQ 21 7) ?_
 refine pU 3 10 (bQ 21 15) ?_
 refine pU 4 11 (bQ 21 31) ?_
 refine pA 5 12 (bQ 21 63) ?_
 refine pA 6 13 (bQ 21 127) ?_
 refine pU 7 14 (bQ 21 255) ?_
 refine pU 8 15 (bQ 21 511) ?_
 refine pU 9 16 (bQ 21 1023) ?_
 refine pU 10 17 (bQ 21 2047) ?_
 refine pU 11 18 (bQ 21 4095) ?_
 refine pA 12 19 (bQ 21 8191) ?_
 refine pA 13 20 (bQ 21 16383) ?_
 refine pU 14 21 (bQ 21 32767) ?_
 refine pU 15 22 (bQ 21 65535) ?_
 refine pU 16 23 (bQ 21 131071) ?_
 refine pU 17 24 (bQ 21 262143) ?_
 refine pU 18 25 (bQ 21 524287) ?_
 refine pA 19 26 (bQ 21 1048575) ?_
 refine pA 20 2 (bQ 21 2097151) ?_
 refine kT (jh HT_.out (by kernel_rfl)) ?_
 try go_wp2
 go_ret
 exact ⟨Z4, Z3⟩
end Go.Proofs.Ytendgafpkeadhaa.Q
end
section
namespace Go.Proofs.Ytendgafpkeadhaa.Q
open Go.RowKit Go.Proofs.YtendgafpkeadhaaW.PrintWords Go.Proofs.YtendgafpkeadhaaW.PrintLast Go.Proofs.YtendgafpkeadhaaW.PrintMore
attribute [local go_sem] max2_int min2_int max_two min_two max_three min_three max_four min_four
set_option linter.unusedVariables false
set_option linter.unusedSimpArgs false
/-! ### tree_Stmt: function 35 -/
/-! ### gm: function 36 -/
def gm.f (a0 : Int) : Option (Bool) := if a0 ≥ 18 then (some (decide (a0 ≤ 30))) else (some false)
set_option maxHeartbeats 8000000 in
set_option maxRecDepth 100000 in
theorem gm.calls (a0 : Int) (r : Bool) (w : World) (h : gm.f a0 = some r) :
 Calls Try.prog 36 #[.int .i64 a0] w fun e w' => e = .returned (.bool r) ∧ dw w w' := by
 have H := h
 clear h
 unfold gm.f at H
 revert H
 refine dX (fun c2 H => ?_) fun c2 H => ?_
 ·have c2b0 : decide (18 ≤ a0) = true := decide_eq_true c2
  clear c2
  obtain rfl := Option.some.inj H
  go_enter Try.func36, Try.ntmps36
  go_wp2
  go_ret
  exact ⟨Z6, Z8⟩
 have c2b0 : decide (18 ≤ a0) = false := decide_eq_false c2
 clear c2
 obtain rfl := Option.some.inj H
 go_enter Try.func36, Try.ntmps36
 go_wp2
 go_ret
 exact ⟨Z6, Z8⟩
/-! ### eH: function 38 -/
def eH.f (l0 : List Int) (a1 : Int) (a2 : Int) : Option (Bool) := if (l0.length : Int) ≥ a1 then (if (l0.length : Int) ≤ a2 then ((nN.f l0).bind fun t146 => (some t146)) else (some false)) else (some false)
set_option maxHeartbeats 8000000 in
set_option maxRecDepth 100000 in
theorem eH.calls (A0 : Option Addr) (c0 : Nat) (l0 : List Int) (a1 : Int) (a2 : Int) (r : Bool) (w : World) (hr0 : Kd.C (Kd.int .i64) w A0 l0.length l0) (hc0 : l0.length ≤ c0) (h : eH.f l0 a1 a2 = some r) :
 Calls Try.prog 38 #[.slice A0 l0.length c0, .int .i64 a1, .int .i64 a2] w fun e w' => e = .returned (.bool r) ∧ dw w w' := by
 have HR0 := Aside0.mk hr0
 have HC0 := Aside0.mk hc0
 clear hr0 hc0
 have H := h
 clear h
 unfold eH.f at H
 revert H
 refine dX (fun c4 H => ?_) fun c4 H => ?_
 ·have c4b0 : decide (a1 ≤ (l0.length : Int)) = true := decide_eq_true c4
  clear c4
  revert H
  refine fO (fun c5b0 H => ?_) fun c5b0 H => ?_
  ·revert H
   refine yB1 fun t146 A6 H => ?_
   obtain rfl := Option.some.inj H
   go_enter Try.func38, Try.ntmps38
   go_wp2_with (first | (go_at_call 34; (with_reducible refine (nN.calls _ _ l0 t146 _ ?side1 ?side2 A6.out).mono ?_); (case side1 => exact Z54); (case side2 => exact HC0.out); rintro e w' ⟨rfl, ⟨nd, rfl⟩⟩))
   go_ret
   exact ⟨Z6, Z8⟩
  obtain rfl := Option.some.inj H
  go_enter Try.func38, Try.ntmps38
  go_wp2
  go_ret
  exact ⟨Z6, Z8⟩
 have c4b0 : decide (a1 ≤ (l0.length : Int)) = false := decide_eq_false c4
 clear c4
 obtain rfl := Option.some.inj H
 go_enter Try.func38, Try.ntmps38
 go_wp2
 go_ret
 exact ⟨Z6, Z8⟩
end Go.Proofs.Ytendgafpkeadhaa.Q
end
section
namespace Go.Proofs.Ytendgafpkeadhaa.Q
open Go.RowKit Go.Proofs.YtendgafpkeadhaaW.PrintWords Go.Proofs.YtendgafpkeadhaaW.PrintLast Go.Proofs.YtendgafpkeadhaaW.PrintMore
attribute [local go_sem] max2_int min2_int max_two min_two max_three min_three max_four min_four
set_option linter.unusedVariables false
set_option linter.unusedSimpArgs false
/-! ### aW: function 21 -/
mutual
def aW.j0 : Nat → Int → List Int → Int → Int → Bool → Option (Bool)
 | 0, _, _, _, _, _ => none
 | k + 1, x0, x1, x5, x9, x14 => if x14 = true then ((dn.f x1).bind fun t148 => (some t148)) else (if x9 = 5 then ((qC.f x1).bind fun t149 => (some t149)) else (if x9 = 9 then (aW.j1 k x0 x1 x5 x9 (x9 == 9)) else (aW.j1 k x0 x1 x5 x9 (x9 == 10))))
def aW.j1 : Nat → Int → List Int → Int → Int → Bool → Option (Bool)
 | 0, _, _, _, _, _ => none
 | k + 1, x0, x1, x5, x9, x23 => if x23 = true then (if x0 = 9 then (if x5 ≥ 2 then (if x5 ≤ 3 then (if 0 < (x1.length : Int) then ((gm.f (rd x1 0)).bind fun t151 => (if t151 = true then (if 1 ≤ (x1.length : Int) then ((jP.f (x1.drop 1) 5).bind fun t153 => (some t153)) else (none)) else (some false))) else (none)) else (some false)) else (some false)) else (if x5 ≥ 2 then (if x5 ≤ 2 then (if 0 < (x1.length : Int) then ((gm.f (rd x1 0)).bind fun t155 => (if t155 = true then (if 1 ≤ (x1.length : Int) then ((jP.f (x1.drop 1) 5).bind fun t157 => (some t157)) else (none)) else (some false))) else (none)) else (some false)) else (some false))) else (if x9 = 8 then ((eH.f x1 3 3).bind fun t158 => (some t158)) else (if x9 = 6 then (aW.j2 k x1 x5 x9 (x9 == 6)) else (if x9 = 7 then (aW.j2 k x1 x5 x9 (x9 == 7)) else (if x9 = 13 then (aW.j2 k x1 x5 x9 (x9 == 13)) else (if x9 = 14 then (aW.j2 k x1 x5 x9 (x9 == 14)) else (if x9 = 15 then (aW.j2 k x1 x5 x9 (x9 == 15)) else (if x9 = 17 then (aW.j2 k x1 x5 x9 (x9 == 17)) else (if x9 = 28 then (aW.j2 k x1 x5 x9 (x9 == 28)) else (aW.j2 k x1 x5 x9 (x9 == 30))))))))))
def aW.j2 : Nat → List Int → Int → Int → Bool → Option (Bool)
 | 0, _, _, _, _ => none
 | k + 1, x1, x5, x9, x51 => if x51 = true then ((eH.f x1 1 1).bind fun t159 => (some t159)) else (if x9 = 22 then ((eH.f x1 1 9).bind fun t160 => (some t160)) else (if x9 = 23 then ((eH.f x1 0 8).bind fun t161 => (some t161)) else (if x9 = 26 then ((eH.f x1 2 2).bind fun t162 => (some t162)) else (if x9 = 27 then ((eH.f x1 2 2).bind fun t163 => (some t163)) else (some (x5 == 0))))))
end
def aW.f (k : Nat) (a0 : Int) (l1 : List Int) : Option (Bool) := if a0 = 1 then ((cZ.f k l1).bind fun t147 => (some t147)) else (if a0 = 3 then (aW.j0 k a0 l1 (l1.length : Int) a0 (a0 == 3)) else (aW.j0 k a0 l1 (l1.length : Int) a0 (a0 == 24)))
theorem aW.mono_l : ∀ k, (∀ y0 y1 y2 y3 y4, LeO (aW.j0 k y0 y1 y2 y3 y4) (aW.j0 (k + 1) y0 y1 y2 y3 y4)) ∧ (∀ y0 y1 y2 y3 y4, LeO (aW.j1 k y0 y1 y2 y3 y4) (aW.j1 (k + 1) y0 y1 y2 y3 y4)) ∧ (∀ y0 y1 y2 y3, LeO (aW.j2 k y0 y1 y2 y3) (aW.j2 (k + 1) y0 y1 y2 y3))
 | 0 => ⟨fun _ _ _ _ _ r h => by simp [aW.j0] at h, fun _ _ _ _ _ r h => by simp [aW.j1] at h, fun _ _ _ _ r h => by simp [aW.j2] at h⟩
 | k + 1 => by
  obtain ⟨ih0, ih1, ih2⟩ := aW.mono_l k
  refine ⟨?_, ?_, ?_⟩
  ·intro y0 y1 y2 y3 y4
   unfold aW.j0
   have m0 := cZ.mono
   exact yL
  ·intro y0 y1 y2 y3 y4
   unfold aW.j1
   have m0 := cZ.mono
   exact yL
  intro y0 y1 y2 y3
  unfold aW.j2
  have m0 := cZ.mono
  exact yL
theorem aW.mono : ∀ a0 a1 k, LeO (aW.f k a0 a1) (aW.f (k + 1) a0 a1) := by
 intro a0 a1 k
 obtain ⟨ih0, ih1, ih2⟩ := aW.mono_l k
 unfold aW.f
 have m0 := cZ.mono
 exact yL
def aW.T15 : Bool × List (List Nat × List Nat) := (true, [([], []), ([0], [0]), ([1], [1]), ([2], [2]), ([2], [2]), ([3, 4, 2], [2, 3, 4]), ([2, 5], [2, 5]), ([6, 2], [6]), ([7], [7]), ([8, 7], [7, 8]), ([9, 7], [7, 9]), ([10, 7, 7], [7, 10]), ([7, 11], [7, 11]), ([12, 11], [12]), ([13], [13]), ([14, 13], [13, 14]), ([13, 13], [13]), ([15, 16, 16, 13], [13, 15, 16]), ([13, 17], [13, 17]), ([18, 17, 0, 1, 2, 3, 4, 5, 6, 7, 8, 9, 10, 11, 12, 13, 14, 15, 16, 17, 18], [18])])
def aW.B15 : List Nat := [0, 1, 3, 7, 7, 31, 63, 127, 255, 511, 1023, 2047, 4095, 8191, 16383, 32767, 16383, 131071, 262143, 524287]
theorem aW.qX : rtab .any (opsOf Try.f21 15) = aW.T15 := by kernel_rfl
theorem aW.nV : waitsOk aW.T15.2 aW.B15 = true := by kernel_rfl
set_option maxHeartbeats 8000000 in
set_option maxRecDepth 100000 in
theorem aW.calls (k : Nat) (a0 : Int) (A1 : Option Addr) (c1 : Nat) (l1 : List Int) (r : Bool) (w : World) (hr1 : Kd.C (Kd.int .i64) w A1 l1.length l1) (hc1 : l1.length ≤ c1) (h : aW.f k a0 l1 = some r) :
 Calls Try.prog 21 #[.int .i64 a0, .slice A1 l1.length c1] w fun e w' => e = .returned (.bool r) ∧ Below w.heap.size w w' := by
 have HR1 := Aside0.mk hr1
 have HC1 := Aside0.mk hc1
 clear hr1 hc1
 have HB := Aside0.mk (Below.refl w.heap.size w)
 have H := h
 clear h
 unfold aW.f at H
 revert H
 refine aJ (fun c3b0 c3b1 H => ?_) fun c3 c3b0 c3b1 H => ?_
 ·revert H
  refine yB1 fun t147 A4 H => ?_
  obtain rfl := Option.some.inj H
  go_enter Try.func21, Try.ntmps21
  go_wp2_with (first | ((with_reducible refine gC 32 rfl ?_); refine gM 32 13 rfl Try.func32 (cZ.calls k _ _ l1 t147 _ (by repeat (first | exact HR1.out | (with_reducible refine Kd.C_alloc ?_ _) | (with_reducible refine Kd.C_drewN ?_ _) | (with_reducible refine Kd.C_drew ?_))) HC1.out A4.out) ?_; rintro _ w5 ⟨rfl, hb⟩; refine ⟨_, rfl, yA1 (below_step Z3 hb) ?_⟩; clear HB hb; intro HB))
  go_ret
  exact ⟨Z4, Z3⟩
 have HC6 := Aside0.mk H
 clear H
 go_enter Try.func21, Try.ntmps21
 go_upto_if 14 with (fail)
 go_cut [14] (fun v14 wc => ∃ (kq : Nat) (x14_5 : Bool), v14 = .bool x14_5 ∧ Aside0 (aW.j0 kq a0 l1 (l1.length : Int) a0 x14_5 = some r) ∧ Aside0 (kq ≤ k) ∧ Aside0 (Below w.heap.size w wc))
 case first =>
  have H := HC6.out
  clear HC6
  revert H
  refine aJ (fun c7b0 c7b1 H => ?_) fun c7 c7b0 c7b1 H => ?_
  ·(first | rw [c7b0] | (simp only [dE, dM]; rw [c7b0]) | skip)
   have H' := Aside0.mk H
   clear H
   go_wp2
   go_meet
   case rel => exact ⟨_, ((a0 == 3)), Z6, H', ⟨Z38⟩, ⟨Z3⟩⟩
  (first | rw [c7b0] | (simp only [dE, dM]; rw [c7b0]) | skip)
  have H' := Aside0.mk H
  clear H
  go_wp2
  go_meet
  case rel => exact ⟨_, ((a0 == 24)), Z6, H', ⟨Z38⟩, ⟨Z3⟩⟩
 case rest =>
  clear HC6
  try clear c1
  try clear c2
  try clear p2
  try clear c3
  try clear c3b0
  try clear c3b1
  try clear c7
  try clear c7b0
  try clear c7b1
  obtain ⟨kq, x14_5, rfl, HA, HJ5, HB⟩ := hcut
  cases kq with
  | zero => exact absurd HA.out (by simp [aW.j0])
  | succ kj5 =>
   have H := HA.out
   clear HA
   simp only [aW.j0] at H
   cases x14_5
   rotate_left
   ·replace H := yT H
    revert H
    refine yB1 fun t148 A9 H => ?_
    obtain rfl := Option.some.inj H
    go_wp2_with (first | ((with_reducible refine gC 33 rfl ?_); refine gM 33 18 rfl Try.func33 (dn.calls _ _ l1 t148 _ Z37 HC1.out A9.out) ?_; rintro _ w10 ⟨rfl, hb⟩; refine ⟨_, rfl, yA1 (below_step Z3 hb) ?_⟩; clear HB hb; intro HB))
    go_ret
    exact ⟨Z4, Z3⟩
   replace H := yF H
   revert H
   refine aJ (fun c11b0 c11b1 H => ?_) fun c11 c11b0 c11b1 H => ?_
   ·revert H
    refine yB1 fun t149 A12 H => ?_
    obtain rfl := Option.some.inj H
    go_wp2_with (first | ((with_reducible refine gC 34 rfl ?_); refine gM 34 22 rfl Try.func34 (qC.calls _ _ l1 t149 _ Z37 HC1.out A12.out) ?_; rintro _ w' ⟨rfl, ⟨nd, rfl⟩⟩; refine ⟨_, rfl, ?_⟩))
    go_ret
    exact ⟨Z4, Z3⟩
   have HC13 := Aside0.mk H
   clear H
   go_upto_if 23 with (fail)
   go_cut [23] (fun v23 wc => ∃ (kq : Nat) (x23_12 : Bool), v23 = .bool x23_12 ∧ Aside0 (aW.j1 kq a0 l1 (l1.length : Int) a0 x23_12 = some r) ∧ Aside0 (kq ≤ kj5) ∧ Aside0 (Below w.heap.size w wc))
   case first =>
    have H := HC13.out
    clear HC13
    revert H
    refine aJ (fun c14b0 c14b1 H => ?_) fun c14 c14b0 c14b1 H => ?_
    ·(first | rw [c14b0] | (simp only [dE, dM]; rw [c14b0]) | skip)
     have H' := Aside0.mk H
     clear H
     go_wp2
     go_meet
     case rel => exact ⟨_, ((a0 == 9)), Z6, H', ⟨by have := HJ5.out; first | omega | exact Nat.le_refl _⟩, ⟨Z3⟩⟩
    (first | rw [c14b0] | (simp only [dE, dM]; rw [c14b0]) | skip)
    have H' := Aside0.mk H
    clear H
    go_wp2
    go_meet
    case rel => exact ⟨_, ((a0 == 10)), Z6, H', ⟨by have := HJ5.out; first | omega | exact Nat.le_refl _⟩, ⟨Z3⟩⟩
   case rest =>
    clear HC13
    try clear c1
    try clear c2
    try clear p2
    try clear c3
    try clear c3b0
    try clear c3b1
    try clear c7
    try clear c7b0
    try clear c7b1
    try clear c8
    try clear c9
    try clear c11
    try clear c11b0
    try clear c11b1
    try clear c14
    try clear c14b0
    try clear c14b1
    try clear p2
    obtain ⟨kq, x23_12, rfl, HA, HJ12, HB⟩ := hcut
    cases kq with
    | zero => exact absurd HA.out (by simp [aW.j1])
    | succ kj12 =>
     have H := HA.out
     clear HA
     simp only [aW.j1] at H
     cases x23_12
     rotate_left
     ·replace H := yT H
      revert H
      refine aJ (fun c16b0 c16b1 H => ?_) fun c16 c16b0 c16b1 H => ?_
      ·revert H
       refine dX (fun c17 H => ?_) fun c17 H => ?_
       ·have c17b0 : decide (2 ≤ (l1.length : Int)) = true := decide_eq_true c17
        have c17b1 : decide (2 ≤ l1.length) = true := decide_eq_true (by omega)
        clear c17
        revert H
        refine wV (fun c18 c18b0 H => ?_) fun c18 c18b0 H => ?_
        ·have c18b1 : decide (l1.length ≤ 3) = true := decide_eq_true (by omega)
         clear c18
         revert H
         refine jX (fun c19 c19b0 H => ?_) fun c19 H => ?_
         ·have c19b1 : decide (0 < l1.length) = true := decide_eq_true (by omega)
          clear c19
          revert H
          refine yB1 fun t151 A20 H => ?_
          cases t151
          rotate_left
          ·replace H := yT H
           revert H
           refine fU (fun c22b0 c22b1 H => ?_) fun c22 H => ?_
           ·revert H
            refine yB1 fun t153 A23 H => ?_
            obtain rfl := Option.some.inj H
            try go_wp2
            refine yA1 (below_drew1 HB.out) ?_
            clear HB
            intro HB
            have p150 : 0 ≤ (0 : Int) := (by omega)
            have q150 : 0 < (l1.length : Int) := of_decide_eq_true Z5
            obtain ⟨ad150, e150, hx150_0⟩ := Kd.jF HR1.out 0 p150 q150
            have hw150_0 := hx150_0
            (try rw [show ((0 : Int)).toNat = 0 from rfl] at hw150_0)
            (try rw [show 0 * 1 = 0 from rfl] at hw150_0)
            (try rw [Addr.add_zero'] at hw150_0)
            cases e150
            have qi150 : (0 < l1.length) = True := eq_true (by omega)
            (try rw [show ((0 : Int)).toNat = 0 from rfl] at hx150_0)
            (try rw [Addr.add_zero'] at hx150_0)
            replace hx150_0 := (HB.out.cell (World.block_lt_of_cell? w _ hx150_0)).trans hx150_0
            replace p150 := eq_true p150
            replace q150 := eq_true q150
            refine jB (n := 20) (S := fun w' => w'.cell? ad150 = some (.int .i64 (rd l1 0))) (ds := []) #[false, false, false, false, false, false, false, false, false, false, false, false, false, false, false, false, false, false, false, false] (by kernel_rfl) rfl rfl (((HB.out.cell (World.block_lt_of_cell? w _ hw150_0)).trans hw150_0)) (fun hHeld => ?_); refine fQ aW.qX aW.nV (fun HT_ HW_ => ?_)
            generalize wc.drew = w24 at HB hx150_0 hHeld ⊢
            refine pA 0 28 (bQ 20 1) ?_
            refine pA 1 29 (bQ 20 3) ?_
            refine pA 2 30 (bQ 20 7) ?_
            refine pA 3 31 (bQ 20 15) ?_
            refine pA 4 32 (bQ 20 31) ?_
            refine pA 5 33 (bQ 20 63) ?_
            refine pA 6 34 (bQ 20 127) ?_
            refine pA 7 35 (bQ 20 255) ?_
            refine pA 8 36 (bQ 20 511) ?_
            refine pA 9 37 (bQ 20 1023) ?_
            refine nH (i := 10) (N := some 38) (v := ?_) (a' := ?_) #[true, true, true, true, true, true, true, true, true, true, true, false, false, false, false, false, false, false, false, false] rfl rfl (jU HT_.out HW_.out (by kernel_rfl)) (fun _ _ _ h => h) (Or.inl ⟨by rfl, ?_⟩) hHeld ?_ ?_
            rotate_left
            ·intro w' s0
             go_simp
             with_reducible rfl
            rotate_left
            ·simp only [Act.put, List.setIfInBounds_toArray, List.set_cons_zero, List.set_cons_succ, dE, dM]
             rfl
            refine lJ (i := 11) (N := some 39) (bQ 20 4095) rfl rfl (jf HT_.out (by kernel_rfl)) (by decide) (fun K hK => ?_)
            refine jY Try.func36 (by kernel_rfl) rfl #[.int .i64 (rd l1 0)] (by rfl) rfl rfl Z39 ?_
            with_reducible refine (gm.calls (rd l1 0) true _ A20.out).mono ?_
            rintro e w' ⟨rfl, ⟨nd, rfl⟩⟩
            refine ⟨_, rfl, ?_⟩
            obtain ⟨i025, hi025, _, hsz25, _⟩ := info_parts info3
            obtain ⟨A25, hcut25, hA25, hC25⟩ := kH (P := Try.prog) (Value.int .i64) 0 46 3 .i64 Try.underlying46 hi025 hsz25 (some ad150) c1 l1 1 (by omega) (of_decide_eq_true Z5) HC1.out
            have HR152 := Aside0.mk (Kd.lH (h1 := fun _ => rfl) (hA25 _ (Kd.jO HR1.out)))
            have HC152 := Aside0.mk hC25
            clear hA25 hC25 hi025 hsz25
            refine hK.out _ _ (((HB.out.cell (World.block_lt_of_cell? w _ hw150_0)).trans hw150_0)) (fun hHeld => ?_)
            clear hK K
            refine jw (a' := ?_) ?_ ?_
            rotate_left
            ·show Act.put _ (some 39) _ = _
             simp only [Act.put, List.setIfInBounds_toArray, List.set_cons_zero, List.set_cons_succ, dE, dM]
             rfl
            refine pA 12 40 (bQ 20 8191) ?_
            refine pA 13 41 (bQ 20 16383) ?_
            refine pA 14 42 (bQ 20 32767) ?_
            refine pA 15 43 (bQ 20 65535) ?_
            refine lJ (i := 16) (N := some 44) (bQ 20 131071) rfl rfl (jf HT_.out (by kernel_rfl)) (by decide) (fun K hK => ?_)
            refine jY Try.func37 (by kernel_rfl) rfl #[.int .i64 5] (by rfl) rfl rfl Z49 ?_
            with_reducible refine (nJ 5 _).mono ?_
            rintro e wIs ⟨gIs, rfl, hbk, hge, hb⟩
            refine ⟨_, rfl, ?_⟩
            have n0_ := Aside0.mk (below_step Z3 hb)
            have BKIs := Aside0.mk hbk
            clear HB
            have HB := n0_
            clear n0_ hbk hge
            (try clear hb)
            refine hK.out _ _ (((HB.out.cell (World.block_lt_of_cell? w _ hw150_0)).trans hw150_0)) (fun hHeld => ?_)
            clear hK K
            refine jw (a' := ?_) ?_ ?_
            rotate_left
            ·show Act.put _ (some 44) _ = _
             simp only [Act.put, List.setIfInBounds_toArray, List.set_cons_zero, List.set_cons_succ, dE, dM]
             rfl
            refine lJ (i := 17) (N := some 45) (bQ 20 262143) rfl rfl (jf HT_.out (by kernel_rfl)) (by decide) (fun K hK => ?_)
            refine jY Try.func34 (by kernel_rfl) rfl #[.slice A25 (l1.drop 1).length (c1 - 1), .func (.func 59) #[] #[.pointer (some ⟨gIs, 0, none⟩)]] (by rfl) rfl rfl (by (try simp only [List.map_toArray, List.map_cons, List.map_nil]); first | done | (rw [show (l1.drop 1).length = (l1.length - 1) from List.length_drop] <;> rfl) | rfl | (simp only [List.length_drop, List.length_take]; rfl)) ?_
            with_reducible refine (jP.calls _ _ (l1.drop 1) 5 t153 _ ?side1 ?side2 A23.out (hj := ?side3)).mono ?_
            (case side3 => exact BKIs.out)
            (case side1 => repeat (first | exact (Kd.C_below HR152.out Z3) | (with_reducible refine Kd.C_alloc ?_ _) | (with_reducible refine Kd.C_drewN ?_ _) | (with_reducible refine Kd.C_drew ?_)))
            (case side2 => exact HC152.out)
            rintro e w26 ⟨rfl, hb⟩
            refine ⟨_, rfl, ?_⟩
            refine yA1 (below_step Z3 hb) ?_
            clear HB
            intro HB
            (try clear hb)
            (try clear hb2)
            (try clear hk)
            (try clear hi)
            refine hK.out _ _ (((HB.out.cell (World.block_lt_of_cell? w _ hw150_0)).trans hw150_0)) (fun hHeld => ?_)
            clear hK K
            refine jw (a' := ?_) ?_ ?_
            rotate_left
            ·show Act.put _ (some 45) _ = _
             simp only [Act.put, List.setIfInBounds_toArray, List.set_cons_zero, List.set_cons_succ, dE, dM]
             rfl
            refine pA 18 46 (bQ 20 524287) ?_
            refine pA 19 4 (bQ 20 1048575) ?_
            refine kT (jh HT_.out (by kernel_rfl)) ?_
            try go_wp2
            go_ret
            exact ⟨Z4, Z3⟩
           exact absurd H (by simp)
          replace H := yF H
          obtain rfl := Option.some.inj H
          try go_wp2
          refine yA1 (below_drew1 HB.out) ?_
          clear HB
          intro HB
          have p150 : 0 ≤ (0 : Int) := (by omega)
          have q150 : 0 < (l1.length : Int) := of_decide_eq_true Z5
          obtain ⟨ad150, e150, hx150_0⟩ := Kd.jF HR1.out 0 p150 q150
          have hw150_0 := hx150_0
          (try rw [show ((0 : Int)).toNat = 0 from rfl] at hw150_0)
          (try rw [show 0 * 1 = 0 from rfl] at hw150_0)
          (try rw [Addr.add_zero'] at hw150_0)
          cases e150
          have qi150 : (0 < l1.length) = True := eq_true (by omega)
          (try rw [show ((0 : Int)).toNat = 0 from rfl] at hx150_0)
          (try rw [Addr.add_zero'] at hx150_0)
          replace hx150_0 := (HB.out.cell (World.block_lt_of_cell? w _ hx150_0)).trans hx150_0
          replace p150 := eq_true p150
          replace q150 := eq_true q150
          refine jB (n := 20) (S := fun w' => w'.cell? ad150 = some (.int .i64 (rd l1 0))) (ds := []) #[false, false, false, false, false, false, false, false, false, false, false, false, false, false, false, false, false, false, false, false] (by kernel_rfl) rfl rfl (((HB.out.cell (World.block_lt_of_cell? w _ hw150_0)).trans hw150_0)) (fun hHeld => ?_); refine fQ aW.qX aW.nV (fun HT_ HW_ => ?_)
          generalize wc.drew = w27 at HB hx150_0 hHeld ⊢
          refine pA 0 28 (bQ 20 1) ?_
          refine pA 1 29 (bQ 20 3) ?_
          refine pA 2 30 (bQ 20 7) ?_
          refine pA 3 31 (bQ 20 15) ?_
          refine pA 4 32 (bQ 20 31) ?_
          refine pA 5 33 (bQ 20 63) ?_
          refine pA 6 34 (bQ 20 127) ?_
          refine pA 7 35 (bQ 20 255) ?_
          refine pA 8 36 (bQ 20 511) ?_
          refine pA 9 37 (bQ 20 1023) ?_
          refine nH (i := 10) (N := some 38) (v := ?_) (a' := ?_) #[true, true, true, true, true, true, true, true, true, true, true, false, false, false, false, false, false, false, false, false] rfl rfl (jU HT_.out HW_.out (by kernel_rfl)) (fun _ _ _ h => h) (Or.inl ⟨by rfl, ?_⟩) hHeld ?_ ?_
          rotate_left
          ·intro w' s0
           go_simp
           with_reducible rfl
          rotate_left
          ·simp only [Act.put, List.setIfInBounds_toArray, List.set_cons_zero, List.set_cons_succ, dE, dM]
           rfl
          refine lJ (i := 11) (N := some 39) (bQ 20 4095) rfl rfl (jf HT_.out (by kernel_rfl)) (by decide) (fun K hK => ?_)
          refine jY Try.func36 (by kernel_rfl) rfl #[.int .i64 (rd l1 0)] (by rfl) rfl rfl Z39 ?_
          with_reducible refine (gm.calls (rd l1 0) false _ A20.out).mono ?_
          rintro e w' ⟨rfl, ⟨nd, rfl⟩⟩
          refine ⟨_, rfl, ?_⟩
          refine hK.out _ _ (((HB.out.cell (World.block_lt_of_cell? w _ hw150_0)).trans hw150_0)) (fun hHeld => ?_)
          clear hK K
          refine jw (a' := ?_) ?_ ?_
          rotate_left
          ·show Act.put _ (some 39) _ = _
           simp only [Act.put, List.setIfInBounds_toArray, List.set_cons_zero, List.set_cons_succ, dE, dM]
           rfl
          refine pA 12 40 (bQ 20 8191) ?_
          refine pA 13 41 (bQ 20 16383) ?_
          refine pU 14 42 (bQ 20 32767) ?_
          refine pU 15 43 (bQ 20 65535) ?_
          refine pU 16 44 (bQ 20 131071) ?_
          refine pU 17 45 (bQ 20 262143) ?_
          refine pA 18 46 (bQ 20 524287) ?_
          refine pA 19 4 (bQ 20 1048575) ?_
          refine kT (jh HT_.out (by kernel_rfl)) ?_
          try go_wp2
          go_ret
          exact ⟨Z4, Z3⟩
         exact absurd H (by simp)
        have c18b1 : decide (l1.length ≤ 3) = false := decide_eq_false (by omega)
        clear c18
        obtain rfl := Option.some.inj H
        try go_wp2
        refine yA1 (below_drew1 HB.out) ?_
        clear HB
        intro HB
        refine jB (n := 20) (S := fun w' => True) (ds := []) #[false, false, false, false, false, false, false, false, false, false, false, false, false, false, false, false, false, false, false, false] (by kernel_rfl) rfl rfl trivial (fun hHeld => ?_); refine fQ aW.qX aW.nV (fun HT_ HW_ => ?_)
        generalize wc.drew = w28 at HB hHeld ⊢
        refine pA 0 28 (bQ 20 1) ?_
        refine pA 1 29 (bQ 20 3) ?_
        refine pA 2 30 (bQ 20 7) ?_
        refine pA 3 31 (bQ 20 15) ?_
        refine pA 4 32 (bQ 20 31) ?_
        refine pA 5 33 (bQ 20 63) ?_
        refine pA 6 34 (bQ 20 127) ?_
        refine pA 7 35 (bQ 20 255) ?_
        refine pU 8 36 (bQ 20 511) ?_
        refine pU 9 37 (bQ 20 1023) ?_
        refine pU 10 38 (bQ 20 2047) ?_
        refine pU 11 39 (bQ 20 4095) ?_
        refine pA 12 40 (bQ 20 8191) ?_
        refine pA 13 41 (bQ 20 16383) ?_
        refine pU 14 42 (bQ 20 32767) ?_
        refine pU 15 43 (bQ 20 65535) ?_
        refine pU 16 44 (bQ 20 131071) ?_
        refine pU 17 45 (bQ 20 262143) ?_
        refine pA 18 46 (bQ 20 524287) ?_
        refine pA 19 4 (bQ 20 1048575) ?_
        refine kT (jh HT_.out (by kernel_rfl)) ?_
        try go_wp2
        go_ret
        exact ⟨Z4, Z3⟩
       have c17b0 : decide (2 ≤ (l1.length : Int)) = false := decide_eq_false c17
       have c17b1 : decide (2 ≤ l1.length) = false := decide_eq_false (by omega)
       clear c17
       obtain rfl := Option.some.inj H
       try go_wp2
       refine yA1 (below_drew1 HB.out) ?_
       clear HB
       intro HB
       refine jB (n := 20) (S := fun w' => True) (ds := []) #[false, false, false, false, false, false, false, false, false, false, false, false, false, false, false, false, false, false, false, false] (by kernel_rfl) rfl rfl trivial (fun hHeld => ?_); refine fQ aW.qX aW.nV (fun HT_ HW_ => ?_)
       generalize wc.drew = w29 at HB hHeld ⊢
       refine pA 0 28 (bQ 20 1) ?_
       refine pA 1 29 (bQ 20 3) ?_
       refine pA 2 30 (bQ 20 7) ?_
       refine pU 3 31 (bQ 20 15) ?_
       refine pU 4 32 (bQ 20 31) ?_
       refine pU 5 33 (bQ 20 63) ?_
       refine pA 6 34 (bQ 20 127) ?_
       refine pA 7 35 (bQ 20 255) ?_
       refine pU 8 36 (bQ 20 511) ?_
       refine pU 9 37 (bQ 20 1023) ?_
       refine pU 10 38 (bQ 20 2047) ?_
       refine pU 11 39 (bQ 20 4095) ?_
       refine pA 12 40 (bQ 20 8191) ?_
       refine pA 13 41 (bQ 20 16383) ?_
       refine pU 14 42 (bQ 20 32767) ?_
       refine pU 15 43 (bQ 20 65535) ?_
       refine pU 16 44 (bQ 20 131071) ?_
       refine pU 17 45 (bQ 20 262143) ?_
       refine pA 18 46 (bQ 20 524287) ?_
       refine pA 19 4 (bQ 20 1048575) ?_
       refine kT (jh HT_.out (by kernel_rfl)) ?_
       try go_wp2
       go_ret
       exact ⟨Z4, Z3⟩
      revert H
      refine dX (fun c30 H => ?_) fun c30 H => ?_
      ·have c30b0 : decide (2 ≤ (l1.length : Int)) = true := decide_eq_true c30
       have c30b1 : decide (2 ≤ l1.length) = true := decide_eq_true (by omega)
       clear c30
       revert H
       refine wV (fun c31 c31b0 H => ?_) fun c31 c31b0 H => ?_
       ·have c31b1 : decide (l1.length ≤ 2) = true := decide_eq_true (by omega)
        clear c31
        revert H
        refine jX (fun c32 c32b0 H => ?_) fun c32 H => ?_
        ·have c32b1 : decide (0 < l1.length) = true := decide_eq_true (by omega)
         clear c32
         revert H
         refine yB1 fun t155 A33 H => ?_
         cases t155
         rotate_left
         ·replace H := yT H
          revert H
          refine fU (fun c35b0 c35b1 H => ?_) fun c35 H => ?_
          ·revert H
           refine yB1 fun t157 A36 H => ?_
           obtain rfl := Option.some.inj H
           try go_wp2
           refine yA1 (below_drew1 HB.out) ?_
           clear HB
           intro HB
           have p154 : 0 ≤ (0 : Int) := (by omega)
           have q154 : 0 < (l1.length : Int) := of_decide_eq_true Z5
           obtain ⟨ad154, e154, hx154_0⟩ := Kd.jF HR1.out 0 p154 q154
           have hw154_0 := hx154_0
           (try rw [show ((0 : Int)).toNat = 0 from rfl] at hw154_0)
           (try rw [show 0 * 1 = 0 from rfl] at hw154_0)
           (try rw [Addr.add_zero'] at hw154_0)
           cases e154
           have qi154 : (0 < l1.length) = True := eq_true (by omega)
           (try rw [show ((0 : Int)).toNat = 0 from rfl] at hx154_0)
           (try rw [Addr.add_zero'] at hx154_0)
           replace hx154_0 := (HB.out.cell (World.block_lt_of_cell? w _ hx154_0)).trans hx154_0
           replace p154 := eq_true p154
           replace q154 := eq_true q154
           refine jB (n := 20) (S := fun w' => w'.cell? ad154 = some (.int .i64 (rd l1 0))) (ds := []) #[false, false, false, false, false, false, false, false, false, false, false, false, false, false, false, false, false, false, false, false] (by kernel_rfl) rfl rfl (((HB.out.cell (World.block_lt_of_cell? w _ hw154_0)).trans hw154_0)) (fun hHeld => ?_); refine fQ aW.qX aW.nV (fun HT_ HW_ => ?_)
           generalize wc.drew = w37 at HB hx154_0 hHeld ⊢
           refine pA 0 28 (bQ 20 1) ?_
           refine pA 1 29 (bQ 20 3) ?_
           refine pA 2 30 (bQ 20 7) ?_
           refine pA 3 31 (bQ 20 15) ?_
           refine pA 4 32 (bQ 20 31) ?_
           refine pA 5 33 (bQ 20 63) ?_
           refine pA 6 34 (bQ 20 127) ?_
           refine pA 7 35 (bQ 20 255) ?_
           refine pA 8 36 (bQ 20 511) ?_
           refine pA 9 37 (bQ 20 1023) ?_
           refine nH (i := 10) (N := some 38) (v := ?_) (a' := ?_) #[true, true, true, true, true, true, true, true, true, true, true, false, false, false, false, false, false, false, false, false] rfl rfl (jU HT_.out HW_.out (by kernel_rfl)) (fun _ _ _ h => h) (Or.inl ⟨by rfl, ?_⟩) hHeld ?_ ?_
           rotate_left
           ·intro w' s0
            go_simp
            with_reducible rfl
           rotate_left
           ·simp only [Act.put, List.setIfInBounds_toArray, List.set_cons_zero, List.set_cons_succ, dE, dM]
            rfl
           refine lJ (i := 11) (N := some 39) (bQ 20 4095) rfl rfl (jf HT_.out (by kernel_rfl)) (by decide) (fun K hK => ?_)
           refine jY Try.func36 (by kernel_rfl) rfl #[.int .i64 (rd l1 0)] (by rfl) rfl rfl Z39 ?_
           with_reducible refine (gm.calls (rd l1 0) true _ A33.out).mono ?_
           rintro e w' ⟨rfl, ⟨nd, rfl⟩⟩
           refine ⟨_, rfl, ?_⟩
           obtain ⟨i038, hi038, _, hsz38, _⟩ := info_parts info3
           obtain ⟨A38, hcut38, hA38, hC38⟩ := kH (P := Try.prog) (Value.int .i64) 0 46 3 .i64 Try.underlying46 hi038 hsz38 (some ad154) c1 l1 1 (by omega) (of_decide_eq_true Z5) HC1.out
           have HR156 := Aside0.mk (Kd.lH (h1 := fun _ => rfl) (hA38 _ (Kd.jO HR1.out)))
           have HC156 := Aside0.mk hC38
           clear hA38 hC38 hi038 hsz38
           refine hK.out _ _ (((HB.out.cell (World.block_lt_of_cell? w _ hw154_0)).trans hw154_0)) (fun hHeld => ?_)
           clear hK K
           refine jw (a' := ?_) ?_ ?_
           rotate_left
           ·show Act.put _ (some 39) _ = _
            simp only [Act.put, List.setIfInBounds_toArray, List.set_cons_zero, List.set_cons_succ, dE, dM]
            rfl
           refine pA 12 40 (bQ 20 8191) ?_
           refine pA 13 41 (bQ 20 16383) ?_
           refine pA 14 42 (bQ 20 32767) ?_
           refine pA 15 43 (bQ 20 65535) ?_
           refine lJ (i := 16) (N := some 44) (bQ 20 131071) rfl rfl (jf HT_.out (by kernel_rfl)) (by decide) (fun K hK => ?_)
           refine jY Try.func37 (by kernel_rfl) rfl #[.int .i64 5] (by rfl) rfl rfl Z49 ?_
           with_reducible refine (nJ 5 _).mono ?_
           rintro e wIs ⟨gIs, rfl, hbk, hge, hb⟩
           refine ⟨_, rfl, ?_⟩
           have n0_ := Aside0.mk (below_step Z3 hb)
           have BKIs := Aside0.mk hbk
           clear HB
           have HB := n0_
           clear n0_ hbk hge
           (try clear hb)
           refine hK.out _ _ (((HB.out.cell (World.block_lt_of_cell? w _ hw154_0)).trans hw154_0)) (fun hHeld => ?_)
           clear hK K
           refine jw (a' := ?_) ?_ ?_
           rotate_left
           ·show Act.put _ (some 44) _ = _
            simp only [Act.put, List.setIfInBounds_toArray, List.set_cons_zero, List.set_cons_succ, dE, dM]
            rfl
           refine lJ (i := 17) (N := some 45) (bQ 20 262143) rfl rfl (jf HT_.out (by kernel_rfl)) (by decide) (fun K hK => ?_)
           refine jY Try.func34 (by kernel_rfl) rfl #[.slice A38 (l1.drop 1).length (c1 - 1), .func (.func 59) #[] #[.pointer (some ⟨gIs, 0, none⟩)]] (by rfl) rfl rfl (by (try simp only [List.map_toArray, List.map_cons, List.map_nil]); first | done | (rw [show (l1.drop 1).length = (l1.length - 1) from List.length_drop] <;> rfl) | rfl | (simp only [List.length_drop, List.length_take]; rfl)) ?_
           with_reducible refine (jP.calls _ _ (l1.drop 1) 5 t157 _ ?side1 ?side2 A36.out (hj := ?side3)).mono ?_
           (case side3 => exact BKIs.out)
           (case side1 => repeat (first | exact (Kd.C_below HR156.out Z3) | (with_reducible refine Kd.C_alloc ?_ _) | (with_reducible refine Kd.C_drewN ?_ _) | (with_reducible refine Kd.C_drew ?_)))
           (case side2 => exact HC156.out)
           rintro e w39 ⟨rfl, hb⟩
           refine ⟨_, rfl, ?_⟩
           refine yA1 (below_step Z3 hb) ?_
           clear HB
           intro HB
           (try clear hb)
           (try clear hb2)
           (try clear hk)
           (try clear hi)
           refine hK.out _ _ (((HB.out.cell (World.block_lt_of_cell? w _ hw154_0)).trans hw154_0)) (fun hHeld => ?_)
           clear hK K
           refine jw (a' := ?_) ?_ ?_
           rotate_left
           ·show Act.put _ (some 45) _ = _
            simp only [Act.put, List.setIfInBounds_toArray, List.set_cons_zero, List.set_cons_succ, dE, dM]
            rfl
           refine pA 18 46 (bQ 20 524287) ?_
           refine pA 19 4 (bQ 20 1048575) ?_
           refine kT (jh HT_.out (by kernel_rfl)) ?_
           try go_wp2
           go_ret
           exact ⟨Z4, Z3⟩
          exact absurd H (by simp)
         replace H := yF H
         obtain rfl := Option.some.inj H
         try go_wp2
         refine yA1 (below_drew1 HB.out) ?_
         clear HB
         intro HB
         have p154 : 0 ≤ (0 : Int) := (by omega)
         have q154 : 0 < (l1.length : Int) := of_decide_eq_true Z5
         obtain ⟨ad154, e154, hx154_0⟩ := Kd.jF HR1.out 0 p154 q154
         have hw154_0 := hx154_0
         (try rw [show ((0 : Int)).toNat = 0 from rfl] at hw154_0)
         (try rw [show 0 * 1 = 0 from rfl] at hw154_0)
         (try rw [Addr.add_zero'] at hw154_0)
         cases e154
         have qi154 : (0 < l1.length) = True := eq_true (by omega)
         (try rw [show ((0 : Int)).toNat = 0 from rfl] at hx154_0)
         (try rw [Addr.add_zero'] at hx154_0)
         replace hx154_0 := (HB.out.cell (World.block_lt_of_cell? w _ hx154_0)).trans hx154_0
         replace p154 := eq_true p154
         replace q154 := eq_true q154
         refine jB (n := 20) (S := fun w' => w'.cell? ad154 = some (.int .i64 (rd l1 0))) (ds := []) #[false, false, false, false, false, false, false, false, false, false, false, false, false, false, false, false, false, false, false, false] (by kernel_rfl) rfl rfl (((HB.out.cell (World.block_lt_of_cell? w _ hw154_0)).trans hw154_0)) (fun hHeld => ?_); refine fQ aW.qX aW.nV (fun HT_ HW_ => ?_)
         generalize wc.drew = w40 at HB hx154_0 hHeld ⊢
         refine pA 0 28 (bQ 20 1) ?_
         refine pA 1 29 (bQ 20 3) ?_
         refine pA 2 30 (bQ 20 7) ?_
         refine pA 3 31 (bQ 20 15) ?_
         refine pA 4 32 (bQ 20 31) ?_
         refine pA 5 33 (bQ 20 63) ?_
         refine pA 6 34 (bQ 20 127) ?_
         refine pA 7 35 (bQ 20 255) ?_
         refine pA 8 36 (bQ 20 511) ?_
         refine pA 9 37 (bQ 20 1023) ?_
         refine nH (i := 10) (N := some 38) (v := ?_) (a' := ?_) #[true, true, true, true, true, true, true, true, true, true, true, false, false, false, false, false, false, false, false, false] rfl rfl (jU HT_.out HW_.out (by kernel_rfl)) (fun _ _ _ h => h) (Or.inl ⟨by rfl, ?_⟩) hHeld ?_ ?_
         rotate_left
         ·intro w' s0
          go_simp
          with_reducible rfl
         rotate_left
         ·simp only [Act.put, List.setIfInBounds_toArray, List.set_cons_zero, List.set_cons_succ, dE, dM]
          rfl
         refine lJ (i := 11) (N := some 39) (bQ 20 4095) rfl rfl (jf HT_.out (by kernel_rfl)) (by decide) (fun K hK => ?_)
         refine jY Try.func36 (by kernel_rfl) rfl #[.int .i64 (rd l1 0)] (by rfl) rfl rfl Z39 ?_
         with_reducible refine (gm.calls (rd l1 0) false _ A33.out).mono ?_
         rintro e w' ⟨rfl, ⟨nd, rfl⟩⟩
         refine ⟨_, rfl, ?_⟩
         refine hK.out _ _ (((HB.out.cell (World.block_lt_of_cell? w _ hw154_0)).trans hw154_0)) (fun hHeld => ?_)
         clear hK K
         refine jw (a' := ?_) ?_ ?_
         rotate_left
         ·show Act.put _ (some 39) _ = _
          simp only [Act.put, List.setIfInBounds_toArray, List.set_cons_zero, List.set_cons_succ, dE, dM]
          rfl
         refine pA 12 40 (bQ 20 8191) ?_
         refine pA 13 41 (bQ 20 16383) ?_
         refine pU 14 42 (bQ 20 32767) ?_
         refine pU 15 43 (bQ 20 65535) ?_
         refine pU 16 44 (bQ 20 131071) ?_
         refine pU 17 45 (bQ 20 262143) ?_
         refine pA 18 46 (bQ 20 524287) ?_
         refine pA 19 4 (bQ 20 1048575) ?_
         refine kT (jh HT_.out (by kernel_rfl)) ?_
         try go_wp2
         go_ret
         exact ⟨Z4, Z3⟩
        exact absurd H (by simp)
       have c31b1 : decide (l1.length ≤ 2) = false := decide_eq_false (by omega)
       clear c31
       obtain rfl := Option.some.inj H
       try go_wp2
       refine yA1 (below_drew1 HB.out) ?_
       clear HB
       intro HB
       refine jB (n := 20) (S := fun w' => True) (ds := []) #[false, false, false, false, false, false, false, false, false, false, false, false, false, false, false, false, false, false, false, false] (by kernel_rfl) rfl rfl trivial (fun hHeld => ?_); refine fQ aW.qX aW.nV (fun HT_ HW_ => ?_)
       generalize wc.drew = w41 at HB hHeld ⊢
       refine pA 0 28 (bQ 20 1) ?_
       refine pA 1 29 (bQ 20 3) ?_
       refine pA 2 30 (bQ 20 7) ?_
       refine pA 3 31 (bQ 20 15) ?_
       refine pA 4 32 (bQ 20 31) ?_
       refine pA 5 33 (bQ 20 63) ?_
       refine pA 6 34 (bQ 20 127) ?_
       refine pA 7 35 (bQ 20 255) ?_
       refine pU 8 36 (bQ 20 511) ?_
       refine pU 9 37 (bQ 20 1023) ?_
       refine pU 10 38 (bQ 20 2047) ?_
       refine pU 11 39 (bQ 20 4095) ?_
       refine pA 12 40 (bQ 20 8191) ?_
       refine pA 13 41 (bQ 20 16383) ?_
       refine pU 14 42 (bQ 20 32767) ?_
       refine pU 15 43 (bQ 20 65535) ?_
       refine pU 16 44 (bQ 20 131071) ?_
       refine pU 17 45 (bQ 20 262143) ?_
       refine pA 18 46 (bQ 20 524287) ?_
       refine pA 19 4 (bQ 20 1048575) ?_
       refine kT (jh HT_.out (by kernel_rfl)) ?_
       try go_wp2
       go_ret
       exact ⟨Z4, Z3⟩
      have c30b0 : decide (2 ≤ (l1.length : Int)) = false := decide_eq_false c30
      have c30b1 : decide (2 ≤ l1.length) = false := decide_eq_false (by omega)
      clear c30
      obtain rfl := Option.some.inj H
      try go_wp2
      refine yA1 (below_drew1 HB.out) ?_
      clear HB
      intro HB
      refine jB (n := 20) (S := fun w' => True) (ds := []) #[false, false, false, false, false, false, false, false, false, false, false, false, false, false, false, false, false, false, false, false] (by kernel_rfl) rfl rfl trivial (fun hHeld => ?_); refine fQ aW.qX aW.nV (fun HT_ HW_ => ?_)
      generalize wc.drew = w42 at HB hHeld ⊢
      refine pA 0 28 (bQ 20 1) ?_
      refine pA 1 29 (bQ 20 3) ?_
      refine pA 2 30 (bQ 20 7) ?_
      refine pU 3 31 (bQ 20 15) ?_
      refine pU 4 32 (bQ 20 31) ?_
      refine pU 5 33 (bQ 20 63) ?_
      refine pA 6 34 (bQ 20 127) ?_
      refine pA 7 35 (bQ 20 255) ?_
      refine pU 8 36 (bQ 20 511) ?_
      refine pU 9 37 (bQ 20 1023) ?_
      refine pU 10 38 (bQ 20 2047) ?_
      refine pU 11 39 (bQ 20 4095) ?_
      refine pA 12 40 (bQ 20 8191) ?_
      refine pA 13 41 (bQ 20 16383) ?_
      refine pU 14 42 (bQ 20 32767) ?_
      refine pU 15 43 (bQ 20 65535) ?_
      refine pU 16 44 (bQ 20 131071) ?_
      refine pU 17 45 (bQ 20 262143) ?_
      refine pA 18 46 (bQ 20 524287) ?_
      refine pA 19 4 (bQ 20 1048575) ?_
      refine kT (jh HT_.out (by kernel_rfl)) ?_
      try go_wp2
      go_ret
      exact ⟨Z4, Z3⟩
     replace H := yF H
     revert H
     refine aJ (fun c43b0 c43b1 H => ?_) fun c43 c43b0 c43b1 H => ?_
     ·revert H
      refine yB1 fun t158 A44 H => ?_
      obtain rfl := Option.some.inj H
      go_wp2_with (first | ((with_reducible refine gC 38 rfl ?_); refine gM 38 50 rfl Try.func38 (eH.calls _ _ l1 3 3 t158 _ Z37 HC1.out A44.out) ?_; rintro _ w' ⟨rfl, ⟨nd, rfl⟩⟩; refine ⟨_, rfl, ?_⟩))
      go_ret
      exact ⟨Z4, Z3⟩
     have HC45 := Aside0.mk H
     clear H
     go_upto_if 51 with (fail)
     go_cut [51] (fun v51 wc => ∃ (kq : Nat) (x51_44 : Bool), v51 = .bool x51_44 ∧ Aside0 (aW.j2 kq l1 (l1.length : Int) a0 x51_44 = some r) ∧ Aside0 (kq ≤ kj12) ∧ Aside0 (Below w.heap.size w wc))
     case first =>
      have H := HC45.out
      clear HC45
      revert H
      refine aJ (fun c46b0 c46b1 H => ?_) fun c46 c46b0 c46b1 H => ?_
      ·(first | rw [c46b0] | (simp only [dE, dM]; rw [c46b0]) | skip)
       have H' := Aside0.mk H
       clear H
       go_wp2
       go_meet
       case rel => exact ⟨_, ((a0 == 6)), Z6, H', ⟨by have := HJ5.out; have := HJ12.out; first | omega | exact Nat.le_refl _⟩, ⟨Z3⟩⟩
      (first | rw [c46b0] | (simp only [dE, dM]; rw [c46b0]) | skip)
      revert H
      refine aJ (fun c47b0 c47b1 H => ?_) fun c47 c47b0 c47b1 H => ?_
      ·have H' := Aside0.mk H
       clear H
       go_wp2
       go_meet
       case rel => exact ⟨_, ((a0 == 7)), Z6, H', ⟨by have := HJ5.out; have := HJ12.out; first | omega | exact Nat.le_refl _⟩, ⟨Z3⟩⟩
      revert H
      refine aJ (fun c48b0 c48b1 H => ?_) fun c48 c48b0 c48b1 H => ?_
      ·have H' := Aside0.mk H
       clear H
       go_wp2
       go_meet
       case rel => exact ⟨_, ((a0 == 13)), Z6, H', ⟨by have := HJ5.out; have := HJ12.out; first | omega | exact Nat.le_refl _⟩, ⟨Z3⟩⟩
      revert H
      refine aJ (fun c49b0 c49b1 H => ?_) fun c49 c49b0 c49b1 H => ?_
      ·have H' := Aside0.mk H
       clear H
       go_wp2
       go_meet
       case rel => exact ⟨_, ((a0 == 14)), Z6, H', ⟨by have := HJ5.out; have := HJ12.out; first | omega | exact Nat.le_refl _⟩, ⟨Z3⟩⟩
      revert H
      refine aJ (fun c50b0 c50b1 H => ?_) fun c50 c50b0 c50b1 H => ?_
      ·have H' := Aside0.mk H
       clear H
       go_wp2
       go_meet
       case rel => exact ⟨_, ((a0 == 15)), Z6, H', ⟨by have := HJ5.out; have := HJ12.out; first | omega | exact Nat.le_refl _⟩, ⟨Z3⟩⟩
      revert H
      refine aJ (fun c51b0 c51b1 H => ?_) fun c51 c51b0 c51b1 H => ?_
      ·have H' := Aside0.mk H
       clear H
       go_wp2
       go_meet
       case rel => exact ⟨_, ((a0 == 17)), Z6, H', ⟨by have := HJ5.out; have := HJ12.out; first | omega | exact Nat.le_refl _⟩, ⟨Z3⟩⟩
      revert H
      refine aJ (fun c52b0 c52b1 H => ?_) fun c52 c52b0 c52b1 H => ?_
      ·have H' := Aside0.mk H
       clear H
       go_wp2
       go_meet
       case rel => exact ⟨_, ((a0 == 28)), Z6, H', ⟨by have := HJ5.out; have := HJ12.out; first | omega | exact Nat.le_refl _⟩, ⟨Z3⟩⟩
      have H' := Aside0.mk H
      clear H
      go_wp2
      go_meet
      case rel => exact ⟨_, ((a0 == 30)), Z6, H', ⟨by have := HJ5.out; have := HJ12.out; first | omega | exact Nat.le_refl _⟩, ⟨Z3⟩⟩
     case rest =>
      clear HC45
      try clear c1
      try clear p1
      try clear q1
      try clear hx1
      try clear qi1
      try clear p2
      try clear c3
      try clear c4
      try clear c5
      try clear c15
      try clear p15
      try clear q15
      try clear hx15
      try clear qi15
      try clear c30
      try clear c30b0
      try clear c30b1
      try clear c31
      try clear c31b0
      try clear c31b1
      try clear c32
      try clear c34
      try clear c35
      try clear c36
      try clear c38
      try clear c43
      try clear c43b0
      try clear c43b1
      try clear c46
      try clear c46b0
      try clear c46b1
      try clear c47
      try clear c47b0
      try clear c47b1
      try clear c48
      try clear c48b0
      try clear c48b1
      try clear c49
      try clear c49b0
      try clear c49b1
      try clear c50
      try clear c50b0
      try clear c50b1
      try clear c51
      try clear c51b0
      try clear c51b1
      try clear c52
      try clear c52b0
      try clear c52b1
      try clear hx154_0
      try clear p154
      try clear q154
      obtain ⟨kq, x51_44, rfl, HA, HJ44, HB⟩ := hcut
      cases kq with
      | zero => exact absurd HA.out (by simp [aW.j2])
      | succ kj44 =>
       have H := HA.out
       clear HA
       simp only [aW.j2] at H
       cases x51_44
       rotate_left
       ·replace H := yT H
        revert H
        refine yB1 fun t159 A54 H => ?_
        obtain rfl := Option.some.inj H
        go_wp2_with (first | ((with_reducible refine gC 38 rfl ?_); refine gM 38 61 rfl Try.func38 (eH.calls _ _ l1 1 1 t159 _ Z37 HC1.out A54.out) ?_; rintro _ w' ⟨rfl, ⟨nd, rfl⟩⟩; refine ⟨_, rfl, ?_⟩))
        go_ret
        exact ⟨Z4, Z3⟩
       replace H := yF H
       revert H
       refine aJ (fun c55b0 c55b1 H => ?_) fun c55 c55b0 c55b1 H => ?_
       ·revert H
        refine yB1 fun t160 A56 H => ?_
        obtain rfl := Option.some.inj H
        go_wp2_with (first | ((with_reducible refine gC 38 rfl ?_); refine gM 38 65 rfl Try.func38 (eH.calls _ _ l1 1 9 t160 _ Z37 HC1.out A56.out) ?_; rintro _ w' ⟨rfl, ⟨nd, rfl⟩⟩; refine ⟨_, rfl, ?_⟩))
        go_ret
        exact ⟨Z4, Z3⟩
       revert H
       refine aJ (fun c57b0 c57b1 H => ?_) fun c57 c57b0 c57b1 H => ?_
       ·revert H
        refine yB1 fun t161 A58 H => ?_
        obtain rfl := Option.some.inj H
        go_wp2_with (first | ((with_reducible refine gC 38 rfl ?_); refine gM 38 69 rfl Try.func38 (eH.calls _ _ l1 0 8 t161 _ Z37 HC1.out A58.out) ?_; rintro _ w' ⟨rfl, ⟨nd, rfl⟩⟩; refine ⟨_, rfl, ?_⟩))
        go_ret
        exact ⟨Z4, Z3⟩
       revert H
       refine aJ (fun c59b0 c59b1 H => ?_) fun c59 c59b0 c59b1 H => ?_
       ·revert H
        refine yB1 fun t162 A60 H => ?_
        obtain rfl := Option.some.inj H
        go_wp2_with (first | ((with_reducible refine gC 38 rfl ?_); refine gM 38 74 rfl Try.func38 (eH.calls _ _ l1 2 2 t162 _ Z37 HC1.out A60.out) ?_; rintro _ w' ⟨rfl, ⟨nd, rfl⟩⟩; refine ⟨_, rfl, ?_⟩))
        go_ret
        exact ⟨Z4, Z3⟩
       revert H
       refine aJ (fun c61b0 c61b1 H => ?_) fun c61 c61b0 c61b1 H => ?_
       ·revert H
        refine yB1 fun t163 A62 H => ?_
        obtain rfl := Option.some.inj H
        go_wp2_with (first | ((with_reducible refine gC 38 rfl ?_); refine gM 38 74 rfl Try.func38 (eH.calls _ _ l1 2 2 t163 _ Z37 HC1.out A62.out) ?_; rintro _ w' ⟨rfl, ⟨nd, rfl⟩⟩; refine ⟨_, rfl, ?_⟩))
        go_ret
        exact ⟨Z4, Z3⟩
       obtain rfl := Option.some.inj H
       go_wp2
       go_ret
       exact ⟨Z4, Z3⟩
end Go.Proofs.Ytendgafpkeadhaa.Q
end
