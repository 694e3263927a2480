/- Walks over functions of the program, words for them, and what the functions come to; of each text only what this claim uses; no condition. -/
import Derived.Test.YtkbhkonenkgfoaaGreatZPT0
import Derived.Test.YtkbhkonenkgfoaaGreatZPT1
import Derived.Test.YtkbhkonenkgfoaaGreatZPT3
import Derived.Test.YtkbhkonenkgfoaaGreatZPT4
import Derived.Test.YtkbhkonenkgfoaaGreatZPT12
section
namespace Go.Proofs.YtkbhkonenkgfoaaGreat.Q
open Go.RowKit Go.Proofs.YtkbhkonenkgfoaaGreatW.PrintWords Go.Proofs.YtkbhkonenkgfoaaGreatW.PrintLast Go.Proofs.YtkbhkonenkgfoaaGreatW.PrintMore
attribute [local go_sem] dJ dH dS dR cZ cO dI dG
set_option linter.unusedVariables false
set_option linter.unusedSimpArgs false
/-! ### bK: function 33 -/
mutual
def bK.j0 : Nat → Int → List Int → Int → Int → Bool → Option (Bool)
 | 0, _, _, _, _, _ => none
 | k + 1, x0, x1, x5, x9, x14 => if x14 = true then ((fC.f x1).bind fun t547 => (some t547)) else (if x9 = 5 then ((rY.f x1).bind fun t548 => (some t548)) else (if x9 = 9 then (bK.j1 k x0 x1 x5 x9 (x9 == 9)) else (bK.j1 k x0 x1 x5 x9 (x9 == 10))))
def bK.j1 : Nat → Int → List Int → Int → Int → Bool → Option (Bool)
 | 0, _, _, _, _, _ => none
 | k + 1, x0, x1, x5, x9, x23 => if x23 = true then (if x0 = 9 then (if x5 ≥ 2 then (if x5 ≤ 3 then (if 0 < (x1.length : Int) then ((jv.f (rd x1 0)).bind fun t550 => (if t550 = true then (if 1 ≤ (x1.length : Int) then ((lK.f (x1.drop 1) 5).bind fun t552 => (some t552)) else (none)) else (some false))) else (none)) else (some false)) else (some false)) else (if x5 ≥ 2 then (if x5 ≤ 2 then (if 0 < (x1.length : Int) then ((jv.f (rd x1 0)).bind fun t554 => (if t554 = true then (if 1 ≤ (x1.length : Int) then ((lK.f (x1.drop 1) 5).bind fun t556 => (some t556)) else (none)) else (some false))) else (none)) else (some false)) else (some false))) else (if x9 = 8 then ((iF.f x1 3 3).bind fun t557 => (some t557)) else (if x9 = 6 then (bK.j2 k x1 x5 x9 (x9 == 6)) else (if x9 = 7 then (bK.j2 k x1 x5 x9 (x9 == 7)) else (if x9 = 13 then (bK.j2 k x1 x5 x9 (x9 == 13)) else (if x9 = 14 then (bK.j2 k x1 x5 x9 (x9 == 14)) else (if x9 = 15 then (bK.j2 k x1 x5 x9 (x9 == 15)) else (if x9 = 17 then (bK.j2 k x1 x5 x9 (x9 == 17)) else (if x9 = 28 then (bK.j2 k x1 x5 x9 (x9 == 28)) else (bK.j2 k x1 x5 x9 (x9 == 30))))))))))
def bK.j2 : Nat → List Int → Int → Int → Bool → Option (Bool)
 | 0, _, _, _, _ => none
 | k + 1, x1, x5, x9, x51 => if x51 = true then ((iF.f x1 1 1).bind fun t558 => (some t558)) else (if x9 = 22 then ((iF.f x1 1 9).bind fun t559 => (some t559)) else (if x9 = 23 then ((iF.f x1 0 8).bind fun t560 => (some t560)) else (if x9 = 26 then ((iF.f x1 2 2).bind fun t561 => (some t561)) else (if x9 = 27 then ((iF.f x1 2 2).bind fun t562 => (some t562)) else (some (x5 == 0))))))
end
def bK.f (k : Nat) (a0 : Int) (l1 : List Int) : Option (Bool) := if a0 = 1 then ((eP.f k l1).bind fun t546 => (some t546)) else (if a0 = 3 then (bK.j0 k a0 l1 (l1.length : Int) a0 (a0 == 3)) else (bK.j0 k a0 l1 (l1.length : Int) a0 (a0 == 24)))
theorem bK.bZ : ∀ k, (∀ y0 y1 y2 y3 y4, LeO (bK.j0 k y0 y1 y2 y3 y4) (bK.j0 (k + 1) y0 y1 y2 y3 y4)) ∧ (∀ y0 y1 y2 y3 y4, LeO (bK.j1 k y0 y1 y2 y3 y4) (bK.j1 (k + 1) y0 y1 y2 y3 y4)) ∧ (∀ y0 y1 y2 y3, LeO (bK.j2 k y0 y1 y2 y3) (bK.j2 (k + 1) y0 y1 y2 y3))
 | 0 => ⟨fun _ _ _ _ _ r h => by simp [bK.j0] at h, fun _ _ _ _ _ r h => by simp [bK.j1] at h, fun _ _ _ _ r h => by simp [bK.j2] at h⟩
 | k + 1 => by
  obtain ⟨ih0, ih1, ih2⟩ := bK.bZ k
  refine ⟨?_, ?_, ?_⟩
  ·intro y0 y1 y2 y3 y4
   unfold bK.j0
   have m0 := eP.mono
   exact yL
  ·intro y0 y1 y2 y3 y4
   unfold bK.j1
   have m0 := eP.mono
   exact yL
  intro y0 y1 y2 y3
  unfold bK.j2
  have m0 := eP.mono
  exact yL
theorem bK.mono : ∀ a0 a1 k, LeO (bK.f k a0 a1) (bK.f (k + 1) a0 a1) := by
 intro a0 a1 k
 obtain ⟨ih0, ih1, ih2⟩ := bK.bZ k
 unfold bK.f
 have m0 := eP.mono
 exact yL
def bK.T15 : Bool × List (List Nat × List Nat) := (true, [([], []), ([0], [0]), ([1], [1]), ([2], [2]), ([2], [2]), ([3, 4, 2], [2, 3, 4]), ([2, 5], [2, 5]), ([6, 2], [6]), ([7], [7]), ([8, 7], [7, 8]), ([9, 7], [7, 9]), ([10, 7, 7], [7, 10]), ([7, 11], [7, 11]), ([12, 11], [12]), ([13], [13]), ([14, 13], [13, 14]), ([13, 13], [13]), ([15, 16, 16, 13], [13, 15, 16]), ([13, 17], [13, 17]), ([18, 17, 0, 1, 2, 3, 4, 5, 6, 7, 8, 9, 10, 11, 12, 13, 14, 15, 16, 17, 18], [18])])
def bK.B15 : List Nat := [0, 1, 3, 7, 7, 31, 63, 127, 255, 511, 1023, 2047, 4095, 8191, 16383, 32767, 16383, 131071, 262143, 524287]
theorem bK.tX : nI .any (opsOf Tryz.f33 15) = bK.T15 := by kernel_rfl
theorem bK.qw : oQ bK.T15.2 bK.B15 = true := by kernel_rfl
set_option maxHeartbeats 8000000 in
set_option maxRecDepth 100000 in
theorem bK.calls (k : Nat) (a0 : Int) (A1 : Option Addr) (c1 : Nat) (l1 : List Int) (r : Bool) (w : World) (hr1 : Kd.C (Kd.int .i64) w A1 l1.length l1) (hc1 : l1.length ≤ c1) (h : bK.f k a0 l1 = some r) :
 Calls Tryz.prog 33 #[.int .i64 a0, .slice A1 l1.length c1] w fun e w' => e = .returned (.bool r) ∧ Below w.heap.size w w' := by
 have HR1 := af.mk hr1
 have HC1 := af.mk hc1
 clear hr1 hc1
 have HB := af.mk (Below.refl w.heap.size w)
 have H := h
 clear h
 unfold bK.f at H
 revert H
 refine aU (fun c3b0 c3b1 H => ?_) fun c3 c3b0 c3b1 H => ?_
 ·revert H
  refine yB1 fun t546 A4 H => ?_
  obtain rfl := Option.some.inj H
  go_enter Tryz.func33, Tryz.ntmps33
  go_wp2_with (first | ((with_reducible refine gC 71 rfl ?_); refine gM 71 13 rfl Tryz.func71 (eP.calls k _ _ l1 t546 _ Z10 HC1.out A4.out) ?_; rintro _ w5 ⟨rfl, hb⟩; refine ⟨_, rfl, yA1 (aA (bT HB) hb) ?_⟩; clear HB hb; intro HB))
  go_ret
  exact ⟨eT, bT HB⟩
 have HC6 := af.mk H
 clear H
 go_enter Tryz.func33, Tryz.ntmps33
 go_upto_if 14 with (fail)
 go_cut [14] (fun v14 wc => ∃ (kq : Nat) (x14_5 : Bool), v14 = .bool x14_5 ∧ af (bK.j0 kq a0 l1 (l1.length : Int) a0 x14_5 = some r) ∧ af (kq ≤ k) ∧ af (Below w.heap.size w wc))
 case first =>
  have H := HC6.out
  clear HC6
  revert H
  refine aU (fun c7b0 c7b1 H => ?_) fun c7 c7b0 c7b1 H => ?_
  ·(first | rw [c7b0] | (simp only [fP, gG]; rw [c7b0]) | skip)
   have H' := af.mk H
   clear H
   go_wp2
   go_meet
   case rel => exact ⟨_, ((a0 == 3)), fT, H', ⟨Z11⟩, ⟨bT HB⟩⟩
  (first | rw [c7b0] | (simp only [fP, gG]; rw [c7b0]) | skip)
  have H' := af.mk H
  clear H
  go_wp2
  go_meet
  case rel => exact ⟨_, ((a0 == 24)), fT, H', ⟨Z11⟩, ⟨bT HB⟩⟩
 case rest =>
  clear HC6
  try clear c1
  try clear p2
  try clear c3
  try clear c3b0
  try clear c3b1
  try clear c7
  try clear c7b0
  try clear c7b1
  obtain ⟨kq, x14_5, rfl, HA, HJ5, HB⟩ := hcut
  cases kq with
  | zero => exact absurd HA.out (by simp [bK.j0])
  | succ kj5 =>
   have H := HA.out
   clear HA
   simp only [bK.j0] at H
   cases x14_5
   rotate_left
   ·replace H := yT H
    revert H
    refine yB1 fun t547 A9 H => ?_
    obtain rfl := Option.some.inj H
    go_wp2_with (first | ((with_reducible refine gC 72 rfl ?_); refine gM 72 18 rfl Tryz.func72 (fC.calls _ _ l1 t547 _ Z9 HC1.out A9.out) ?_; rintro _ w10 ⟨rfl, hb⟩; refine ⟨_, rfl, yA1 (aA (bT HB) hb) ?_⟩; clear HB hb; intro HB))
    go_ret
    exact ⟨eT, bT HB⟩
   replace H := yF H
   revert H
   refine aU (fun c11b0 c11b1 H => ?_) fun c11 c11b0 c11b1 H => ?_
   ·revert H
    refine yB1 fun t548 A12 H => ?_
    obtain rfl := Option.some.inj H
    go_wp2_with (first | ((with_reducible refine gC 73 rfl ?_); refine gM 73 22 rfl Tryz.func73 (rY.calls _ _ l1 t548 _ Z9 HC1.out A12.out) ?_; rintro _ w' ⟨rfl, ⟨nd, rfl⟩⟩; refine ⟨_, rfl, ?_⟩))
    go_ret
    exact ⟨eT, bT HB⟩
   have HC13 := af.mk H
   clear H
   go_upto_if 23 with (fail)
   go_cut [23] (fun v23 wc => ∃ (kq : Nat) (x23_12 : Bool), v23 = .bool x23_12 ∧ af (bK.j1 kq a0 l1 (l1.length : Int) a0 x23_12 = some r) ∧ af (kq ≤ kj5) ∧ af (Below w.heap.size w wc))
   case first =>
    have H := HC13.out
    clear HC13
    revert H
    refine aU (fun c14b0 c14b1 H => ?_) fun c14 c14b0 c14b1 H => ?_
    ·(first | rw [c14b0] | (simp only [fP, gG]; rw [c14b0]) | skip)
     have H' := af.mk H
     clear H
     go_wp2
     go_meet
     case rel => exact ⟨_, ((a0 == 9)), fT, H', ⟨by have := HJ5.out; first | omega | exact Nat.le_refl _⟩, ⟨bT HB⟩⟩
    (first | rw [c14b0] | (simp only [fP, gG]; rw [c14b0]) | skip)
    have H' := af.mk H
    clear H
    go_wp2
    go_meet
    case rel => exact ⟨_, ((a0 == 10)), fT, H', ⟨by have := HJ5.out; first | omega | exact Nat.le_refl _⟩, ⟨bT HB⟩⟩
   case rest =>
    clear HC13
    try clear c1
    try clear p2
    try clear c3
    try clear c3b0
    try clear c3b1
    try clear c7
    try clear c7b0
    try clear c7b1
    try clear c8
    try clear c9
    try clear c11
    try clear c11b0
    try clear c11b1
    try clear c14
    try clear c14b0
    try clear c14b1
    try clear p2
    obtain ⟨kq, x23_12, rfl, HA, HJ12, HB⟩ := hcut
    cases kq with
    | zero => exact absurd HA.out (by simp [bK.j1])
    | succ kj12 =>
     have H := HA.out
     clear HA
     simp only [bK.j1] at H
     cases x23_12
     rotate_left
     ·replace H := yT H
      revert H
      refine aU (fun c16b0 c16b1 H => ?_) fun c16 c16b0 c16b1 H => ?_
      ·revert H
       refine gU (fun c17 H => ?_) fun c17 H => ?_
       ·have c17b0 : decide (2 ≤ (l1.length : Int)) = true := decide_eq_true c17
        have c17b1 : decide (2 ≤ l1.length) = true := decide_eq_true (by omega)
        clear c17
        revert H
        refine qF (fun c18 c18b0 H => ?_) fun c18 c18b0 H => ?_
        ·have c18b1 : decide (l1.length ≤ 3) = true := decide_eq_true (by omega)
         clear c18
         revert H
         refine kP (fun c19 c19b0 H => ?_) fun c19 H => ?_
         ·have c19b1 : decide (0 < l1.length) = true := decide_eq_true (by omega)
          clear c19
          revert H
          refine yB1 fun t550 A20 H => ?_
          cases t550
          rotate_left
          ·replace H := yT H
           revert H
           refine jm (fun c22b0 c22b1 H => ?_) fun c22 H => ?_
           ·revert H
            refine yB1 fun t552 A23 H => ?_
            obtain rfl := Option.some.inj H
            try go_wp2
            refine yA1 (fV HB.out) ?_
            clear HB
            intro HB
            have p549 : 0 ≤ (0 : Int) := (by omega)
            have q549 : 0 < (l1.length : Int) := of_decide_eq_true aT
            obtain ⟨ad549, e549, hx549_0⟩ := Kd.fO HR1.out 0 p549 q549
            have hw549_0 := hx549_0
            (try rw [show ((0 : Int)).toNat = 0 from rfl] at hw549_0)
            (try rw [show 0 * 1 = 0 from rfl] at hw549_0)
            (try rw [Addr.add_zero'] at hw549_0)
            cases e549
            have qi549 : (0 < l1.length) = True := eq_true (by omega)
            (try rw [show ((0 : Int)).toNat = 0 from rfl] at hx549_0)
            (try rw [Addr.add_zero'] at hx549_0)
            replace hx549_0 := (HB.out.cell (World.block_lt_of_cell? w _ hx549_0)).trans hx549_0
            replace p549 := eq_true p549
            replace q549 := eq_true q549
            refine lS (n := 20) (S := fun w' => w'.cell? ad549 = some (.int .i64 (rd l1 0))) (ds := []) #[false, false, false, false, false, false, false, false, false, false, false, false, false, false, false, false, false, false, false, false] (by kernel_rfl) rfl rfl (((HB.out.cell (World.block_lt_of_cell? w _ hw549_0)).trans hw549_0)) (fun hHeld => ?_); refine jK bK.tX bK.qw (fun HT_ HW_ => ?_)
            generalize wc.drew = w24 at HB hx549_0 hHeld ⊢
            refine pA 0 28 (bQ 20 1) ?_
            refine pA 1 29 (bQ 20 3) ?_
            refine pA 2 30 (bQ 20 7) ?_
            refine pA 3 31 (bQ 20 15) ?_
            refine pA 4 32 (bQ 20 31) ?_
            refine pA 5 33 (bQ 20 63) ?_
            refine pA 6 34 (bQ 20 127) ?_
            refine pA 7 35 (bQ 20 255) ?_
            refine pA 8 36 (bQ 20 511) ?_
            refine pA 9 37 (bQ 20 1023) ?_
            refine tV (i := 10) (N := some 38) (v := ?_) (a' := ?_) #[true, true, true, true, true, true, true, true, true, true, true, false, false, false, false, false, false, false, false, false] rfl rfl (oJ HT_.out HW_.out (by kernel_rfl)) (fun _ _ _ h => h) (Or.inl ⟨by rfl, ?_⟩) hHeld ?_ ?_
            rotate_left
            ·intro w' s0
             go_simp
             with_reducible rfl
            rotate_left
            ·simp only [Act.put, List.setIfInBounds_toArray, List.set_cons_zero, List.set_cons_succ, fP, gG]
             rfl
            refine rG (i := 11) (N := some 39) (bQ 20 4095) rfl rfl (oD HT_.out (by kernel_rfl)) (by decide) (fun K hK => ?_)
            refine o5 Tryz.func75 (by kernel_rfl) rfl #[.int .i64 (rd l1 0)] (by rfl) rfl rfl Z24 ?_
            with_reducible refine (jv.calls (rd l1 0) true _ A20.out).mono ?_
            rintro e w' ⟨rfl, ⟨nd, rfl⟩⟩
            refine ⟨_, rfl, ?_⟩
            obtain ⟨i025, hi025, _, hsz25, _⟩ := info_parts info3
            obtain ⟨A25, hcut25, hA25, hC25⟩ := mM (P := Tryz.prog) (Value.int .i64) 0 60 3 .i64 Tryz.underlying60 hi025 hsz25 (some ad549) c1 l1 1 (by omega) (of_decide_eq_true aT) HC1.out
            have HR551 := af.mk (Kd.nU (h1 := fun _ => rfl) (hA25 _ (Kd.lH HR1.out)))
            have HC551 := af.mk hC25
            clear hA25 hC25 hi025 hsz25
            refine hK.out _ _ (((HB.out.cell (World.block_lt_of_cell? w _ hw549_0)).trans hw549_0)) (fun hHeld => ?_)
            clear hK K
            refine oh (a' := ?_) ?_ ?_
            rotate_left
            ·show Act.put _ (some 39) _ = _
             simp only [Act.put, List.setIfInBounds_toArray, List.set_cons_zero, List.set_cons_succ, fP, gG]
             rfl
            refine pA 12 40 (bQ 20 8191) ?_
            refine pA 13 41 (bQ 20 16383) ?_
            refine pA 14 42 (bQ 20 32767) ?_
            refine pA 15 43 (bQ 20 65535) ?_
            refine rG (i := 16) (N := some 44) (bQ 20 131071) rfl rfl (oD HT_.out (by kernel_rfl)) (by decide) (fun K hK => ?_)
            refine o5 Tryz.func76 (by kernel_rfl) rfl #[.int .i64 5] (by rfl) rfl rfl Z17 ?_
            with_reducible refine (qj 5 _).mono ?_
            rintro e wIs ⟨gIs, rfl, hbk, hge, hb⟩
            refine ⟨_, rfl, ?_⟩
            have n0_ := af.mk (aA (bT HB) hb)
            have BKIs := af.mk hbk
            clear HB
            have HB := n0_
            clear n0_ hbk hge
            (try clear hb)
            refine hK.out _ _ (((HB.out.cell (World.block_lt_of_cell? w _ hw549_0)).trans hw549_0)) (fun hHeld => ?_)
            clear hK K
            refine oh (a' := ?_) ?_ ?_
            rotate_left
            ·show Act.put _ (some 44) _ = _
             simp only [Act.put, List.setIfInBounds_toArray, List.set_cons_zero, List.set_cons_succ, fP, gG]
             rfl
            refine rG (i := 17) (N := some 45) (bQ 20 262143) rfl rfl (oD HT_.out (by kernel_rfl)) (by decide) (fun K hK => ?_)
            refine o5 Tryz.func73 (by kernel_rfl) rfl #[.slice A25 (l1.drop 1).length (c1 - 1), .func (.func 93) #[] #[.pointer (some ⟨gIs, 0, none⟩)]] (by rfl) rfl rfl (by (try simp only [List.map_toArray, List.map_cons, List.map_nil]); first | done | (rw [show (l1.drop 1).length = (l1.length - 1) from List.length_drop] <;> rfl) | rfl | (simp only [List.length_drop, List.length_take]; rfl)) ?_
            with_reducible refine (lK.calls _ _ (l1.drop 1) 5 t552 _ ?side1 ?side2 A23.out (hj := ?side3)).mono ?_
            (case side3 => exact BKIs.out)
            (case side1 => repeat (first | exact (Kd.jW HR551.out (bT HB)) | (with_reducible refine Kd.jR ?_ _) | (with_reducible refine Kd.jQ ?_ _) | (with_reducible refine Kd.kV ?_)))
            (case side2 => exact HC551.out)
            rintro e w26 ⟨rfl, hb⟩
            refine ⟨_, rfl, ?_⟩
            refine yA1 (aA (bT HB) hb) ?_
            clear HB
            intro HB
            (try clear hb)
            (try clear hb2)
            (try clear hk)
            (try clear hi)
            refine hK.out _ _ (((HB.out.cell (World.block_lt_of_cell? w _ hw549_0)).trans hw549_0)) (fun hHeld => ?_)
            clear hK K
            refine oh (a' := ?_) ?_ ?_
            rotate_left
            ·show Act.put _ (some 45) _ = _
             simp only [Act.put, List.setIfInBounds_toArray, List.set_cons_zero, List.set_cons_succ, fP, gG]
             rfl
            refine pA 18 46 (bQ 20 524287) ?_
            refine pA 19 4 (bQ 20 1048575) ?_
            refine o6 (lF HT_.out (by kernel_rfl)) ?_
            try go_wp2
            go_ret
            exact ⟨eT, bT HB⟩
           exact absurd H (by simp)
          replace H := yF H
          obtain rfl := Option.some.inj H
          try go_wp2
          refine yA1 (fV HB.out) ?_
          clear HB
          intro HB
          have p549 : 0 ≤ (0 : Int) := (by omega)
          have q549 : 0 < (l1.length : Int) := of_decide_eq_true aT
          obtain ⟨ad549, e549, hx549_0⟩ := Kd.fO HR1.out 0 p549 q549
          have hw549_0 := hx549_0
          (try rw [show ((0 : Int)).toNat = 0 from rfl] at hw549_0)
          (try rw [show 0 * 1 = 0 from rfl] at hw549_0)
          (try rw [Addr.add_zero'] at hw549_0)
          cases e549
          have qi549 : (0 < l1.length) = True := eq_true (by omega)
          (try rw [show ((0 : Int)).toNat = 0 from rfl] at hx549_0)
          (try rw [Addr.add_zero'] at hx549_0)
          replace hx549_0 := (HB.out.cell (World.block_lt_of_cell? w _ hx549_0)).trans hx549_0
          replace p549 := eq_true p549
          replace q549 := eq_true q549
          refine lS (n := 20) (S := fun w' => w'.cell? ad549 = some (.int .i64 (rd l1 0))) (ds := []) #[false, false, false, false, false, false, false, false, false, false, false, false, false, false, false, false, false, false, false, false] (by kernel_rfl) rfl rfl (((HB.out.cell (World.block_lt_of_cell? w _ hw549_0)).trans hw549_0)) (fun hHeld => ?_); refine jK bK.tX bK.qw (fun HT_ HW_ => ?_)
          generalize wc.drew = w27 at HB hx549_0 hHeld ⊢
          refine pA 0 28 (bQ 20 1) ?_
          refine pA 1 29 (bQ 20 3) ?_
          refine pA 2 30 (bQ 20 7) ?_
          refine pA 3 31 (bQ 20 15) ?_
          refine pA 4 32 (bQ 20 31) ?_
          refine pA 5 33 (bQ 20 63) ?_
          refine pA 6 34 (bQ 20 127) ?_
          refine pA 7 35 (bQ 20 255) ?_
          refine pA 8 36 (bQ 20 511) ?_
          refine pA 9 37 (bQ 20 1023) ?_
          refine tV (i := 10) (N := some 38) (v := ?_) (a' := ?_) #[true, true, true, true, true, true, true, true, true, true, true, false, false, false, false, false, false, false, false, false] rfl rfl (oJ HT_.out HW_.out (by kernel_rfl)) (fun _ _ _ h => h) (Or.inl ⟨by rfl, ?_⟩) hHeld ?_ ?_
          rotate_left
          ·intro w' s0
           go_simp
           with_reducible rfl
          rotate_left
          ·simp only [Act.put, List.setIfInBounds_toArray, List.set_cons_zero, List.set_cons_succ, fP, gG]
           rfl
          refine rG (i := 11) (N := some 39) (bQ 20 4095) rfl rfl (oD HT_.out (by kernel_rfl)) (by decide) (fun K hK => ?_)
          refine o5 Tryz.func75 (by kernel_rfl) rfl #[.int .i64 (rd l1 0)] (by rfl) rfl rfl Z24 ?_
          with_reducible refine (jv.calls (rd l1 0) false _ A20.out).mono ?_
          rintro e w' ⟨rfl, ⟨nd, rfl⟩⟩
          refine ⟨_, rfl, ?_⟩
          refine hK.out _ _ (((HB.out.cell (World.block_lt_of_cell? w _ hw549_0)).trans hw549_0)) (fun hHeld => ?_)
          clear hK K
          refine oh (a' := ?_) ?_ ?_
          rotate_left
          ·show Act.put _ (some 39) _ = _
           simp only [Act.put, List.setIfInBounds_toArray, List.set_cons_zero, List.set_cons_succ, fP, gG]
           rfl
          refine pA 12 40 (bQ 20 8191) ?_
          refine pA 13 41 (bQ 20 16383) ?_
          refine pU 14 42 (bQ 20 32767) ?_
          refine pU 15 43 (bQ 20 65535) ?_
          refine pU 16 44 (bQ 20 131071) ?_
          refine pU 17 45 (bQ 20 262143) ?_
          refine pA 18 46 (bQ 20 524287) ?_
          refine pA 19 4 (bQ 20 1048575) ?_
          refine o6 (lF HT_.out (by kernel_rfl)) ?_
          try go_wp2
          go_ret
          exact ⟨eT, bT HB⟩
         exact absurd H (by simp)
        have c18b1 : decide (l1.length ≤ 3) = false := decide_eq_false (by omega)
        clear c18
        obtain rfl := Option.some.inj H
        try go_wp2
        refine yA1 (fV HB.out) ?_
        clear HB
        intro HB
        refine lS (n := 20) (S := fun w' => True) (ds := []) #[false, false, false, false, false, false, false, false, false, false, false, false, false, false, false, false, false, false, false, false] (by kernel_rfl) rfl rfl trivial (fun hHeld => ?_); refine jK bK.tX bK.qw (fun HT_ HW_ => ?_)
        generalize wc.drew = w28 at HB hHeld ⊢
        refine pA 0 28 (bQ 20 1) ?_
        refine pA 1 29 (bQ 20 3) ?_
        refine pA 2 30 (bQ 20 7) ?_
        refine pA 3 31 (bQ 20 15) ?_
        refine pA 4 32 (bQ 20 31) ?_
        refine pA 5 33 (bQ 20 63) ?_
        refine pA 6 34 (bQ 20 127) ?_
        refine pA 7 35 (bQ 20 255) ?_
        refine pU 8 36 (bQ 20 511) ?_
        refine pU 9 37 (bQ 20 1023) ?_
        refine pU 10 38 (bQ 20 2047) ?_
        refine pU 11 39 (bQ 20 4095) ?_
        refine pA 12 40 (bQ 20 8191) ?_
        refine pA 13 41 (bQ 20 16383) ?_
        refine pU 14 42 (bQ 20 32767) ?_
        refine pU 15 43 (bQ 20 65535) ?_
        refine pU 16 44 (bQ 20 131071) ?_
        refine pU 17 45 (bQ 20 262143) ?_
        refine pA 18 46 (bQ 20 524287) ?_
        refine pA 19 4 (bQ 20 1048575) ?_
        refine o6 (lF HT_.out (by kernel_rfl)) ?_
        try go_wp2
        go_ret
        exact ⟨eT, bT HB⟩
       have c17b0 : decide (2 ≤ (l1.length : Int)) = false := decide_eq_false c17
       have c17b1 : decide (2 ≤ l1.length) = false := decide_eq_false (by omega)
       clear c17
       obtain rfl := Option.some.inj H
       try go_wp2
       refine yA1 (fV HB.out) ?_
       clear HB
       intro HB
       refine lS (n := 20) (S := fun w' => True) (ds := []) #[false, false, false, false, false, false, false, false, false, false, false, false, false, false, false, false, false, false, false, false] (by kernel_rfl) rfl rfl trivial (fun hHeld => ?_); refine jK bK.tX bK.qw (fun HT_ HW_ => ?_)
       generalize wc.drew = w29 at HB hHeld ⊢
       refine pA 0 28 (bQ 20 1) ?_
       refine pA 1 29 (bQ 20 3) ?_
       refine pA 2 30 (bQ 20 7) ?_
       refine pU 3 31 (bQ 20 15) ?_
       refine pU 4 32 (bQ 20 31) ?_
       refine pU 5 33 (bQ 20 63) ?_
       refine pA 6 34 (bQ 20 127) ?_
       refine pA 7 35 (bQ 20 255) ?_
       refine pU 8 36 (bQ 20 511) ?_
       refine pU 9 37 (bQ 20 1023) ?_
       refine pU 10 38 (bQ 20 2047) ?_
       refine pU 11 39 (bQ 20 4095) ?_
       refine pA 12 40 (bQ 20 8191) ?_
       refine pA 13 41 (bQ 20 16383) ?_
       refine pU 14 42 (bQ 20 32767) ?_
       refine pU 15 43 (bQ 20 65535) ?_
       refine pU 16 44 (bQ 20 131071) ?_
       refine pU 17 45 (bQ 20 262143) ?_
       refine pA 18 46 (bQ 20 524287) ?_
       refine pA 19 4 (bQ 20 1048575) ?_
       refine o6 (lF HT_.out (by kernel_rfl)) ?_
       try go_wp2
       go_ret
       exact ⟨eT, bT HB⟩
      revert H
      refine gU (fun c30 H => ?_) fun c30 H => ?_
      ·have c30b0 : decide (2 ≤ (l1.length : Int)) = true := decide_eq_true c30
       have c30b1 : decide (2 ≤ l1.length) = true := decide_eq_true (by omega)
       clear c30
       revert H
       refine qF (fun c31 c31b0 H => ?_) fun c31 c31b0 H => ?_
       ·have c31b1 : decide (l1.length ≤ 2) = true := decide_eq_true (by omega)
        clear c31
        revert H
        refine kP (fun c32 c32b0 H => ?_) fun c32 H => ?_
        ·have c32b1 : decide (0 < l1.length) = true := decide_eq_true (by omega)
         clear c32
         revert H
         refine yB1 fun t554 A33 H => ?_
         cases t554
         rotate_left
         ·replace H := yT H
          revert H
          refine jm (fun c35b0 c35b1 H => ?_) fun c35 H => ?_
          ·revert H
           refine yB1 fun t556 A36 H => ?_
           obtain rfl := Option.some.inj H
           try go_wp2
           refine yA1 (fV HB.out) ?_
           clear HB
           intro HB
           have p553 : 0 ≤ (0 : Int) := (by omega)
           have q553 : 0 < (l1.length : Int) := of_decide_eq_true aT
           obtain ⟨ad553, e553, hx553_0⟩ := Kd.fO HR1.out 0 p553 q553
           have hw553_0 := hx553_0
           (try rw [show ((0 : Int)).toNat = 0 from rfl] at hw553_0)
           (try rw [show 0 * 1 = 0 from rfl] at hw553_0)
           (try rw [Addr.add_zero'] at hw553_0)
           cases e553
           have qi553 : (0 < l1.length) = True := eq_true (by omega)
           (try rw [show ((0 : Int)).toNat = 0 from rfl] at hx553_0)
           (try rw [Addr.add_zero'] at hx553_0)
           replace hx553_0 := (HB.out.cell (World.block_lt_of_cell? w _ hx553_0)).trans hx553_0
           replace p553 := eq_true p553
           replace q553 := eq_true q553
           refine lS (n := 20) (S := fun w' => w'.cell? ad553 = some (.int .i64 (rd l1 0))) (ds := []) #[false, false, false, false, false, false, false, false, false, false, false, false, false, false, false, false, false, false, false, false] (by kernel_rfl) rfl rfl (((HB.out.cell (World.block_lt_of_cell? w _ hw553_0)).trans hw553_0)) (fun hHeld => ?_); refine jK bK.tX bK.qw (fun HT_ HW_ => ?_)
           generalize wc.drew = w37 at HB hx553_0 hHeld ⊢
           refine pA 0 28 (bQ 20 1) ?_
           refine pA 1 29 (bQ 20 3) ?_
           refine pA 2 30 (bQ 20 7) ?_
           refine pA 3 31 (bQ 20 15) ?_
           refine pA 4 32 (bQ 20 31) ?_
           refine pA 5 33 (bQ 20 63) ?_
           refine pA 6 34 (bQ 20 127) ?_
           refine pA 7 35 (bQ 20 255) ?_
           refine pA 8 36 (bQ 20 511) ?_
           refine pA 9 37 (bQ 20 1023) ?_
           refine tV (i := 10) (N := some 38) (v := ?_) (a' := ?_) #[true, true, true, true, true, true, true, true, true, true, true, false, false, false, false, false, false, false, false, false] rfl rfl (oJ HT_.out HW_.out (by kernel_rfl)) (fun _ _ _ h => h) (Or.inl ⟨by rfl, ?_⟩) hHeld ?_ ?_
           rotate_left
           ·intro w' s0
            go_simp
            with_reducible rfl
           rotate_left
           ·simp only [Act.put, List.setIfInBounds_toArray, List.set_cons_zero, List.set_cons_succ, fP, gG]
            rfl
           refine rG (i := 11) (N := some 39) (bQ 20 4095) rfl rfl (oD HT_.out (by kernel_rfl)) (by decide) (fun K hK => ?_)
           refine o5 Tryz.func75 (by kernel_rfl) rfl #[.int .i64 (rd l1 0)] (by rfl) rfl rfl Z24 ?_
           with_reducible refine (jv.calls (rd l1 0) true _ A33.out).mono ?_
           rintro e w' ⟨rfl, ⟨nd, rfl⟩⟩
           refine ⟨_, rfl, ?_⟩
           obtain ⟨i038, hi038, _, hsz38, _⟩ := info_parts info3
           obtain ⟨A38, hcut38, hA38, hC38⟩ := mM (P := Tryz.prog) (Value.int .i64) 0 60 3 .i64 Tryz.underlying60 hi038 hsz38 (some ad553) c1 l1 1 (by omega) (of_decide_eq_true aT) HC1.out
           have HR555 := af.mk (Kd.nU (h1 := fun _ => rfl) (hA38 _ (Kd.lH HR1.out)))
           have HC555 := af.mk hC38
           clear hA38 hC38 hi038 hsz38
           refine hK.out _ _ (((HB.out.cell (World.block_lt_of_cell? w _ hw553_0)).trans hw553_0)) (fun hHeld => ?_)
           clear hK K
           refine oh (a' := ?_) ?_ ?_
           rotate_left
           ·show Act.put _ (some 39) _ = _
            simp only [Act.put, List.setIfInBounds_toArray, List.set_cons_zero, List.set_cons_succ, fP, gG]
            rfl
           refine pA 12 40 (bQ 20 8191) ?_
           refine pA 13 41 (bQ 20 16383) ?_
           refine pA 14 42 (bQ 20 32767) ?_
           refine pA 15 43 (bQ 20 65535) ?_
           refine rG (i := 16) (N := some 44) (bQ 20 131071) rfl rfl (oD HT_.out (by kernel_rfl)) (by decide) (fun K hK => ?_)
           refine o5 Tryz.func76 (by kernel_rfl) rfl #[.int .i64 5] (by rfl) rfl rfl Z17 ?_
           with_reducible refine (qj 5 _).mono ?_
           rintro e wIs ⟨gIs, rfl, hbk, hge, hb⟩
           refine ⟨_, rfl, ?_⟩
           have n0_ := af.mk (aA (bT HB) hb)
           have BKIs := af.mk hbk
           clear HB
           have HB := n0_
           clear n0_ hbk hge
           (try clear hb)
           refine hK.out _ _ (((HB.out.cell (World.block_lt_of_cell? w _ hw553_0)).trans hw553_0)) (fun hHeld => ?_)
           clear hK K
           refine oh (a' := ?_) ?_ ?_
           rotate_left
           ·show Act.put _ (some 44) _ = _
            simp only [Act.put, List.setIfInBounds_toArray, List.set_cons_zero, List.set_cons_succ, fP, gG]
            rfl
           refine rG (i := 17) (N := some 45) (bQ 20 262143) rfl rfl (oD HT_.out (by kernel_rfl)) (by decide) (fun K hK => ?_)
           refine o5 Tryz.func73 (by kernel_rfl) rfl #[.slice A38 (l1.drop 1).length (c1 - 1), .func (.func 93) #[] #[.pointer (some ⟨gIs, 0, none⟩)]] (by rfl) rfl rfl (by (try simp only [List.map_toArray, List.map_cons, List.map_nil]); first | done | (rw [show (l1.drop 1).length = (l1.length - 1) from List.length_drop] <;> rfl) | rfl | (simp only [List.length_drop, List.length_take]; rfl)) ?_
           with_reducible refine (lK.calls _ _ (l1.drop 1) 5 t556 _ ?side1 ?side2 A36.out (hj := ?side3)).mono ?_
           (case side3 => exact BKIs.out)
           (case side1 => repeat (first | exact (Kd.jW HR555.out (bT HB)) | (with_reducible refine Kd.jR ?_ _) | (with_reducible refine Kd.jQ ?_ _) | (with_reducible refine Kd.kV ?_)))
           (case side2 => exact HC555.out)
           rintro e w39 ⟨rfl, hb⟩
           refine ⟨_, rfl, ?_⟩
           refine yA1 (aA (bT HB) hb) ?_
           clear HB
           intro HB
           (try clear hb)
           (try clear hb2)
           (try clear hk)
           (try clear hi)
           refine hK.out _ _ (((HB.out.cell (World.block_lt_of_cell? w _ hw553_0)).trans hw553_0)) (fun hHeld => ?_)
           clear hK K
           refine oh (a' := ?_) ?_ ?_
           rotate_left
           ·show Act.put _ (some 45) _ = _
            simp only [Act.put, List.setIfInBounds_toArray, List.set_cons_zero, List.set_cons_succ, fP, gG]
            rfl
           refine pA 18 46 (bQ 20 524287) ?_
           refine pA 19 4 (bQ 20 1048575) ?_
           refine o6 (lF HT_.out (by kernel_rfl)) ?_
           try go_wp2
           go_ret
           exact ⟨eT, bT HB⟩
          exact absurd H (by simp)
         replace H := yF H
         obtain rfl := Option.some.inj H
         try go_wp2
         refine yA1 (fV HB.out) ?_
         clear HB
         intro HB
         have p553 : 0 ≤ (0 : Int) := (by omega)
         have q553 : 0 < (l1.length : Int) := of_decide_eq_true aT
         obtain ⟨ad553, e553, hx553_0⟩ := Kd.fO HR1.out 0 p553 q553
         have hw553_0 := hx553_0
         (try rw [show ((0 : Int)).toNat = 0 from rfl] at hw553_0)
         (try rw [show 0 * 1 = 0 from rfl] at hw553_0)
         (try rw [Addr.add_zero'] at hw553_0)
         cases e553
         have qi553 : (0 < l1.length) = True := eq_true (by omega)
         (try rw [show ((0 : Int)).toNat = 0 from rfl] at hx553_0)
         (try rw [Addr.add_zero'] at hx553_0)
         replace hx553_0 := (HB.out.cell (World.block_lt_of_cell? w _ hx553_0)).trans hx553_0
         replace p553 := eq_true p553
         replace q553 := eq_true q553
         refine lS (n := 20) (S := fun w' => w'.cell? ad553 = some (.int .i64 (rd l1 0))) (ds := []) #[false, false, false, false, false, false, false, false, false, false, false, false, false, false, false, false, false, false, false, false] (by kernel_rfl) rfl rfl (((HB.out.cell (World.block_lt_of_cell? w _ hw553_0)).trans hw553_0)) (fun hHeld => ?_); refine jK bK.tX bK.qw (fun HT_ HW_ => ?_)
         generalize wc.drew = w40 at HB hx553_0 hHeld ⊢
         refine pA 0 28 (bQ 20 1) ?_
         refine pA 1 29 (bQ 20 3) ?_
         refine pA 2 30 (bQ 20 7) ?_
         refine pA 3 31 (bQ 20 15) ?_
         refine pA 4 32 (bQ 20 31) ?_
         refine pA 5 33 (bQ 20 63) ?_
         refine pA 6 34 (bQ 20 127) ?_
         refine pA 7 35 (bQ 20 255) ?_
         refine pA 8 36 (bQ 20 511) ?_
         refine pA 9 37 (bQ 20 1023) ?_
         refine tV (i := 10) (N := some 38) (v := ?_) (a' := ?_) #[true, true, true, true, true, true, true, true, true, true, true, false, false, false, false, false, false, false, false, false] rfl rfl (oJ HT_.out HW_.out (by kernel_rfl)) (fun _ _ _ h => h) (Or.inl ⟨by rfl, ?_⟩) hHeld ?_ ?_
         rotate_left
         ·intro w' s0
          go_simp
          with_reducible rfl
         rotate_left
         ·simp only [Act.put, List.setIfInBounds_toArray, List.set_cons_zero, List.set_cons_succ, fP, gG]
          rfl
         refine rG (i := 11) (N := some 39) (bQ 20 4095) rfl rfl (oD HT_.out (by kernel_rfl)) (by decide) (fun K hK => ?_)
         refine o5 Tryz.func75 (by kernel_rfl) rfl #[.int .i64 (rd l1 0)] (by rfl) rfl rfl Z24 ?_
         with_reducible refine (jv.calls (rd l1 0) false _ A33.out).mono ?_
         rintro e w' ⟨rfl, ⟨nd, rfl⟩⟩
         refine ⟨_, rfl, ?_⟩
         refine hK.out _ _ (((HB.out.cell (World.block_lt_of_cell? w _ hw553_0)).trans hw553_0)) (fun hHeld => ?_)
         clear hK K
         refine oh (a' := ?_) ?_ ?_
         rotate_left
         ·show Act.put _ (some 39) _ = _
          simp only [Act.put, List.setIfInBounds_toArray, List.set_cons_zero, List.set_cons_succ, fP, gG]
          rfl
         refine pA 12 40 (bQ 20 8191) ?_
         refine pA 13 41 (bQ 20 16383) ?_
         refine pU 14 42 (bQ 20 32767) ?_
         refine pU 15 43 (bQ 20 65535) ?_
         refine pU 16 44 (bQ 20 131071) ?_
         refine pU 17 45 (bQ 20 262143) ?_
         refine pA 18 46 (bQ 20 524287) ?_
         refine pA 19 4 (bQ 20 1048575) ?_
         refine o6 (lF HT_.out (by kernel_rfl)) ?_
         try go_wp2
         go_ret
         exact ⟨eT, bT HB⟩
        exact absurd H (by simp)
       have c31b1 : decide (l1.length ≤ 2) = false := decide_eq_false (by omega)
       clear c31
       obtain rfl := Option.some.inj H
       try go_wp2
       refine yA1 (fV HB.out) ?_
       clear HB
       intro HB
       refine lS (n := 20) (S := fun w' => True) (ds := []) #[false, false, false, false, false, false, false, false, false, false, false, false, false, false, false, false, false, false, false, false] (by kernel_rfl) rfl rfl trivial (fun hHeld => ?_); refine jK bK.tX bK.qw (fun HT_ HW_ => ?_)
       generalize wc.drew = w41 at HB hHeld ⊢
       refine pA 0 28 (bQ 20 1) ?_
       refine pA 1 29 (bQ 20 3) ?_
       refine pA 2 30 (bQ 20 7) ?_
       refine pA 3 31 (bQ 20 15) ?_
       refine pA 4 32 (bQ 20 31) ?_
       refine pA 5 33 (bQ 20 63) ?_
       refine pA 6 34 (bQ 20 127) ?_
       refine pA 7 35 (bQ 20 255) ?_
       refine pU 8 36 (bQ 20 511) ?_
       refine pU 9 37 (bQ 20 1023) ?_
       refine pU 10 38 (bQ 20 2047) ?_
       refine pU 11 39 (bQ 20 4095) ?_
       refine pA 12 40 (bQ 20 8191) ?_
       refine pA 13 41 (bQ 20 16383) ?_
       refine pU 14 42 (bQ 20 32767) ?_
       refine pU 15 43 (bQ 20 65535) ?_
       refine pU 16 44 (bQ 20 131071) ?_
       refine pU 17 45 (bQ 20 262143) ?_
       refine pA 18 46 (bQ 20 524287) ?_
       refine pA 19 4 (bQ 20 1048575) ?_
       refine o6 (lF HT_.out (by kernel_rfl)) ?_
       try go_wp2
       go_ret
       exact ⟨eT, bT HB⟩
      have c30b0 : decide (2 ≤ (l1.length : Int)) = false := decide_eq_false c30
      have c30b1 : decide (2 ≤ l1.length) = false := decide_eq_false (by omega)
      clear c30
      obtain rfl := Option.some.inj H
      try go_wp2
      refine yA1 (fV HB.out) ?_
      clear HB
      intro HB
      refine lS (n := 20) (S := fun w' => True) (ds := []) #[false, false, false, false, false, false, false, false, false, false, false, false, false, false, false, false, false, false, false, false] (by kernel_rfl) rfl rfl trivial (fun hHeld => ?_); refine jK bK.tX bK.qw (fun HT_ HW_ => ?_)
      generalize wc.drew = w42 at HB hHeld ⊢
      refine pA 0 28 (bQ 20 1) ?_
      refine pA 1 29 (bQ 20 3) ?_
      refine pA 2 30 (bQ 20 7) ?_
      refine pU 3 31 (bQ 20 15) ?_
      refine pU 4 32 (bQ 20 31) ?_
      refine pU 5 33 (bQ 20 63) ?_
      refine pA 6 34 (bQ 20 127) ?_
      refine pA 7 35 (bQ 20 255) ?_
      refine pU 8 36 (bQ 20 511) ?_
      refine pU 9 37 (bQ 20 1023) ?_
      refine pU 10 38 (bQ 20 2047) ?_
      refine pU 11 39 (bQ 20 4095) ?_
      refine pA 12 40 (bQ 20 8191) ?_
      refine pA 13 41 (bQ 20 16383) ?_
      refine pU 14 42 (bQ 20 32767) ?_
      refine pU 15 43 (bQ 20 65535) ?_
      refine pU 16 44 (bQ 20 131071) ?_
      refine pU 17 45 (bQ 20 262143) ?_
      refine pA 18 46 (bQ 20 524287) ?_
      refine pA 19 4 (bQ 20 1048575) ?_
      refine o6 (lF HT_.out (by kernel_rfl)) ?_
      try go_wp2
      go_ret
      exact ⟨eT, bT HB⟩
     replace H := yF H
     revert H
     refine aU (fun c43b0 c43b1 H => ?_) fun c43 c43b0 c43b1 H => ?_
     ·revert H
      refine yB1 fun t557 A44 H => ?_
      obtain rfl := Option.some.inj H
      go_wp2_with (first | ((with_reducible refine gC 77 rfl ?_); refine gM 77 50 rfl Tryz.func77 (iF.calls _ _ l1 3 3 t557 _ Z9 HC1.out A44.out) ?_; rintro _ w' ⟨rfl, ⟨nd, rfl⟩⟩; refine ⟨_, rfl, ?_⟩))
      go_ret
      exact ⟨eT, bT HB⟩
     have HC45 := af.mk H
     clear H
     go_upto_if 51 with (fail)
     go_cut [51] (fun v51 wc => ∃ (kq : Nat) (x51_44 : Bool), v51 = .bool x51_44 ∧ af (bK.j2 kq l1 (l1.length : Int) a0 x51_44 = some r) ∧ af (kq ≤ kj12) ∧ af (Below w.heap.size w wc))
     case first =>
      have H := HC45.out
      clear HC45
      revert H
      refine aU (fun c46b0 c46b1 H => ?_) fun c46 c46b0 c46b1 H => ?_
      ·(first | rw [c46b0] | (simp only [fP, gG]; rw [c46b0]) | skip)
       have H' := af.mk H
       clear H
       go_wp2
       go_meet
       case rel => exact ⟨_, ((a0 == 6)), fT, H', ⟨by have := HJ5.out; have := HJ12.out; first | omega | exact Nat.le_refl _⟩, ⟨bT HB⟩⟩
      (first | rw [c46b0] | (simp only [fP, gG]; rw [c46b0]) | skip)
      revert H
      refine aU (fun c47b0 c47b1 H => ?_) fun c47 c47b0 c47b1 H => ?_
      ·have H' := af.mk H
       clear H
       go_wp2
       go_meet
       case rel => exact ⟨_, ((a0 == 7)), fT, H', ⟨by have := HJ5.out; have := HJ12.out; first | omega | exact Nat.le_refl _⟩, ⟨bT HB⟩⟩
      revert H
      refine aU (fun c48b0 c48b1 H => ?_) fun c48 c48b0 c48b1 H => ?_
      ·have H' := af.mk H
       clear H
       go_wp2
       go_meet
       case rel => exact ⟨_, ((a0 == 13)), fT, H', ⟨by have := HJ5.out; have := HJ12.out; first | omega | exact Nat.le_refl _⟩, ⟨bT HB⟩⟩
      revert H
      refine aU (fun c49b0 c49b1 H => ?_) fun c49 c49b0 c49b1 H => ?_
      ·have H' := af.mk H
       clear H
       go_wp2
       go_meet
       case rel => exact ⟨_, ((a0 == 14)), fT, H', ⟨by have := HJ5.out; have := HJ12.out; first | omega | exact Nat.le_refl _⟩, ⟨bT HB⟩⟩
      revert H
      refine aU (fun c50b0 c50b1 H => ?_) fun c50 c50b0 c50b1 H => ?_
      ·have H' := af.mk H
       clear H
       go_wp2
       go_meet
       case rel => exact ⟨_, ((a0 == 15)), fT, H', ⟨by have := HJ5.out; have := HJ12.out; first | omega | exact Nat.le_refl _⟩, ⟨bT HB⟩⟩
      revert H
      refine aU (fun c51b0 c51b1 H => ?_) fun c51 c51b0 c51b1 H => ?_
      ·have H' := af.mk H
       clear H
       go_wp2
       go_meet
       case rel => exact ⟨_, ((a0 == 17)), fT, H', ⟨by have := HJ5.out; have := HJ12.out; first | omega | exact Nat.le_refl _⟩, ⟨bT HB⟩⟩
      revert H
      refine aU (fun c52b0 c52b1 H => ?_) fun c52 c52b0 c52b1 H => ?_
      ·have H' := af.mk H
       clear H
       go_wp2
       go_meet
       case rel => exact ⟨_, ((a0 == 28)), fT, H', ⟨by have := HJ5.out; have := HJ12.out; first | omega | exact Nat.le_refl _⟩, ⟨bT HB⟩⟩
      have H' := af.mk H
      clear H
      go_wp2
      go_meet
      case rel => exact ⟨_, ((a0 == 30)), fT, H', ⟨by have := HJ5.out; have := HJ12.out; first | omega | exact Nat.le_refl _⟩, ⟨bT HB⟩⟩
     case rest =>
      clear HC45
      try clear c1
      try clear p2
      try clear c3
      try clear c4
      try clear c5
      try clear p5
      try clear q5
      try clear hx5
      try clear qi5
      try clear c7
      try clear c15
      try clear c30
      try clear c30b0
      try clear c30b1
      try clear c31
      try clear c31b0
      try clear c31b1
      try clear c32
      try clear c34
      try clear c35
      try clear c43
      try clear c43b0
      try clear c43b1
      try clear c46
      try clear c46b0
      try clear c46b1
      try clear c47
      try clear c47b0
      try clear c47b1
      try clear c48
      try clear c48b0
      try clear c48b1
      try clear c49
      try clear c49b0
      try clear c49b1
      try clear c50
      try clear c50b0
      try clear c50b1
      try clear c51
      try clear c51b0
      try clear c51b1
      try clear c52
      try clear c52b0
      try clear c52b1
      try clear hx553_0
      try clear p553
      try clear q553
      obtain ⟨kq, x51_44, rfl, HA, HJ44, HB⟩ := hcut
      cases kq with
      | zero => exact absurd HA.out (by simp [bK.j2])
      | succ kj44 =>
       have H := HA.out
       clear HA
       simp only [bK.j2] at H
       cases x51_44
       rotate_left
       ·replace H := yT H
        revert H
        refine yB1 fun t558 A54 H => ?_
        obtain rfl := Option.some.inj H
        go_wp2_with (first | ((with_reducible refine gC 77 rfl ?_); refine gM 77 61 rfl Tryz.func77 (iF.calls _ _ l1 1 1 t558 _ Z9 HC1.out A54.out) ?_; rintro _ w' ⟨rfl, ⟨nd, rfl⟩⟩; refine ⟨_, rfl, ?_⟩))
        go_ret
        exact ⟨eT, bT HB⟩
       replace H := yF H
       revert H
       refine aU (fun c55b0 c55b1 H => ?_) fun c55 c55b0 c55b1 H => ?_
       ·revert H
        refine yB1 fun t559 A56 H => ?_
        obtain rfl := Option.some.inj H
        go_wp2_with (first | ((with_reducible refine gC 77 rfl ?_); refine gM 77 65 rfl Tryz.func77 (iF.calls _ _ l1 1 9 t559 _ Z9 HC1.out A56.out) ?_; rintro _ w' ⟨rfl, ⟨nd, rfl⟩⟩; refine ⟨_, rfl, ?_⟩))
        go_ret
        exact ⟨eT, bT HB⟩
       revert H
       refine aU (fun c57b0 c57b1 H => ?_) fun c57 c57b0 c57b1 H => ?_
       ·revert H
        refine yB1 fun t560 A58 H => ?_
        obtain rfl := Option.some.inj H
        go_wp2_with (first | ((with_reducible refine gC 77 rfl ?_); refine gM 77 69 rfl Tryz.func77 (iF.calls _ _ l1 0 8 t560 _ Z9 HC1.out A58.out) ?_; rintro _ w' ⟨rfl, ⟨nd, rfl⟩⟩; refine ⟨_, rfl, ?_⟩))
        go_ret
        exact ⟨eT, bT HB⟩
       revert H
       refine aU (fun c59b0 c59b1 H => ?_) fun c59 c59b0 c59b1 H => ?_
       ·revert H
        refine yB1 fun t561 A60 H => ?_
        obtain rfl := Option.some.inj H
        go_wp2_with (first | ((with_reducible refine gC 77 rfl ?_); refine gM 77 74 rfl Tryz.func77 (iF.calls _ _ l1 2 2 t561 _ Z9 HC1.out A60.out) ?_; rintro _ w' ⟨rfl, ⟨nd, rfl⟩⟩; refine ⟨_, rfl, ?_⟩))
        go_ret
        exact ⟨eT, bT HB⟩
       revert H
       refine aU (fun c61b0 c61b1 H => ?_) fun c61 c61b0 c61b1 H => ?_
       ·revert H
        refine yB1 fun t562 A62 H => ?_
        obtain rfl := Option.some.inj H
        go_wp2_with (first | ((with_reducible refine gC 77 rfl ?_); refine gM 77 74 rfl Tryz.func77 (iF.calls _ _ l1 2 2 t562 _ Z9 HC1.out A62.out) ?_; rintro _ w' ⟨rfl, ⟨nd, rfl⟩⟩; refine ⟨_, rfl, ?_⟩))
        go_ret
        exact ⟨eT, bT HB⟩
       obtain rfl := Option.some.inj H
       go_wp2
       go_ret
       exact ⟨eT, bT HB⟩
end Go.Proofs.YtkbhkonenkgfoaaGreat.Q
end
section
namespace Go.Proofs.YtkbhkonenkgfoaaGreat.Q
open Go.RowKit Go.Proofs.YtkbhkonenkgfoaaGreatW.PrintWords Go.Proofs.YtkbhkonenkgfoaaGreatW.PrintLast Go.Proofs.YtkbhkonenkgfoaaGreatW.PrintMore
attribute [local go_sem] dJ dH dS dR cZ cO dI dG
set_option linter.unusedVariables false
set_option linter.unusedSimpArgs false
/-! ### dA: function 16 -/
mutual
def dA.j0 : Nat → List (S29) → Bool → Option (Int × Int)
 | 0, _, _ => none
 | k + 1, x0, x13 => if x13 = true then (some (2, 0)) else ((dD.f k x0).bind fun t564 => (if t564 > 60 then (some (3, 0)) else (if 0 < (x0.length : Int) then (if ((ax x0 0).f0) = 1 then (dA.l0 k x0 x0 (x0.length : Int) 0) else (some (4, 0))) else (none))))
def dA.l0 : Nat → List (S29) → List (S29) → Int → Int → Option (Int × Int)
 | 0, _, _, _, _ => none
 | k + 1, x0, x34, x35, x36 => if x36 < x35 then (if 0 ≤ x36 then (if x36 < (x34.length : Int) then ((eX.f k x0 x36).bind fun t568 => (dA.l1 k x0 x36 ([] : List Int) x34 x35 x36 t568 (t568.length : Int) 0 ((ax x34 x36).f0) ((ax x34 x36).f1) ((ax x34 x36).f2) ((ax x34 x36).f3) ((ax x34 x36).f4))) else (none)) else (none)) else (some (0, 0))
def dA.l1 : Nat → List (S29) → Int → List Int → List (S29) → Int → Int → List Int → Int → Int → Int → Int → ByteArray → Int → ByteArray → Option (Int × Int)
 | 0, _, _, _, _, _, _, _, _, _, _, _, _, _, _ => none
 | k + 1, x0, x4, x6, x34, x35, x36, x43, x44, x45, x568000, x568001, x568002, x568003, x568004 => if x45 < x44 then (if 0 ≤ x45 then (if x45 < (x43.length : Int) then (if 0 ≤ (rd x43 x45) then (if (rd x43 x45) < (x0.length : Int) then (if x6.length < 17592186044416 then (dA.l1 k x0 x4 (x6 ++ [(ax x0 (rd x43 x45)).f0]) x34 x35 x36 x43 x44 (wrap64 (x45 + 1)) x568000 x568001 x568002 x568003 x568004) else (none)) else (none)) else (none)) else (none)) else (none)) else ((dK.f k x568000 x568001 x568002 x568003 x568004).bind fun t576 => (if t576 = true then ((bK.f k x568000 x6).bind fun t577 => (if t577 = true then (dA.l0 k x0 x34 x35 (wrap64 (x36 + 1))) else (some (4, x4)))) else (some (4, x4))))
end
def dA.f (k : Nat) (l0 : List (S29)) : Option (Int × Int) := if (l0.length : Int) > 2000 then (some (3, 0)) else (if (l0.length : Int) = 0 then (dA.j0 k l0 true) else ((dP.f k l0 0).bind fun t563 => (dA.j0 k l0 (t563 != (l0.length : Int)))))
theorem dA.bZ : ∀ k, (∀ y0 y1, LeO (dA.j0 k y0 y1) (dA.j0 (k + 1) y0 y1)) ∧ (∀ y0 y1 y2 y3, LeO (dA.l0 k y0 y1 y2 y3) (dA.l0 (k + 1) y0 y1 y2 y3)) ∧ (∀ y0 y1 y2 y3 y4 y5 y6 y7 y8 y9 y10 y11 y12 y13, LeO (dA.l1 k y0 y1 y2 y3 y4 y5 y6 y7 y8 y9 y10 y11 y12 y13) (dA.l1 (k + 1) y0 y1 y2 y3 y4 y5 y6 y7 y8 y9 y10 y11 y12 y13))
 | 0 => ⟨fun _ _ r h => by simp [dA.j0] at h, fun _ _ _ _ r h => by simp [dA.l0] at h, fun _ _ _ _ _ _ _ _ _ _ _ _ _ _ r h => by simp [dA.l1] at h⟩
 | k + 1 => by
  obtain ⟨ih0, ih1, ih2⟩ := dA.bZ k
  refine ⟨?_, ?_, ?_⟩
  ·intro y0 y1
   unfold dA.j0
   have m0 := dD.mono
   have m1 := dP.mono
   have m2 := eX.mono
   have m3 := dK.mono
   have m4 := bK.mono
   exact yL
  ·intro y0 y1 y2 y3
   unfold dA.l0
   have m0 := dD.mono
   have m1 := dP.mono
   have m2 := eX.mono
   have m3 := dK.mono
   have m4 := bK.mono
   exact yL
  intro y0 y1 y2 y3 y4 y5 y6 y7 y8 y9 y10 y11 y12 y13
  unfold dA.l1
  have m0 := dD.mono
  have m1 := dP.mono
  have m2 := eX.mono
  have m3 := dK.mono
  have m4 := bK.mono
  exact yL
theorem dA.mono : ∀ a0 k, LeO (dA.f k a0) (dA.f (k + 1) a0) := by
 intro a0 k
 obtain ⟨ih0, ih1, ih2⟩ := dA.bZ k
 unfold dA.f
 have m0 := dD.mono
 have m1 := dP.mono
 have m2 := eX.mono
 have m3 := dK.mono
 have m4 := bK.mono
 exact yL
set_option maxHeartbeats 8000000 in
set_option maxRecDepth 100000 in
theorem dA.calls (k : Nat) (A0 : Option Addr) (c0 : Nat) (l0 : List (S29)) (r1 : Int) (r2 : Int) (w : World) (hr0 : Kd.C k29 w A0 l0.length l0) (hc0 : l0.length ≤ c0) (h : dA.f k l0 = some (r1, r2)) :
 Calls Tryz.prog 16 #[.slice A0 l0.length c0] w fun e w' => e = .returned (.tuple #[.int .i64 r1, .int .i64 r2]) ∧ Below w.heap.size w w' := by
 have hu29 := Tryz.underlying29
 have HR0 := af.mk hr0
 have HC0 := af.mk hc0
 clear hr0 hc0
 have HB := af.mk (Below.refl w.heap.size w)
 have H := h
 clear h
 unfold dA.f at H
 revert H
 refine gU (fun c2 H => ?_) fun c2 H => ?_
 ·have c2b0 : decide (2000 < (l0.length : Int)) = true := decide_eq_true c2
  have c2b1 : decide (2000 < l0.length) = true := decide_eq_true (by omega)
  clear c2
  simp only [Option.some.injEq, Prod.mk.injEq] at H
  obtain ⟨rfl, rfl⟩ := H
  go_enter Tryz.func16, Tryz.ntmps16
  go_wp2
  go_ret2
  exact ⟨eT, bT HB⟩
 have c2b0 : decide (2000 < (l0.length : Int)) = false := decide_eq_false c2
 have c2b1 : decide (2000 < l0.length) = false := decide_eq_false (by omega)
 clear c2
 have HC3 := af.mk H
 clear H
 go_enter Tryz.func16, Tryz.ntmps16
 go_upto_region 3 with (fail)
 go_cut [13] (fun v13 wc => ∃ (kq : Nat) (x13_2 : Bool), v13 = .bool x13_2 ∧ af (dA.j0 kq l0 x13_2 = some (r1, r2)) ∧ af (kq ≤ k) ∧ af (Below w.heap.size w wc))
 case first =>
  have H := HC3.out
  clear HC3
  revert H
  refine aU (fun c4b0 c4b1 H => ?_) fun c4 c4b0 c4b1 H => ?_
  ·(first | rw [c4b0] | (simp only [fP, gG]; rw [c4b0]) | skip)
   have H' := af.mk H
   clear H
   go_wp2
   go_meet
   case rel => exact ⟨_, (true), fT, H', ⟨Z11⟩, ⟨bT HB⟩⟩
  have c4b2 : ¬ (l0 = []) := fun h_ => c4 (by rw [h_]; rfl)
  (first | rw [c4b0] | (simp only [fP, gG]; rw [c4b0]) | skip)
  revert H
  refine yB1 fun t563 A5 H => ?_
  have H' := af.mk H
  clear H
  go_wp2_with (first | (go_at_call 29; (with_reducible refine (dP.calls k _ _ l0 0 t563 _ ?side1 ?side2 A5.out).mono ?_); (case side1 => exact Z3); (case side2 => exact HC0.out); rintro e w' ⟨rfl, ⟨nd, rfl⟩⟩))
  go_meet
  case rel => exact ⟨_, ((t563 != (l0.length : Int))), fT, H', ⟨Z11⟩, ⟨bT HB⟩⟩
 case rest =>
  clear HC3
  try clear c1
  try clear c2
  try clear c2b0
  try clear c2b1
  try clear p2
  try clear c4
  try clear c4b0
  try clear c4b1
  try clear c4b2
  obtain ⟨kq, x13_2, rfl, HA, HJ2, HB⟩ := hcut
  cases kq with
  | zero => exact absurd HA.out (by simp [dA.j0])
  | succ kj2 =>
   have H := HA.out
   clear HA
   simp only [dA.j0] at H
   cases x13_2
   rotate_left
   ·replace H := yT H
    simp only [Option.some.injEq, Prod.mk.injEq] at H
    obtain ⟨rfl, rfl⟩ := H
    go_wp2
    go_ret2
    exact ⟨eT, bT HB⟩
   replace H := yF H
   revert H
   refine yB1 fun t564 A7 H => ?_
   revert H
   refine gU (fun c8 H => ?_) fun c8 H => ?_
   ·have c8b0 : decide (60 < t564) = true := decide_eq_true c8
    clear c8
    simp only [Option.some.injEq, Prod.mk.injEq] at H
    obtain ⟨rfl, rfl⟩ := H
    go_wp2_with (first | ((with_reducible refine gC 30 rfl ?_); refine gM 30 26 rfl Tryz.func30 (dD.calls kj2 _ _ l0 t564 _ Z3 HC0.out A7.out) ?_; rintro _ w9 ⟨rfl, hb⟩; refine ⟨_, rfl, yA1 (aA (bT HB) hb) ?_⟩; clear HB hb; intro HB))
    go_ret2
    exact ⟨eT, bT HB⟩
   have c8b0 : decide (60 < t564) = false := decide_eq_false c8
   clear c8
   revert H
   refine kP (fun c10 c10b0 H => ?_) fun c10 H => ?_
   ·have c10b1 : decide (0 < l0.length) = true := decide_eq_true (by omega)
    clear c10
    revert H
    refine aU (fun c11b0 c11b1 H => ?_) fun c11 c11b0 c11b1 H => ?_
    ·have H' := af.mk H
     clear H
     go_wp2_with (first | ((with_reducible refine gC 30 rfl ?_); refine gM 30 26 rfl Tryz.func30 (dD.calls kj2 _ _ l0 t564 _ Z3 HC0.out A7.out) ?_; rintro _ w12 ⟨rfl, hb⟩; refine ⟨_, rfl, yA1 (aA (bT HB) hb) ?_⟩; clear HB hb; intro HB; have p565 : 0 ≤ (0 : Int) := (by omega); have q565 : 0 < (l0.length : Int) := of_decide_eq_true aT; obtain ⟨ad565, e565, hx565_0, hx565_1, hx565_2, hx565_3, hx565_4⟩ := iO HR0.out 0 p565 q565; cases e565; have qi565 : (0 < l0.length) = True := eq_true (by omega); (try rw [show ((0 : Int)).toNat = 0 from rfl] at hx565_0); (try rw [show 0 * 5 = 0 from rfl] at hx565_0); (try rw [Addr.add_zero'] at hx565_0); (try rw [show ((0 : Int)).toNat = 0 from rfl] at hx565_1); (try rw [show 0 * 5 = 0 from rfl] at hx565_1); (try rw [Addr.add_zero'] at hx565_1); (try rw [show ((0 : Int)).toNat = 0 from rfl] at hx565_2); (try rw [show 0 * 5 = 0 from rfl] at hx565_2); (try rw [Addr.add_zero'] at hx565_2); (try rw [show ((0 : Int)).toNat = 0 from rfl] at hx565_3); (try rw [show 0 * 5 = 0 from rfl] at hx565_3); (try rw [Addr.add_zero'] at hx565_3); (try rw [show ((0 : Int)).toNat = 0 from rfl] at hx565_4); (try rw [show 0 * 5 = 0 from rfl] at hx565_4); (try rw [Addr.add_zero'] at hx565_4); replace hx565_0 := (HB.out.cell (World.block_lt_of_cell? w _ hx565_0)).trans hx565_0; replace hx565_1 := (HB.out.cell (World.block_lt_of_cell? w _ hx565_1)).trans hx565_1; replace hx565_2 := (HB.out.cell (World.block_lt_of_cell? w _ hx565_2)).trans hx565_2; replace hx565_3 := (HB.out.cell (World.block_lt_of_cell? w _ hx565_3)).trans hx565_3; replace hx565_4 := (HB.out.cell (World.block_lt_of_cell? w _ hx565_4)).trans hx565_4; replace p565 := eq_true p565; replace q565 := eq_true q565))
     go_loopg [36] kj2 (fun kq v36 w' => ∃ (x36_2 : Int), v36 = .int .i64 x36_2 ∧ af (dA.l0 kq l0 l0 (l0.length : Int) x36_2 = some (r1, r2)) ∧ af (kq ≤ kj2) ∧ af (Below w.heap.size w w'))
     case atStart => exact ⟨(0), fT, H', ⟨Nat.le_refl _⟩, ⟨bT HB⟩⟩
     case round =>
      clear H'
      try clear c1
      try clear c2
      try clear c2b0
      try clear c2b1
      try clear p2
      try clear c3
      try clear c4
      try clear c4b0
      try clear c4b1
      try clear c4b2
      try clear p5
      try clear q5
      try clear hx5
      try clear qi5
      try clear c6
      try clear c8
      try clear c8b0
      try clear c10
      try clear c10b0
      try clear c10b1
      try clear c11
      try clear c11b0
      try clear c11b1
      try clear hx565_0
      try clear hx565_1
      try clear hx565_2
      try clear hx565_3
      try clear hx565_4
      try clear p2
      try clear p565
      try clear q565
      obtain ⟨x36_2, rfl, HA, HK2, HB⟩ := hrel
      cases gk with
      | zero => exact absurd HA.out (by simp [dA.l0])
      | succ k2 =>
       have H := HA.out
       clear HA
       simp only [dA.l0] at H
       revert H
       refine iR (fun c13b0 H => ?_) fun c13b0 H => ?_
       ·revert H
        refine gB (fun c14b0 H => ?_) fun c14 H => ?_
        ·revert H
         refine gB (fun c15b0 H => ?_) fun c15 H => ?_
         ·revert H
          refine yB1 fun t568 A16 H => ?_
          have H' := af.mk H
          clear H
          have p566 : 0 ≤ (x36_2 : Int) := of_decide_eq_true aT
          have q566 : x36_2 < (l0.length : Int) := of_decide_eq_true aT
          obtain ⟨ad566, e566, hx566_0, hx566_1, hx566_2, hx566_3, hx566_4⟩ := iO HR0.out x36_2 p566 q566
          obtain rfl : ad565 = ad566 := (by injection e566)
          replace hx566_0 := (HB.out.cell (World.block_lt_of_cell? w _ hx566_0)).trans hx566_0
          replace hx566_1 := (HB.out.cell (World.block_lt_of_cell? w _ hx566_1)).trans hx566_1
          replace hx566_2 := (HB.out.cell (World.block_lt_of_cell? w _ hx566_2)).trans hx566_2
          replace hx566_3 := (HB.out.cell (World.block_lt_of_cell? w _ hx566_3)).trans hx566_3
          replace hx566_4 := (HB.out.cell (World.block_lt_of_cell? w _ hx566_4)).trans hx566_4
          replace p566 := eq_true p566
          replace q566 := eq_true q566
          go_wp2_with (first | ((with_reducible refine bH (N := 5) rfl ?_); (try (refine pF (by rfl) ?_; dsimp only)); refine fA ?hg (N := 5) ?hd (cs := #[.int .i64 0, .int .i64 0, .string (⟨#[]⟩ : ByteArray), .int .i64 0, .string (⟨#[]⟩ : ByteArray)]) (t := 29) ?hr ?_; (case hd => rfl); (case hg => rfl); (case hr => first | (go_simp; done) | (go_simp; rfl)); intro gb567 hg w17 hbox hb; refine yA4 (aA (bT HB) hb) (hbox) ((by rw [hg]; exact (bD (bT HB)) : w.heap.size ≤ gb567)) ((by rw [hg]; exact (bD (bT HB)) : w.heap.size ≤ gb567)) ?_; clear HB; intro HB BK567 GW567 GE567; clear hb hbox hg; have hcz18_0 : w17.cell? ⟨gb567, 0, none⟩ = some (.int .i64 0) := (ag BK567.out 0).trans rfl; have hcz18_1 : w17.cell? ⟨gb567, 1, none⟩ = some (.int .i64 0) := (ag BK567.out 1).trans rfl; have hcz18_2 : w17.cell? ⟨gb567, 2, none⟩ = some (.string (⟨#[]⟩ : ByteArray)) := (ag BK567.out 2).trans rfl; have hcz18_3 : w17.cell? ⟨gb567, 3, none⟩ = some (.int .i64 0) := (ag BK567.out 3).trans rfl; have hcz18_4 : w17.cell? ⟨gb567, 4, none⟩ = some (.string (⟨#[]⟩ : ByteArray)) := (ag BK567.out 4).trans rfl; have hfz18_0 := ae BK567.out 0; have hfz18_1 := ae BK567.out 1; have hfz18_2 := ae BK567.out 2; have hfz18_3 := ae BK567.out 3; have hfz18_4 := ae BK567.out 4) | ((with_reducible refine gC 31 rfl ?_); refine gM 31 43 rfl Tryz.func31 (eX.calls k2 _ _ l0 x36_2 t568 _ (Kd.jW HR0.out (bT HB)) HC0.out A16.out) ?_; rintro _ w19 ⟨v569, rfl, ho0, hb⟩; refine ⟨_, rfl, yA3 (Kd.iw ho0 (bD (bT HB))) (dL (g := gb567) (o := .cells #[.int .i64 ((ax l0 x36_2).f0), .int .i64 ((ax l0 x36_2).f1), .string ((ax l0 x36_2).f2), .int .i64 ((ax l0 x36_2).f3), .string ((ax l0 x36_2).f4)] 29 (0, 0)) (by refine bW (cs := #[.int .i64 ((ax l0 x36_2).f0), .int .i64 ((ax l0 x36_2).f1), .string ((ax l0 x36_2).f2), .int .i64 ((ax l0 x36_2).f3), .string (⟨#[]⟩ : ByteArray)]) ?_ 4 _ rfl; refine bW (cs := #[.int .i64 ((ax l0 x36_2).f0), .int .i64 ((ax l0 x36_2).f1), .string ((ax l0 x36_2).f2), .int .i64 0, .string (⟨#[]⟩ : ByteArray)]) ?_ 3 _ rfl; refine bW (cs := #[.int .i64 ((ax l0 x36_2).f0), .int .i64 ((ax l0 x36_2).f1), .string (⟨#[]⟩ : ByteArray), .int .i64 0, .string (⟨#[]⟩ : ByteArray)]) ?_ 2 _ rfl; refine bW (cs := #[.int .i64 ((ax l0 x36_2).f0), .int .i64 0, .string (⟨#[]⟩ : ByteArray), .int .i64 0, .string (⟨#[]⟩ : ByteArray)]) ?_ 1 _ rfl; refine bW (cs := #[.int .i64 0, .int .i64 0, .string (⟨#[]⟩ : ByteArray), .int .i64 0, .string (⟨#[]⟩ : ByteArray)]) ?_ 0 _ rfl; exact BK567.out) hb) (aA (bT HB) hb) ?_⟩; clear BK567 HB hb ho0; intro HO570 BK567 HB; obtain ⟨Ao20, co20, rfl⟩ := Kd.fG HO570.out))
          go_loopg [6, 45] k2 (fun kq v6 v45 w' => ∃ (x6_3 : List Int) (x45_3 : Int), v45 = .int .i64 x45_3 ∧ af (dA.l1 kq l0 x36_2 x6_3 l0 (l0.length : Int) x36_2 t568 (t568.length : Int) x45_3 ((ax l0 x36_2).f0) ((ax l0 x36_2).f1) ((ax l0 x36_2).f2) ((ax l0 x36_2).f3) ((ax l0 x36_2).f4) = some (r1, r2)) ∧ af (kq ≤ k2) ∧ af (Kd.R (Kd.int .i64) 3 w' w.heap.size (fun k_ => some k_ ≠ ((.slice Ao20 t568.length co20) : Value).ownBlock) v6 x6_3) ∧ af (Kd.R (Kd.int .i64) 3 w' w.heap.size (fun k_ => some k_ ≠ (v6 : Value).ownBlock) (.slice Ao20 t568.length co20) t568) ∧ af (w'.heap[gb567]? = some (.cells #[.int .i64 ((ax l0 x36_2).f0), .int .i64 ((ax l0 x36_2).f1), .string ((ax l0 x36_2).f2), .int .i64 ((ax l0 x36_2).f3), .string ((ax l0 x36_2).f4)] 29 (0, 0))) ∧ af (Below w.heap.size w w'))
          case atStart => exact ⟨(([] : List Int)), (0), fT, H', ⟨Nat.le_refl _⟩, ⟨Z7⟩, ⟨by (with_reducible repeat (first | apply Kd.iP | apply Kd.iI | apply Kd.jf)); exact Kd.jb HO570.out (fun _ hk => (by simp [Value.ownBlock]))⟩, ⟨by exact BK567.out⟩, ⟨bT HB⟩⟩
          case round =>
           clear H'
           try clear c1
           try clear c2
           try clear c2b0
           try clear c2b1
           try clear p2
           try clear c3
           try clear c4
           try clear c4b0
           try clear c4b1
           try clear c4b2
           try clear p5
           try clear q5
           try clear hx5
           try clear qi5
           try clear c6
           try clear c8
           try clear c8b0
           try clear c10
           try clear c10b0
           try clear c10b1
           try clear c11
           try clear c11b0
           try clear c11b1
           try clear c13
           try clear c13b0
           try clear c14
           try clear c14b0
           try clear c15
           try clear c15b0
           try clear c16
           try clear hcz18_0
           try clear hcz18_1
           try clear hcz18_2
           try clear hcz18_3
           try clear hcz18_4
           try clear hfz18_0
           try clear hfz18_1
           try clear hfz18_2
           try clear hfz18_3
           try clear hfz18_4
           try clear hx565_0
           try clear hx565_1
           try clear hx565_2
           try clear hx565_3
           try clear hx565_4
           try clear hx566_0
           try clear hx566_1
           try clear hx566_2
           try clear hx566_3
           try clear hx566_4
           try clear p2
           try clear p5
           try clear p565
           try clear p566
           try clear q5
           try clear q565
           try clear q566
           obtain ⟨x6_3, x45_3, rfl, HA, HK3, HO_6, HO_43, BK567, HB⟩ := hrel
           cases gk with
           | zero => exact absurd HA.out (by simp [dA.l1])
           | succ k3 =>
            have H := HA.out
            clear HA
            simp only [dA.l1] at H
            revert H
            refine iR (fun c21b0 H => ?_) fun c21b0 H => ?_
            ·revert H
             refine gB (fun c22b0 H => ?_) fun c22 H => ?_
             ·revert H
              refine gB (fun c23b0 H => ?_) fun c23 H => ?_
              ·revert H
               refine gB (fun c24b0 H => ?_) fun c24 H => ?_
               ·revert H
                refine gB (fun c25b0 H => ?_) fun c25 H => ?_
                ·revert H
                 refine gU (fun c26 H => ?_) fun c26 H => ?_
                 ·have LMc26 := af.mk c26
                  clear c26
                  obtain ⟨y573, hy573⟩ : ∃ y_ : List Int, y_ = (x6_3 ++ [(ax l0 (rd t568 x45_3)).f0]) := ⟨_, rfl⟩
                  replace H : (dA.l1 k3 l0 x36_2 y573 l0 (l0.length : Int) x36_2 t568 (t568.length : Int) (wrap64 (x45_3 + 1)) ((ax l0 x36_2).f0) ((ax l0 x36_2).f1) ((ax l0 x36_2).f2) ((ax l0 x36_2).f3) ((ax l0 x36_2).f4)) = some (r1, r2) := by first | (rw [hy573]; with_reducible exact H) | (have H2_ := (Option.bind_some _ _).symm.trans H; rw [hy573]; with_reducible exact H2_) | (have H2_ := (Option.bind_some _ _).symm.trans H; with_reducible exact H2_) | with_reducible exact H | (rw [hy573]; exact H) | exact H
                  have Ny573 := af.mk hy573
                  clear hy573
                  have H' := af.mk H
                  clear H
                  have p571 : 0 ≤ (x45_3 : Int) := of_decide_eq_true aT
                  have q571 : x45_3 < (t568.length : Int) := of_decide_eq_true aT
                  obtain ⟨ad571, e571, hx571_0⟩ := Kd.fO (Kd.dU HO_43.out).2.2 x45_3 p571 q571
                  cases e571
                  replace p571 := eq_true p571
                  replace q571 := eq_true q571
                  have p572 : 0 ≤ ((rd t568 x45_3) : Int) := of_decide_eq_true aT
                  have q572 : (rd t568 x45_3) < (l0.length : Int) := of_decide_eq_true aT
                  obtain ⟨ad572, e572, hx572_0, hx572_1, hx572_2, hx572_3, hx572_4⟩ := iO HR0.out (rd t568 x45_3) p572 q572
                  obtain rfl : ad565 = ad572 := (by injection e572)
                  replace hx572_0 := (HB.out.cell (World.block_lt_of_cell? w _ hx572_0)).trans hx572_0
                  replace hx572_1 := (HB.out.cell (World.block_lt_of_cell? w _ hx572_1)).trans hx572_1
                  replace hx572_2 := (HB.out.cell (World.block_lt_of_cell? w _ hx572_2)).trans hx572_2
                  replace hx572_3 := (HB.out.cell (World.block_lt_of_cell? w _ hx572_3)).trans hx572_3
                  replace hx572_4 := (HB.out.cell (World.block_lt_of_cell? w _ hx572_4)).trans hx572_4
                  replace p572 := eq_true p572
                  replace q572 := eq_true q572
                  go_wp2_with (first | ((with_reducible refine ed (b := .append) (xs := #[.tmp 49, .tmp 55]) rfl ?_); (try (refine pF (by rfl) ?_; dsimp only)); at_builtin; refine Kd.lZ (Kd.int .i64) (w0 := w) w.heap.size rfl (.tmp 49) (.tmp 55) 60 3 (.int .i64 0) 8 rfl Tryz.underlying60 info3 rfl (by decide) (by omega) u6 x6_3 ((ax l0 (rd t568 x45_3)).f0) [.int .i64 ((ax l0 (rd t568 x45_3)).f0)] (fun k_ => some k_ ≠ (.slice (some ad571) t568.length co20 : Value).ownBlock) (fun _ => False) rfl rfl ?aP (fun _ hk => hk.elim) ?aF ?aO ?aB ?aS ?aL ?_; (case aP => exact rfl); (case aB => exact (bT HB)); (case aF => exact (fun k_ hk => Kd.fresh' (Kd.zC (qR HO_43)) k_ hk)); (case aO => exact (qR HO_6)); (case aS => exact (bD (bT HB))); (case aL => have := LMc26.out; omega); intro v574 w27 ho hb hg hat; rw [← Ny573.out] at ho; refine yA4 (Kd.BN (ok := (fun _ => True)) (by (with_reducible repeat (first | apply Kd.iP | apply Kd.iI | apply Kd.jf)); exact Kd.jb HO_43.out (fun _ hk => ⟨trivial, hk⟩)) hg hat) (kN (g := gb567) (o := .cells #[.int .i64 ((ax l0 x36_2).f0), .int .i64 ((ax l0 x36_2).f1), .string ((ax l0 x36_2).f2), .int .i64 ((ax l0 x36_2).f3), .string ((ax l0 x36_2).f4)] 29 (0, 0)) (by exact BK567.out) hg (Kd.Dn HO_6.out BK567.out (by decide))) (hb) (ho) ?_; clear HO_43 BK567 HB HO_6; intro HO_43 BK567 HB HO575; clear ho hb hg hat))
                  go_roundg k3
                  case measure => have := HJ2.out; have := HK2.out; have := HK3.out; omega
                  case rel => exact ⟨(y573), (wrap64 (x45_3 + 1)), fT, H', ⟨by have := HJ2.out; have := HK2.out; have := HK3.out; omega⟩, ⟨qR HO575⟩, ⟨by (with_reducible repeat (first | apply Kd.iP | apply Kd.iI | apply Kd.jf)); exact Kd.jb HO_43.out (fun _ hk => hk.2)⟩, ⟨by exact BK567.out⟩, ⟨bT HB⟩⟩
                 exact absurd H (by simp)
                exact absurd H (by simp)
               exact absurd H (by simp)
              exact absurd H (by simp)
             exact absurd H (by simp)
            revert H
            refine yB1 fun t576 A28 H => ?_
            cases t576
            rotate_left
            ·replace H := yT H
             revert H
             refine yB1 fun t577 A30 H => ?_
             cases t577
             rotate_left
             ·replace H := yT H
              have H' := af.mk H
              clear H
              have hcz32_0 : wr.cell? ⟨gb567, 0, none⟩ = some (.int .i64 ((ax l0 x36_2).f0)) := (ag BK567.out 0).trans rfl
              have hcz32_1 : wr.cell? ⟨gb567, 1, none⟩ = some (.int .i64 ((ax l0 x36_2).f1)) := (ag BK567.out 1).trans rfl
              have hcz32_2 : wr.cell? ⟨gb567, 2, none⟩ = some (.string ((ax l0 x36_2).f2)) := (ag BK567.out 2).trans rfl
              have hcz32_3 : wr.cell? ⟨gb567, 3, none⟩ = some (.int .i64 ((ax l0 x36_2).f3)) := (ag BK567.out 3).trans rfl
              have hcz32_4 : wr.cell? ⟨gb567, 4, none⟩ = some (.string ((ax l0 x36_2).f4)) := (ag BK567.out 4).trans rfl
              have hfz32_0 := ae BK567.out 0
              have hfz32_1 := ae BK567.out 1
              have hfz32_2 := ae BK567.out 2
              have hfz32_3 := ae BK567.out 3
              have hfz32_4 := ae BK567.out 4
              go_wp2_with (first | ((with_reducible refine gC 32 rfl ?_); refine gM 32 59 rfl Tryz.func32 (dK.calls k3 ((ax l0 x36_2).f0) ((ax l0 x36_2).f1) ((ax l0 x36_2).f2) ((ax l0 x36_2).f3) ((ax l0 x36_2).f4) true _ A28.out) ?_; rintro _ w33 ⟨rfl, hb⟩; refine ⟨_, rfl, yA4 (Kd.gW (qR HO_6) hb) (Kd.gW (qR HO_43) hb) (dL (g := gb567) (o := .cells #[.int .i64 ((ax l0 x36_2).f0), .int .i64 ((ax l0 x36_2).f1), .string ((ax l0 x36_2).f2), .int .i64 ((ax l0 x36_2).f3), .string ((ax l0 x36_2).f4)] 29 (0, 0)) (by exact BK567.out) hb) (aA (bT HB) hb) ?_⟩; clear HO_6 HO_43 BK567 HB hb; intro HO_6 HO_43 BK567 HB; have hcz34_0 : w33.cell? ⟨gb567, 0, none⟩ = some (.int .i64 ((ax l0 x36_2).f0)) := (ag BK567.out 0).trans rfl; have hcz34_1 : w33.cell? ⟨gb567, 1, none⟩ = some (.int .i64 ((ax l0 x36_2).f1)) := (ag BK567.out 1).trans rfl; have hcz34_2 : w33.cell? ⟨gb567, 2, none⟩ = some (.string ((ax l0 x36_2).f2)) := (ag BK567.out 2).trans rfl; have hcz34_3 : w33.cell? ⟨gb567, 3, none⟩ = some (.int .i64 ((ax l0 x36_2).f3)) := (ag BK567.out 3).trans rfl; have hcz34_4 : w33.cell? ⟨gb567, 4, none⟩ = some (.string ((ax l0 x36_2).f4)) := (ag BK567.out 4).trans rfl; have hfz34_0 := ae BK567.out 0; have hfz34_1 := ae BK567.out 1; have hfz34_2 := ae BK567.out 2; have hfz34_3 := ae BK567.out 3; have hfz34_4 := ae BK567.out 4; obtain ⟨Ao35, co35, rfl⟩ := Kd.fG HO_6.out) | (go_at_call 33; (with_reducible refine (bK.calls k3 ((ax l0 x36_2).f0) _ _ x6_3 true _ ?side1 ?side2 A30.out).mono ?_); (case side1 => exact Z23); (case side2 => exact (Kd.dU HO_6.out).2.1); rintro e w36 ⟨rfl, hb⟩; refine yA4 (Kd.gW (qR HO_6) hb) (Kd.gW (qR HO_43) hb) (dL (g := gb567) (o := .cells #[.int .i64 ((ax l0 x36_2).f0), .int .i64 ((ax l0 x36_2).f1), .string ((ax l0 x36_2).f2), .int .i64 ((ax l0 x36_2).f3), .string ((ax l0 x36_2).f4)] 29 (0, 0)) (by exact BK567.out) hb) (aA (bT HB) hb) ?_; clear HO_6 HO_43 BK567 HB; intro HO_6 HO_43 BK567 HB; (try clear hb)))
              go_roundg k3
              case measure => have := HJ2.out; have := HK2.out; have := HK3.out; omega
              case rel => exact ⟨(wrap64 (x36_2 + 1)), fT, H', ⟨by have := HJ2.out; have := HK2.out; have := HK3.out; omega⟩, ⟨bT HB⟩⟩
             replace H := yF H
             simp only [Option.some.injEq, Prod.mk.injEq] at H
             obtain ⟨rfl, rfl⟩ := H
             have hcz37_0 : wr.cell? ⟨gb567, 0, none⟩ = some (.int .i64 ((ax l0 x36_2).f0)) := (ag BK567.out 0).trans rfl
             have hcz37_1 : wr.cell? ⟨gb567, 1, none⟩ = some (.int .i64 ((ax l0 x36_2).f1)) := (ag BK567.out 1).trans rfl
             have hcz37_2 : wr.cell? ⟨gb567, 2, none⟩ = some (.string ((ax l0 x36_2).f2)) := (ag BK567.out 2).trans rfl
             have hcz37_3 : wr.cell? ⟨gb567, 3, none⟩ = some (.int .i64 ((ax l0 x36_2).f3)) := (ag BK567.out 3).trans rfl
             have hcz37_4 : wr.cell? ⟨gb567, 4, none⟩ = some (.string ((ax l0 x36_2).f4)) := (ag BK567.out 4).trans rfl
             have hfz37_0 := ae BK567.out 0
             have hfz37_1 := ae BK567.out 1
             have hfz37_2 := ae BK567.out 2
             have hfz37_3 := ae BK567.out 3
             have hfz37_4 := ae BK567.out 4
             go_wp2_with (first | ((with_reducible refine gC 32 rfl ?_); refine gM 32 59 rfl Tryz.func32 (dK.calls k3 ((ax l0 x36_2).f0) ((ax l0 x36_2).f1) ((ax l0 x36_2).f2) ((ax l0 x36_2).f3) ((ax l0 x36_2).f4) true _ A28.out) ?_; rintro _ w38 ⟨rfl, hb⟩; refine ⟨_, rfl, yA4 (Kd.gW (qR HO_6) hb) (Kd.gW (qR HO_43) hb) (dL (g := gb567) (o := .cells #[.int .i64 ((ax l0 x36_2).f0), .int .i64 ((ax l0 x36_2).f1), .string ((ax l0 x36_2).f2), .int .i64 ((ax l0 x36_2).f3), .string ((ax l0 x36_2).f4)] 29 (0, 0)) (by exact BK567.out) hb) (aA (bT HB) hb) ?_⟩; clear HO_6 HO_43 BK567 HB hb; intro HO_6 HO_43 BK567 HB; have hcz39_0 : w38.cell? ⟨gb567, 0, none⟩ = some (.int .i64 ((ax l0 x36_2).f0)) := (ag BK567.out 0).trans rfl; have hcz39_1 : w38.cell? ⟨gb567, 1, none⟩ = some (.int .i64 ((ax l0 x36_2).f1)) := (ag BK567.out 1).trans rfl; have hcz39_2 : w38.cell? ⟨gb567, 2, none⟩ = some (.string ((ax l0 x36_2).f2)) := (ag BK567.out 2).trans rfl; have hcz39_3 : w38.cell? ⟨gb567, 3, none⟩ = some (.int .i64 ((ax l0 x36_2).f3)) := (ag BK567.out 3).trans rfl; have hcz39_4 : w38.cell? ⟨gb567, 4, none⟩ = some (.string ((ax l0 x36_2).f4)) := (ag BK567.out 4).trans rfl; have hfz39_0 := ae BK567.out 0; have hfz39_1 := ae BK567.out 1; have hfz39_2 := ae BK567.out 2; have hfz39_3 := ae BK567.out 3; have hfz39_4 := ae BK567.out 4; obtain ⟨Ao40, co40, rfl⟩ := Kd.fG HO_6.out) | (go_at_call 33; (with_reducible refine (bK.calls k3 ((ax l0 x36_2).f0) _ _ x6_3 false _ ?side1 ?side2 A30.out).mono ?_); (case side1 => exact Z23); (case side2 => exact (Kd.dU HO_6.out).2.1); rintro e w41 ⟨rfl, hb⟩; refine yA4 (Kd.gW (qR HO_6) hb) (Kd.gW (qR HO_43) hb) (dL (g := gb567) (o := .cells #[.int .i64 ((ax l0 x36_2).f0), .int .i64 ((ax l0 x36_2).f1), .string ((ax l0 x36_2).f2), .int .i64 ((ax l0 x36_2).f3), .string ((ax l0 x36_2).f4)] 29 (0, 0)) (by exact BK567.out) hb) (aA (bT HB) hb) ?_; clear HO_6 HO_43 BK567 HB; intro HO_6 HO_43 BK567 HB; (try clear hb)))
             go_ret2
             exact ⟨eT, bT HB⟩
            replace H := yF H
            simp only [Option.some.injEq, Prod.mk.injEq] at H
            obtain ⟨rfl, rfl⟩ := H
            have hcz42_0 : wr.cell? ⟨gb567, 0, none⟩ = some (.int .i64 ((ax l0 x36_2).f0)) := (ag BK567.out 0).trans rfl
            have hcz42_1 : wr.cell? ⟨gb567, 1, none⟩ = some (.int .i64 ((ax l0 x36_2).f1)) := (ag BK567.out 1).trans rfl
            have hcz42_2 : wr.cell? ⟨gb567, 2, none⟩ = some (.string ((ax l0 x36_2).f2)) := (ag BK567.out 2).trans rfl
            have hcz42_3 : wr.cell? ⟨gb567, 3, none⟩ = some (.int .i64 ((ax l0 x36_2).f3)) := (ag BK567.out 3).trans rfl
            have hcz42_4 : wr.cell? ⟨gb567, 4, none⟩ = some (.string ((ax l0 x36_2).f4)) := (ag BK567.out 4).trans rfl
            have hfz42_0 := ae BK567.out 0
            have hfz42_1 := ae BK567.out 1
            have hfz42_2 := ae BK567.out 2
            have hfz42_3 := ae BK567.out 3
            have hfz42_4 := ae BK567.out 4
            go_wp2_with (first | ((with_reducible refine gC 32 rfl ?_); refine gM 32 59 rfl Tryz.func32 (dK.calls k3 ((ax l0 x36_2).f0) ((ax l0 x36_2).f1) ((ax l0 x36_2).f2) ((ax l0 x36_2).f3) ((ax l0 x36_2).f4) false _ A28.out) ?_; rintro _ w43 ⟨rfl, hb⟩; refine ⟨_, rfl, yA4 (Kd.gW (qR HO_6) hb) (Kd.gW (qR HO_43) hb) (dL (g := gb567) (o := .cells #[.int .i64 ((ax l0 x36_2).f0), .int .i64 ((ax l0 x36_2).f1), .string ((ax l0 x36_2).f2), .int .i64 ((ax l0 x36_2).f3), .string ((ax l0 x36_2).f4)] 29 (0, 0)) (by exact BK567.out) hb) (aA (bT HB) hb) ?_⟩; clear HO_6 HO_43 BK567 HB hb; intro HO_6 HO_43 BK567 HB))
            go_ret2
            exact ⟨eT, bT HB⟩
         exact absurd H (by simp)
        exact absurd H (by simp)
       simp only [Option.some.injEq, Prod.mk.injEq] at H
       obtain ⟨rfl, rfl⟩ := H
       go_wp2
       go_ret2
       exact ⟨eT, bT HB⟩
    simp only [Option.some.injEq, Prod.mk.injEq] at H
    obtain ⟨rfl, rfl⟩ := H
    go_wp2_with (first | ((with_reducible refine gC 30 rfl ?_); refine gM 30 26 rfl Tryz.func30 (dD.calls kj2 _ _ l0 t564 _ Z3 HC0.out A7.out) ?_; rintro _ w44 ⟨rfl, hb⟩; refine ⟨_, rfl, yA1 (aA (bT HB) hb) ?_⟩; clear HB hb; intro HB; have p565 : 0 ≤ (0 : Int) := (by omega); have q565 : 0 < (l0.length : Int) := of_decide_eq_true aT; obtain ⟨ad565, e565, hx565_0, hx565_1, hx565_2, hx565_3, hx565_4⟩ := iO HR0.out 0 p565 q565; cases e565; have qi565 : (0 < l0.length) = True := eq_true (by omega); (try rw [show ((0 : Int)).toNat = 0 from rfl] at hx565_0); (try rw [show 0 * 5 = 0 from rfl] at hx565_0); (try rw [Addr.add_zero'] at hx565_0); (try rw [show ((0 : Int)).toNat = 0 from rfl] at hx565_1); (try rw [show 0 * 5 = 0 from rfl] at hx565_1); (try rw [Addr.add_zero'] at hx565_1); (try rw [show ((0 : Int)).toNat = 0 from rfl] at hx565_2); (try rw [show 0 * 5 = 0 from rfl] at hx565_2); (try rw [Addr.add_zero'] at hx565_2); (try rw [show ((0 : Int)).toNat = 0 from rfl] at hx565_3); (try rw [show 0 * 5 = 0 from rfl] at hx565_3); (try rw [Addr.add_zero'] at hx565_3); (try rw [show ((0 : Int)).toNat = 0 from rfl] at hx565_4); (try rw [show 0 * 5 = 0 from rfl] at hx565_4); (try rw [Addr.add_zero'] at hx565_4); replace hx565_0 := (HB.out.cell (World.block_lt_of_cell? w _ hx565_0)).trans hx565_0; replace hx565_1 := (HB.out.cell (World.block_lt_of_cell? w _ hx565_1)).trans hx565_1; replace hx565_2 := (HB.out.cell (World.block_lt_of_cell? w _ hx565_2)).trans hx565_2; replace hx565_3 := (HB.out.cell (World.block_lt_of_cell? w _ hx565_3)).trans hx565_3; replace hx565_4 := (HB.out.cell (World.block_lt_of_cell? w _ hx565_4)).trans hx565_4; replace p565 := eq_true p565; replace q565 := eq_true q565))
    go_ret2
    exact ⟨eT, bT HB⟩
   exact absurd H (by simp)
end Go.Proofs.YtkbhkonenkgfoaaGreat.Q
end
section
namespace Go.Proofs.YtkbhkonenkgfoaaGreat.Q
open Go.RowKit Go.Proofs.YtkbhkonenkgfoaaGreatW.PrintWords Go.Proofs.YtkbhkonenkgfoaaGreatW.PrintLast Go.Proofs.YtkbhkonenkgfoaaGreatW.PrintMore
attribute [local go_sem] iM iL iK iJ dJ dH dS dR cZ cO dI dG
set_option linter.unusedVariables false
set_option linter.unusedSimpArgs false
/-! ### gJ: function 15 -/
def gJ.f (s0_0 : List (S37)) (s0_1 : Int) (s0_2 : Bool) : Option (Int × Int × Bool) := if s0_1 < (s0_0.length : Int) then (if 0 ≤ s0_1 then (some ((dY s0_0 s0_1).f3, s0_1, s0_2)) else (none)) else (if (s0_0.length : Int) > 0 then (if 0 ≤ (wrap64 ((s0_0.length : Int) - 1)) then (if (wrap64 ((s0_0.length : Int) - 1)) < (s0_0.length : Int) then (some (wrap64 (((dY s0_0 (wrap64 ((s0_0.length : Int) - 1))).f3) + 1), s0_1, s0_2)) else (none)) else (none)) else (some (0, s0_1, s0_2)))
set_option maxHeartbeats 8000000 in
set_option maxRecDepth 100000 in
theorem gJ.calls (g : Nat) (s0_0 : List (S37)) (s0_1 : Int) (s0_2 : Bool) (r1 : Int) (r2 : Int) (r3 : Bool) (w0 w : World) (hI : dn w0 w g s0_0 s0_1 s0_2) (hB : Below w0.heap.size w0 w) (h : gJ.f s0_0 s0_1 s0_2 = some (r1, r2, r3)) :
 Calls Tryz.prog 15 #[.pointer (some ⟨g, 0, none⟩)] w fun e w' => e = .returned (.int .i64 r1) ∧ dn w0 w' g s0_0 r2 r3 ∧ Below w0.heap.size w0 w' ∧ bY w w' g none := by
 have HI0 := af.mk hI
 have HK := af.mk (bY.refl w g none)
 have HL := af.mk hB.size
 clear hI
 have HW0 := af.mk hB.size
 have HB := af.mk hB
 clear hB
 have H := h
 clear h
 unfold gJ.f at H
 revert H
 refine iR (fun c2b0 H => ?_) fun c2b0 H => ?_
 ·revert H
  refine gB (fun c3b0 H => ?_) fun c3 H => ?_
  ·simp only [Option.some.injEq, Prod.mk.injEq] at H
   obtain ⟨rfl, rfl, rfl⟩ := H
   obtain ⟨ASz4_0, cSz4_0, HGz4, hgz4, HSz4_0⟩ := HI0.out
   have hcz4_0 := kC HGz4
   have hcz4_1 := kz HGz4
   have hcz4_2 := kw HGz4
   have hfz4_1 := ae HGz4 1
   have hfz4_2 := ae HGz4 2
   clear HGz4 hgz4
   have p513 : 0 ≤ (s0_1 : Int) := of_decide_eq_true aT
   have q513 : s0_1 < (s0_0.length : Int) := of_decide_eq_true aT
   obtain ⟨ad513, e513, hx513_0, hx513_1, hx513_2, hx513_3⟩ := jS HSz4_0 s0_1 p513 q513
   cases e513
   replace hx513_0 := bG HB.out hx513_0
   replace hx513_1 := bG HB.out hx513_1
   replace hx513_2 := bG HB.out hx513_2
   replace hx513_3 := bG HB.out hx513_3
   replace p513 := eq_true p513
   replace q513 := eq_true q513
   go_enter Tryz.func15, Tryz.ntmps15
   go_wp2
   repeat (go_quiet (fail); try go_wp2)
   go_ret
   exact ⟨eT, iT HI0, bT HB, kT HK⟩
  exact absurd H (by simp)
 revert H
 refine gU (fun c5 H => ?_) fun c5 H => ?_
 ·have c5b0 : decide (0 < (s0_0.length : Int)) = true := decide_eq_true c5
  have c5b1 : decide (0 < s0_0.length) = true := decide_eq_true (by omega)
  clear c5
  obtain ⟨ji6, hji6⟩ : ∃ j_ : Int, (wrap64 ((s0_0.length : Int) - 1)) = j_ := ⟨_, rfl⟩
  replace H : (if 0 ≤ (ji6) then (if (ji6) < (s0_0.length : Int) then (some (wrap64 (((dY s0_0 (ji6)).f3) + 1), s0_1, s0_2)) else (none)) else (none)) = some (r1, r2, r3) := by first | (rw [hji6] at H; exact H) | (simp only [hji6] at H ⊢; exact H)
  have hji6w : (IntKind.i64.wrap ((s0_0.length : Int) - 1)) = ji6 := (fP _).trans hji6
  revert H
  refine gB (fun c7b0 H => ?_) fun c7 H => ?_
  ·revert H
   refine gB (fun c8b0 H => ?_) fun c8 H => ?_
   ·simp only [Option.some.injEq, Prod.mk.injEq] at H
    obtain ⟨rfl, rfl, rfl⟩ := H
    obtain ⟨ASz9_0, cSz9_0, HGz9, hgz9, HSz9_0⟩ := HI0.out
    have hcz9_0 := kC HGz9
    have hcz9_1 := kz HGz9
    have hcz9_2 := kw HGz9
    have hfz9_1 := ae HGz9 1
    have hfz9_2 := ae HGz9 2
    clear HGz9 hgz9
    have p514 : 0 ≤ ((ji6) : Int) := of_decide_eq_true aT
    have q514 : (ji6) < (s0_0.length : Int) := of_decide_eq_true aT
    obtain ⟨ad514, e514, hx514_0, hx514_1, hx514_2, hx514_3⟩ := jS HSz9_0 (ji6) p514 q514
    cases e514
    replace hx514_0 := bG HB.out hx514_0
    replace hx514_1 := bG HB.out hx514_1
    replace hx514_2 := bG HB.out hx514_2
    replace hx514_3 := bG HB.out hx514_3
    replace p514 := eq_true p514
    replace q514 := eq_true q514
    go_enter Tryz.func15, Tryz.ntmps15
    go_wp2
    repeat (go_quiet (fail); try go_wp2)
    go_ret
    exact ⟨by first | rfl | (simp [jA, jy] <;> rfl) | (simp only [← hji6]; first | rfl | (simp [jA, jy] <;> rfl)) | (simp [*, jA, jy] <;> rfl), iT HI0, bT HB, kT HK⟩
   exact absurd H (by simp)
  exact absurd H (by simp)
 have c5b0 : decide (0 < (s0_0.length : Int)) = false := decide_eq_false c5
 have c5b1 : decide (0 < s0_0.length) = false := decide_eq_false (by omega)
 clear c5
 simp only [Option.some.injEq, Prod.mk.injEq] at H
 obtain ⟨rfl, rfl, rfl⟩ := H
 obtain ⟨ASz10_0, cSz10_0, HGz10, hgz10, HSz10_0⟩ := HI0.out
 have hcz10_0 := kC HGz10
 have hcz10_1 := kz HGz10
 have hcz10_2 := kw HGz10
 have hfz10_1 := ae HGz10 1
 have hfz10_2 := ae HGz10 2
 clear HGz10 hgz10
 go_enter Tryz.func15, Tryz.ntmps15
 go_wp2
 repeat (go_quiet (fail); try go_wp2)
 go_ret
 exact ⟨eT, iT HI0, bT HB, kT HK⟩
end Go.Proofs.YtkbhkonenkgfoaaGreat.Q
end
