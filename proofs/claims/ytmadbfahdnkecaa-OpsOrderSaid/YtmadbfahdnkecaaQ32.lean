/- Functions that the laws reach, as plain Lean functions, each with a proof that the call does what its function says; no condition. -/
import Derived.Test.YtmadbfahdnkecaaCmp
import Derived.Test.YtmadbfahdnkecaaQ0
import Derived.Test.YtmadbfahdnkecaaQ4
import Derived.Test.YtmadbfahdnkecaaQ8
import Derived.Test.YtmadbfahdnkecaaQR
namespace Go.Proofs.Ytmadbfahdnkecaa.Q
open Go.RowKit Go.Proofs.YtmadbfahdnkecaaW.PrintWords Go.Proofs.YtmadbfahdnkecaaW.PrintLast Go.Proofs.YtmadbfahdnkecaaW.PrintMore
attribute [local go_sem]  Go.Proofs.Ytmadbfahdnkecaa.as_num_num Go.Proofs.Ytmadbfahdnkecaa.as_text_num Go.Proofs.Ytmadbfahdnkecaa.as_nil_num Go.Proofs.Ytmadbfahdnkecaa.as_text_text Go.Proofs.Ytmadbfahdnkecaa.as_num_text Go.Proofs.Ytmadbfahdnkecaa.as_nil_text Go.Proofs.Ytmadbfahdnkecaa.leq_texts max2_int min2_int max_two min_two max_three min_three max_four min_four   -- for this text's walks alone
set_option linter.unusedVariables false
set_option linter.unusedSimpArgs false

/-! ### chrysalislaw17_OpsOrder: function 4 -/
mutual
def chrysalislaw17_OpsOrder.j0 : Nat → Bool → Int → Int → Int → ByteArray → ByteArray → ByteArray → Option (Bool)
  | 0, _, _, _, _, _, _, _ => none
  | k + 1, x34, x654000, x654001, x654002, x655000, x655001, x655002 => if x34 = true then ((chrysalislaw17_known.f k).bind fun t655 => (some t655)) else ((chrysalisref17_Int.f x654000).bind fun bt656 => ((chrysalisref17_Int.f x654001).bind fun bt659 => ((chrysalisref17_Int.f x654002).bind fun bt662 => ((chrysalisref17_Text.f x655000).bind fun bt668 => ((chrysalisref17_Text.f x655001).bind fun bt671 => ((chrysalisref17_Text.f x655002).bind fun bt674 => (chrysalislaw17_OpsOrder.l0 k (([(([(⟨bt656.1, bt656.2.1, bt656.2.2⟩ : S23), (⟨bt659.1, bt659.2.1, bt659.2.2⟩ : S23), (⟨bt662.1, bt662.2.1, bt662.2.2⟩ : S23)] : List (S23))), (([(⟨bt668.1, bt668.2.1, bt668.2.2⟩ : S23), (⟨bt671.1, bt671.2.1, bt671.2.2⟩ : S23), (⟨bt674.1, bt674.2.1, bt674.2.2⟩ : S23)] : List (S23)))] : List (List (S23)))) 0)))))))
def chrysalislaw17_OpsOrder.l0 : Nat → List (List (S23)) → Int → Option (Bool)
  | 0, _, _ => none
  | k + 1, x5, x6 => if x6 < 2 then (if 0 ≤ x6 then (if x6 < (x5.length : Int) then (if 0 < ((rd_L5 x5 x6).length : Int) then (if 1 < ((rd_L5 x5 x6).length : Int) then ((ops_Two.f k (⟨#[60]⟩ : ByteArray) ((rd_T23 (rd_L5 x5 x6) 0).f0) ((rd_T23 (rd_L5 x5 x6) 0).f1) ((rd_T23 (rd_L5 x5 x6) 0).f2) ((rd_T23 (rd_L5 x5 x6) 1).f0) ((rd_T23 (rd_L5 x5 x6) 1).f1) ((rd_T23 (rd_L5 x5 x6) 1).f2)).bind fun bt688 => (if 2 < ((rd_L5 x5 x6).length : Int) then ((ops_Two.f k (⟨#[60]⟩ : ByteArray) ((rd_T23 (rd_L5 x5 x6) 1).f0) ((rd_T23 (rd_L5 x5 x6) 1).f1) ((rd_T23 (rd_L5 x5 x6) 1).f2) ((rd_T23 (rd_L5 x5 x6) 2).f0) ((rd_T23 (rd_L5 x5 x6) 2).f1) ((rd_T23 (rd_L5 x5 x6) 2).f2)).bind fun bt697 => ((ops_Two.f k (⟨#[60]⟩ : ByteArray) ((rd_T23 (rd_L5 x5 x6) 0).f0) ((rd_T23 (rd_L5 x5 x6) 0).f1) ((rd_T23 (rd_L5 x5 x6) 0).f2) ((rd_T23 (rd_L5 x5 x6) 2).f0) ((rd_T23 (rd_L5 x5 x6) 2).f1) ((rd_T23 (rd_L5 x5 x6) 2).f2)).bind fun bt706 => ((ops_Two.f k (⟨#[60, 61]⟩ : ByteArray) ((rd_T23 (rd_L5 x5 x6) 0).f0) ((rd_T23 (rd_L5 x5 x6) 0).f1) ((rd_T23 (rd_L5 x5 x6) 0).f2) ((rd_T23 (rd_L5 x5 x6) 1).f0) ((rd_T23 (rd_L5 x5 x6) 1).f1) ((rd_T23 (rd_L5 x5 x6) 1).f2)).bind fun bt715 => ((ops_Two.f k (⟨#[61, 61]⟩ : ByteArray) ((rd_T23 (rd_L5 x5 x6) 0).f0) ((rd_T23 (rd_L5 x5 x6) 0).f1) ((rd_T23 (rd_L5 x5 x6) 0).f2) ((rd_T23 (rd_L5 x5 x6) 1).f0) ((rd_T23 (rd_L5 x5 x6) 1).f1) ((rd_T23 (rd_L5 x5 x6) 1).f2)).bind fun bt724 => ((ops_Two.f k (⟨#[33, 61]⟩ : ByteArray) ((rd_T23 (rd_L5 x5 x6) 0).f0) ((rd_T23 (rd_L5 x5 x6) 0).f1) ((rd_T23 (rd_L5 x5 x6) 0).f2) ((rd_T23 (rd_L5 x5 x6) 1).f0) ((rd_T23 (rd_L5 x5 x6) 1).f1) ((rd_T23 (rd_L5 x5 x6) 1).f2)).bind fun bt733 => (if (wrap64 ((wrap64 ((wrap64 ((wrap64 ((wrap64 (bt688.2.2.2 + bt697.2.2.2)) + bt706.2.2.2)) + bt715.2.2.2)) + bt724.2.2.2)) + bt733.2.2.2)) = 0 then (if bt688.2.1 = 1 then (if bt697.2.1 = 1 then (if bt706.2.1 = 1 then (if bt715.2.1 = (wrap64 (bt688.2.1 + bt724.2.1)) then (if (wrap64 (bt724.2.1 + bt733.2.1)) = 1 then (chrysalislaw17_OpsOrder.l0 k x5 (wrap64 (x6 + 1))) else (some false)) else (some false)) else (some false)) else (if bt715.2.1 = (wrap64 (bt688.2.1 + bt724.2.1)) then (if (wrap64 (bt724.2.1 + bt733.2.1)) = 1 then (chrysalislaw17_OpsOrder.l0 k x5 (wrap64 (x6 + 1))) else (some false)) else (some false))) else (if bt715.2.1 = (wrap64 (bt688.2.1 + bt724.2.1)) then (if (wrap64 (bt724.2.1 + bt733.2.1)) = 1 then (chrysalislaw17_OpsOrder.l0 k x5 (wrap64 (x6 + 1))) else (some false)) else (some false))) else (some false))))))) else (none))) else (none)) else (none)) else (none)) else (none)) else ((chrysalislaw17_known.f k).bind fun t683 => (some t683))
end
def chrysalislaw17_OpsOrder.f (k : Nat) (a0_0 : Int) (a0_1 : Int) (a0_2 : Int) (a1_0 : ByteArray) (a1_1 : ByteArray) (a1_2 : ByteArray) : Option (Bool) := if (a1_0.size : Int) > 1000 then (chrysalislaw17_OpsOrder.j0 k true a0_0 a0_1 a0_2 a1_0 a1_1 a1_2) else (if (a1_1.size : Int) > 1000 then (chrysalislaw17_OpsOrder.j0 k true a0_0 a0_1 a0_2 a1_0 a1_1 a1_2) else (chrysalislaw17_OpsOrder.j0 k (decide ((a1_2.size : Int) > 1000)) a0_0 a0_1 a0_2 a1_0 a1_1 a1_2))
theorem chrysalislaw17_OpsOrder.mono_l : ∀ k, (∀ y0 y1 y2 y3 y4 y5 y6, LeO (chrysalislaw17_OpsOrder.j0 k y0 y1 y2 y3 y4 y5 y6) (chrysalislaw17_OpsOrder.j0 (k + 1) y0 y1 y2 y3 y4 y5 y6)) ∧ (∀ y0 y1, LeO (chrysalislaw17_OpsOrder.l0 k y0 y1) (chrysalislaw17_OpsOrder.l0 (k + 1) y0 y1))
  | 0 => ⟨fun _ _ _ _ _ _ _ r h => by simp [chrysalislaw17_OpsOrder.j0] at h, fun _ _ r h => by simp [chrysalislaw17_OpsOrder.l0] at h⟩
  | k + 1 => by
    obtain ⟨ih0, ih1⟩ := chrysalislaw17_OpsOrder.mono_l k
    refine ⟨?_, ?_⟩
    · intro y0 y1 y2 y3 y4 y5 y6
      unfold chrysalislaw17_OpsOrder.j0
      have m0 := chrysalislaw17_known.mono
      have m1 := ops_Two.mono
      exact yL
    · intro y0 y1
      unfold chrysalislaw17_OpsOrder.l0
      have m0 := chrysalislaw17_known.mono
      have m1 := ops_Two.mono
      exact yL
theorem chrysalislaw17_OpsOrder.mono : ∀ a0 a1 a2 a3 a4 a5 k, LeO (chrysalislaw17_OpsOrder.f k a0 a1 a2 a3 a4 a5) (chrysalislaw17_OpsOrder.f (k + 1) a0 a1 a2 a3 a4 a5) := by
  intro a0 a1 a2 a3 a4 a5 k
  obtain ⟨ih0, ih1⟩ := chrysalislaw17_OpsOrder.mono_l k
  unfold chrysalislaw17_OpsOrder.f
  have m0 := chrysalislaw17_known.mono
  have m1 := ops_Two.mono
  exact yL
def chrysalislaw17_OpsOrder.T3 : Bool × List (List Nat × List Nat) := (true, [([], []), ([0], [0]), ([1], [1]), ([], []), ([3], [3]), ([4, 2], [4]), ([], []), ([6], [6]), ([7, 5], [7]), ([2, 5, 8], [2, 5, 8]), ([], []), ([10], [10]), ([11, 8], [11]), ([], []), ([13], [13]), ([14, 12], [14]), ([], []), ([16], [16]), ([17, 15], [17]), ([12, 15, 18], [12, 15, 18]), ([9, 19], [9, 19]), ([20, 18, 0, 1, 2, 3, 4, 5, 6, 7, 8, 9, 10, 11, 12, 13, 14, 15, 16, 17, 18, 19, 20], [20])])
def chrysalislaw17_OpsOrder.B3 : List Nat := [0, 1, 3, 0, 8, 31, 0, 64, 255, 511, 0, 1024, 3583, 0, 8192, 32255, 0, 65536, 261631, 523775, 1048575, 2097151]
theorem chrysalislaw17_OpsOrder.tab3 : rtab .any (opsOf Try.f4 3) = chrysalislaw17_OpsOrder.T3 := by kernel_rfl
theorem chrysalislaw17_OpsOrder.bits3 : waitsOk chrysalislaw17_OpsOrder.T3.2 chrysalislaw17_OpsOrder.B3 = true := by kernel_rfl
set_option maxHeartbeats 8000000 in
set_option maxRecDepth 100000 in
theorem chrysalislaw17_OpsOrder.calls (k : Nat) (a0_0 : Int) (a0_1 : Int) (a0_2 : Int) (a1_0 : ByteArray) (a1_1 : ByteArray) (a1_2 : ByteArray) (r : Bool) (w : World) (h : chrysalislaw17_OpsOrder.f k a0_0 a0_1 a0_2 a1_0 a1_1 a1_2 = some r) (hr : r = true) :
    Calls Try.prog 4 #[.agg #[.int .i64 a0_0, .int .i64 a0_1, .int .i64 a0_2], .agg #[.string a1_0, .string a1_1, .string a1_2]] w fun e w' => e = .returned (.bool r) ∧ Below w.heap.size w w' := by
  have hu29 := Try.underlying29
  have hu30 := Try.underlying30
  have hu23 := Try.underlying23
  have HB := Aside0.mk (Below.refl w.heap.size w)
  have HR := Aside0.mk hr
  clear hr
  have H := h
  clear h
  unfold chrysalislaw17_OpsOrder.f at H
  have HC3 := Aside0.mk H
  clear H
  go_enter Try.func4, Try.ntmps4
  go_upto_region 1 with (first | ((with_reducible refine gate_dst (N := 2) rfl ?_); (try (refine gate_guard (by rfl) ?_; dsimp only)); refine box_event ?hg (N := 2) ?hd (cs := #[.int .i64 a0_0, .int .i64 a0_1, .int .i64 a0_2]) (t := 29) ?hr ?_; (case hd => rfl); (case hg => rfl); (case hr => first | (go_simp; done) | (go_simp; rfl)); intro gb653 hg w4 hbox hb; refine yA4 (below_step (by repeat (first | (with_reducible first | exact HB.out | apply below_alloc | apply pw_below_drewN | apply below_drew1) | exact HB.out)) hb) (hbox) ((by rw [hg]; exact (below_size (by repeat (first | (with_reducible first | exact HB.out | apply below_alloc | apply pw_below_drewN | apply below_drew1) | exact HB.out))) : w.heap.size ≤ gb653)) ((by rw [hg]; exact (below_size (by repeat (first | (with_reducible first | exact HB.out | apply below_alloc | apply pw_below_drewN | apply below_drew1) | exact HB.out))) : w.heap.size ≤ gb653)) ?_; clear HB; intro HB BK653 GW653 GE653; clear hb hbox hg) | ((with_reducible refine gate_dst (N := 3) rfl ?_); (try (refine gate_guard (by rfl) ?_; dsimp only)); refine box_event ?hg (N := 3) ?hd (cs := #[.string a1_0, .string a1_1, .string a1_2]) (t := 30) ?hr ?_; (case hd => rfl); (case hg => rfl); (case hr => first | (go_simp; done) | (go_simp; rfl)); intro gb654 hg w5 hbox hb; refine yA7 (blk_below (g := gb653) (o := .cells #[.int .i64 a0_0, .int .i64 a0_1, .int .i64 a0_2] 29 (0, 0)) BK653.out hb) (below_step (by repeat (first | (with_reducible first | exact HB.out | apply below_alloc | apply pw_below_drewN | apply below_drew1 | refine below_set ?_ GE653.out) | exact HB.out)) hb) (hbox) ((by rw [hg]; exact (below_size (by repeat (first | (with_reducible first | exact HB.out | apply below_alloc | apply pw_below_drewN | apply below_drew1 | refine below_set ?_ GE653.out) | exact HB.out))) : w.heap.size ≤ gb654)) ((by rw [hg]; exact (below_size (by repeat (first | (with_reducible first | exact HB.out | apply below_alloc | apply pw_below_drewN | apply below_drew1 | refine below_set ?_ GE653.out) | exact HB.out))) : w.heap.size ≤ gb654)) ((by rw [hg]; exact Nat.ne_of_lt (blk_lt (g := gb653) (o := .cells #[.int .i64 a0_0, .int .i64 a0_1, .int .i64 a0_2] 29 (0, 0)) BK653.out) : gb653 ≠ gb654)) ((by rw [hg]; exact Nat.ne_of_gt (blk_lt (g := gb653) (o := .cells #[.int .i64 a0_0, .int .i64 a0_1, .int .i64 a0_2] 29 (0, 0)) BK653.out) : gb654 ≠ gb653)) ?_; clear BK653 HB; intro BK653 HB BK654 GW654 GE654 NB653_654 NB654_653; clear hb hbox hg))
  (try simp only [Act.put, List.setIfInBounds_toArray, List.set_cons_zero, List.set_cons_succ])
  go_cut [34] (fun v34 wc => ∃ (kq : Nat) (x34_2 : Bool), v34 = .bool x34_2 ∧ Aside0 (chrysalislaw17_OpsOrder.j0 kq x34_2 a0_0 a0_1 a0_2 a1_0 a1_1 a1_2 = some r) ∧ Aside0 (kq ≤ k) ∧ Aside0 (wc.heap[gb653]? = some (.cells #[.int .i64 a0_0, .int .i64 a0_1, .int .i64 a0_2] 29 (0, 0))) ∧ Aside0 (wc.heap[gb654]? = some (.cells #[.string a1_0, .string a1_1, .string a1_2] 30 (0, 0))) ∧ Aside0 (Below w.heap.size w wc))
  case first =>
    have H := HC3.out
    clear HC3
    revert H
    refine ilc_c (fun c6 H => ?_) fun c6 H => ?_
    · have c6b0 : decide (1000 < (a1_0.size : Int)) = true := decide_eq_true c6
      have c6b1 : decide (1000 < a1_0.size) = true := decide_eq_true (by omega)
      clear c6
      (first | rw [c6b0] | (simp only [i64_w, i32_w]; rw [c6b0]) | skip)
      have H' := Aside0.mk H
      clear H
      have hnb7 := NB654_653.out
      have hnc7 := NB653_654.out
      have hcz8_0 : w5.cell? ⟨gb654, 0, none⟩ = some (.string a1_0) := (blk_cell BK654.out 0).trans rfl
      have hcz8_1 : w5.cell? ⟨gb654, 1, none⟩ = some (.string a1_1) := (blk_cell BK654.out 1).trans rfl
      have hcz8_2 : w5.cell? ⟨gb654, 2, none⟩ = some (.string a1_2) := (blk_cell BK654.out 2).trans rfl
      have hfz8_0 := blk_frozen BK654.out 0
      have hfz8_1 := blk_frozen BK654.out 1
      have hfz8_2 := blk_frozen BK654.out 2
      go_wp2
      go_meet
      case rel => exact ⟨_, (true), (by first | rfl | (simp; done) | (simp [*]; done)), H', ⟨by first | omega | exact Nat.le_refl _⟩, ⟨by exact BK653.out⟩, ⟨by exact BK654.out⟩, ⟨by repeat (first | (with_reducible first | exact HB.out | apply below_alloc | apply pw_below_drewN | apply below_drew1 | refine below_set ?_ GE653.out | refine below_set ?_ GE654.out) | exact HB.out)⟩⟩
    · have c6b0 : decide (1000 < (a1_0.size : Int)) = false := decide_eq_false c6
      have c6b1 : decide (1000 < a1_0.size) = false := decide_eq_false (by omega)
      clear c6
      (first | rw [c6b0] | (simp only [i64_w, i32_w]; rw [c6b0]) | skip)
      revert H
      refine ilc_c (fun c9 H => ?_) fun c9 H => ?_
      · have c9b0 : decide (1000 < (a1_1.size : Int)) = true := decide_eq_true c9
        have c9b1 : decide (1000 < a1_1.size) = true := decide_eq_true (by omega)
        clear c9
        have H' := Aside0.mk H
        clear H
        have hnb10 := NB654_653.out
        have hnc10 := NB653_654.out
        have hcz11_0 : w5.cell? ⟨gb654, 0, none⟩ = some (.string a1_0) := (blk_cell BK654.out 0).trans rfl
        have hcz11_1 : w5.cell? ⟨gb654, 1, none⟩ = some (.string a1_1) := (blk_cell BK654.out 1).trans rfl
        have hcz11_2 : w5.cell? ⟨gb654, 2, none⟩ = some (.string a1_2) := (blk_cell BK654.out 2).trans rfl
        have hfz11_0 := blk_frozen BK654.out 0
        have hfz11_1 := blk_frozen BK654.out 1
        have hfz11_2 := blk_frozen BK654.out 2
        go_wp2
        go_meet
        case rel => exact ⟨_, (true), (by first | rfl | (simp; done) | (simp [*]; done)), H', ⟨by first | omega | exact Nat.le_refl _⟩, ⟨by exact BK653.out⟩, ⟨by exact BK654.out⟩, ⟨by repeat (first | (with_reducible first | exact HB.out | apply below_alloc | apply pw_below_drewN | apply below_drew1 | refine below_set ?_ GE653.out | refine below_set ?_ GE654.out) | exact HB.out)⟩⟩
      · have c9b0 : decide (1000 < (a1_1.size : Int)) = false := decide_eq_false c9
        have c9b1 : decide (1000 < a1_1.size) = false := decide_eq_false (by omega)
        clear c9
        have H' := Aside0.mk H
        clear H
        have hnb12 := NB654_653.out
        have hnc12 := NB653_654.out
        have hcz13_0 : w5.cell? ⟨gb654, 0, none⟩ = some (.string a1_0) := (blk_cell BK654.out 0).trans rfl
        have hcz13_1 : w5.cell? ⟨gb654, 1, none⟩ = some (.string a1_1) := (blk_cell BK654.out 1).trans rfl
        have hcz13_2 : w5.cell? ⟨gb654, 2, none⟩ = some (.string a1_2) := (blk_cell BK654.out 2).trans rfl
        have hfz13_0 := blk_frozen BK654.out 0
        have hfz13_1 := blk_frozen BK654.out 1
        have hfz13_2 := blk_frozen BK654.out 2
        go_wp2
        go_meet
        case rel => exact ⟨_, (decide ((a1_2.size : Int) > 1000)), (by first | rfl | (simp; done) | (simp [*]; done)), H', ⟨by first | omega | exact Nat.le_refl _⟩, ⟨by exact BK653.out⟩, ⟨by exact BK654.out⟩, ⟨by repeat (first | (with_reducible first | exact HB.out | apply below_alloc | apply pw_below_drewN | apply below_drew1 | refine below_set ?_ GE653.out | refine below_set ?_ GE654.out) | exact HB.out)⟩⟩
  case rest =>
    clear HC3
    try clear c1
    try clear p2
    try clear c4
    try clear c6
    try clear c6b0
    try clear c6b1
    try clear c7
    try clear c9
    try clear c9b0
    try clear c9b1
    try clear c10
    try clear c12
    try clear hcz11_0
    try clear hcz11_1
    try clear hcz11_2
    try clear hcz13_0
    try clear hcz13_1
    try clear hcz13_2
    try clear hcz8_0
    try clear hcz8_1
    try clear hcz8_2
    try clear hfz11_0
    try clear hfz11_1
    try clear hfz11_2
    try clear hfz13_0
    try clear hfz13_1
    try clear hfz13_2
    try clear hfz8_0
    try clear hfz8_1
    try clear hfz8_2
    obtain ⟨kq, x34_2, rfl, HA, HJ2, BK653, BK654, HB⟩ := hcut
    cases kq with
    | zero => exact absurd HA.out (by simp [chrysalislaw17_OpsOrder.j0])
    | succ kj2 =>
      have H := HA.out
      clear HA
      simp only [chrysalislaw17_OpsOrder.j0] at H
      cases x34_2
      rotate_left
      · replace H := yT H
        revert H
        refine yB1 fun t655 A15 H => ?_
        obtain rfl := Option.some.inj H
        go_wp2_with (first | ((with_reducible refine gC 11 rfl ?_); refine gM 11 35 rfl Try.func11 (chrysalislaw17_known.calls kj2  t655 _ A15.out) ?_; rintro _ w16 ⟨rfl, hb⟩; refine ⟨_, rfl, yA3 (blk_below (g := gb653) (o := .cells #[.int .i64 a0_0, .int .i64 a0_1, .int .i64 a0_2] 29 (0, 0)) BK653.out hb) (blk_below (g := gb654) (o := .cells #[.string a1_0, .string a1_1, .string a1_2] 30 (0, 0)) BK654.out hb) (below_step (by repeat (first | (with_reducible first | exact HB.out | apply below_alloc | apply pw_below_drewN | apply below_drew1 | refine below_set ?_ GE653.out | refine below_set ?_ GE654.out) | exact HB.out)) hb) ?_⟩; clear BK653 BK654 HB hb; intro BK653 BK654 HB))
        go_ret
        exact ⟨by first | rfl | (simp [errW_none, errW_some] <;> rfl) | (simp [*, errW_none, errW_some] <;> rfl), by repeat (first | (with_reducible first | exact HB.out | apply below_alloc | apply pw_below_drewN | apply below_drew1 | refine below_set ?_ GE653.out | refine below_set ?_ GE654.out) | exact HB.out)⟩
      · replace H := yF H
        revert H
        refine yB3 fun t656 t657 t658 A17 H => ?_
        try dsimp only at H
        revert H
        refine yB3 fun t659 t660 t661 A18 H => ?_
        try dsimp only at H
        revert H
        refine yB3 fun t662 t663 t664 A19 H => ?_
        try dsimp only at H
        obtain ⟨y665, hy665⟩ : ∃ y_ : List (S23), y_ = (([(⟨t656, t657, t658⟩ : S23), (⟨t659, t660, t661⟩ : S23), (⟨t662, t663, t664⟩ : S23)] : List (S23))) := ⟨_, rfl⟩
        replace H : ((chrysalisref17_Text.f a1_0).bind fun bt668 => ((chrysalisref17_Text.f a1_1).bind fun bt671 => ((chrysalisref17_Text.f a1_2).bind fun bt674 => (chrysalislaw17_OpsOrder.l0 kj2 (([y665, (([(⟨bt668.1, bt668.2.1, bt668.2.2⟩ : S23), (⟨bt671.1, bt671.2.1, bt671.2.2⟩ : S23), (⟨bt674.1, bt674.2.1, bt674.2.2⟩ : S23)] : List (S23)))] : List (List (S23)))) 0)))) = some r := by first | (rw [hy665]; with_reducible exact H) | (have H2_ := (Option.bind_some _ _).symm.trans H; rw [hy665]; with_reducible exact H2_) | (have H2_ := (Option.bind_some _ _).symm.trans H; with_reducible exact H2_) | with_reducible exact H | (rw [hy665]; exact H) | exact H
        have Ny665 := Aside0.mk hy665
        clear hy665
        revert H
        refine yB3 fun t668 t669 t670 A20 H => ?_
        try dsimp only at H
        revert H
        refine yB3 fun t671 t672 t673 A21 H => ?_
        try dsimp only at H
        revert H
        refine yB3 fun t674 t675 t676 A22 H => ?_
        try dsimp only at H
        obtain ⟨y677, hy677⟩ : ∃ y_ : List (S23), y_ = (([(⟨t668, t669, t670⟩ : S23), (⟨t671, t672, t673⟩ : S23), (⟨t674, t675, t676⟩ : S23)] : List (S23))) := ⟨_, rfl⟩
        replace H : (chrysalislaw17_OpsOrder.l0 kj2 (([y665, y677] : List (List (S23)))) 0) = some r := by first | (rw [hy677]; with_reducible exact H) | (have H2_ := (Option.bind_some _ _).symm.trans H; rw [hy677]; with_reducible exact H2_) | (have H2_ := (Option.bind_some _ _).symm.trans H; with_reducible exact H2_) | with_reducible exact H | (rw [hy677]; exact H) | exact H
        have Ny677 := Aside0.mk hy677
        clear hy677
        obtain ⟨y680, hy680⟩ : ∃ y_ : List (List (S23)), y_ = (([y665, y677] : List (List (S23)))) := ⟨_, rfl⟩
        replace H : (chrysalislaw17_OpsOrder.l0 kj2 y680 0) = some r := by first | (rw [hy680]; with_reducible exact H) | (have H2_ := (Option.bind_some _ _).symm.trans H; rw [hy680]; with_reducible exact H2_) | (have H2_ := (Option.bind_some _ _).symm.trans H; with_reducible exact H2_) | with_reducible exact H | (rw [hy680]; exact H) | exact H
        have Ny680 := Aside0.mk hy680
        clear hy680
        have H' := Aside0.mk H
        clear H
        try go_wp2
        refine yA3 (blk_drew BK653.out) (blk_drew BK654.out) (below_drew1 HB.out) ?_
        clear BK653 BK654 HB
        intro BK653 BK654 HB
        refine start_ (n := 22) (S := fun w' => w'.cell? ⟨gb653, 0, none⟩ = some (.int .i64 a0_0) ∧ w'.cell? ⟨gb653, 1, none⟩ = some (.int .i64 a0_1) ∧ w'.cell? ⟨gb653, 2, none⟩ = some (.int .i64 a0_2) ∧ w'.cell? ⟨gb654, 0, none⟩ = some (.string a1_0) ∧ w'.cell? ⟨gb654, 1, none⟩ = some (.string a1_1) ∧ w'.cell? ⟨gb654, 2, none⟩ = some (.string a1_2)) (ds := []) #[false, false, false, false, false, false, false, false, false, false, false, false, false, false, false, false, false, false, false, false, false, false] (by kernel_rfl) rfl rfl ⟨(blk_cell BK653.out 0).trans rfl, (blk_cell BK653.out 1).trans rfl, (blk_cell BK653.out 2).trans rfl, (blk_cell BK654.out 0).trans rfl, (blk_cell BK654.out 1).trans rfl, (blk_cell BK654.out 2).trans rfl⟩ (fun hHeld => ?_); refine with_tabW chrysalislaw17_OpsOrder.tab3 chrysalislaw17_OpsOrder.bits3 (fun HT_ HW_ => ?_)
        generalize wc.drew = w23 at BK653 BK654 HB hHeld ⊢
        refine pA 0 36 (bQ 22 1) ?_
        refine pA 3 39 (bQ 22 9) ?_
        refine pA 6 42 (bQ 22 73) ?_
        refine pA 10 46 (bQ 22 1097) ?_
        refine pA 13 49 (bQ 22 9289) ?_
        refine pA 16 52 (bQ 22 74825) ?_
        refine take_ (i := 1) (N := some 37) (v := ?_) (a' := ?_) #[true, true, false, true, false, false, true, false, false, false, true, false, false, true, false, false, true, false, false, false, false, false] rfl rfl (take_ofW HT_.out HW_.out (by kernel_rfl)) (fun _ _ _ h => h) (Or.inl ⟨by rfl, ?_⟩) hHeld ?_ ?_
        rotate_left
        · rintro w' ⟨s0, s1, s2, s3, s4, s5⟩
          go_simp
          with_reducible rfl
        rotate_left
        · simp only [Act.put, List.setIfInBounds_toArray, List.set_cons_zero, List.set_cons_succ, i64_w, i32_w]
          rfl
        refine take_ (i := 4) (N := some 40) (v := ?_) (a' := ?_) #[true, true, false, true, true, false, true, false, false, false, true, false, false, true, false, false, true, false, false, false, false, false] rfl rfl (take_ofW HT_.out HW_.out (by kernel_rfl)) (fun _ _ _ h => h) (Or.inl ⟨by rfl, ?_⟩) hHeld ?_ ?_
        rotate_left
        · rintro w' ⟨s0, s1, s2, s3, s4, s5⟩
          go_simp
          with_reducible rfl
        rotate_left
        · simp only [Act.put, List.setIfInBounds_toArray, List.set_cons_zero, List.set_cons_succ, i64_w, i32_w]
          rfl
        refine take_ (i := 7) (N := some 43) (v := ?_) (a' := ?_) #[true, true, false, true, true, false, true, true, false, false, true, false, false, true, false, false, true, false, false, false, false, false] rfl rfl (take_ofW HT_.out HW_.out (by kernel_rfl)) (fun _ _ _ h => h) (Or.inl ⟨by rfl, ?_⟩) hHeld ?_ ?_
        rotate_left
        · rintro w' ⟨s0, s1, s2, s3, s4, s5⟩
          go_simp
          with_reducible rfl
        rotate_left
        · simp only [Act.put, List.setIfInBounds_toArray, List.set_cons_zero, List.set_cons_succ, i64_w, i32_w]
          rfl
        refine take_ (i := 11) (N := some 47) (v := ?_) (a' := ?_) #[true, true, false, true, true, false, true, true, false, false, true, true, false, true, false, false, true, false, false, false, false, false] rfl rfl (take_ofW HT_.out HW_.out (by kernel_rfl)) (fun _ _ _ h => h) (Or.inl ⟨by rfl, ?_⟩) hHeld ?_ ?_
        rotate_left
        · rintro w' ⟨s0, s1, s2, s3, s4, s5⟩
          go_simp
          with_reducible rfl
        rotate_left
        · simp only [Act.put, List.setIfInBounds_toArray, List.set_cons_zero, List.set_cons_succ, i64_w, i32_w]
          rfl
        refine take_ (i := 14) (N := some 50) (v := ?_) (a' := ?_) #[true, true, false, true, true, false, true, true, false, false, true, true, false, true, true, false, true, false, false, false, false, false] rfl rfl (take_ofW HT_.out HW_.out (by kernel_rfl)) (fun _ _ _ h => h) (Or.inl ⟨by rfl, ?_⟩) hHeld ?_ ?_
        rotate_left
        · rintro w' ⟨s0, s1, s2, s3, s4, s5⟩
          go_simp
          with_reducible rfl
        rotate_left
        · simp only [Act.put, List.setIfInBounds_toArray, List.set_cons_zero, List.set_cons_succ, i64_w, i32_w]
          rfl
        refine take_ (i := 17) (N := some 53) (v := ?_) (a' := ?_) #[true, true, false, true, true, false, true, true, false, false, true, true, false, true, true, false, true, true, false, false, false, false] rfl rfl (take_ofW HT_.out HW_.out (by kernel_rfl)) (fun _ _ _ h => h) (Or.inl ⟨by rfl, ?_⟩) hHeld ?_ ?_
        rotate_left
        · rintro w' ⟨s0, s1, s2, s3, s4, s5⟩
          go_simp
          with_reducible rfl
        rotate_left
        · simp only [Act.put, List.setIfInBounds_toArray, List.set_cons_zero, List.set_cons_succ, i64_w, i32_w]
          rfl
        refine one_ (i := 2) (N := some 38) (bQ 22 224479) rfl rfl (one_of HT_.out (by kernel_rfl)) (by decide) (fun K hK => ?_)
        refine goes_ Try.func9 (by kernel_rfl) rfl #[.int .i64 a0_0] (by rfl) rfl rfl (by (try simp only [List.map_toArray, List.map_cons, List.map_nil]); first | done | rfl | (simp only [List.length_drop, List.length_take]; rfl)) ?_
        with_reducible refine (chrysalisref17_Int.calls a0_0 t656 t657 t658 _ A17.out).mono ?_
        rintro e w24 ⟨rfl, hb⟩
        refine ⟨_, rfl, ?_⟩
        refine yA3 (blk_below (g := gb653) (o := .cells #[.int .i64 a0_0, .int .i64 a0_1, .int .i64 a0_2] 29 (0, 0)) (by exact BK653.out) hb) (blk_below (g := gb654) (o := .cells #[.string a1_0, .string a1_1, .string a1_2] 30 (0, 0)) (by exact BK654.out) hb) (below_step (by repeat (first | (with_reducible first | exact HB.out | apply below_alloc | apply pw_below_drewN | apply below_drew1 | refine below_set ?_ GE653.out | refine below_set ?_ GE654.out) | exact HB.out)) hb) ?_
        clear BK653 BK654 HB
        intro BK653 BK654 HB
        (try clear hb)
        (try clear hb2)
        (try clear hk)
        (try clear hi)
        refine hK.out _ _ ⟨(blk_cell BK653.out 0).trans rfl, (blk_cell BK653.out 1).trans rfl, (blk_cell BK653.out 2).trans rfl, (blk_cell BK654.out 0).trans rfl, (blk_cell BK654.out 1).trans rfl, (blk_cell BK654.out 2).trans rfl⟩ (fun hHeld => ?_)
        clear hK K
        refine norm_ (a' := ?_) ?_ ?_
        rotate_left
        · show Act.put _ (some 38) _ = _
          simp only [Act.put, List.setIfInBounds_toArray, List.set_cons_zero, List.set_cons_succ, i64_w, i32_w]
          rfl
        refine one_ (i := 5) (N := some 41) (bQ 22 224511) rfl rfl (one_of HT_.out (by kernel_rfl)) (by decide) (fun K hK => ?_)
        refine goes_ Try.func9 (by kernel_rfl) rfl #[.int .i64 a0_1] (by rfl) rfl rfl (by (try simp only [List.map_toArray, List.map_cons, List.map_nil]); first | done | rfl | (simp only [List.length_drop, List.length_take]; rfl)) ?_
        with_reducible refine (chrysalisref17_Int.calls a0_1 t659 t660 t661 _ A18.out).mono ?_
        rintro e w25 ⟨rfl, hb⟩
        refine ⟨_, rfl, ?_⟩
        refine yA3 (blk_below (g := gb653) (o := .cells #[.int .i64 a0_0, .int .i64 a0_1, .int .i64 a0_2] 29 (0, 0)) (by exact BK653.out) hb) (blk_below (g := gb654) (o := .cells #[.string a1_0, .string a1_1, .string a1_2] 30 (0, 0)) (by exact BK654.out) hb) (below_step (by repeat (first | (with_reducible first | exact HB.out | apply below_alloc | apply pw_below_drewN | apply below_drew1 | refine below_set ?_ GE653.out | refine below_set ?_ GE654.out) | exact HB.out)) hb) ?_
        clear BK653 BK654 HB
        intro BK653 BK654 HB
        (try clear hb)
        (try clear hb2)
        (try clear hk)
        (try clear hi)
        refine hK.out _ _ ⟨(blk_cell BK653.out 0).trans rfl, (blk_cell BK653.out 1).trans rfl, (blk_cell BK653.out 2).trans rfl, (blk_cell BK654.out 0).trans rfl, (blk_cell BK654.out 1).trans rfl, (blk_cell BK654.out 2).trans rfl⟩ (fun hHeld => ?_)
        clear hK K
        refine norm_ (a' := ?_) ?_ ?_
        rotate_left
        · show Act.put _ (some 41) _ = _
          simp only [Act.put, List.setIfInBounds_toArray, List.set_cons_zero, List.set_cons_succ, i64_w, i32_w]
          rfl
        refine one_ (i := 8) (N := some 44) (bQ 22 224767) rfl rfl (one_of HT_.out (by kernel_rfl)) (by decide) (fun K hK => ?_)
        refine goes_ Try.func9 (by kernel_rfl) rfl #[.int .i64 a0_2] (by rfl) rfl rfl (by (try simp only [List.map_toArray, List.map_cons, List.map_nil]); first | done | rfl | (simp only [List.length_drop, List.length_take]; rfl)) ?_
        with_reducible refine (chrysalisref17_Int.calls a0_2 t662 t663 t664 _ A19.out).mono ?_
        rintro e w26 ⟨rfl, hb⟩
        refine ⟨_, rfl, ?_⟩
        refine yA3 (blk_below (g := gb653) (o := .cells #[.int .i64 a0_0, .int .i64 a0_1, .int .i64 a0_2] 29 (0, 0)) (by exact BK653.out) hb) (blk_below (g := gb654) (o := .cells #[.string a1_0, .string a1_1, .string a1_2] 30 (0, 0)) (by exact BK654.out) hb) (below_step (by repeat (first | (with_reducible first | exact HB.out | apply below_alloc | apply pw_below_drewN | apply below_drew1 | refine below_set ?_ GE653.out | refine below_set ?_ GE654.out) | exact HB.out)) hb) ?_
        clear BK653 BK654 HB
        intro BK653 BK654 HB
        (try clear hb)
        (try clear hb2)
        (try clear hk)
        (try clear hi)
        refine hK.out _ _ ⟨(blk_cell BK653.out 0).trans rfl, (blk_cell BK653.out 1).trans rfl, (blk_cell BK653.out 2).trans rfl, (blk_cell BK654.out 0).trans rfl, (blk_cell BK654.out 1).trans rfl, (blk_cell BK654.out 2).trans rfl⟩ (fun hHeld => ?_)
        clear hK K
        refine norm_ (a' := ?_) ?_ ?_
        rotate_left
        · show Act.put _ (some 44) _ = _
          simp only [Act.put, List.setIfInBounds_toArray, List.set_cons_zero, List.set_cons_succ, i64_w, i32_w]
          rfl
        refine join_ (σ := Value × Value) 2 #[true, true, true, true, true, true, true, true, true, true, true, true, true, true, true, true, true, true, true, true, false, false] (fun s_ => [(45, s_.1), (48, .agg #[.int .i64 t668, .int .i64 t669, .string t670]), (51, .agg #[.int .i64 t671, .int .i64 t672, .string t673]), (54, .agg #[.int .i64 t674, .int .i64 t675, .string t676]), (55, s_.2)]) (fun s_ w' => (w'.cell? ⟨gb653, 0, none⟩ = some (.int .i64 a0_0) ∧ w'.cell? ⟨gb653, 1, none⟩ = some (.int .i64 a0_1) ∧ w'.cell? ⟨gb653, 2, none⟩ = some (.int .i64 a0_2) ∧ w'.cell? ⟨gb654, 0, none⟩ = some (.string a1_0) ∧ w'.cell? ⟨gb654, 1, none⟩ = some (.string a1_1) ∧ w'.cell? ⟨gb654, 2, none⟩ = some (.string a1_2)) ∧ (Kd.R k23 23 w' w.heap.size (fun k_ => some k_ ≠ (s_.2 : Value).ownBlock) s_.1 y665) ∧ (Kd.R k23 23 w' w.heap.size (fun k_ => some k_ ≠ (s_.1 : Value).ownBlock) s_.2 y677) ∧ (w'.heap[gb653]? = some (.cells #[.int .i64 a0_0, .int .i64 a0_1, .int .i64 a0_2] 29 (0, 0))) ∧ (w'.heap[gb654]? = some (.cells #[.string a1_0, .string a1_1, .string a1_2] 30 (0, 0))) ∧ (Below w.heap.size w w')) ?_ ?_
        rotate_left
        · intro hJ9_12_15_18_19
          refine join_ (σ := Value) 3 #[true, true, true, true, true, true, true, true, true, true, true, true, true, true, true, true, true, true, true, false, false, false] (fun s_ => [(45, s_), (48, .agg #[.int .i64 t668, .int .i64 t669, .string t670]), (51, .agg #[.int .i64 t671, .int .i64 t672, .string t673]), (54, .agg #[.int .i64 t674, .int .i64 t675, .string t676])]) (fun s_ w' => (w'.cell? ⟨gb653, 0, none⟩ = some (.int .i64 a0_0) ∧ w'.cell? ⟨gb653, 1, none⟩ = some (.int .i64 a0_1) ∧ w'.cell? ⟨gb653, 2, none⟩ = some (.int .i64 a0_2) ∧ w'.cell? ⟨gb654, 0, none⟩ = some (.string a1_0) ∧ w'.cell? ⟨gb654, 1, none⟩ = some (.string a1_1) ∧ w'.cell? ⟨gb654, 2, none⟩ = some (.string a1_2)) ∧ (Kd.R k23 23 w' w.heap.size (fun _ => True) s_ y665) ∧ (w'.heap[gb653]? = some (.cells #[.int .i64 a0_0, .int .i64 a0_1, .int .i64 a0_2] 29 (0, 0))) ∧ (w'.heap[gb654]? = some (.cells #[.string a1_0, .string a1_1, .string a1_2] 30 (0, 0))) ∧ (Below w.heap.size w w')) ?_ ?_
          rotate_left
          · intro hJ9_12_15_18
            refine join_ (σ := Value) 3 #[true, true, true, true, true, true, true, true, true, false, true, true, true, true, true, true, true, true, true, true, false, false] (fun s_ => [(48, .agg #[.int .i64 t668, .int .i64 t669, .string t670]), (51, .agg #[.int .i64 t671, .int .i64 t672, .string t673]), (54, .agg #[.int .i64 t674, .int .i64 t675, .string t676]), (55, s_)]) (fun s_ w' => (w'.cell? ⟨gb653, 0, none⟩ = some (.int .i64 a0_0) ∧ w'.cell? ⟨gb653, 1, none⟩ = some (.int .i64 a0_1) ∧ w'.cell? ⟨gb653, 2, none⟩ = some (.int .i64 a0_2) ∧ w'.cell? ⟨gb654, 0, none⟩ = some (.string a1_0) ∧ w'.cell? ⟨gb654, 1, none⟩ = some (.string a1_1) ∧ w'.cell? ⟨gb654, 2, none⟩ = some (.string a1_2)) ∧ (Kd.R k23 23 w' w.heap.size (fun _ => True) s_ y677) ∧ (w'.heap[gb653]? = some (.cells #[.int .i64 a0_0, .int .i64 a0_1, .int .i64 a0_2] 29 (0, 0))) ∧ (w'.heap[gb654]? = some (.cells #[.string a1_0, .string a1_1, .string a1_2] 30 (0, 0))) ∧ (Below w.heap.size w w')) ?_ ?_
            rotate_left
            · intro hJ12_15_18_19
              refine join_ (σ := Value) 4 #[true, true, true, true, true, true, true, true, true, true, true, true, true, true, true, true, true, true, false, false, false, false] (fun s_ => [(45, s_), (48, .agg #[.int .i64 t668, .int .i64 t669, .string t670]), (51, .agg #[.int .i64 t671, .int .i64 t672, .string t673])]) (fun s_ w' => (w'.cell? ⟨gb653, 0, none⟩ = some (.int .i64 a0_0) ∧ w'.cell? ⟨gb653, 1, none⟩ = some (.int .i64 a0_1) ∧ w'.cell? ⟨gb653, 2, none⟩ = some (.int .i64 a0_2) ∧ w'.cell? ⟨gb654, 0, none⟩ = some (.string a1_0) ∧ w'.cell? ⟨gb654, 1, none⟩ = some (.string a1_1) ∧ w'.cell? ⟨gb654, 2, none⟩ = some (.string a1_2)) ∧ (Kd.R k23 23 w' w.heap.size (fun _ => True) s_ y665) ∧ (w'.heap[gb653]? = some (.cells #[.int .i64 a0_0, .int .i64 a0_1, .int .i64 a0_2] 29 (0, 0))) ∧ (w'.heap[gb654]? = some (.cells #[.string a1_0, .string a1_1, .string a1_2] 30 (0, 0))) ∧ (Below w.heap.size w w')) ?_ ?_
              rotate_left
              · intro hJ9_12_15
                refine join_ (σ := Unit) 4 #[true, true, true, true, true, true, true, true, true, false, true, true, true, true, true, true, true, true, true, false, false, false] (fun s_ => [(48, .agg #[.int .i64 t668, .int .i64 t669, .string t670]), (51, .agg #[.int .i64 t671, .int .i64 t672, .string t673]), (54, .agg #[.int .i64 t674, .int .i64 t675, .string t676])]) (fun s_ w' => (w'.cell? ⟨gb653, 0, none⟩ = some (.int .i64 a0_0) ∧ w'.cell? ⟨gb653, 1, none⟩ = some (.int .i64 a0_1) ∧ w'.cell? ⟨gb653, 2, none⟩ = some (.int .i64 a0_2) ∧ w'.cell? ⟨gb654, 0, none⟩ = some (.string a1_0) ∧ w'.cell? ⟨gb654, 1, none⟩ = some (.string a1_1) ∧ w'.cell? ⟨gb654, 2, none⟩ = some (.string a1_2)) ∧ (w'.heap[gb653]? = some (.cells #[.int .i64 a0_0, .int .i64 a0_1, .int .i64 a0_2] 29 (0, 0))) ∧ (w'.heap[gb654]? = some (.cells #[.string a1_0, .string a1_1, .string a1_2] 30 (0, 0))) ∧ (Below w.heap.size w w')) ?_ ?_
                rotate_left
                · intro hJ12_15_18
                  refine join_ (σ := Value) 5 #[true, true, true, true, true, true, true, true, true, true, true, true, true, true, true, false, true, true, false, false, false, false] (fun s_ => [(45, s_), (48, .agg #[.int .i64 t668, .int .i64 t669, .string t670])]) (fun s_ w' => (w'.cell? ⟨gb653, 0, none⟩ = some (.int .i64 a0_0) ∧ w'.cell? ⟨gb653, 1, none⟩ = some (.int .i64 a0_1) ∧ w'.cell? ⟨gb653, 2, none⟩ = some (.int .i64 a0_2) ∧ w'.cell? ⟨gb654, 0, none⟩ = some (.string a1_0) ∧ w'.cell? ⟨gb654, 1, none⟩ = some (.string a1_1) ∧ w'.cell? ⟨gb654, 2, none⟩ = some (.string a1_2)) ∧ (Kd.R k23 23 w' w.heap.size (fun _ => True) s_ y665) ∧ (w'.heap[gb653]? = some (.cells #[.int .i64 a0_0, .int .i64 a0_1, .int .i64 a0_2] 29 (0, 0))) ∧ (w'.heap[gb654]? = some (.cells #[.string a1_0, .string a1_1, .string a1_2] 30 (0, 0))) ∧ (Below w.heap.size w w')) ?_ ?_
                  rotate_left
                  · intro hJ9_12
                    refine join_ (σ := Unit) 5 #[true, true, true, true, true, true, true, true, true, false, true, true, true, true, true, true, true, true, false, false, false, false] (fun s_ => [(48, .agg #[.int .i64 t668, .int .i64 t669, .string t670]), (51, .agg #[.int .i64 t671, .int .i64 t672, .string t673])]) (fun s_ w' => (w'.cell? ⟨gb653, 0, none⟩ = some (.int .i64 a0_0) ∧ w'.cell? ⟨gb653, 1, none⟩ = some (.int .i64 a0_1) ∧ w'.cell? ⟨gb653, 2, none⟩ = some (.int .i64 a0_2) ∧ w'.cell? ⟨gb654, 0, none⟩ = some (.string a1_0) ∧ w'.cell? ⟨gb654, 1, none⟩ = some (.string a1_1) ∧ w'.cell? ⟨gb654, 2, none⟩ = some (.string a1_2)) ∧ (w'.heap[gb653]? = some (.cells #[.int .i64 a0_0, .int .i64 a0_1, .int .i64 a0_2] 29 (0, 0))) ∧ (w'.heap[gb654]? = some (.cells #[.string a1_0, .string a1_1, .string a1_2] 30 (0, 0))) ∧ (Below w.heap.size w w')) ?_ ?_
                    rotate_left
                    · intro hJ12_15
                      refine join_ (σ := Value) 6 #[true, true, true, true, true, true, true, true, true, true, true, true, false, true, true, false, true, true, false, false, false, false] (fun s_ => [(45, s_)]) (fun s_ w' => (w'.cell? ⟨gb653, 0, none⟩ = some (.int .i64 a0_0) ∧ w'.cell? ⟨gb653, 1, none⟩ = some (.int .i64 a0_1) ∧ w'.cell? ⟨gb653, 2, none⟩ = some (.int .i64 a0_2) ∧ w'.cell? ⟨gb654, 0, none⟩ = some (.string a1_0) ∧ w'.cell? ⟨gb654, 1, none⟩ = some (.string a1_1) ∧ w'.cell? ⟨gb654, 2, none⟩ = some (.string a1_2)) ∧ (Kd.R k23 23 w' w.heap.size (fun _ => True) s_ y665) ∧ (w'.heap[gb653]? = some (.cells #[.int .i64 a0_0, .int .i64 a0_1, .int .i64 a0_2] 29 (0, 0))) ∧ (w'.heap[gb654]? = some (.cells #[.string a1_0, .string a1_1, .string a1_2] 30 (0, 0))) ∧ (Below w.heap.size w w')) ?_ ?_
                      rotate_left
                      · intro hJ9
                        refine join_ (σ := Unit) 6 #[true, true, true, true, true, true, true, true, true, false, true, true, true, true, true, false, true, true, false, false, false, false] (fun s_ => [(48, .agg #[.int .i64 t668, .int .i64 t669, .string t670])]) (fun s_ w' => (w'.cell? ⟨gb653, 0, none⟩ = some (.int .i64 a0_0) ∧ w'.cell? ⟨gb653, 1, none⟩ = some (.int .i64 a0_1) ∧ w'.cell? ⟨gb653, 2, none⟩ = some (.int .i64 a0_2) ∧ w'.cell? ⟨gb654, 0, none⟩ = some (.string a1_0) ∧ w'.cell? ⟨gb654, 1, none⟩ = some (.string a1_1) ∧ w'.cell? ⟨gb654, 2, none⟩ = some (.string a1_2)) ∧ (w'.heap[gb653]? = some (.cells #[.int .i64 a0_0, .int .i64 a0_1, .int .i64 a0_2] 29 (0, 0))) ∧ (w'.heap[gb654]? = some (.cells #[.string a1_0, .string a1_1, .string a1_2] 30 (0, 0))) ∧ (Below w.heap.size w w')) ?_ ?_
                        rotate_left
                        · intro hJ12
                          refine two_ (i := 9) (j := 12) (Ni := some 45) (Nj := some 48) #[true, true, true, true, true, true, true, true, true, true, true, true, false, true, true, false, true, true, false, false, false, false] #[true, true, true, true, true, true, true, true, true, false, true, true, true, true, true, false, true, true, false, false, false, false] rfl rfl rfl rfl (two_of HT_.out (by kernel_rfl)) (by decide) (by decide) (fun K hK => ?_) (fun K hK => ?_)
                          · skip
                            refine Kd.R_lit_step k23 _ 23 ?hg (N := 45) ?hd (xs := ([(⟨t656, t657, t658⟩ : S23), (⟨t659, t660, t661⟩ : S23), (⟨t662, t663, t664⟩ : S23)] : List (S23))) (inner := [.int .i64 t656, .int .i64 t657, .string t658, .int .i64 t659, .int .i64 t660, .string t661, .int .i64 t662, .int .i64 t663, .string t664]) (ok := fun _ => True) (okp := fun _ => True) ?hr ?hp (fun _ hk => hk) trivial (Below.refl _ _) (Nat.le_refl _) (by simp) ?_; (case hd => rfl); (case hg => rfl); (case hr => first | (go_simp; done) | (go_simp; rfl)); (case hp => exact (Reps.c3 (show Kd.M k23 _ _ _ (⟨t656, t657, t658⟩ : S23) [.int .i64 t656, .int .i64 t657, .string t658] from (k23_mkM _ _ _ (⟨t656, t657, t658⟩ : S23) )) (Reps.c3 (show Kd.M k23 _ _ _ (⟨t659, t660, t661⟩ : S23) [.int .i64 t659, .int .i64 t660, .string t661] from (k23_mkM _ _ _ (⟨t659, t660, t661⟩ : S23) )) (Reps.c3 (show Kd.M k23 _ _ _ (⟨t662, t663, t664⟩ : S23) [.int .i64 t662, .int .i64 t663, .string t664] from (k23_mkM _ _ _ (⟨t662, t663, t664⟩ : S23) )) (Reps.none _ _)))))
                            intro v666 w27 ho28 hb hg_ hnew_
                            clear hg_ hnew_
                            (first | rw [← Ny665.out] at ho28 | (simp only [Int.reduceToNat] at ho28; rw [← Ny665.out] at ho28))
                            refine yA4 (Kd.R_lower ho28 (below_size (by repeat (first | (with_reducible first | exact HB.out | apply below_alloc | apply pw_below_drewN | apply below_drew1 | refine below_set ?_ GE653.out | refine below_set ?_ GE654.out) | exact HB.out)))) (blk_below (g := gb653) (o := .cells #[.int .i64 a0_0, .int .i64 a0_1, .int .i64 a0_2] 29 (0, 0)) (by exact BK653.out) hb) (blk_below (g := gb654) (o := .cells #[.string a1_0, .string a1_1, .string a1_2] 30 (0, 0)) (by exact BK654.out) hb) (below_step (by repeat (first | (with_reducible first | exact HB.out | apply below_alloc | apply pw_below_drewN | apply below_drew1 | refine below_set ?_ GE653.out | refine below_set ?_ GE654.out) | exact HB.out)) hb) ?_
                            clear BK653 BK654 HB
                            intro HO667 BK653 BK654 HB
                            clear hb ho28
                            refine hK.out _ _ ⟨(blk_cell BK653.out 0).trans rfl, (blk_cell BK653.out 1).trans rfl, (blk_cell BK653.out 2).trans rfl, (blk_cell BK654.out 0).trans rfl, (blk_cell BK654.out 1).trans rfl, (blk_cell BK654.out 2).trans rfl⟩ (fun hHeld => ?_)
                            clear hK K
                            refine norm_ (a' := ?_) ?_ ?_
                            rotate_left
                            · show Act.put _ (some 45) _ = _
                              simp only [Act.put, List.setIfInBounds_toArray, List.set_cons_zero, List.set_cons_succ, i64_w, i32_w]
                              rfl
                            exact norm_ (by first | (simp only [putAll, Act.put, List.setIfInBounds_toArray, List.set_cons_zero, List.set_cons_succ]; done) | (simp only [putAll, Act.put, List.setIfInBounds_toArray, List.set_cons_zero, List.set_cons_succ]; rfl)) (hJ9 (v666) _ ⟨hHeld, (by (with_reducible repeat (first | apply Kd.R_alloc | apply Kd.R_drewN | apply Kd.R_drew)); exact HO667.out), BK653.out, BK654.out, (by repeat (first | (with_reducible first | exact HB.out | apply below_alloc | apply pw_below_drewN | apply below_drew1 | refine below_set ?_ GE653.out | refine below_set ?_ GE654.out) | exact HB.out))⟩)
                          · skip
                            refine goes_ Try.func12 (by kernel_rfl) rfl #[.string a1_0] (by rfl) rfl rfl (by (try simp only [List.map_toArray, List.map_cons, List.map_nil]); first | done | rfl | (simp only [List.length_drop, List.length_take]; rfl)) ?_
                            with_reducible refine (chrysalisref17_Text.calls a1_0 t668 t669 t670 _ A20.out).mono ?_
                            rintro e w27 ⟨rfl, hb⟩
                            refine ⟨_, rfl, ?_⟩
                            refine yA3 (blk_below (g := gb653) (o := .cells #[.int .i64 a0_0, .int .i64 a0_1, .int .i64 a0_2] 29 (0, 0)) (by exact BK653.out) hb) (blk_below (g := gb654) (o := .cells #[.string a1_0, .string a1_1, .string a1_2] 30 (0, 0)) (by exact BK654.out) hb) (below_step (by repeat (first | (with_reducible first | exact HB.out | apply below_alloc | apply pw_below_drewN | apply below_drew1 | refine below_set ?_ GE653.out | refine below_set ?_ GE654.out) | exact HB.out)) hb) ?_
                            clear BK653 BK654 HB
                            intro BK653 BK654 HB
                            (try clear hb)
                            (try clear hb2)
                            (try clear hk)
                            (try clear hi)
                            refine hK.out _ _ ⟨(blk_cell BK653.out 0).trans rfl, (blk_cell BK653.out 1).trans rfl, (blk_cell BK653.out 2).trans rfl, (blk_cell BK654.out 0).trans rfl, (blk_cell BK654.out 1).trans rfl, (blk_cell BK654.out 2).trans rfl⟩ (fun hHeld => ?_)
                            clear hK K
                            refine norm_ (a' := ?_) ?_ ?_
                            rotate_left
                            · show Act.put _ (some 48) _ = _
                              simp only [Act.put, List.setIfInBounds_toArray, List.set_cons_zero, List.set_cons_succ, i64_w, i32_w]
                              rfl
                            exact norm_ (by first | (simp only [putAll, Act.put, List.setIfInBounds_toArray, List.set_cons_zero, List.set_cons_succ]; done) | (simp only [putAll, Act.put, List.setIfInBounds_toArray, List.set_cons_zero, List.set_cons_succ]; rfl)) (hJ12 () _ ⟨hHeld, BK653.out, BK654.out, (by repeat (first | (with_reducible first | exact HB.out | apply below_alloc | apply pw_below_drewN | apply below_drew1 | refine below_set ?_ GE653.out | refine below_set ?_ GE654.out) | exact HB.out))⟩)
                        · skip
                          rintro _ w28 ⟨hS_, h0_, h1_, h2_⟩
                          have n0_ : Aside0 (w28.heap[gb653]? = some (.cells #[.int .i64 a0_0, .int .i64 a0_1, .int .i64 a0_2] 29 (0, 0))) := ⟨h0_⟩
                          have n1_ : Aside0 (w28.heap[gb654]? = some (.cells #[.string a1_0, .string a1_1, .string a1_2] 30 (0, 0))) := ⟨h1_⟩
                          have n2_ : Aside0 (Below w.heap.size w w28) := ⟨h2_⟩
                          clear BK653
                          clear BK654
                          clear HB
                          clear h0_ h1_ h2_
                          have BK653 := n0_
                          have BK654 := n1_
                          have HB := n2_
                          clear n0_ n1_ n2_
                          have hHeld : w28.cell? ⟨gb653, 0, none⟩ = some (.int .i64 a0_0) ∧ w28.cell? ⟨gb653, 1, none⟩ = some (.int .i64 a0_1) ∧ w28.cell? ⟨gb653, 2, none⟩ = some (.int .i64 a0_2) ∧ w28.cell? ⟨gb654, 0, none⟩ = some (.string a1_0) ∧ w28.cell? ⟨gb654, 1, none⟩ = some (.string a1_1) ∧ w28.cell? ⟨gb654, 2, none⟩ = some (.string a1_2) := hS_
                          refine norm_ (a' := ?_) ?_ ?_
                          rotate_left
                          · simp only [putAll, Act.put, List.setIfInBounds_toArray, List.set_cons_zero, List.set_cons_succ]
                            rfl
                          refine two_ (i := 9) (j := 15) (Ni := some 45) (Nj := some 51) #[true, true, true, true, true, true, true, true, true, true, true, true, true, true, true, false, true, true, false, false, false, false] #[true, true, true, true, true, true, true, true, true, false, true, true, true, true, true, true, true, true, false, false, false, false] rfl rfl rfl rfl (two_of HT_.out (by kernel_rfl)) (by decide) (by decide) (fun K hK => ?_) (fun K hK => ?_)
                          · skip
                            refine Kd.R_lit_step k23 _ 23 ?hg (N := 45) ?hd (xs := ([(⟨t656, t657, t658⟩ : S23), (⟨t659, t660, t661⟩ : S23), (⟨t662, t663, t664⟩ : S23)] : List (S23))) (inner := [.int .i64 t656, .int .i64 t657, .string t658, .int .i64 t659, .int .i64 t660, .string t661, .int .i64 t662, .int .i64 t663, .string t664]) (ok := fun _ => True) (okp := fun _ => True) ?hr ?hp (fun _ hk => hk) trivial (Below.refl _ _) (Nat.le_refl _) (by simp) ?_; (case hd => rfl); (case hg => rfl); (case hr => first | (go_simp; done) | (go_simp; rfl)); (case hp => exact (Reps.c3 (show Kd.M k23 _ _ _ (⟨t656, t657, t658⟩ : S23) [.int .i64 t656, .int .i64 t657, .string t658] from (k23_mkM _ _ _ (⟨t656, t657, t658⟩ : S23) )) (Reps.c3 (show Kd.M k23 _ _ _ (⟨t659, t660, t661⟩ : S23) [.int .i64 t659, .int .i64 t660, .string t661] from (k23_mkM _ _ _ (⟨t659, t660, t661⟩ : S23) )) (Reps.c3 (show Kd.M k23 _ _ _ (⟨t662, t663, t664⟩ : S23) [.int .i64 t662, .int .i64 t663, .string t664] from (k23_mkM _ _ _ (⟨t662, t663, t664⟩ : S23) )) (Reps.none _ _)))))
                            intro v666 w29 ho30 hb hg_ hnew_
                            clear hg_ hnew_
                            (first | rw [← Ny665.out] at ho30 | (simp only [Int.reduceToNat] at ho30; rw [← Ny665.out] at ho30))
                            refine yA4 (Kd.R_lower ho30 (below_size (by repeat (first | (with_reducible first | exact HB.out | apply below_alloc | apply pw_below_drewN | apply below_drew1 | refine below_set ?_ GE653.out | refine below_set ?_ GE654.out) | exact HB.out)))) (blk_below (g := gb653) (o := .cells #[.int .i64 a0_0, .int .i64 a0_1, .int .i64 a0_2] 29 (0, 0)) (by exact BK653.out) hb) (blk_below (g := gb654) (o := .cells #[.string a1_0, .string a1_1, .string a1_2] 30 (0, 0)) (by exact BK654.out) hb) (below_step (by repeat (first | (with_reducible first | exact HB.out | apply below_alloc | apply pw_below_drewN | apply below_drew1 | refine below_set ?_ GE653.out | refine below_set ?_ GE654.out) | exact HB.out)) hb) ?_
                            clear BK653 BK654 HB
                            intro HO667 BK653 BK654 HB
                            clear hb ho30
                            refine hK.out _ _ ⟨(blk_cell BK653.out 0).trans rfl, (blk_cell BK653.out 1).trans rfl, (blk_cell BK653.out 2).trans rfl, (blk_cell BK654.out 0).trans rfl, (blk_cell BK654.out 1).trans rfl, (blk_cell BK654.out 2).trans rfl⟩ (fun hHeld => ?_)
                            clear hK K
                            refine norm_ (a' := ?_) ?_ ?_
                            rotate_left
                            · show Act.put _ (some 45) _ = _
                              simp only [Act.put, List.setIfInBounds_toArray, List.set_cons_zero, List.set_cons_succ, i64_w, i32_w]
                              rfl
                            exact norm_ (by first | (simp only [putAll, Act.put, List.setIfInBounds_toArray, List.set_cons_zero, List.set_cons_succ]; done) | (simp only [putAll, Act.put, List.setIfInBounds_toArray, List.set_cons_zero, List.set_cons_succ]; rfl)) (hJ9_12 (v666) _ ⟨hHeld, (by (with_reducible repeat (first | apply Kd.R_alloc | apply Kd.R_drewN | apply Kd.R_drew)); exact HO667.out), BK653.out, BK654.out, (by repeat (first | (with_reducible first | exact HB.out | apply below_alloc | apply pw_below_drewN | apply below_drew1 | refine below_set ?_ GE653.out | refine below_set ?_ GE654.out) | exact HB.out))⟩)
                          · skip
                            refine goes_ Try.func12 (by kernel_rfl) rfl #[.string a1_1] (by rfl) rfl rfl (by (try simp only [List.map_toArray, List.map_cons, List.map_nil]); first | done | rfl | (simp only [List.length_drop, List.length_take]; rfl)) ?_
                            with_reducible refine (chrysalisref17_Text.calls a1_1 t671 t672 t673 _ A21.out).mono ?_
                            rintro e w29 ⟨rfl, hb⟩
                            refine ⟨_, rfl, ?_⟩
                            refine yA3 (blk_below (g := gb653) (o := .cells #[.int .i64 a0_0, .int .i64 a0_1, .int .i64 a0_2] 29 (0, 0)) (by exact BK653.out) hb) (blk_below (g := gb654) (o := .cells #[.string a1_0, .string a1_1, .string a1_2] 30 (0, 0)) (by exact BK654.out) hb) (below_step (by repeat (first | (with_reducible first | exact HB.out | apply below_alloc | apply pw_below_drewN | apply below_drew1 | refine below_set ?_ GE653.out | refine below_set ?_ GE654.out) | exact HB.out)) hb) ?_
                            clear BK653 BK654 HB
                            intro BK653 BK654 HB
                            (try clear hb)
                            (try clear hb2)
                            (try clear hk)
                            (try clear hi)
                            refine hK.out _ _ ⟨(blk_cell BK653.out 0).trans rfl, (blk_cell BK653.out 1).trans rfl, (blk_cell BK653.out 2).trans rfl, (blk_cell BK654.out 0).trans rfl, (blk_cell BK654.out 1).trans rfl, (blk_cell BK654.out 2).trans rfl⟩ (fun hHeld => ?_)
                            clear hK K
                            refine norm_ (a' := ?_) ?_ ?_
                            rotate_left
                            · show Act.put _ (some 51) _ = _
                              simp only [Act.put, List.setIfInBounds_toArray, List.set_cons_zero, List.set_cons_succ, i64_w, i32_w]
                              rfl
                            exact norm_ (by first | (simp only [putAll, Act.put, List.setIfInBounds_toArray, List.set_cons_zero, List.set_cons_succ]; done) | (simp only [putAll, Act.put, List.setIfInBounds_toArray, List.set_cons_zero, List.set_cons_succ]; rfl)) (hJ12_15 () _ ⟨hHeld, BK653.out, BK654.out, (by repeat (first | (with_reducible first | exact HB.out | apply below_alloc | apply pw_below_drewN | apply below_drew1 | refine below_set ?_ GE653.out | refine below_set ?_ GE654.out) | exact HB.out))⟩)
                      · skip
                        rintro v666 w29 ⟨hS_, h0_, h1_, h2_, h3_⟩
                        have n0_ : Aside0 (Kd.R k23 23 w29 w.heap.size (fun _ => True) v666 y665) := ⟨h0_⟩
                        have n1_ : Aside0 (w29.heap[gb653]? = some (.cells #[.int .i64 a0_0, .int .i64 a0_1, .int .i64 a0_2] 29 (0, 0))) := ⟨h1_⟩
                        have n2_ : Aside0 (w29.heap[gb654]? = some (.cells #[.string a1_0, .string a1_1, .string a1_2] 30 (0, 0))) := ⟨h2_⟩
                        have n3_ : Aside0 (Below w.heap.size w w29) := ⟨h3_⟩
                        clear BK653
                        clear BK654
                        clear HB
                        clear h0_ h1_ h2_ h3_
                        have HO667 := n0_
                        have BK653 := n1_
                        have BK654 := n2_
                        have HB := n3_
                        clear n0_ n1_ n2_ n3_
                        have hHeld : w29.cell? ⟨gb653, 0, none⟩ = some (.int .i64 a0_0) ∧ w29.cell? ⟨gb653, 1, none⟩ = some (.int .i64 a0_1) ∧ w29.cell? ⟨gb653, 2, none⟩ = some (.int .i64 a0_2) ∧ w29.cell? ⟨gb654, 0, none⟩ = some (.string a1_0) ∧ w29.cell? ⟨gb654, 1, none⟩ = some (.string a1_1) ∧ w29.cell? ⟨gb654, 2, none⟩ = some (.string a1_2) := hS_
                        refine norm_ (a' := ?_) ?_ ?_
                        rotate_left
                        · simp only [putAll, Act.put, List.setIfInBounds_toArray, List.set_cons_zero, List.set_cons_succ]
                          rfl
                        refine one_ (i := 12) (N := some 48) (bQ 22 229375) rfl rfl (one_of HT_.out (by kernel_rfl)) (by decide) (fun K hK => ?_)
                        refine goes_ Try.func12 (by kernel_rfl) rfl #[.string a1_0] (by rfl) rfl rfl (by (try simp only [List.map_toArray, List.map_cons, List.map_nil]); first | done | rfl | (simp only [List.length_drop, List.length_take]; rfl)) ?_
                        with_reducible refine (chrysalisref17_Text.calls a1_0 t668 t669 t670 _ A20.out).mono ?_
                        rintro e w30 ⟨rfl, hb⟩
                        refine ⟨_, rfl, ?_⟩
                        refine yA4 (Kd.R_below (by (with_reducible repeat (first | apply Kd.R_alloc | apply Kd.R_drewN | apply Kd.R_drew)); exact HO667.out) hb) (blk_below (g := gb653) (o := .cells #[.int .i64 a0_0, .int .i64 a0_1, .int .i64 a0_2] 29 (0, 0)) (by exact BK653.out) hb) (blk_below (g := gb654) (o := .cells #[.string a1_0, .string a1_1, .string a1_2] 30 (0, 0)) (by exact BK654.out) hb) (below_step (by repeat (first | (with_reducible first | exact HB.out | apply below_alloc | apply pw_below_drewN | apply below_drew1 | refine below_set ?_ GE653.out | refine below_set ?_ GE654.out) | exact HB.out)) hb) ?_; clear HO667 BK653 BK654 HB; intro HO667 BK653 BK654 HB
                        (try clear hb)
                        (try clear hb2)
                        (try clear hk)
                        (try clear hi)
                        refine hK.out _ _ ⟨(blk_cell BK653.out 0).trans rfl, (blk_cell BK653.out 1).trans rfl, (blk_cell BK653.out 2).trans rfl, (blk_cell BK654.out 0).trans rfl, (blk_cell BK654.out 1).trans rfl, (blk_cell BK654.out 2).trans rfl⟩ (fun hHeld => ?_)
                        clear hK K
                        refine norm_ (a' := ?_) ?_ ?_
                        rotate_left
                        · show Act.put _ (some 48) _ = _
                          simp only [Act.put, List.setIfInBounds_toArray, List.set_cons_zero, List.set_cons_succ, i64_w, i32_w]
                          rfl
                        exact norm_ (by first | (simp only [putAll, Act.put, List.setIfInBounds_toArray, List.set_cons_zero, List.set_cons_succ]; done) | (simp only [putAll, Act.put, List.setIfInBounds_toArray, List.set_cons_zero, List.set_cons_succ]; rfl)) (hJ9_12 (v666) _ ⟨hHeld, (by (with_reducible repeat (first | apply Kd.R_alloc | apply Kd.R_drewN | apply Kd.R_drew)); exact HO667.out), BK653.out, BK654.out, (by repeat (first | (with_reducible first | exact HB.out | apply below_alloc | apply pw_below_drewN | apply below_drew1 | refine below_set ?_ GE653.out | refine below_set ?_ GE654.out) | exact HB.out))⟩)
                    · skip
                      rintro _ w29 ⟨hS_, h0_, h1_, h2_⟩
                      have n0_ : Aside0 (w29.heap[gb653]? = some (.cells #[.int .i64 a0_0, .int .i64 a0_1, .int .i64 a0_2] 29 (0, 0))) := ⟨h0_⟩
                      have n1_ : Aside0 (w29.heap[gb654]? = some (.cells #[.string a1_0, .string a1_1, .string a1_2] 30 (0, 0))) := ⟨h1_⟩
                      have n2_ : Aside0 (Below w.heap.size w w29) := ⟨h2_⟩
                      clear BK653
                      clear BK654
                      clear HB
                      clear h0_ h1_ h2_
                      have BK653 := n0_
                      have BK654 := n1_
                      have HB := n2_
                      clear n0_ n1_ n2_
                      have hHeld : w29.cell? ⟨gb653, 0, none⟩ = some (.int .i64 a0_0) ∧ w29.cell? ⟨gb653, 1, none⟩ = some (.int .i64 a0_1) ∧ w29.cell? ⟨gb653, 2, none⟩ = some (.int .i64 a0_2) ∧ w29.cell? ⟨gb654, 0, none⟩ = some (.string a1_0) ∧ w29.cell? ⟨gb654, 1, none⟩ = some (.string a1_1) ∧ w29.cell? ⟨gb654, 2, none⟩ = some (.string a1_2) := hS_
                      refine norm_ (a' := ?_) ?_ ?_
                      rotate_left
                      · simp only [putAll, Act.put, List.setIfInBounds_toArray, List.set_cons_zero, List.set_cons_succ]
                        rfl
                      refine two_ (i := 9) (j := 18) (Ni := some 45) (Nj := some 54) #[true, true, true, true, true, true, true, true, true, true, true, true, true, true, true, true, true, true, false, false, false, false] #[true, true, true, true, true, true, true, true, true, false, true, true, true, true, true, true, true, true, true, false, false, false] rfl rfl rfl rfl (two_of HT_.out (by kernel_rfl)) (by decide) (by decide) (fun K hK => ?_) (fun K hK => ?_)
                      · skip
                        refine Kd.R_lit_step k23 _ 23 ?hg (N := 45) ?hd (xs := ([(⟨t656, t657, t658⟩ : S23), (⟨t659, t660, t661⟩ : S23), (⟨t662, t663, t664⟩ : S23)] : List (S23))) (inner := [.int .i64 t656, .int .i64 t657, .string t658, .int .i64 t659, .int .i64 t660, .string t661, .int .i64 t662, .int .i64 t663, .string t664]) (ok := fun _ => True) (okp := fun _ => True) ?hr ?hp (fun _ hk => hk) trivial (Below.refl _ _) (Nat.le_refl _) (by simp) ?_; (case hd => rfl); (case hg => rfl); (case hr => first | (go_simp; done) | (go_simp; rfl)); (case hp => exact (Reps.c3 (show Kd.M k23 _ _ _ (⟨t656, t657, t658⟩ : S23) [.int .i64 t656, .int .i64 t657, .string t658] from (k23_mkM _ _ _ (⟨t656, t657, t658⟩ : S23) )) (Reps.c3 (show Kd.M k23 _ _ _ (⟨t659, t660, t661⟩ : S23) [.int .i64 t659, .int .i64 t660, .string t661] from (k23_mkM _ _ _ (⟨t659, t660, t661⟩ : S23) )) (Reps.c3 (show Kd.M k23 _ _ _ (⟨t662, t663, t664⟩ : S23) [.int .i64 t662, .int .i64 t663, .string t664] from (k23_mkM _ _ _ (⟨t662, t663, t664⟩ : S23) )) (Reps.none _ _)))))
                        intro v666 w30 ho31 hb hg_ hnew_
                        clear hg_ hnew_
                        (first | rw [← Ny665.out] at ho31 | (simp only [Int.reduceToNat] at ho31; rw [← Ny665.out] at ho31))
                        refine yA4 (Kd.R_lower ho31 (below_size (by repeat (first | (with_reducible first | exact HB.out | apply below_alloc | apply pw_below_drewN | apply below_drew1 | refine below_set ?_ GE653.out | refine below_set ?_ GE654.out) | exact HB.out)))) (blk_below (g := gb653) (o := .cells #[.int .i64 a0_0, .int .i64 a0_1, .int .i64 a0_2] 29 (0, 0)) (by exact BK653.out) hb) (blk_below (g := gb654) (o := .cells #[.string a1_0, .string a1_1, .string a1_2] 30 (0, 0)) (by exact BK654.out) hb) (below_step (by repeat (first | (with_reducible first | exact HB.out | apply below_alloc | apply pw_below_drewN | apply below_drew1 | refine below_set ?_ GE653.out | refine below_set ?_ GE654.out) | exact HB.out)) hb) ?_
                        clear BK653 BK654 HB
                        intro HO667 BK653 BK654 HB
                        clear hb ho31
                        refine hK.out _ _ ⟨(blk_cell BK653.out 0).trans rfl, (blk_cell BK653.out 1).trans rfl, (blk_cell BK653.out 2).trans rfl, (blk_cell BK654.out 0).trans rfl, (blk_cell BK654.out 1).trans rfl, (blk_cell BK654.out 2).trans rfl⟩ (fun hHeld => ?_)
                        clear hK K
                        refine norm_ (a' := ?_) ?_ ?_
                        rotate_left
                        · show Act.put _ (some 45) _ = _
                          simp only [Act.put, List.setIfInBounds_toArray, List.set_cons_zero, List.set_cons_succ, i64_w, i32_w]
                          rfl
                        exact norm_ (by first | (simp only [putAll, Act.put, List.setIfInBounds_toArray, List.set_cons_zero, List.set_cons_succ]; done) | (simp only [putAll, Act.put, List.setIfInBounds_toArray, List.set_cons_zero, List.set_cons_succ]; rfl)) (hJ9_12_15 (v666) _ ⟨hHeld, (by (with_reducible repeat (first | apply Kd.R_alloc | apply Kd.R_drewN | apply Kd.R_drew)); exact HO667.out), BK653.out, BK654.out, (by repeat (first | (with_reducible first | exact HB.out | apply below_alloc | apply pw_below_drewN | apply below_drew1 | refine below_set ?_ GE653.out | refine below_set ?_ GE654.out) | exact HB.out))⟩)
                      · skip
                        refine goes_ Try.func12 (by kernel_rfl) rfl #[.string a1_2] (by rfl) rfl rfl (by (try simp only [List.map_toArray, List.map_cons, List.map_nil]); first | done | rfl | (simp only [List.length_drop, List.length_take]; rfl)) ?_
                        with_reducible refine (chrysalisref17_Text.calls a1_2 t674 t675 t676 _ A22.out).mono ?_
                        rintro e w30 ⟨rfl, hb⟩
                        refine ⟨_, rfl, ?_⟩
                        refine yA3 (blk_below (g := gb653) (o := .cells #[.int .i64 a0_0, .int .i64 a0_1, .int .i64 a0_2] 29 (0, 0)) (by exact BK653.out) hb) (blk_below (g := gb654) (o := .cells #[.string a1_0, .string a1_1, .string a1_2] 30 (0, 0)) (by exact BK654.out) hb) (below_step (by repeat (first | (with_reducible first | exact HB.out | apply below_alloc | apply pw_below_drewN | apply below_drew1 | refine below_set ?_ GE653.out | refine below_set ?_ GE654.out) | exact HB.out)) hb) ?_
                        clear BK653 BK654 HB
                        intro BK653 BK654 HB
                        (try clear hb)
                        (try clear hb2)
                        (try clear hk)
                        (try clear hi)
                        refine hK.out _ _ ⟨(blk_cell BK653.out 0).trans rfl, (blk_cell BK653.out 1).trans rfl, (blk_cell BK653.out 2).trans rfl, (blk_cell BK654.out 0).trans rfl, (blk_cell BK654.out 1).trans rfl, (blk_cell BK654.out 2).trans rfl⟩ (fun hHeld => ?_)
                        clear hK K
                        refine norm_ (a' := ?_) ?_ ?_
                        rotate_left
                        · show Act.put _ (some 54) _ = _
                          simp only [Act.put, List.setIfInBounds_toArray, List.set_cons_zero, List.set_cons_succ, i64_w, i32_w]
                          rfl
                        exact norm_ (by first | (simp only [putAll, Act.put, List.setIfInBounds_toArray, List.set_cons_zero, List.set_cons_succ]; done) | (simp only [putAll, Act.put, List.setIfInBounds_toArray, List.set_cons_zero, List.set_cons_succ]; rfl)) (hJ12_15_18 () _ ⟨hHeld, BK653.out, BK654.out, (by repeat (first | (with_reducible first | exact HB.out | apply below_alloc | apply pw_below_drewN | apply below_drew1 | refine below_set ?_ GE653.out | refine below_set ?_ GE654.out) | exact HB.out))⟩)
                  · skip
                    rintro v666 w30 ⟨hS_, h0_, h1_, h2_, h3_⟩
                    have n0_ : Aside0 (Kd.R k23 23 w30 w.heap.size (fun _ => True) v666 y665) := ⟨h0_⟩
                    have n1_ : Aside0 (w30.heap[gb653]? = some (.cells #[.int .i64 a0_0, .int .i64 a0_1, .int .i64 a0_2] 29 (0, 0))) := ⟨h1_⟩
                    have n2_ : Aside0 (w30.heap[gb654]? = some (.cells #[.string a1_0, .string a1_1, .string a1_2] 30 (0, 0))) := ⟨h2_⟩
                    have n3_ : Aside0 (Below w.heap.size w w30) := ⟨h3_⟩
                    clear BK653
                    clear BK654
                    clear HB
                    clear h0_ h1_ h2_ h3_
                    have HO667 := n0_
                    have BK653 := n1_
                    have BK654 := n2_
                    have HB := n3_
                    clear n0_ n1_ n2_ n3_
                    have hHeld : w30.cell? ⟨gb653, 0, none⟩ = some (.int .i64 a0_0) ∧ w30.cell? ⟨gb653, 1, none⟩ = some (.int .i64 a0_1) ∧ w30.cell? ⟨gb653, 2, none⟩ = some (.int .i64 a0_2) ∧ w30.cell? ⟨gb654, 0, none⟩ = some (.string a1_0) ∧ w30.cell? ⟨gb654, 1, none⟩ = some (.string a1_1) ∧ w30.cell? ⟨gb654, 2, none⟩ = some (.string a1_2) := hS_
                    refine norm_ (a' := ?_) ?_ ?_
                    rotate_left
                    · simp only [putAll, Act.put, List.setIfInBounds_toArray, List.set_cons_zero, List.set_cons_succ]
                      rfl
                    refine one_ (i := 15) (N := some 51) (bQ 22 262143) rfl rfl (one_of HT_.out (by kernel_rfl)) (by decide) (fun K hK => ?_)
                    refine goes_ Try.func12 (by kernel_rfl) rfl #[.string a1_1] (by rfl) rfl rfl (by (try simp only [List.map_toArray, List.map_cons, List.map_nil]); first | done | rfl | (simp only [List.length_drop, List.length_take]; rfl)) ?_
                    with_reducible refine (chrysalisref17_Text.calls a1_1 t671 t672 t673 _ A21.out).mono ?_
                    rintro e w31 ⟨rfl, hb⟩
                    refine ⟨_, rfl, ?_⟩
                    refine yA4 (Kd.R_below (by (with_reducible repeat (first | apply Kd.R_alloc | apply Kd.R_drewN | apply Kd.R_drew)); exact HO667.out) hb) (blk_below (g := gb653) (o := .cells #[.int .i64 a0_0, .int .i64 a0_1, .int .i64 a0_2] 29 (0, 0)) (by exact BK653.out) hb) (blk_below (g := gb654) (o := .cells #[.string a1_0, .string a1_1, .string a1_2] 30 (0, 0)) (by exact BK654.out) hb) (below_step (by repeat (first | (with_reducible first | exact HB.out | apply below_alloc | apply pw_below_drewN | apply below_drew1 | refine below_set ?_ GE653.out | refine below_set ?_ GE654.out) | exact HB.out)) hb) ?_; clear HO667 BK653 BK654 HB; intro HO667 BK653 BK654 HB
                    (try clear hb)
                    (try clear hb2)
                    (try clear hk)
                    (try clear hi)
                    refine hK.out _ _ ⟨(blk_cell BK653.out 0).trans rfl, (blk_cell BK653.out 1).trans rfl, (blk_cell BK653.out 2).trans rfl, (blk_cell BK654.out 0).trans rfl, (blk_cell BK654.out 1).trans rfl, (blk_cell BK654.out 2).trans rfl⟩ (fun hHeld => ?_)
                    clear hK K
                    refine norm_ (a' := ?_) ?_ ?_
                    rotate_left
                    · show Act.put _ (some 51) _ = _
                      simp only [Act.put, List.setIfInBounds_toArray, List.set_cons_zero, List.set_cons_succ, i64_w, i32_w]
                      rfl
                    exact norm_ (by first | (simp only [putAll, Act.put, List.setIfInBounds_toArray, List.set_cons_zero, List.set_cons_succ]; done) | (simp only [putAll, Act.put, List.setIfInBounds_toArray, List.set_cons_zero, List.set_cons_succ]; rfl)) (hJ9_12_15 (v666) _ ⟨hHeld, (by (with_reducible repeat (first | apply Kd.R_alloc | apply Kd.R_drewN | apply Kd.R_drew)); exact HO667.out), BK653.out, BK654.out, (by repeat (first | (with_reducible first | exact HB.out | apply below_alloc | apply pw_below_drewN | apply below_drew1 | refine below_set ?_ GE653.out | refine below_set ?_ GE654.out) | exact HB.out))⟩)
                · skip
                  rintro _ w30 ⟨hS_, h0_, h1_, h2_⟩
                  have n0_ : Aside0 (w30.heap[gb653]? = some (.cells #[.int .i64 a0_0, .int .i64 a0_1, .int .i64 a0_2] 29 (0, 0))) := ⟨h0_⟩
                  have n1_ : Aside0 (w30.heap[gb654]? = some (.cells #[.string a1_0, .string a1_1, .string a1_2] 30 (0, 0))) := ⟨h1_⟩
                  have n2_ : Aside0 (Below w.heap.size w w30) := ⟨h2_⟩
                  clear BK653
                  clear BK654
                  clear HB
                  clear h0_ h1_ h2_
                  have BK653 := n0_
                  have BK654 := n1_
                  have HB := n2_
                  clear n0_ n1_ n2_
                  have hHeld : w30.cell? ⟨gb653, 0, none⟩ = some (.int .i64 a0_0) ∧ w30.cell? ⟨gb653, 1, none⟩ = some (.int .i64 a0_1) ∧ w30.cell? ⟨gb653, 2, none⟩ = some (.int .i64 a0_2) ∧ w30.cell? ⟨gb654, 0, none⟩ = some (.string a1_0) ∧ w30.cell? ⟨gb654, 1, none⟩ = some (.string a1_1) ∧ w30.cell? ⟨gb654, 2, none⟩ = some (.string a1_2) := hS_
                  refine norm_ (a' := ?_) ?_ ?_
                  rotate_left
                  · simp only [putAll, Act.put, List.setIfInBounds_toArray, List.set_cons_zero, List.set_cons_succ]
                    rfl
                  refine two_ (i := 9) (j := 19) (Ni := some 45) (Nj := some 55) #[true, true, true, true, true, true, true, true, true, true, true, true, true, true, true, true, true, true, true, false, false, false] #[true, true, true, true, true, true, true, true, true, false, true, true, true, true, true, true, true, true, true, true, false, false] rfl rfl rfl rfl (two_of HT_.out (by kernel_rfl)) (by decide) (by decide) (fun K hK => ?_) (fun K hK => ?_)
                  · skip
                    refine Kd.R_lit_step k23 _ 23 ?hg (N := 45) ?hd (xs := ([(⟨t656, t657, t658⟩ : S23), (⟨t659, t660, t661⟩ : S23), (⟨t662, t663, t664⟩ : S23)] : List (S23))) (inner := [.int .i64 t656, .int .i64 t657, .string t658, .int .i64 t659, .int .i64 t660, .string t661, .int .i64 t662, .int .i64 t663, .string t664]) (ok := fun _ => True) (okp := fun _ => True) ?hr ?hp (fun _ hk => hk) trivial (Below.refl _ _) (Nat.le_refl _) (by simp) ?_; (case hd => rfl); (case hg => rfl); (case hr => first | (go_simp; done) | (go_simp; rfl)); (case hp => exact (Reps.c3 (show Kd.M k23 _ _ _ (⟨t656, t657, t658⟩ : S23) [.int .i64 t656, .int .i64 t657, .string t658] from (k23_mkM _ _ _ (⟨t656, t657, t658⟩ : S23) )) (Reps.c3 (show Kd.M k23 _ _ _ (⟨t659, t660, t661⟩ : S23) [.int .i64 t659, .int .i64 t660, .string t661] from (k23_mkM _ _ _ (⟨t659, t660, t661⟩ : S23) )) (Reps.c3 (show Kd.M k23 _ _ _ (⟨t662, t663, t664⟩ : S23) [.int .i64 t662, .int .i64 t663, .string t664] from (k23_mkM _ _ _ (⟨t662, t663, t664⟩ : S23) )) (Reps.none _ _)))))
                    intro v666 w31 ho32 hb hg_ hnew_
                    clear hg_ hnew_
                    (first | rw [← Ny665.out] at ho32 | (simp only [Int.reduceToNat] at ho32; rw [← Ny665.out] at ho32))
                    refine yA4 (Kd.R_lower ho32 (below_size (by repeat (first | (with_reducible first | exact HB.out | apply below_alloc | apply pw_below_drewN | apply below_drew1 | refine below_set ?_ GE653.out | refine below_set ?_ GE654.out) | exact HB.out)))) (blk_below (g := gb653) (o := .cells #[.int .i64 a0_0, .int .i64 a0_1, .int .i64 a0_2] 29 (0, 0)) (by exact BK653.out) hb) (blk_below (g := gb654) (o := .cells #[.string a1_0, .string a1_1, .string a1_2] 30 (0, 0)) (by exact BK654.out) hb) (below_step (by repeat (first | (with_reducible first | exact HB.out | apply below_alloc | apply pw_below_drewN | apply below_drew1 | refine below_set ?_ GE653.out | refine below_set ?_ GE654.out) | exact HB.out)) hb) ?_
                    clear BK653 BK654 HB
                    intro HO667 BK653 BK654 HB
                    clear hb ho32
                    refine hK.out _ _ ⟨(blk_cell BK653.out 0).trans rfl, (blk_cell BK653.out 1).trans rfl, (blk_cell BK653.out 2).trans rfl, (blk_cell BK654.out 0).trans rfl, (blk_cell BK654.out 1).trans rfl, (blk_cell BK654.out 2).trans rfl⟩ (fun hHeld => ?_)
                    clear hK K
                    refine norm_ (a' := ?_) ?_ ?_
                    rotate_left
                    · show Act.put _ (some 45) _ = _
                      simp only [Act.put, List.setIfInBounds_toArray, List.set_cons_zero, List.set_cons_succ, i64_w, i32_w]
                      rfl
                    exact norm_ (by first | (simp only [putAll, Act.put, List.setIfInBounds_toArray, List.set_cons_zero, List.set_cons_succ]; done) | (simp only [putAll, Act.put, List.setIfInBounds_toArray, List.set_cons_zero, List.set_cons_succ]; rfl)) (hJ9_12_15_18 (v666) _ ⟨hHeld, (by (with_reducible repeat (first | apply Kd.R_alloc | apply Kd.R_drewN | apply Kd.R_drew)); exact HO667.out), BK653.out, BK654.out, (by repeat (first | (with_reducible first | exact HB.out | apply below_alloc | apply pw_below_drewN | apply below_drew1 | refine below_set ?_ GE653.out | refine below_set ?_ GE654.out) | exact HB.out))⟩)
                  · skip
                    refine Kd.R_lit_step k23 _ 23 ?hg (N := 55) ?hd (xs := ([(⟨t668, t669, t670⟩ : S23), (⟨t671, t672, t673⟩ : S23), (⟨t674, t675, t676⟩ : S23)] : List (S23))) (inner := [.int .i64 t668, .int .i64 t669, .string t670, .int .i64 t671, .int .i64 t672, .string t673, .int .i64 t674, .int .i64 t675, .string t676]) (ok := fun _ => True) (okp := fun _ => True) ?hr ?hp (fun _ hk => hk) trivial (Below.refl _ _) (Nat.le_refl _) (by simp) ?_; (case hd => rfl); (case hg => rfl); (case hr => first | (go_simp; done) | (go_simp; rfl)); (case hp => exact (Reps.c3 (show Kd.M k23 _ _ _ (⟨t668, t669, t670⟩ : S23) [.int .i64 t668, .int .i64 t669, .string t670] from (k23_mkM _ _ _ (⟨t668, t669, t670⟩ : S23) )) (Reps.c3 (show Kd.M k23 _ _ _ (⟨t671, t672, t673⟩ : S23) [.int .i64 t671, .int .i64 t672, .string t673] from (k23_mkM _ _ _ (⟨t671, t672, t673⟩ : S23) )) (Reps.c3 (show Kd.M k23 _ _ _ (⟨t674, t675, t676⟩ : S23) [.int .i64 t674, .int .i64 t675, .string t676] from (k23_mkM _ _ _ (⟨t674, t675, t676⟩ : S23) )) (Reps.none _ _)))))
                    intro v678 w31 ho32 hb hg_ hnew_
                    clear hg_ hnew_
                    (first | rw [← Ny677.out] at ho32 | (simp only [Int.reduceToNat] at ho32; rw [← Ny677.out] at ho32))
                    refine yA4 (Kd.R_lower ho32 (below_size (by repeat (first | (with_reducible first | exact HB.out | apply below_alloc | apply pw_below_drewN | apply below_drew1 | refine below_set ?_ GE653.out | refine below_set ?_ GE654.out) | exact HB.out)))) (blk_below (g := gb653) (o := .cells #[.int .i64 a0_0, .int .i64 a0_1, .int .i64 a0_2] 29 (0, 0)) (by exact BK653.out) hb) (blk_below (g := gb654) (o := .cells #[.string a1_0, .string a1_1, .string a1_2] 30 (0, 0)) (by exact BK654.out) hb) (below_step (by repeat (first | (with_reducible first | exact HB.out | apply below_alloc | apply pw_below_drewN | apply below_drew1 | refine below_set ?_ GE653.out | refine below_set ?_ GE654.out) | exact HB.out)) hb) ?_
                    clear BK653 BK654 HB
                    intro HO679 BK653 BK654 HB
                    clear hb ho32
                    refine hK.out _ _ ⟨(blk_cell BK653.out 0).trans rfl, (blk_cell BK653.out 1).trans rfl, (blk_cell BK653.out 2).trans rfl, (blk_cell BK654.out 0).trans rfl, (blk_cell BK654.out 1).trans rfl, (blk_cell BK654.out 2).trans rfl⟩ (fun hHeld => ?_)
                    clear hK K
                    refine norm_ (a' := ?_) ?_ ?_
                    rotate_left
                    · show Act.put _ (some 55) _ = _
                      simp only [Act.put, List.setIfInBounds_toArray, List.set_cons_zero, List.set_cons_succ, i64_w, i32_w]
                      rfl
                    exact norm_ (by first | (simp only [putAll, Act.put, List.setIfInBounds_toArray, List.set_cons_zero, List.set_cons_succ]; done) | (simp only [putAll, Act.put, List.setIfInBounds_toArray, List.set_cons_zero, List.set_cons_succ]; rfl)) (hJ12_15_18_19 (v678) _ ⟨hHeld, (by (with_reducible repeat (first | apply Kd.R_alloc | apply Kd.R_drewN | apply Kd.R_drew)); exact HO679.out), BK653.out, BK654.out, (by repeat (first | (with_reducible first | exact HB.out | apply below_alloc | apply pw_below_drewN | apply below_drew1 | refine below_set ?_ GE653.out | refine below_set ?_ GE654.out) | exact HB.out))⟩)
              · skip
                rintro v666 w31 ⟨hS_, h0_, h1_, h2_, h3_⟩
                have n0_ : Aside0 (Kd.R k23 23 w31 w.heap.size (fun _ => True) v666 y665) := ⟨h0_⟩
                have n1_ : Aside0 (w31.heap[gb653]? = some (.cells #[.int .i64 a0_0, .int .i64 a0_1, .int .i64 a0_2] 29 (0, 0))) := ⟨h1_⟩
                have n2_ : Aside0 (w31.heap[gb654]? = some (.cells #[.string a1_0, .string a1_1, .string a1_2] 30 (0, 0))) := ⟨h2_⟩
                have n3_ : Aside0 (Below w.heap.size w w31) := ⟨h3_⟩
                clear BK653
                clear BK654
                clear HB
                clear h0_ h1_ h2_ h3_
                have HO667 := n0_
                have BK653 := n1_
                have BK654 := n2_
                have HB := n3_
                clear n0_ n1_ n2_ n3_
                have hHeld : w31.cell? ⟨gb653, 0, none⟩ = some (.int .i64 a0_0) ∧ w31.cell? ⟨gb653, 1, none⟩ = some (.int .i64 a0_1) ∧ w31.cell? ⟨gb653, 2, none⟩ = some (.int .i64 a0_2) ∧ w31.cell? ⟨gb654, 0, none⟩ = some (.string a1_0) ∧ w31.cell? ⟨gb654, 1, none⟩ = some (.string a1_1) ∧ w31.cell? ⟨gb654, 2, none⟩ = some (.string a1_2) := hS_
                refine norm_ (a' := ?_) ?_ ?_
                rotate_left
                · simp only [putAll, Act.put, List.setIfInBounds_toArray, List.set_cons_zero, List.set_cons_succ]
                  rfl
                refine one_ (i := 18) (N := some 54) (bQ 22 524287) rfl rfl (one_of HT_.out (by kernel_rfl)) (by decide) (fun K hK => ?_)
                refine goes_ Try.func12 (by kernel_rfl) rfl #[.string a1_2] (by rfl) rfl rfl (by (try simp only [List.map_toArray, List.map_cons, List.map_nil]); first | done | rfl | (simp only [List.length_drop, List.length_take]; rfl)) ?_
                with_reducible refine (chrysalisref17_Text.calls a1_2 t674 t675 t676 _ A22.out).mono ?_
                rintro e w32 ⟨rfl, hb⟩
                refine ⟨_, rfl, ?_⟩
                refine yA4 (Kd.R_below (by (with_reducible repeat (first | apply Kd.R_alloc | apply Kd.R_drewN | apply Kd.R_drew)); exact HO667.out) hb) (blk_below (g := gb653) (o := .cells #[.int .i64 a0_0, .int .i64 a0_1, .int .i64 a0_2] 29 (0, 0)) (by exact BK653.out) hb) (blk_below (g := gb654) (o := .cells #[.string a1_0, .string a1_1, .string a1_2] 30 (0, 0)) (by exact BK654.out) hb) (below_step (by repeat (first | (with_reducible first | exact HB.out | apply below_alloc | apply pw_below_drewN | apply below_drew1 | refine below_set ?_ GE653.out | refine below_set ?_ GE654.out) | exact HB.out)) hb) ?_; clear HO667 BK653 BK654 HB; intro HO667 BK653 BK654 HB
                (try clear hb)
                (try clear hb2)
                (try clear hk)
                (try clear hi)
                refine hK.out _ _ ⟨(blk_cell BK653.out 0).trans rfl, (blk_cell BK653.out 1).trans rfl, (blk_cell BK653.out 2).trans rfl, (blk_cell BK654.out 0).trans rfl, (blk_cell BK654.out 1).trans rfl, (blk_cell BK654.out 2).trans rfl⟩ (fun hHeld => ?_)
                clear hK K
                refine norm_ (a' := ?_) ?_ ?_
                rotate_left
                · show Act.put _ (some 54) _ = _
                  simp only [Act.put, List.setIfInBounds_toArray, List.set_cons_zero, List.set_cons_succ, i64_w, i32_w]
                  rfl
                exact norm_ (by first | (simp only [putAll, Act.put, List.setIfInBounds_toArray, List.set_cons_zero, List.set_cons_succ]; done) | (simp only [putAll, Act.put, List.setIfInBounds_toArray, List.set_cons_zero, List.set_cons_succ]; rfl)) (hJ9_12_15_18 (v666) _ ⟨hHeld, (by (with_reducible repeat (first | apply Kd.R_alloc | apply Kd.R_drewN | apply Kd.R_drew)); exact HO667.out), BK653.out, BK654.out, (by repeat (first | (with_reducible first | exact HB.out | apply below_alloc | apply pw_below_drewN | apply below_drew1 | refine below_set ?_ GE653.out | refine below_set ?_ GE654.out) | exact HB.out))⟩)
            · skip
              rintro v678 w32 ⟨hS_, h0_, h1_, h2_, h3_⟩
              have n0_ : Aside0 (Kd.R k23 23 w32 w.heap.size (fun _ => True) v678 y677) := ⟨h0_⟩
              have n1_ : Aside0 (w32.heap[gb653]? = some (.cells #[.int .i64 a0_0, .int .i64 a0_1, .int .i64 a0_2] 29 (0, 0))) := ⟨h1_⟩
              have n2_ : Aside0 (w32.heap[gb654]? = some (.cells #[.string a1_0, .string a1_1, .string a1_2] 30 (0, 0))) := ⟨h2_⟩
              have n3_ : Aside0 (Below w.heap.size w w32) := ⟨h3_⟩
              clear BK653
              clear BK654
              clear HB
              clear h0_ h1_ h2_ h3_
              have HO679 := n0_
              have BK653 := n1_
              have BK654 := n2_
              have HB := n3_
              clear n0_ n1_ n2_ n3_
              have hHeld : w32.cell? ⟨gb653, 0, none⟩ = some (.int .i64 a0_0) ∧ w32.cell? ⟨gb653, 1, none⟩ = some (.int .i64 a0_1) ∧ w32.cell? ⟨gb653, 2, none⟩ = some (.int .i64 a0_2) ∧ w32.cell? ⟨gb654, 0, none⟩ = some (.string a1_0) ∧ w32.cell? ⟨gb654, 1, none⟩ = some (.string a1_1) ∧ w32.cell? ⟨gb654, 2, none⟩ = some (.string a1_2) := hS_
              refine norm_ (a' := ?_) ?_ ?_
              rotate_left
              · simp only [putAll, Act.put, List.setIfInBounds_toArray, List.set_cons_zero, List.set_cons_succ]
                rfl
              refine one_ (i := 9) (N := some 45) (bQ 22 1048575) rfl rfl (one_of HT_.out (by kernel_rfl)) (by decide) (fun K hK => ?_)
              refine Kd.R_lit_step k23 _ 23 ?hg (N := 45) ?hd (xs := ([(⟨t656, t657, t658⟩ : S23), (⟨t659, t660, t661⟩ : S23), (⟨t662, t663, t664⟩ : S23)] : List (S23))) (inner := [.int .i64 t656, .int .i64 t657, .string t658, .int .i64 t659, .int .i64 t660, .string t661, .int .i64 t662, .int .i64 t663, .string t664]) (ok := fun _ => True) (okp := fun _ => True) ?hr ?hp (fun _ hk => hk) trivial (Below.refl _ _) (Nat.le_refl _) (by simp) ?_; (case hd => rfl); (case hg => rfl); (case hr => first | (go_simp; done) | (go_simp; rfl)); (case hp => exact (Reps.c3 (show Kd.M k23 _ _ _ (⟨t656, t657, t658⟩ : S23) [.int .i64 t656, .int .i64 t657, .string t658] from (k23_mkM _ _ _ (⟨t656, t657, t658⟩ : S23) )) (Reps.c3 (show Kd.M k23 _ _ _ (⟨t659, t660, t661⟩ : S23) [.int .i64 t659, .int .i64 t660, .string t661] from (k23_mkM _ _ _ (⟨t659, t660, t661⟩ : S23) )) (Reps.c3 (show Kd.M k23 _ _ _ (⟨t662, t663, t664⟩ : S23) [.int .i64 t662, .int .i64 t663, .string t664] from (k23_mkM _ _ _ (⟨t662, t663, t664⟩ : S23) )) (Reps.none _ _)))))
              intro v666 w33 ho34 hb hg_ hnew_
              clear hg_ hnew_
              (first | rw [← Ny665.out] at ho34 | (simp only [Int.reduceToNat] at ho34; rw [← Ny665.out] at ho34))
              refine yA5 (Kd.R_elder' (by (with_reducible repeat (first | apply Kd.R_alloc | apply Kd.R_drewN | apply Kd.R_drew)); exact HO679.out) (Kd.R_base ho34) hb) (Kd.R_lower (Kd.R_new' ho34 (Kd.R_lt (by (with_reducible repeat (first | apply Kd.R_alloc | apply Kd.R_drewN | apply Kd.R_drew)); exact HO679.out))) (below_size (by repeat (first | (with_reducible first | exact HB.out | apply below_alloc | apply pw_below_drewN | apply below_drew1 | refine below_set ?_ GE653.out | refine below_set ?_ GE654.out) | exact HB.out)))) (blk_below (g := gb653) (o := .cells #[.int .i64 a0_0, .int .i64 a0_1, .int .i64 a0_2] 29 (0, 0)) (by exact BK653.out) hb) (blk_below (g := gb654) (o := .cells #[.string a1_0, .string a1_1, .string a1_2] 30 (0, 0)) (by exact BK654.out) hb) (below_step (by repeat (first | (with_reducible first | exact HB.out | apply below_alloc | apply pw_below_drewN | apply below_drew1 | refine below_set ?_ GE653.out | refine below_set ?_ GE654.out) | exact HB.out)) hb) ?_; clear HO679 BK653 BK654 HB; intro HO679 HO667 BK653 BK654 HB
              clear hb ho34
              refine hK.out _ _ ⟨(blk_cell BK653.out 0).trans rfl, (blk_cell BK653.out 1).trans rfl, (blk_cell BK653.out 2).trans rfl, (blk_cell BK654.out 0).trans rfl, (blk_cell BK654.out 1).trans rfl, (blk_cell BK654.out 2).trans rfl⟩ (fun hHeld => ?_)
              clear hK K
              refine norm_ (a' := ?_) ?_ ?_
              rotate_left
              · show Act.put _ (some 45) _ = _
                simp only [Act.put, List.setIfInBounds_toArray, List.set_cons_zero, List.set_cons_succ, i64_w, i32_w]
                rfl
              exact norm_ (by first | (simp only [putAll, Act.put, List.setIfInBounds_toArray, List.set_cons_zero, List.set_cons_succ]; done) | (simp only [putAll, Act.put, List.setIfInBounds_toArray, List.set_cons_zero, List.set_cons_succ]; rfl)) (hJ9_12_15_18_19 (v666, v678) _ ⟨hHeld, (by (with_reducible repeat (first | apply Kd.R_alloc | apply Kd.R_drewN | apply Kd.R_drew)); exact Kd.R_mono HO667.out (fun _ hk => hk.2)), (by (with_reducible repeat (first | apply Kd.R_alloc | apply Kd.R_drewN | apply Kd.R_drew)); exact Kd.R_mono HO679.out (fun _ hk => hk.2)), BK653.out, BK654.out, (by repeat (first | (with_reducible first | exact HB.out | apply below_alloc | apply pw_below_drewN | apply below_drew1 | refine below_set ?_ GE653.out | refine below_set ?_ GE654.out) | exact HB.out))⟩)
          · skip
            rintro v666 w32 ⟨hS_, h0_, h1_, h2_, h3_⟩
            have n0_ : Aside0 (Kd.R k23 23 w32 w.heap.size (fun _ => True) v666 y665) := ⟨h0_⟩
            have n1_ : Aside0 (w32.heap[gb653]? = some (.cells #[.int .i64 a0_0, .int .i64 a0_1, .int .i64 a0_2] 29 (0, 0))) := ⟨h1_⟩
            have n2_ : Aside0 (w32.heap[gb654]? = some (.cells #[.string a1_0, .string a1_1, .string a1_2] 30 (0, 0))) := ⟨h2_⟩
            have n3_ : Aside0 (Below w.heap.size w w32) := ⟨h3_⟩
            clear BK653
            clear BK654
            clear HB
            clear h0_ h1_ h2_ h3_
            have HO667 := n0_
            have BK653 := n1_
            have BK654 := n2_
            have HB := n3_
            clear n0_ n1_ n2_ n3_
            have hHeld : w32.cell? ⟨gb653, 0, none⟩ = some (.int .i64 a0_0) ∧ w32.cell? ⟨gb653, 1, none⟩ = some (.int .i64 a0_1) ∧ w32.cell? ⟨gb653, 2, none⟩ = some (.int .i64 a0_2) ∧ w32.cell? ⟨gb654, 0, none⟩ = some (.string a1_0) ∧ w32.cell? ⟨gb654, 1, none⟩ = some (.string a1_1) ∧ w32.cell? ⟨gb654, 2, none⟩ = some (.string a1_2) := hS_
            refine norm_ (a' := ?_) ?_ ?_
            rotate_left
            · simp only [putAll, Act.put, List.setIfInBounds_toArray, List.set_cons_zero, List.set_cons_succ]
              rfl
            refine one_ (i := 19) (N := some 55) (bQ 22 1048575) rfl rfl (one_of HT_.out (by kernel_rfl)) (by decide) (fun K hK => ?_)
            refine Kd.R_lit_step k23 _ 23 ?hg (N := 55) ?hd (xs := ([(⟨t668, t669, t670⟩ : S23), (⟨t671, t672, t673⟩ : S23), (⟨t674, t675, t676⟩ : S23)] : List (S23))) (inner := [.int .i64 t668, .int .i64 t669, .string t670, .int .i64 t671, .int .i64 t672, .string t673, .int .i64 t674, .int .i64 t675, .string t676]) (ok := fun _ => True) (okp := fun _ => True) ?hr ?hp (fun _ hk => hk) trivial (Below.refl _ _) (Nat.le_refl _) (by simp) ?_; (case hd => rfl); (case hg => rfl); (case hr => first | (go_simp; done) | (go_simp; rfl)); (case hp => exact (Reps.c3 (show Kd.M k23 _ _ _ (⟨t668, t669, t670⟩ : S23) [.int .i64 t668, .int .i64 t669, .string t670] from (k23_mkM _ _ _ (⟨t668, t669, t670⟩ : S23) )) (Reps.c3 (show Kd.M k23 _ _ _ (⟨t671, t672, t673⟩ : S23) [.int .i64 t671, .int .i64 t672, .string t673] from (k23_mkM _ _ _ (⟨t671, t672, t673⟩ : S23) )) (Reps.c3 (show Kd.M k23 _ _ _ (⟨t674, t675, t676⟩ : S23) [.int .i64 t674, .int .i64 t675, .string t676] from (k23_mkM _ _ _ (⟨t674, t675, t676⟩ : S23) )) (Reps.none _ _)))))
            intro v678 w33 ho34 hb hg_ hnew_
            clear hg_ hnew_
            (first | rw [← Ny677.out] at ho34 | (simp only [Int.reduceToNat] at ho34; rw [← Ny677.out] at ho34))
            refine yA5 (Kd.R_elder' (by (with_reducible repeat (first | apply Kd.R_alloc | apply Kd.R_drewN | apply Kd.R_drew)); exact HO667.out) (Kd.R_base ho34) hb) (Kd.R_lower (Kd.R_new' ho34 (Kd.R_lt (by (with_reducible repeat (first | apply Kd.R_alloc | apply Kd.R_drewN | apply Kd.R_drew)); exact HO667.out))) (below_size (by repeat (first | (with_reducible first | exact HB.out | apply below_alloc | apply pw_below_drewN | apply below_drew1 | refine below_set ?_ GE653.out | refine below_set ?_ GE654.out) | exact HB.out)))) (blk_below (g := gb653) (o := .cells #[.int .i64 a0_0, .int .i64 a0_1, .int .i64 a0_2] 29 (0, 0)) (by exact BK653.out) hb) (blk_below (g := gb654) (o := .cells #[.string a1_0, .string a1_1, .string a1_2] 30 (0, 0)) (by exact BK654.out) hb) (below_step (by repeat (first | (with_reducible first | exact HB.out | apply below_alloc | apply pw_below_drewN | apply below_drew1 | refine below_set ?_ GE653.out | refine below_set ?_ GE654.out) | exact HB.out)) hb) ?_; clear HO667 BK653 BK654 HB; intro HO667 HO679 BK653 BK654 HB
            clear hb ho34
            refine hK.out _ _ ⟨(blk_cell BK653.out 0).trans rfl, (blk_cell BK653.out 1).trans rfl, (blk_cell BK653.out 2).trans rfl, (blk_cell BK654.out 0).trans rfl, (blk_cell BK654.out 1).trans rfl, (blk_cell BK654.out 2).trans rfl⟩ (fun hHeld => ?_)
            clear hK K
            refine norm_ (a' := ?_) ?_ ?_
            rotate_left
            · show Act.put _ (some 55) _ = _
              simp only [Act.put, List.setIfInBounds_toArray, List.set_cons_zero, List.set_cons_succ, i64_w, i32_w]
              rfl
            exact norm_ (by first | (simp only [putAll, Act.put, List.setIfInBounds_toArray, List.set_cons_zero, List.set_cons_succ]; done) | (simp only [putAll, Act.put, List.setIfInBounds_toArray, List.set_cons_zero, List.set_cons_succ]; rfl)) (hJ9_12_15_18_19 (v666, v678) _ ⟨hHeld, (by (with_reducible repeat (first | apply Kd.R_alloc | apply Kd.R_drewN | apply Kd.R_drew)); exact Kd.R_mono HO667.out (fun _ hk => hk.2)), (by (with_reducible repeat (first | apply Kd.R_alloc | apply Kd.R_drewN | apply Kd.R_drew)); exact Kd.R_mono HO679.out (fun _ hk => hk.2)), BK653.out, BK654.out, (by repeat (first | (with_reducible first | exact HB.out | apply below_alloc | apply pw_below_drewN | apply below_drew1 | refine below_set ?_ GE653.out | refine below_set ?_ GE654.out) | exact HB.out))⟩)
        rintro ⟨v666, v678⟩ w34 ⟨hS_, h0_, h1_, h2_, h3_, h4_⟩
        have n0_ : Aside0 (Kd.R k23 23 w34 w.heap.size (fun k_ => some k_ ≠ (v678 : Value).ownBlock) v666 y665) := ⟨h0_⟩
        have n1_ : Aside0 (Kd.R k23 23 w34 w.heap.size (fun k_ => some k_ ≠ (v666 : Value).ownBlock) v678 y677) := ⟨h1_⟩
        have n2_ : Aside0 (w34.heap[gb653]? = some (.cells #[.int .i64 a0_0, .int .i64 a0_1, .int .i64 a0_2] 29 (0, 0))) := ⟨h2_⟩
        have n3_ : Aside0 (w34.heap[gb654]? = some (.cells #[.string a1_0, .string a1_1, .string a1_2] 30 (0, 0))) := ⟨h3_⟩
        have n4_ : Aside0 (Below w.heap.size w w34) := ⟨h4_⟩
        clear BK653
        clear BK654
        clear HB
        clear h0_ h1_ h2_ h3_ h4_
        have HO667 := n0_
        have HO679 := n1_
        have BK653 := n2_
        have BK654 := n3_
        have HB := n4_
        clear n0_ n1_ n2_ n3_ n4_
        have hHeld : w34.cell? ⟨gb653, 0, none⟩ = some (.int .i64 a0_0) ∧ w34.cell? ⟨gb653, 1, none⟩ = some (.int .i64 a0_1) ∧ w34.cell? ⟨gb653, 2, none⟩ = some (.int .i64 a0_2) ∧ w34.cell? ⟨gb654, 0, none⟩ = some (.string a1_0) ∧ w34.cell? ⟨gb654, 1, none⟩ = some (.string a1_1) ∧ w34.cell? ⟨gb654, 2, none⟩ = some (.string a1_2) := hS_
        obtain ⟨Ao35, co35, eo35⟩ := Kd.R_slice HO667.out
        (first | subst eo35 | (injection eo35 with f1_ f2_ f3_; have f4_ := f1_.symm; have f5_ := f3_.symm; clear f1_ f2_ f3_; subst f4_; subst f5_))
        obtain ⟨Ao36, co36, eo36⟩ := Kd.R_slice HO679.out
        (first | subst eo36 | (injection eo36 with f1_ f2_ f3_; have f4_ := f1_.symm; have f5_ := f3_.symm; clear f1_ f2_ f3_; subst f4_; subst f5_))
        refine norm_ (a' := ?_) ?_ ?_
        rotate_left
        · simp only [putAll, Act.put, List.setIfInBounds_toArray, List.set_cons_zero, List.set_cons_succ]
          rfl
        refine one_ (i := 20) (N := some 56) (bQ 22 2097151) rfl rfl (one_of HT_.out (by kernel_rfl)) (by decide) (fun K hK => ?_)
        refine Kd.N_lit_step (Kd.slice 23 k23) _ 31 ?hg (N' := 56) ?hd (xs := ([y665, y677] : List (List (S23)))) (inner := [.slice Ao35 y665.length co35, .slice Ao36 y677.length co36]) (ok := (fun k_ => k_ ≠ gb653 ∧ k_ ≠ gb654)) (okp := (fun k_ => k_ ≠ gb653 ∧ k_ ≠ gb654)) ?hr ?hp (fun _ hk => hk) ((show ∀ k_, w34.heap.size ≤ k_ → (fun k_ => k_ ≠ gb653 ∧ k_ ≠ gb654) k_ from fun k_ hk => ⟨Kd.freshB (g := gb653) (o := .cells #[.int .i64 a0_0, .int .i64 a0_1, .int .i64 a0_2] 29 (0, 0)) BK653.out k_ hk, Kd.freshB (g := gb654) (o := .cells #[.string a1_0, .string a1_1, .string a1_2] 30 (0, 0)) BK654.out k_ hk⟩) _ (Nat.le_refl _)) (Below.refl _ _) (Nat.le_refl _) (by simp) ?_; (case hd => rfl); (case hg => rfl); (case hr => first | (go_simp; done) | (go_simp; rfl)); (case hp => exact (Reps.one (show Kd.FK (Kd.slice 23 k23) _ _ y665 [.slice Ao35 y665.length co35] from (Kd.FK_slice_mk (Kd.R_reads' (Kd.R_mono (ok' := (fun k_ => k_ ≠ gb653 ∧ k_ ≠ gb654)) (Kd.R_types (Kd.R_types (HO667.out) BK653.out (by decide)) BK654.out (by decide)) (fun k_ hk => ⟨hk.1.2, hk.2⟩))).2.1 (Kd.R_F (Kd.R_mono (ok' := (fun k_ => k_ ≠ gb653 ∧ k_ ≠ gb654)) (Kd.R_types (Kd.R_types (HO667.out) BK653.out (by decide)) BK654.out (by decide)) (fun k_ hk => ⟨hk.1.2, hk.2⟩))))) (Reps.one (show Kd.FK (Kd.slice 23 k23) _ _ y677 [.slice Ao36 y677.length co36] from (Kd.FK_slice_mk (Kd.R_reads' (Kd.R_mono (ok' := (fun k_ => k_ ≠ gb653 ∧ k_ ≠ gb654)) (Kd.R_types (Kd.R_types (HO679.out) BK653.out (by decide)) BK654.out (by decide)) (fun k_ hk => ⟨hk.1.2, hk.2⟩))).2.1 (Kd.R_F (Kd.R_mono (ok' := (fun k_ => k_ ≠ gb653 ∧ k_ ≠ gb654)) (Kd.R_types (Kd.R_types (HO679.out) BK653.out (by decide)) BK654.out (by decide)) (fun k_ hk => ⟨hk.1.2, hk.2⟩))))) (Reps.none _ _))))
        intro v681 w37 ho38 hb hg_ hnew_
        clear hg_ hnew_
        (first | rw [← Ny680.out] at ho38 | (simp only [Int.reduceToNat] at ho38; rw [← Ny680.out] at ho38))
        refine yA4 (Kd.N_lower ho38 (below_size (by repeat (first | (with_reducible first | exact HB.out | apply below_alloc | apply pw_below_drewN | apply below_drew1 | refine below_set ?_ GE653.out | refine below_set ?_ GE654.out) | exact HB.out)))) (blk_below (g := gb653) (o := .cells #[.int .i64 a0_0, .int .i64 a0_1, .int .i64 a0_2] 29 (0, 0)) (by exact BK653.out) hb) (blk_below (g := gb654) (o := .cells #[.string a1_0, .string a1_1, .string a1_2] 30 (0, 0)) (by exact BK654.out) hb) (below_step (by repeat (first | (with_reducible first | exact HB.out | apply below_alloc | apply pw_below_drewN | apply below_drew1 | refine below_set ?_ GE653.out | refine below_set ?_ GE654.out) | exact HB.out)) hb) ?_
        clear BK653 BK654 HB HO667 HO679
        intro HO682 BK653 BK654 HB
        clear hb ho38
        refine hK.out _ _ ⟨(blk_cell BK653.out 0).trans rfl, (blk_cell BK653.out 1).trans rfl, (blk_cell BK653.out 2).trans rfl, (blk_cell BK654.out 0).trans rfl, (blk_cell BK654.out 1).trans rfl, (blk_cell BK654.out 2).trans rfl⟩ (fun hHeld => ?_)
        clear hK K
        refine norm_ (a' := ?_) ?_ ?_
        rotate_left
        · show Act.put _ (some 56) _ = _
          simp only [Act.put, List.setIfInBounds_toArray, List.set_cons_zero, List.set_cons_succ, i64_w, i32_w]
          rfl
        refine pA 21 5 (bQ 22 4194303) ?_
        refine done_ (done_of HT_.out (by kernel_rfl)) ?_
        try go_wp2
        go_loopg [6] kj2 (fun kq v6 w' => ∃ (x6_2 : Int), v6 = .int .i64 x6_2 ∧ Aside0 (chrysalislaw17_OpsOrder.l0 kq y680 x6_2 = some r) ∧ Aside0 (kq ≤ kj2) ∧ Aside0 (Kd.N (Kd.slice 23 k23) 31 w' w.heap.size (fun k_ => k_ ≠ gb653 ∧ k_ ≠ gb654) v681 y680) ∧ Aside0 (w'.heap[gb653]? = some (.cells #[.int .i64 a0_0, .int .i64 a0_1, .int .i64 a0_2] 29 (0, 0))) ∧ Aside0 (w'.heap[gb654]? = some (.cells #[.string a1_0, .string a1_1, .string a1_2] 30 (0, 0))) ∧ Aside0 (Below w.heap.size w w'))
        case atStart => exact ⟨(0), (by first | rfl | (simp; done) | (simp [*]; done)), H', ⟨Nat.le_refl _⟩, ⟨by (with_reducible repeat (first | apply Kd.N_alloc | apply Kd.N_drewN | apply Kd.N_drew)); exact HO682.out⟩, ⟨by exact BK653.out⟩, ⟨by exact BK654.out⟩, ⟨by repeat (first | (with_reducible first | exact HB.out | apply below_alloc | apply pw_below_drewN | apply below_drew1 | refine below_set ?_ GE653.out | refine below_set ?_ GE654.out) | exact HB.out)⟩⟩
        case round =>
          clear H'
          try clear c1
          try clear p2
          try clear c3
          try clear c12
          obtain ⟨x6_2, rfl, HA, HK2, HO_5, BK653, BK654, HB⟩ := hrel
          cases gk with
          | zero => exact absurd HA.out (by simp [chrysalislaw17_OpsOrder.l0])
          | succ k2 =>
            have H := HA.out
            clear HA
            simp only [chrysalislaw17_OpsOrder.l0] at H
            revert H
            refine ild_d (fun c39b0 H => ?_) fun c39b0 H => ?_
            · revert H
              refine ild_c (fun c40b0 H => ?_) fun c40 H => ?_
              · revert H
                refine ild_c (fun c41b0 H => ?_) fun c41 H => ?_
                · revert H
                  refine ildc_c (fun c42 c42b0 H => ?_) fun c42 H => ?_
                  · have c42b1 : decide (0 < (rd_L5 y680 x6_2).length) = true := decide_eq_true (by omega)
                    clear c42
                    revert H
                    refine ildc_c (fun c43 c43b0 H => ?_) fun c43 H => ?_
                    · have c43b1 : decide (1 < (rd_L5 y680 x6_2).length) = true := decide_eq_true (by omega)
                      clear c43
                      revert H
                      refine yB4 fun t688 t689 t690 t691 A44 H => ?_
                      try dsimp only at H
                      revert H
                      refine ildc_c (fun c45 c45b0 H => ?_) fun c45 H => ?_
                      · have c45b1 : decide (2 < (rd_L5 y680 x6_2).length) = true := decide_eq_true (by omega)
                        clear c45
                        revert H
                        refine yB4 fun t697 t698 t699 t700 A46 H => ?_
                        try dsimp only at H
                        revert H
                        refine yB4 fun t706 t707 t708 t709 A47 H => ?_
                        try dsimp only at H
                        revert H
                        refine yB4 fun t715 t716 t717 t718 A48 H => ?_
                        try dsimp only at H
                        revert H
                        refine yB4 fun t724 t725 t726 t727 A49 H => ?_
                        try dsimp only at H
                        revert H
                        refine yB4 fun t733 t734 t735 t736 A50 H => ?_
                        try dsimp only at H
                        have HX_ := Aside0.mk H
                        clear H
                        try go_wp2
                        obtain ⟨Ao58, co58, eo58⟩ := Kd.N_slice HO_5.out
                        (first | subst eo58 | (injection eo58 with f1_ f2_ f3_; have f4_ := f1_.symm; have f5_ := f3_.symm; clear f1_ f2_ f3_; subst f4_; subst f5_))
                        have p_ : 0 ≤ (x6_2 : Int) := of_decide_eq_true (by first | (with_reducible assumption) | assumption)
                        have q_ : x6_2 < (y680.length : Int) := of_decide_eq_true (by first | (with_reducible assumption) | assumption)
                        have i0_ : 0 < ((rd_L5 y680 x6_2).length : Int) := of_decide_eq_true (by first | (with_reducible assumption) | assumption)
                        have i1_ : 1 < ((rd_L5 y680 x6_2).length : Int) := of_decide_eq_true (by first | (with_reducible assumption) | assumption)
                        have i2_ : 2 < ((rd_L5 y680 x6_2).length : Int) := of_decide_eq_true (by first | (with_reducible assumption) | assumption)
                        obtain ⟨ad7, A_, c_, e_, x0_, _, k0_⟩ := at_L5 (Kd.N_reads' (Kd.N_drew HO_5.out)).2.2 x6_2 p_ q_
                        cases e_
                        obtain ⟨ai_, ei_, y0_, y1_, y2_⟩ := at_T23 k0_ 0 (by omega) i0_
                        cases ei_
                        obtain ⟨aj_, ej_, z0_, z1_, z2_⟩ := at_T23 k0_ 1 (by omega) i1_
                        cases ej_
                        refine chrysalislaw17_OpsOrder.reg7 (fun _ _ _ _ _ h => h) A44 (eq_true p_) (eq_true q_) (eq_true i0_) (eq_true i1_) (eq_true (by omega)) (eq_true (by omega)) x0_ y0_ y1_ y2_ z0_ z1_ z2_ ?_
                        clear x0_ k0_ y0_ y1_ y2_ z0_ z1_ z2_
                        intro g7 w7_ v61 v62 v63 v64 v65 v66 v67 v68 v69 v70 v71 v72 v73 v74 v75 v76 hg7 hb_ bx7
                        replace HO_5 := Aside0.mk (Kd.N_below (Kd.N_drew HO_5.out) hb_)
                        replace BK653 := Aside0.mk (blk_below (blk_drew BK653.out) hb_)
                        replace BK654 := Aside0.mk (blk_below (blk_drew BK654.out) hb_)
                        replace HB := Aside0.mk (below_step (below_drew1 HB.out) hb_)
                        clear hb_
                        try go_wp2
                        obtain ⟨ad8, A_, c_, e_, x0_, _, k0_⟩ := at_L5 (Kd.N_reads' (Kd.N_drew HO_5.out)).2.2 x6_2 p_ q_
                        cases e_
                        obtain ⟨ai_, ei_, y0_, y1_, y2_⟩ := at_T23 k0_ 1 (by omega) i1_
                        cases ei_
                        obtain ⟨aj_, ej_, z0_, z1_, z2_⟩ := at_T23 k0_ 2 (by omega) i2_
                        cases ej_
                        refine chrysalislaw17_OpsOrder.reg8 (fun _ _ _ _ _ h => h) A46 (eq_true p_) (eq_true q_) (eq_true i1_) (eq_true i2_) (eq_true (by omega)) (eq_true (by omega)) x0_ y0_ y1_ y2_ z0_ z1_ z2_ ?_
                        clear x0_ k0_ y0_ y1_ y2_ z0_ z1_ z2_
                        intro g8 w8_ v77 v78 v79 v80 v81 v82 v83 v84 v85 v86 v87 v88 v89 v90 v91 v92 hg8 hb_ bx8
                        replace HO_5 := Aside0.mk (Kd.N_below (Kd.N_drew HO_5.out) hb_)
                        replace BK653 := Aside0.mk (blk_below (blk_drew BK653.out) hb_)
                        replace BK654 := Aside0.mk (blk_below (blk_drew BK654.out) hb_)
                        replace bx7 := blk_below (blk_drew bx7) hb_
                        replace HB := Aside0.mk (below_step (below_drew1 HB.out) hb_)
                        clear hb_
                        try go_wp2
                        obtain ⟨ad9, A_, c_, e_, x0_, _, k0_⟩ := at_L5 (Kd.N_reads' (Kd.N_drew HO_5.out)).2.2 x6_2 p_ q_
                        cases e_
                        obtain ⟨ai_, ei_, y0_, y1_, y2_⟩ := at_T23 k0_ 0 (by omega) i0_
                        cases ei_
                        obtain ⟨aj_, ej_, z0_, z1_, z2_⟩ := at_T23 k0_ 2 (by omega) i2_
                        cases ej_
                        refine chrysalislaw17_OpsOrder.reg9 (fun _ _ _ _ _ h => h) A47 (eq_true p_) (eq_true q_) (eq_true i0_) (eq_true i2_) (eq_true (by omega)) (eq_true (by omega)) x0_ y0_ y1_ y2_ z0_ z1_ z2_ ?_
                        clear x0_ k0_ y0_ y1_ y2_ z0_ z1_ z2_
                        intro g9 w9_ v93 v94 v95 v96 v97 v98 v99 v100 v101 v102 v103 v104 v105 v106 v107 v108 hg9 hb_ bx9
                        replace HO_5 := Aside0.mk (Kd.N_below (Kd.N_drew HO_5.out) hb_)
                        replace BK653 := Aside0.mk (blk_below (blk_drew BK653.out) hb_)
                        replace BK654 := Aside0.mk (blk_below (blk_drew BK654.out) hb_)
                        replace bx7 := blk_below (blk_drew bx7) hb_
                        replace bx8 := blk_below (blk_drew bx8) hb_
                        replace HB := Aside0.mk (below_step (below_drew1 HB.out) hb_)
                        clear hb_
                        try go_wp2
                        obtain ⟨ad10, A_, c_, e_, x0_, _, k0_⟩ := at_L5 (Kd.N_reads' (Kd.N_drew HO_5.out)).2.2 x6_2 p_ q_
                        cases e_
                        obtain ⟨ai_, ei_, y0_, y1_, y2_⟩ := at_T23 k0_ 0 (by omega) i0_
                        cases ei_
                        obtain ⟨aj_, ej_, z0_, z1_, z2_⟩ := at_T23 k0_ 1 (by omega) i1_
                        cases ej_
                        refine chrysalislaw17_OpsOrder.reg10 (fun _ _ _ _ _ h => h) A48 (eq_true p_) (eq_true q_) (eq_true i0_) (eq_true i1_) (eq_true (by omega)) (eq_true (by omega)) x0_ y0_ y1_ y2_ z0_ z1_ z2_ ?_
                        clear x0_ k0_ y0_ y1_ y2_ z0_ z1_ z2_
                        intro g10 w10_ v109 v110 v111 v112 v113 v114 v115 v116 v117 v118 v119 v120 v121 v122 v123 v124 hg10 hb_ bx10
                        replace HO_5 := Aside0.mk (Kd.N_below (Kd.N_drew HO_5.out) hb_)
                        replace BK653 := Aside0.mk (blk_below (blk_drew BK653.out) hb_)
                        replace BK654 := Aside0.mk (blk_below (blk_drew BK654.out) hb_)
                        replace bx7 := blk_below (blk_drew bx7) hb_
                        replace bx8 := blk_below (blk_drew bx8) hb_
                        replace bx9 := blk_below (blk_drew bx9) hb_
                        replace HB := Aside0.mk (below_step (below_drew1 HB.out) hb_)
                        clear hb_
                        try go_wp2
                        obtain ⟨ad11, A_, c_, e_, x0_, _, k0_⟩ := at_L5 (Kd.N_reads' (Kd.N_drew HO_5.out)).2.2 x6_2 p_ q_
                        cases e_
                        obtain ⟨ai_, ei_, y0_, y1_, y2_⟩ := at_T23 k0_ 0 (by omega) i0_
                        cases ei_
                        obtain ⟨aj_, ej_, z0_, z1_, z2_⟩ := at_T23 k0_ 1 (by omega) i1_
                        cases ej_
                        refine chrysalislaw17_OpsOrder.reg11 (fun _ _ _ _ _ h => h) A49 (eq_true p_) (eq_true q_) (eq_true i0_) (eq_true i1_) (eq_true (by omega)) (eq_true (by omega)) x0_ y0_ y1_ y2_ z0_ z1_ z2_ ?_
                        clear x0_ k0_ y0_ y1_ y2_ z0_ z1_ z2_
                        intro g11 w11_ v125 v126 v127 v128 v129 v130 v131 v132 v133 v134 v135 v136 v137 v138 v139 v140 hg11 hb_ bx11
                        replace HO_5 := Aside0.mk (Kd.N_below (Kd.N_drew HO_5.out) hb_)
                        replace BK653 := Aside0.mk (blk_below (blk_drew BK653.out) hb_)
                        replace BK654 := Aside0.mk (blk_below (blk_drew BK654.out) hb_)
                        replace bx7 := blk_below (blk_drew bx7) hb_
                        replace bx8 := blk_below (blk_drew bx8) hb_
                        replace bx9 := blk_below (blk_drew bx9) hb_
                        replace bx10 := blk_below (blk_drew bx10) hb_
                        replace HB := Aside0.mk (below_step (below_drew1 HB.out) hb_)
                        clear hb_
                        try go_wp2
                        obtain ⟨ad12, A_, c_, e_, x0_, _, k0_⟩ := at_L5 (Kd.N_reads' (Kd.N_drew HO_5.out)).2.2 x6_2 p_ q_
                        cases e_
                        obtain ⟨ai_, ei_, y0_, y1_, y2_⟩ := at_T23 k0_ 0 (by omega) i0_
                        cases ei_
                        obtain ⟨aj_, ej_, z0_, z1_, z2_⟩ := at_T23 k0_ 1 (by omega) i1_
                        cases ej_
                        refine chrysalislaw17_OpsOrder.reg12 (fun _ _ _ _ _ h => h) A50 (eq_true p_) (eq_true q_) (eq_true i0_) (eq_true i1_) (eq_true (by omega)) (eq_true (by omega)) x0_ y0_ y1_ y2_ z0_ z1_ z2_ ?_
                        clear x0_ k0_ y0_ y1_ y2_ z0_ z1_ z2_
                        intro g12 w12_ v141 v142 v143 v144 v145 v146 v147 v148 v149 v150 v151 v152 v153 v154 v155 v156 hg12 hb_ bx12
                        replace HO_5 := Aside0.mk (Kd.N_below (Kd.N_drew HO_5.out) hb_)
                        replace BK653 := Aside0.mk (blk_below (blk_drew BK653.out) hb_)
                        replace BK654 := Aside0.mk (blk_below (blk_drew BK654.out) hb_)
                        replace bx7 := blk_below (blk_drew bx7) hb_
                        replace bx8 := blk_below (blk_drew bx8) hb_
                        replace bx9 := blk_below (blk_drew bx9) hb_
                        replace bx10 := blk_below (blk_drew bx10) hb_
                        replace bx11 := blk_below (blk_drew bx11) hb_
                        replace HB := Aside0.mk (below_step (below_drew1 HB.out) hb_)
                        clear hb_
                        have hcz7_0 : w12_.cell? ⟨g7, 0, none⟩ = some (.int .i64 t688) := (blk_cell bx7 0).trans rfl
                        have hfz7_0 := blk_frozen bx7 0
                        have hcz7_1 : w12_.cell? ⟨g7, 1, none⟩ = some (.int .i64 t689) := (blk_cell bx7 1).trans rfl
                        have hfz7_1 := blk_frozen bx7 1
                        have hcz7_2 : w12_.cell? ⟨g7, 2, none⟩ = some (.string t690) := (blk_cell bx7 2).trans rfl
                        have hfz7_2 := blk_frozen bx7 2
                        have hcz8_0 : w12_.cell? ⟨g8, 0, none⟩ = some (.int .i64 t697) := (blk_cell bx8 0).trans rfl
                        have hfz8_0 := blk_frozen bx8 0
                        have hcz8_1 : w12_.cell? ⟨g8, 1, none⟩ = some (.int .i64 t698) := (blk_cell bx8 1).trans rfl
                        have hfz8_1 := blk_frozen bx8 1
                        have hcz8_2 : w12_.cell? ⟨g8, 2, none⟩ = some (.string t699) := (blk_cell bx8 2).trans rfl
                        have hfz8_2 := blk_frozen bx8 2
                        have hcz9_0 : w12_.cell? ⟨g9, 0, none⟩ = some (.int .i64 t706) := (blk_cell bx9 0).trans rfl
                        have hfz9_0 := blk_frozen bx9 0
                        have hcz9_1 : w12_.cell? ⟨g9, 1, none⟩ = some (.int .i64 t707) := (blk_cell bx9 1).trans rfl
                        have hfz9_1 := blk_frozen bx9 1
                        have hcz9_2 : w12_.cell? ⟨g9, 2, none⟩ = some (.string t708) := (blk_cell bx9 2).trans rfl
                        have hfz9_2 := blk_frozen bx9 2
                        have hcz10_0 : w12_.cell? ⟨g10, 0, none⟩ = some (.int .i64 t715) := (blk_cell bx10 0).trans rfl
                        have hfz10_0 := blk_frozen bx10 0
                        have hcz10_1 : w12_.cell? ⟨g10, 1, none⟩ = some (.int .i64 t716) := (blk_cell bx10 1).trans rfl
                        have hfz10_1 := blk_frozen bx10 1
                        have hcz10_2 : w12_.cell? ⟨g10, 2, none⟩ = some (.string t717) := (blk_cell bx10 2).trans rfl
                        have hfz10_2 := blk_frozen bx10 2
                        have hcz11_0 : w12_.cell? ⟨g11, 0, none⟩ = some (.int .i64 t724) := (blk_cell bx11 0).trans rfl
                        have hfz11_0 := blk_frozen bx11 0
                        have hcz11_1 : w12_.cell? ⟨g11, 1, none⟩ = some (.int .i64 t725) := (blk_cell bx11 1).trans rfl
                        have hfz11_1 := blk_frozen bx11 1
                        have hcz11_2 : w12_.cell? ⟨g11, 2, none⟩ = some (.string t726) := (blk_cell bx11 2).trans rfl
                        have hfz11_2 := blk_frozen bx11 2
                        have hcz12_0 : w12_.cell? ⟨g12, 0, none⟩ = some (.int .i64 t733) := (blk_cell bx12 0).trans rfl
                        have hfz12_0 := blk_frozen bx12 0
                        have hcz12_1 : w12_.cell? ⟨g12, 1, none⟩ = some (.int .i64 t734) := (blk_cell bx12 1).trans rfl
                        have hfz12_1 := blk_frozen bx12 1
                        have hcz12_2 : w12_.cell? ⟨g12, 2, none⟩ = some (.string t735) := (blk_cell bx12 2).trans rfl
                        have hfz12_2 := blk_frozen bx12 2
                        have H := HX_.out
                        clear HX_
                        revert H
                        refine iebn_bnc (fun c51b0 c51b1 H => ?_) fun c51 c51b0 c51b1 H => ?_
                        · revert H
                          refine iebn_bnc (fun c52b0 c52b1 H => ?_) fun c52 c52b0 c52b1 H => ?_
                          · revert H
                            refine iebn_bnc (fun c53b0 c53b1 H => ?_) fun c53 c53b0 c53b1 H => ?_
                            · revert H
                              refine iebn_bnc (fun c54b0 c54b1 H => ?_) fun c54 c54b0 c54b1 H => ?_
                              · revert H
                                refine iebn_bnc (fun c55b0 c55b1 H => ?_) fun c55 c55b0 c55b1 H => ?_
                                · revert H
                                  refine iebn_bnc (fun c56b0 c56b1 H => ?_) fun c56 c56b0 c56b1 H => ?_
                                  · have H' := Aside0.mk H
                                    clear H
                                    try go_wp2
                                    go_roundg k2
                                    case measure => have := HJ2.out; have := HK2.out; omega
                                    case rel => exact ⟨(wrap64 (x6_2 + 1)), (by first | rfl | (simp; done) | (simp [*]; done)), H', ⟨by have := HJ2.out; have := HK2.out; omega⟩, HO_5, BK653, BK654, HB⟩
                                  · exact absurd ((Option.some.inj H).trans HR.out) (by decide)
                                · exact absurd ((Option.some.inj H).trans HR.out) (by decide)
                              · exact absurd ((Option.some.inj H).trans HR.out) (by decide)
                            · revert H
                              refine iebn_bnc (fun c366b0 c366b1 H => ?_) fun c366 c366b0 c366b1 H => ?_
                              · revert H
                                refine iebn_bnc (fun c367b0 c367b1 H => ?_) fun c367 c367b0 c367b1 H => ?_
                                · have H' := Aside0.mk H
                                  clear H
                                  try go_wp2
                                  go_roundg k2
                                  case measure => have := HJ2.out; have := HK2.out; omega
                                  case rel => exact ⟨(wrap64 (x6_2 + 1)), (by first | rfl | (simp; done) | (simp [*]; done)), H', ⟨by have := HJ2.out; have := HK2.out; omega⟩, HO_5, BK653, BK654, HB⟩
                                · exact absurd ((Option.some.inj H).trans HR.out) (by decide)
                              · exact absurd ((Option.some.inj H).trans HR.out) (by decide)
                          · revert H
                            refine iebn_bnc (fun c598b0 c598b1 H => ?_) fun c598 c598b0 c598b1 H => ?_
                            · revert H
                              refine iebn_bnc (fun c599b0 c599b1 H => ?_) fun c599 c599b0 c599b1 H => ?_
                              · have H' := Aside0.mk H
                                clear H
                                try go_wp2
                                go_roundg k2
                                case measure => have := HJ2.out; have := HK2.out; omega
                                case rel => exact ⟨(wrap64 (x6_2 + 1)), (by first | rfl | (simp; done) | (simp [*]; done)), H', ⟨by have := HJ2.out; have := HK2.out; omega⟩, HO_5, BK653, BK654, HB⟩
                              · exact absurd ((Option.some.inj H).trans HR.out) (by decide)
                            · exact absurd ((Option.some.inj H).trans HR.out) (by decide)
                        · exact absurd ((Option.some.inj H).trans HR.out) (by decide)
                      · exact absurd H (by simp)
                    · exact absurd H (by simp)
                  · exact absurd H (by simp)
                · exact absurd H (by simp)
              · exact absurd H (by simp)
            · revert H
              refine yB1 fun t683 A865 H => ?_
              obtain rfl := Option.some.inj H
              go_wp2_with (first | ((with_reducible refine gC 11 rfl ?_); refine gM 11 202 rfl Try.func11 (chrysalislaw17_known.calls k2  t683 _ A865.out) ?_; rintro _ w16 ⟨rfl, hb⟩; refine ⟨_, rfl, yA4 (Kd.N_below HO_5.out hb) (blk_below (g := gb653) (o := .cells #[.int .i64 a0_0, .int .i64 a0_1, .int .i64 a0_2] 29 (0, 0)) BK653.out hb) (blk_below (g := gb654) (o := .cells #[.string a1_0, .string a1_1, .string a1_2] 30 (0, 0)) BK654.out hb) (below_step (by repeat (first | (with_reducible first | exact HB.out | apply below_alloc | apply pw_below_drewN | apply below_drew1 | refine below_set ?_ GE653.out | refine below_set ?_ GE654.out) | exact HB.out)) hb) ?_⟩; clear HO_5 BK653 BK654 HB hb; intro HO_5 BK653 BK654 HB))
              go_ret
              exact ⟨by first | rfl | (simp [errW_none, errW_some] <;> rfl) | (simp [*, errW_none, errW_some] <;> rfl), by repeat (first | (with_reducible first | exact HB.out | apply below_alloc | apply pw_below_drewN | apply below_drew1 | refine below_set ?_ GE653.out | refine below_set ?_ GE654.out) | exact HB.out)⟩

end Go.Proofs.Ytmadbfahdnkecaa.Q
