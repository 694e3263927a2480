/- Functions that the laws reach, as plain Lean functions, each with a proof that the call does what its function says; no condition. -/
import Derived.Test.YtmadbfahdnkecaaQ0
import Derived.Test.YtmadbfahdnkecaaQ1
import Derived.Test.YtmadbfahdnkecaaQ4
import Derived.Test.YtmadbfahdnkecaaQ6
import Derived.Test.YtmadbfahdnkecaaQ8
import Derived.Test.YtmadbfahdnkecaaQ9
namespace Go.Proofs.Ytmadbfahdnkecaa.Q
open Go.RowKit Go.Proofs.YtmadbfahdnkecaaW.PrintWords Go.Proofs.YtmadbfahdnkecaaW.PrintLast Go.Proofs.YtmadbfahdnkecaaW.PrintMore
attribute [local go_sem]  Go.Proofs.Ytmadbfahdnkecaa.as_num_num Go.Proofs.Ytmadbfahdnkecaa.as_text_num Go.Proofs.Ytmadbfahdnkecaa.as_nil_num Go.Proofs.Ytmadbfahdnkecaa.as_text_text Go.Proofs.Ytmadbfahdnkecaa.as_num_text Go.Proofs.Ytmadbfahdnkecaa.as_nil_text Go.Proofs.Ytmadbfahdnkecaa.leq_texts max2_int min2_int max_two min_two max_three min_three max_four min_four   -- for this text's walks alone
set_option linter.unusedVariables false
set_option linter.unusedSimpArgs false

attribute [local go_sem high] eqA23
/-! ### chrysalislaw17_OpsShows: function 5 -/
mutual
def chrysalislaw17_OpsShows.j0 : Nat → Bool → Int → Int → ByteArray → Int → Int → ByteArray → Option (Bool)
  | 0, _, _, _, _, _, _, _ => none
  | k + 1, x16, x654000, x654001, x654002, x655000, x655001, x655002 => if x16 = true then ((chrysalislaw17_known.f k).bind fun t657 => (some t657)) else ((opsKey.f x654000 x654001 x654002).bind fun t658 => (if t658 = true then ((opsKey.f x655000 x655001 x655002).bind fun t659 => (if t659 = true then ((ops_Show.f k x654000 x654001 x654002).bind fun t660 => ((ops_Show.f k x655000 x655001 x655002).bind fun t661 => (chrysalislaw17_OpsShows.j1 k ((t660.toList == t661.toList) != (x654000 == x655000 && (x654001 == x655001 && (x654002.toList == x655002.toList)))) x654000 x654001 x654002 x655000 x655001 x655002))) else (chrysalislaw17_OpsShows.j1 k false x654000 x654001 x654002 x655000 x655001 x655002))) else (chrysalislaw17_OpsShows.j1 k false x654000 x654001 x654002 x655000 x655001 x655002)))
def chrysalislaw17_OpsShows.j1 : Nat → Bool → Int → Int → ByteArray → Int → Int → ByteArray → Option (Bool)
  | 0, _, _, _, _, _, _, _ => none
  | k + 1, x34, x654000, x654001, x654002, x655000, x655001, x655002 => if x34 = true then (some false) else (chrysalislaw17_OpsShows.l0 k (([(⟨#[43]⟩ : ByteArray), (⟨#[45]⟩ : ByteArray), (⟨#[42]⟩ : ByteArray), (⟨#[47]⟩ : ByteArray), (⟨#[37]⟩ : ByteArray), (⟨#[46, 46]⟩ : ByteArray)] : List ByteArray)) 0 x654000 x654001 x654002 x655000 x655001 x655002)
def chrysalislaw17_OpsShows.l0 : Nat → List ByteArray → Int → Int → Int → ByteArray → Int → Int → ByteArray → Option (Bool)
  | 0, _, _, _, _, _, _, _, _ => none
  | k + 1, x5, x6, x654000, x654001, x654002, x655000, x655001, x655002 => if x6 < (x5.length : Int) then (if 0 ≤ x6 then ((ops_Two.f k (rdOf ByteArray.empty x5 x6) x654000 x654001 x654002 x655000 x655001 x655002).bind fun bt666 => (if bt666.2.2.2 = 0 then (if bt666.1 = x654000 then (if bt666.1 = x655000 then (if (rdOf ByteArray.empty x5 x6).toList = ([46, 46] : List UInt8) then (if bt666.1 = 2 then (chrysalislaw17_OpsShows.l0 k x5 (wrap64 (x6 + 1)) x654000 x654001 x654002 x655000 x655001 x655002) else (some false)) else (if bt666.1 = 1 then (chrysalislaw17_OpsShows.l0 k x5 (wrap64 (x6 + 1)) x654000 x654001 x654002 x655000 x655001 x655002) else (some false))) else (some false)) else (some false)) else (if (!(bt666.1 == 0) || (!(bt666.2.1 == 0) || (!(bt666.2.2.1.toList == ([] : List UInt8))))) = true then (some false) else (chrysalislaw17_OpsShows.l0 k x5 (wrap64 (x6 + 1)) x654000 x654001 x654002 x655000 x655001 x655002)))) else (none)) else ((chrysalislaw17_known.f k).bind fun t674 => (some t674))
end
def chrysalislaw17_OpsShows.f (k : Nat) (a0_0 : Int) (a0_1 : Int) (a0_2 : ByteArray) (a1_0 : Int) (a1_1 : Int) (a1_2 : ByteArray) : Option (Bool) := (chrysalisref17_Is.f a0_0 a0_1 a0_2).bind fun t655 => (if t655 = true then ((chrysalisref17_Is.f a1_0 a1_1 a1_2).bind fun t656 => (chrysalislaw17_OpsShows.j0 k (!t656) a0_0 a0_1 a0_2 a1_0 a1_1 a1_2)) else (chrysalislaw17_OpsShows.j0 k true a0_0 a0_1 a0_2 a1_0 a1_1 a1_2))
theorem chrysalislaw17_OpsShows.mono_l : ∀ k, (∀ y0 y1 y2 y3 y4 y5 y6, LeO (chrysalislaw17_OpsShows.j0 k y0 y1 y2 y3 y4 y5 y6) (chrysalislaw17_OpsShows.j0 (k + 1) y0 y1 y2 y3 y4 y5 y6)) ∧ (∀ y0 y1 y2 y3 y4 y5 y6, LeO (chrysalislaw17_OpsShows.j1 k y0 y1 y2 y3 y4 y5 y6) (chrysalislaw17_OpsShows.j1 (k + 1) y0 y1 y2 y3 y4 y5 y6)) ∧ (∀ y0 y1 y2 y3 y4 y5 y6 y7, LeO (chrysalislaw17_OpsShows.l0 k y0 y1 y2 y3 y4 y5 y6 y7) (chrysalislaw17_OpsShows.l0 (k + 1) y0 y1 y2 y3 y4 y5 y6 y7))
  | 0 => ⟨fun _ _ _ _ _ _ _ r h => by simp [chrysalislaw17_OpsShows.j0] at h, fun _ _ _ _ _ _ _ r h => by simp [chrysalislaw17_OpsShows.j1] at h, fun _ _ _ _ _ _ _ _ r h => by simp [chrysalislaw17_OpsShows.l0] at h⟩
  | k + 1 => by
    obtain ⟨ih0, ih1, ih2⟩ := chrysalislaw17_OpsShows.mono_l k
    refine ⟨?_, ?_, ?_⟩
    · intro y0 y1 y2 y3 y4 y5 y6
      unfold chrysalislaw17_OpsShows.j0
      repeat' first
      | (with_reducible exact ih0 _ _ _ _ _ _ _)
      | (with_reducible exact ih1 _ _ _ _ _ _ _)
      | (with_reducible exact ih2 _ _ _ _ _ _ _ _)
      | (with_reducible exact chrysalislaw17_known.mono _)
      | (with_reducible exact ops_Show.mono _ _ _ _)
      | (with_reducible exact ops_Two.mono _ _ _ _ _ _ _ _)
      | (with_reducible exact LeO.refl _)
      | (with_reducible exact LeO.none _)
      | (with_reducible refine LeO.ite ?_ ?_)
      | (with_reducible refine LeO.bind ?_ (fun _ => ?_))
      | exact ih0 _ _ _ _ _ _ _
      | exact ih1 _ _ _ _ _ _ _
      | exact ih2 _ _ _ _ _ _ _ _
      | exact chrysalislaw17_known.mono _
      | exact ops_Show.mono _ _ _ _
      | exact ops_Two.mono _ _ _ _ _ _ _ _
      | exact LeO.none _
      | refine LeO.ite ?_ ?_
      | refine LeO.bind ?_ (fun _ => ?_)
    · intro y0 y1 y2 y3 y4 y5 y6
      unfold chrysalislaw17_OpsShows.j1
      repeat' first
      | (with_reducible exact ih0 _ _ _ _ _ _ _)
      | (with_reducible exact ih1 _ _ _ _ _ _ _)
      | (with_reducible exact ih2 _ _ _ _ _ _ _ _)
      | (with_reducible exact chrysalislaw17_known.mono _)
      | (with_reducible exact ops_Show.mono _ _ _ _)
      | (with_reducible exact ops_Two.mono _ _ _ _ _ _ _ _)
      | (with_reducible exact LeO.refl _)
      | (with_reducible exact LeO.none _)
      | (with_reducible refine LeO.ite ?_ ?_)
      | (with_reducible refine LeO.bind ?_ (fun _ => ?_))
      | exact ih0 _ _ _ _ _ _ _
      | exact ih1 _ _ _ _ _ _ _
      | exact ih2 _ _ _ _ _ _ _ _
      | exact chrysalislaw17_known.mono _
      | exact ops_Show.mono _ _ _ _
      | exact ops_Two.mono _ _ _ _ _ _ _ _
      | exact LeO.none _
      | refine LeO.ite ?_ ?_
      | refine LeO.bind ?_ (fun _ => ?_)
    · intro y0 y1 y2 y3 y4 y5 y6 y7
      unfold chrysalislaw17_OpsShows.l0
      repeat' first
      | (with_reducible exact ih0 _ _ _ _ _ _ _)
      | (with_reducible exact ih1 _ _ _ _ _ _ _)
      | (with_reducible exact ih2 _ _ _ _ _ _ _ _)
      | (with_reducible exact chrysalislaw17_known.mono _)
      | (with_reducible exact ops_Show.mono _ _ _ _)
      | (with_reducible exact ops_Two.mono _ _ _ _ _ _ _ _)
      | (with_reducible exact LeO.refl _)
      | (with_reducible exact LeO.none _)
      | (with_reducible refine LeO.ite ?_ ?_)
      | (with_reducible refine LeO.bind ?_ (fun _ => ?_))
      | exact ih0 _ _ _ _ _ _ _
      | exact ih1 _ _ _ _ _ _ _
      | exact ih2 _ _ _ _ _ _ _ _
      | exact chrysalislaw17_known.mono _
      | exact ops_Show.mono _ _ _ _
      | exact ops_Two.mono _ _ _ _ _ _ _ _
      | exact LeO.none _
      | refine LeO.ite ?_ ?_
      | refine LeO.bind ?_ (fun _ => ?_)
theorem chrysalislaw17_OpsShows.mono : ∀ a0 a1 a2 a3 a4 a5 k, LeO (chrysalislaw17_OpsShows.f k a0 a1 a2 a3 a4 a5) (chrysalislaw17_OpsShows.f (k + 1) a0 a1 a2 a3 a4 a5) := by
  intro a0 a1 a2 a3 a4 a5 k
  obtain ⟨ih0, ih1, ih2⟩ := chrysalislaw17_OpsShows.mono_l k
  unfold chrysalislaw17_OpsShows.f
  repeat' first
      | (with_reducible exact ih0 _ _ _ _ _ _ _)
      | (with_reducible exact ih1 _ _ _ _ _ _ _)
      | (with_reducible exact ih2 _ _ _ _ _ _ _ _)
      | (with_reducible exact chrysalislaw17_known.mono _)
      | (with_reducible exact ops_Show.mono _ _ _ _)
      | (with_reducible exact ops_Two.mono _ _ _ _ _ _ _ _)
      | (with_reducible exact LeO.refl _)
      | (with_reducible exact LeO.none _)
      | (with_reducible refine LeO.ite ?_ ?_)
      | (with_reducible refine LeO.bind ?_ (fun _ => ?_))
      | exact ih0 _ _ _ _ _ _ _
      | exact ih1 _ _ _ _ _ _ _
      | exact ih2 _ _ _ _ _ _ _ _
      | exact chrysalislaw17_known.mono _
      | exact ops_Show.mono _ _ _ _
      | exact ops_Two.mono _ _ _ _ _ _ _ _
      | exact LeO.none _
      | refine LeO.ite ?_ ?_
      | refine LeO.bind ?_ (fun _ => ?_)
def chrysalislaw17_OpsShows.T3 : Bool × List (List Nat × List Nat) := (true, [([], []), ([0], [0]), ([1, 1], [1]), ([2], [2]), ([3, 2, 2], [2, 3]), ([2, 4], [2, 4]), ([5, 4], [5]), ([6], [6]), ([7, 6, 6], [6, 7]), ([6], [6]), ([9, 8, 6], [6, 9]), ([8, 10, 6], [6, 8, 10]), ([6], [6]), ([6], [6]), ([12, 13, 6], [6, 12, 13]), ([11, 14, 6], [6, 11, 14]), ([6, 15], [6, 15])])
def chrysalislaw17_OpsShows.B3 : List Nat := [0, 1, 3, 7, 15, 31, 63, 127, 255, 127, 1023, 2047, 127, 127, 12415, 32767, 65535]
theorem chrysalislaw17_OpsShows.tab3 : rtab .any (opsOf Try.f5 3) = chrysalislaw17_OpsShows.T3 := by kernel_rfl
theorem chrysalislaw17_OpsShows.bits3 : waitsOk chrysalislaw17_OpsShows.T3.2 chrysalislaw17_OpsShows.B3 = true := by kernel_rfl
def chrysalislaw17_OpsShows.T9 : Bool × List (List Nat × List Nat) := (true, [([], []), ([], []), ([0, 1], [0, 1]), ([2], [2]), ([], []), ([], []), ([3, 4, 5], [3, 4, 5]), ([6], [6]), ([7], [7]), ([7], [7]), ([], []), ([10, 8, 6, 0, 1, 2, 3, 4, 5, 6, 7, 8, 10], [8, 10]), ([9, 11, 0, 1, 2, 3, 4, 5, 6, 7, 8, 9, 10, 11], [9])])
def chrysalislaw17_OpsShows.B9 : List Nat := [0, 0, 3, 7, 0, 0, 63, 127, 255, 255, 0, 1535, 4095]
theorem chrysalislaw17_OpsShows.tab9 : rtab .any (opsOf Try.f5 9) = chrysalislaw17_OpsShows.T9 := by kernel_rfl
theorem chrysalislaw17_OpsShows.bits9 : waitsOk chrysalislaw17_OpsShows.T9.2 chrysalislaw17_OpsShows.B9 = true := by kernel_rfl
set_option maxHeartbeats 8000000 in
set_option maxRecDepth 100000 in
theorem chrysalislaw17_OpsShows.calls (k : Nat) (a0_0 : Int) (a0_1 : Int) (a0_2 : ByteArray) (a1_0 : Int) (a1_1 : Int) (a1_2 : ByteArray) (r : Bool) (w : World) (h : chrysalislaw17_OpsShows.f k a0_0 a0_1 a0_2 a1_0 a1_1 a1_2 = some r) (hr : r = true) :
    Calls Try.prog 5 #[.agg #[.int .i64 a0_0, .int .i64 a0_1, .string a0_2], .agg #[.int .i64 a1_0, .int .i64 a1_1, .string a1_2]] w fun e w' => e = .returned (.bool r) ∧ Below w.heap.size w w' := by
  have hu23 := Try.underlying23
  have HB := Aside0.mk (Below.refl w.heap.size w)
  have HR := Aside0.mk hr
  clear hr
  have H : ((chrysalisref17_Is.f a0_0 a0_1 a0_2).bind fun t655 => (if t655 = true then ((chrysalisref17_Is.f a1_0 a1_1 a1_2).bind fun t656 => (chrysalislaw17_OpsShows.j0 k (!t656) a0_0 a0_1 a0_2 a1_0 a1_1 a1_2)) else (chrysalislaw17_OpsShows.j0 k true a0_0 a0_1 a0_2 a1_0 a1_1 a1_2))) = some r := h
  clear h
  have HC3 := Aside0.mk H
  clear H
  go_enter Try.func5, Try.ntmps5
  go_upto_region 1 with (first | ((with_reducible refine gate_dst (N := 2) rfl ?_); refine box_event ?hg (N := 2) ?hd (cs := #[.int .i64 a0_0, .int .i64 a0_1, .string a0_2]) (t := 23) ?hr ?_; (case hd => rfl); (case hg => rfl); (case hr => first | (go_simp; done) | (go_simp; rfl)); intro gb653 hg w4 hbox hb; have n0_ := Aside0.mk (below_step (by repeat (first | (with_reducible first | exact HB.out | apply below_alloc | apply pw_below_drewN | apply below_drew1) | exact HB.out)) hb); have n1_ := Aside0.mk (hbox); have n2_ := Aside0.mk ((by rw [hg]; exact (below_size (by repeat (first | (with_reducible first | exact HB.out | apply below_alloc | apply pw_below_drewN | apply below_drew1) | exact HB.out))) : w.heap.size ≤ gb653)); have n3_ := Aside0.mk ((by rw [hg]; exact (below_size (by repeat (first | (with_reducible first | exact HB.out | apply below_alloc | apply pw_below_drewN | apply below_drew1) | exact HB.out))) : w.heap.size ≤ gb653)); clear HB; have HB := n0_; have BK653 := n1_; have GW653 := n2_; have GE653 := n3_; clear n0_ n1_ n2_ n3_; clear hb hbox hg) | ((with_reducible refine gate_dst (N := 3) rfl ?_); refine box_event ?hg (N := 3) ?hd (cs := #[.int .i64 a1_0, .int .i64 a1_1, .string a1_2]) (t := 23) ?hr ?_; (case hd => rfl); (case hg => rfl); (case hr => first | (go_simp; done) | (go_simp; rfl)); intro gb654 hg w5 hbox hb; have n0_ := Aside0.mk (blk_below (g := gb653) (o := .cells #[.int .i64 a0_0, .int .i64 a0_1, .string a0_2] 23 (0, 0)) BK653.out hb); have n1_ := Aside0.mk (below_step (by repeat (first | (with_reducible first | exact HB.out | apply below_alloc | apply pw_below_drewN | apply below_drew1 | refine below_set ?_ GE653.out) | exact HB.out)) hb); have n2_ := Aside0.mk (hbox); have n3_ := Aside0.mk ((by rw [hg]; exact (below_size (by repeat (first | (with_reducible first | exact HB.out | apply below_alloc | apply pw_below_drewN | apply below_drew1 | refine below_set ?_ GE653.out) | exact HB.out))) : w.heap.size ≤ gb654)); have n4_ := Aside0.mk ((by rw [hg]; exact (below_size (by repeat (first | (with_reducible first | exact HB.out | apply below_alloc | apply pw_below_drewN | apply below_drew1 | refine below_set ?_ GE653.out) | exact HB.out))) : w.heap.size ≤ gb654)); have n5_ := Aside0.mk ((by rw [hg]; exact Nat.ne_of_lt (blk_lt (g := gb653) (o := .cells #[.int .i64 a0_0, .int .i64 a0_1, .string a0_2] 23 (0, 0)) BK653.out) : gb653 ≠ gb654)); have n6_ := Aside0.mk ((by rw [hg]; exact Nat.ne_of_gt (blk_lt (g := gb653) (o := .cells #[.int .i64 a0_0, .int .i64 a0_1, .string a0_2] 23 (0, 0)) BK653.out) : gb654 ≠ gb653)); clear BK653; clear HB; have BK653 := n0_; have HB := n1_; have BK654 := n2_; have GW654 := n3_; have GE654 := n4_; have NB653_654 := n5_; have NB654_653 := n6_; clear n0_ n1_ n2_ n3_ n4_ n5_ n6_; clear hb hbox hg))
  (try simp only [Act.put, List.setIfInBounds_toArray, List.set_cons_zero, List.set_cons_succ])
  go_cut [16] (fun v16 wc => ∃ (kq : Nat) (x16_2 : Bool), v16 = .bool x16_2 ∧ Aside0 (chrysalislaw17_OpsShows.j0 kq x16_2 a0_0 a0_1 a0_2 a1_0 a1_1 a1_2 = some r) ∧ Aside0 (kq ≤ k) ∧ Aside0 (wc.heap[gb653]? = some (.cells #[.int .i64 a0_0, .int .i64 a0_1, .string a0_2] 23 (0, 0))) ∧ Aside0 (wc.heap[gb654]? = some (.cells #[.int .i64 a1_0, .int .i64 a1_1, .string a1_2] 23 (0, 0))) ∧ Aside0 (Below w.heap.size w wc))
  case first =>
    have H := HC3.out
    clear HC3
    replace H := Option.bind_eq_some_iff.mp H
    obtain ⟨t655, A60, H⟩ := H
    try dsimp only at H
    have A6 := Aside0.mk A60
    clear A60
    by_cases c7 : t655 = true
    · subst c7
      have H1 : ((chrysalisref17_Is.f a1_0 a1_1 a1_2).bind fun t656 => (chrysalislaw17_OpsShows.j0 k (!t656) a0_0 a0_1 a0_2 a1_0 a1_1 a1_2)) = some r := by rw [if_pos rfl] at H; exact H
      clear H
      have H := H1
      clear H1
      replace H := Option.bind_eq_some_iff.mp H
      obtain ⟨t656, A80, H⟩ := H
      replace H : (chrysalislaw17_OpsShows.j0 k (!t656) a0_0 a0_1 a0_2 a1_0 a1_1 a1_2) = some r := H
      have A8 := Aside0.mk A80
      clear A80
      have H' := Aside0.mk H
      clear H
      have hnb9 := NB653_654.out
      have hnc9 := NB654_653.out
      have hcz10_0 : w5.cell? ⟨gb653, 0, none⟩ = some (.int .i64 a0_0) := (blk_cell BK653.out 0).trans rfl
      have hcz10_1 : w5.cell? ⟨gb653, 1, none⟩ = some (.int .i64 a0_1) := (blk_cell BK653.out 1).trans rfl
      have hcz10_2 : w5.cell? ⟨gb653, 2, none⟩ = some (.string a0_2) := (blk_cell BK653.out 2).trans rfl
      have hfz10_0 := blk_frozen BK653.out 0
      have hfz10_1 := blk_frozen BK653.out 1
      have hfz10_2 := blk_frozen BK653.out 2
      go_wp2_with (first | ((with_reducible refine gate_callee (f := 13) rfl ?_); refine goesL_ (some 10) rfl rfl Try.func13 (by kernel_rfl) rfl #[.agg #[.int .i64 a0_0, .int .i64 a0_1, .string a0_2]] rfl (by (try simp only [List.map_toArray, List.map_cons, List.map_nil]); first | done | rfl | (simp only [List.length_drop, List.length_take]; rfl)) ?_; (with_reducible refine (chrysalisref17_Is.calls a0_0 a0_1 a0_2 true _ A6.out).mono ?_); rintro e w11 ⟨rfl, hb⟩; refine ⟨_, rfl, ?_⟩; have n0_ := Aside0.mk (blk_below (g := gb653) (o := .cells #[.int .i64 a0_0, .int .i64 a0_1, .string a0_2] 23 (0, 0)) BK653.out hb); have n1_ := Aside0.mk (blk_below (g := gb654) (o := .cells #[.int .i64 a1_0, .int .i64 a1_1, .string a1_2] 23 (0, 0)) BK654.out hb); have n2_ := Aside0.mk (below_step (by repeat (first | (with_reducible first | exact HB.out | apply below_alloc | apply pw_below_drewN | apply below_drew1 | refine below_set ?_ GE653.out | refine below_set ?_ GE654.out) | exact HB.out)) hb); clear BK653; clear BK654; clear HB; have BK653 := n0_; have BK654 := n1_; have HB := n2_; clear n0_ n1_ n2_; (try clear hb); have hcz12_0 : w11.cell? ⟨gb654, 0, none⟩ = some (.int .i64 a1_0) := (blk_cell BK654.out 0).trans rfl; have hcz12_1 : w11.cell? ⟨gb654, 1, none⟩ = some (.int .i64 a1_1) := (blk_cell BK654.out 1).trans rfl; have hcz12_2 : w11.cell? ⟨gb654, 2, none⟩ = some (.string a1_2) := (blk_cell BK654.out 2).trans rfl; have hfz12_0 := blk_frozen BK654.out 0; have hfz12_1 := blk_frozen BK654.out 1; have hfz12_2 := blk_frozen BK654.out 2) | (go_at_call 13; (with_reducible refine (chrysalisref17_Is.calls a1_0 a1_1 a1_2 t656 _ A8.out).mono ?_); rintro e w13 ⟨rfl, hb⟩; have n0_ := Aside0.mk (blk_below (g := gb653) (o := .cells #[.int .i64 a0_0, .int .i64 a0_1, .string a0_2] 23 (0, 0)) BK653.out hb); have n1_ := Aside0.mk (blk_below (g := gb654) (o := .cells #[.int .i64 a1_0, .int .i64 a1_1, .string a1_2] 23 (0, 0)) BK654.out hb); have n2_ := Aside0.mk (below_step (by repeat (first | (with_reducible first | exact HB.out | apply below_alloc | apply pw_below_drewN | apply below_drew1 | refine below_set ?_ GE653.out | refine below_set ?_ GE654.out) | exact HB.out)) hb); clear BK653; clear BK654; clear HB; have BK653 := n0_; have BK654 := n1_; have HB := n2_; clear n0_ n1_ n2_; (try clear hb)))
      go_meet
      case rel => exact ⟨_, (!t656), (by first | rfl | (simp; done) | (simp [*]; done)), H', ⟨by first | omega | exact Nat.le_refl _⟩, ⟨by exact BK653.out⟩, ⟨by exact BK654.out⟩, ⟨by repeat (first | (with_reducible first | exact HB.out | apply below_alloc | apply pw_below_drewN | apply below_drew1 | refine below_set ?_ GE653.out | refine below_set ?_ GE654.out) | exact HB.out)⟩⟩
    · replace c7 := Bool.eq_false_iff.mpr c7
      subst c7
      have H1 : (chrysalislaw17_OpsShows.j0 k true a0_0 a0_1 a0_2 a1_0 a1_1 a1_2) = some r := by rw [if_neg (show ¬ (false = true) by decide)] at H; exact H
      clear H
      have H := H1
      clear H1
      have H' := Aside0.mk H
      clear H
      have hnb14 := NB653_654.out
      have hnc14 := NB654_653.out
      have hcz15_0 : w5.cell? ⟨gb653, 0, none⟩ = some (.int .i64 a0_0) := (blk_cell BK653.out 0).trans rfl
      have hcz15_1 : w5.cell? ⟨gb653, 1, none⟩ = some (.int .i64 a0_1) := (blk_cell BK653.out 1).trans rfl
      have hcz15_2 : w5.cell? ⟨gb653, 2, none⟩ = some (.string a0_2) := (blk_cell BK653.out 2).trans rfl
      have hfz15_0 := blk_frozen BK653.out 0
      have hfz15_1 := blk_frozen BK653.out 1
      have hfz15_2 := blk_frozen BK653.out 2
      go_wp2_with (first | ((with_reducible refine gate_callee (f := 13) rfl ?_); refine goesL_ (some 10) rfl rfl Try.func13 (by kernel_rfl) rfl #[.agg #[.int .i64 a0_0, .int .i64 a0_1, .string a0_2]] rfl (by (try simp only [List.map_toArray, List.map_cons, List.map_nil]); first | done | rfl | (simp only [List.length_drop, List.length_take]; rfl)) ?_; (with_reducible refine (chrysalisref17_Is.calls a0_0 a0_1 a0_2 false _ A6.out).mono ?_); rintro e w16 ⟨rfl, hb⟩; refine ⟨_, rfl, ?_⟩; have n0_ := Aside0.mk (blk_below (g := gb653) (o := .cells #[.int .i64 a0_0, .int .i64 a0_1, .string a0_2] 23 (0, 0)) BK653.out hb); have n1_ := Aside0.mk (blk_below (g := gb654) (o := .cells #[.int .i64 a1_0, .int .i64 a1_1, .string a1_2] 23 (0, 0)) BK654.out hb); have n2_ := Aside0.mk (below_step (by repeat (first | (with_reducible first | exact HB.out | apply below_alloc | apply pw_below_drewN | apply below_drew1 | refine below_set ?_ GE653.out | refine below_set ?_ GE654.out) | exact HB.out)) hb); clear BK653; clear BK654; clear HB; have BK653 := n0_; have BK654 := n1_; have HB := n2_; clear n0_ n1_ n2_; (try clear hb)))
      go_meet
      case rel => exact ⟨_, (true), (by first | rfl | (simp; done) | (simp [*]; done)), H', ⟨by first | omega | exact Nat.le_refl _⟩, ⟨by exact BK653.out⟩, ⟨by exact BK654.out⟩, ⟨by repeat (first | (with_reducible first | exact HB.out | apply below_alloc | apply pw_below_drewN | apply below_drew1 | refine below_set ?_ GE653.out | refine below_set ?_ GE654.out) | exact HB.out)⟩⟩
  case rest =>
    clear HC3
    try clear c1
    try clear p2
    try clear c5
    try clear c7
    try clear c9
    try clear c13
    try clear c14
    try clear hcz10_0
    try clear hcz10_1
    try clear hcz10_2
    try clear hcz12_0
    try clear hcz12_1
    try clear hcz12_2
    try clear hcz15_0
    try clear hcz15_1
    try clear hcz15_2
    try clear hfz10_0
    try clear hfz10_1
    try clear hfz10_2
    try clear hfz12_0
    try clear hfz12_1
    try clear hfz12_2
    try clear hfz15_0
    try clear hfz15_1
    try clear hfz15_2
    obtain ⟨kq, x16_2, rfl, HA, HJ2, BK653, BK654, HB⟩ := hcut
    cases kq with
    | zero => exact absurd HA.out (by simp [chrysalislaw17_OpsShows.j0])
    | succ kj2 =>
      have H := HA.out
      clear HA
      simp only [chrysalislaw17_OpsShows.j0] at H
      by_cases c17 : x16_2 = true
      · subst c17
        have H1 : ((chrysalislaw17_known.f kj2).bind fun t657 => (some t657)) = some r := by rw [if_pos rfl] at H; exact H
        clear H
        have H := H1
        clear H1
        replace H := Option.bind_eq_some_iff.mp H
        obtain ⟨t657, A180, H⟩ := H
        replace H : (some t657) = some r := H
        have A18 := Aside0.mk A180
        clear A180
        obtain rfl := Option.some.inj H
        go_wp2_with (first | ((with_reducible refine gate_callee (f := 11) rfl ?_); refine goesL_ (some 17) rfl rfl Try.func11 (by kernel_rfl) rfl #[] rfl (by (try simp only [List.map_toArray, List.map_cons, List.map_nil]); first | done | rfl | (simp only [List.length_drop, List.length_take]; rfl)) ?_; (with_reducible refine (chrysalislaw17_known.calls kj2  t657 _ A18.out).mono ?_); rintro e w19 ⟨rfl, hb⟩; refine ⟨_, rfl, ?_⟩; have n0_ := Aside0.mk (blk_below (g := gb653) (o := .cells #[.int .i64 a0_0, .int .i64 a0_1, .string a0_2] 23 (0, 0)) BK653.out hb); have n1_ := Aside0.mk (blk_below (g := gb654) (o := .cells #[.int .i64 a1_0, .int .i64 a1_1, .string a1_2] 23 (0, 0)) BK654.out hb); have n2_ := Aside0.mk (below_step (by repeat (first | (with_reducible first | exact HB.out | apply below_alloc | apply pw_below_drewN | apply below_drew1 | refine below_set ?_ GE653.out | refine below_set ?_ GE654.out) | exact HB.out)) hb); clear BK653; clear BK654; clear HB; have BK653 := n0_; have BK654 := n1_; have HB := n2_; clear n0_ n1_ n2_; (try clear hb)))
        go_ret
        exact ⟨by first | rfl | (simp [errW_none, errW_some] <;> rfl) | (simp [*, errW_none, errW_some] <;> rfl), by repeat (first | (with_reducible first | exact HB.out | apply below_alloc | apply pw_below_drewN | apply below_drew1 | refine below_set ?_ GE653.out | refine below_set ?_ GE654.out) | exact HB.out)⟩
      · replace c17 := Bool.eq_false_iff.mpr c17
        subst c17
        rw [if_neg (show ¬ (false = true) by decide)] at H
        have H1 := H
        clear H
        have H := H1
        clear H1
        have HC20 := Aside0.mk H
        clear H
        go_upto_region 3 with (fail)
        go_cut [34] (fun v34 wc => ∃ (kq : Nat) (x34_19 : Bool), v34 = .bool x34_19 ∧ Aside0 (chrysalislaw17_OpsShows.j1 kq x34_19 a0_0 a0_1 a0_2 a1_0 a1_1 a1_2 = some r) ∧ Aside0 (kq ≤ kj2) ∧ Aside0 (wc.heap[gb653]? = some (.cells #[.int .i64 a0_0, .int .i64 a0_1, .string a0_2] 23 (0, 0))) ∧ Aside0 (wc.heap[gb654]? = some (.cells #[.int .i64 a1_0, .int .i64 a1_1, .string a1_2] 23 (0, 0))) ∧ Aside0 (Below w.heap.size w wc))
        case first =>
          have H := HC20.out
          clear HC20
          replace H := Option.bind_eq_some_iff.mp H
          obtain ⟨t658, A210, H⟩ := H
          try dsimp only at H
          have A21 := Aside0.mk A210
          clear A210
          by_cases c22 : t658 = true
          · subst c22
            rw [if_pos rfl] at H
            have H1 := H
            clear H
            have H := H1
            clear H1
            replace H := Option.bind_eq_some_iff.mp H
            obtain ⟨t659, A230, H⟩ := H
            try dsimp only at H
            have A23 := Aside0.mk A230
            clear A230
            by_cases c24 : t659 = true
            · subst c24
              rw [if_pos rfl] at H
              have H1 := H
              clear H
              have H := H1
              clear H1
              replace H := Option.bind_eq_some_iff.mp H
              obtain ⟨t660, A250, H⟩ := H
              try dsimp only at H
              have A25 := Aside0.mk A250
              clear A250
              replace H := Option.bind_eq_some_iff.mp H
              obtain ⟨t661, A260, H⟩ := H
              try dsimp only at H
              have A26 := Aside0.mk A260
              clear A260
              have H' := Aside0.mk H
              clear H
              try go_wp2
              have n0_ := Aside0.mk (blk_drew BK653.out)
              have n1_ := Aside0.mk (blk_drew BK654.out)
              have n2_ := Aside0.mk (below_drew1 HB.out)
              clear BK653
              clear BK654
              clear HB
              have BK653 := n0_
              have BK654 := n1_
              have HB := n2_
              clear n0_ n1_ n2_
              refine start_ (n := 17) (S := fun w' => w'.cell? ⟨gb653, 0, none⟩ = some (.int .i64 a0_0) ∧ w'.cell? ⟨gb653, 1, none⟩ = some (.int .i64 a0_1) ∧ w'.cell? ⟨gb653, 2, none⟩ = some (.string a0_2) ∧ w'.cell? ⟨gb654, 0, none⟩ = some (.int .i64 a1_0) ∧ w'.cell? ⟨gb654, 1, none⟩ = some (.int .i64 a1_1) ∧ w'.cell? ⟨gb654, 2, none⟩ = some (.string a1_2)) (ds := []) #[false, false, false, false, false, false, false, false, false, false, false, false, false, false, false, false, false] (by kernel_rfl) rfl rfl ⟨(blk_cell BK653.out 0).trans rfl, (blk_cell BK653.out 1).trans rfl, (blk_cell BK653.out 2).trans rfl, (blk_cell BK654.out 0).trans rfl, (blk_cell BK654.out 1).trans rfl, (blk_cell BK654.out 2).trans rfl⟩ (fun hHeld => ?_); refine with_tabW chrysalislaw17_OpsShows.tab3 chrysalislaw17_OpsShows.bits3 (fun HT_ HW_ => ?_)
              generalize wc.drew = w27 at BK653 BK654 HB hHeld ⊢
              refine take_ (i := 0) (N := some 18) (v := ?_) (a' := ?_) #[true, false, false, false, false, false, false, false, false, false, false, false, false, false, false, false, false] rfl rfl (take_ofW HT_.out HW_.out (by kernel_rfl)) (fun _ _ _ h => h) (Or.inl ⟨by rfl, ?_⟩) hHeld ?_ ?_
              rotate_left
              · rintro w' ⟨s0, s1, s2, s3, s4, s5⟩
                go_simp
                with_reducible rfl
              rotate_left
              · simp only [Act.put, List.setIfInBounds_toArray, List.set_cons_zero, List.set_cons_succ, i64_w, i32_w]
                rfl
              refine one_ (i := 1) (N := some 19) #[true, true, false, false, false, false, false, false, false, false, false, false, false, false, false, false, false] rfl rfl (one_of HT_.out (by kernel_rfl)) (by decide) (fun K hK => ?_)
              refine goes_ Try.func14 (by kernel_rfl) rfl #[.agg #[.int .i64 a0_0, .int .i64 a0_1, .string a0_2]] (by rfl) rfl rfl (by (try simp only [List.map_toArray, List.map_cons, List.map_nil]); first | done | rfl | (simp only [List.length_drop, List.length_take]; rfl)) ?_
              with_reducible refine (opsKey.calls a0_0 a0_1 a0_2 true _ A21.out).mono ?_
              rintro e w28 ⟨rfl, hb⟩
              refine ⟨_, rfl, ?_⟩
              have n0_ := Aside0.mk (blk_below (g := gb653) (o := .cells #[.int .i64 a0_0, .int .i64 a0_1, .string a0_2] 23 (0, 0)) (by exact BK653.out) hb)
              have n1_ := Aside0.mk (blk_below (g := gb654) (o := .cells #[.int .i64 a1_0, .int .i64 a1_1, .string a1_2] 23 (0, 0)) (by exact BK654.out) hb)
              have n2_ := Aside0.mk (below_step (by repeat (first | (with_reducible first | exact HB.out | apply below_alloc | apply pw_below_drewN | apply below_drew1 | refine below_set ?_ GE653.out | refine below_set ?_ GE654.out) | exact HB.out)) hb)
              clear BK653
              clear BK654
              clear HB
              have BK653 := n0_
              have BK654 := n1_
              have HB := n2_
              clear n0_ n1_ n2_
              (try clear hb)
              (try clear hb2)
              (try clear hk)
              (try clear hi)
              refine hK.out _ _ ⟨(blk_cell BK653.out 0).trans rfl, (blk_cell BK653.out 1).trans rfl, (blk_cell BK653.out 2).trans rfl, (blk_cell BK654.out 0).trans rfl, (blk_cell BK654.out 1).trans rfl, (blk_cell BK654.out 2).trans rfl⟩ (fun hHeld => ?_)
              clear hK K
              refine norm_ (a' := ?_) ?_ ?_
              rotate_left
              · show Act.put _ (some 19) _ = _
                simp only [Act.put, List.setIfInBounds_toArray, List.set_cons_zero, List.set_cons_succ, i64_w, i32_w]
                rfl
              refine pure_ (i := 2) (N := some 20) (v := ?_) (a' := ?_) #[true, true, true, false, false, false, false, false, false, false, false, false, false, false, false, false, false] rfl rfl (any_of HT_.out (by kernel_rfl)) (fun _ _ _ h => h) (Or.inl ⟨by rfl, ?_⟩) ?_ ?_
              rotate_left
              · intro w'
                go_simp
                with_reducible rfl
              rotate_left
              · simp only [Act.put, List.setIfInBounds_toArray, List.set_cons_zero, List.set_cons_succ, i64_w, i32_w]
                rfl
              refine take_ (i := 3) (N := some 21) (v := ?_) (a' := ?_) #[true, true, true, true, false, false, false, false, false, false, false, false, false, false, false, false, false] rfl rfl (take_ofW HT_.out HW_.out (by kernel_rfl)) (fun _ _ _ h => h) (Or.inl ⟨by rfl, ?_⟩) hHeld ?_ ?_
              rotate_left
              · rintro w' ⟨s0, s1, s2, s3, s4, s5⟩
                go_simp
                with_reducible rfl
              rotate_left
              · simp only [Act.put, List.setIfInBounds_toArray, List.set_cons_zero, List.set_cons_succ, i64_w, i32_w]
                rfl
              refine one_ (i := 4) (N := some 22) #[true, true, true, true, true, false, false, false, false, false, false, false, false, false, false, false, false] rfl rfl (one_of HT_.out (by kernel_rfl)) (by decide) (fun K hK => ?_)
              refine goes_ Try.func14 (by kernel_rfl) rfl #[.agg #[.int .i64 a1_0, .int .i64 a1_1, .string a1_2]] (by rfl) rfl rfl (by (try simp only [List.map_toArray, List.map_cons, List.map_nil]); first | done | rfl | (simp only [List.length_drop, List.length_take]; rfl)) ?_
              with_reducible refine (opsKey.calls a1_0 a1_1 a1_2 true _ A23.out).mono ?_
              rintro e w29 ⟨rfl, hb⟩
              refine ⟨_, rfl, ?_⟩
              have n0_ := Aside0.mk (blk_below (g := gb653) (o := .cells #[.int .i64 a0_0, .int .i64 a0_1, .string a0_2] 23 (0, 0)) (by exact BK653.out) hb)
              have n1_ := Aside0.mk (blk_below (g := gb654) (o := .cells #[.int .i64 a1_0, .int .i64 a1_1, .string a1_2] 23 (0, 0)) (by exact BK654.out) hb)
              have n2_ := Aside0.mk (below_step (by repeat (first | (with_reducible first | exact HB.out | apply below_alloc | apply pw_below_drewN | apply below_drew1 | refine below_set ?_ GE653.out | refine below_set ?_ GE654.out) | exact HB.out)) hb)
              clear BK653
              clear BK654
              clear HB
              have BK653 := n0_
              have BK654 := n1_
              have HB := n2_
              clear n0_ n1_ n2_
              (try clear hb)
              (try clear hb2)
              (try clear hk)
              (try clear hi)
              refine hK.out _ _ ⟨(blk_cell BK653.out 0).trans rfl, (blk_cell BK653.out 1).trans rfl, (blk_cell BK653.out 2).trans rfl, (blk_cell BK654.out 0).trans rfl, (blk_cell BK654.out 1).trans rfl, (blk_cell BK654.out 2).trans rfl⟩ (fun hHeld => ?_)
              clear hK K
              refine norm_ (a' := ?_) ?_ ?_
              rotate_left
              · show Act.put _ (some 22) _ = _
                simp only [Act.put, List.setIfInBounds_toArray, List.set_cons_zero, List.set_cons_succ, i64_w, i32_w]
                rfl
              refine pure_ (i := 5) (N := some 23) (v := ?_) (a' := ?_) #[true, true, true, true, true, true, false, false, false, false, false, false, false, false, false, false, false] rfl rfl (any_of HT_.out (by kernel_rfl)) (fun _ _ _ h => h) (Or.inl ⟨by rfl, ?_⟩) ?_ ?_
              rotate_left
              · intro w'
                go_simp
                with_reducible rfl
              rotate_left
              · simp only [Act.put, List.setIfInBounds_toArray, List.set_cons_zero, List.set_cons_succ, i64_w, i32_w]
                rfl
              refine pure_ (i := 6) (N := some 24) (v := ?_) (a' := ?_) #[true, true, true, true, true, true, true, false, false, false, false, false, false, false, false, false, false] rfl rfl (any_of HT_.out (by kernel_rfl)) (fun _ _ _ h => h) (Or.inl ⟨by rfl, ?_⟩) ?_ ?_
              rotate_left
              · intro w'
                go_simp
                with_reducible rfl
              rotate_left
              · simp only [Act.put, List.setIfInBounds_toArray, List.set_cons_zero, List.set_cons_succ, i64_w, i32_w]
                rfl
              refine take_ (i := 7) (N := some 25) (v := ?_) (a' := ?_) #[true, true, true, true, true, true, true, true, false, false, false, false, false, false, false, false, false] rfl rfl (take_ofW HT_.out HW_.out (by kernel_rfl)) (fun _ _ _ h => h) (Or.inl ⟨by rfl, ?_⟩) hHeld ?_ ?_
              rotate_left
              · rintro w' ⟨s0, s1, s2, s3, s4, s5⟩
                go_simp
                with_reducible rfl
              rotate_left
              · simp only [Act.put, List.setIfInBounds_toArray, List.set_cons_zero, List.set_cons_succ, i64_w, i32_w]
                rfl
              refine take_ (i := 9) (N := some 27) (v := ?_) (a' := ?_) #[true, true, true, true, true, true, true, true, false, true, false, false, false, false, false, false, false] rfl rfl (take_ofW HT_.out HW_.out (by kernel_rfl)) (fun _ _ _ h => h) (Or.inl ⟨by rfl, ?_⟩) hHeld ?_ ?_
              rotate_left
              · rintro w' ⟨s0, s1, s2, s3, s4, s5⟩
                go_simp
                with_reducible rfl
              rotate_left
              · simp only [Act.put, List.setIfInBounds_toArray, List.set_cons_zero, List.set_cons_succ, i64_w, i32_w]
                rfl
              refine take_ (i := 12) (N := some 30) (v := ?_) (a' := ?_) #[true, true, true, true, true, true, true, true, false, true, false, false, true, false, false, false, false] rfl rfl (take_ofW HT_.out HW_.out (by kernel_rfl)) (fun _ _ _ h => h) (Or.inl ⟨by rfl, ?_⟩) hHeld ?_ ?_
              rotate_left
              · rintro w' ⟨s0, s1, s2, s3, s4, s5⟩
                go_simp
                with_reducible rfl
              rotate_left
              · simp only [Act.put, List.setIfInBounds_toArray, List.set_cons_zero, List.set_cons_succ, i64_w, i32_w]
                rfl
              refine take_ (i := 13) (N := some 31) (v := ?_) (a' := ?_) #[true, true, true, true, true, true, true, true, false, true, false, false, true, true, false, false, false] rfl rfl (take_ofW HT_.out HW_.out (by kernel_rfl)) (fun _ _ _ h => h) (Or.inl ⟨by rfl, ?_⟩) hHeld ?_ ?_
              rotate_left
              · rintro w' ⟨s0, s1, s2, s3, s4, s5⟩
                go_simp
                with_reducible rfl
              rotate_left
              · simp only [Act.put, List.setIfInBounds_toArray, List.set_cons_zero, List.set_cons_succ, i64_w, i32_w]
                rfl
              refine pure_ (i := 14) (N := some 32) (v := ?_) (a' := ?_) #[true, true, true, true, true, true, true, true, false, true, false, false, true, true, true, false, false] rfl rfl (any_of HT_.out (by kernel_rfl)) (fun _ _ _ h => h) (Or.inl ⟨by rfl, ?_⟩) ?_ ?_
              rotate_left
              · intro w'
                go_simp
                with_reducible rfl
              rotate_left
              · simp only [Act.put, List.setIfInBounds_toArray, List.set_cons_zero, List.set_cons_succ, i64_w, i32_w]
                rfl
              refine one_ (i := 8) (N := some 26) #[true, true, true, true, true, true, true, true, true, true, false, false, true, true, true, false, false] rfl rfl (one_of HT_.out (by kernel_rfl)) (by decide) (fun K hK => ?_)
              refine goes_ Try.func15 (by kernel_rfl) rfl #[.agg #[.int .i64 a0_0, .int .i64 a0_1, .string a0_2]] (by rfl) rfl rfl (by (try simp only [List.map_toArray, List.map_cons, List.map_nil]); first | done | rfl | (simp only [List.length_drop, List.length_take]; rfl)) ?_
              with_reducible refine (ops_Show.calls kj2 a0_0 a0_1 a0_2 t660 _ A25.out).mono ?_
              rintro e w30 ⟨rfl, hb⟩
              refine ⟨_, rfl, ?_⟩
              have n0_ := Aside0.mk (blk_below (g := gb653) (o := .cells #[.int .i64 a0_0, .int .i64 a0_1, .string a0_2] 23 (0, 0)) (by exact BK653.out) hb)
              have n1_ := Aside0.mk (blk_below (g := gb654) (o := .cells #[.int .i64 a1_0, .int .i64 a1_1, .string a1_2] 23 (0, 0)) (by exact BK654.out) hb)
              have n2_ := Aside0.mk (below_step (by repeat (first | (with_reducible first | exact HB.out | apply below_alloc | apply pw_below_drewN | apply below_drew1 | refine below_set ?_ GE653.out | refine below_set ?_ GE654.out) | exact HB.out)) hb)
              clear BK653
              clear BK654
              clear HB
              have BK653 := n0_
              have BK654 := n1_
              have HB := n2_
              clear n0_ n1_ n2_
              (try clear hb)
              (try clear hb2)
              (try clear hk)
              (try clear hi)
              refine hK.out _ _ ⟨(blk_cell BK653.out 0).trans rfl, (blk_cell BK653.out 1).trans rfl, (blk_cell BK653.out 2).trans rfl, (blk_cell BK654.out 0).trans rfl, (blk_cell BK654.out 1).trans rfl, (blk_cell BK654.out 2).trans rfl⟩ (fun hHeld => ?_)
              clear hK K
              refine norm_ (a' := ?_) ?_ ?_
              rotate_left
              · show Act.put _ (some 26) _ = _
                simp only [Act.put, List.setIfInBounds_toArray, List.set_cons_zero, List.set_cons_succ, i64_w, i32_w]
                rfl
              refine one_ (i := 10) (N := some 28) #[true, true, true, true, true, true, true, true, true, true, true, false, true, true, true, false, false] rfl rfl (one_of HT_.out (by kernel_rfl)) (by decide) (fun K hK => ?_)
              refine goes_ Try.func15 (by kernel_rfl) rfl #[.agg #[.int .i64 a1_0, .int .i64 a1_1, .string a1_2]] (by rfl) rfl rfl (by (try simp only [List.map_toArray, List.map_cons, List.map_nil]); first | done | rfl | (simp only [List.length_drop, List.length_take]; rfl)) ?_
              with_reducible refine (ops_Show.calls kj2 a1_0 a1_1 a1_2 t661 _ A26.out).mono ?_
              rintro e w31 ⟨rfl, hb⟩
              refine ⟨_, rfl, ?_⟩
              have n0_ := Aside0.mk (blk_below (g := gb653) (o := .cells #[.int .i64 a0_0, .int .i64 a0_1, .string a0_2] 23 (0, 0)) (by exact BK653.out) hb)
              have n1_ := Aside0.mk (blk_below (g := gb654) (o := .cells #[.int .i64 a1_0, .int .i64 a1_1, .string a1_2] 23 (0, 0)) (by exact BK654.out) hb)
              have n2_ := Aside0.mk (below_step (by repeat (first | (with_reducible first | exact HB.out | apply below_alloc | apply pw_below_drewN | apply below_drew1 | refine below_set ?_ GE653.out | refine below_set ?_ GE654.out) | exact HB.out)) hb)
              clear BK653
              clear BK654
              clear HB
              have BK653 := n0_
              have BK654 := n1_
              have HB := n2_
              clear n0_ n1_ n2_
              (try clear hb)
              (try clear hb2)
              (try clear hk)
              (try clear hi)
              refine hK.out _ _ ⟨(blk_cell BK653.out 0).trans rfl, (blk_cell BK653.out 1).trans rfl, (blk_cell BK653.out 2).trans rfl, (blk_cell BK654.out 0).trans rfl, (blk_cell BK654.out 1).trans rfl, (blk_cell BK654.out 2).trans rfl⟩ (fun hHeld => ?_)
              clear hK K
              refine norm_ (a' := ?_) ?_ ?_
              rotate_left
              · show Act.put _ (some 28) _ = _
                simp only [Act.put, List.setIfInBounds_toArray, List.set_cons_zero, List.set_cons_succ, i64_w, i32_w]
                rfl
              refine pure_ (i := 11) (N := some 29) (v := ?_) (a' := ?_) #[true, true, true, true, true, true, true, true, true, true, true, true, true, true, true, false, false] rfl rfl (any_of HT_.out (by kernel_rfl)) (fun _ _ _ h => h) (Or.inl ⟨by rfl, ?_⟩) ?_ ?_
              rotate_left
              · intro w'
                go_simp
                with_reducible rfl
              rotate_left
              · simp only [Act.put, List.setIfInBounds_toArray, List.set_cons_zero, List.set_cons_succ, i64_w, i32_w]
                rfl
              refine pure_ (i := 15) (N := some 33) (v := ?_) (a' := ?_) #[true, true, true, true, true, true, true, true, true, true, true, true, true, true, true, true, false] rfl rfl (any_of HT_.out (by kernel_rfl)) (fun _ _ _ h => h) (Or.inl ⟨by rfl, ?_⟩) ?_ ?_
              rotate_left
              · intro w'
                go_simp
                with_reducible rfl
              rotate_left
              · simp only [Act.put, List.setIfInBounds_toArray, List.set_cons_zero, List.set_cons_succ, i64_w, i32_w]
                rfl
              refine pure_ (i := 16) (N := some 34) (v := ?_) (a' := ?_) #[true, true, true, true, true, true, true, true, true, true, true, true, true, true, true, true, true] rfl rfl (any_of HT_.out (by kernel_rfl)) (fun _ _ _ h => h) (Or.inl ⟨by rfl, ?_⟩) ?_ ?_
              rotate_left
              · intro w'
                go_simp
                with_reducible rfl
              rotate_left
              · simp only [Act.put, List.setIfInBounds_toArray, List.set_cons_zero, List.set_cons_succ, i64_w, i32_w]
                rfl
              refine done_ (done_of HT_.out (by kernel_rfl)) ?_
              try go_wp2
              go_meet
              case rel => exact ⟨_, (((t660.toList == t661.toList) != (a0_0 == a1_0 && (a0_1 == a1_1 && (a0_2.toList == a1_2.toList))))), (by first | rfl | (simp; done) | (simp [*]; done)), H', ⟨by have := HJ2.out; first | omega | exact Nat.le_refl _⟩, ⟨by exact BK653.out⟩, ⟨by exact BK654.out⟩, ⟨by repeat (first | (with_reducible first | exact HB.out | apply below_alloc | apply pw_below_drewN | apply below_drew1 | refine below_set ?_ GE653.out | refine below_set ?_ GE654.out) | exact HB.out)⟩⟩
            · replace c24 := Bool.eq_false_iff.mpr c24
              subst c24
              have H1 : (chrysalislaw17_OpsShows.j1 kj2 false a0_0 a0_1 a0_2 a1_0 a1_1 a1_2) = some r := by rw [if_neg (show ¬ (false = true) by decide)] at H; exact H
              clear H
              have H := H1
              clear H1
              have H' := Aside0.mk H
              clear H
              try go_wp2
              have n0_ := Aside0.mk (blk_drew BK653.out)
              have n1_ := Aside0.mk (blk_drew BK654.out)
              have n2_ := Aside0.mk (below_drew1 HB.out)
              clear BK653
              clear BK654
              clear HB
              have BK653 := n0_
              have BK654 := n1_
              have HB := n2_
              clear n0_ n1_ n2_
              refine start_ (n := 17) (S := fun w' => w'.cell? ⟨gb653, 0, none⟩ = some (.int .i64 a0_0) ∧ w'.cell? ⟨gb653, 1, none⟩ = some (.int .i64 a0_1) ∧ w'.cell? ⟨gb653, 2, none⟩ = some (.string a0_2) ∧ w'.cell? ⟨gb654, 0, none⟩ = some (.int .i64 a1_0) ∧ w'.cell? ⟨gb654, 1, none⟩ = some (.int .i64 a1_1) ∧ w'.cell? ⟨gb654, 2, none⟩ = some (.string a1_2)) (ds := []) #[false, false, false, false, false, false, false, false, false, false, false, false, false, false, false, false, false] (by kernel_rfl) rfl rfl ⟨(blk_cell BK653.out 0).trans rfl, (blk_cell BK653.out 1).trans rfl, (blk_cell BK653.out 2).trans rfl, (blk_cell BK654.out 0).trans rfl, (blk_cell BK654.out 1).trans rfl, (blk_cell BK654.out 2).trans rfl⟩ (fun hHeld => ?_); refine with_tabW chrysalislaw17_OpsShows.tab3 chrysalislaw17_OpsShows.bits3 (fun HT_ HW_ => ?_)
              generalize wc.drew = w32 at BK653 BK654 HB hHeld ⊢
              refine take_ (i := 0) (N := some 18) (v := ?_) (a' := ?_) #[true, false, false, false, false, false, false, false, false, false, false, false, false, false, false, false, false] rfl rfl (take_ofW HT_.out HW_.out (by kernel_rfl)) (fun _ _ _ h => h) (Or.inl ⟨by rfl, ?_⟩) hHeld ?_ ?_
              rotate_left
              · rintro w' ⟨s0, s1, s2, s3, s4, s5⟩
                go_simp
                with_reducible rfl
              rotate_left
              · simp only [Act.put, List.setIfInBounds_toArray, List.set_cons_zero, List.set_cons_succ, i64_w, i32_w]
                rfl
              refine one_ (i := 1) (N := some 19) #[true, true, false, false, false, false, false, false, false, false, false, false, false, false, false, false, false] rfl rfl (one_of HT_.out (by kernel_rfl)) (by decide) (fun K hK => ?_)
              refine goes_ Try.func14 (by kernel_rfl) rfl #[.agg #[.int .i64 a0_0, .int .i64 a0_1, .string a0_2]] (by rfl) rfl rfl (by (try simp only [List.map_toArray, List.map_cons, List.map_nil]); first | done | rfl | (simp only [List.length_drop, List.length_take]; rfl)) ?_
              with_reducible refine (opsKey.calls a0_0 a0_1 a0_2 true _ A21.out).mono ?_
              rintro e w33 ⟨rfl, hb⟩
              refine ⟨_, rfl, ?_⟩
              have n0_ := Aside0.mk (blk_below (g := gb653) (o := .cells #[.int .i64 a0_0, .int .i64 a0_1, .string a0_2] 23 (0, 0)) (by exact BK653.out) hb)
              have n1_ := Aside0.mk (blk_below (g := gb654) (o := .cells #[.int .i64 a1_0, .int .i64 a1_1, .string a1_2] 23 (0, 0)) (by exact BK654.out) hb)
              have n2_ := Aside0.mk (below_step (by repeat (first | (with_reducible first | exact HB.out | apply below_alloc | apply pw_below_drewN | apply below_drew1 | refine below_set ?_ GE653.out | refine below_set ?_ GE654.out) | exact HB.out)) hb)
              clear BK653
              clear BK654
              clear HB
              have BK653 := n0_
              have BK654 := n1_
              have HB := n2_
              clear n0_ n1_ n2_
              (try clear hb)
              (try clear hb2)
              (try clear hk)
              (try clear hi)
              refine hK.out _ _ ⟨(blk_cell BK653.out 0).trans rfl, (blk_cell BK653.out 1).trans rfl, (blk_cell BK653.out 2).trans rfl, (blk_cell BK654.out 0).trans rfl, (blk_cell BK654.out 1).trans rfl, (blk_cell BK654.out 2).trans rfl⟩ (fun hHeld => ?_)
              clear hK K
              refine norm_ (a' := ?_) ?_ ?_
              rotate_left
              · show Act.put _ (some 19) _ = _
                simp only [Act.put, List.setIfInBounds_toArray, List.set_cons_zero, List.set_cons_succ, i64_w, i32_w]
                rfl
              refine pure_ (i := 2) (N := some 20) (v := ?_) (a' := ?_) #[true, true, true, false, false, false, false, false, false, false, false, false, false, false, false, false, false] rfl rfl (any_of HT_.out (by kernel_rfl)) (fun _ _ _ h => h) (Or.inl ⟨by rfl, ?_⟩) ?_ ?_
              rotate_left
              · intro w'
                go_simp
                with_reducible rfl
              rotate_left
              · simp only [Act.put, List.setIfInBounds_toArray, List.set_cons_zero, List.set_cons_succ, i64_w, i32_w]
                rfl
              refine take_ (i := 3) (N := some 21) (v := ?_) (a' := ?_) #[true, true, true, true, false, false, false, false, false, false, false, false, false, false, false, false, false] rfl rfl (take_ofW HT_.out HW_.out (by kernel_rfl)) (fun _ _ _ h => h) (Or.inl ⟨by rfl, ?_⟩) hHeld ?_ ?_
              rotate_left
              · rintro w' ⟨s0, s1, s2, s3, s4, s5⟩
                go_simp
                with_reducible rfl
              rotate_left
              · simp only [Act.put, List.setIfInBounds_toArray, List.set_cons_zero, List.set_cons_succ, i64_w, i32_w]
                rfl
              refine one_ (i := 4) (N := some 22) #[true, true, true, true, true, false, false, false, false, false, false, false, false, false, false, false, false] rfl rfl (one_of HT_.out (by kernel_rfl)) (by decide) (fun K hK => ?_)
              refine goes_ Try.func14 (by kernel_rfl) rfl #[.agg #[.int .i64 a1_0, .int .i64 a1_1, .string a1_2]] (by rfl) rfl rfl (by (try simp only [List.map_toArray, List.map_cons, List.map_nil]); first | done | rfl | (simp only [List.length_drop, List.length_take]; rfl)) ?_
              with_reducible refine (opsKey.calls a1_0 a1_1 a1_2 false _ A23.out).mono ?_
              rintro e w34 ⟨rfl, hb⟩
              refine ⟨_, rfl, ?_⟩
              have n0_ := Aside0.mk (blk_below (g := gb653) (o := .cells #[.int .i64 a0_0, .int .i64 a0_1, .string a0_2] 23 (0, 0)) (by exact BK653.out) hb)
              have n1_ := Aside0.mk (blk_below (g := gb654) (o := .cells #[.int .i64 a1_0, .int .i64 a1_1, .string a1_2] 23 (0, 0)) (by exact BK654.out) hb)
              have n2_ := Aside0.mk (below_step (by repeat (first | (with_reducible first | exact HB.out | apply below_alloc | apply pw_below_drewN | apply below_drew1 | refine below_set ?_ GE653.out | refine below_set ?_ GE654.out) | exact HB.out)) hb)
              clear BK653
              clear BK654
              clear HB
              have BK653 := n0_
              have BK654 := n1_
              have HB := n2_
              clear n0_ n1_ n2_
              (try clear hb)
              (try clear hb2)
              (try clear hk)
              (try clear hi)
              refine hK.out _ _ ⟨(blk_cell BK653.out 0).trans rfl, (blk_cell BK653.out 1).trans rfl, (blk_cell BK653.out 2).trans rfl, (blk_cell BK654.out 0).trans rfl, (blk_cell BK654.out 1).trans rfl, (blk_cell BK654.out 2).trans rfl⟩ (fun hHeld => ?_)
              clear hK K
              refine norm_ (a' := ?_) ?_ ?_
              rotate_left
              · show Act.put _ (some 22) _ = _
                simp only [Act.put, List.setIfInBounds_toArray, List.set_cons_zero, List.set_cons_succ, i64_w, i32_w]
                rfl
              refine pure_ (i := 5) (N := some 23) (v := ?_) (a' := ?_) #[true, true, true, true, true, true, false, false, false, false, false, false, false, false, false, false, false] rfl rfl (any_of HT_.out (by kernel_rfl)) (fun _ _ _ h => h) (Or.inl ⟨by rfl, ?_⟩) ?_ ?_
              rotate_left
              · intro w'
                go_simp
                with_reducible rfl
              rotate_left
              · simp only [Act.put, List.setIfInBounds_toArray, List.set_cons_zero, List.set_cons_succ, i64_w, i32_w]
                rfl
              refine pure_ (i := 6) (N := some 24) (v := ?_) (a' := ?_) #[true, true, true, true, true, true, true, false, false, false, false, false, false, false, false, false, false] rfl rfl (any_of HT_.out (by kernel_rfl)) (fun _ _ _ h => h) (Or.inl ⟨by rfl, ?_⟩) ?_ ?_
              rotate_left
              · intro w'
                go_simp
                with_reducible rfl
              rotate_left
              · simp only [Act.put, List.setIfInBounds_toArray, List.set_cons_zero, List.set_cons_succ, i64_w, i32_w]
                rfl
              refine pure_ (i := 7) (N := some 25) (v := undef) (a' := ?_) #[true, true, true, true, true, true, true, true, false, false, false, false, false, false, false, false, false] rfl rfl (any_of HT_.out (by kernel_rfl)) (fun _ _ _ h => h) (Or.inr ⟨by rfl, rfl⟩) ?_ ?_
              rotate_left
              · simp only [Act.put, List.setIfInBounds_toArray, List.set_cons_zero, List.set_cons_succ, i64_w, i32_w]
                rfl
              refine pure_ (i := 8) (N := some 26) (v := undef) (a' := ?_) #[true, true, true, true, true, true, true, true, true, false, false, false, false, false, false, false, false] rfl rfl (any_of HT_.out (by kernel_rfl)) (fun _ _ _ h => h) (Or.inr ⟨by rfl, rfl⟩) ?_ ?_
              rotate_left
              · simp only [Act.put, List.setIfInBounds_toArray, List.set_cons_zero, List.set_cons_succ, i64_w, i32_w]
                rfl
              refine pure_ (i := 9) (N := some 27) (v := undef) (a' := ?_) #[true, true, true, true, true, true, true, true, true, true, false, false, false, false, false, false, false] rfl rfl (any_of HT_.out (by kernel_rfl)) (fun _ _ _ h => h) (Or.inr ⟨by rfl, rfl⟩) ?_ ?_
              rotate_left
              · simp only [Act.put, List.setIfInBounds_toArray, List.set_cons_zero, List.set_cons_succ, i64_w, i32_w]
                rfl
              refine pure_ (i := 10) (N := some 28) (v := undef) (a' := ?_) #[true, true, true, true, true, true, true, true, true, true, true, false, false, false, false, false, false] rfl rfl (any_of HT_.out (by kernel_rfl)) (fun _ _ _ h => h) (Or.inr ⟨by rfl, rfl⟩) ?_ ?_
              rotate_left
              · simp only [Act.put, List.setIfInBounds_toArray, List.set_cons_zero, List.set_cons_succ, i64_w, i32_w]
                rfl
              refine pure_ (i := 11) (N := some 29) (v := undef) (a' := ?_) #[true, true, true, true, true, true, true, true, true, true, true, true, false, false, false, false, false] rfl rfl (any_of HT_.out (by kernel_rfl)) (fun _ _ _ h => h) (Or.inr ⟨by rfl, rfl⟩) ?_ ?_
              rotate_left
              · simp only [Act.put, List.setIfInBounds_toArray, List.set_cons_zero, List.set_cons_succ, i64_w, i32_w]
                rfl
              refine pure_ (i := 12) (N := some 30) (v := undef) (a' := ?_) #[true, true, true, true, true, true, true, true, true, true, true, true, true, false, false, false, false] rfl rfl (any_of HT_.out (by kernel_rfl)) (fun _ _ _ h => h) (Or.inr ⟨by rfl, rfl⟩) ?_ ?_
              rotate_left
              · simp only [Act.put, List.setIfInBounds_toArray, List.set_cons_zero, List.set_cons_succ, i64_w, i32_w]
                rfl
              refine pure_ (i := 13) (N := some 31) (v := undef) (a' := ?_) #[true, true, true, true, true, true, true, true, true, true, true, true, true, true, false, false, false] rfl rfl (any_of HT_.out (by kernel_rfl)) (fun _ _ _ h => h) (Or.inr ⟨by rfl, rfl⟩) ?_ ?_
              rotate_left
              · simp only [Act.put, List.setIfInBounds_toArray, List.set_cons_zero, List.set_cons_succ, i64_w, i32_w]
                rfl
              refine pure_ (i := 14) (N := some 32) (v := undef) (a' := ?_) #[true, true, true, true, true, true, true, true, true, true, true, true, true, true, true, false, false] rfl rfl (any_of HT_.out (by kernel_rfl)) (fun _ _ _ h => h) (Or.inr ⟨by rfl, rfl⟩) ?_ ?_
              rotate_left
              · simp only [Act.put, List.setIfInBounds_toArray, List.set_cons_zero, List.set_cons_succ, i64_w, i32_w]
                rfl
              refine pure_ (i := 15) (N := some 33) (v := undef) (a' := ?_) #[true, true, true, true, true, true, true, true, true, true, true, true, true, true, true, true, false] rfl rfl (any_of HT_.out (by kernel_rfl)) (fun _ _ _ h => h) (Or.inr ⟨by rfl, rfl⟩) ?_ ?_
              rotate_left
              · simp only [Act.put, List.setIfInBounds_toArray, List.set_cons_zero, List.set_cons_succ, i64_w, i32_w]
                rfl
              refine pure_ (i := 16) (N := some 34) (v := ?_) (a' := ?_) #[true, true, true, true, true, true, true, true, true, true, true, true, true, true, true, true, true] rfl rfl (any_of HT_.out (by kernel_rfl)) (fun _ _ _ h => h) (Or.inl ⟨by rfl, ?_⟩) ?_ ?_
              rotate_left
              · intro w'
                go_simp
                with_reducible rfl
              rotate_left
              · simp only [Act.put, List.setIfInBounds_toArray, List.set_cons_zero, List.set_cons_succ, i64_w, i32_w]
                rfl
              refine done_ (done_of HT_.out (by kernel_rfl)) ?_
              try go_wp2
              go_meet
              case rel => exact ⟨_, (false), (by first | rfl | (simp; done) | (simp [*]; done)), H', ⟨by have := HJ2.out; first | omega | exact Nat.le_refl _⟩, ⟨by exact BK653.out⟩, ⟨by exact BK654.out⟩, ⟨by repeat (first | (with_reducible first | exact HB.out | apply below_alloc | apply pw_below_drewN | apply below_drew1 | refine below_set ?_ GE653.out | refine below_set ?_ GE654.out) | exact HB.out)⟩⟩
          · replace c22 := Bool.eq_false_iff.mpr c22
            subst c22
            have H1 : (chrysalislaw17_OpsShows.j1 kj2 false a0_0 a0_1 a0_2 a1_0 a1_1 a1_2) = some r := by rw [if_neg (show ¬ (false = true) by decide)] at H; exact H
            clear H
            have H := H1
            clear H1
            have H' := Aside0.mk H
            clear H
            try go_wp2
            have n0_ := Aside0.mk (blk_drew BK653.out)
            have n1_ := Aside0.mk (blk_drew BK654.out)
            have n2_ := Aside0.mk (below_drew1 HB.out)
            clear BK653
            clear BK654
            clear HB
            have BK653 := n0_
            have BK654 := n1_
            have HB := n2_
            clear n0_ n1_ n2_
            refine start_ (n := 17) (S := fun w' => w'.cell? ⟨gb653, 0, none⟩ = some (.int .i64 a0_0) ∧ w'.cell? ⟨gb653, 1, none⟩ = some (.int .i64 a0_1) ∧ w'.cell? ⟨gb653, 2, none⟩ = some (.string a0_2)) (ds := []) #[false, false, false, false, false, false, false, false, false, false, false, false, false, false, false, false, false] (by kernel_rfl) rfl rfl ⟨(blk_cell BK653.out 0).trans rfl, (blk_cell BK653.out 1).trans rfl, (blk_cell BK653.out 2).trans rfl⟩ (fun hHeld => ?_); refine with_tabW chrysalislaw17_OpsShows.tab3 chrysalislaw17_OpsShows.bits3 (fun HT_ HW_ => ?_)
            generalize wc.drew = w35 at BK653 BK654 HB hHeld ⊢
            refine take_ (i := 0) (N := some 18) (v := ?_) (a' := ?_) #[true, false, false, false, false, false, false, false, false, false, false, false, false, false, false, false, false] rfl rfl (take_ofW HT_.out HW_.out (by kernel_rfl)) (fun _ _ _ h => h) (Or.inl ⟨by rfl, ?_⟩) hHeld ?_ ?_
            rotate_left
            · rintro w' ⟨s0, s1, s2⟩
              go_simp
              with_reducible rfl
            rotate_left
            · simp only [Act.put, List.setIfInBounds_toArray, List.set_cons_zero, List.set_cons_succ, i64_w, i32_w]
              rfl
            refine one_ (i := 1) (N := some 19) #[true, true, false, false, false, false, false, false, false, false, false, false, false, false, false, false, false] rfl rfl (one_of HT_.out (by kernel_rfl)) (by decide) (fun K hK => ?_)
            refine goes_ Try.func14 (by kernel_rfl) rfl #[.agg #[.int .i64 a0_0, .int .i64 a0_1, .string a0_2]] (by rfl) rfl rfl (by (try simp only [List.map_toArray, List.map_cons, List.map_nil]); first | done | rfl | (simp only [List.length_drop, List.length_take]; rfl)) ?_
            with_reducible refine (opsKey.calls a0_0 a0_1 a0_2 false _ A21.out).mono ?_
            rintro e w36 ⟨rfl, hb⟩
            refine ⟨_, rfl, ?_⟩
            have n0_ := Aside0.mk (blk_below (g := gb653) (o := .cells #[.int .i64 a0_0, .int .i64 a0_1, .string a0_2] 23 (0, 0)) (by exact BK653.out) hb)
            have n1_ := Aside0.mk (blk_below (g := gb654) (o := .cells #[.int .i64 a1_0, .int .i64 a1_1, .string a1_2] 23 (0, 0)) (by exact BK654.out) hb)
            have n2_ := Aside0.mk (below_step (by repeat (first | (with_reducible first | exact HB.out | apply below_alloc | apply pw_below_drewN | apply below_drew1 | refine below_set ?_ GE653.out | refine below_set ?_ GE654.out) | exact HB.out)) hb)
            clear BK653
            clear BK654
            clear HB
            have BK653 := n0_
            have BK654 := n1_
            have HB := n2_
            clear n0_ n1_ n2_
            (try clear hb)
            (try clear hb2)
            (try clear hk)
            (try clear hi)
            refine hK.out _ _ ⟨(blk_cell BK653.out 0).trans rfl, (blk_cell BK653.out 1).trans rfl, (blk_cell BK653.out 2).trans rfl⟩ (fun hHeld => ?_)
            clear hK K
            refine norm_ (a' := ?_) ?_ ?_
            rotate_left
            · show Act.put _ (some 19) _ = _
              simp only [Act.put, List.setIfInBounds_toArray, List.set_cons_zero, List.set_cons_succ, i64_w, i32_w]
              rfl
            refine pure_ (i := 2) (N := some 20) (v := ?_) (a' := ?_) #[true, true, true, false, false, false, false, false, false, false, false, false, false, false, false, false, false] rfl rfl (any_of HT_.out (by kernel_rfl)) (fun _ _ _ h => h) (Or.inl ⟨by rfl, ?_⟩) ?_ ?_
            rotate_left
            · intro w'
              go_simp
              with_reducible rfl
            rotate_left
            · simp only [Act.put, List.setIfInBounds_toArray, List.set_cons_zero, List.set_cons_succ, i64_w, i32_w]
              rfl
            refine pure_ (i := 3) (N := some 21) (v := undef) (a' := ?_) #[true, true, true, true, false, false, false, false, false, false, false, false, false, false, false, false, false] rfl rfl (any_of HT_.out (by kernel_rfl)) (fun _ _ _ h => h) (Or.inr ⟨by rfl, rfl⟩) ?_ ?_
            rotate_left
            · simp only [Act.put, List.setIfInBounds_toArray, List.set_cons_zero, List.set_cons_succ, i64_w, i32_w]
              rfl
            refine pure_ (i := 4) (N := some 22) (v := undef) (a' := ?_) #[true, true, true, true, true, false, false, false, false, false, false, false, false, false, false, false, false] rfl rfl (any_of HT_.out (by kernel_rfl)) (fun _ _ _ h => h) (Or.inr ⟨by rfl, rfl⟩) ?_ ?_
            rotate_left
            · simp only [Act.put, List.setIfInBounds_toArray, List.set_cons_zero, List.set_cons_succ, i64_w, i32_w]
              rfl
            refine pure_ (i := 5) (N := some 23) (v := ?_) (a' := ?_) #[true, true, true, true, true, true, false, false, false, false, false, false, false, false, false, false, false] rfl rfl (any_of HT_.out (by kernel_rfl)) (fun _ _ _ h => h) (Or.inl ⟨by rfl, ?_⟩) ?_ ?_
            rotate_left
            · intro w'
              go_simp
              with_reducible rfl
            rotate_left
            · simp only [Act.put, List.setIfInBounds_toArray, List.set_cons_zero, List.set_cons_succ, i64_w, i32_w]
              rfl
            refine pure_ (i := 6) (N := some 24) (v := ?_) (a' := ?_) #[true, true, true, true, true, true, true, false, false, false, false, false, false, false, false, false, false] rfl rfl (any_of HT_.out (by kernel_rfl)) (fun _ _ _ h => h) (Or.inl ⟨by rfl, ?_⟩) ?_ ?_
            rotate_left
            · intro w'
              go_simp
              with_reducible rfl
            rotate_left
            · simp only [Act.put, List.setIfInBounds_toArray, List.set_cons_zero, List.set_cons_succ, i64_w, i32_w]
              rfl
            refine pure_ (i := 7) (N := some 25) (v := undef) (a' := ?_) #[true, true, true, true, true, true, true, true, false, false, false, false, false, false, false, false, false] rfl rfl (any_of HT_.out (by kernel_rfl)) (fun _ _ _ h => h) (Or.inr ⟨by rfl, rfl⟩) ?_ ?_
            rotate_left
            · simp only [Act.put, List.setIfInBounds_toArray, List.set_cons_zero, List.set_cons_succ, i64_w, i32_w]
              rfl
            refine pure_ (i := 8) (N := some 26) (v := undef) (a' := ?_) #[true, true, true, true, true, true, true, true, true, false, false, false, false, false, false, false, false] rfl rfl (any_of HT_.out (by kernel_rfl)) (fun _ _ _ h => h) (Or.inr ⟨by rfl, rfl⟩) ?_ ?_
            rotate_left
            · simp only [Act.put, List.setIfInBounds_toArray, List.set_cons_zero, List.set_cons_succ, i64_w, i32_w]
              rfl
            refine pure_ (i := 9) (N := some 27) (v := undef) (a' := ?_) #[true, true, true, true, true, true, true, true, true, true, false, false, false, false, false, false, false] rfl rfl (any_of HT_.out (by kernel_rfl)) (fun _ _ _ h => h) (Or.inr ⟨by rfl, rfl⟩) ?_ ?_
            rotate_left
            · simp only [Act.put, List.setIfInBounds_toArray, List.set_cons_zero, List.set_cons_succ, i64_w, i32_w]
              rfl
            refine pure_ (i := 10) (N := some 28) (v := undef) (a' := ?_) #[true, true, true, true, true, true, true, true, true, true, true, false, false, false, false, false, false] rfl rfl (any_of HT_.out (by kernel_rfl)) (fun _ _ _ h => h) (Or.inr ⟨by rfl, rfl⟩) ?_ ?_
            rotate_left
            · simp only [Act.put, List.setIfInBounds_toArray, List.set_cons_zero, List.set_cons_succ, i64_w, i32_w]
              rfl
            refine pure_ (i := 11) (N := some 29) (v := undef) (a' := ?_) #[true, true, true, true, true, true, true, true, true, true, true, true, false, false, false, false, false] rfl rfl (any_of HT_.out (by kernel_rfl)) (fun _ _ _ h => h) (Or.inr ⟨by rfl, rfl⟩) ?_ ?_
            rotate_left
            · simp only [Act.put, List.setIfInBounds_toArray, List.set_cons_zero, List.set_cons_succ, i64_w, i32_w]
              rfl
            refine pure_ (i := 12) (N := some 30) (v := undef) (a' := ?_) #[true, true, true, true, true, true, true, true, true, true, true, true, true, false, false, false, false] rfl rfl (any_of HT_.out (by kernel_rfl)) (fun _ _ _ h => h) (Or.inr ⟨by rfl, rfl⟩) ?_ ?_
            rotate_left
            · simp only [Act.put, List.setIfInBounds_toArray, List.set_cons_zero, List.set_cons_succ, i64_w, i32_w]
              rfl
            refine pure_ (i := 13) (N := some 31) (v := undef) (a' := ?_) #[true, true, true, true, true, true, true, true, true, true, true, true, true, true, false, false, false] rfl rfl (any_of HT_.out (by kernel_rfl)) (fun _ _ _ h => h) (Or.inr ⟨by rfl, rfl⟩) ?_ ?_
            rotate_left
            · simp only [Act.put, List.setIfInBounds_toArray, List.set_cons_zero, List.set_cons_succ, i64_w, i32_w]
              rfl
            refine pure_ (i := 14) (N := some 32) (v := undef) (a' := ?_) #[true, true, true, true, true, true, true, true, true, true, true, true, true, true, true, false, false] rfl rfl (any_of HT_.out (by kernel_rfl)) (fun _ _ _ h => h) (Or.inr ⟨by rfl, rfl⟩) ?_ ?_
            rotate_left
            · simp only [Act.put, List.setIfInBounds_toArray, List.set_cons_zero, List.set_cons_succ, i64_w, i32_w]
              rfl
            refine pure_ (i := 15) (N := some 33) (v := undef) (a' := ?_) #[true, true, true, true, true, true, true, true, true, true, true, true, true, true, true, true, false] rfl rfl (any_of HT_.out (by kernel_rfl)) (fun _ _ _ h => h) (Or.inr ⟨by rfl, rfl⟩) ?_ ?_
            rotate_left
            · simp only [Act.put, List.setIfInBounds_toArray, List.set_cons_zero, List.set_cons_succ, i64_w, i32_w]
              rfl
            refine pure_ (i := 16) (N := some 34) (v := ?_) (a' := ?_) #[true, true, true, true, true, true, true, true, true, true, true, true, true, true, true, true, true] rfl rfl (any_of HT_.out (by kernel_rfl)) (fun _ _ _ h => h) (Or.inl ⟨by rfl, ?_⟩) ?_ ?_
            rotate_left
            · intro w'
              go_simp
              with_reducible rfl
            rotate_left
            · simp only [Act.put, List.setIfInBounds_toArray, List.set_cons_zero, List.set_cons_succ, i64_w, i32_w]
              rfl
            refine done_ (done_of HT_.out (by kernel_rfl)) ?_
            try go_wp2
            go_meet
            case rel => exact ⟨_, (false), (by first | rfl | (simp; done) | (simp [*]; done)), H', ⟨by have := HJ2.out; first | omega | exact Nat.le_refl _⟩, ⟨by exact BK653.out⟩, ⟨by exact BK654.out⟩, ⟨by repeat (first | (with_reducible first | exact HB.out | apply below_alloc | apply pw_below_drewN | apply below_drew1 | refine below_set ?_ GE653.out | refine below_set ?_ GE654.out) | exact HB.out)⟩⟩
        case rest =>
          clear HC20
          try clear c1
          try clear c2
          try clear p2
          try clear c11
          try clear c14
          try clear c15
          try clear c17
          try clear c22
          try clear c24
          try clear hfz10_1
          try clear hfz10_2
          try clear hfz12_0
          try clear hfz12_1
          try clear hfz12_2
          try clear hfz15_0
          try clear hfz15_1
          try clear hfz15_2
          obtain ⟨kq, x34_19, rfl, HA, HJ19, BK653, BK654, HB⟩ := hcut
          cases kq with
          | zero => exact absurd HA.out (by simp [chrysalislaw17_OpsShows.j1])
          | succ kj19 =>
            have H := HA.out
            clear HA
            simp only [chrysalislaw17_OpsShows.j1] at H
            by_cases c37 : x34_19 = true
            · subst c37
              have H1 : (some false) = some r := by rw [if_pos rfl] at H; exact H
              clear H
              have H := H1
              clear H1
              exact absurd ((Option.some.inj H).trans HR.out) (by decide)
            · replace c37 := Bool.eq_false_iff.mpr c37
              subst c37
              rw [if_neg (show ¬ (false = true) by decide)] at H
              have H1 := H
              clear H
              have H := H1
              clear H1
              obtain ⟨y662, hy662⟩ : ∃ y_ : List ByteArray, y_ = (([(⟨#[43]⟩ : ByteArray), (⟨#[45]⟩ : ByteArray), (⟨#[42]⟩ : ByteArray), (⟨#[47]⟩ : ByteArray), (⟨#[37]⟩ : ByteArray), (⟨#[46, 46]⟩ : ByteArray)] : List ByteArray)) := ⟨_, rfl⟩
              replace H : (chrysalislaw17_OpsShows.l0 kj19 y662 0 a0_0 a0_1 a0_2 a1_0 a1_1 a1_2) = some r := by first | (rw [hy662]; with_reducible exact H) | (have H2_ := (Option.bind_some _ _).symm.trans H; rw [hy662]; with_reducible exact H2_) | (have H2_ := (Option.bind_some _ _).symm.trans H; with_reducible exact H2_) | with_reducible exact H | (rw [hy662]; exact H) | exact H
              have Ny662 := Aside0.mk hy662
              clear hy662
              have H' := Aside0.mk H
              clear H
              go_wp2_with (first | ((with_reducible refine gate_dst (N := 35) rfl ?_); refine Kd.R_lit Kd.string _ 9 ?hg (N := 35) ?hd (xs := ([(⟨#[43]⟩ : ByteArray), (⟨#[45]⟩ : ByteArray), (⟨#[42]⟩ : ByteArray), (⟨#[47]⟩ : ByteArray), (⟨#[37]⟩ : ByteArray), (⟨#[46, 46]⟩ : ByteArray)] : List ByteArray)) (inner := [.string (⟨#[43]⟩ : ByteArray), .string (⟨#[45]⟩ : ByteArray), .string (⟨#[42]⟩ : ByteArray), .string (⟨#[47]⟩ : ByteArray), .string (⟨#[37]⟩ : ByteArray), .string (⟨#[46, 46]⟩ : ByteArray)]) (ok := fun _ => True) (okp := fun _ => True) ?hr ?hp (fun _ hk => hk) trivial (Below.refl _ _) (Nat.le_refl _) (by simp) ?_; (case hd => rfl); (case hg => rfl); (case hr => first | (go_simp; done) | (go_simp; rfl)); (case hp => exact (Reps.one (show Kd.M Kd.string _ _ _ (⟨#[43]⟩ : ByteArray) [.string (⟨#[43]⟩ : ByteArray)] from rfl) (Reps.one (show Kd.M Kd.string _ _ _ (⟨#[45]⟩ : ByteArray) [.string (⟨#[45]⟩ : ByteArray)] from rfl) (Reps.one (show Kd.M Kd.string _ _ _ (⟨#[42]⟩ : ByteArray) [.string (⟨#[42]⟩ : ByteArray)] from rfl) (Reps.one (show Kd.M Kd.string _ _ _ (⟨#[47]⟩ : ByteArray) [.string (⟨#[47]⟩ : ByteArray)] from rfl) (Reps.one (show Kd.M Kd.string _ _ _ (⟨#[37]⟩ : ByteArray) [.string (⟨#[37]⟩ : ByteArray)] from rfl) (Reps.one (show Kd.M Kd.string _ _ _ (⟨#[46, 46]⟩ : ByteArray) [.string (⟨#[46, 46]⟩ : ByteArray)] from rfl) (Reps.none _ _)))))))); intro v663 w38 ho39 hb hg_ hnew_; clear hg_ hnew_; (first | rw [← Ny662.out] at ho39 | (simp only [Int.reduceToNat] at ho39; rw [← Ny662.out] at ho39)); have n0_ := Aside0.mk (Kd.R_lower ho39 (below_size (by repeat (first | (with_reducible first | exact HB.out | apply below_alloc | apply pw_below_drewN | apply below_drew1 | refine below_set ?_ GE653.out | refine below_set ?_ GE654.out) | exact HB.out)))); have n1_ := Aside0.mk (blk_below (g := gb653) (o := .cells #[.int .i64 a0_0, .int .i64 a0_1, .string a0_2] 23 (0, 0)) BK653.out hb); have n2_ := Aside0.mk (blk_below (g := gb654) (o := .cells #[.int .i64 a1_0, .int .i64 a1_1, .string a1_2] 23 (0, 0)) BK654.out hb); have n3_ := Aside0.mk (below_step (by repeat (first | (with_reducible first | exact HB.out | apply below_alloc | apply pw_below_drewN | apply below_drew1 | refine below_set ?_ GE653.out | refine below_set ?_ GE654.out) | exact HB.out)) hb); clear BK653; clear BK654; clear HB; have HO664 := n0_; have BK653 := n1_; have BK654 := n2_; have HB := n3_; clear n0_ n1_ n2_ n3_; clear hb ho39))
              go_loopg [6] kj19 (fun kq v6 w' => ∃ (x6_3 : Int), v6 = .int .i64 x6_3 ∧ Aside0 (chrysalislaw17_OpsShows.l0 kq y662 x6_3 a0_0 a0_1 a0_2 a1_0 a1_1 a1_2 = some r) ∧ Aside0 (kq ≤ kj19) ∧ Aside0 (Kd.R Kd.string 9 w' w.heap.size (fun _ => True) v663 y662) ∧ Aside0 (w'.heap[gb653]? = some (.cells #[.int .i64 a0_0, .int .i64 a0_1, .string a0_2] 23 (0, 0))) ∧ Aside0 (w'.heap[gb654]? = some (.cells #[.int .i64 a1_0, .int .i64 a1_1, .string a1_2] 23 (0, 0))) ∧ Aside0 (Below w.heap.size w w'))
              case atStart => exact ⟨(0), (by first | rfl | (simp; done) | (simp [*]; done)), H', ⟨Nat.le_refl _⟩, ⟨by (with_reducible repeat (first | apply Kd.R_alloc | apply Kd.R_drewN | apply Kd.R_drew)); exact HO664.out⟩, ⟨by exact BK653.out⟩, ⟨by exact BK654.out⟩, ⟨by repeat (first | (with_reducible first | exact HB.out | apply below_alloc | apply pw_below_drewN | apply below_drew1 | refine below_set ?_ GE653.out | refine below_set ?_ GE654.out) | exact HB.out)⟩⟩
              case round =>
                clear H'
                try clear c1
                try clear c2
                try clear p2
                try clear c3
                try clear c11
                try clear c14
                try clear c15
                try clear c17
                try clear c22
                try clear c24
                try clear c37
                try clear hfz10_1
                try clear hfz10_2
                try clear hfz12_0
                try clear hfz12_1
                try clear hfz12_2
                try clear hfz15_0
                try clear hfz15_1
                try clear hfz15_2
                try clear p2
                obtain ⟨x6_3, rfl, HA, HK3, HO_5, BK653, BK654, HB⟩ := hrel
                cases gk with
                | zero => exact absurd HA.out (by simp [chrysalislaw17_OpsShows.l0])
                | succ k3 =>
                  have H := HA.out
                  clear HA
                  simp only [chrysalislaw17_OpsShows.l0] at H
                  by_cases c40 : x6_3 < (y662.length : Int)
                  · rw [if_pos c40] at H
                    have c40b0 : decide (x6_3 < (y662.length : Int)) = true := decide_eq_true c40
                    clear c40
                    by_cases c41 : 0 ≤ x6_3
                    · rw [if_pos c41] at H
                      have c41b0 : decide (0 ≤ x6_3) = true := decide_eq_true c41
                      clear c41
                      replace H := Option.bind_eq_some_iff.mp H
                      obtain ⟨⟨t666, t667, t668, t669⟩, A420, H⟩ := H
                      try dsimp only at H
                      have A42 := Aside0.mk A420
                      clear A420
                      by_cases c43 : t669 = 0
                      · rw [if_pos c43] at H
                        have c43b0 : (t669 == 0) = true := beq_iff_eq.mpr c43
                        have c43b1 : (t669 != 0) = false := bne_eq_false_iff_eq.mpr c43
                        clear c43
                        by_cases c44 : t666 = a0_0
                        · rw [if_pos c44] at H
                          have c44b0 : (t666 == a0_0) = true := beq_iff_eq.mpr c44
                          have c44b1 : (t666 != a0_0) = false := bne_eq_false_iff_eq.mpr c44
                          clear c44
                          by_cases c45 : t666 = a1_0
                          · rw [if_pos c45] at H
                            have c45b0 : (t666 == a1_0) = true := beq_iff_eq.mpr c45
                            have c45b1 : (t666 != a1_0) = false := bne_eq_false_iff_eq.mpr c45
                            clear c45
                            by_cases c46 : (rdOf ByteArray.empty y662 x6_3).toList = ([46, 46] : List UInt8)
                            · rw [if_pos c46] at H
                              have c46b0 : ((rdOf ByteArray.empty y662 x6_3).toList == ([46, 46] : List UInt8)) = true := beq_iff_eq.mpr c46
                              have c46b1 : ((rdOf ByteArray.empty y662 x6_3).toList != ([46, 46] : List UInt8)) = false := bne_eq_false_iff_eq.mpr c46
                              clear c46
                              by_cases c47 : t666 = 2
                              · rw [if_pos c47] at H
                                have c47b0 : (t666 == 2) = true := beq_iff_eq.mpr c47
                                have c47b1 : (t666 != 2) = false := bne_eq_false_iff_eq.mpr c47
                                clear c47
                                have H' := Aside0.mk H
                                clear H
                                obtain ⟨Ao48, co48, eo48⟩ := Kd.R_slice HO_5.out
                                subst eo48
                                try go_wp2
                                have n0_ := Aside0.mk (Kd.R_drew HO_5.out)
                                have n1_ := Aside0.mk (blk_drew BK653.out)
                                have n2_ := Aside0.mk (blk_drew BK654.out)
                                have n3_ := Aside0.mk (below_drew1 HB.out)
                                clear HO_5
                                clear BK653
                                clear BK654
                                clear HB
                                have HO_5 := n0_
                                have BK653 := n1_
                                have BK654 := n2_
                                have HB := n3_
                                clear n0_ n1_ n2_ n3_
                                have p665 : 0 ≤ (x6_3 : Int) := of_decide_eq_true (by first | (with_reducible assumption) | assumption)
                                have q665 : x6_3 < (y662.length : Int) := of_decide_eq_true (by first | (with_reducible assumption) | assumption)
                                obtain ⟨ad665, e665, hx665_0⟩ := Kd.at_string (Kd.R_reads' HO_5.out).2.2 x6_3 p665 q665
                                cases e665
                                replace p665 := eq_true p665
                                replace q665 := eq_true q665
                                refine start_ (n := 13) (S := fun w' => w'.cell? ⟨gb653, 0, none⟩ = some (.int .i64 a0_0) ∧ w'.cell? ⟨gb653, 1, none⟩ = some (.int .i64 a0_1) ∧ w'.cell? ⟨gb653, 2, none⟩ = some (.string a0_2) ∧ w'.cell? ⟨gb654, 0, none⟩ = some (.int .i64 a1_0) ∧ w'.cell? ⟨gb654, 1, none⟩ = some (.int .i64 a1_1) ∧ w'.cell? ⟨gb654, 2, none⟩ = some (.string a1_2) ∧ w'.cell? (ad665.add (x6_3).toNat) = some (.string (rdOf ByteArray.empty y662 x6_3))) (ds := []) #[false, false, false, false, false, false, false, false, false, false, false, false, false] (by kernel_rfl) rfl rfl ⟨(blk_cell BK653.out 0).trans rfl, (blk_cell BK653.out 1).trans rfl, (blk_cell BK653.out 2).trans rfl, (blk_cell BK654.out 0).trans rfl, (blk_cell BK654.out 1).trans rfl, (blk_cell BK654.out 2).trans rfl, hx665_0⟩ (fun hHeld => ?_); refine with_tabW chrysalislaw17_OpsShows.tab9 chrysalislaw17_OpsShows.bits9 (fun HT_ HW_ => ?_)
                                generalize wr.drew = w49 at HO_5 BK653 BK654 HB hx665_0 hHeld ⊢
                                refine pure_ (i := 0) (N := some 43) (v := ?_) (a' := ?_) #[true, false, false, false, false, false, false, false, false, false, false, false, false] rfl rfl (any_of HT_.out (by kernel_rfl)) (fun _ _ _ h => h) (Or.inl ⟨by rfl, ?_⟩) ?_ ?_
                                rotate_left
                                · intro w'
                                  go_simp
                                  with_reducible rfl
                                rotate_left
                                · simp only [Act.put, List.setIfInBounds_toArray, List.set_cons_zero, List.set_cons_succ, i64_w, i32_w]
                                  rfl
                                refine pure_ (i := 1) (N := some 44) (v := ?_) (a' := ?_) #[true, true, false, false, false, false, false, false, false, false, false, false, false] rfl rfl (any_of HT_.out (by kernel_rfl)) (fun _ _ _ h => h) (Or.inl ⟨by rfl, ?_⟩) ?_ ?_
                                rotate_left
                                · intro w'
                                  go_simp
                                  with_reducible rfl
                                rotate_left
                                · simp only [Act.put, List.setIfInBounds_toArray, List.set_cons_zero, List.set_cons_succ, i64_w, i32_w]
                                  rfl
                                refine pure_ (i := 2) (N := some 45) (v := ?_) (a' := ?_) #[true, true, true, false, false, false, false, false, false, false, false, false, false] rfl rfl (any_of HT_.out (by kernel_rfl)) (fun _ _ _ h => h) (Or.inl ⟨by rfl, ?_⟩) ?_ ?_
                                rotate_left
                                · intro w'
                                  go_simp
                                  with_reducible rfl
                                rotate_left
                                · simp only [Act.put, List.setIfInBounds_toArray, List.set_cons_zero, List.set_cons_succ, i64_w, i32_w]
                                  rfl
                                refine take_ (i := 3) (N := some 46) (v := ?_) (a' := ?_) #[true, true, true, true, false, false, false, false, false, false, false, false, false] rfl rfl (take_ofW HT_.out HW_.out (by kernel_rfl)) (fun _ _ _ h => h) (Or.inl ⟨by rfl, ?_⟩) hHeld ?_ ?_
                                rotate_left
                                · rintro w' ⟨s0, s1, s2, s3, s4, s5, s6⟩
                                  go_simp
                                  with_reducible rfl
                                rotate_left
                                · simp only [Act.put, List.setIfInBounds_toArray, List.set_cons_zero, List.set_cons_succ, i64_w, i32_w]
                                  rfl
                                refine take_ (i := 4) (N := some 47) (v := ?_) (a' := ?_) #[true, true, true, true, true, false, false, false, false, false, false, false, false] rfl rfl (take_ofW HT_.out HW_.out (by kernel_rfl)) (fun _ _ _ h => h) (Or.inl ⟨by rfl, ?_⟩) hHeld ?_ ?_
                                rotate_left
                                · rintro w' ⟨s0, s1, s2, s3, s4, s5, s6⟩
                                  go_simp
                                  with_reducible rfl
                                rotate_left
                                · simp only [Act.put, List.setIfInBounds_toArray, List.set_cons_zero, List.set_cons_succ, i64_w, i32_w]
                                  rfl
                                refine take_ (i := 5) (N := some 48) (v := ?_) (a' := ?_) #[true, true, true, true, true, true, false, false, false, false, false, false, false] rfl rfl (take_ofW HT_.out HW_.out (by kernel_rfl)) (fun _ _ _ h => h) (Or.inl ⟨by rfl, ?_⟩) hHeld ?_ ?_
                                rotate_left
                                · rintro w' ⟨s0, s1, s2, s3, s4, s5, s6⟩
                                  go_simp
                                  with_reducible rfl
                                rotate_left
                                · simp only [Act.put, List.setIfInBounds_toArray, List.set_cons_zero, List.set_cons_succ, i64_w, i32_w]
                                  rfl
                                refine join_ (σ := Nat) 2 #[true, true, true, true, true, true, true, true, true, true, true, false, false] (fun s_ => [(49, .tuple #[.agg #[.int .i64 t666, .int .i64 t667, .string t668], .int .i64 t669]), (7, .pointer (some ⟨s_, 0, none⟩)), (42, .tuple #[.agg #[.int .i64 t666, .int .i64 t667, .string t668], .int .i64 t669]), (50, .agg #[.int .i64 t666, .int .i64 t667, .string t668]), (51, .int .i64 t669)]) (fun s_ w' => (w'.cell? ⟨gb653, 0, none⟩ = some (.int .i64 a0_0) ∧ w'.cell? ⟨gb653, 1, none⟩ = some (.int .i64 a0_1) ∧ w'.cell? ⟨gb653, 2, none⟩ = some (.string a0_2) ∧ w'.cell? ⟨gb654, 0, none⟩ = some (.int .i64 a1_0) ∧ w'.cell? ⟨gb654, 1, none⟩ = some (.int .i64 a1_1) ∧ w'.cell? ⟨gb654, 2, none⟩ = some (.string a1_2) ∧ w'.cell? (ad665.add (x6_3).toNat) = some (.string (rdOf ByteArray.empty y662 x6_3))) ∧ (Kd.R Kd.string 9 w' w.heap.size (fun _ => True) (.slice (some ad665) y662.length co48) y662) ∧ (w'.heap[gb653]? = some (.cells #[.int .i64 a0_0, .int .i64 a0_1, .string a0_2] 23 (0, 0))) ∧ (w'.heap[gb654]? = some (.cells #[.int .i64 a1_0, .int .i64 a1_1, .string a1_2] 23 (0, 0))) ∧ (w'.heap[s_]? = some (.cells #[.int .i64 0, .int .i64 0, .string (⟨#[]⟩ : ByteArray)] 23 (0, 0))) ∧ (w.heap.size ≤ s_) ∧ (w.heap.size ≤ s_) ∧ (gb653 ≠ s_) ∧ (s_ ≠ gb653) ∧ (gb654 ≠ s_) ∧ (s_ ≠ gb654) ∧ (Below w.heap.size w w')) ?_ ?_
                                rotate_left
                                · intro hCont
                                  refine two_ (i := 6) (j := 10) (Ni := some 49) (Nj := some 7) #[true, true, true, true, true, true, true, false, false, false, false, false, false] #[true, true, true, true, true, true, false, false, false, false, true, false, false] rfl rfl rfl rfl (two_of HT_.out (by kernel_rfl)) (by decide) (by decide) (fun K hK => ?_) (fun K hK => ?_)
                                  · skip
                                    refine goes_ Try.func10 (by kernel_rfl) rfl #[.string (rdOf ByteArray.empty y662 x6_3), .agg #[.int .i64 a0_0, .int .i64 a0_1, .string a0_2], .agg #[.int .i64 a1_0, .int .i64 a1_1, .string a1_2]] (by rfl) rfl rfl (by (try simp only [List.map_toArray, List.map_cons, List.map_nil]); first | done | rfl | (simp only [List.length_drop, List.length_take]; rfl)) ?_
                                    with_reducible refine (ops_Two.calls k3 (rdOf ByteArray.empty y662 x6_3) a0_0 a0_1 a0_2 a1_0 a1_1 a1_2 t666 t667 t668 t669 _ A42.out).mono ?_
                                    rintro e w50 ⟨rfl, hb⟩
                                    have HS6_ := (hb.cell (World.block_lt_of_cell? _ _ (hHeld.2.2.2.2.2.2))).trans (hHeld.2.2.2.2.2.2)
                                    refine ⟨_, rfl, ?_⟩
                                    have n0_ := Aside0.mk (Kd.R_below (by (with_reducible repeat (first | apply Kd.R_alloc | apply Kd.R_drewN | apply Kd.R_drew)); exact HO_5.out) hb)
                                    have n1_ := Aside0.mk (blk_below (g := gb653) (o := .cells #[.int .i64 a0_0, .int .i64 a0_1, .string a0_2] 23 (0, 0)) (by exact BK653.out) hb)
                                    have n2_ := Aside0.mk (blk_below (g := gb654) (o := .cells #[.int .i64 a1_0, .int .i64 a1_1, .string a1_2] 23 (0, 0)) (by exact BK654.out) hb)
                                    have n3_ := Aside0.mk (below_step (by repeat (first | (with_reducible first | exact HB.out | apply below_alloc | apply pw_below_drewN | apply below_drew1 | refine below_set ?_ GE653.out | refine below_set ?_ GE654.out) | exact HB.out)) hb)
                                    clear HO_5
                                    clear BK653
                                    clear BK654
                                    clear HB
                                    have HO_5 := n0_
                                    have BK653 := n1_
                                    have BK654 := n2_
                                    have HB := n3_
                                    clear n0_ n1_ n2_ n3_
                                    (try clear hb)
                                    (try clear hb2)
                                    (try clear hk)
                                    (try clear hi)
                                    refine hK.out _ _ ⟨(blk_cell BK653.out 0).trans rfl, (blk_cell BK653.out 1).trans rfl, (blk_cell BK653.out 2).trans rfl, (blk_cell BK654.out 0).trans rfl, (blk_cell BK654.out 1).trans rfl, (blk_cell BK654.out 2).trans rfl, HS6_⟩ (fun hHeld => ?_)
                                    clear hK K
                                    refine norm_ (a' := ?_) ?_ ?_
                                    rotate_left
                                    · show Act.put _ (some 49) _ = _
                                      simp only [Act.put, List.setIfInBounds_toArray, List.set_cons_zero, List.set_cons_succ, i64_w, i32_w]
                                      rfl
                                    refine pure_ (i := 7) (N := some 42) (v := ?_) (a' := ?_) #[true, true, true, true, true, true, true, true, false, false, false, false, false] rfl rfl (any_of HT_.out (by kernel_rfl)) (fun _ _ _ h => h) (Or.inl ⟨by rfl, ?_⟩) ?_ ?_
                                    rotate_left
                                    · intro w'
                                      go_simp
                                      with_reducible rfl
                                    rotate_left
                                    · simp only [Act.put, List.setIfInBounds_toArray, List.set_cons_zero, List.set_cons_succ, i64_w, i32_w]
                                      rfl
                                    refine pure_ (i := 8) (N := some 50) (v := ?_) (a' := ?_) #[true, true, true, true, true, true, true, true, true, false, false, false, false] rfl rfl (any_of HT_.out (by kernel_rfl)) (fun _ _ _ h => h) (Or.inl ⟨by rfl, ?_⟩) ?_ ?_
                                    rotate_left
                                    · intro w'
                                      go_simp
                                      with_reducible rfl
                                    rotate_left
                                    · simp only [Act.put, List.setIfInBounds_toArray, List.set_cons_zero, List.set_cons_succ, i64_w, i32_w]
                                      rfl
                                    refine pure_ (i := 9) (N := some 51) (v := ?_) (a' := ?_) #[true, true, true, true, true, true, true, true, true, true, false, false, false] rfl rfl (any_of HT_.out (by kernel_rfl)) (fun _ _ _ h => h) (Or.inl ⟨by rfl, ?_⟩) ?_ ?_
                                    rotate_left
                                    · intro w'
                                      go_simp
                                      with_reducible rfl
                                    rotate_left
                                    · simp only [Act.put, List.setIfInBounds_toArray, List.set_cons_zero, List.set_cons_succ, i64_w, i32_w]
                                      rfl
                                    refine one_ (i := 10) (N := some 7) #[true, true, true, true, true, true, true, true, true, true, true, false, false] rfl rfl (one_of HT_.out (by kernel_rfl)) (by decide) (fun K hK => ?_)
                                    refine box_step ?hg (N := 7) ?hd (cs := #[.int .i64 0, .int .i64 0, .string (⟨#[]⟩ : ByteArray)]) (t := 23) ?hr ?_; (case hd => rfl); (case hg => rfl); (case hr => first | (go_simp; done) | (go_simp; rfl))
                                    intro gb670 hg w51 hbox hb
                                    have HS6_ := (hb.cell (World.block_lt_of_cell? _ _ (hHeld.2.2.2.2.2.2))).trans (hHeld.2.2.2.2.2.2)
                                    have n0_ := Aside0.mk (Kd.R_below (by (with_reducible repeat (first | apply Kd.R_alloc | apply Kd.R_drewN | apply Kd.R_drew)); exact HO_5.out) hb)
                                    have n1_ := Aside0.mk (blk_below (g := gb653) (o := .cells #[.int .i64 a0_0, .int .i64 a0_1, .string a0_2] 23 (0, 0)) (by exact BK653.out) hb)
                                    have n2_ := Aside0.mk (blk_below (g := gb654) (o := .cells #[.int .i64 a1_0, .int .i64 a1_1, .string a1_2] 23 (0, 0)) (by exact BK654.out) hb)
                                    have n3_ := Aside0.mk (below_step (by repeat (first | (with_reducible first | exact HB.out | apply below_alloc | apply pw_below_drewN | apply below_drew1 | refine below_set ?_ GE653.out | refine below_set ?_ GE654.out) | exact HB.out)) hb)
                                    have n4_ := Aside0.mk (hbox)
                                    have n5_ := Aside0.mk ((by rw [hg]; exact (below_size (by repeat (first | (with_reducible first | exact HB.out | apply below_alloc | apply pw_below_drewN | apply below_drew1 | refine below_set ?_ GE653.out | refine below_set ?_ GE654.out) | exact HB.out))) : w.heap.size ≤ gb670))
                                    have n6_ := Aside0.mk ((by rw [hg]; exact (below_size (by repeat (first | (with_reducible first | exact HB.out | apply below_alloc | apply pw_below_drewN | apply below_drew1 | refine below_set ?_ GE653.out | refine below_set ?_ GE654.out) | exact HB.out))) : w.heap.size ≤ gb670))
                                    have n7_ := Aside0.mk ((by rw [hg]; exact Nat.ne_of_lt (blk_lt (g := gb653) (o := .cells #[.int .i64 a0_0, .int .i64 a0_1, .string a0_2] 23 (0, 0)) BK653.out) : gb653 ≠ gb670))
                                    have n8_ := Aside0.mk ((by rw [hg]; exact Nat.ne_of_gt (blk_lt (g := gb653) (o := .cells #[.int .i64 a0_0, .int .i64 a0_1, .string a0_2] 23 (0, 0)) BK653.out) : gb670 ≠ gb653))
                                    have n9_ := Aside0.mk ((by rw [hg]; exact Nat.ne_of_lt (blk_lt (g := gb654) (o := .cells #[.int .i64 a1_0, .int .i64 a1_1, .string a1_2] 23 (0, 0)) BK654.out) : gb654 ≠ gb670))
                                    have n10_ := Aside0.mk ((by rw [hg]; exact Nat.ne_of_gt (blk_lt (g := gb654) (o := .cells #[.int .i64 a1_0, .int .i64 a1_1, .string a1_2] 23 (0, 0)) BK654.out) : gb670 ≠ gb654))
                                    clear HO_5
                                    clear BK653
                                    clear BK654
                                    clear HB
                                    have HO_5 := n0_
                                    have BK653 := n1_
                                    have BK654 := n2_
                                    have HB := n3_
                                    have BK670 := n4_
                                    have GW670 := n5_
                                    have GE670 := n6_
                                    have NB653_670 := n7_
                                    have NB670_653 := n8_
                                    have NB654_670 := n9_
                                    have NB670_654 := n10_
                                    clear n0_ n1_ n2_ n3_ n4_ n5_ n6_ n7_ n8_ n9_ n10_
                                    clear hb hbox hg
                                    refine hK.out _ _ ⟨(blk_cell BK653.out 0).trans rfl, (blk_cell BK653.out 1).trans rfl, (blk_cell BK653.out 2).trans rfl, (blk_cell BK654.out 0).trans rfl, (blk_cell BK654.out 1).trans rfl, (blk_cell BK654.out 2).trans rfl, HS6_⟩ (fun hHeld => ?_)
                                    clear hK K
                                    refine norm_ (a' := ?_) ?_ ?_
                                    rotate_left
                                    · show Act.put _ (some 7) _ = _
                                      simp only [Act.put, List.setIfInBounds_toArray, List.set_cons_zero, List.set_cons_succ, i64_w, i32_w]
                                      rfl
                                    exact norm_ (by simp only [putAll, Act.put, List.setIfInBounds_toArray, List.set_cons_zero, List.set_cons_succ]) (hCont (gb670) _ ⟨hHeld, (by (with_reducible repeat (first | apply Kd.R_alloc | apply Kd.R_drewN | apply Kd.R_drew)); exact HO_5.out), BK653.out, BK654.out, BK670.out, GW670.out, GE670.out, NB653_670.out, NB670_653.out, NB654_670.out, NB670_654.out, (by repeat (first | (with_reducible first | exact HB.out | apply below_alloc | apply pw_below_drewN | apply below_drew1 | refine below_set ?_ GE653.out | refine below_set ?_ GE654.out | refine below_set ?_ GE670.out) | exact HB.out))⟩)
                                  · skip
                                    refine box_step ?hg (N := 7) ?hd (cs := #[.int .i64 0, .int .i64 0, .string (⟨#[]⟩ : ByteArray)]) (t := 23) ?hr ?_; (case hd => rfl); (case hg => rfl); (case hr => first | (go_simp; done) | (go_simp; rfl))
                                    intro gb670 hg w50 hbox hb
                                    have HS6_ := (hb.cell (World.block_lt_of_cell? _ _ (hHeld.2.2.2.2.2.2))).trans (hHeld.2.2.2.2.2.2)
                                    have n0_ := Aside0.mk (Kd.R_below (by (with_reducible repeat (first | apply Kd.R_alloc | apply Kd.R_drewN | apply Kd.R_drew)); exact HO_5.out) hb)
                                    have n1_ := Aside0.mk (blk_below (g := gb653) (o := .cells #[.int .i64 a0_0, .int .i64 a0_1, .string a0_2] 23 (0, 0)) (by exact BK653.out) hb)
                                    have n2_ := Aside0.mk (blk_below (g := gb654) (o := .cells #[.int .i64 a1_0, .int .i64 a1_1, .string a1_2] 23 (0, 0)) (by exact BK654.out) hb)
                                    have n3_ := Aside0.mk (below_step (by repeat (first | (with_reducible first | exact HB.out | apply below_alloc | apply pw_below_drewN | apply below_drew1 | refine below_set ?_ GE653.out | refine below_set ?_ GE654.out) | exact HB.out)) hb)
                                    have n4_ := Aside0.mk (hbox)
                                    have n5_ := Aside0.mk ((by rw [hg]; exact (below_size (by repeat (first | (with_reducible first | exact HB.out | apply below_alloc | apply pw_below_drewN | apply below_drew1 | refine below_set ?_ GE653.out | refine below_set ?_ GE654.out) | exact HB.out))) : w.heap.size ≤ gb670))
                                    have n6_ := Aside0.mk ((by rw [hg]; exact (below_size (by repeat (first | (with_reducible first | exact HB.out | apply below_alloc | apply pw_below_drewN | apply below_drew1 | refine below_set ?_ GE653.out | refine below_set ?_ GE654.out) | exact HB.out))) : w.heap.size ≤ gb670))
                                    have n7_ := Aside0.mk ((by rw [hg]; exact Nat.ne_of_lt (blk_lt (g := gb653) (o := .cells #[.int .i64 a0_0, .int .i64 a0_1, .string a0_2] 23 (0, 0)) BK653.out) : gb653 ≠ gb670))
                                    have n8_ := Aside0.mk ((by rw [hg]; exact Nat.ne_of_gt (blk_lt (g := gb653) (o := .cells #[.int .i64 a0_0, .int .i64 a0_1, .string a0_2] 23 (0, 0)) BK653.out) : gb670 ≠ gb653))
                                    have n9_ := Aside0.mk ((by rw [hg]; exact Nat.ne_of_lt (blk_lt (g := gb654) (o := .cells #[.int .i64 a1_0, .int .i64 a1_1, .string a1_2] 23 (0, 0)) BK654.out) : gb654 ≠ gb670))
                                    have n10_ := Aside0.mk ((by rw [hg]; exact Nat.ne_of_gt (blk_lt (g := gb654) (o := .cells #[.int .i64 a1_0, .int .i64 a1_1, .string a1_2] 23 (0, 0)) BK654.out) : gb670 ≠ gb654))
                                    clear HO_5
                                    clear BK653
                                    clear BK654
                                    clear HB
                                    have HO_5 := n0_
                                    have BK653 := n1_
                                    have BK654 := n2_
                                    have HB := n3_
                                    have BK670 := n4_
                                    have GW670 := n5_
                                    have GE670 := n6_
                                    have NB653_670 := n7_
                                    have NB670_653 := n8_
                                    have NB654_670 := n9_
                                    have NB670_654 := n10_
                                    clear n0_ n1_ n2_ n3_ n4_ n5_ n6_ n7_ n8_ n9_ n10_
                                    clear hb hbox hg
                                    refine hK.out _ _ ⟨(blk_cell BK653.out 0).trans rfl, (blk_cell BK653.out 1).trans rfl, (blk_cell BK653.out 2).trans rfl, (blk_cell BK654.out 0).trans rfl, (blk_cell BK654.out 1).trans rfl, (blk_cell BK654.out 2).trans rfl, HS6_⟩ (fun hHeld => ?_)
                                    clear hK K
                                    refine norm_ (a' := ?_) ?_ ?_
                                    rotate_left
                                    · show Act.put _ (some 7) _ = _
                                      simp only [Act.put, List.setIfInBounds_toArray, List.set_cons_zero, List.set_cons_succ, i64_w, i32_w]
                                      rfl
                                    refine one_ (i := 6) (N := some 49) #[true, true, true, true, true, true, true, false, false, false, true, false, false] rfl rfl (one_of HT_.out (by kernel_rfl)) (by decide) (fun K hK => ?_)
                                    refine goes_ Try.func10 (by kernel_rfl) rfl #[.string (rdOf ByteArray.empty y662 x6_3), .agg #[.int .i64 a0_0, .int .i64 a0_1, .string a0_2], .agg #[.int .i64 a1_0, .int .i64 a1_1, .string a1_2]] (by rfl) rfl rfl (by (try simp only [List.map_toArray, List.map_cons, List.map_nil]); first | done | rfl | (simp only [List.length_drop, List.length_take]; rfl)) ?_
                                    with_reducible refine (ops_Two.calls k3 (rdOf ByteArray.empty y662 x6_3) a0_0 a0_1 a0_2 a1_0 a1_1 a1_2 t666 t667 t668 t669 _ A42.out).mono ?_
                                    rintro e w51 ⟨rfl, hb⟩
                                    have HS6_ := (hb.cell (World.block_lt_of_cell? _ _ (hHeld.2.2.2.2.2.2))).trans (hHeld.2.2.2.2.2.2)
                                    refine ⟨_, rfl, ?_⟩
                                    have n0_ := Aside0.mk (Kd.R_below (by (with_reducible repeat (first | apply Kd.R_alloc | apply Kd.R_drewN | apply Kd.R_drew)); exact HO_5.out) hb)
                                    have n1_ := Aside0.mk (blk_below (g := gb653) (o := .cells #[.int .i64 a0_0, .int .i64 a0_1, .string a0_2] 23 (0, 0)) (by exact BK653.out) hb)
                                    have n2_ := Aside0.mk (blk_below (g := gb654) (o := .cells #[.int .i64 a1_0, .int .i64 a1_1, .string a1_2] 23 (0, 0)) (by exact BK654.out) hb)
                                    have n3_ := Aside0.mk (blk_below (g := gb670) (o := .cells #[.int .i64 0, .int .i64 0, .string (⟨#[]⟩ : ByteArray)] 23 (0, 0)) (by exact BK670.out) hb)
                                    have n4_ := Aside0.mk (below_step (by repeat (first | (with_reducible first | exact HB.out | apply below_alloc | apply pw_below_drewN | apply below_drew1 | refine below_set ?_ GE653.out | refine below_set ?_ GE654.out | refine below_set ?_ GE670.out) | exact HB.out)) hb)
                                    clear HO_5
                                    clear BK653
                                    clear BK654
                                    clear BK670
                                    clear HB
                                    have HO_5 := n0_
                                    have BK653 := n1_
                                    have BK654 := n2_
                                    have BK670 := n3_
                                    have HB := n4_
                                    clear n0_ n1_ n2_ n3_ n4_
                                    (try clear hb)
                                    (try clear hb2)
                                    (try clear hk)
                                    (try clear hi)
                                    refine hK.out _ _ ⟨(blk_cell BK653.out 0).trans rfl, (blk_cell BK653.out 1).trans rfl, (blk_cell BK653.out 2).trans rfl, (blk_cell BK654.out 0).trans rfl, (blk_cell BK654.out 1).trans rfl, (blk_cell BK654.out 2).trans rfl, HS6_⟩ (fun hHeld => ?_)
                                    clear hK K
                                    refine norm_ (a' := ?_) ?_ ?_
                                    rotate_left
                                    · show Act.put _ (some 49) _ = _
                                      simp only [Act.put, List.setIfInBounds_toArray, List.set_cons_zero, List.set_cons_succ, i64_w, i32_w]
                                      rfl
                                    refine pure_ (i := 7) (N := some 42) (v := ?_) (a' := ?_) #[true, true, true, true, true, true, true, true, false, false, true, false, false] rfl rfl (any_of HT_.out (by kernel_rfl)) (fun _ _ _ h => h) (Or.inl ⟨by rfl, ?_⟩) ?_ ?_
                                    rotate_left
                                    · intro w'
                                      go_simp
                                      with_reducible rfl
                                    rotate_left
                                    · simp only [Act.put, List.setIfInBounds_toArray, List.set_cons_zero, List.set_cons_succ, i64_w, i32_w]
                                      rfl
                                    refine pure_ (i := 8) (N := some 50) (v := ?_) (a' := ?_) #[true, true, true, true, true, true, true, true, true, false, true, false, false] rfl rfl (any_of HT_.out (by kernel_rfl)) (fun _ _ _ h => h) (Or.inl ⟨by rfl, ?_⟩) ?_ ?_
                                    rotate_left
                                    · intro w'
                                      go_simp
                                      with_reducible rfl
                                    rotate_left
                                    · simp only [Act.put, List.setIfInBounds_toArray, List.set_cons_zero, List.set_cons_succ, i64_w, i32_w]
                                      rfl
                                    refine pure_ (i := 9) (N := some 51) (v := ?_) (a' := ?_) #[true, true, true, true, true, true, true, true, true, true, true, false, false] rfl rfl (any_of HT_.out (by kernel_rfl)) (fun _ _ _ h => h) (Or.inl ⟨by rfl, ?_⟩) ?_ ?_
                                    rotate_left
                                    · intro w'
                                      go_simp
                                      with_reducible rfl
                                    rotate_left
                                    · simp only [Act.put, List.setIfInBounds_toArray, List.set_cons_zero, List.set_cons_succ, i64_w, i32_w]
                                      rfl
                                    exact norm_ (by simp only [putAll, Act.put, List.setIfInBounds_toArray, List.set_cons_zero, List.set_cons_succ]) (hCont (gb670) _ ⟨hHeld, (by (with_reducible repeat (first | apply Kd.R_alloc | apply Kd.R_drewN | apply Kd.R_drew)); exact HO_5.out), BK653.out, BK654.out, BK670.out, GW670.out, GE670.out, NB653_670.out, NB670_653.out, NB654_670.out, NB670_654.out, (by repeat (first | (with_reducible first | exact HB.out | apply below_alloc | apply pw_below_drewN | apply below_drew1 | refine below_set ?_ GE653.out | refine below_set ?_ GE654.out | refine below_set ?_ GE670.out) | exact HB.out))⟩)
                                rintro gb670 w52 ⟨hS_, h0_, h1_, h2_, h3_, h4_, h5_, h6_, h7_, h8_, h9_, h10_⟩
                                have n0_ : Aside0 (Kd.R Kd.string 9 w52 w.heap.size (fun _ => True) (.slice (some ad665) y662.length co48) y662) := ⟨h0_⟩
                                have n1_ : Aside0 (w52.heap[gb653]? = some (.cells #[.int .i64 a0_0, .int .i64 a0_1, .string a0_2] 23 (0, 0))) := ⟨h1_⟩
                                have n2_ : Aside0 (w52.heap[gb654]? = some (.cells #[.int .i64 a1_0, .int .i64 a1_1, .string a1_2] 23 (0, 0))) := ⟨h2_⟩
                                have n3_ : Aside0 (w52.heap[gb670]? = some (.cells #[.int .i64 0, .int .i64 0, .string (⟨#[]⟩ : ByteArray)] 23 (0, 0))) := ⟨h3_⟩
                                have n4_ : Aside0 (w.heap.size ≤ gb670) := ⟨h4_⟩
                                have n5_ : Aside0 (w.heap.size ≤ gb670) := ⟨h5_⟩
                                have n6_ : Aside0 (gb653 ≠ gb670) := ⟨h6_⟩
                                have n7_ : Aside0 (gb670 ≠ gb653) := ⟨h7_⟩
                                have n8_ : Aside0 (gb654 ≠ gb670) := ⟨h8_⟩
                                have n9_ : Aside0 (gb670 ≠ gb654) := ⟨h9_⟩
                                have n10_ : Aside0 (Below w.heap.size w w52) := ⟨h10_⟩
                                clear HO_5
                                clear BK653
                                clear BK654
                                clear HB
                                clear h0_ h1_ h2_ h3_ h4_ h5_ h6_ h7_ h8_ h9_ h10_
                                have HO_5 := n0_
                                have BK653 := n1_
                                have BK654 := n2_
                                have BK670 := n3_
                                have GW670 := n4_
                                have GE670 := n5_
                                have NB653_670 := n6_
                                have NB670_653 := n7_
                                have NB654_670 := n8_
                                have NB670_654 := n9_
                                have HB := n10_
                                clear n0_ n1_ n2_ n3_ n4_ n5_ n6_ n7_ n8_ n9_ n10_
                                have hHeld : w52.cell? ⟨gb653, 0, none⟩ = some (.int .i64 a0_0) ∧ w52.cell? ⟨gb653, 1, none⟩ = some (.int .i64 a0_1) ∧ w52.cell? ⟨gb653, 2, none⟩ = some (.string a0_2) ∧ w52.cell? ⟨gb654, 0, none⟩ = some (.int .i64 a1_0) ∧ w52.cell? ⟨gb654, 1, none⟩ = some (.int .i64 a1_1) ∧ w52.cell? ⟨gb654, 2, none⟩ = some (.string a1_2) ∧ w52.cell? (ad665.add (x6_3).toNat) = some (.string (rdOf ByteArray.empty y662 x6_3)) := hS_
                                refine norm_ (a' := ?_) ?_ ?_
                                rotate_left
                                · simp only [putAll, Act.put, List.setIfInBounds_toArray, List.set_cons_zero, List.set_cons_succ]
                                  rfl
                                refine one_ (i := 11) (N := none) #[true, true, true, true, true, true, true, true, true, true, true, true, false] rfl rfl (one_of HT_.out (by kernel_rfl)) (by decide) (fun K hK => ?_)
                                have hs53 : w52.cell? ⟨gb670, 0, none⟩ = some (.int .i64 0) := (blk_cell BK670.out 0).trans rfl
                                have hfs53 := blk_frozen BK670.out 0
                                have hns53_0 := NB653_670.out
                                have hns53_1 := NB654_670.out
                                have hms53_0 := NB670_653.out
                                have hms53_1 := NB670_654.out
                                have hs54 : w52.cell? ⟨gb670, 1, none⟩ = some (.int .i64 0) := (blk_cell BK670.out 1).trans rfl
                                have hfs54 := blk_frozen BK670.out 1
                                have hns54_0 := NB653_670.out
                                have hns54_1 := NB654_670.out
                                have hms54_0 := NB670_653.out
                                have hms54_1 := NB670_654.out
                                have hs55 : w52.cell? ⟨gb670, 2, none⟩ = some (.string (⟨#[]⟩ : ByteArray)) := (blk_cell BK670.out 2).trans rfl
                                have hfs55 := blk_frozen BK670.out 2
                                have hns55_0 := NB653_670.out
                                have hns55_1 := NB654_670.out
                                have hms55_0 := NB670_653.out
                                have hms55_1 := NB670_654.out
                                refine skip_ (w1 := ?_) (by rfl) rfl ?_ ?_
                                rotate_left
                                · go_simp
                                  rfl
                                refine hK.out _ _ ⟨((cell_far (p := ⟨gb670, _, none⟩) NB653_670.out _).trans (((cell_far (p := ⟨gb670, _, none⟩) NB653_670.out _).trans (((cell_far (p := ⟨gb670, _, none⟩) NB653_670.out _).trans (hHeld.1)))))), ((cell_far (p := ⟨gb670, _, none⟩) NB653_670.out _).trans (((cell_far (p := ⟨gb670, _, none⟩) NB653_670.out _).trans (((cell_far (p := ⟨gb670, _, none⟩) NB653_670.out _).trans (hHeld.2.1)))))), ((cell_far (p := ⟨gb670, _, none⟩) NB653_670.out _).trans (((cell_far (p := ⟨gb670, _, none⟩) NB653_670.out _).trans (((cell_far (p := ⟨gb670, _, none⟩) NB653_670.out _).trans (hHeld.2.2.1)))))), ((cell_far (p := ⟨gb670, _, none⟩) NB654_670.out _).trans (((cell_far (p := ⟨gb670, _, none⟩) NB654_670.out _).trans (((cell_far (p := ⟨gb670, _, none⟩) NB654_670.out _).trans (hHeld.2.2.2.1)))))), ((cell_far (p := ⟨gb670, _, none⟩) NB654_670.out _).trans (((cell_far (p := ⟨gb670, _, none⟩) NB654_670.out _).trans (((cell_far (p := ⟨gb670, _, none⟩) NB654_670.out _).trans (hHeld.2.2.2.2.1)))))), ((cell_far (p := ⟨gb670, _, none⟩) NB654_670.out _).trans (((cell_far (p := ⟨gb670, _, none⟩) NB654_670.out _).trans (((cell_far (p := ⟨gb670, _, none⟩) NB654_670.out _).trans (hHeld.2.2.2.2.2.1)))))), ((cell_far (p := ⟨gb670, _, none⟩) (by first | exact Kd.own_blk (Kd.R_ne HO_5.out BK670.out (by decide)) | (rw [add_block]; exact Kd.own_blk (Kd.R_ne HO_5.out BK670.out (by decide))) | (show (Addr.add _ _).block ≠ _; rw [add_block]; exact Kd.own_blk (Kd.R_ne HO_5.out BK670.out (by decide))) | (dsimp only; exact Kd.own_blk (Kd.R_ne HO_5.out BK670.out (by decide)))) _).trans (((cell_far (p := ⟨gb670, _, none⟩) (by first | exact Kd.own_blk (Kd.R_ne HO_5.out BK670.out (by decide)) | (rw [add_block]; exact Kd.own_blk (Kd.R_ne HO_5.out BK670.out (by decide))) | (show (Addr.add _ _).block ≠ _; rw [add_block]; exact Kd.own_blk (Kd.R_ne HO_5.out BK670.out (by decide))) | (dsimp only; exact Kd.own_blk (Kd.R_ne HO_5.out BK670.out (by decide)))) _).trans (((cell_far (p := ⟨gb670, _, none⟩) (by first | exact Kd.own_blk (Kd.R_ne HO_5.out BK670.out (by decide)) | (rw [add_block]; exact Kd.own_blk (Kd.R_ne HO_5.out BK670.out (by decide))) | (show (Addr.add _ _).block ≠ _; rw [add_block]; exact Kd.own_blk (Kd.R_ne HO_5.out BK670.out (by decide))) | (dsimp only; exact Kd.own_blk (Kd.R_ne HO_5.out BK670.out (by decide)))) _).trans (hHeld.2.2.2.2.2.2))))))⟩ (fun hHeld => ?_)
                                clear hK K
                                refine pure_ (i := 12) (N := some 8) (v := ?_) (a' := ?_) #[true, true, true, true, true, true, true, true, true, true, true, true, true] rfl rfl (any_of HT_.out (by kernel_rfl)) (fun _ _ _ h => h) (Or.inl ⟨by rfl, ?_⟩) ?_ ?_
                                rotate_left
                                · intro w'
                                  go_simp
                                  with_reducible rfl
                                rotate_left
                                · simp only [Act.put, List.setIfInBounds_toArray, List.set_cons_zero, List.set_cons_succ, i64_w, i32_w]
                                  rfl
                                refine done_ (done_of HT_.out (by kernel_rfl)) ?_
                                have hnb56 := NB670_653.out
                                have hnc56 := NB653_670.out
                                have hnb57 := NB670_654.out
                                have hnc57 := NB654_670.out
                                have hcz58_0 : w52.cell? ⟨gb670, 0, none⟩ = some (.int .i64 0) := (blk_cell BK670.out 0).trans rfl
                                have hcz58_1 : w52.cell? ⟨gb670, 1, none⟩ = some (.int .i64 0) := (blk_cell BK670.out 1).trans rfl
                                have hcz58_2 : w52.cell? ⟨gb670, 2, none⟩ = some (.string (⟨#[]⟩ : ByteArray)) := (blk_cell BK670.out 2).trans rfl
                                have hfz58_0 := blk_frozen BK670.out 0
                                have hfz58_1 := blk_frozen BK670.out 1
                                have hfz58_2 := blk_frozen BK670.out 2
                                have hnb59 := NB653_654.out
                                have hnc59 := NB654_653.out
                                have hcz60_0 : w52.cell? ⟨gb653, 0, none⟩ = some (.int .i64 a0_0) := (blk_cell BK653.out 0).trans rfl
                                have hcz60_1 : w52.cell? ⟨gb653, 1, none⟩ = some (.int .i64 a0_1) := (blk_cell BK653.out 1).trans rfl
                                have hcz60_2 : w52.cell? ⟨gb653, 2, none⟩ = some (.string a0_2) := (blk_cell BK653.out 2).trans rfl
                                have hfz60_0 := blk_frozen BK653.out 0
                                have hfz60_1 := blk_frozen BK653.out 1
                                have hfz60_2 := blk_frozen BK653.out 2
                                have hcz61_0 : w52.cell? ⟨gb654, 0, none⟩ = some (.int .i64 a1_0) := (blk_cell BK654.out 0).trans rfl
                                have hcz61_1 : w52.cell? ⟨gb654, 1, none⟩ = some (.int .i64 a1_1) := (blk_cell BK654.out 1).trans rfl
                                have hcz61_2 : w52.cell? ⟨gb654, 2, none⟩ = some (.string a1_2) := (blk_cell BK654.out 2).trans rfl
                                have hfz61_0 := blk_frozen BK654.out 0
                                have hfz61_1 := blk_frozen BK654.out 1
                                have hfz61_2 := blk_frozen BK654.out 2
                                have p671 : 0 ≤ (x6_3 : Int) := of_decide_eq_true (by first | (with_reducible assumption) | assumption)
                                have q671 : x6_3 < (y662.length : Int) := of_decide_eq_true (by first | (with_reducible assumption) | assumption)
                                obtain ⟨ad671, e671, hx671_0⟩ := Kd.at_string (Kd.R_reads' HO_5.out).2.2 x6_3 p671 q671
                                obtain rfl : ad665 = ad671 := (by injection e671)
                                have hn671_0 : ad665.block ≠ gb670 := Kd.own_blk (Kd.R_ne HO_5.out BK670.out (by decide))
                                have hn671_1 : ad665.block ≠ gb670 := Kd.own_blk (Kd.R_ne HO_5.out BK670.out (by decide))
                                have hn671_2 : ad665.block ≠ gb670 := Kd.own_blk (Kd.R_ne HO_5.out BK670.out (by decide))
                                replace hx671_0 := (cell_far (p := ⟨gb670, 0, none⟩) (by first | (rw [add_block]; exact hn671_0) | (show (Addr.add _ _).block ≠ _; rw [add_block]; exact hn671_0) | exact hn671_0) (.int .i64 t666)).trans hx671_0
                                replace hx671_0 := (cell_far (p := ⟨gb670, 1, none⟩) (by first | (rw [add_block]; exact hn671_1) | (show (Addr.add _ _).block ≠ _; rw [add_block]; exact hn671_1) | exact hn671_1) (.int .i64 t667)).trans hx671_0
                                replace hx671_0 := (cell_far (p := ⟨gb670, 2, none⟩) (by first | (rw [add_block]; exact hn671_2) | (show (Addr.add _ _).block ≠ _; rw [add_block]; exact hn671_2) | exact hn671_2) (.string t668)).trans hx671_0
                                clear hn671_0
                                clear hn671_1
                                clear hn671_2
                                replace p671 := eq_true p671
                                replace q671 := eq_true q671
                                have p672 : 0 ≤ (x6_3 : Int) := of_decide_eq_true (by first | (with_reducible assumption) | assumption)
                                have q672 : x6_3 < (y662.length : Int) := of_decide_eq_true (by first | (with_reducible assumption) | assumption)
                                obtain ⟨ad672, e672, hx672_0⟩ := Kd.at_string (Kd.R_reads' HO_5.out).2.2 x6_3 p672 q672
                                obtain rfl : ad665 = ad672 := (by injection e672)
                                have hn672_0 : ad665.block ≠ gb670 := Kd.own_blk (Kd.R_ne HO_5.out BK670.out (by decide))
                                have hn672_1 : ad665.block ≠ gb670 := Kd.own_blk (Kd.R_ne HO_5.out BK670.out (by decide))
                                have hn672_2 : ad665.block ≠ gb670 := Kd.own_blk (Kd.R_ne HO_5.out BK670.out (by decide))
                                replace hx672_0 := (cell_far (p := ⟨gb670, 0, none⟩) (by first | (rw [add_block]; exact hn672_0) | (show (Addr.add _ _).block ≠ _; rw [add_block]; exact hn672_0) | exact hn672_0) (.int .i64 t666)).trans hx672_0
                                replace hx672_0 := (cell_far (p := ⟨gb670, 1, none⟩) (by first | (rw [add_block]; exact hn672_1) | (show (Addr.add _ _).block ≠ _; rw [add_block]; exact hn672_1) | exact hn672_1) (.int .i64 t667)).trans hx672_0
                                replace hx672_0 := (cell_far (p := ⟨gb670, 2, none⟩) (by first | (rw [add_block]; exact hn672_2) | (show (Addr.add _ _).block ≠ _; rw [add_block]; exact hn672_2) | exact hn672_2) (.string t668)).trans hx672_0
                                clear hn672_0
                                clear hn672_1
                                clear hn672_2
                                replace p672 := eq_true p672
                                replace q672 := eq_true q672
                                try go_wp2
                                go_roundg k3
                                case measure => have := HJ2.out; have := HJ19.out; have := HK3.out; omega
                                case rel => exact ⟨(wrap64 (x6_3 + 1)), (by first | rfl | (simp; done) | (simp [*]; done)), H', ⟨by have := HJ2.out; have := HJ19.out; have := HK3.out; omega⟩, ⟨by (with_reducible repeat (first | apply Kd.R_alloc | apply Kd.R_drewN | apply Kd.R_drew)); exact Kd.R_mono (Kd.R_far (p := ⟨gb670, 2, none⟩) (Kd.R_far (p := ⟨gb670, 1, none⟩) (Kd.R_far (p := ⟨gb670, 0, none⟩) (Kd.R_types HO_5.out BK670.out (by decide)) (fun _ hk => hk.2) (.int .i64 t666)) (fun _ hk => hk.2) (.int .i64 t667)) (fun _ hk => hk.2) (.string t668)) (fun _ hk => trivial)⟩, ⟨by refine blk_far ?_ NB653_670.out _; refine blk_far ?_ NB653_670.out _; refine blk_far ?_ NB653_670.out _; exact BK653.out⟩, ⟨by refine blk_far ?_ NB654_670.out _; refine blk_far ?_ NB654_670.out _; refine blk_far ?_ NB654_670.out _; exact BK654.out⟩, ⟨by repeat (first | (with_reducible first | exact HB.out | apply below_alloc | apply pw_below_drewN | apply below_drew1 | refine below_set ?_ GE653.out | refine below_set ?_ GE654.out | refine below_set ?_ GE670.out) | exact HB.out)⟩⟩
                              · rw [if_neg c47] at H
                                have c47b0 : (t666 == 2) = false := beq_eq_false_iff_ne.mpr c47
                                have c47b1 : (t666 != 2) = true := bne_iff_ne.mpr c47
                                exact absurd ((Option.some.inj H).trans HR.out) (by decide)
                            · rw [if_neg c46] at H
                              have c46b0 : ((rdOf ByteArray.empty y662 x6_3).toList == ([46, 46] : List UInt8)) = false := beq_eq_false_iff_ne.mpr c46
                              have c46b1 : ((rdOf ByteArray.empty y662 x6_3).toList != ([46, 46] : List UInt8)) = true := bne_iff_ne.mpr c46
                              by_cases c76 : t666 = 1
                              · rw [if_pos c76] at H
                                have c76b0 : (t666 == 1) = true := beq_iff_eq.mpr c76
                                have c76b1 : (t666 != 1) = false := bne_eq_false_iff_eq.mpr c76
                                clear c76
                                have H' := Aside0.mk H
                                clear H
                                obtain ⟨Ao77, co77, eo77⟩ := Kd.R_slice HO_5.out
                                subst eo77
                                try go_wp2
                                have n0_ := Aside0.mk (Kd.R_drew HO_5.out)
                                have n1_ := Aside0.mk (blk_drew BK653.out)
                                have n2_ := Aside0.mk (blk_drew BK654.out)
                                have n3_ := Aside0.mk (below_drew1 HB.out)
                                clear HO_5
                                clear BK653
                                clear BK654
                                clear HB
                                have HO_5 := n0_
                                have BK653 := n1_
                                have BK654 := n2_
                                have HB := n3_
                                clear n0_ n1_ n2_ n3_
                                have p665 : 0 ≤ (x6_3 : Int) := of_decide_eq_true (by first | (with_reducible assumption) | assumption)
                                have q665 : x6_3 < (y662.length : Int) := of_decide_eq_true (by first | (with_reducible assumption) | assumption)
                                obtain ⟨ad665, e665, hx665_0⟩ := Kd.at_string (Kd.R_reads' HO_5.out).2.2 x6_3 p665 q665
                                cases e665
                                replace p665 := eq_true p665
                                replace q665 := eq_true q665
                                refine start_ (n := 13) (S := fun w' => w'.cell? ⟨gb653, 0, none⟩ = some (.int .i64 a0_0) ∧ w'.cell? ⟨gb653, 1, none⟩ = some (.int .i64 a0_1) ∧ w'.cell? ⟨gb653, 2, none⟩ = some (.string a0_2) ∧ w'.cell? ⟨gb654, 0, none⟩ = some (.int .i64 a1_0) ∧ w'.cell? ⟨gb654, 1, none⟩ = some (.int .i64 a1_1) ∧ w'.cell? ⟨gb654, 2, none⟩ = some (.string a1_2) ∧ w'.cell? (ad665.add (x6_3).toNat) = some (.string (rdOf ByteArray.empty y662 x6_3))) (ds := []) #[false, false, false, false, false, false, false, false, false, false, false, false, false] (by kernel_rfl) rfl rfl ⟨(blk_cell BK653.out 0).trans rfl, (blk_cell BK653.out 1).trans rfl, (blk_cell BK653.out 2).trans rfl, (blk_cell BK654.out 0).trans rfl, (blk_cell BK654.out 1).trans rfl, (blk_cell BK654.out 2).trans rfl, hx665_0⟩ (fun hHeld => ?_); refine with_tabW chrysalislaw17_OpsShows.tab9 chrysalislaw17_OpsShows.bits9 (fun HT_ HW_ => ?_)
                                generalize wr.drew = w78 at HO_5 BK653 BK654 HB hx665_0 hHeld ⊢
                                refine pure_ (i := 0) (N := some 43) (v := ?_) (a' := ?_) #[true, false, false, false, false, false, false, false, false, false, false, false, false] rfl rfl (any_of HT_.out (by kernel_rfl)) (fun _ _ _ h => h) (Or.inl ⟨by rfl, ?_⟩) ?_ ?_
                                rotate_left
                                · intro w'
                                  go_simp
                                  with_reducible rfl
                                rotate_left
                                · simp only [Act.put, List.setIfInBounds_toArray, List.set_cons_zero, List.set_cons_succ, i64_w, i32_w]
                                  rfl
                                refine pure_ (i := 1) (N := some 44) (v := ?_) (a' := ?_) #[true, true, false, false, false, false, false, false, false, false, false, false, false] rfl rfl (any_of HT_.out (by kernel_rfl)) (fun _ _ _ h => h) (Or.inl ⟨by rfl, ?_⟩) ?_ ?_
                                rotate_left
                                · intro w'
                                  go_simp
                                  with_reducible rfl
                                rotate_left
                                · simp only [Act.put, List.setIfInBounds_toArray, List.set_cons_zero, List.set_cons_succ, i64_w, i32_w]
                                  rfl
                                refine pure_ (i := 2) (N := some 45) (v := ?_) (a' := ?_) #[true, true, true, false, false, false, false, false, false, false, false, false, false] rfl rfl (any_of HT_.out (by kernel_rfl)) (fun _ _ _ h => h) (Or.inl ⟨by rfl, ?_⟩) ?_ ?_
                                rotate_left
                                · intro w'
                                  go_simp
                                  with_reducible rfl
                                rotate_left
                                · simp only [Act.put, List.setIfInBounds_toArray, List.set_cons_zero, List.set_cons_succ, i64_w, i32_w]
                                  rfl
                                refine take_ (i := 3) (N := some 46) (v := ?_) (a' := ?_) #[true, true, true, true, false, false, false, false, false, false, false, false, false] rfl rfl (take_ofW HT_.out HW_.out (by kernel_rfl)) (fun _ _ _ h => h) (Or.inl ⟨by rfl, ?_⟩) hHeld ?_ ?_
                                rotate_left
                                · rintro w' ⟨s0, s1, s2, s3, s4, s5, s6⟩
                                  go_simp
                                  with_reducible rfl
                                rotate_left
                                · simp only [Act.put, List.setIfInBounds_toArray, List.set_cons_zero, List.set_cons_succ, i64_w, i32_w]
                                  rfl
                                refine take_ (i := 4) (N := some 47) (v := ?_) (a' := ?_) #[true, true, true, true, true, false, false, false, false, false, false, false, false] rfl rfl (take_ofW HT_.out HW_.out (by kernel_rfl)) (fun _ _ _ h => h) (Or.inl ⟨by rfl, ?_⟩) hHeld ?_ ?_
                                rotate_left
                                · rintro w' ⟨s0, s1, s2, s3, s4, s5, s6⟩
                                  go_simp
                                  with_reducible rfl
                                rotate_left
                                · simp only [Act.put, List.setIfInBounds_toArray, List.set_cons_zero, List.set_cons_succ, i64_w, i32_w]
                                  rfl
                                refine take_ (i := 5) (N := some 48) (v := ?_) (a' := ?_) #[true, true, true, true, true, true, false, false, false, false, false, false, false] rfl rfl (take_ofW HT_.out HW_.out (by kernel_rfl)) (fun _ _ _ h => h) (Or.inl ⟨by rfl, ?_⟩) hHeld ?_ ?_
                                rotate_left
                                · rintro w' ⟨s0, s1, s2, s3, s4, s5, s6⟩
                                  go_simp
                                  with_reducible rfl
                                rotate_left
                                · simp only [Act.put, List.setIfInBounds_toArray, List.set_cons_zero, List.set_cons_succ, i64_w, i32_w]
                                  rfl
                                refine join_ (σ := Nat) 2 #[true, true, true, true, true, true, true, true, true, true, true, false, false] (fun s_ => [(49, .tuple #[.agg #[.int .i64 t666, .int .i64 t667, .string t668], .int .i64 t669]), (7, .pointer (some ⟨s_, 0, none⟩)), (42, .tuple #[.agg #[.int .i64 t666, .int .i64 t667, .string t668], .int .i64 t669]), (50, .agg #[.int .i64 t666, .int .i64 t667, .string t668]), (51, .int .i64 t669)]) (fun s_ w' => (w'.cell? ⟨gb653, 0, none⟩ = some (.int .i64 a0_0) ∧ w'.cell? ⟨gb653, 1, none⟩ = some (.int .i64 a0_1) ∧ w'.cell? ⟨gb653, 2, none⟩ = some (.string a0_2) ∧ w'.cell? ⟨gb654, 0, none⟩ = some (.int .i64 a1_0) ∧ w'.cell? ⟨gb654, 1, none⟩ = some (.int .i64 a1_1) ∧ w'.cell? ⟨gb654, 2, none⟩ = some (.string a1_2) ∧ w'.cell? (ad665.add (x6_3).toNat) = some (.string (rdOf ByteArray.empty y662 x6_3))) ∧ (Kd.R Kd.string 9 w' w.heap.size (fun _ => True) (.slice (some ad665) y662.length co77) y662) ∧ (w'.heap[gb653]? = some (.cells #[.int .i64 a0_0, .int .i64 a0_1, .string a0_2] 23 (0, 0))) ∧ (w'.heap[gb654]? = some (.cells #[.int .i64 a1_0, .int .i64 a1_1, .string a1_2] 23 (0, 0))) ∧ (w'.heap[s_]? = some (.cells #[.int .i64 0, .int .i64 0, .string (⟨#[]⟩ : ByteArray)] 23 (0, 0))) ∧ (w.heap.size ≤ s_) ∧ (w.heap.size ≤ s_) ∧ (gb653 ≠ s_) ∧ (s_ ≠ gb653) ∧ (gb654 ≠ s_) ∧ (s_ ≠ gb654) ∧ (Below w.heap.size w w')) ?_ ?_
                                rotate_left
                                · intro hCont
                                  refine two_ (i := 6) (j := 10) (Ni := some 49) (Nj := some 7) #[true, true, true, true, true, true, true, false, false, false, false, false, false] #[true, true, true, true, true, true, false, false, false, false, true, false, false] rfl rfl rfl rfl (two_of HT_.out (by kernel_rfl)) (by decide) (by decide) (fun K hK => ?_) (fun K hK => ?_)
                                  · skip
                                    refine goes_ Try.func10 (by kernel_rfl) rfl #[.string (rdOf ByteArray.empty y662 x6_3), .agg #[.int .i64 a0_0, .int .i64 a0_1, .string a0_2], .agg #[.int .i64 a1_0, .int .i64 a1_1, .string a1_2]] (by rfl) rfl rfl (by (try simp only [List.map_toArray, List.map_cons, List.map_nil]); first | done | rfl | (simp only [List.length_drop, List.length_take]; rfl)) ?_
                                    with_reducible refine (ops_Two.calls k3 (rdOf ByteArray.empty y662 x6_3) a0_0 a0_1 a0_2 a1_0 a1_1 a1_2 t666 t667 t668 t669 _ A42.out).mono ?_
                                    rintro e w79 ⟨rfl, hb⟩
                                    have HS6_ := (hb.cell (World.block_lt_of_cell? _ _ (hHeld.2.2.2.2.2.2))).trans (hHeld.2.2.2.2.2.2)
                                    refine ⟨_, rfl, ?_⟩
                                    have n0_ := Aside0.mk (Kd.R_below (by (with_reducible repeat (first | apply Kd.R_alloc | apply Kd.R_drewN | apply Kd.R_drew)); exact HO_5.out) hb)
                                    have n1_ := Aside0.mk (blk_below (g := gb653) (o := .cells #[.int .i64 a0_0, .int .i64 a0_1, .string a0_2] 23 (0, 0)) (by exact BK653.out) hb)
                                    have n2_ := Aside0.mk (blk_below (g := gb654) (o := .cells #[.int .i64 a1_0, .int .i64 a1_1, .string a1_2] 23 (0, 0)) (by exact BK654.out) hb)
                                    have n3_ := Aside0.mk (below_step (by repeat (first | (with_reducible first | exact HB.out | apply below_alloc | apply pw_below_drewN | apply below_drew1 | refine below_set ?_ GE653.out | refine below_set ?_ GE654.out) | exact HB.out)) hb)
                                    clear HO_5
                                    clear BK653
                                    clear BK654
                                    clear HB
                                    have HO_5 := n0_
                                    have BK653 := n1_
                                    have BK654 := n2_
                                    have HB := n3_
                                    clear n0_ n1_ n2_ n3_
                                    (try clear hb)
                                    (try clear hb2)
                                    (try clear hk)
                                    (try clear hi)
                                    refine hK.out _ _ ⟨(blk_cell BK653.out 0).trans rfl, (blk_cell BK653.out 1).trans rfl, (blk_cell BK653.out 2).trans rfl, (blk_cell BK654.out 0).trans rfl, (blk_cell BK654.out 1).trans rfl, (blk_cell BK654.out 2).trans rfl, HS6_⟩ (fun hHeld => ?_)
                                    clear hK K
                                    refine norm_ (a' := ?_) ?_ ?_
                                    rotate_left
                                    · show Act.put _ (some 49) _ = _
                                      simp only [Act.put, List.setIfInBounds_toArray, List.set_cons_zero, List.set_cons_succ, i64_w, i32_w]
                                      rfl
                                    refine pure_ (i := 7) (N := some 42) (v := ?_) (a' := ?_) #[true, true, true, true, true, true, true, true, false, false, false, false, false] rfl rfl (any_of HT_.out (by kernel_rfl)) (fun _ _ _ h => h) (Or.inl ⟨by rfl, ?_⟩) ?_ ?_
                                    rotate_left
                                    · intro w'
                                      go_simp
                                      with_reducible rfl
                                    rotate_left
                                    · simp only [Act.put, List.setIfInBounds_toArray, List.set_cons_zero, List.set_cons_succ, i64_w, i32_w]
                                      rfl
                                    refine pure_ (i := 8) (N := some 50) (v := ?_) (a' := ?_) #[true, true, true, true, true, true, true, true, true, false, false, false, false] rfl rfl (any_of HT_.out (by kernel_rfl)) (fun _ _ _ h => h) (Or.inl ⟨by rfl, ?_⟩) ?_ ?_
                                    rotate_left
                                    · intro w'
                                      go_simp
                                      with_reducible rfl
                                    rotate_left
                                    · simp only [Act.put, List.setIfInBounds_toArray, List.set_cons_zero, List.set_cons_succ, i64_w, i32_w]
                                      rfl
                                    refine pure_ (i := 9) (N := some 51) (v := ?_) (a' := ?_) #[true, true, true, true, true, true, true, true, true, true, false, false, false] rfl rfl (any_of HT_.out (by kernel_rfl)) (fun _ _ _ h => h) (Or.inl ⟨by rfl, ?_⟩) ?_ ?_
                                    rotate_left
                                    · intro w'
                                      go_simp
                                      with_reducible rfl
                                    rotate_left
                                    · simp only [Act.put, List.setIfInBounds_toArray, List.set_cons_zero, List.set_cons_succ, i64_w, i32_w]
                                      rfl
                                    refine one_ (i := 10) (N := some 7) #[true, true, true, true, true, true, true, true, true, true, true, false, false] rfl rfl (one_of HT_.out (by kernel_rfl)) (by decide) (fun K hK => ?_)
                                    refine box_step ?hg (N := 7) ?hd (cs := #[.int .i64 0, .int .i64 0, .string (⟨#[]⟩ : ByteArray)]) (t := 23) ?hr ?_; (case hd => rfl); (case hg => rfl); (case hr => first | (go_simp; done) | (go_simp; rfl))
                                    intro gb670 hg w80 hbox hb
                                    have HS6_ := (hb.cell (World.block_lt_of_cell? _ _ (hHeld.2.2.2.2.2.2))).trans (hHeld.2.2.2.2.2.2)
                                    have n0_ := Aside0.mk (Kd.R_below (by (with_reducible repeat (first | apply Kd.R_alloc | apply Kd.R_drewN | apply Kd.R_drew)); exact HO_5.out) hb)
                                    have n1_ := Aside0.mk (blk_below (g := gb653) (o := .cells #[.int .i64 a0_0, .int .i64 a0_1, .string a0_2] 23 (0, 0)) (by exact BK653.out) hb)
                                    have n2_ := Aside0.mk (blk_below (g := gb654) (o := .cells #[.int .i64 a1_0, .int .i64 a1_1, .string a1_2] 23 (0, 0)) (by exact BK654.out) hb)
                                    have n3_ := Aside0.mk (below_step (by repeat (first | (with_reducible first | exact HB.out | apply below_alloc | apply pw_below_drewN | apply below_drew1 | refine below_set ?_ GE653.out | refine below_set ?_ GE654.out) | exact HB.out)) hb)
                                    have n4_ := Aside0.mk (hbox)
                                    have n5_ := Aside0.mk ((by rw [hg]; exact (below_size (by repeat (first | (with_reducible first | exact HB.out | apply below_alloc | apply pw_below_drewN | apply below_drew1 | refine below_set ?_ GE653.out | refine below_set ?_ GE654.out) | exact HB.out))) : w.heap.size ≤ gb670))
                                    have n6_ := Aside0.mk ((by rw [hg]; exact (below_size (by repeat (first | (with_reducible first | exact HB.out | apply below_alloc | apply pw_below_drewN | apply below_drew1 | refine below_set ?_ GE653.out | refine below_set ?_ GE654.out) | exact HB.out))) : w.heap.size ≤ gb670))
                                    have n7_ := Aside0.mk ((by rw [hg]; exact Nat.ne_of_lt (blk_lt (g := gb653) (o := .cells #[.int .i64 a0_0, .int .i64 a0_1, .string a0_2] 23 (0, 0)) BK653.out) : gb653 ≠ gb670))
                                    have n8_ := Aside0.mk ((by rw [hg]; exact Nat.ne_of_gt (blk_lt (g := gb653) (o := .cells #[.int .i64 a0_0, .int .i64 a0_1, .string a0_2] 23 (0, 0)) BK653.out) : gb670 ≠ gb653))
                                    have n9_ := Aside0.mk ((by rw [hg]; exact Nat.ne_of_lt (blk_lt (g := gb654) (o := .cells #[.int .i64 a1_0, .int .i64 a1_1, .string a1_2] 23 (0, 0)) BK654.out) : gb654 ≠ gb670))
                                    have n10_ := Aside0.mk ((by rw [hg]; exact Nat.ne_of_gt (blk_lt (g := gb654) (o := .cells #[.int .i64 a1_0, .int .i64 a1_1, .string a1_2] 23 (0, 0)) BK654.out) : gb670 ≠ gb654))
                                    clear HO_5
                                    clear BK653
                                    clear BK654
                                    clear HB
                                    have HO_5 := n0_
                                    have BK653 := n1_
                                    have BK654 := n2_
                                    have HB := n3_
                                    have BK670 := n4_
                                    have GW670 := n5_
                                    have GE670 := n6_
                                    have NB653_670 := n7_
                                    have NB670_653 := n8_
                                    have NB654_670 := n9_
                                    have NB670_654 := n10_
                                    clear n0_ n1_ n2_ n3_ n4_ n5_ n6_ n7_ n8_ n9_ n10_
                                    clear hb hbox hg
                                    refine hK.out _ _ ⟨(blk_cell BK653.out 0).trans rfl, (blk_cell BK653.out 1).trans rfl, (blk_cell BK653.out 2).trans rfl, (blk_cell BK654.out 0).trans rfl, (blk_cell BK654.out 1).trans rfl, (blk_cell BK654.out 2).trans rfl, HS6_⟩ (fun hHeld => ?_)
                                    clear hK K
                                    refine norm_ (a' := ?_) ?_ ?_
                                    rotate_left
                                    · show Act.put _ (some 7) _ = _
                                      simp only [Act.put, List.setIfInBounds_toArray, List.set_cons_zero, List.set_cons_succ, i64_w, i32_w]
                                      rfl
                                    exact norm_ (by simp only [putAll, Act.put, List.setIfInBounds_toArray, List.set_cons_zero, List.set_cons_succ]) (hCont (gb670) _ ⟨hHeld, (by (with_reducible repeat (first | apply Kd.R_alloc | apply Kd.R_drewN | apply Kd.R_drew)); exact HO_5.out), BK653.out, BK654.out, BK670.out, GW670.out, GE670.out, NB653_670.out, NB670_653.out, NB654_670.out, NB670_654.out, (by repeat (first | (with_reducible first | exact HB.out | apply below_alloc | apply pw_below_drewN | apply below_drew1 | refine below_set ?_ GE653.out | refine below_set ?_ GE654.out | refine below_set ?_ GE670.out) | exact HB.out))⟩)
                                  · skip
                                    refine box_step ?hg (N := 7) ?hd (cs := #[.int .i64 0, .int .i64 0, .string (⟨#[]⟩ : ByteArray)]) (t := 23) ?hr ?_; (case hd => rfl); (case hg => rfl); (case hr => first | (go_simp; done) | (go_simp; rfl))
                                    intro gb670 hg w79 hbox hb
                                    have HS6_ := (hb.cell (World.block_lt_of_cell? _ _ (hHeld.2.2.2.2.2.2))).trans (hHeld.2.2.2.2.2.2)
                                    have n0_ := Aside0.mk (Kd.R_below (by (with_reducible repeat (first | apply Kd.R_alloc | apply Kd.R_drewN | apply Kd.R_drew)); exact HO_5.out) hb)
                                    have n1_ := Aside0.mk (blk_below (g := gb653) (o := .cells #[.int .i64 a0_0, .int .i64 a0_1, .string a0_2] 23 (0, 0)) (by exact BK653.out) hb)
                                    have n2_ := Aside0.mk (blk_below (g := gb654) (o := .cells #[.int .i64 a1_0, .int .i64 a1_1, .string a1_2] 23 (0, 0)) (by exact BK654.out) hb)
                                    have n3_ := Aside0.mk (below_step (by repeat (first | (with_reducible first | exact HB.out | apply below_alloc | apply pw_below_drewN | apply below_drew1 | refine below_set ?_ GE653.out | refine below_set ?_ GE654.out) | exact HB.out)) hb)
                                    have n4_ := Aside0.mk (hbox)
                                    have n5_ := Aside0.mk ((by rw [hg]; exact (below_size (by repeat (first | (with_reducible first | exact HB.out | apply below_alloc | apply pw_below_drewN | apply below_drew1 | refine below_set ?_ GE653.out | refine below_set ?_ GE654.out) | exact HB.out))) : w.heap.size ≤ gb670))
                                    have n6_ := Aside0.mk ((by rw [hg]; exact (below_size (by repeat (first | (with_reducible first | exact HB.out | apply below_alloc | apply pw_below_drewN | apply below_drew1 | refine below_set ?_ GE653.out | refine below_set ?_ GE654.out) | exact HB.out))) : w.heap.size ≤ gb670))
                                    have n7_ := Aside0.mk ((by rw [hg]; exact Nat.ne_of_lt (blk_lt (g := gb653) (o := .cells #[.int .i64 a0_0, .int .i64 a0_1, .string a0_2] 23 (0, 0)) BK653.out) : gb653 ≠ gb670))
                                    have n8_ := Aside0.mk ((by rw [hg]; exact Nat.ne_of_gt (blk_lt (g := gb653) (o := .cells #[.int .i64 a0_0, .int .i64 a0_1, .string a0_2] 23 (0, 0)) BK653.out) : gb670 ≠ gb653))
                                    have n9_ := Aside0.mk ((by rw [hg]; exact Nat.ne_of_lt (blk_lt (g := gb654) (o := .cells #[.int .i64 a1_0, .int .i64 a1_1, .string a1_2] 23 (0, 0)) BK654.out) : gb654 ≠ gb670))
                                    have n10_ := Aside0.mk ((by rw [hg]; exact Nat.ne_of_gt (blk_lt (g := gb654) (o := .cells #[.int .i64 a1_0, .int .i64 a1_1, .string a1_2] 23 (0, 0)) BK654.out) : gb670 ≠ gb654))
                                    clear HO_5
                                    clear BK653
                                    clear BK654
                                    clear HB
                                    have HO_5 := n0_
                                    have BK653 := n1_
                                    have BK654 := n2_
                                    have HB := n3_
                                    have BK670 := n4_
                                    have GW670 := n5_
                                    have GE670 := n6_
                                    have NB653_670 := n7_
                                    have NB670_653 := n8_
                                    have NB654_670 := n9_
                                    have NB670_654 := n10_
                                    clear n0_ n1_ n2_ n3_ n4_ n5_ n6_ n7_ n8_ n9_ n10_
                                    clear hb hbox hg
                                    refine hK.out _ _ ⟨(blk_cell BK653.out 0).trans rfl, (blk_cell BK653.out 1).trans rfl, (blk_cell BK653.out 2).trans rfl, (blk_cell BK654.out 0).trans rfl, (blk_cell BK654.out 1).trans rfl, (blk_cell BK654.out 2).trans rfl, HS6_⟩ (fun hHeld => ?_)
                                    clear hK K
                                    refine norm_ (a' := ?_) ?_ ?_
                                    rotate_left
                                    · show Act.put _ (some 7) _ = _
                                      simp only [Act.put, List.setIfInBounds_toArray, List.set_cons_zero, List.set_cons_succ, i64_w, i32_w]
                                      rfl
                                    refine one_ (i := 6) (N := some 49) #[true, true, true, true, true, true, true, false, false, false, true, false, false] rfl rfl (one_of HT_.out (by kernel_rfl)) (by decide) (fun K hK => ?_)
                                    refine goes_ Try.func10 (by kernel_rfl) rfl #[.string (rdOf ByteArray.empty y662 x6_3), .agg #[.int .i64 a0_0, .int .i64 a0_1, .string a0_2], .agg #[.int .i64 a1_0, .int .i64 a1_1, .string a1_2]] (by rfl) rfl rfl (by (try simp only [List.map_toArray, List.map_cons, List.map_nil]); first | done | rfl | (simp only [List.length_drop, List.length_take]; rfl)) ?_
                                    with_reducible refine (ops_Two.calls k3 (rdOf ByteArray.empty y662 x6_3) a0_0 a0_1 a0_2 a1_0 a1_1 a1_2 t666 t667 t668 t669 _ A42.out).mono ?_
                                    rintro e w80 ⟨rfl, hb⟩
                                    have HS6_ := (hb.cell (World.block_lt_of_cell? _ _ (hHeld.2.2.2.2.2.2))).trans (hHeld.2.2.2.2.2.2)
                                    refine ⟨_, rfl, ?_⟩
                                    have n0_ := Aside0.mk (Kd.R_below (by (with_reducible repeat (first | apply Kd.R_alloc | apply Kd.R_drewN | apply Kd.R_drew)); exact HO_5.out) hb)
                                    have n1_ := Aside0.mk (blk_below (g := gb653) (o := .cells #[.int .i64 a0_0, .int .i64 a0_1, .string a0_2] 23 (0, 0)) (by exact BK653.out) hb)
                                    have n2_ := Aside0.mk (blk_below (g := gb654) (o := .cells #[.int .i64 a1_0, .int .i64 a1_1, .string a1_2] 23 (0, 0)) (by exact BK654.out) hb)
                                    have n3_ := Aside0.mk (blk_below (g := gb670) (o := .cells #[.int .i64 0, .int .i64 0, .string (⟨#[]⟩ : ByteArray)] 23 (0, 0)) (by exact BK670.out) hb)
                                    have n4_ := Aside0.mk (below_step (by repeat (first | (with_reducible first | exact HB.out | apply below_alloc | apply pw_below_drewN | apply below_drew1 | refine below_set ?_ GE653.out | refine below_set ?_ GE654.out | refine below_set ?_ GE670.out) | exact HB.out)) hb)
                                    clear HO_5
                                    clear BK653
                                    clear BK654
                                    clear BK670
                                    clear HB
                                    have HO_5 := n0_
                                    have BK653 := n1_
                                    have BK654 := n2_
                                    have BK670 := n3_
                                    have HB := n4_
                                    clear n0_ n1_ n2_ n3_ n4_
                                    (try clear hb)
                                    (try clear hb2)
                                    (try clear hk)
                                    (try clear hi)
                                    refine hK.out _ _ ⟨(blk_cell BK653.out 0).trans rfl, (blk_cell BK653.out 1).trans rfl, (blk_cell BK653.out 2).trans rfl, (blk_cell BK654.out 0).trans rfl, (blk_cell BK654.out 1).trans rfl, (blk_cell BK654.out 2).trans rfl, HS6_⟩ (fun hHeld => ?_)
                                    clear hK K
                                    refine norm_ (a' := ?_) ?_ ?_
                                    rotate_left
                                    · show Act.put _ (some 49) _ = _
                                      simp only [Act.put, List.setIfInBounds_toArray, List.set_cons_zero, List.set_cons_succ, i64_w, i32_w]
                                      rfl
                                    refine pure_ (i := 7) (N := some 42) (v := ?_) (a' := ?_) #[true, true, true, true, true, true, true, true, false, false, true, false, false] rfl rfl (any_of HT_.out (by kernel_rfl)) (fun _ _ _ h => h) (Or.inl ⟨by rfl, ?_⟩) ?_ ?_
                                    rotate_left
                                    · intro w'
                                      go_simp
                                      with_reducible rfl
                                    rotate_left
                                    · simp only [Act.put, List.setIfInBounds_toArray, List.set_cons_zero, List.set_cons_succ, i64_w, i32_w]
                                      rfl
                                    refine pure_ (i := 8) (N := some 50) (v := ?_) (a' := ?_) #[true, true, true, true, true, true, true, true, true, false, true, false, false] rfl rfl (any_of HT_.out (by kernel_rfl)) (fun _ _ _ h => h) (Or.inl ⟨by rfl, ?_⟩) ?_ ?_
                                    rotate_left
                                    · intro w'
                                      go_simp
                                      with_reducible rfl
                                    rotate_left
                                    · simp only [Act.put, List.setIfInBounds_toArray, List.set_cons_zero, List.set_cons_succ, i64_w, i32_w]
                                      rfl
                                    refine pure_ (i := 9) (N := some 51) (v := ?_) (a' := ?_) #[true, true, true, true, true, true, true, true, true, true, true, false, false] rfl rfl (any_of HT_.out (by kernel_rfl)) (fun _ _ _ h => h) (Or.inl ⟨by rfl, ?_⟩) ?_ ?_
                                    rotate_left
                                    · intro w'
                                      go_simp
                                      with_reducible rfl
                                    rotate_left
                                    · simp only [Act.put, List.setIfInBounds_toArray, List.set_cons_zero, List.set_cons_succ, i64_w, i32_w]
                                      rfl
                                    exact norm_ (by simp only [putAll, Act.put, List.setIfInBounds_toArray, List.set_cons_zero, List.set_cons_succ]) (hCont (gb670) _ ⟨hHeld, (by (with_reducible repeat (first | apply Kd.R_alloc | apply Kd.R_drewN | apply Kd.R_drew)); exact HO_5.out), BK653.out, BK654.out, BK670.out, GW670.out, GE670.out, NB653_670.out, NB670_653.out, NB654_670.out, NB670_654.out, (by repeat (first | (with_reducible first | exact HB.out | apply below_alloc | apply pw_below_drewN | apply below_drew1 | refine below_set ?_ GE653.out | refine below_set ?_ GE654.out | refine below_set ?_ GE670.out) | exact HB.out))⟩)
                                rintro gb670 w81 ⟨hS_, h0_, h1_, h2_, h3_, h4_, h5_, h6_, h7_, h8_, h9_, h10_⟩
                                have n0_ : Aside0 (Kd.R Kd.string 9 w81 w.heap.size (fun _ => True) (.slice (some ad665) y662.length co77) y662) := ⟨h0_⟩
                                have n1_ : Aside0 (w81.heap[gb653]? = some (.cells #[.int .i64 a0_0, .int .i64 a0_1, .string a0_2] 23 (0, 0))) := ⟨h1_⟩
                                have n2_ : Aside0 (w81.heap[gb654]? = some (.cells #[.int .i64 a1_0, .int .i64 a1_1, .string a1_2] 23 (0, 0))) := ⟨h2_⟩
                                have n3_ : Aside0 (w81.heap[gb670]? = some (.cells #[.int .i64 0, .int .i64 0, .string (⟨#[]⟩ : ByteArray)] 23 (0, 0))) := ⟨h3_⟩
                                have n4_ : Aside0 (w.heap.size ≤ gb670) := ⟨h4_⟩
                                have n5_ : Aside0 (w.heap.size ≤ gb670) := ⟨h5_⟩
                                have n6_ : Aside0 (gb653 ≠ gb670) := ⟨h6_⟩
                                have n7_ : Aside0 (gb670 ≠ gb653) := ⟨h7_⟩
                                have n8_ : Aside0 (gb654 ≠ gb670) := ⟨h8_⟩
                                have n9_ : Aside0 (gb670 ≠ gb654) := ⟨h9_⟩
                                have n10_ : Aside0 (Below w.heap.size w w81) := ⟨h10_⟩
                                clear HO_5
                                clear BK653
                                clear BK654
                                clear HB
                                clear h0_ h1_ h2_ h3_ h4_ h5_ h6_ h7_ h8_ h9_ h10_
                                have HO_5 := n0_
                                have BK653 := n1_
                                have BK654 := n2_
                                have BK670 := n3_
                                have GW670 := n4_
                                have GE670 := n5_
                                have NB653_670 := n6_
                                have NB670_653 := n7_
                                have NB654_670 := n8_
                                have NB670_654 := n9_
                                have HB := n10_
                                clear n0_ n1_ n2_ n3_ n4_ n5_ n6_ n7_ n8_ n9_ n10_
                                have hHeld : w81.cell? ⟨gb653, 0, none⟩ = some (.int .i64 a0_0) ∧ w81.cell? ⟨gb653, 1, none⟩ = some (.int .i64 a0_1) ∧ w81.cell? ⟨gb653, 2, none⟩ = some (.string a0_2) ∧ w81.cell? ⟨gb654, 0, none⟩ = some (.int .i64 a1_0) ∧ w81.cell? ⟨gb654, 1, none⟩ = some (.int .i64 a1_1) ∧ w81.cell? ⟨gb654, 2, none⟩ = some (.string a1_2) ∧ w81.cell? (ad665.add (x6_3).toNat) = some (.string (rdOf ByteArray.empty y662 x6_3)) := hS_
                                refine norm_ (a' := ?_) ?_ ?_
                                rotate_left
                                · simp only [putAll, Act.put, List.setIfInBounds_toArray, List.set_cons_zero, List.set_cons_succ]
                                  rfl
                                refine one_ (i := 11) (N := none) #[true, true, true, true, true, true, true, true, true, true, true, true, false] rfl rfl (one_of HT_.out (by kernel_rfl)) (by decide) (fun K hK => ?_)
                                have hs82 : w81.cell? ⟨gb670, 0, none⟩ = some (.int .i64 0) := (blk_cell BK670.out 0).trans rfl
                                have hfs82 := blk_frozen BK670.out 0
                                have hns82_0 := NB653_670.out
                                have hns82_1 := NB654_670.out
                                have hms82_0 := NB670_653.out
                                have hms82_1 := NB670_654.out
                                have hs83 : w81.cell? ⟨gb670, 1, none⟩ = some (.int .i64 0) := (blk_cell BK670.out 1).trans rfl
                                have hfs83 := blk_frozen BK670.out 1
                                have hns83_0 := NB653_670.out
                                have hns83_1 := NB654_670.out
                                have hms83_0 := NB670_653.out
                                have hms83_1 := NB670_654.out
                                have hs84 : w81.cell? ⟨gb670, 2, none⟩ = some (.string (⟨#[]⟩ : ByteArray)) := (blk_cell BK670.out 2).trans rfl
                                have hfs84 := blk_frozen BK670.out 2
                                have hns84_0 := NB653_670.out
                                have hns84_1 := NB654_670.out
                                have hms84_0 := NB670_653.out
                                have hms84_1 := NB670_654.out
                                refine skip_ (w1 := ?_) (by rfl) rfl ?_ ?_
                                rotate_left
                                · go_simp
                                  rfl
                                refine hK.out _ _ ⟨((cell_far (p := ⟨gb670, _, none⟩) NB653_670.out _).trans (((cell_far (p := ⟨gb670, _, none⟩) NB653_670.out _).trans (((cell_far (p := ⟨gb670, _, none⟩) NB653_670.out _).trans (hHeld.1)))))), ((cell_far (p := ⟨gb670, _, none⟩) NB653_670.out _).trans (((cell_far (p := ⟨gb670, _, none⟩) NB653_670.out _).trans (((cell_far (p := ⟨gb670, _, none⟩) NB653_670.out _).trans (hHeld.2.1)))))), ((cell_far (p := ⟨gb670, _, none⟩) NB653_670.out _).trans (((cell_far (p := ⟨gb670, _, none⟩) NB653_670.out _).trans (((cell_far (p := ⟨gb670, _, none⟩) NB653_670.out _).trans (hHeld.2.2.1)))))), ((cell_far (p := ⟨gb670, _, none⟩) NB654_670.out _).trans (((cell_far (p := ⟨gb670, _, none⟩) NB654_670.out _).trans (((cell_far (p := ⟨gb670, _, none⟩) NB654_670.out _).trans (hHeld.2.2.2.1)))))), ((cell_far (p := ⟨gb670, _, none⟩) NB654_670.out _).trans (((cell_far (p := ⟨gb670, _, none⟩) NB654_670.out _).trans (((cell_far (p := ⟨gb670, _, none⟩) NB654_670.out _).trans (hHeld.2.2.2.2.1)))))), ((cell_far (p := ⟨gb670, _, none⟩) NB654_670.out _).trans (((cell_far (p := ⟨gb670, _, none⟩) NB654_670.out _).trans (((cell_far (p := ⟨gb670, _, none⟩) NB654_670.out _).trans (hHeld.2.2.2.2.2.1)))))), ((cell_far (p := ⟨gb670, _, none⟩) (by first | exact Kd.own_blk (Kd.R_ne HO_5.out BK670.out (by decide)) | (rw [add_block]; exact Kd.own_blk (Kd.R_ne HO_5.out BK670.out (by decide))) | (show (Addr.add _ _).block ≠ _; rw [add_block]; exact Kd.own_blk (Kd.R_ne HO_5.out BK670.out (by decide))) | (dsimp only; exact Kd.own_blk (Kd.R_ne HO_5.out BK670.out (by decide)))) _).trans (((cell_far (p := ⟨gb670, _, none⟩) (by first | exact Kd.own_blk (Kd.R_ne HO_5.out BK670.out (by decide)) | (rw [add_block]; exact Kd.own_blk (Kd.R_ne HO_5.out BK670.out (by decide))) | (show (Addr.add _ _).block ≠ _; rw [add_block]; exact Kd.own_blk (Kd.R_ne HO_5.out BK670.out (by decide))) | (dsimp only; exact Kd.own_blk (Kd.R_ne HO_5.out BK670.out (by decide)))) _).trans (((cell_far (p := ⟨gb670, _, none⟩) (by first | exact Kd.own_blk (Kd.R_ne HO_5.out BK670.out (by decide)) | (rw [add_block]; exact Kd.own_blk (Kd.R_ne HO_5.out BK670.out (by decide))) | (show (Addr.add _ _).block ≠ _; rw [add_block]; exact Kd.own_blk (Kd.R_ne HO_5.out BK670.out (by decide))) | (dsimp only; exact Kd.own_blk (Kd.R_ne HO_5.out BK670.out (by decide)))) _).trans (hHeld.2.2.2.2.2.2))))))⟩ (fun hHeld => ?_)
                                clear hK K
                                refine pure_ (i := 12) (N := some 8) (v := ?_) (a' := ?_) #[true, true, true, true, true, true, true, true, true, true, true, true, true] rfl rfl (any_of HT_.out (by kernel_rfl)) (fun _ _ _ h => h) (Or.inl ⟨by rfl, ?_⟩) ?_ ?_
                                rotate_left
                                · intro w'
                                  go_simp
                                  with_reducible rfl
                                rotate_left
                                · simp only [Act.put, List.setIfInBounds_toArray, List.set_cons_zero, List.set_cons_succ, i64_w, i32_w]
                                  rfl
                                refine done_ (done_of HT_.out (by kernel_rfl)) ?_
                                have hnb85 := NB670_653.out
                                have hnc85 := NB653_670.out
                                have hnb86 := NB670_654.out
                                have hnc86 := NB654_670.out
                                have hcz87_0 : w81.cell? ⟨gb670, 0, none⟩ = some (.int .i64 0) := (blk_cell BK670.out 0).trans rfl
                                have hcz87_1 : w81.cell? ⟨gb670, 1, none⟩ = some (.int .i64 0) := (blk_cell BK670.out 1).trans rfl
                                have hcz87_2 : w81.cell? ⟨gb670, 2, none⟩ = some (.string (⟨#[]⟩ : ByteArray)) := (blk_cell BK670.out 2).trans rfl
                                have hfz87_0 := blk_frozen BK670.out 0
                                have hfz87_1 := blk_frozen BK670.out 1
                                have hfz87_2 := blk_frozen BK670.out 2
                                have hnb88 := NB653_654.out
                                have hnc88 := NB654_653.out
                                have hcz89_0 : w81.cell? ⟨gb653, 0, none⟩ = some (.int .i64 a0_0) := (blk_cell BK653.out 0).trans rfl
                                have hcz89_1 : w81.cell? ⟨gb653, 1, none⟩ = some (.int .i64 a0_1) := (blk_cell BK653.out 1).trans rfl
                                have hcz89_2 : w81.cell? ⟨gb653, 2, none⟩ = some (.string a0_2) := (blk_cell BK653.out 2).trans rfl
                                have hfz89_0 := blk_frozen BK653.out 0
                                have hfz89_1 := blk_frozen BK653.out 1
                                have hfz89_2 := blk_frozen BK653.out 2
                                have hcz90_0 : w81.cell? ⟨gb654, 0, none⟩ = some (.int .i64 a1_0) := (blk_cell BK654.out 0).trans rfl
                                have hcz90_1 : w81.cell? ⟨gb654, 1, none⟩ = some (.int .i64 a1_1) := (blk_cell BK654.out 1).trans rfl
                                have hcz90_2 : w81.cell? ⟨gb654, 2, none⟩ = some (.string a1_2) := (blk_cell BK654.out 2).trans rfl
                                have hfz90_0 := blk_frozen BK654.out 0
                                have hfz90_1 := blk_frozen BK654.out 1
                                have hfz90_2 := blk_frozen BK654.out 2
                                have p671 : 0 ≤ (x6_3 : Int) := of_decide_eq_true (by first | (with_reducible assumption) | assumption)
                                have q671 : x6_3 < (y662.length : Int) := of_decide_eq_true (by first | (with_reducible assumption) | assumption)
                                obtain ⟨ad671, e671, hx671_0⟩ := Kd.at_string (Kd.R_reads' HO_5.out).2.2 x6_3 p671 q671
                                obtain rfl : ad665 = ad671 := (by injection e671)
                                have hn671_0 : ad665.block ≠ gb670 := Kd.own_blk (Kd.R_ne HO_5.out BK670.out (by decide))
                                have hn671_1 : ad665.block ≠ gb670 := Kd.own_blk (Kd.R_ne HO_5.out BK670.out (by decide))
                                have hn671_2 : ad665.block ≠ gb670 := Kd.own_blk (Kd.R_ne HO_5.out BK670.out (by decide))
                                replace hx671_0 := (cell_far (p := ⟨gb670, 0, none⟩) (by first | (rw [add_block]; exact hn671_0) | (show (Addr.add _ _).block ≠ _; rw [add_block]; exact hn671_0) | exact hn671_0) (.int .i64 t666)).trans hx671_0
                                replace hx671_0 := (cell_far (p := ⟨gb670, 1, none⟩) (by first | (rw [add_block]; exact hn671_1) | (show (Addr.add _ _).block ≠ _; rw [add_block]; exact hn671_1) | exact hn671_1) (.int .i64 t667)).trans hx671_0
                                replace hx671_0 := (cell_far (p := ⟨gb670, 2, none⟩) (by first | (rw [add_block]; exact hn671_2) | (show (Addr.add _ _).block ≠ _; rw [add_block]; exact hn671_2) | exact hn671_2) (.string t668)).trans hx671_0
                                clear hn671_0
                                clear hn671_1
                                clear hn671_2
                                replace p671 := eq_true p671
                                replace q671 := eq_true q671
                                have p673 : 0 ≤ (x6_3 : Int) := of_decide_eq_true (by first | (with_reducible assumption) | assumption)
                                have q673 : x6_3 < (y662.length : Int) := of_decide_eq_true (by first | (with_reducible assumption) | assumption)
                                obtain ⟨ad673, e673, hx673_0⟩ := Kd.at_string (Kd.R_reads' HO_5.out).2.2 x6_3 p673 q673
                                obtain rfl : ad665 = ad673 := (by injection e673)
                                have hn673_0 : ad665.block ≠ gb670 := Kd.own_blk (Kd.R_ne HO_5.out BK670.out (by decide))
                                have hn673_1 : ad665.block ≠ gb670 := Kd.own_blk (Kd.R_ne HO_5.out BK670.out (by decide))
                                have hn673_2 : ad665.block ≠ gb670 := Kd.own_blk (Kd.R_ne HO_5.out BK670.out (by decide))
                                replace hx673_0 := (cell_far (p := ⟨gb670, 0, none⟩) (by first | (rw [add_block]; exact hn673_0) | (show (Addr.add _ _).block ≠ _; rw [add_block]; exact hn673_0) | exact hn673_0) (.int .i64 t666)).trans hx673_0
                                replace hx673_0 := (cell_far (p := ⟨gb670, 1, none⟩) (by first | (rw [add_block]; exact hn673_1) | (show (Addr.add _ _).block ≠ _; rw [add_block]; exact hn673_1) | exact hn673_1) (.int .i64 t667)).trans hx673_0
                                replace hx673_0 := (cell_far (p := ⟨gb670, 2, none⟩) (by first | (rw [add_block]; exact hn673_2) | (show (Addr.add _ _).block ≠ _; rw [add_block]; exact hn673_2) | exact hn673_2) (.string t668)).trans hx673_0
                                clear hn673_0
                                clear hn673_1
                                clear hn673_2
                                replace p673 := eq_true p673
                                replace q673 := eq_true q673
                                try go_wp2
                                go_roundg k3
                                case measure => have := HJ2.out; have := HJ19.out; have := HK3.out; omega
                                case rel => exact ⟨(wrap64 (x6_3 + 1)), (by first | rfl | (simp; done) | (simp [*]; done)), H', ⟨by have := HJ2.out; have := HJ19.out; have := HK3.out; omega⟩, ⟨by (with_reducible repeat (first | apply Kd.R_alloc | apply Kd.R_drewN | apply Kd.R_drew)); exact Kd.R_mono (Kd.R_far (p := ⟨gb670, 2, none⟩) (Kd.R_far (p := ⟨gb670, 1, none⟩) (Kd.R_far (p := ⟨gb670, 0, none⟩) (Kd.R_types HO_5.out BK670.out (by decide)) (fun _ hk => hk.2) (.int .i64 t666)) (fun _ hk => hk.2) (.int .i64 t667)) (fun _ hk => hk.2) (.string t668)) (fun _ hk => trivial)⟩, ⟨by refine blk_far ?_ NB653_670.out _; refine blk_far ?_ NB653_670.out _; refine blk_far ?_ NB653_670.out _; exact BK653.out⟩, ⟨by refine blk_far ?_ NB654_670.out _; refine blk_far ?_ NB654_670.out _; refine blk_far ?_ NB654_670.out _; exact BK654.out⟩, ⟨by repeat (first | (with_reducible first | exact HB.out | apply below_alloc | apply pw_below_drewN | apply below_drew1 | refine below_set ?_ GE653.out | refine below_set ?_ GE654.out | refine below_set ?_ GE670.out) | exact HB.out)⟩⟩
                              · rw [if_neg c76] at H
                                have c76b0 : (t666 == 1) = false := beq_eq_false_iff_ne.mpr c76
                                have c76b1 : (t666 != 1) = true := bne_iff_ne.mpr c76
                                exact absurd ((Option.some.inj H).trans HR.out) (by decide)
                          · rw [if_neg c45] at H
                            have c45b0 : (t666 == a1_0) = false := beq_eq_false_iff_ne.mpr c45
                            have c45b1 : (t666 != a1_0) = true := bne_iff_ne.mpr c45
                            exact absurd ((Option.some.inj H).trans HR.out) (by decide)
                        · rw [if_neg c44] at H
                          have c44b0 : (t666 == a0_0) = false := beq_eq_false_iff_ne.mpr c44
                          have c44b1 : (t666 != a0_0) = true := bne_iff_ne.mpr c44
                          exact absurd ((Option.some.inj H).trans HR.out) (by decide)
                      · rw [if_neg c43] at H
                        have c43b0 : (t669 == 0) = false := beq_eq_false_iff_ne.mpr c43
                        have c43b1 : (t669 != 0) = true := bne_iff_ne.mpr c43
                        by_cases c132 : (!(t666 == 0) || (!(t667 == 0) || (!(t668.toList == ([] : List UInt8))))) = true
                        · rw [if_pos c132] at H
                          have c132b0 : (!(t666 == 0) || (!(t667 == 0) || (!(t668.toList == ([] : List UInt8))))) = true := c132
                          clear c132
                          exact absurd ((Option.some.inj H).trans HR.out) (by decide)
                        · rw [if_neg c132] at H
                          have c132b0 : (!(t666 == 0) || (!(t667 == 0) || (!(t668.toList == ([] : List UInt8))))) = false := by simpa using c132
                          obtain ⟨fx1, fx2, fx3⟩ : (!t666 == 0) = false ∧ (!t667 == 0) = false ∧ (!t668.toList.isEmpty) = false := by simpa [Bool.or_eq_false_iff] using c132b0
                          clear c132
                          have H' := Aside0.mk H
                          clear H
                          obtain ⟨Ao144, co144, eo144⟩ := Kd.R_slice HO_5.out
                          subst eo144
                          try go_wp2
                          have n0_ := Aside0.mk (Kd.R_drew HO_5.out)
                          have n1_ := Aside0.mk (blk_drew BK653.out)
                          have n2_ := Aside0.mk (blk_drew BK654.out)
                          have n3_ := Aside0.mk (below_drew1 HB.out)
                          clear HO_5
                          clear BK653
                          clear BK654
                          clear HB
                          have HO_5 := n0_
                          have BK653 := n1_
                          have BK654 := n2_
                          have HB := n3_
                          clear n0_ n1_ n2_ n3_
                          have p665 : 0 ≤ (x6_3 : Int) := of_decide_eq_true (by first | (with_reducible assumption) | assumption)
                          have q665 : x6_3 < (y662.length : Int) := of_decide_eq_true (by first | (with_reducible assumption) | assumption)
                          obtain ⟨ad665, e665, hx665_0⟩ := Kd.at_string (Kd.R_reads' HO_5.out).2.2 x6_3 p665 q665
                          cases e665
                          replace p665 := eq_true p665
                          replace q665 := eq_true q665
                          refine start_ (n := 13) (S := fun w' => w'.cell? ⟨gb653, 0, none⟩ = some (.int .i64 a0_0) ∧ w'.cell? ⟨gb653, 1, none⟩ = some (.int .i64 a0_1) ∧ w'.cell? ⟨gb653, 2, none⟩ = some (.string a0_2) ∧ w'.cell? ⟨gb654, 0, none⟩ = some (.int .i64 a1_0) ∧ w'.cell? ⟨gb654, 1, none⟩ = some (.int .i64 a1_1) ∧ w'.cell? ⟨gb654, 2, none⟩ = some (.string a1_2) ∧ w'.cell? (ad665.add (x6_3).toNat) = some (.string (rdOf ByteArray.empty y662 x6_3))) (ds := []) #[false, false, false, false, false, false, false, false, false, false, false, false, false] (by kernel_rfl) rfl rfl ⟨(blk_cell BK653.out 0).trans rfl, (blk_cell BK653.out 1).trans rfl, (blk_cell BK653.out 2).trans rfl, (blk_cell BK654.out 0).trans rfl, (blk_cell BK654.out 1).trans rfl, (blk_cell BK654.out 2).trans rfl, hx665_0⟩ (fun hHeld => ?_); refine with_tabW chrysalislaw17_OpsShows.tab9 chrysalislaw17_OpsShows.bits9 (fun HT_ HW_ => ?_)
                          generalize wr.drew = w145 at HO_5 BK653 BK654 HB hx665_0 hHeld ⊢
                          refine pure_ (i := 0) (N := some 43) (v := ?_) (a' := ?_) #[true, false, false, false, false, false, false, false, false, false, false, false, false] rfl rfl (any_of HT_.out (by kernel_rfl)) (fun _ _ _ h => h) (Or.inl ⟨by rfl, ?_⟩) ?_ ?_
                          rotate_left
                          · intro w'
                            go_simp
                            with_reducible rfl
                          rotate_left
                          · simp only [Act.put, List.setIfInBounds_toArray, List.set_cons_zero, List.set_cons_succ, i64_w, i32_w]
                            rfl
                          refine pure_ (i := 1) (N := some 44) (v := ?_) (a' := ?_) #[true, true, false, false, false, false, false, false, false, false, false, false, false] rfl rfl (any_of HT_.out (by kernel_rfl)) (fun _ _ _ h => h) (Or.inl ⟨by rfl, ?_⟩) ?_ ?_
                          rotate_left
                          · intro w'
                            go_simp
                            with_reducible rfl
                          rotate_left
                          · simp only [Act.put, List.setIfInBounds_toArray, List.set_cons_zero, List.set_cons_succ, i64_w, i32_w]
                            rfl
                          refine pure_ (i := 2) (N := some 45) (v := ?_) (a' := ?_) #[true, true, true, false, false, false, false, false, false, false, false, false, false] rfl rfl (any_of HT_.out (by kernel_rfl)) (fun _ _ _ h => h) (Or.inl ⟨by rfl, ?_⟩) ?_ ?_
                          rotate_left
                          · intro w'
                            go_simp
                            with_reducible rfl
                          rotate_left
                          · simp only [Act.put, List.setIfInBounds_toArray, List.set_cons_zero, List.set_cons_succ, i64_w, i32_w]
                            rfl
                          refine take_ (i := 3) (N := some 46) (v := ?_) (a' := ?_) #[true, true, true, true, false, false, false, false, false, false, false, false, false] rfl rfl (take_ofW HT_.out HW_.out (by kernel_rfl)) (fun _ _ _ h => h) (Or.inl ⟨by rfl, ?_⟩) hHeld ?_ ?_
                          rotate_left
                          · rintro w' ⟨s0, s1, s2, s3, s4, s5, s6⟩
                            go_simp
                            with_reducible rfl
                          rotate_left
                          · simp only [Act.put, List.setIfInBounds_toArray, List.set_cons_zero, List.set_cons_succ, i64_w, i32_w]
                            rfl
                          refine take_ (i := 4) (N := some 47) (v := ?_) (a' := ?_) #[true, true, true, true, true, false, false, false, false, false, false, false, false] rfl rfl (take_ofW HT_.out HW_.out (by kernel_rfl)) (fun _ _ _ h => h) (Or.inl ⟨by rfl, ?_⟩) hHeld ?_ ?_
                          rotate_left
                          · rintro w' ⟨s0, s1, s2, s3, s4, s5, s6⟩
                            go_simp
                            with_reducible rfl
                          rotate_left
                          · simp only [Act.put, List.setIfInBounds_toArray, List.set_cons_zero, List.set_cons_succ, i64_w, i32_w]
                            rfl
                          refine take_ (i := 5) (N := some 48) (v := ?_) (a' := ?_) #[true, true, true, true, true, true, false, false, false, false, false, false, false] rfl rfl (take_ofW HT_.out HW_.out (by kernel_rfl)) (fun _ _ _ h => h) (Or.inl ⟨by rfl, ?_⟩) hHeld ?_ ?_
                          rotate_left
                          · rintro w' ⟨s0, s1, s2, s3, s4, s5, s6⟩
                            go_simp
                            with_reducible rfl
                          rotate_left
                          · simp only [Act.put, List.setIfInBounds_toArray, List.set_cons_zero, List.set_cons_succ, i64_w, i32_w]
                            rfl
                          refine join_ (σ := Nat) 2 #[true, true, true, true, true, true, true, true, true, true, true, false, false] (fun s_ => [(49, .tuple #[.agg #[.int .i64 t666, .int .i64 t667, .string t668], .int .i64 t669]), (7, .pointer (some ⟨s_, 0, none⟩)), (42, .tuple #[.agg #[.int .i64 t666, .int .i64 t667, .string t668], .int .i64 t669]), (50, .agg #[.int .i64 t666, .int .i64 t667, .string t668]), (51, .int .i64 t669)]) (fun s_ w' => (w'.cell? ⟨gb653, 0, none⟩ = some (.int .i64 a0_0) ∧ w'.cell? ⟨gb653, 1, none⟩ = some (.int .i64 a0_1) ∧ w'.cell? ⟨gb653, 2, none⟩ = some (.string a0_2) ∧ w'.cell? ⟨gb654, 0, none⟩ = some (.int .i64 a1_0) ∧ w'.cell? ⟨gb654, 1, none⟩ = some (.int .i64 a1_1) ∧ w'.cell? ⟨gb654, 2, none⟩ = some (.string a1_2) ∧ w'.cell? (ad665.add (x6_3).toNat) = some (.string (rdOf ByteArray.empty y662 x6_3))) ∧ (Kd.R Kd.string 9 w' w.heap.size (fun _ => True) (.slice (some ad665) y662.length co144) y662) ∧ (w'.heap[gb653]? = some (.cells #[.int .i64 a0_0, .int .i64 a0_1, .string a0_2] 23 (0, 0))) ∧ (w'.heap[gb654]? = some (.cells #[.int .i64 a1_0, .int .i64 a1_1, .string a1_2] 23 (0, 0))) ∧ (w'.heap[s_]? = some (.cells #[.int .i64 0, .int .i64 0, .string (⟨#[]⟩ : ByteArray)] 23 (0, 0))) ∧ (w.heap.size ≤ s_) ∧ (w.heap.size ≤ s_) ∧ (gb653 ≠ s_) ∧ (s_ ≠ gb653) ∧ (gb654 ≠ s_) ∧ (s_ ≠ gb654) ∧ (Below w.heap.size w w')) ?_ ?_
                          rotate_left
                          · intro hCont
                            refine two_ (i := 6) (j := 10) (Ni := some 49) (Nj := some 7) #[true, true, true, true, true, true, true, false, false, false, false, false, false] #[true, true, true, true, true, true, false, false, false, false, true, false, false] rfl rfl rfl rfl (two_of HT_.out (by kernel_rfl)) (by decide) (by decide) (fun K hK => ?_) (fun K hK => ?_)
                            · skip
                              refine goes_ Try.func10 (by kernel_rfl) rfl #[.string (rdOf ByteArray.empty y662 x6_3), .agg #[.int .i64 a0_0, .int .i64 a0_1, .string a0_2], .agg #[.int .i64 a1_0, .int .i64 a1_1, .string a1_2]] (by rfl) rfl rfl (by (try simp only [List.map_toArray, List.map_cons, List.map_nil]); first | done | rfl | (simp only [List.length_drop, List.length_take]; rfl)) ?_
                              with_reducible refine (ops_Two.calls k3 (rdOf ByteArray.empty y662 x6_3) a0_0 a0_1 a0_2 a1_0 a1_1 a1_2 t666 t667 t668 t669 _ A42.out).mono ?_
                              rintro e w146 ⟨rfl, hb⟩
                              have HS6_ := (hb.cell (World.block_lt_of_cell? _ _ (hHeld.2.2.2.2.2.2))).trans (hHeld.2.2.2.2.2.2)
                              refine ⟨_, rfl, ?_⟩
                              have n0_ := Aside0.mk (Kd.R_below (by (with_reducible repeat (first | apply Kd.R_alloc | apply Kd.R_drewN | apply Kd.R_drew)); exact HO_5.out) hb)
                              have n1_ := Aside0.mk (blk_below (g := gb653) (o := .cells #[.int .i64 a0_0, .int .i64 a0_1, .string a0_2] 23 (0, 0)) (by exact BK653.out) hb)
                              have n2_ := Aside0.mk (blk_below (g := gb654) (o := .cells #[.int .i64 a1_0, .int .i64 a1_1, .string a1_2] 23 (0, 0)) (by exact BK654.out) hb)
                              have n3_ := Aside0.mk (below_step (by repeat (first | (with_reducible first | exact HB.out | apply below_alloc | apply pw_below_drewN | apply below_drew1 | refine below_set ?_ GE653.out | refine below_set ?_ GE654.out) | exact HB.out)) hb)
                              clear HO_5
                              clear BK653
                              clear BK654
                              clear HB
                              have HO_5 := n0_
                              have BK653 := n1_
                              have BK654 := n2_
                              have HB := n3_
                              clear n0_ n1_ n2_ n3_
                              (try clear hb)
                              (try clear hb2)
                              (try clear hk)
                              (try clear hi)
                              refine hK.out _ _ ⟨(blk_cell BK653.out 0).trans rfl, (blk_cell BK653.out 1).trans rfl, (blk_cell BK653.out 2).trans rfl, (blk_cell BK654.out 0).trans rfl, (blk_cell BK654.out 1).trans rfl, (blk_cell BK654.out 2).trans rfl, HS6_⟩ (fun hHeld => ?_)
                              clear hK K
                              refine norm_ (a' := ?_) ?_ ?_
                              rotate_left
                              · show Act.put _ (some 49) _ = _
                                simp only [Act.put, List.setIfInBounds_toArray, List.set_cons_zero, List.set_cons_succ, i64_w, i32_w]
                                rfl
                              refine pure_ (i := 7) (N := some 42) (v := ?_) (a' := ?_) #[true, true, true, true, true, true, true, true, false, false, false, false, false] rfl rfl (any_of HT_.out (by kernel_rfl)) (fun _ _ _ h => h) (Or.inl ⟨by rfl, ?_⟩) ?_ ?_
                              rotate_left
                              · intro w'
                                go_simp
                                with_reducible rfl
                              rotate_left
                              · simp only [Act.put, List.setIfInBounds_toArray, List.set_cons_zero, List.set_cons_succ, i64_w, i32_w]
                                rfl
                              refine pure_ (i := 8) (N := some 50) (v := ?_) (a' := ?_) #[true, true, true, true, true, true, true, true, true, false, false, false, false] rfl rfl (any_of HT_.out (by kernel_rfl)) (fun _ _ _ h => h) (Or.inl ⟨by rfl, ?_⟩) ?_ ?_
                              rotate_left
                              · intro w'
                                go_simp
                                with_reducible rfl
                              rotate_left
                              · simp only [Act.put, List.setIfInBounds_toArray, List.set_cons_zero, List.set_cons_succ, i64_w, i32_w]
                                rfl
                              refine pure_ (i := 9) (N := some 51) (v := ?_) (a' := ?_) #[true, true, true, true, true, true, true, true, true, true, false, false, false] rfl rfl (any_of HT_.out (by kernel_rfl)) (fun _ _ _ h => h) (Or.inl ⟨by rfl, ?_⟩) ?_ ?_
                              rotate_left
                              · intro w'
                                go_simp
                                with_reducible rfl
                              rotate_left
                              · simp only [Act.put, List.setIfInBounds_toArray, List.set_cons_zero, List.set_cons_succ, i64_w, i32_w]
                                rfl
                              refine one_ (i := 10) (N := some 7) #[true, true, true, true, true, true, true, true, true, true, true, false, false] rfl rfl (one_of HT_.out (by kernel_rfl)) (by decide) (fun K hK => ?_)
                              refine box_step ?hg (N := 7) ?hd (cs := #[.int .i64 0, .int .i64 0, .string (⟨#[]⟩ : ByteArray)]) (t := 23) ?hr ?_; (case hd => rfl); (case hg => rfl); (case hr => first | (go_simp; done) | (go_simp; rfl))
                              intro gb670 hg w147 hbox hb
                              have HS6_ := (hb.cell (World.block_lt_of_cell? _ _ (hHeld.2.2.2.2.2.2))).trans (hHeld.2.2.2.2.2.2)
                              have n0_ := Aside0.mk (Kd.R_below (by (with_reducible repeat (first | apply Kd.R_alloc | apply Kd.R_drewN | apply Kd.R_drew)); exact HO_5.out) hb)
                              have n1_ := Aside0.mk (blk_below (g := gb653) (o := .cells #[.int .i64 a0_0, .int .i64 a0_1, .string a0_2] 23 (0, 0)) (by exact BK653.out) hb)
                              have n2_ := Aside0.mk (blk_below (g := gb654) (o := .cells #[.int .i64 a1_0, .int .i64 a1_1, .string a1_2] 23 (0, 0)) (by exact BK654.out) hb)
                              have n3_ := Aside0.mk (below_step (by repeat (first | (with_reducible first | exact HB.out | apply below_alloc | apply pw_below_drewN | apply below_drew1 | refine below_set ?_ GE653.out | refine below_set ?_ GE654.out) | exact HB.out)) hb)
                              have n4_ := Aside0.mk (hbox)
                              have n5_ := Aside0.mk ((by rw [hg]; exact (below_size (by repeat (first | (with_reducible first | exact HB.out | apply below_alloc | apply pw_below_drewN | apply below_drew1 | refine below_set ?_ GE653.out | refine below_set ?_ GE654.out) | exact HB.out))) : w.heap.size ≤ gb670))
                              have n6_ := Aside0.mk ((by rw [hg]; exact (below_size (by repeat (first | (with_reducible first | exact HB.out | apply below_alloc | apply pw_below_drewN | apply below_drew1 | refine below_set ?_ GE653.out | refine below_set ?_ GE654.out) | exact HB.out))) : w.heap.size ≤ gb670))
                              have n7_ := Aside0.mk ((by rw [hg]; exact Nat.ne_of_lt (blk_lt (g := gb653) (o := .cells #[.int .i64 a0_0, .int .i64 a0_1, .string a0_2] 23 (0, 0)) BK653.out) : gb653 ≠ gb670))
                              have n8_ := Aside0.mk ((by rw [hg]; exact Nat.ne_of_gt (blk_lt (g := gb653) (o := .cells #[.int .i64 a0_0, .int .i64 a0_1, .string a0_2] 23 (0, 0)) BK653.out) : gb670 ≠ gb653))
                              have n9_ := Aside0.mk ((by rw [hg]; exact Nat.ne_of_lt (blk_lt (g := gb654) (o := .cells #[.int .i64 a1_0, .int .i64 a1_1, .string a1_2] 23 (0, 0)) BK654.out) : gb654 ≠ gb670))
                              have n10_ := Aside0.mk ((by rw [hg]; exact Nat.ne_of_gt (blk_lt (g := gb654) (o := .cells #[.int .i64 a1_0, .int .i64 a1_1, .string a1_2] 23 (0, 0)) BK654.out) : gb670 ≠ gb654))
                              clear HO_5
                              clear BK653
                              clear BK654
                              clear HB
                              have HO_5 := n0_
                              have BK653 := n1_
                              have BK654 := n2_
                              have HB := n3_
                              have BK670 := n4_
                              have GW670 := n5_
                              have GE670 := n6_
                              have NB653_670 := n7_
                              have NB670_653 := n8_
                              have NB654_670 := n9_
                              have NB670_654 := n10_
                              clear n0_ n1_ n2_ n3_ n4_ n5_ n6_ n7_ n8_ n9_ n10_
                              clear hb hbox hg
                              refine hK.out _ _ ⟨(blk_cell BK653.out 0).trans rfl, (blk_cell BK653.out 1).trans rfl, (blk_cell BK653.out 2).trans rfl, (blk_cell BK654.out 0).trans rfl, (blk_cell BK654.out 1).trans rfl, (blk_cell BK654.out 2).trans rfl, HS6_⟩ (fun hHeld => ?_)
                              clear hK K
                              refine norm_ (a' := ?_) ?_ ?_
                              rotate_left
                              · show Act.put _ (some 7) _ = _
                                simp only [Act.put, List.setIfInBounds_toArray, List.set_cons_zero, List.set_cons_succ, i64_w, i32_w]
                                rfl
                              exact norm_ (by simp only [putAll, Act.put, List.setIfInBounds_toArray, List.set_cons_zero, List.set_cons_succ]) (hCont (gb670) _ ⟨hHeld, (by (with_reducible repeat (first | apply Kd.R_alloc | apply Kd.R_drewN | apply Kd.R_drew)); exact HO_5.out), BK653.out, BK654.out, BK670.out, GW670.out, GE670.out, NB653_670.out, NB670_653.out, NB654_670.out, NB670_654.out, (by repeat (first | (with_reducible first | exact HB.out | apply below_alloc | apply pw_below_drewN | apply below_drew1 | refine below_set ?_ GE653.out | refine below_set ?_ GE654.out | refine below_set ?_ GE670.out) | exact HB.out))⟩)
                            · skip
                              refine box_step ?hg (N := 7) ?hd (cs := #[.int .i64 0, .int .i64 0, .string (⟨#[]⟩ : ByteArray)]) (t := 23) ?hr ?_; (case hd => rfl); (case hg => rfl); (case hr => first | (go_simp; done) | (go_simp; rfl))
                              intro gb670 hg w146 hbox hb
                              have HS6_ := (hb.cell (World.block_lt_of_cell? _ _ (hHeld.2.2.2.2.2.2))).trans (hHeld.2.2.2.2.2.2)
                              have n0_ := Aside0.mk (Kd.R_below (by (with_reducible repeat (first | apply Kd.R_alloc | apply Kd.R_drewN | apply Kd.R_drew)); exact HO_5.out) hb)
                              have n1_ := Aside0.mk (blk_below (g := gb653) (o := .cells #[.int .i64 a0_0, .int .i64 a0_1, .string a0_2] 23 (0, 0)) (by exact BK653.out) hb)
                              have n2_ := Aside0.mk (blk_below (g := gb654) (o := .cells #[.int .i64 a1_0, .int .i64 a1_1, .string a1_2] 23 (0, 0)) (by exact BK654.out) hb)
                              have n3_ := Aside0.mk (below_step (by repeat (first | (with_reducible first | exact HB.out | apply below_alloc | apply pw_below_drewN | apply below_drew1 | refine below_set ?_ GE653.out | refine below_set ?_ GE654.out) | exact HB.out)) hb)
                              have n4_ := Aside0.mk (hbox)
                              have n5_ := Aside0.mk ((by rw [hg]; exact (below_size (by repeat (first | (with_reducible first | exact HB.out | apply below_alloc | apply pw_below_drewN | apply below_drew1 | refine below_set ?_ GE653.out | refine below_set ?_ GE654.out) | exact HB.out))) : w.heap.size ≤ gb670))
                              have n6_ := Aside0.mk ((by rw [hg]; exact (below_size (by repeat (first | (with_reducible first | exact HB.out | apply below_alloc | apply pw_below_drewN | apply below_drew1 | refine below_set ?_ GE653.out | refine below_set ?_ GE654.out) | exact HB.out))) : w.heap.size ≤ gb670))
                              have n7_ := Aside0.mk ((by rw [hg]; exact Nat.ne_of_lt (blk_lt (g := gb653) (o := .cells #[.int .i64 a0_0, .int .i64 a0_1, .string a0_2] 23 (0, 0)) BK653.out) : gb653 ≠ gb670))
                              have n8_ := Aside0.mk ((by rw [hg]; exact Nat.ne_of_gt (blk_lt (g := gb653) (o := .cells #[.int .i64 a0_0, .int .i64 a0_1, .string a0_2] 23 (0, 0)) BK653.out) : gb670 ≠ gb653))
                              have n9_ := Aside0.mk ((by rw [hg]; exact Nat.ne_of_lt (blk_lt (g := gb654) (o := .cells #[.int .i64 a1_0, .int .i64 a1_1, .string a1_2] 23 (0, 0)) BK654.out) : gb654 ≠ gb670))
                              have n10_ := Aside0.mk ((by rw [hg]; exact Nat.ne_of_gt (blk_lt (g := gb654) (o := .cells #[.int .i64 a1_0, .int .i64 a1_1, .string a1_2] 23 (0, 0)) BK654.out) : gb670 ≠ gb654))
                              clear HO_5
                              clear BK653
                              clear BK654
                              clear HB
                              have HO_5 := n0_
                              have BK653 := n1_
                              have BK654 := n2_
                              have HB := n3_
                              have BK670 := n4_
                              have GW670 := n5_
                              have GE670 := n6_
                              have NB653_670 := n7_
                              have NB670_653 := n8_
                              have NB654_670 := n9_
                              have NB670_654 := n10_
                              clear n0_ n1_ n2_ n3_ n4_ n5_ n6_ n7_ n8_ n9_ n10_
                              clear hb hbox hg
                              refine hK.out _ _ ⟨(blk_cell BK653.out 0).trans rfl, (blk_cell BK653.out 1).trans rfl, (blk_cell BK653.out 2).trans rfl, (blk_cell BK654.out 0).trans rfl, (blk_cell BK654.out 1).trans rfl, (blk_cell BK654.out 2).trans rfl, HS6_⟩ (fun hHeld => ?_)
                              clear hK K
                              refine norm_ (a' := ?_) ?_ ?_
                              rotate_left
                              · show Act.put _ (some 7) _ = _
                                simp only [Act.put, List.setIfInBounds_toArray, List.set_cons_zero, List.set_cons_succ, i64_w, i32_w]
                                rfl
                              refine one_ (i := 6) (N := some 49) #[true, true, true, true, true, true, true, false, false, false, true, false, false] rfl rfl (one_of HT_.out (by kernel_rfl)) (by decide) (fun K hK => ?_)
                              refine goes_ Try.func10 (by kernel_rfl) rfl #[.string (rdOf ByteArray.empty y662 x6_3), .agg #[.int .i64 a0_0, .int .i64 a0_1, .string a0_2], .agg #[.int .i64 a1_0, .int .i64 a1_1, .string a1_2]] (by rfl) rfl rfl (by (try simp only [List.map_toArray, List.map_cons, List.map_nil]); first | done | rfl | (simp only [List.length_drop, List.length_take]; rfl)) ?_
                              with_reducible refine (ops_Two.calls k3 (rdOf ByteArray.empty y662 x6_3) a0_0 a0_1 a0_2 a1_0 a1_1 a1_2 t666 t667 t668 t669 _ A42.out).mono ?_
                              rintro e w147 ⟨rfl, hb⟩
                              have HS6_ := (hb.cell (World.block_lt_of_cell? _ _ (hHeld.2.2.2.2.2.2))).trans (hHeld.2.2.2.2.2.2)
                              refine ⟨_, rfl, ?_⟩
                              have n0_ := Aside0.mk (Kd.R_below (by (with_reducible repeat (first | apply Kd.R_alloc | apply Kd.R_drewN | apply Kd.R_drew)); exact HO_5.out) hb)
                              have n1_ := Aside0.mk (blk_below (g := gb653) (o := .cells #[.int .i64 a0_0, .int .i64 a0_1, .string a0_2] 23 (0, 0)) (by exact BK653.out) hb)
                              have n2_ := Aside0.mk (blk_below (g := gb654) (o := .cells #[.int .i64 a1_0, .int .i64 a1_1, .string a1_2] 23 (0, 0)) (by exact BK654.out) hb)
                              have n3_ := Aside0.mk (blk_below (g := gb670) (o := .cells #[.int .i64 0, .int .i64 0, .string (⟨#[]⟩ : ByteArray)] 23 (0, 0)) (by exact BK670.out) hb)
                              have n4_ := Aside0.mk (below_step (by repeat (first | (with_reducible first | exact HB.out | apply below_alloc | apply pw_below_drewN | apply below_drew1 | refine below_set ?_ GE653.out | refine below_set ?_ GE654.out | refine below_set ?_ GE670.out) | exact HB.out)) hb)
                              clear HO_5
                              clear BK653
                              clear BK654
                              clear BK670
                              clear HB
                              have HO_5 := n0_
                              have BK653 := n1_
                              have BK654 := n2_
                              have BK670 := n3_
                              have HB := n4_
                              clear n0_ n1_ n2_ n3_ n4_
                              (try clear hb)
                              (try clear hb2)
                              (try clear hk)
                              (try clear hi)
                              refine hK.out _ _ ⟨(blk_cell BK653.out 0).trans rfl, (blk_cell BK653.out 1).trans rfl, (blk_cell BK653.out 2).trans rfl, (blk_cell BK654.out 0).trans rfl, (blk_cell BK654.out 1).trans rfl, (blk_cell BK654.out 2).trans rfl, HS6_⟩ (fun hHeld => ?_)
                              clear hK K
                              refine norm_ (a' := ?_) ?_ ?_
                              rotate_left
                              · show Act.put _ (some 49) _ = _
                                simp only [Act.put, List.setIfInBounds_toArray, List.set_cons_zero, List.set_cons_succ, i64_w, i32_w]
                                rfl
                              refine pure_ (i := 7) (N := some 42) (v := ?_) (a' := ?_) #[true, true, true, true, true, true, true, true, false, false, true, false, false] rfl rfl (any_of HT_.out (by kernel_rfl)) (fun _ _ _ h => h) (Or.inl ⟨by rfl, ?_⟩) ?_ ?_
                              rotate_left
                              · intro w'
                                go_simp
                                with_reducible rfl
                              rotate_left
                              · simp only [Act.put, List.setIfInBounds_toArray, List.set_cons_zero, List.set_cons_succ, i64_w, i32_w]
                                rfl
                              refine pure_ (i := 8) (N := some 50) (v := ?_) (a' := ?_) #[true, true, true, true, true, true, true, true, true, false, true, false, false] rfl rfl (any_of HT_.out (by kernel_rfl)) (fun _ _ _ h => h) (Or.inl ⟨by rfl, ?_⟩) ?_ ?_
                              rotate_left
                              · intro w'
                                go_simp
                                with_reducible rfl
                              rotate_left
                              · simp only [Act.put, List.setIfInBounds_toArray, List.set_cons_zero, List.set_cons_succ, i64_w, i32_w]
                                rfl
                              refine pure_ (i := 9) (N := some 51) (v := ?_) (a' := ?_) #[true, true, true, true, true, true, true, true, true, true, true, false, false] rfl rfl (any_of HT_.out (by kernel_rfl)) (fun _ _ _ h => h) (Or.inl ⟨by rfl, ?_⟩) ?_ ?_
                              rotate_left
                              · intro w'
                                go_simp
                                with_reducible rfl
                              rotate_left
                              · simp only [Act.put, List.setIfInBounds_toArray, List.set_cons_zero, List.set_cons_succ, i64_w, i32_w]
                                rfl
                              exact norm_ (by simp only [putAll, Act.put, List.setIfInBounds_toArray, List.set_cons_zero, List.set_cons_succ]) (hCont (gb670) _ ⟨hHeld, (by (with_reducible repeat (first | apply Kd.R_alloc | apply Kd.R_drewN | apply Kd.R_drew)); exact HO_5.out), BK653.out, BK654.out, BK670.out, GW670.out, GE670.out, NB653_670.out, NB670_653.out, NB654_670.out, NB670_654.out, (by repeat (first | (with_reducible first | exact HB.out | apply below_alloc | apply pw_below_drewN | apply below_drew1 | refine below_set ?_ GE653.out | refine below_set ?_ GE654.out | refine below_set ?_ GE670.out) | exact HB.out))⟩)
                          rintro gb670 w148 ⟨hS_, h0_, h1_, h2_, h3_, h4_, h5_, h6_, h7_, h8_, h9_, h10_⟩
                          have n0_ : Aside0 (Kd.R Kd.string 9 w148 w.heap.size (fun _ => True) (.slice (some ad665) y662.length co144) y662) := ⟨h0_⟩
                          have n1_ : Aside0 (w148.heap[gb653]? = some (.cells #[.int .i64 a0_0, .int .i64 a0_1, .string a0_2] 23 (0, 0))) := ⟨h1_⟩
                          have n2_ : Aside0 (w148.heap[gb654]? = some (.cells #[.int .i64 a1_0, .int .i64 a1_1, .string a1_2] 23 (0, 0))) := ⟨h2_⟩
                          have n3_ : Aside0 (w148.heap[gb670]? = some (.cells #[.int .i64 0, .int .i64 0, .string (⟨#[]⟩ : ByteArray)] 23 (0, 0))) := ⟨h3_⟩
                          have n4_ : Aside0 (w.heap.size ≤ gb670) := ⟨h4_⟩
                          have n5_ : Aside0 (w.heap.size ≤ gb670) := ⟨h5_⟩
                          have n6_ : Aside0 (gb653 ≠ gb670) := ⟨h6_⟩
                          have n7_ : Aside0 (gb670 ≠ gb653) := ⟨h7_⟩
                          have n8_ : Aside0 (gb654 ≠ gb670) := ⟨h8_⟩
                          have n9_ : Aside0 (gb670 ≠ gb654) := ⟨h9_⟩
                          have n10_ : Aside0 (Below w.heap.size w w148) := ⟨h10_⟩
                          clear HO_5
                          clear BK653
                          clear BK654
                          clear HB
                          clear h0_ h1_ h2_ h3_ h4_ h5_ h6_ h7_ h8_ h9_ h10_
                          have HO_5 := n0_
                          have BK653 := n1_
                          have BK654 := n2_
                          have BK670 := n3_
                          have GW670 := n4_
                          have GE670 := n5_
                          have NB653_670 := n6_
                          have NB670_653 := n7_
                          have NB654_670 := n8_
                          have NB670_654 := n9_
                          have HB := n10_
                          clear n0_ n1_ n2_ n3_ n4_ n5_ n6_ n7_ n8_ n9_ n10_
                          have hHeld : w148.cell? ⟨gb653, 0, none⟩ = some (.int .i64 a0_0) ∧ w148.cell? ⟨gb653, 1, none⟩ = some (.int .i64 a0_1) ∧ w148.cell? ⟨gb653, 2, none⟩ = some (.string a0_2) ∧ w148.cell? ⟨gb654, 0, none⟩ = some (.int .i64 a1_0) ∧ w148.cell? ⟨gb654, 1, none⟩ = some (.int .i64 a1_1) ∧ w148.cell? ⟨gb654, 2, none⟩ = some (.string a1_2) ∧ w148.cell? (ad665.add (x6_3).toNat) = some (.string (rdOf ByteArray.empty y662 x6_3)) := hS_
                          refine norm_ (a' := ?_) ?_ ?_
                          rotate_left
                          · simp only [putAll, Act.put, List.setIfInBounds_toArray, List.set_cons_zero, List.set_cons_succ]
                            rfl
                          refine one_ (i := 11) (N := none) #[true, true, true, true, true, true, true, true, true, true, true, true, false] rfl rfl (one_of HT_.out (by kernel_rfl)) (by decide) (fun K hK => ?_)
                          have hs149 : w148.cell? ⟨gb670, 0, none⟩ = some (.int .i64 0) := (blk_cell BK670.out 0).trans rfl
                          have hfs149 := blk_frozen BK670.out 0
                          have hns149_0 := NB653_670.out
                          have hns149_1 := NB654_670.out
                          have hms149_0 := NB670_653.out
                          have hms149_1 := NB670_654.out
                          have hs150 : w148.cell? ⟨gb670, 1, none⟩ = some (.int .i64 0) := (blk_cell BK670.out 1).trans rfl
                          have hfs150 := blk_frozen BK670.out 1
                          have hns150_0 := NB653_670.out
                          have hns150_1 := NB654_670.out
                          have hms150_0 := NB670_653.out
                          have hms150_1 := NB670_654.out
                          have hs151 : w148.cell? ⟨gb670, 2, none⟩ = some (.string (⟨#[]⟩ : ByteArray)) := (blk_cell BK670.out 2).trans rfl
                          have hfs151 := blk_frozen BK670.out 2
                          have hns151_0 := NB653_670.out
                          have hns151_1 := NB654_670.out
                          have hms151_0 := NB670_653.out
                          have hms151_1 := NB670_654.out
                          refine skip_ (w1 := ?_) (by rfl) rfl ?_ ?_
                          rotate_left
                          · go_simp
                            rfl
                          refine hK.out _ _ ⟨((cell_far (p := ⟨gb670, _, none⟩) NB653_670.out _).trans (((cell_far (p := ⟨gb670, _, none⟩) NB653_670.out _).trans (((cell_far (p := ⟨gb670, _, none⟩) NB653_670.out _).trans (hHeld.1)))))), ((cell_far (p := ⟨gb670, _, none⟩) NB653_670.out _).trans (((cell_far (p := ⟨gb670, _, none⟩) NB653_670.out _).trans (((cell_far (p := ⟨gb670, _, none⟩) NB653_670.out _).trans (hHeld.2.1)))))), ((cell_far (p := ⟨gb670, _, none⟩) NB653_670.out _).trans (((cell_far (p := ⟨gb670, _, none⟩) NB653_670.out _).trans (((cell_far (p := ⟨gb670, _, none⟩) NB653_670.out _).trans (hHeld.2.2.1)))))), ((cell_far (p := ⟨gb670, _, none⟩) NB654_670.out _).trans (((cell_far (p := ⟨gb670, _, none⟩) NB654_670.out _).trans (((cell_far (p := ⟨gb670, _, none⟩) NB654_670.out _).trans (hHeld.2.2.2.1)))))), ((cell_far (p := ⟨gb670, _, none⟩) NB654_670.out _).trans (((cell_far (p := ⟨gb670, _, none⟩) NB654_670.out _).trans (((cell_far (p := ⟨gb670, _, none⟩) NB654_670.out _).trans (hHeld.2.2.2.2.1)))))), ((cell_far (p := ⟨gb670, _, none⟩) NB654_670.out _).trans (((cell_far (p := ⟨gb670, _, none⟩) NB654_670.out _).trans (((cell_far (p := ⟨gb670, _, none⟩) NB654_670.out _).trans (hHeld.2.2.2.2.2.1)))))), ((cell_far (p := ⟨gb670, _, none⟩) (by first | exact Kd.own_blk (Kd.R_ne HO_5.out BK670.out (by decide)) | (rw [add_block]; exact Kd.own_blk (Kd.R_ne HO_5.out BK670.out (by decide))) | (show (Addr.add _ _).block ≠ _; rw [add_block]; exact Kd.own_blk (Kd.R_ne HO_5.out BK670.out (by decide))) | (dsimp only; exact Kd.own_blk (Kd.R_ne HO_5.out BK670.out (by decide)))) _).trans (((cell_far (p := ⟨gb670, _, none⟩) (by first | exact Kd.own_blk (Kd.R_ne HO_5.out BK670.out (by decide)) | (rw [add_block]; exact Kd.own_blk (Kd.R_ne HO_5.out BK670.out (by decide))) | (show (Addr.add _ _).block ≠ _; rw [add_block]; exact Kd.own_blk (Kd.R_ne HO_5.out BK670.out (by decide))) | (dsimp only; exact Kd.own_blk (Kd.R_ne HO_5.out BK670.out (by decide)))) _).trans (((cell_far (p := ⟨gb670, _, none⟩) (by first | exact Kd.own_blk (Kd.R_ne HO_5.out BK670.out (by decide)) | (rw [add_block]; exact Kd.own_blk (Kd.R_ne HO_5.out BK670.out (by decide))) | (show (Addr.add _ _).block ≠ _; rw [add_block]; exact Kd.own_blk (Kd.R_ne HO_5.out BK670.out (by decide))) | (dsimp only; exact Kd.own_blk (Kd.R_ne HO_5.out BK670.out (by decide)))) _).trans (hHeld.2.2.2.2.2.2))))))⟩ (fun hHeld => ?_)
                          clear hK K
                          refine pure_ (i := 12) (N := some 8) (v := ?_) (a' := ?_) #[true, true, true, true, true, true, true, true, true, true, true, true, true] rfl rfl (any_of HT_.out (by kernel_rfl)) (fun _ _ _ h => h) (Or.inl ⟨by rfl, ?_⟩) ?_ ?_
                          rotate_left
                          · intro w'
                            go_simp
                            with_reducible rfl
                          rotate_left
                          · simp only [Act.put, List.setIfInBounds_toArray, List.set_cons_zero, List.set_cons_succ, i64_w, i32_w]
                            rfl
                          refine done_ (done_of HT_.out (by kernel_rfl)) ?_
                          have hnb152 := NB670_653.out
                          have hnc152 := NB653_670.out
                          have hnb153 := NB670_654.out
                          have hnc153 := NB654_670.out
                          have hcz154_0 : w148.cell? ⟨gb670, 0, none⟩ = some (.int .i64 0) := (blk_cell BK670.out 0).trans rfl
                          have hcz154_1 : w148.cell? ⟨gb670, 1, none⟩ = some (.int .i64 0) := (blk_cell BK670.out 1).trans rfl
                          have hcz154_2 : w148.cell? ⟨gb670, 2, none⟩ = some (.string (⟨#[]⟩ : ByteArray)) := (blk_cell BK670.out 2).trans rfl
                          have hfz154_0 := blk_frozen BK670.out 0
                          have hfz154_1 := blk_frozen BK670.out 1
                          have hfz154_2 := blk_frozen BK670.out 2
                          try go_wp2
                          go_roundg k3
                          case measure => have := HJ2.out; have := HJ19.out; have := HK3.out; omega
                          case rel => exact ⟨(wrap64 (x6_3 + 1)), (by first | rfl | (simp; done) | (simp [*]; done)), H', ⟨by have := HJ2.out; have := HJ19.out; have := HK3.out; omega⟩, ⟨by (with_reducible repeat (first | apply Kd.R_alloc | apply Kd.R_drewN | apply Kd.R_drew)); exact Kd.R_mono (Kd.R_far (p := ⟨gb670, 2, none⟩) (Kd.R_far (p := ⟨gb670, 1, none⟩) (Kd.R_far (p := ⟨gb670, 0, none⟩) (Kd.R_types HO_5.out BK670.out (by decide)) (fun _ hk => hk.2) (.int .i64 t666)) (fun _ hk => hk.2) (.int .i64 t667)) (fun _ hk => hk.2) (.string t668)) (fun _ hk => trivial)⟩, ⟨by refine blk_far ?_ NB653_670.out _; refine blk_far ?_ NB653_670.out _; refine blk_far ?_ NB653_670.out _; exact BK653.out⟩, ⟨by refine blk_far ?_ NB654_670.out _; refine blk_far ?_ NB654_670.out _; refine blk_far ?_ NB654_670.out _; exact BK654.out⟩, ⟨by repeat (first | (with_reducible first | exact HB.out | apply below_alloc | apply pw_below_drewN | apply below_drew1 | refine below_set ?_ GE653.out | refine below_set ?_ GE654.out | refine below_set ?_ GE670.out) | exact HB.out)⟩⟩
                    · rw [if_neg c41] at H
                      exact absurd H (by simp)
                  · rw [if_neg c40] at H
                    have c40b0 : decide (x6_3 < (y662.length : Int)) = false := decide_eq_false c40
                    clear c40
                    replace H := Option.bind_eq_some_iff.mp H
                    obtain ⟨t674, A1550, H⟩ := H
                    replace H : (some t674) = some r := H
                    have A155 := Aside0.mk A1550
                    clear A1550
                    obtain rfl := Option.some.inj H
                    obtain ⟨Ao156, co156, eo156⟩ := Kd.R_slice HO_5.out
                    subst eo156
                    go_wp2_with (first | ((with_reducible refine gate_callee (f := 11) rfl ?_); refine goesL_ (some 101) rfl rfl Try.func11 (by kernel_rfl) rfl #[] rfl (by (try simp only [List.map_toArray, List.map_cons, List.map_nil]); first | done | rfl | (simp only [List.length_drop, List.length_take]; rfl)) ?_; (with_reducible refine (chrysalislaw17_known.calls k3  t674 _ A155.out).mono ?_); rintro e w157 ⟨rfl, hb⟩; refine ⟨_, rfl, ?_⟩; have n0_ := Aside0.mk (Kd.R_below (by (with_reducible repeat (first | apply Kd.R_alloc | apply Kd.R_drewN | apply Kd.R_drew)); exact HO_5.out) hb); have n1_ := Aside0.mk (blk_below (g := gb653) (o := .cells #[.int .i64 a0_0, .int .i64 a0_1, .string a0_2] 23 (0, 0)) BK653.out hb); have n2_ := Aside0.mk (blk_below (g := gb654) (o := .cells #[.int .i64 a1_0, .int .i64 a1_1, .string a1_2] 23 (0, 0)) BK654.out hb); have n3_ := Aside0.mk (below_step (by repeat (first | (with_reducible first | exact HB.out | apply below_alloc | apply pw_below_drewN | apply below_drew1 | refine below_set ?_ GE653.out | refine below_set ?_ GE654.out) | exact HB.out)) hb); clear HO_5; clear BK653; clear BK654; clear HB; have HO_5 := n0_; have BK653 := n1_; have BK654 := n2_; have HB := n3_; clear n0_ n1_ n2_ n3_; (try clear hb)))
                    go_ret
                    exact ⟨by first | rfl | (simp [errW_none, errW_some] <;> rfl) | (simp [*, errW_none, errW_some] <;> rfl), by repeat (first | (with_reducible first | exact HB.out | apply below_alloc | apply pw_below_drewN | apply below_drew1 | refine below_set ?_ GE653.out | refine below_set ?_ GE654.out) | exact HB.out)⟩

end Go.Proofs.Ytmadbfahdnkecaa.Q
