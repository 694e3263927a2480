/- Functions that the laws reach, as plain Lean functions, each with a proof that the call does what its function says; no condition. -/
import Derived.Test.YtmadbfahdnkecaaQ0
import Derived.Test.YtmadbfahdnkecaaQ1
import Derived.Test.YtmadbfahdnkecaaQ7
import Derived.Test.YtmadbfahdnkecaaQ8
import Derived.Test.YtmadbfahdnkecaaQ9
namespace Go.Proofs.Ytmadbfahdnkecaa.Q
open Go.RowKit Go.Proofs.YtmadbfahdnkecaaW.PrintWords Go.Proofs.YtmadbfahdnkecaaW.PrintLast Go.Proofs.YtmadbfahdnkecaaW.PrintMore
attribute [local go_sem]  Go.Proofs.Ytmadbfahdnkecaa.as_num_num Go.Proofs.Ytmadbfahdnkecaa.as_text_num Go.Proofs.Ytmadbfahdnkecaa.as_nil_num Go.Proofs.Ytmadbfahdnkecaa.as_text_text Go.Proofs.Ytmadbfahdnkecaa.as_num_text Go.Proofs.Ytmadbfahdnkecaa.as_nil_text Go.Proofs.Ytmadbfahdnkecaa.leq_texts max2_int min2_int max_two min_two max_three min_three max_four min_four   -- for this text's walks alone
set_option linter.unusedVariables false
set_option linter.unusedSimpArgs false

attribute [local go_sem high] eqA23
/-! ### chrysalisref17_Two: function 16 -/
def chrysalisref17_Two.j0 : Nat → ByteArray → Bool → Int → Int → ByteArray → Int → Int → ByteArray → Option (Int × Int × ByteArray × Int)
  | 0, _, _, _, _, _, _, _, _ => none
  | k + 1, x0, x27, x404000, x404001, x404002, x405000, x405001, x405002 => if x27 = true then ((chrysalisref17_ints.f k x0 x404001 x405001).bind fun bt413 => (some (bt413.1, bt413.2.1, bt413.2.2.1, bt413.2.2.2))) else (if x404000 = 2 then (if x405000 = 2 then ((chrysalisref17_texts.f k x0 x404002 x405002).bind fun bt417 => (some (bt417.1, bt417.2.1, bt417.2.2.1, bt417.2.2.2))) else (some (0, 0, (⟨#[]⟩ : ByteArray), 1))) else (some (0, 0, (⟨#[]⟩ : ByteArray), 1)))
def chrysalisref17_Two.f (k : Nat) (a0 : ByteArray) (a1_0 : Int) (a1_1 : Int) (a1_2 : ByteArray) (a2_0 : Int) (a2_1 : Int) (a2_2 : ByteArray) : Option (Int × Int × ByteArray × Int) := (chrysalisref17_two.f k a0).bind fun t406 => (if t406 = true then (if a0.toList = ([61, 61] : List UInt8) then ((chrysalisref17_truth.f (a1_0 == a2_0 && (a1_1 == a2_1 && (a1_2.toList == a2_2.toList)))).bind fun bt407 => (some (bt407.1, bt407.2.1, bt407.2.2, 0))) else (if a0.toList = ([33, 61] : List UInt8) then ((chrysalisref17_truth.f (!(a1_0 == a2_0) || (!(a1_1 == a2_1) || (!(a1_2.toList == a2_2.toList))))).bind fun bt410 => (some (bt410.1, bt410.2.1, bt410.2.2, 0))) else (if a1_0 = 1 then (chrysalisref17_Two.j0 k a0 (a2_0 == 1) a1_0 a1_1 a1_2 a2_0 a2_1 a2_2) else (chrysalisref17_Two.j0 k a0 false a1_0 a1_1 a1_2 a2_0 a2_1 a2_2)))) else (some (0, 0, (⟨#[]⟩ : ByteArray), 12)))
theorem chrysalisref17_Two.mono_l : ∀ k, (∀ y0 y1 y2 y3 y4 y5 y6 y7, LeO (chrysalisref17_Two.j0 k y0 y1 y2 y3 y4 y5 y6 y7) (chrysalisref17_Two.j0 (k + 1) y0 y1 y2 y3 y4 y5 y6 y7))
  | 0 => fun _ _ _ _ _ _ _ _ r h => by simp [chrysalisref17_Two.j0] at h
  | k + 1 => by
    have ih0 := chrysalisref17_Two.mono_l k
    · intro y0 y1 y2 y3 y4 y5 y6 y7
      unfold chrysalisref17_Two.j0
      repeat' first
      | (with_reducible exact ih0 _ _ _ _ _ _ _ _)
      | (with_reducible exact chrysalisref17_ints.mono _ _ _ _)
      | (with_reducible exact chrysalisref17_texts.mono _ _ _ _)
      | (with_reducible exact chrysalisref17_two.mono _ _)
      | (with_reducible exact LeO.refl _)
      | (with_reducible exact LeO.none _)
      | (with_reducible refine LeO.ite ?_ ?_)
      | (with_reducible refine LeO.bind ?_ (fun _ => ?_))
      | exact ih0 _ _ _ _ _ _ _ _
      | exact chrysalisref17_ints.mono _ _ _ _
      | exact chrysalisref17_texts.mono _ _ _ _
      | exact chrysalisref17_two.mono _ _
      | exact LeO.none _
      | refine LeO.ite ?_ ?_
      | refine LeO.bind ?_ (fun _ => ?_)
theorem chrysalisref17_Two.mono : ∀ a0 a1 a2 a3 a4 a5 a6 k, LeO (chrysalisref17_Two.f k a0 a1 a2 a3 a4 a5 a6) (chrysalisref17_Two.f (k + 1) a0 a1 a2 a3 a4 a5 a6) := by
  intro a0 a1 a2 a3 a4 a5 a6 k
  have ih0 := chrysalisref17_Two.mono_l k
  unfold chrysalisref17_Two.f
  repeat' first
      | (with_reducible exact ih0 _ _ _ _ _ _ _ _)
      | (with_reducible exact chrysalisref17_ints.mono _ _ _ _)
      | (with_reducible exact chrysalisref17_texts.mono _ _ _ _)
      | (with_reducible exact chrysalisref17_two.mono _ _)
      | (with_reducible exact LeO.refl _)
      | (with_reducible exact LeO.none _)
      | (with_reducible refine LeO.ite ?_ ?_)
      | (with_reducible refine LeO.bind ?_ (fun _ => ?_))
      | exact ih0 _ _ _ _ _ _ _ _
      | exact chrysalisref17_ints.mono _ _ _ _
      | exact chrysalisref17_texts.mono _ _ _ _
      | exact chrysalisref17_two.mono _ _
      | exact LeO.none _
      | refine LeO.ite ?_ ?_
      | refine LeO.bind ?_ (fun _ => ?_)
set_option maxHeartbeats 8000000 in
set_option maxRecDepth 100000 in
theorem chrysalisref17_Two.calls (k : Nat) (a0 : ByteArray) (a1_0 : Int) (a1_1 : Int) (a1_2 : ByteArray) (a2_0 : Int) (a2_1 : Int) (a2_2 : ByteArray) (r1 : Int) (r2 : Int) (r3 : ByteArray) (r4 : Int) (w : World) (h : chrysalisref17_Two.f k a0 a1_0 a1_1 a1_2 a2_0 a2_1 a2_2 = some (r1, r2, r3, r4)) :
    Calls Try.prog 16 #[.string a0, .agg #[.int .i64 a1_0, .int .i64 a1_1, .string a1_2], .agg #[.int .i64 a2_0, .int .i64 a2_1, .string a2_2]] w fun e w' => e = .returned (.tuple #[.agg #[.int .i64 r1, .int .i64 r2, .string r3], .int .i64 r4]) ∧ Below w.heap.size w w' := by
  have hu23 := Try.underlying23
  have HB := Aside0.mk (Below.refl w.heap.size w)
  have H : ((chrysalisref17_two.f k a0).bind fun t406 => (if t406 = true then (if a0.toList = ([61, 61] : List UInt8) then ((chrysalisref17_truth.f (a1_0 == a2_0 && (a1_1 == a2_1 && (a1_2.toList == a2_2.toList)))).bind fun bt407 => (some (bt407.1, bt407.2.1, bt407.2.2, 0))) else (if a0.toList = ([33, 61] : List UInt8) then ((chrysalisref17_truth.f (!(a1_0 == a2_0) || (!(a1_1 == a2_1) || (!(a1_2.toList == a2_2.toList))))).bind fun bt410 => (some (bt410.1, bt410.2.1, bt410.2.2, 0))) else (if a1_0 = 1 then (chrysalisref17_Two.j0 k a0 (a2_0 == 1) a1_0 a1_1 a1_2 a2_0 a2_1 a2_2) else (chrysalisref17_Two.j0 k a0 false a1_0 a1_1 a1_2 a2_0 a2_1 a2_2)))) else (some (0, 0, (⟨#[]⟩ : ByteArray), 12)))) = some (r1, r2, r3, r4) := h
  clear h
  replace H := Option.bind_eq_some_iff.mp H
  obtain ⟨t406, A40, H⟩ := H
  replace H : (if t406 = true then (if a0.toList = ([61, 61] : List UInt8) then ((chrysalisref17_truth.f (a1_0 == a2_0 && (a1_1 == a2_1 && (a1_2.toList == a2_2.toList)))).bind fun bt407 => (some (bt407.1, bt407.2.1, bt407.2.2, 0))) else (if a0.toList = ([33, 61] : List UInt8) then ((chrysalisref17_truth.f (!(a1_0 == a2_0) || (!(a1_1 == a2_1) || (!(a1_2.toList == a2_2.toList))))).bind fun bt410 => (some (bt410.1, bt410.2.1, bt410.2.2, 0))) else (if a1_0 = 1 then (chrysalisref17_Two.j0 k a0 (a2_0 == 1) a1_0 a1_1 a1_2 a2_0 a2_1 a2_2) else (chrysalisref17_Two.j0 k a0 false a1_0 a1_1 a1_2 a2_0 a2_1 a2_2)))) else (some (0, 0, (⟨#[]⟩ : ByteArray), 12))) = some (r1, r2, r3, r4) := H
  have A4 := Aside0.mk A40
  clear A40
  by_cases c5 : t406 = true
  · subst c5
    have H1 : (if a0.toList = ([61, 61] : List UInt8) then ((chrysalisref17_truth.f (a1_0 == a2_0 && (a1_1 == a2_1 && (a1_2.toList == a2_2.toList)))).bind fun bt407 => (some (bt407.1, bt407.2.1, bt407.2.2, 0))) else (if a0.toList = ([33, 61] : List UInt8) then ((chrysalisref17_truth.f (!(a1_0 == a2_0) || (!(a1_1 == a2_1) || (!(a1_2.toList == a2_2.toList))))).bind fun bt410 => (some (bt410.1, bt410.2.1, bt410.2.2, 0))) else (if a1_0 = 1 then (chrysalisref17_Two.j0 k a0 (a2_0 == 1) a1_0 a1_1 a1_2 a2_0 a2_1 a2_2) else (chrysalisref17_Two.j0 k a0 false a1_0 a1_1 a1_2 a2_0 a2_1 a2_2)))) = some (r1, r2, r3, r4) := by rw [if_pos rfl] at H; exact H
    clear H
    have H := H1
    clear H1
    by_cases c6 : a0.toList = ([61, 61] : List UInt8)
    · rw [if_pos c6] at H
      have c6b0 : (a0.toList == ([61, 61] : List UInt8)) = true := beq_iff_eq.mpr c6
      have c6b1 : (a0.toList != ([61, 61] : List UInt8)) = false := bne_eq_false_iff_eq.mpr c6
      clear c6
      replace H := Option.bind_eq_some_iff.mp H
      obtain ⟨⟨t407, t408, t409⟩, A70, H⟩ := H
      replace H : (some (t407, t408, t409, 0)) = some (r1, r2, r3, r4) := H
      have A7 := Aside0.mk A70
      clear A70
      simp only [Option.some.injEq, Prod.mk.injEq] at H
      obtain ⟨rfl, rfl, rfl, rfl⟩ := H
      go_enter Try.func16, Try.ntmps16
      go_wp2_with (first | ((with_reducible refine gate_dst (N := 4) rfl ?_); refine box_event ?hg (N := 4) ?hd (cs := #[.int .i64 a1_0, .int .i64 a1_1, .string a1_2]) (t := 23) ?hr ?_; (case hd => rfl); (case hg => rfl); (case hr => first | (go_simp; done) | (go_simp; rfl)); intro gb403 hg w8 hbox hb; have n0_ := Aside0.mk (below_step (by repeat (first | (with_reducible first | exact HB.out | apply below_alloc | apply pw_below_drewN | apply below_drew1) | exact HB.out)) hb); have n1_ := Aside0.mk (hbox); have n2_ := Aside0.mk ((by rw [hg]; exact (below_size (by repeat (first | (with_reducible first | exact HB.out | apply below_alloc | apply pw_below_drewN | apply below_drew1) | exact HB.out))) : w.heap.size ≤ gb403)); have n3_ := Aside0.mk ((by rw [hg]; exact (below_size (by repeat (first | (with_reducible first | exact HB.out | apply below_alloc | apply pw_below_drewN | apply below_drew1) | exact HB.out))) : w.heap.size ≤ gb403)); clear HB; have HB := n0_; have BK403 := n1_; have GW403 := n2_; have GE403 := n3_; clear n0_ n1_ n2_ n3_; clear hb hbox hg) | ((with_reducible refine gate_dst (N := 5) rfl ?_); refine box_event ?hg (N := 5) ?hd (cs := #[.int .i64 a2_0, .int .i64 a2_1, .string a2_2]) (t := 23) ?hr ?_; (case hd => rfl); (case hg => rfl); (case hr => first | (go_simp; done) | (go_simp; rfl)); intro gb404 hg w9 hbox hb; have n0_ := Aside0.mk (blk_below (g := gb403) (o := .cells #[.int .i64 a1_0, .int .i64 a1_1, .string a1_2] 23 (0, 0)) BK403.out hb); have n1_ := Aside0.mk (below_step (by repeat (first | (with_reducible first | exact HB.out | apply below_alloc | apply pw_below_drewN | apply below_drew1 | refine below_set ?_ GE403.out) | exact HB.out)) hb); have n2_ := Aside0.mk (hbox); have n3_ := Aside0.mk ((by rw [hg]; exact (below_size (by repeat (first | (with_reducible first | exact HB.out | apply below_alloc | apply pw_below_drewN | apply below_drew1 | refine below_set ?_ GE403.out) | exact HB.out))) : w.heap.size ≤ gb404)); have n4_ := Aside0.mk ((by rw [hg]; exact (below_size (by repeat (first | (with_reducible first | exact HB.out | apply below_alloc | apply pw_below_drewN | apply below_drew1 | refine below_set ?_ GE403.out) | exact HB.out))) : w.heap.size ≤ gb404)); have n5_ := Aside0.mk ((by rw [hg]; exact Nat.ne_of_lt (blk_lt (g := gb403) (o := .cells #[.int .i64 a1_0, .int .i64 a1_1, .string a1_2] 23 (0, 0)) BK403.out) : gb403 ≠ gb404)); have n6_ := Aside0.mk ((by rw [hg]; exact Nat.ne_of_gt (blk_lt (g := gb403) (o := .cells #[.int .i64 a1_0, .int .i64 a1_1, .string a1_2] 23 (0, 0)) BK403.out) : gb404 ≠ gb403)); clear BK403; clear HB; have BK403 := n0_; have HB := n1_; have BK404 := n2_; have GW404 := n3_; have GE404 := n4_; have NB403_404 := n5_; have NB404_403 := n6_; clear n0_ n1_ n2_ n3_ n4_ n5_ n6_; clear hb hbox hg) | ((with_reducible refine gate_dst (N := 6) rfl ?_); refine box_event ?hg (N := 6) ?hd (cs := #[.int .i64 0, .int .i64 0, .string (⟨#[]⟩ : ByteArray)]) (t := 23) ?hr ?_; (case hd => rfl); (case hg => rfl); (case hr => first | (go_simp; done) | (go_simp; rfl)); intro gb405 hg w10 hbox hb; have n0_ := Aside0.mk (blk_below (g := gb403) (o := .cells #[.int .i64 a1_0, .int .i64 a1_1, .string a1_2] 23 (0, 0)) BK403.out hb); have n1_ := Aside0.mk (blk_below (g := gb404) (o := .cells #[.int .i64 a2_0, .int .i64 a2_1, .string a2_2] 23 (0, 0)) BK404.out hb); have n2_ := Aside0.mk (below_step (by repeat (first | (with_reducible first | exact HB.out | apply below_alloc | apply pw_below_drewN | apply below_drew1 | refine below_set ?_ GE403.out | refine below_set ?_ GE404.out) | exact HB.out)) hb); have n3_ := Aside0.mk (hbox); have n4_ := Aside0.mk ((by rw [hg]; exact (below_size (by repeat (first | (with_reducible first | exact HB.out | apply below_alloc | apply pw_below_drewN | apply below_drew1 | refine below_set ?_ GE403.out | refine below_set ?_ GE404.out) | exact HB.out))) : w.heap.size ≤ gb405)); have n5_ := Aside0.mk ((by rw [hg]; exact (below_size (by repeat (first | (with_reducible first | exact HB.out | apply below_alloc | apply pw_below_drewN | apply below_drew1 | refine below_set ?_ GE403.out | refine below_set ?_ GE404.out) | exact HB.out))) : w.heap.size ≤ gb405)); have n6_ := Aside0.mk ((by rw [hg]; exact Nat.ne_of_lt (blk_lt (g := gb403) (o := .cells #[.int .i64 a1_0, .int .i64 a1_1, .string a1_2] 23 (0, 0)) BK403.out) : gb403 ≠ gb405)); have n7_ := Aside0.mk ((by rw [hg]; exact Nat.ne_of_gt (blk_lt (g := gb403) (o := .cells #[.int .i64 a1_0, .int .i64 a1_1, .string a1_2] 23 (0, 0)) BK403.out) : gb405 ≠ gb403)); have n8_ := Aside0.mk ((by rw [hg]; exact Nat.ne_of_lt (blk_lt (g := gb404) (o := .cells #[.int .i64 a2_0, .int .i64 a2_1, .string a2_2] 23 (0, 0)) BK404.out) : gb404 ≠ gb405)); have n9_ := Aside0.mk ((by rw [hg]; exact Nat.ne_of_gt (blk_lt (g := gb404) (o := .cells #[.int .i64 a2_0, .int .i64 a2_1, .string a2_2] 23 (0, 0)) BK404.out) : gb405 ≠ gb404)); clear BK403; clear BK404; clear HB; have BK403 := n0_; have BK404 := n1_; have HB := n2_; have BK405 := n3_; have GW405 := n4_; have GE405 := n5_; have NB403_405 := n6_; have NB405_403 := n7_; have NB404_405 := n8_; have NB405_404 := n9_; clear n0_ n1_ n2_ n3_ n4_ n5_ n6_ n7_ n8_ n9_; clear hb hbox hg) | ((with_reducible refine gate_callee (f := 34) rfl ?_); refine goesL_ (some 10) rfl rfl Try.func34 (by kernel_rfl) rfl #[.string a0] rfl (by (try simp only [List.map_toArray, List.map_cons, List.map_nil]); first | done | rfl | (simp only [List.length_drop, List.length_take]; rfl)) ?_; (with_reducible refine (chrysalisref17_two.calls k a0 true _ A4.out).mono ?_); rintro e w11 ⟨rfl, hb⟩; refine ⟨_, rfl, ?_⟩; have n0_ := Aside0.mk (blk_below (g := gb403) (o := .cells #[.int .i64 a1_0, .int .i64 a1_1, .string a1_2] 23 (0, 0)) BK403.out hb); have n1_ := Aside0.mk (blk_below (g := gb404) (o := .cells #[.int .i64 a2_0, .int .i64 a2_1, .string a2_2] 23 (0, 0)) BK404.out hb); have n2_ := Aside0.mk (blk_below (g := gb405) (o := .cells #[.int .i64 0, .int .i64 0, .string (⟨#[]⟩ : ByteArray)] 23 (0, 0)) BK405.out hb); have n3_ := Aside0.mk (below_step (by repeat (first | (with_reducible first | exact HB.out | apply below_alloc | apply pw_below_drewN | apply below_drew1 | refine below_set ?_ GE403.out | refine below_set ?_ GE404.out | refine below_set ?_ GE405.out) | exact HB.out)) hb); clear BK403; clear BK404; clear BK405; clear HB; have BK403 := n0_; have BK404 := n1_; have BK405 := n2_; have HB := n3_; clear n0_ n1_ n2_ n3_; (try clear hb); (try clear hb2); (try clear hk); (try clear hi); have hnb12 := NB403_404.out; have hnc12 := NB404_403.out; have hnb13 := NB403_405.out; have hnc13 := NB405_403.out; have hcz14_0 : w11.cell? ⟨gb403, 0, none⟩ = some (.int .i64 a1_0) := (blk_cell BK403.out 0).trans rfl; have hcz14_1 : w11.cell? ⟨gb403, 1, none⟩ = some (.int .i64 a1_1) := (blk_cell BK403.out 1).trans rfl; have hcz14_2 : w11.cell? ⟨gb403, 2, none⟩ = some (.string a1_2) := (blk_cell BK403.out 2).trans rfl; have hfz14_0 := blk_frozen BK403.out 0; have hfz14_1 := blk_frozen BK403.out 1; have hfz14_2 := blk_frozen BK403.out 2; have hnb15 := NB404_405.out; have hnc15 := NB405_404.out; have hcz16_0 : w11.cell? ⟨gb404, 0, none⟩ = some (.int .i64 a2_0) := (blk_cell BK404.out 0).trans rfl; have hcz16_1 : w11.cell? ⟨gb404, 1, none⟩ = some (.int .i64 a2_1) := (blk_cell BK404.out 1).trans rfl; have hcz16_2 : w11.cell? ⟨gb404, 2, none⟩ = some (.string a2_2) := (blk_cell BK404.out 2).trans rfl; have hfz16_0 := blk_frozen BK404.out 0; have hfz16_1 := blk_frozen BK404.out 1; have hfz16_2 := blk_frozen BK404.out 2) | ((with_reducible refine gate_callee (f := 35) rfl ?_); refine goesL_ (some 19) rfl rfl Try.func35 (by kernel_rfl) rfl #[.bool (a1_0 == a2_0 && (a1_1 == a2_1 && (a1_2.toList == a2_2.toList)))] rfl (by (try simp only [List.map_toArray, List.map_cons, List.map_nil]); first | done | rfl | (simp only [List.length_drop, List.length_take]; rfl)) ?_; (with_reducible refine (chrysalisref17_truth.calls (a1_0 == a2_0 && (a1_1 == a2_1 && (a1_2.toList == a2_2.toList))) t407 t408 t409 _ A7.out).mono ?_); rintro e w17 ⟨rfl, hb⟩; refine ⟨_, rfl, ?_⟩; have n0_ := Aside0.mk (blk_below (g := gb403) (o := .cells #[.int .i64 a1_0, .int .i64 a1_1, .string a1_2] 23 (0, 0)) BK403.out hb); have n1_ := Aside0.mk (blk_below (g := gb404) (o := .cells #[.int .i64 a2_0, .int .i64 a2_1, .string a2_2] 23 (0, 0)) BK404.out hb); have n2_ := Aside0.mk (blk_below (g := gb405) (o := .cells #[.int .i64 0, .int .i64 0, .string (⟨#[]⟩ : ByteArray)] 23 (0, 0)) BK405.out hb); have n3_ := Aside0.mk (below_step (by repeat (first | (with_reducible first | exact HB.out | apply below_alloc | apply pw_below_drewN | apply below_drew1 | refine below_set ?_ GE403.out | refine below_set ?_ GE404.out | refine below_set ?_ GE405.out) | exact HB.out)) hb); clear BK403; clear BK404; clear BK405; clear HB; have BK403 := n0_; have BK404 := n1_; have BK405 := n2_; have HB := n3_; clear n0_ n1_ n2_ n3_; (try clear hb); (try clear hb2); (try clear hk); (try clear hi); have hcz18_0 : w17.cell? ⟨gb405, 0, none⟩ = some (.int .i64 0) := (blk_cell BK405.out 0).trans rfl; have hcz18_1 : w17.cell? ⟨gb405, 1, none⟩ = some (.int .i64 0) := (blk_cell BK405.out 1).trans rfl; have hcz18_2 : w17.cell? ⟨gb405, 2, none⟩ = some (.string (⟨#[]⟩ : ByteArray)) := (blk_cell BK405.out 2).trans rfl; have hfz18_0 := blk_frozen BK405.out 0; have hfz18_1 := blk_frozen BK405.out 1; have hfz18_2 := blk_frozen BK405.out 2))
      refine bodyPost_ret (results_ct rfl _ _ gb405 23 #[.int .i64 t407, .int .i64 t408, .string t409] (0, 0) _ rfl (by refine blk_put (cs := #[.int .i64 t407, .int .i64 t408, .string (⟨#[]⟩ : ByteArray)]) ?_ 2 _ rfl; refine blk_put (cs := #[.int .i64 t407, .int .i64 0, .string (⟨#[]⟩ : ByteArray)]) ?_ 1 _ rfl; refine blk_put (cs := #[.int .i64 0, .int .i64 0, .string (⟨#[]⟩ : ByteArray)]) ?_ 0 _ rfl; exact BK405.out) Try.underlying23 rfl (by kernel_rfl)) rfl ?_
      exact ⟨by first | rfl | (simp [errW_none, errW_some] <;> rfl) | (simp [*, errW_none, errW_some] <;> rfl), by repeat (first | (with_reducible first | exact HB.out | apply below_alloc | apply pw_below_drewN | apply below_drew1 | refine below_set ?_ GE403.out | refine below_set ?_ GE404.out | refine below_set ?_ GE405.out) | exact HB.out)⟩
    · rw [if_neg c6] at H
      have c6b0 : (a0.toList == ([61, 61] : List UInt8)) = false := beq_eq_false_iff_ne.mpr c6
      have c6b1 : (a0.toList != ([61, 61] : List UInt8)) = true := bne_iff_ne.mpr c6
      by_cases c19 : a0.toList = ([33, 61] : List UInt8)
      · rw [if_pos c19] at H
        have c19b0 : (a0.toList == ([33, 61] : List UInt8)) = true := beq_iff_eq.mpr c19
        have c19b1 : (a0.toList != ([33, 61] : List UInt8)) = false := bne_eq_false_iff_eq.mpr c19
        clear c19
        replace H := Option.bind_eq_some_iff.mp H
        obtain ⟨⟨t410, t411, t412⟩, A200, H⟩ := H
        replace H : (some (t410, t411, t412, 0)) = some (r1, r2, r3, r4) := H
        have A20 := Aside0.mk A200
        clear A200
        simp only [Option.some.injEq, Prod.mk.injEq] at H
        obtain ⟨rfl, rfl, rfl, rfl⟩ := H
        go_enter Try.func16, Try.ntmps16
        go_wp2_with (first | ((with_reducible refine gate_dst (N := 4) rfl ?_); refine box_event ?hg (N := 4) ?hd (cs := #[.int .i64 a1_0, .int .i64 a1_1, .string a1_2]) (t := 23) ?hr ?_; (case hd => rfl); (case hg => rfl); (case hr => first | (go_simp; done) | (go_simp; rfl)); intro gb403 hg w21 hbox hb; have n0_ := Aside0.mk (below_step (by repeat (first | (with_reducible first | exact HB.out | apply below_alloc | apply pw_below_drewN | apply below_drew1) | exact HB.out)) hb); have n1_ := Aside0.mk (hbox); have n2_ := Aside0.mk ((by rw [hg]; exact (below_size (by repeat (first | (with_reducible first | exact HB.out | apply below_alloc | apply pw_below_drewN | apply below_drew1) | exact HB.out))) : w.heap.size ≤ gb403)); have n3_ := Aside0.mk ((by rw [hg]; exact (below_size (by repeat (first | (with_reducible first | exact HB.out | apply below_alloc | apply pw_below_drewN | apply below_drew1) | exact HB.out))) : w.heap.size ≤ gb403)); clear HB; have HB := n0_; have BK403 := n1_; have GW403 := n2_; have GE403 := n3_; clear n0_ n1_ n2_ n3_; clear hb hbox hg) | ((with_reducible refine gate_dst (N := 5) rfl ?_); refine box_event ?hg (N := 5) ?hd (cs := #[.int .i64 a2_0, .int .i64 a2_1, .string a2_2]) (t := 23) ?hr ?_; (case hd => rfl); (case hg => rfl); (case hr => first | (go_simp; done) | (go_simp; rfl)); intro gb404 hg w22 hbox hb; have n0_ := Aside0.mk (blk_below (g := gb403) (o := .cells #[.int .i64 a1_0, .int .i64 a1_1, .string a1_2] 23 (0, 0)) BK403.out hb); have n1_ := Aside0.mk (below_step (by repeat (first | (with_reducible first | exact HB.out | apply below_alloc | apply pw_below_drewN | apply below_drew1 | refine below_set ?_ GE403.out) | exact HB.out)) hb); have n2_ := Aside0.mk (hbox); have n3_ := Aside0.mk ((by rw [hg]; exact (below_size (by repeat (first | (with_reducible first | exact HB.out | apply below_alloc | apply pw_below_drewN | apply below_drew1 | refine below_set ?_ GE403.out) | exact HB.out))) : w.heap.size ≤ gb404)); have n4_ := Aside0.mk ((by rw [hg]; exact (below_size (by repeat (first | (with_reducible first | exact HB.out | apply below_alloc | apply pw_below_drewN | apply below_drew1 | refine below_set ?_ GE403.out) | exact HB.out))) : w.heap.size ≤ gb404)); have n5_ := Aside0.mk ((by rw [hg]; exact Nat.ne_of_lt (blk_lt (g := gb403) (o := .cells #[.int .i64 a1_0, .int .i64 a1_1, .string a1_2] 23 (0, 0)) BK403.out) : gb403 ≠ gb404)); have n6_ := Aside0.mk ((by rw [hg]; exact Nat.ne_of_gt (blk_lt (g := gb403) (o := .cells #[.int .i64 a1_0, .int .i64 a1_1, .string a1_2] 23 (0, 0)) BK403.out) : gb404 ≠ gb403)); clear BK403; clear HB; have BK403 := n0_; have HB := n1_; have BK404 := n2_; have GW404 := n3_; have GE404 := n4_; have NB403_404 := n5_; have NB404_403 := n6_; clear n0_ n1_ n2_ n3_ n4_ n5_ n6_; clear hb hbox hg) | ((with_reducible refine gate_dst (N := 6) rfl ?_); refine box_event ?hg (N := 6) ?hd (cs := #[.int .i64 0, .int .i64 0, .string (⟨#[]⟩ : ByteArray)]) (t := 23) ?hr ?_; (case hd => rfl); (case hg => rfl); (case hr => first | (go_simp; done) | (go_simp; rfl)); intro gb405 hg w23 hbox hb; have n0_ := Aside0.mk (blk_below (g := gb403) (o := .cells #[.int .i64 a1_0, .int .i64 a1_1, .string a1_2] 23 (0, 0)) BK403.out hb); have n1_ := Aside0.mk (blk_below (g := gb404) (o := .cells #[.int .i64 a2_0, .int .i64 a2_1, .string a2_2] 23 (0, 0)) BK404.out hb); have n2_ := Aside0.mk (below_step (by repeat (first | (with_reducible first | exact HB.out | apply below_alloc | apply pw_below_drewN | apply below_drew1 | refine below_set ?_ GE403.out | refine below_set ?_ GE404.out) | exact HB.out)) hb); have n3_ := Aside0.mk (hbox); have n4_ := Aside0.mk ((by rw [hg]; exact (below_size (by repeat (first | (with_reducible first | exact HB.out | apply below_alloc | apply pw_below_drewN | apply below_drew1 | refine below_set ?_ GE403.out | refine below_set ?_ GE404.out) | exact HB.out))) : w.heap.size ≤ gb405)); have n5_ := Aside0.mk ((by rw [hg]; exact (below_size (by repeat (first | (with_reducible first | exact HB.out | apply below_alloc | apply pw_below_drewN | apply below_drew1 | refine below_set ?_ GE403.out | refine below_set ?_ GE404.out) | exact HB.out))) : w.heap.size ≤ gb405)); have n6_ := Aside0.mk ((by rw [hg]; exact Nat.ne_of_lt (blk_lt (g := gb403) (o := .cells #[.int .i64 a1_0, .int .i64 a1_1, .string a1_2] 23 (0, 0)) BK403.out) : gb403 ≠ gb405)); have n7_ := Aside0.mk ((by rw [hg]; exact Nat.ne_of_gt (blk_lt (g := gb403) (o := .cells #[.int .i64 a1_0, .int .i64 a1_1, .string a1_2] 23 (0, 0)) BK403.out) : gb405 ≠ gb403)); have n8_ := Aside0.mk ((by rw [hg]; exact Nat.ne_of_lt (blk_lt (g := gb404) (o := .cells #[.int .i64 a2_0, .int .i64 a2_1, .string a2_2] 23 (0, 0)) BK404.out) : gb404 ≠ gb405)); have n9_ := Aside0.mk ((by rw [hg]; exact Nat.ne_of_gt (blk_lt (g := gb404) (o := .cells #[.int .i64 a2_0, .int .i64 a2_1, .string a2_2] 23 (0, 0)) BK404.out) : gb405 ≠ gb404)); clear BK403; clear BK404; clear HB; have BK403 := n0_; have BK404 := n1_; have HB := n2_; have BK405 := n3_; have GW405 := n4_; have GE405 := n5_; have NB403_405 := n6_; have NB405_403 := n7_; have NB404_405 := n8_; have NB405_404 := n9_; clear n0_ n1_ n2_ n3_ n4_ n5_ n6_ n7_ n8_ n9_; clear hb hbox hg) | ((with_reducible refine gate_callee (f := 34) rfl ?_); refine goesL_ (some 10) rfl rfl Try.func34 (by kernel_rfl) rfl #[.string a0] rfl (by (try simp only [List.map_toArray, List.map_cons, List.map_nil]); first | done | rfl | (simp only [List.length_drop, List.length_take]; rfl)) ?_; (with_reducible refine (chrysalisref17_two.calls k a0 true _ A4.out).mono ?_); rintro e w24 ⟨rfl, hb⟩; refine ⟨_, rfl, ?_⟩; have n0_ := Aside0.mk (blk_below (g := gb403) (o := .cells #[.int .i64 a1_0, .int .i64 a1_1, .string a1_2] 23 (0, 0)) BK403.out hb); have n1_ := Aside0.mk (blk_below (g := gb404) (o := .cells #[.int .i64 a2_0, .int .i64 a2_1, .string a2_2] 23 (0, 0)) BK404.out hb); have n2_ := Aside0.mk (blk_below (g := gb405) (o := .cells #[.int .i64 0, .int .i64 0, .string (⟨#[]⟩ : ByteArray)] 23 (0, 0)) BK405.out hb); have n3_ := Aside0.mk (below_step (by repeat (first | (with_reducible first | exact HB.out | apply below_alloc | apply pw_below_drewN | apply below_drew1 | refine below_set ?_ GE403.out | refine below_set ?_ GE404.out | refine below_set ?_ GE405.out) | exact HB.out)) hb); clear BK403; clear BK404; clear BK405; clear HB; have BK403 := n0_; have BK404 := n1_; have BK405 := n2_; have HB := n3_; clear n0_ n1_ n2_ n3_; (try clear hb); (try clear hb2); (try clear hk); (try clear hi); have hnb25 := NB403_404.out; have hnc25 := NB404_403.out; have hnb26 := NB403_405.out; have hnc26 := NB405_403.out; have hcz27_0 : w24.cell? ⟨gb403, 0, none⟩ = some (.int .i64 a1_0) := (blk_cell BK403.out 0).trans rfl; have hcz27_1 : w24.cell? ⟨gb403, 1, none⟩ = some (.int .i64 a1_1) := (blk_cell BK403.out 1).trans rfl; have hcz27_2 : w24.cell? ⟨gb403, 2, none⟩ = some (.string a1_2) := (blk_cell BK403.out 2).trans rfl; have hfz27_0 := blk_frozen BK403.out 0; have hfz27_1 := blk_frozen BK403.out 1; have hfz27_2 := blk_frozen BK403.out 2; have hnb28 := NB404_405.out; have hnc28 := NB405_404.out; have hcz29_0 : w24.cell? ⟨gb404, 0, none⟩ = some (.int .i64 a2_0) := (blk_cell BK404.out 0).trans rfl; have hcz29_1 : w24.cell? ⟨gb404, 1, none⟩ = some (.int .i64 a2_1) := (blk_cell BK404.out 1).trans rfl; have hcz29_2 : w24.cell? ⟨gb404, 2, none⟩ = some (.string a2_2) := (blk_cell BK404.out 2).trans rfl; have hfz29_0 := blk_frozen BK404.out 0; have hfz29_1 := blk_frozen BK404.out 1; have hfz29_2 := blk_frozen BK404.out 2) | ((with_reducible refine gate_callee (f := 35) rfl ?_); refine goesL_ (some 26) rfl rfl Try.func35 (by kernel_rfl) rfl #[.bool (!(a1_0 == a2_0) || (!(a1_1 == a2_1) || (!(a1_2.toList == a2_2.toList))))] rfl (by (try simp only [List.map_toArray, List.map_cons, List.map_nil]); first | done | rfl | (simp only [List.length_drop, List.length_take]; rfl)) ?_; (with_reducible refine (chrysalisref17_truth.calls (!(a1_0 == a2_0) || (!(a1_1 == a2_1) || (!(a1_2.toList == a2_2.toList)))) t410 t411 t412 _ A20.out).mono ?_); rintro e w30 ⟨rfl, hb⟩; refine ⟨_, rfl, ?_⟩; have n0_ := Aside0.mk (blk_below (g := gb403) (o := .cells #[.int .i64 a1_0, .int .i64 a1_1, .string a1_2] 23 (0, 0)) BK403.out hb); have n1_ := Aside0.mk (blk_below (g := gb404) (o := .cells #[.int .i64 a2_0, .int .i64 a2_1, .string a2_2] 23 (0, 0)) BK404.out hb); have n2_ := Aside0.mk (blk_below (g := gb405) (o := .cells #[.int .i64 0, .int .i64 0, .string (⟨#[]⟩ : ByteArray)] 23 (0, 0)) BK405.out hb); have n3_ := Aside0.mk (below_step (by repeat (first | (with_reducible first | exact HB.out | apply below_alloc | apply pw_below_drewN | apply below_drew1 | refine below_set ?_ GE403.out | refine below_set ?_ GE404.out | refine below_set ?_ GE405.out) | exact HB.out)) hb); clear BK403; clear BK404; clear BK405; clear HB; have BK403 := n0_; have BK404 := n1_; have BK405 := n2_; have HB := n3_; clear n0_ n1_ n2_ n3_; (try clear hb); (try clear hb2); (try clear hk); (try clear hi); have hcz31_0 : w30.cell? ⟨gb405, 0, none⟩ = some (.int .i64 0) := (blk_cell BK405.out 0).trans rfl; have hcz31_1 : w30.cell? ⟨gb405, 1, none⟩ = some (.int .i64 0) := (blk_cell BK405.out 1).trans rfl; have hcz31_2 : w30.cell? ⟨gb405, 2, none⟩ = some (.string (⟨#[]⟩ : ByteArray)) := (blk_cell BK405.out 2).trans rfl; have hfz31_0 := blk_frozen BK405.out 0; have hfz31_1 := blk_frozen BK405.out 1; have hfz31_2 := blk_frozen BK405.out 2))
        refine bodyPost_ret (results_ct rfl _ _ gb405 23 #[.int .i64 t410, .int .i64 t411, .string t412] (0, 0) _ rfl (by refine blk_put (cs := #[.int .i64 t410, .int .i64 t411, .string (⟨#[]⟩ : ByteArray)]) ?_ 2 _ rfl; refine blk_put (cs := #[.int .i64 t410, .int .i64 0, .string (⟨#[]⟩ : ByteArray)]) ?_ 1 _ rfl; refine blk_put (cs := #[.int .i64 0, .int .i64 0, .string (⟨#[]⟩ : ByteArray)]) ?_ 0 _ rfl; exact BK405.out) Try.underlying23 rfl (by kernel_rfl)) rfl ?_
        exact ⟨by first | rfl | (simp [errW_none, errW_some] <;> rfl) | (simp [*, errW_none, errW_some] <;> rfl), by repeat (first | (with_reducible first | exact HB.out | apply below_alloc | apply pw_below_drewN | apply below_drew1 | refine below_set ?_ GE403.out | refine below_set ?_ GE404.out | refine below_set ?_ GE405.out) | exact HB.out)⟩
      · rw [if_neg c19] at H
        have c19b0 : (a0.toList == ([33, 61] : List UInt8)) = false := beq_eq_false_iff_ne.mpr c19
        have c19b1 : (a0.toList != ([33, 61] : List UInt8)) = true := bne_iff_ne.mpr c19
        have HC32 := Aside0.mk H
        clear H
        go_enter Try.func16, Try.ntmps16
        go_upto_region 7 with (first | ((with_reducible refine gate_dst (N := 4) rfl ?_); refine box_event ?hg (N := 4) ?hd (cs := #[.int .i64 a1_0, .int .i64 a1_1, .string a1_2]) (t := 23) ?hr ?_; (case hd => rfl); (case hg => rfl); (case hr => first | (go_simp; done) | (go_simp; rfl)); intro gb403 hg w33 hbox hb; have n0_ := Aside0.mk (below_step (by repeat (first | (with_reducible first | exact HB.out | apply below_alloc | apply pw_below_drewN | apply below_drew1) | exact HB.out)) hb); have n1_ := Aside0.mk (hbox); have n2_ := Aside0.mk ((by rw [hg]; exact (below_size (by repeat (first | (with_reducible first | exact HB.out | apply below_alloc | apply pw_below_drewN | apply below_drew1) | exact HB.out))) : w.heap.size ≤ gb403)); have n3_ := Aside0.mk ((by rw [hg]; exact (below_size (by repeat (first | (with_reducible first | exact HB.out | apply below_alloc | apply pw_below_drewN | apply below_drew1) | exact HB.out))) : w.heap.size ≤ gb403)); clear HB; have HB := n0_; have BK403 := n1_; have GW403 := n2_; have GE403 := n3_; clear n0_ n1_ n2_ n3_; clear hb hbox hg) | ((with_reducible refine gate_dst (N := 5) rfl ?_); refine box_event ?hg (N := 5) ?hd (cs := #[.int .i64 a2_0, .int .i64 a2_1, .string a2_2]) (t := 23) ?hr ?_; (case hd => rfl); (case hg => rfl); (case hr => first | (go_simp; done) | (go_simp; rfl)); intro gb404 hg w34 hbox hb; have n0_ := Aside0.mk (blk_below (g := gb403) (o := .cells #[.int .i64 a1_0, .int .i64 a1_1, .string a1_2] 23 (0, 0)) BK403.out hb); have n1_ := Aside0.mk (below_step (by repeat (first | (with_reducible first | exact HB.out | apply below_alloc | apply pw_below_drewN | apply below_drew1 | refine below_set ?_ GE403.out) | exact HB.out)) hb); have n2_ := Aside0.mk (hbox); have n3_ := Aside0.mk ((by rw [hg]; exact (below_size (by repeat (first | (with_reducible first | exact HB.out | apply below_alloc | apply pw_below_drewN | apply below_drew1 | refine below_set ?_ GE403.out) | exact HB.out))) : w.heap.size ≤ gb404)); have n4_ := Aside0.mk ((by rw [hg]; exact (below_size (by repeat (first | (with_reducible first | exact HB.out | apply below_alloc | apply pw_below_drewN | apply below_drew1 | refine below_set ?_ GE403.out) | exact HB.out))) : w.heap.size ≤ gb404)); have n5_ := Aside0.mk ((by rw [hg]; exact Nat.ne_of_lt (blk_lt (g := gb403) (o := .cells #[.int .i64 a1_0, .int .i64 a1_1, .string a1_2] 23 (0, 0)) BK403.out) : gb403 ≠ gb404)); have n6_ := Aside0.mk ((by rw [hg]; exact Nat.ne_of_gt (blk_lt (g := gb403) (o := .cells #[.int .i64 a1_0, .int .i64 a1_1, .string a1_2] 23 (0, 0)) BK403.out) : gb404 ≠ gb403)); clear BK403; clear HB; have BK403 := n0_; have HB := n1_; have BK404 := n2_; have GW404 := n3_; have GE404 := n4_; have NB403_404 := n5_; have NB404_403 := n6_; clear n0_ n1_ n2_ n3_ n4_ n5_ n6_; clear hb hbox hg) | ((with_reducible refine gate_dst (N := 6) rfl ?_); refine box_event ?hg (N := 6) ?hd (cs := #[.int .i64 0, .int .i64 0, .string (⟨#[]⟩ : ByteArray)]) (t := 23) ?hr ?_; (case hd => rfl); (case hg => rfl); (case hr => first | (go_simp; done) | (go_simp; rfl)); intro gb405 hg w35 hbox hb; have n0_ := Aside0.mk (blk_below (g := gb403) (o := .cells #[.int .i64 a1_0, .int .i64 a1_1, .string a1_2] 23 (0, 0)) BK403.out hb); have n1_ := Aside0.mk (blk_below (g := gb404) (o := .cells #[.int .i64 a2_0, .int .i64 a2_1, .string a2_2] 23 (0, 0)) BK404.out hb); have n2_ := Aside0.mk (below_step (by repeat (first | (with_reducible first | exact HB.out | apply below_alloc | apply pw_below_drewN | apply below_drew1 | refine below_set ?_ GE403.out | refine below_set ?_ GE404.out) | exact HB.out)) hb); have n3_ := Aside0.mk (hbox); have n4_ := Aside0.mk ((by rw [hg]; exact (below_size (by repeat (first | (with_reducible first | exact HB.out | apply below_alloc | apply pw_below_drewN | apply below_drew1 | refine below_set ?_ GE403.out | refine below_set ?_ GE404.out) | exact HB.out))) : w.heap.size ≤ gb405)); have n5_ := Aside0.mk ((by rw [hg]; exact (below_size (by repeat (first | (with_reducible first | exact HB.out | apply below_alloc | apply pw_below_drewN | apply below_drew1 | refine below_set ?_ GE403.out | refine below_set ?_ GE404.out) | exact HB.out))) : w.heap.size ≤ gb405)); have n6_ := Aside0.mk ((by rw [hg]; exact Nat.ne_of_lt (blk_lt (g := gb403) (o := .cells #[.int .i64 a1_0, .int .i64 a1_1, .string a1_2] 23 (0, 0)) BK403.out) : gb403 ≠ gb405)); have n7_ := Aside0.mk ((by rw [hg]; exact Nat.ne_of_gt (blk_lt (g := gb403) (o := .cells #[.int .i64 a1_0, .int .i64 a1_1, .string a1_2] 23 (0, 0)) BK403.out) : gb405 ≠ gb403)); have n8_ := Aside0.mk ((by rw [hg]; exact Nat.ne_of_lt (blk_lt (g := gb404) (o := .cells #[.int .i64 a2_0, .int .i64 a2_1, .string a2_2] 23 (0, 0)) BK404.out) : gb404 ≠ gb405)); have n9_ := Aside0.mk ((by rw [hg]; exact Nat.ne_of_gt (blk_lt (g := gb404) (o := .cells #[.int .i64 a2_0, .int .i64 a2_1, .string a2_2] 23 (0, 0)) BK404.out) : gb405 ≠ gb404)); clear BK403; clear BK404; clear HB; have BK403 := n0_; have BK404 := n1_; have HB := n2_; have BK405 := n3_; have GW405 := n4_; have GE405 := n5_; have NB403_405 := n6_; have NB405_403 := n7_; have NB404_405 := n8_; have NB405_404 := n9_; clear n0_ n1_ n2_ n3_ n4_ n5_ n6_ n7_ n8_ n9_; clear hb hbox hg) | ((with_reducible refine gate_callee (f := 34) rfl ?_); refine goesL_ (some 10) rfl rfl Try.func34 (by kernel_rfl) rfl #[.string a0] rfl (by (try simp only [List.map_toArray, List.map_cons, List.map_nil]); first | done | rfl | (simp only [List.length_drop, List.length_take]; rfl)) ?_; (with_reducible refine (chrysalisref17_two.calls k a0 true _ A4.out).mono ?_); rintro e w36 ⟨rfl, hb⟩; refine ⟨_, rfl, ?_⟩; have n0_ := Aside0.mk (blk_below (g := gb403) (o := .cells #[.int .i64 a1_0, .int .i64 a1_1, .string a1_2] 23 (0, 0)) BK403.out hb); have n1_ := Aside0.mk (blk_below (g := gb404) (o := .cells #[.int .i64 a2_0, .int .i64 a2_1, .string a2_2] 23 (0, 0)) BK404.out hb); have n2_ := Aside0.mk (blk_below (g := gb405) (o := .cells #[.int .i64 0, .int .i64 0, .string (⟨#[]⟩ : ByteArray)] 23 (0, 0)) BK405.out hb); have n3_ := Aside0.mk (below_step (by repeat (first | (with_reducible first | exact HB.out | apply below_alloc | apply pw_below_drewN | apply below_drew1 | refine below_set ?_ GE403.out | refine below_set ?_ GE404.out | refine below_set ?_ GE405.out) | exact HB.out)) hb); clear BK403; clear BK404; clear BK405; clear HB; have BK403 := n0_; have BK404 := n1_; have BK405 := n2_; have HB := n3_; clear n0_ n1_ n2_ n3_; (try clear hb); (try clear hb2); (try clear hk); (try clear hi)))
        (try simp only [Act.put, List.setIfInBounds_toArray, List.set_cons_zero, List.set_cons_succ])
        go_cut [27] (fun v27 wc => ∃ (kq : Nat) (x27_31 : Bool), v27 = .bool x27_31 ∧ Aside0 (chrysalisref17_Two.j0 kq a0 x27_31 a1_0 a1_1 a1_2 a2_0 a2_1 a2_2 = some (r1, r2, r3, r4)) ∧ Aside0 (kq ≤ k) ∧ Aside0 (wc.heap[gb403]? = some (.cells #[.int .i64 a1_0, .int .i64 a1_1, .string a1_2] 23 (0, 0))) ∧ Aside0 (wc.heap[gb404]? = some (.cells #[.int .i64 a2_0, .int .i64 a2_1, .string a2_2] 23 (0, 0))) ∧ Aside0 (wc.heap[gb405]? = some (.cells #[.int .i64 0, .int .i64 0, .string (⟨#[]⟩ : ByteArray)] 23 (0, 0))) ∧ Aside0 (Below w.heap.size w wc))
        case first =>
          have H := HC32.out
          clear HC32
          by_cases c37 : a1_0 = 1
          · rw [if_pos c37] at H
            have c37b0 : (a1_0 == 1) = true := beq_iff_eq.mpr c37
            have c37b1 : (a1_0 != 1) = false := bne_eq_false_iff_eq.mpr c37
            clear c37
            (first | rw [c37b0] | (simp only [i64_w, i32_w]; rw [c37b0]) | skip)
            have H' := Aside0.mk H
            clear H
            have hnb38 := NB403_404.out
            have hnc38 := NB404_403.out
            have hnb39 := NB403_405.out
            have hnc39 := NB405_403.out
            have hcz40_0 : w36.cell? ⟨gb403, 0, none⟩ = some (.int .i64 a1_0) := (blk_cell BK403.out 0).trans rfl
            have hcz40_1 : w36.cell? ⟨gb403, 1, none⟩ = some (.int .i64 a1_1) := (blk_cell BK403.out 1).trans rfl
            have hcz40_2 : w36.cell? ⟨gb403, 2, none⟩ = some (.string a1_2) := (blk_cell BK403.out 2).trans rfl
            have hfz40_0 := blk_frozen BK403.out 0
            have hfz40_1 := blk_frozen BK403.out 1
            have hfz40_2 := blk_frozen BK403.out 2
            have hnb41 := NB404_405.out
            have hnc41 := NB405_404.out
            have hcz42_0 : w36.cell? ⟨gb404, 0, none⟩ = some (.int .i64 a2_0) := (blk_cell BK404.out 0).trans rfl
            have hcz42_1 : w36.cell? ⟨gb404, 1, none⟩ = some (.int .i64 a2_1) := (blk_cell BK404.out 1).trans rfl
            have hcz42_2 : w36.cell? ⟨gb404, 2, none⟩ = some (.string a2_2) := (blk_cell BK404.out 2).trans rfl
            have hfz42_0 := blk_frozen BK404.out 0
            have hfz42_1 := blk_frozen BK404.out 1
            have hfz42_2 := blk_frozen BK404.out 2
            go_wp2
            go_meet
            case rel => exact ⟨_, ((a2_0 == 1)), (by first | rfl | (simp; done) | (simp [*]; done)), H', ⟨by first | omega | exact Nat.le_refl _⟩, ⟨by exact BK403.out⟩, ⟨by exact BK404.out⟩, ⟨by exact BK405.out⟩, ⟨by repeat (first | (with_reducible first | exact HB.out | apply below_alloc | apply pw_below_drewN | apply below_drew1 | refine below_set ?_ GE403.out | refine below_set ?_ GE404.out | refine below_set ?_ GE405.out) | exact HB.out)⟩⟩
          · rw [if_neg c37] at H
            have c37b0 : (a1_0 == 1) = false := beq_eq_false_iff_ne.mpr c37
            have c37b1 : (a1_0 != 1) = true := bne_iff_ne.mpr c37
            (first | rw [c37b0] | (simp only [i64_w, i32_w]; rw [c37b0]) | skip)
            have H' := Aside0.mk H
            clear H
            have hnb43 := NB403_404.out
            have hnc43 := NB404_403.out
            have hnb44 := NB403_405.out
            have hnc44 := NB405_403.out
            have hcz45_0 : w36.cell? ⟨gb403, 0, none⟩ = some (.int .i64 a1_0) := (blk_cell BK403.out 0).trans rfl
            have hcz45_1 : w36.cell? ⟨gb403, 1, none⟩ = some (.int .i64 a1_1) := (blk_cell BK403.out 1).trans rfl
            have hcz45_2 : w36.cell? ⟨gb403, 2, none⟩ = some (.string a1_2) := (blk_cell BK403.out 2).trans rfl
            have hfz45_0 := blk_frozen BK403.out 0
            have hfz45_1 := blk_frozen BK403.out 1
            have hfz45_2 := blk_frozen BK403.out 2
            go_wp2
            go_meet
            case rel => exact ⟨_, (false), (by first | rfl | (simp; done) | (simp [*]; done)), H', ⟨by first | omega | exact Nat.le_refl _⟩, ⟨by exact BK403.out⟩, ⟨by exact BK404.out⟩, ⟨by exact BK405.out⟩, ⟨by repeat (first | (with_reducible first | exact HB.out | apply below_alloc | apply pw_below_drewN | apply below_drew1 | refine below_set ?_ GE403.out | refine below_set ?_ GE404.out | refine below_set ?_ GE405.out) | exact HB.out)⟩⟩
        case rest =>
          clear HC32
          try clear c1
          try clear c2
          try clear p2
          try clear c3
          try clear c4
          try clear c5
          try clear c6
          try clear c6b0
          try clear c6b1
          try clear c12
          try clear c13
          try clear c15
          try clear c16
          try clear c19
          try clear c19b0
          try clear c19b1
          try clear c25
          try clear c26
          try clear c28
          try clear c34
          try clear c35
          try clear c37
          try clear c37b0
          try clear c37b1
          try clear c38
          try clear c39
          try clear c41
          try clear c43
          try clear c44
          try clear hcz14_0
          try clear hcz14_1
          try clear hcz14_2
          try clear hcz16_0
          try clear hcz16_1
          try clear hcz16_2
          try clear hcz18_0
          try clear hcz18_1
          try clear hcz18_2
          try clear hcz27_0
          try clear hcz27_1
          try clear hcz27_2
          try clear hcz29_0
          try clear hcz29_1
          try clear hcz29_2
          try clear hcz31_0
          try clear hcz31_1
          try clear hcz31_2
          try clear hcz40_0
          try clear hcz40_1
          try clear hcz40_2
          try clear hcz42_0
          try clear hcz42_1
          try clear hcz42_2
          try clear hcz45_0
          try clear hcz45_1
          try clear hcz45_2
          try clear hfz14_0
          try clear hfz14_1
          try clear hfz14_2
          try clear hfz16_0
          try clear hfz16_1
          try clear hfz16_2
          try clear hfz18_0
          try clear hfz18_1
          try clear hfz18_2
          try clear hfz27_0
          try clear hfz27_1
          try clear hfz27_2
          try clear hfz29_0
          try clear hfz29_1
          try clear hfz29_2
          try clear hfz31_0
          try clear hfz31_1
          try clear hfz31_2
          try clear hfz40_0
          try clear hfz40_1
          try clear hfz40_2
          try clear hfz42_0
          try clear hfz42_1
          try clear hfz42_2
          try clear hfz45_0
          try clear hfz45_1
          try clear hfz45_2
          obtain ⟨kq, x27_31, rfl, HA, HJ31, BK403, BK404, BK405, HB⟩ := hcut
          cases kq with
          | zero => exact absurd HA.out (by simp [chrysalisref17_Two.j0])
          | succ kj31 =>
            have H := HA.out
            clear HA
            simp only [chrysalisref17_Two.j0] at H
            by_cases c46 : x27_31 = true
            · subst c46
              have H1 : ((chrysalisref17_ints.f kj31 a0 a1_1 a2_1).bind fun bt413 => (some (bt413.1, bt413.2.1, bt413.2.2.1, bt413.2.2.2))) = some (r1, r2, r3, r4) := by rw [if_pos rfl] at H; exact H
              clear H
              have H := H1
              clear H1
              replace H := Option.bind_eq_some_iff.mp H
              obtain ⟨⟨t413, t414, t415, t416⟩, A470, H⟩ := H
              replace H : (some (t413, t414, t415, t416)) = some (r1, r2, r3, r4) := H
              have A47 := Aside0.mk A470
              clear A470
              simp only [Option.some.injEq, Prod.mk.injEq] at H
              obtain ⟨rfl, rfl, rfl, rfl⟩ := H
              have hnb48 := NB403_404.out
              have hnc48 := NB404_403.out
              have hnb49 := NB403_405.out
              have hnc49 := NB405_403.out
              have hcz50_0 : wc.cell? ⟨gb403, 0, none⟩ = some (.int .i64 a1_0) := (blk_cell BK403.out 0).trans rfl
              have hcz50_1 : wc.cell? ⟨gb403, 1, none⟩ = some (.int .i64 a1_1) := (blk_cell BK403.out 1).trans rfl
              have hcz50_2 : wc.cell? ⟨gb403, 2, none⟩ = some (.string a1_2) := (blk_cell BK403.out 2).trans rfl
              have hfz50_0 := blk_frozen BK403.out 0
              have hfz50_1 := blk_frozen BK403.out 1
              have hfz50_2 := blk_frozen BK403.out 2
              have hnb51 := NB404_405.out
              have hnc51 := NB405_404.out
              have hcz52_0 : wc.cell? ⟨gb404, 0, none⟩ = some (.int .i64 a2_0) := (blk_cell BK404.out 0).trans rfl
              have hcz52_1 : wc.cell? ⟨gb404, 1, none⟩ = some (.int .i64 a2_1) := (blk_cell BK404.out 1).trans rfl
              have hcz52_2 : wc.cell? ⟨gb404, 2, none⟩ = some (.string a2_2) := (blk_cell BK404.out 2).trans rfl
              have hfz52_0 := blk_frozen BK404.out 0
              have hfz52_1 := blk_frozen BK404.out 1
              have hfz52_2 := blk_frozen BK404.out 2
              go_wp2_with (first | ((with_reducible refine gate_callee (f := 36) rfl ?_); refine goesL_ (some 41) rfl rfl Try.func36 (by kernel_rfl) rfl #[.string a0, .int .i64 a1_1, .int .i64 a2_1] rfl (by (try simp only [List.map_toArray, List.map_cons, List.map_nil]); first | done | rfl | (simp only [List.length_drop, List.length_take]; rfl)) ?_; (with_reducible refine (chrysalisref17_ints.calls kj31 a0 a1_1 a2_1 t413 t414 t415 t416 _ A47.out).mono ?_); rintro e w53 ⟨rfl, hb⟩; refine ⟨_, rfl, ?_⟩; have n0_ := Aside0.mk (blk_below (g := gb403) (o := .cells #[.int .i64 a1_0, .int .i64 a1_1, .string a1_2] 23 (0, 0)) BK403.out hb); have n1_ := Aside0.mk (blk_below (g := gb404) (o := .cells #[.int .i64 a2_0, .int .i64 a2_1, .string a2_2] 23 (0, 0)) BK404.out hb); have n2_ := Aside0.mk (blk_below (g := gb405) (o := .cells #[.int .i64 0, .int .i64 0, .string (⟨#[]⟩ : ByteArray)] 23 (0, 0)) BK405.out hb); have n3_ := Aside0.mk (below_step (by repeat (first | (with_reducible first | exact HB.out | apply below_alloc | apply pw_below_drewN | apply below_drew1 | refine below_set ?_ GE403.out | refine below_set ?_ GE404.out | refine below_set ?_ GE405.out) | exact HB.out)) hb); clear BK403; clear BK404; clear BK405; clear HB; have BK403 := n0_; have BK404 := n1_; have BK405 := n2_; have HB := n3_; clear n0_ n1_ n2_ n3_; (try clear hb); (try clear hb2); (try clear hk); (try clear hi); have hcz54_0 : w53.cell? ⟨gb405, 0, none⟩ = some (.int .i64 0) := (blk_cell BK405.out 0).trans rfl; have hcz54_1 : w53.cell? ⟨gb405, 1, none⟩ = some (.int .i64 0) := (blk_cell BK405.out 1).trans rfl; have hcz54_2 : w53.cell? ⟨gb405, 2, none⟩ = some (.string (⟨#[]⟩ : ByteArray)) := (blk_cell BK405.out 2).trans rfl; have hfz54_0 := blk_frozen BK405.out 0; have hfz54_1 := blk_frozen BK405.out 1; have hfz54_2 := blk_frozen BK405.out 2))
              refine bodyPost_ret (results_ct rfl _ _ gb405 23 #[.int .i64 t413, .int .i64 t414, .string t415] (0, 0) _ rfl (by refine blk_put (cs := #[.int .i64 t413, .int .i64 t414, .string (⟨#[]⟩ : ByteArray)]) ?_ 2 _ rfl; refine blk_put (cs := #[.int .i64 t413, .int .i64 0, .string (⟨#[]⟩ : ByteArray)]) ?_ 1 _ rfl; refine blk_put (cs := #[.int .i64 0, .int .i64 0, .string (⟨#[]⟩ : ByteArray)]) ?_ 0 _ rfl; exact BK405.out) Try.underlying23 rfl (by kernel_rfl)) rfl ?_
              exact ⟨by first | rfl | (simp [errW_none, errW_some] <;> rfl) | (simp [*, errW_none, errW_some] <;> rfl), by repeat (first | (with_reducible first | exact HB.out | apply below_alloc | apply pw_below_drewN | apply below_drew1 | refine below_set ?_ GE403.out | refine below_set ?_ GE404.out | refine below_set ?_ GE405.out) | exact HB.out)⟩
            · replace c46 := Bool.eq_false_iff.mpr c46
              subst c46
              have H1 : (if a1_0 = 2 then (if a2_0 = 2 then ((chrysalisref17_texts.f kj31 a0 a1_2 a2_2).bind fun bt417 => (some (bt417.1, bt417.2.1, bt417.2.2.1, bt417.2.2.2))) else (some (0, 0, (⟨#[]⟩ : ByteArray), 1))) else (some (0, 0, (⟨#[]⟩ : ByteArray), 1))) = some (r1, r2, r3, r4) := by rw [if_neg (show ¬ (false = true) by decide)] at H; exact H
              clear H
              have H := H1
              clear H1
              by_cases c55 : a1_0 = 2
              · rw [if_pos c55] at H
                have c55b0 : (a1_0 == 2) = true := beq_iff_eq.mpr c55
                have c55b1 : (a1_0 != 2) = false := bne_eq_false_iff_eq.mpr c55
                clear c55
                by_cases c56 : a2_0 = 2
                · rw [if_pos c56] at H
                  have c56b0 : (a2_0 == 2) = true := beq_iff_eq.mpr c56
                  have c56b1 : (a2_0 != 2) = false := bne_eq_false_iff_eq.mpr c56
                  clear c56
                  replace H := Option.bind_eq_some_iff.mp H
                  obtain ⟨⟨t417, t418, t419, t420⟩, A570, H⟩ := H
                  replace H : (some (t417, t418, t419, t420)) = some (r1, r2, r3, r4) := H
                  have A57 := Aside0.mk A570
                  clear A570
                  simp only [Option.some.injEq, Prod.mk.injEq] at H
                  obtain ⟨rfl, rfl, rfl, rfl⟩ := H
                  have hnb58 := NB403_404.out
                  have hnc58 := NB404_403.out
                  have hnb59 := NB403_405.out
                  have hnc59 := NB405_403.out
                  have hcz60_0 : wc.cell? ⟨gb403, 0, none⟩ = some (.int .i64 a1_0) := (blk_cell BK403.out 0).trans rfl
                  have hcz60_1 : wc.cell? ⟨gb403, 1, none⟩ = some (.int .i64 a1_1) := (blk_cell BK403.out 1).trans rfl
                  have hcz60_2 : wc.cell? ⟨gb403, 2, none⟩ = some (.string a1_2) := (blk_cell BK403.out 2).trans rfl
                  have hfz60_0 := blk_frozen BK403.out 0
                  have hfz60_1 := blk_frozen BK403.out 1
                  have hfz60_2 := blk_frozen BK403.out 2
                  have hnb61 := NB404_405.out
                  have hnc61 := NB405_404.out
                  have hcz62_0 : wc.cell? ⟨gb404, 0, none⟩ = some (.int .i64 a2_0) := (blk_cell BK404.out 0).trans rfl
                  have hcz62_1 : wc.cell? ⟨gb404, 1, none⟩ = some (.int .i64 a2_1) := (blk_cell BK404.out 1).trans rfl
                  have hcz62_2 : wc.cell? ⟨gb404, 2, none⟩ = some (.string a2_2) := (blk_cell BK404.out 2).trans rfl
                  have hfz62_0 := blk_frozen BK404.out 0
                  have hfz62_1 := blk_frozen BK404.out 1
                  have hfz62_2 := blk_frozen BK404.out 2
                  go_wp2_with (first | ((with_reducible refine gate_callee (f := 37) rfl ?_); refine goesL_ (some 58) rfl rfl Try.func37 (by kernel_rfl) rfl #[.string a0, .string a1_2, .string a2_2] rfl (by (try simp only [List.map_toArray, List.map_cons, List.map_nil]); first | done | rfl | (simp only [List.length_drop, List.length_take]; rfl)) ?_; (with_reducible refine (chrysalisref17_texts.calls kj31 a0 a1_2 a2_2 t417 t418 t419 t420 _ A57.out).mono ?_); rintro e w63 ⟨rfl, hb⟩; refine ⟨_, rfl, ?_⟩; have n0_ := Aside0.mk (blk_below (g := gb403) (o := .cells #[.int .i64 a1_0, .int .i64 a1_1, .string a1_2] 23 (0, 0)) BK403.out hb); have n1_ := Aside0.mk (blk_below (g := gb404) (o := .cells #[.int .i64 a2_0, .int .i64 a2_1, .string a2_2] 23 (0, 0)) BK404.out hb); have n2_ := Aside0.mk (blk_below (g := gb405) (o := .cells #[.int .i64 0, .int .i64 0, .string (⟨#[]⟩ : ByteArray)] 23 (0, 0)) BK405.out hb); have n3_ := Aside0.mk (below_step (by repeat (first | (with_reducible first | exact HB.out | apply below_alloc | apply pw_below_drewN | apply below_drew1 | refine below_set ?_ GE403.out | refine below_set ?_ GE404.out | refine below_set ?_ GE405.out) | exact HB.out)) hb); clear BK403; clear BK404; clear BK405; clear HB; have BK403 := n0_; have BK404 := n1_; have BK405 := n2_; have HB := n3_; clear n0_ n1_ n2_ n3_; (try clear hb); (try clear hb2); (try clear hk); (try clear hi); have hcz64_0 : w63.cell? ⟨gb405, 0, none⟩ = some (.int .i64 0) := (blk_cell BK405.out 0).trans rfl; have hcz64_1 : w63.cell? ⟨gb405, 1, none⟩ = some (.int .i64 0) := (blk_cell BK405.out 1).trans rfl; have hcz64_2 : w63.cell? ⟨gb405, 2, none⟩ = some (.string (⟨#[]⟩ : ByteArray)) := (blk_cell BK405.out 2).trans rfl; have hfz64_0 := blk_frozen BK405.out 0; have hfz64_1 := blk_frozen BK405.out 1; have hfz64_2 := blk_frozen BK405.out 2))
                  refine bodyPost_ret (results_ct rfl _ _ gb405 23 #[.int .i64 t417, .int .i64 t418, .string t419] (0, 0) _ rfl (by refine blk_put (cs := #[.int .i64 t417, .int .i64 t418, .string (⟨#[]⟩ : ByteArray)]) ?_ 2 _ rfl; refine blk_put (cs := #[.int .i64 t417, .int .i64 0, .string (⟨#[]⟩ : ByteArray)]) ?_ 1 _ rfl; refine blk_put (cs := #[.int .i64 0, .int .i64 0, .string (⟨#[]⟩ : ByteArray)]) ?_ 0 _ rfl; exact BK405.out) Try.underlying23 rfl (by kernel_rfl)) rfl ?_
                  exact ⟨by first | rfl | (simp [errW_none, errW_some] <;> rfl) | (simp [*, errW_none, errW_some] <;> rfl), by repeat (first | (with_reducible first | exact HB.out | apply below_alloc | apply pw_below_drewN | apply below_drew1 | refine below_set ?_ GE403.out | refine below_set ?_ GE404.out | refine below_set ?_ GE405.out) | exact HB.out)⟩
                · rw [if_neg c56] at H
                  have c56b0 : (a2_0 == 2) = false := beq_eq_false_iff_ne.mpr c56
                  have c56b1 : (a2_0 != 2) = true := bne_iff_ne.mpr c56
                  simp only [Option.some.injEq, Prod.mk.injEq] at H
                  obtain ⟨rfl, rfl, rfl, rfl⟩ := H
                  have hnb65 := NB403_404.out
                  have hnc65 := NB404_403.out
                  have hnb66 := NB403_405.out
                  have hnc66 := NB405_403.out
                  have hcz67_0 : wc.cell? ⟨gb403, 0, none⟩ = some (.int .i64 a1_0) := (blk_cell BK403.out 0).trans rfl
                  have hcz67_1 : wc.cell? ⟨gb403, 1, none⟩ = some (.int .i64 a1_1) := (blk_cell BK403.out 1).trans rfl
                  have hcz67_2 : wc.cell? ⟨gb403, 2, none⟩ = some (.string a1_2) := (blk_cell BK403.out 2).trans rfl
                  have hfz67_0 := blk_frozen BK403.out 0
                  have hfz67_1 := blk_frozen BK403.out 1
                  have hfz67_2 := blk_frozen BK403.out 2
                  have hnb68 := NB404_405.out
                  have hnc68 := NB405_404.out
                  have hcz69_0 : wc.cell? ⟨gb404, 0, none⟩ = some (.int .i64 a2_0) := (blk_cell BK404.out 0).trans rfl
                  have hcz69_1 : wc.cell? ⟨gb404, 1, none⟩ = some (.int .i64 a2_1) := (blk_cell BK404.out 1).trans rfl
                  have hcz69_2 : wc.cell? ⟨gb404, 2, none⟩ = some (.string a2_2) := (blk_cell BK404.out 2).trans rfl
                  have hfz69_0 := blk_frozen BK404.out 0
                  have hfz69_1 := blk_frozen BK404.out 1
                  have hfz69_2 := blk_frozen BK404.out 2
                  have hcz70_0 : wc.cell? ⟨gb405, 0, none⟩ = some (.int .i64 0) := (blk_cell BK405.out 0).trans rfl
                  have hcz70_1 : wc.cell? ⟨gb405, 1, none⟩ = some (.int .i64 0) := (blk_cell BK405.out 1).trans rfl
                  have hcz70_2 : wc.cell? ⟨gb405, 2, none⟩ = some (.string (⟨#[]⟩ : ByteArray)) := (blk_cell BK405.out 2).trans rfl
                  have hfz70_0 := blk_frozen BK405.out 0
                  have hfz70_1 := blk_frozen BK405.out 1
                  have hfz70_2 := blk_frozen BK405.out 2
                  go_wp2
                  refine bodyPost_ret (results_ct rfl _ _ gb405 23 #[.int .i64 0, .int .i64 0, .string (⟨#[]⟩ : ByteArray)] (0, 0) _ rfl (by refine blk_put (cs := #[.int .i64 0, .int .i64 0, .string (⟨#[]⟩ : ByteArray)]) ?_ 2 _ rfl; refine blk_put (cs := #[.int .i64 0, .int .i64 0, .string (⟨#[]⟩ : ByteArray)]) ?_ 1 _ rfl; refine blk_put (cs := #[.int .i64 0, .int .i64 0, .string (⟨#[]⟩ : ByteArray)]) ?_ 0 _ rfl; exact BK405.out) Try.underlying23 rfl (by kernel_rfl)) rfl ?_
                  exact ⟨by first | rfl | (simp [errW_none, errW_some] <;> rfl) | (simp [*, errW_none, errW_some] <;> rfl), by repeat (first | (with_reducible first | exact HB.out | apply below_alloc | apply pw_below_drewN | apply below_drew1 | refine below_set ?_ GE403.out | refine below_set ?_ GE404.out | refine below_set ?_ GE405.out) | exact HB.out)⟩
              · rw [if_neg c55] at H
                have c55b0 : (a1_0 == 2) = false := beq_eq_false_iff_ne.mpr c55
                have c55b1 : (a1_0 != 2) = true := bne_iff_ne.mpr c55
                simp only [Option.some.injEq, Prod.mk.injEq] at H
                obtain ⟨rfl, rfl, rfl, rfl⟩ := H
                have hnb71 := NB403_404.out
                have hnc71 := NB404_403.out
                have hnb72 := NB403_405.out
                have hnc72 := NB405_403.out
                have hcz73_0 : wc.cell? ⟨gb403, 0, none⟩ = some (.int .i64 a1_0) := (blk_cell BK403.out 0).trans rfl
                have hcz73_1 : wc.cell? ⟨gb403, 1, none⟩ = some (.int .i64 a1_1) := (blk_cell BK403.out 1).trans rfl
                have hcz73_2 : wc.cell? ⟨gb403, 2, none⟩ = some (.string a1_2) := (blk_cell BK403.out 2).trans rfl
                have hfz73_0 := blk_frozen BK403.out 0
                have hfz73_1 := blk_frozen BK403.out 1
                have hfz73_2 := blk_frozen BK403.out 2
                have hnb74 := NB405_404.out
                have hnc74 := NB404_405.out
                have hcz75_0 : wc.cell? ⟨gb405, 0, none⟩ = some (.int .i64 0) := (blk_cell BK405.out 0).trans rfl
                have hcz75_1 : wc.cell? ⟨gb405, 1, none⟩ = some (.int .i64 0) := (blk_cell BK405.out 1).trans rfl
                have hcz75_2 : wc.cell? ⟨gb405, 2, none⟩ = some (.string (⟨#[]⟩ : ByteArray)) := (blk_cell BK405.out 2).trans rfl
                have hfz75_0 := blk_frozen BK405.out 0
                have hfz75_1 := blk_frozen BK405.out 1
                have hfz75_2 := blk_frozen BK405.out 2
                go_wp2
                refine bodyPost_ret (results_ct rfl _ _ gb405 23 #[.int .i64 0, .int .i64 0, .string (⟨#[]⟩ : ByteArray)] (0, 0) _ rfl (by refine blk_put (cs := #[.int .i64 0, .int .i64 0, .string (⟨#[]⟩ : ByteArray)]) ?_ 2 _ rfl; refine blk_put (cs := #[.int .i64 0, .int .i64 0, .string (⟨#[]⟩ : ByteArray)]) ?_ 1 _ rfl; refine blk_put (cs := #[.int .i64 0, .int .i64 0, .string (⟨#[]⟩ : ByteArray)]) ?_ 0 _ rfl; exact BK405.out) Try.underlying23 rfl (by kernel_rfl)) rfl ?_
                exact ⟨by first | rfl | (simp [errW_none, errW_some] <;> rfl) | (simp [*, errW_none, errW_some] <;> rfl), by repeat (first | (with_reducible first | exact HB.out | apply below_alloc | apply pw_below_drewN | apply below_drew1 | refine below_set ?_ GE403.out | refine below_set ?_ GE404.out | refine below_set ?_ GE405.out) | exact HB.out)⟩
  · replace c5 := Bool.eq_false_iff.mpr c5
    subst c5
    have H1 : (some (0, 0, (⟨#[]⟩ : ByteArray), 12)) = some (r1, r2, r3, r4) := by rw [if_neg (show ¬ (false = true) by decide)] at H; exact H
    clear H
    have H := H1
    clear H1
    simp only [Option.some.injEq, Prod.mk.injEq] at H
    obtain ⟨rfl, rfl, rfl, rfl⟩ := H
    go_enter Try.func16, Try.ntmps16
    go_wp2_with (first | ((with_reducible refine gate_dst (N := 4) rfl ?_); refine box_event ?hg (N := 4) ?hd (cs := #[.int .i64 a1_0, .int .i64 a1_1, .string a1_2]) (t := 23) ?hr ?_; (case hd => rfl); (case hg => rfl); (case hr => first | (go_simp; done) | (go_simp; rfl)); intro gb403 hg w76 hbox hb; have n0_ := Aside0.mk (below_step (by repeat (first | (with_reducible first | exact HB.out | apply below_alloc | apply pw_below_drewN | apply below_drew1) | exact HB.out)) hb); have n1_ := Aside0.mk (hbox); have n2_ := Aside0.mk ((by rw [hg]; exact (below_size (by repeat (first | (with_reducible first | exact HB.out | apply below_alloc | apply pw_below_drewN | apply below_drew1) | exact HB.out))) : w.heap.size ≤ gb403)); have n3_ := Aside0.mk ((by rw [hg]; exact (below_size (by repeat (first | (with_reducible first | exact HB.out | apply below_alloc | apply pw_below_drewN | apply below_drew1) | exact HB.out))) : w.heap.size ≤ gb403)); clear HB; have HB := n0_; have BK403 := n1_; have GW403 := n2_; have GE403 := n3_; clear n0_ n1_ n2_ n3_; clear hb hbox hg) | ((with_reducible refine gate_dst (N := 5) rfl ?_); refine box_event ?hg (N := 5) ?hd (cs := #[.int .i64 a2_0, .int .i64 a2_1, .string a2_2]) (t := 23) ?hr ?_; (case hd => rfl); (case hg => rfl); (case hr => first | (go_simp; done) | (go_simp; rfl)); intro gb404 hg w77 hbox hb; have n0_ := Aside0.mk (blk_below (g := gb403) (o := .cells #[.int .i64 a1_0, .int .i64 a1_1, .string a1_2] 23 (0, 0)) BK403.out hb); have n1_ := Aside0.mk (below_step (by repeat (first | (with_reducible first | exact HB.out | apply below_alloc | apply pw_below_drewN | apply below_drew1 | refine below_set ?_ GE403.out) | exact HB.out)) hb); have n2_ := Aside0.mk (hbox); have n3_ := Aside0.mk ((by rw [hg]; exact (below_size (by repeat (first | (with_reducible first | exact HB.out | apply below_alloc | apply pw_below_drewN | apply below_drew1 | refine below_set ?_ GE403.out) | exact HB.out))) : w.heap.size ≤ gb404)); have n4_ := Aside0.mk ((by rw [hg]; exact (below_size (by repeat (first | (with_reducible first | exact HB.out | apply below_alloc | apply pw_below_drewN | apply below_drew1 | refine below_set ?_ GE403.out) | exact HB.out))) : w.heap.size ≤ gb404)); have n5_ := Aside0.mk ((by rw [hg]; exact Nat.ne_of_lt (blk_lt (g := gb403) (o := .cells #[.int .i64 a1_0, .int .i64 a1_1, .string a1_2] 23 (0, 0)) BK403.out) : gb403 ≠ gb404)); have n6_ := Aside0.mk ((by rw [hg]; exact Nat.ne_of_gt (blk_lt (g := gb403) (o := .cells #[.int .i64 a1_0, .int .i64 a1_1, .string a1_2] 23 (0, 0)) BK403.out) : gb404 ≠ gb403)); clear BK403; clear HB; have BK403 := n0_; have HB := n1_; have BK404 := n2_; have GW404 := n3_; have GE404 := n4_; have NB403_404 := n5_; have NB404_403 := n6_; clear n0_ n1_ n2_ n3_ n4_ n5_ n6_; clear hb hbox hg) | ((with_reducible refine gate_dst (N := 6) rfl ?_); refine box_event ?hg (N := 6) ?hd (cs := #[.int .i64 0, .int .i64 0, .string (⟨#[]⟩ : ByteArray)]) (t := 23) ?hr ?_; (case hd => rfl); (case hg => rfl); (case hr => first | (go_simp; done) | (go_simp; rfl)); intro gb405 hg w78 hbox hb; have n0_ := Aside0.mk (blk_below (g := gb403) (o := .cells #[.int .i64 a1_0, .int .i64 a1_1, .string a1_2] 23 (0, 0)) BK403.out hb); have n1_ := Aside0.mk (blk_below (g := gb404) (o := .cells #[.int .i64 a2_0, .int .i64 a2_1, .string a2_2] 23 (0, 0)) BK404.out hb); have n2_ := Aside0.mk (below_step (by repeat (first | (with_reducible first | exact HB.out | apply below_alloc | apply pw_below_drewN | apply below_drew1 | refine below_set ?_ GE403.out | refine below_set ?_ GE404.out) | exact HB.out)) hb); have n3_ := Aside0.mk (hbox); have n4_ := Aside0.mk ((by rw [hg]; exact (below_size (by repeat (first | (with_reducible first | exact HB.out | apply below_alloc | apply pw_below_drewN | apply below_drew1 | refine below_set ?_ GE403.out | refine below_set ?_ GE404.out) | exact HB.out))) : w.heap.size ≤ gb405)); have n5_ := Aside0.mk ((by rw [hg]; exact (below_size (by repeat (first | (with_reducible first | exact HB.out | apply below_alloc | apply pw_below_drewN | apply below_drew1 | refine below_set ?_ GE403.out | refine below_set ?_ GE404.out) | exact HB.out))) : w.heap.size ≤ gb405)); have n6_ := Aside0.mk ((by rw [hg]; exact Nat.ne_of_lt (blk_lt (g := gb403) (o := .cells #[.int .i64 a1_0, .int .i64 a1_1, .string a1_2] 23 (0, 0)) BK403.out) : gb403 ≠ gb405)); have n7_ := Aside0.mk ((by rw [hg]; exact Nat.ne_of_gt (blk_lt (g := gb403) (o := .cells #[.int .i64 a1_0, .int .i64 a1_1, .string a1_2] 23 (0, 0)) BK403.out) : gb405 ≠ gb403)); have n8_ := Aside0.mk ((by rw [hg]; exact Nat.ne_of_lt (blk_lt (g := gb404) (o := .cells #[.int .i64 a2_0, .int .i64 a2_1, .string a2_2] 23 (0, 0)) BK404.out) : gb404 ≠ gb405)); have n9_ := Aside0.mk ((by rw [hg]; exact Nat.ne_of_gt (blk_lt (g := gb404) (o := .cells #[.int .i64 a2_0, .int .i64 a2_1, .string a2_2] 23 (0, 0)) BK404.out) : gb405 ≠ gb404)); clear BK403; clear BK404; clear HB; have BK403 := n0_; have BK404 := n1_; have HB := n2_; have BK405 := n3_; have GW405 := n4_; have GE405 := n5_; have NB403_405 := n6_; have NB405_403 := n7_; have NB404_405 := n8_; have NB405_404 := n9_; clear n0_ n1_ n2_ n3_ n4_ n5_ n6_ n7_ n8_ n9_; clear hb hbox hg) | ((with_reducible refine gate_callee (f := 34) rfl ?_); refine goesL_ (some 10) rfl rfl Try.func34 (by kernel_rfl) rfl #[.string a0] rfl (by (try simp only [List.map_toArray, List.map_cons, List.map_nil]); first | done | rfl | (simp only [List.length_drop, List.length_take]; rfl)) ?_; (with_reducible refine (chrysalisref17_two.calls k a0 false _ A4.out).mono ?_); rintro e w79 ⟨rfl, hb⟩; refine ⟨_, rfl, ?_⟩; have n0_ := Aside0.mk (blk_below (g := gb403) (o := .cells #[.int .i64 a1_0, .int .i64 a1_1, .string a1_2] 23 (0, 0)) BK403.out hb); have n1_ := Aside0.mk (blk_below (g := gb404) (o := .cells #[.int .i64 a2_0, .int .i64 a2_1, .string a2_2] 23 (0, 0)) BK404.out hb); have n2_ := Aside0.mk (blk_below (g := gb405) (o := .cells #[.int .i64 0, .int .i64 0, .string (⟨#[]⟩ : ByteArray)] 23 (0, 0)) BK405.out hb); have n3_ := Aside0.mk (below_step (by repeat (first | (with_reducible first | exact HB.out | apply below_alloc | apply pw_below_drewN | apply below_drew1 | refine below_set ?_ GE403.out | refine below_set ?_ GE404.out | refine below_set ?_ GE405.out) | exact HB.out)) hb); clear BK403; clear BK404; clear BK405; clear HB; have BK403 := n0_; have BK404 := n1_; have BK405 := n2_; have HB := n3_; clear n0_ n1_ n2_ n3_; (try clear hb); (try clear hb2); (try clear hk); (try clear hi); have hnb80 := NB405_403.out; have hnc80 := NB403_405.out; have hnb81 := NB405_404.out; have hnc81 := NB404_405.out; have hcz82_0 : w79.cell? ⟨gb405, 0, none⟩ = some (.int .i64 0) := (blk_cell BK405.out 0).trans rfl; have hcz82_1 : w79.cell? ⟨gb405, 1, none⟩ = some (.int .i64 0) := (blk_cell BK405.out 1).trans rfl; have hcz82_2 : w79.cell? ⟨gb405, 2, none⟩ = some (.string (⟨#[]⟩ : ByteArray)) := (blk_cell BK405.out 2).trans rfl; have hfz82_0 := blk_frozen BK405.out 0; have hfz82_1 := blk_frozen BK405.out 1; have hfz82_2 := blk_frozen BK405.out 2))
    refine bodyPost_ret (results_ct rfl _ _ gb405 23 #[.int .i64 0, .int .i64 0, .string (⟨#[]⟩ : ByteArray)] (0, 0) _ rfl (by refine blk_put (cs := #[.int .i64 0, .int .i64 0, .string (⟨#[]⟩ : ByteArray)]) ?_ 2 _ rfl; refine blk_put (cs := #[.int .i64 0, .int .i64 0, .string (⟨#[]⟩ : ByteArray)]) ?_ 1 _ rfl; refine blk_put (cs := #[.int .i64 0, .int .i64 0, .string (⟨#[]⟩ : ByteArray)]) ?_ 0 _ rfl; exact BK405.out) Try.underlying23 rfl (by kernel_rfl)) rfl ?_
    exact ⟨by first | rfl | (simp [errW_none, errW_some] <;> rfl) | (simp [*, errW_none, errW_some] <;> rfl), by repeat (first | (with_reducible first | exact HB.out | apply below_alloc | apply pw_below_drewN | apply below_drew1 | refine below_set ?_ GE403.out | refine below_set ?_ GE404.out | refine below_set ?_ GE405.out) | exact HB.out)⟩

end Go.Proofs.Ytmadbfahdnkecaa.Q
