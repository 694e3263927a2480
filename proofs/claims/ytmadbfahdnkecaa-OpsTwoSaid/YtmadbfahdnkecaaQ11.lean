/- Functions that the laws reach, as plain Lean functions, each with a proof that the call does what its function says; no condition. -/
import Derived.Test.YtmadbfahdnkecaaQ0
import Derived.Test.YtmadbfahdnkecaaQ1
import Derived.Test.YtmadbfahdnkecaaQ3
import Derived.Test.YtmadbfahdnkecaaQ6
import Derived.Test.YtmadbfahdnkecaaQ7
import Derived.Test.YtmadbfahdnkecaaQ10
namespace Go.Proofs.Ytmadbfahdnkecaa.Q
open Go.RowKit Go.Proofs.YtmadbfahdnkecaaW.PrintWords Go.Proofs.YtmadbfahdnkecaaW.PrintLast Go.Proofs.YtmadbfahdnkecaaW.PrintMore
attribute [local go_sem]  Go.Proofs.Ytmadbfahdnkecaa.as_num_num Go.Proofs.Ytmadbfahdnkecaa.as_text_num Go.Proofs.Ytmadbfahdnkecaa.as_nil_num Go.Proofs.Ytmadbfahdnkecaa.as_text_text Go.Proofs.Ytmadbfahdnkecaa.as_num_text Go.Proofs.Ytmadbfahdnkecaa.as_nil_text Go.Proofs.Ytmadbfahdnkecaa.leq_texts max2_int min2_int max_two min_two max_three min_three max_four min_four   -- for this text's walks alone
set_option linter.unusedVariables false
set_option linter.unusedSimpArgs false

attribute [local go_sem high] eqA23
/-! ### ops_Is: function 17 -/
def ops_Is.f (a0_0 : Int) (a0_1 : Int) (a0_2 : ByteArray) : Option (Bool) := if a0_0 = 0 then (some (a0_0 == 0 && (a0_1 == 0 && (a0_2.toList == ([] : List UInt8))))) else (if a0_0 = 2 then (if a0_1 = 0 then (some (decide ((a0_2.size : Int) ≤ 1024))) else (some false)) else (if a0_0 = 1 then (some (a0_2.toList == ([] : List UInt8))) else (if a0_0 = 3 then (some (a0_2.toList == ([] : List UInt8))) else (if a0_0 = 4 then (some (a0_2.toList == ([] : List UInt8))) else (if a0_0 = 5 then (some (a0_2.toList == ([] : List UInt8))) else (some false))))))
set_option maxHeartbeats 8000000 in
set_option maxRecDepth 100000 in
theorem ops_Is.calls (a0_0 : Int) (a0_1 : Int) (a0_2 : ByteArray) (r : Bool) (w : World) (h : ops_Is.f a0_0 a0_1 a0_2 = some r) :
    Calls Try.prog 17 #[.agg #[.int .i64 a0_0, .int .i64 a0_1, .string a0_2]] w fun e w' => e = .returned (.bool r) ∧ Below w.heap.size w w' := by
  have hu23 := Try.underlying23
  have HB := Aside0.mk (Below.refl w.heap.size w)
  have H : (if a0_0 = 0 then (some (a0_0 == 0 && (a0_1 == 0 && (a0_2.toList == ([] : List UInt8))))) else (if a0_0 = 2 then (if a0_1 = 0 then (some (decide ((a0_2.size : Int) ≤ 1024))) else (some false)) else (if a0_0 = 1 then (some (a0_2.toList == ([] : List UInt8))) else (if a0_0 = 3 then (some (a0_2.toList == ([] : List UInt8))) else (if a0_0 = 4 then (some (a0_2.toList == ([] : List UInt8))) else (if a0_0 = 5 then (some (a0_2.toList == ([] : List UInt8))) else (some false))))))) = some r := h
  clear h
  by_cases c2 : a0_0 = 0
  · rw [if_pos c2] at H
    have c2b0 : (a0_0 == 0) = true := beq_iff_eq.mpr c2
    have c2b1 : (a0_0 != 0) = false := bne_eq_false_iff_eq.mpr c2
    clear c2
    obtain rfl := Option.some.inj H
    go_enter Try.func17, Try.ntmps17
    go_wp2_with (first | ((with_reducible refine gate_dst (N := 1) rfl ?_); (try (refine gate_guard (by rfl) ?_; dsimp only)); refine box_event ?hg (N := 1) ?hd (cs := #[.int .i64 a0_0, .int .i64 a0_1, .string a0_2]) (t := 23) ?hr ?_; (case hd => rfl); (case hg => rfl); (case hr => first | (go_simp; done) | (go_simp; rfl)); intro gb421 hg w3 hbox hb; have n0_ := Aside0.mk (below_step (by repeat (first | (with_reducible first | exact HB.out | apply below_alloc | apply pw_below_drewN | apply below_drew1) | exact HB.out)) hb); have n1_ := Aside0.mk (hbox); have n2_ := Aside0.mk ((by rw [hg]; exact (below_size (by repeat (first | (with_reducible first | exact HB.out | apply below_alloc | apply pw_below_drewN | apply below_drew1) | exact HB.out))) : w.heap.size ≤ gb421)); have n3_ := Aside0.mk ((by rw [hg]; exact (below_size (by repeat (first | (with_reducible first | exact HB.out | apply below_alloc | apply pw_below_drewN | apply below_drew1) | exact HB.out))) : w.heap.size ≤ gb421)); clear HB; have HB := n0_; have BK421 := n1_; have GW421 := n2_; have GE421 := n3_; clear n0_ n1_ n2_ n3_; clear hb hbox hg; have hcz4_0 : w3.cell? ⟨gb421, 0, none⟩ = some (.int .i64 a0_0) := (blk_cell BK421.out 0).trans rfl; have hcz4_1 : w3.cell? ⟨gb421, 1, none⟩ = some (.int .i64 a0_1) := (blk_cell BK421.out 1).trans rfl; have hcz4_2 : w3.cell? ⟨gb421, 2, none⟩ = some (.string a0_2) := (blk_cell BK421.out 2).trans rfl; have hfz4_0 := blk_frozen BK421.out 0; have hfz4_1 := blk_frozen BK421.out 1; have hfz4_2 := blk_frozen BK421.out 2))
    go_ret
    exact ⟨by first | rfl | (simp [errW_none, errW_some] <;> rfl) | (simp [*, errW_none, errW_some] <;> rfl), by repeat (first | (with_reducible first | exact HB.out | apply below_alloc | apply pw_below_drewN | apply below_drew1 | refine below_set ?_ GE421.out) | exact HB.out)⟩
  · rw [if_neg c2] at H
    have c2b0 : (a0_0 == 0) = false := beq_eq_false_iff_ne.mpr c2
    have c2b1 : (a0_0 != 0) = true := bne_iff_ne.mpr c2
    by_cases c5 : a0_0 = 2
    · rw [if_pos c5] at H
      have c5b0 : (a0_0 == 2) = true := beq_iff_eq.mpr c5
      have c5b1 : (a0_0 != 2) = false := bne_eq_false_iff_eq.mpr c5
      clear c5
      by_cases c6 : a0_1 = 0
      · rw [if_pos c6] at H
        have c6b0 : (a0_1 == 0) = true := beq_iff_eq.mpr c6
        have c6b1 : (a0_1 != 0) = false := bne_eq_false_iff_eq.mpr c6
        clear c6
        obtain rfl := Option.some.inj H
        go_enter Try.func17, Try.ntmps17
        go_wp2_with (first | ((with_reducible refine gate_dst (N := 1) rfl ?_); (try (refine gate_guard (by rfl) ?_; dsimp only)); refine box_event ?hg (N := 1) ?hd (cs := #[.int .i64 a0_0, .int .i64 a0_1, .string a0_2]) (t := 23) ?hr ?_; (case hd => rfl); (case hg => rfl); (case hr => first | (go_simp; done) | (go_simp; rfl)); intro gb421 hg w7 hbox hb; have n0_ := Aside0.mk (below_step (by repeat (first | (with_reducible first | exact HB.out | apply below_alloc | apply pw_below_drewN | apply below_drew1) | exact HB.out)) hb); have n1_ := Aside0.mk (hbox); have n2_ := Aside0.mk ((by rw [hg]; exact (below_size (by repeat (first | (with_reducible first | exact HB.out | apply below_alloc | apply pw_below_drewN | apply below_drew1) | exact HB.out))) : w.heap.size ≤ gb421)); have n3_ := Aside0.mk ((by rw [hg]; exact (below_size (by repeat (first | (with_reducible first | exact HB.out | apply below_alloc | apply pw_below_drewN | apply below_drew1) | exact HB.out))) : w.heap.size ≤ gb421)); clear HB; have HB := n0_; have BK421 := n1_; have GW421 := n2_; have GE421 := n3_; clear n0_ n1_ n2_ n3_; clear hb hbox hg; have hcz8_0 : w7.cell? ⟨gb421, 0, none⟩ = some (.int .i64 a0_0) := (blk_cell BK421.out 0).trans rfl; have hcz8_1 : w7.cell? ⟨gb421, 1, none⟩ = some (.int .i64 a0_1) := (blk_cell BK421.out 1).trans rfl; have hcz8_2 : w7.cell? ⟨gb421, 2, none⟩ = some (.string a0_2) := (blk_cell BK421.out 2).trans rfl; have hfz8_0 := blk_frozen BK421.out 0; have hfz8_1 := blk_frozen BK421.out 1; have hfz8_2 := blk_frozen BK421.out 2))
        go_ret
        exact ⟨by first | rfl | (simp [errW_none, errW_some] <;> rfl) | (simp [*, errW_none, errW_some] <;> rfl), by repeat (first | (with_reducible first | exact HB.out | apply below_alloc | apply pw_below_drewN | apply below_drew1 | refine below_set ?_ GE421.out) | exact HB.out)⟩
      · rw [if_neg c6] at H
        have c6b0 : (a0_1 == 0) = false := beq_eq_false_iff_ne.mpr c6
        have c6b1 : (a0_1 != 0) = true := bne_iff_ne.mpr c6
        obtain rfl := Option.some.inj H
        go_enter Try.func17, Try.ntmps17
        go_wp2_with (first | ((with_reducible refine gate_dst (N := 1) rfl ?_); (try (refine gate_guard (by rfl) ?_; dsimp only)); refine box_event ?hg (N := 1) ?hd (cs := #[.int .i64 a0_0, .int .i64 a0_1, .string a0_2]) (t := 23) ?hr ?_; (case hd => rfl); (case hg => rfl); (case hr => first | (go_simp; done) | (go_simp; rfl)); intro gb421 hg w9 hbox hb; have n0_ := Aside0.mk (below_step (by repeat (first | (with_reducible first | exact HB.out | apply below_alloc | apply pw_below_drewN | apply below_drew1) | exact HB.out)) hb); have n1_ := Aside0.mk (hbox); have n2_ := Aside0.mk ((by rw [hg]; exact (below_size (by repeat (first | (with_reducible first | exact HB.out | apply below_alloc | apply pw_below_drewN | apply below_drew1) | exact HB.out))) : w.heap.size ≤ gb421)); have n3_ := Aside0.mk ((by rw [hg]; exact (below_size (by repeat (first | (with_reducible first | exact HB.out | apply below_alloc | apply pw_below_drewN | apply below_drew1) | exact HB.out))) : w.heap.size ≤ gb421)); clear HB; have HB := n0_; have BK421 := n1_; have GW421 := n2_; have GE421 := n3_; clear n0_ n1_ n2_ n3_; clear hb hbox hg; have hcz10_0 : w9.cell? ⟨gb421, 0, none⟩ = some (.int .i64 a0_0) := (blk_cell BK421.out 0).trans rfl; have hcz10_1 : w9.cell? ⟨gb421, 1, none⟩ = some (.int .i64 a0_1) := (blk_cell BK421.out 1).trans rfl; have hcz10_2 : w9.cell? ⟨gb421, 2, none⟩ = some (.string a0_2) := (blk_cell BK421.out 2).trans rfl; have hfz10_0 := blk_frozen BK421.out 0; have hfz10_1 := blk_frozen BK421.out 1; have hfz10_2 := blk_frozen BK421.out 2))
        go_ret
        exact ⟨by first | rfl | (simp [errW_none, errW_some] <;> rfl) | (simp [*, errW_none, errW_some] <;> rfl), by repeat (first | (with_reducible first | exact HB.out | apply below_alloc | apply pw_below_drewN | apply below_drew1 | refine below_set ?_ GE421.out) | exact HB.out)⟩
    · rw [if_neg c5] at H
      have c5b0 : (a0_0 == 2) = false := beq_eq_false_iff_ne.mpr c5
      have c5b1 : (a0_0 != 2) = true := bne_iff_ne.mpr c5
      by_cases c11 : a0_0 = 1
      · rw [if_pos c11] at H
        have c11b0 : (a0_0 == 1) = true := beq_iff_eq.mpr c11
        have c11b1 : (a0_0 != 1) = false := bne_eq_false_iff_eq.mpr c11
        clear c11
        obtain rfl := Option.some.inj H
        go_enter Try.func17, Try.ntmps17
        go_wp2_with (first | ((with_reducible refine gate_dst (N := 1) rfl ?_); (try (refine gate_guard (by rfl) ?_; dsimp only)); refine box_event ?hg (N := 1) ?hd (cs := #[.int .i64 a0_0, .int .i64 a0_1, .string a0_2]) (t := 23) ?hr ?_; (case hd => rfl); (case hg => rfl); (case hr => first | (go_simp; done) | (go_simp; rfl)); intro gb421 hg w12 hbox hb; have n0_ := Aside0.mk (below_step (by repeat (first | (with_reducible first | exact HB.out | apply below_alloc | apply pw_below_drewN | apply below_drew1) | exact HB.out)) hb); have n1_ := Aside0.mk (hbox); have n2_ := Aside0.mk ((by rw [hg]; exact (below_size (by repeat (first | (with_reducible first | exact HB.out | apply below_alloc | apply pw_below_drewN | apply below_drew1) | exact HB.out))) : w.heap.size ≤ gb421)); have n3_ := Aside0.mk ((by rw [hg]; exact (below_size (by repeat (first | (with_reducible first | exact HB.out | apply below_alloc | apply pw_below_drewN | apply below_drew1) | exact HB.out))) : w.heap.size ≤ gb421)); clear HB; have HB := n0_; have BK421 := n1_; have GW421 := n2_; have GE421 := n3_; clear n0_ n1_ n2_ n3_; clear hb hbox hg; have hcz13_0 : w12.cell? ⟨gb421, 0, none⟩ = some (.int .i64 a0_0) := (blk_cell BK421.out 0).trans rfl; have hcz13_1 : w12.cell? ⟨gb421, 1, none⟩ = some (.int .i64 a0_1) := (blk_cell BK421.out 1).trans rfl; have hcz13_2 : w12.cell? ⟨gb421, 2, none⟩ = some (.string a0_2) := (blk_cell BK421.out 2).trans rfl; have hfz13_0 := blk_frozen BK421.out 0; have hfz13_1 := blk_frozen BK421.out 1; have hfz13_2 := blk_frozen BK421.out 2))
        go_ret
        exact ⟨by first | rfl | (simp [errW_none, errW_some] <;> rfl) | (simp [*, errW_none, errW_some] <;> rfl), by repeat (first | (with_reducible first | exact HB.out | apply below_alloc | apply pw_below_drewN | apply below_drew1 | refine below_set ?_ GE421.out) | exact HB.out)⟩
      · rw [if_neg c11] at H
        have c11b0 : (a0_0 == 1) = false := beq_eq_false_iff_ne.mpr c11
        have c11b1 : (a0_0 != 1) = true := bne_iff_ne.mpr c11
        by_cases c14 : a0_0 = 3
        · rw [if_pos c14] at H
          have c14b0 : (a0_0 == 3) = true := beq_iff_eq.mpr c14
          have c14b1 : (a0_0 != 3) = false := bne_eq_false_iff_eq.mpr c14
          clear c14
          obtain rfl := Option.some.inj H
          go_enter Try.func17, Try.ntmps17
          go_wp2_with (first | ((with_reducible refine gate_dst (N := 1) rfl ?_); (try (refine gate_guard (by rfl) ?_; dsimp only)); refine box_event ?hg (N := 1) ?hd (cs := #[.int .i64 a0_0, .int .i64 a0_1, .string a0_2]) (t := 23) ?hr ?_; (case hd => rfl); (case hg => rfl); (case hr => first | (go_simp; done) | (go_simp; rfl)); intro gb421 hg w15 hbox hb; have n0_ := Aside0.mk (below_step (by repeat (first | (with_reducible first | exact HB.out | apply below_alloc | apply pw_below_drewN | apply below_drew1) | exact HB.out)) hb); have n1_ := Aside0.mk (hbox); have n2_ := Aside0.mk ((by rw [hg]; exact (below_size (by repeat (first | (with_reducible first | exact HB.out | apply below_alloc | apply pw_below_drewN | apply below_drew1) | exact HB.out))) : w.heap.size ≤ gb421)); have n3_ := Aside0.mk ((by rw [hg]; exact (below_size (by repeat (first | (with_reducible first | exact HB.out | apply below_alloc | apply pw_below_drewN | apply below_drew1) | exact HB.out))) : w.heap.size ≤ gb421)); clear HB; have HB := n0_; have BK421 := n1_; have GW421 := n2_; have GE421 := n3_; clear n0_ n1_ n2_ n3_; clear hb hbox hg; have hcz16_0 : w15.cell? ⟨gb421, 0, none⟩ = some (.int .i64 a0_0) := (blk_cell BK421.out 0).trans rfl; have hcz16_1 : w15.cell? ⟨gb421, 1, none⟩ = some (.int .i64 a0_1) := (blk_cell BK421.out 1).trans rfl; have hcz16_2 : w15.cell? ⟨gb421, 2, none⟩ = some (.string a0_2) := (blk_cell BK421.out 2).trans rfl; have hfz16_0 := blk_frozen BK421.out 0; have hfz16_1 := blk_frozen BK421.out 1; have hfz16_2 := blk_frozen BK421.out 2))
          go_ret
          exact ⟨by first | rfl | (simp [errW_none, errW_some] <;> rfl) | (simp [*, errW_none, errW_some] <;> rfl), by repeat (first | (with_reducible first | exact HB.out | apply below_alloc | apply pw_below_drewN | apply below_drew1 | refine below_set ?_ GE421.out) | exact HB.out)⟩
        · rw [if_neg c14] at H
          have c14b0 : (a0_0 == 3) = false := beq_eq_false_iff_ne.mpr c14
          have c14b1 : (a0_0 != 3) = true := bne_iff_ne.mpr c14
          by_cases c17 : a0_0 = 4
          · rw [if_pos c17] at H
            have c17b0 : (a0_0 == 4) = true := beq_iff_eq.mpr c17
            have c17b1 : (a0_0 != 4) = false := bne_eq_false_iff_eq.mpr c17
            clear c17
            obtain rfl := Option.some.inj H
            go_enter Try.func17, Try.ntmps17
            go_wp2_with (first | ((with_reducible refine gate_dst (N := 1) rfl ?_); (try (refine gate_guard (by rfl) ?_; dsimp only)); refine box_event ?hg (N := 1) ?hd (cs := #[.int .i64 a0_0, .int .i64 a0_1, .string a0_2]) (t := 23) ?hr ?_; (case hd => rfl); (case hg => rfl); (case hr => first | (go_simp; done) | (go_simp; rfl)); intro gb421 hg w18 hbox hb; have n0_ := Aside0.mk (below_step (by repeat (first | (with_reducible first | exact HB.out | apply below_alloc | apply pw_below_drewN | apply below_drew1) | exact HB.out)) hb); have n1_ := Aside0.mk (hbox); have n2_ := Aside0.mk ((by rw [hg]; exact (below_size (by repeat (first | (with_reducible first | exact HB.out | apply below_alloc | apply pw_below_drewN | apply below_drew1) | exact HB.out))) : w.heap.size ≤ gb421)); have n3_ := Aside0.mk ((by rw [hg]; exact (below_size (by repeat (first | (with_reducible first | exact HB.out | apply below_alloc | apply pw_below_drewN | apply below_drew1) | exact HB.out))) : w.heap.size ≤ gb421)); clear HB; have HB := n0_; have BK421 := n1_; have GW421 := n2_; have GE421 := n3_; clear n0_ n1_ n2_ n3_; clear hb hbox hg; have hcz19_0 : w18.cell? ⟨gb421, 0, none⟩ = some (.int .i64 a0_0) := (blk_cell BK421.out 0).trans rfl; have hcz19_1 : w18.cell? ⟨gb421, 1, none⟩ = some (.int .i64 a0_1) := (blk_cell BK421.out 1).trans rfl; have hcz19_2 : w18.cell? ⟨gb421, 2, none⟩ = some (.string a0_2) := (blk_cell BK421.out 2).trans rfl; have hfz19_0 := blk_frozen BK421.out 0; have hfz19_1 := blk_frozen BK421.out 1; have hfz19_2 := blk_frozen BK421.out 2))
            go_ret
            exact ⟨by first | rfl | (simp [errW_none, errW_some] <;> rfl) | (simp [*, errW_none, errW_some] <;> rfl), by repeat (first | (with_reducible first | exact HB.out | apply below_alloc | apply pw_below_drewN | apply below_drew1 | refine below_set ?_ GE421.out) | exact HB.out)⟩
          · rw [if_neg c17] at H
            have c17b0 : (a0_0 == 4) = false := beq_eq_false_iff_ne.mpr c17
            have c17b1 : (a0_0 != 4) = true := bne_iff_ne.mpr c17
            by_cases c20 : a0_0 = 5
            · rw [if_pos c20] at H
              have c20b0 : (a0_0 == 5) = true := beq_iff_eq.mpr c20
              have c20b1 : (a0_0 != 5) = false := bne_eq_false_iff_eq.mpr c20
              clear c20
              obtain rfl := Option.some.inj H
              go_enter Try.func17, Try.ntmps17
              go_wp2_with (first | ((with_reducible refine gate_dst (N := 1) rfl ?_); (try (refine gate_guard (by rfl) ?_; dsimp only)); refine box_event ?hg (N := 1) ?hd (cs := #[.int .i64 a0_0, .int .i64 a0_1, .string a0_2]) (t := 23) ?hr ?_; (case hd => rfl); (case hg => rfl); (case hr => first | (go_simp; done) | (go_simp; rfl)); intro gb421 hg w21 hbox hb; have n0_ := Aside0.mk (below_step (by repeat (first | (with_reducible first | exact HB.out | apply below_alloc | apply pw_below_drewN | apply below_drew1) | exact HB.out)) hb); have n1_ := Aside0.mk (hbox); have n2_ := Aside0.mk ((by rw [hg]; exact (below_size (by repeat (first | (with_reducible first | exact HB.out | apply below_alloc | apply pw_below_drewN | apply below_drew1) | exact HB.out))) : w.heap.size ≤ gb421)); have n3_ := Aside0.mk ((by rw [hg]; exact (below_size (by repeat (first | (with_reducible first | exact HB.out | apply below_alloc | apply pw_below_drewN | apply below_drew1) | exact HB.out))) : w.heap.size ≤ gb421)); clear HB; have HB := n0_; have BK421 := n1_; have GW421 := n2_; have GE421 := n3_; clear n0_ n1_ n2_ n3_; clear hb hbox hg; have hcz22_0 : w21.cell? ⟨gb421, 0, none⟩ = some (.int .i64 a0_0) := (blk_cell BK421.out 0).trans rfl; have hcz22_1 : w21.cell? ⟨gb421, 1, none⟩ = some (.int .i64 a0_1) := (blk_cell BK421.out 1).trans rfl; have hcz22_2 : w21.cell? ⟨gb421, 2, none⟩ = some (.string a0_2) := (blk_cell BK421.out 2).trans rfl; have hfz22_0 := blk_frozen BK421.out 0; have hfz22_1 := blk_frozen BK421.out 1; have hfz22_2 := blk_frozen BK421.out 2))
              go_ret
              exact ⟨by first | rfl | (simp [errW_none, errW_some] <;> rfl) | (simp [*, errW_none, errW_some] <;> rfl), by repeat (first | (with_reducible first | exact HB.out | apply below_alloc | apply pw_below_drewN | apply below_drew1 | refine below_set ?_ GE421.out) | exact HB.out)⟩
            · rw [if_neg c20] at H
              have c20b0 : (a0_0 == 5) = false := beq_eq_false_iff_ne.mpr c20
              have c20b1 : (a0_0 != 5) = true := bne_iff_ne.mpr c20
              obtain rfl := Option.some.inj H
              go_enter Try.func17, Try.ntmps17
              go_wp2_with (first | ((with_reducible refine gate_dst (N := 1) rfl ?_); (try (refine gate_guard (by rfl) ?_; dsimp only)); refine box_event ?hg (N := 1) ?hd (cs := #[.int .i64 a0_0, .int .i64 a0_1, .string a0_2]) (t := 23) ?hr ?_; (case hd => rfl); (case hg => rfl); (case hr => first | (go_simp; done) | (go_simp; rfl)); intro gb421 hg w23 hbox hb; have n0_ := Aside0.mk (below_step (by repeat (first | (with_reducible first | exact HB.out | apply below_alloc | apply pw_below_drewN | apply below_drew1) | exact HB.out)) hb); have n1_ := Aside0.mk (hbox); have n2_ := Aside0.mk ((by rw [hg]; exact (below_size (by repeat (first | (with_reducible first | exact HB.out | apply below_alloc | apply pw_below_drewN | apply below_drew1) | exact HB.out))) : w.heap.size ≤ gb421)); have n3_ := Aside0.mk ((by rw [hg]; exact (below_size (by repeat (first | (with_reducible first | exact HB.out | apply below_alloc | apply pw_below_drewN | apply below_drew1) | exact HB.out))) : w.heap.size ≤ gb421)); clear HB; have HB := n0_; have BK421 := n1_; have GW421 := n2_; have GE421 := n3_; clear n0_ n1_ n2_ n3_; clear hb hbox hg; have hcz24_0 : w23.cell? ⟨gb421, 0, none⟩ = some (.int .i64 a0_0) := (blk_cell BK421.out 0).trans rfl; have hcz24_1 : w23.cell? ⟨gb421, 1, none⟩ = some (.int .i64 a0_1) := (blk_cell BK421.out 1).trans rfl; have hcz24_2 : w23.cell? ⟨gb421, 2, none⟩ = some (.string a0_2) := (blk_cell BK421.out 2).trans rfl; have hfz24_0 := blk_frozen BK421.out 0; have hfz24_1 := blk_frozen BK421.out 1; have hfz24_2 := blk_frozen BK421.out 2))
              go_ret
              exact ⟨by first | rfl | (simp [errW_none, errW_some] <;> rfl) | (simp [*, errW_none, errW_some] <;> rfl), by repeat (first | (with_reducible first | exact HB.out | apply below_alloc | apply pw_below_drewN | apply below_drew1 | refine below_set ?_ GE421.out) | exact HB.out)⟩

/-! ### chrysalislaw17_OpsTwo: function 6 -/
def chrysalislaw17_OpsTwo.j0 : Nat → ByteArray → Bool → Int → Int → ByteArray → Int → Int → ByteArray → Option (Bool)
  | 0, _, _, _, _, _, _, _, _ => none
  | k + 1, x0, x23, x423000, x423001, x423002, x424000, x424001, x424002 => if x23 = true then ((chrysalislaw17_known.f k).bind fun t426 => (some t426)) else ((ops_Two.f k x0 x423000 x423001 x423002 x424000 x424001 x424002).bind fun bt427 => ((chrysalisref17_Two.f k x0 x423000 x423001 x423002 x424000 x424001 x424002).bind fun bt432 => (if (bt427.1 == bt432.1 && (bt427.2.1 == bt432.2.1 && (bt427.2.2.1.toList == bt432.2.2.1.toList))) = true then (if bt427.2.2.2 = bt432.2.2.2 then (if bt427.2.2.2 = 0 then ((ops_Is.f bt427.1 bt427.2.1 bt427.2.2.1).bind fun t437 => (if t437 = true then ((chrysalislaw17_known.f k).bind fun t438 => (some t438)) else (some false))) else ((chrysalislaw17_known.f k).bind fun t439 => (some t439))) else (some false)) else (some false))))
def chrysalislaw17_OpsTwo.f (k : Nat) (a0 : ByteArray) (a1_0 : Int) (a1_1 : Int) (a1_2 : ByteArray) (a2_0 : Int) (a2_1 : Int) (a2_2 : ByteArray) : Option (Bool) := if (a0.size : Int) > 100 then (chrysalislaw17_OpsTwo.j0 k a0 true a1_0 a1_1 a1_2 a2_0 a2_1 a2_2) else ((chrysalisref17_Is.f a1_0 a1_1 a1_2).bind fun t424 => (if t424 = true then ((chrysalisref17_Is.f a2_0 a2_1 a2_2).bind fun t425 => (chrysalislaw17_OpsTwo.j0 k a0 (!t425) a1_0 a1_1 a1_2 a2_0 a2_1 a2_2)) else (chrysalislaw17_OpsTwo.j0 k a0 true a1_0 a1_1 a1_2 a2_0 a2_1 a2_2)))
theorem chrysalislaw17_OpsTwo.mono_l : ∀ k, (∀ y0 y1 y2 y3 y4 y5 y6 y7, LeO (chrysalislaw17_OpsTwo.j0 k y0 y1 y2 y3 y4 y5 y6 y7) (chrysalislaw17_OpsTwo.j0 (k + 1) y0 y1 y2 y3 y4 y5 y6 y7))
  | 0 => fun _ _ _ _ _ _ _ _ r h => by simp [chrysalislaw17_OpsTwo.j0] at h
  | k + 1 => by
    have ih0 := chrysalislaw17_OpsTwo.mono_l k
    · intro y0 y1 y2 y3 y4 y5 y6 y7
      unfold chrysalislaw17_OpsTwo.j0
      repeat' first
      | (with_reducible exact ih0 _ _ _ _ _ _ _ _)
      | (with_reducible exact chrysalislaw17_known.mono _)
      | (with_reducible exact chrysalisref17_Two.mono _ _ _ _ _ _ _ _)
      | (with_reducible exact ops_Two.mono _ _ _ _ _ _ _ _)
      | (with_reducible exact LeO.refl _)
      | (with_reducible exact LeO.none _)
      | (with_reducible refine LeO.ite ?_ ?_)
      | (with_reducible refine LeO.bind ?_ (fun _ => ?_))
      | exact ih0 _ _ _ _ _ _ _ _
      | exact chrysalislaw17_known.mono _
      | exact chrysalisref17_Two.mono _ _ _ _ _ _ _ _
      | exact ops_Two.mono _ _ _ _ _ _ _ _
      | exact LeO.none _
      | refine LeO.ite ?_ ?_
      | refine LeO.bind ?_ (fun _ => ?_)
theorem chrysalislaw17_OpsTwo.mono : ∀ a0 a1 a2 a3 a4 a5 a6 k, LeO (chrysalislaw17_OpsTwo.f k a0 a1 a2 a3 a4 a5 a6) (chrysalislaw17_OpsTwo.f (k + 1) a0 a1 a2 a3 a4 a5 a6) := by
  intro a0 a1 a2 a3 a4 a5 a6 k
  have ih0 := chrysalislaw17_OpsTwo.mono_l k
  unfold chrysalislaw17_OpsTwo.f
  repeat' first
      | (with_reducible exact ih0 _ _ _ _ _ _ _ _)
      | (with_reducible exact chrysalislaw17_known.mono _)
      | (with_reducible exact chrysalisref17_Two.mono _ _ _ _ _ _ _ _)
      | (with_reducible exact ops_Two.mono _ _ _ _ _ _ _ _)
      | (with_reducible exact LeO.refl _)
      | (with_reducible exact LeO.none _)
      | (with_reducible refine LeO.ite ?_ ?_)
      | (with_reducible refine LeO.bind ?_ (fun _ => ?_))
      | exact ih0 _ _ _ _ _ _ _ _
      | exact chrysalislaw17_known.mono _
      | exact chrysalisref17_Two.mono _ _ _ _ _ _ _ _
      | exact ops_Two.mono _ _ _ _ _ _ _ _
      | exact LeO.none _
      | refine LeO.ite ?_ ?_
      | refine LeO.bind ?_ (fun _ => ?_)
set_option maxHeartbeats 8000000 in
set_option maxRecDepth 100000 in
theorem chrysalislaw17_OpsTwo.calls (k : Nat) (a0 : ByteArray) (a1_0 : Int) (a1_1 : Int) (a1_2 : ByteArray) (a2_0 : Int) (a2_1 : Int) (a2_2 : ByteArray) (r : Bool) (w : World) (h : chrysalislaw17_OpsTwo.f k a0 a1_0 a1_1 a1_2 a2_0 a2_1 a2_2 = some r) (hr : r = true) :
    Calls Try.prog 6 #[.string a0, .agg #[.int .i64 a1_0, .int .i64 a1_1, .string a1_2], .agg #[.int .i64 a2_0, .int .i64 a2_1, .string a2_2]] w fun e w' => e = .returned (.bool r) ∧ Below w.heap.size w w' := by
  have hu23 := Try.underlying23
  have HB := Aside0.mk (Below.refl w.heap.size w)
  have HR := Aside0.mk hr
  clear hr
  have H : (if (a0.size : Int) > 100 then (chrysalislaw17_OpsTwo.j0 k a0 true a1_0 a1_1 a1_2 a2_0 a2_1 a2_2) else ((chrysalisref17_Is.f a1_0 a1_1 a1_2).bind fun t424 => (if t424 = true then ((chrysalisref17_Is.f a2_0 a2_1 a2_2).bind fun t425 => (chrysalislaw17_OpsTwo.j0 k a0 (!t425) a1_0 a1_1 a1_2 a2_0 a2_1 a2_2)) else (chrysalislaw17_OpsTwo.j0 k a0 true a1_0 a1_1 a1_2 a2_0 a2_1 a2_2)))) = some r := h
  clear h
  have HC4 := Aside0.mk H
  clear H
  go_enter Try.func6, Try.ntmps6
  go_upto_region 1 with (first | ((with_reducible refine gate_dst (N := 4) rfl ?_); refine box_event ?hg (N := 4) ?hd (cs := #[.int .i64 a1_0, .int .i64 a1_1, .string a1_2]) (t := 23) ?hr ?_; (case hd => rfl); (case hg => rfl); (case hr => first | (go_simp; done) | (go_simp; rfl)); intro gb422 hg w5 hbox hb; have n0_ := Aside0.mk (below_step (by repeat (first | (with_reducible first | exact HB.out | apply below_alloc | apply pw_below_drewN | apply below_drew1) | exact HB.out)) hb); have n1_ := Aside0.mk (hbox); have n2_ := Aside0.mk ((by rw [hg]; exact (below_size (by repeat (first | (with_reducible first | exact HB.out | apply below_alloc | apply pw_below_drewN | apply below_drew1) | exact HB.out))) : w.heap.size ≤ gb422)); have n3_ := Aside0.mk ((by rw [hg]; exact (below_size (by repeat (first | (with_reducible first | exact HB.out | apply below_alloc | apply pw_below_drewN | apply below_drew1) | exact HB.out))) : w.heap.size ≤ gb422)); clear HB; have HB := n0_; have BK422 := n1_; have GW422 := n2_; have GE422 := n3_; clear n0_ n1_ n2_ n3_; clear hb hbox hg) | ((with_reducible refine gate_dst (N := 5) rfl ?_); refine box_event ?hg (N := 5) ?hd (cs := #[.int .i64 a2_0, .int .i64 a2_1, .string a2_2]) (t := 23) ?hr ?_; (case hd => rfl); (case hg => rfl); (case hr => first | (go_simp; done) | (go_simp; rfl)); intro gb423 hg w6 hbox hb; have n0_ := Aside0.mk (blk_below (g := gb422) (o := .cells #[.int .i64 a1_0, .int .i64 a1_1, .string a1_2] 23 (0, 0)) BK422.out hb); have n1_ := Aside0.mk (below_step (by repeat (first | (with_reducible first | exact HB.out | apply below_alloc | apply pw_below_drewN | apply below_drew1 | refine below_set ?_ GE422.out) | exact HB.out)) hb); have n2_ := Aside0.mk (hbox); have n3_ := Aside0.mk ((by rw [hg]; exact (below_size (by repeat (first | (with_reducible first | exact HB.out | apply below_alloc | apply pw_below_drewN | apply below_drew1 | refine below_set ?_ GE422.out) | exact HB.out))) : w.heap.size ≤ gb423)); have n4_ := Aside0.mk ((by rw [hg]; exact (below_size (by repeat (first | (with_reducible first | exact HB.out | apply below_alloc | apply pw_below_drewN | apply below_drew1 | refine below_set ?_ GE422.out) | exact HB.out))) : w.heap.size ≤ gb423)); have n5_ := Aside0.mk ((by rw [hg]; exact Nat.ne_of_lt (blk_lt (g := gb422) (o := .cells #[.int .i64 a1_0, .int .i64 a1_1, .string a1_2] 23 (0, 0)) BK422.out) : gb422 ≠ gb423)); have n6_ := Aside0.mk ((by rw [hg]; exact Nat.ne_of_gt (blk_lt (g := gb422) (o := .cells #[.int .i64 a1_0, .int .i64 a1_1, .string a1_2] 23 (0, 0)) BK422.out) : gb423 ≠ gb422)); clear BK422; clear HB; have BK422 := n0_; have HB := n1_; have BK423 := n2_; have GW423 := n3_; have GE423 := n4_; have NB422_423 := n5_; have NB423_422 := n6_; clear n0_ n1_ n2_ n3_ n4_ n5_ n6_; clear hb hbox hg))
  (try simp only [Act.put, List.setIfInBounds_toArray, List.set_cons_zero, List.set_cons_succ])
  go_cut [23] (fun v23 wc => ∃ (kq : Nat) (x23_3 : Bool), v23 = .bool x23_3 ∧ Aside0 (chrysalislaw17_OpsTwo.j0 kq a0 x23_3 a1_0 a1_1 a1_2 a2_0 a2_1 a2_2 = some r) ∧ Aside0 (kq ≤ k) ∧ Aside0 (wc.heap[gb422]? = some (.cells #[.int .i64 a1_0, .int .i64 a1_1, .string a1_2] 23 (0, 0))) ∧ Aside0 (wc.heap[gb423]? = some (.cells #[.int .i64 a2_0, .int .i64 a2_1, .string a2_2] 23 (0, 0))) ∧ Aside0 (Below w.heap.size w wc))
  case first =>
    have H := HC4.out
    clear HC4
    by_cases c7 : (a0.size : Int) > 100
    · rw [if_pos c7] at H
      have c7b0 : decide (100 < (a0.size : Int)) = true := decide_eq_true c7
      have c7b1 : decide (100 < a0.size) = true := decide_eq_true (by omega)
      clear c7
      (first | rw [c7b0] | (simp only [i64_w, i32_w]; rw [c7b0]) | skip)
      have H' := Aside0.mk H
      clear H
      go_wp2
      go_meet
      case rel => exact ⟨_, (true), (by first | rfl | (simp; done) | (simp [*]; done)), H', ⟨by first | omega | exact Nat.le_refl _⟩, ⟨by exact BK422.out⟩, ⟨by exact BK423.out⟩, ⟨by repeat (first | (with_reducible first | exact HB.out | apply below_alloc | apply pw_below_drewN | apply below_drew1 | refine below_set ?_ GE422.out | refine below_set ?_ GE423.out) | exact HB.out)⟩⟩
    · rw [if_neg c7] at H
      have c7b0 : decide (100 < (a0.size : Int)) = false := decide_eq_false c7
      have c7b1 : decide (100 < a0.size) = false := decide_eq_false (by omega)
      clear c7
      (first | rw [c7b0] | (simp only [i64_w, i32_w]; rw [c7b0]) | skip)
      replace H := Option.bind_eq_some_iff.mp H
      obtain ⟨t424, A80, H⟩ := H
      replace H : (if t424 = true then ((chrysalisref17_Is.f a2_0 a2_1 a2_2).bind fun t425 => (chrysalislaw17_OpsTwo.j0 k a0 (!t425) a1_0 a1_1 a1_2 a2_0 a2_1 a2_2)) else (chrysalislaw17_OpsTwo.j0 k a0 true a1_0 a1_1 a1_2 a2_0 a2_1 a2_2)) = some r := H
      have A8 := Aside0.mk A80
      clear A80
      by_cases c9 : t424 = true
      · subst c9
        have H1 : ((chrysalisref17_Is.f a2_0 a2_1 a2_2).bind fun t425 => (chrysalislaw17_OpsTwo.j0 k a0 (!t425) a1_0 a1_1 a1_2 a2_0 a2_1 a2_2)) = some r := by rw [if_pos rfl] at H; exact H
        clear H
        have H := H1
        clear H1
        replace H := Option.bind_eq_some_iff.mp H
        obtain ⟨t425, A100, H⟩ := H
        replace H : (chrysalislaw17_OpsTwo.j0 k a0 (!t425) a1_0 a1_1 a1_2 a2_0 a2_1 a2_2) = some r := H
        have A10 := Aside0.mk A100
        clear A100
        have H' := Aside0.mk H
        clear H
        have hnb11 := NB422_423.out
        have hnc11 := NB423_422.out
        have hcz12_0 : w6.cell? ⟨gb422, 0, none⟩ = some (.int .i64 a1_0) := (blk_cell BK422.out 0).trans rfl
        have hcz12_1 : w6.cell? ⟨gb422, 1, none⟩ = some (.int .i64 a1_1) := (blk_cell BK422.out 1).trans rfl
        have hcz12_2 : w6.cell? ⟨gb422, 2, none⟩ = some (.string a1_2) := (blk_cell BK422.out 2).trans rfl
        have hfz12_0 := blk_frozen BK422.out 0
        have hfz12_1 := blk_frozen BK422.out 1
        have hfz12_2 := blk_frozen BK422.out 2
        go_wp2_with (first | (go_at_call 13; (with_reducible refine (chrysalisref17_Is.calls a1_0 a1_1 a1_2 true _ A8.out).mono ?_); rintro e w13 ⟨rfl, hb⟩; have n0_ := Aside0.mk (blk_below (g := gb422) (o := .cells #[.int .i64 a1_0, .int .i64 a1_1, .string a1_2] 23 (0, 0)) BK422.out hb); have n1_ := Aside0.mk (blk_below (g := gb423) (o := .cells #[.int .i64 a2_0, .int .i64 a2_1, .string a2_2] 23 (0, 0)) BK423.out hb); have n2_ := Aside0.mk (below_step (by repeat (first | (with_reducible first | exact HB.out | apply below_alloc | apply pw_below_drewN | apply below_drew1 | refine below_set ?_ GE422.out | refine below_set ?_ GE423.out) | exact HB.out)) hb); clear BK422; clear BK423; clear HB; have BK422 := n0_; have BK423 := n1_; have HB := n2_; clear n0_ n1_ n2_; (try clear hb); (try clear hb2); (try clear hk); (try clear hi); have hcz14_0 : w13.cell? ⟨gb423, 0, none⟩ = some (.int .i64 a2_0) := (blk_cell BK423.out 0).trans rfl; have hcz14_1 : w13.cell? ⟨gb423, 1, none⟩ = some (.int .i64 a2_1) := (blk_cell BK423.out 1).trans rfl; have hcz14_2 : w13.cell? ⟨gb423, 2, none⟩ = some (.string a2_2) := (blk_cell BK423.out 2).trans rfl; have hfz14_0 := blk_frozen BK423.out 0; have hfz14_1 := blk_frozen BK423.out 1; have hfz14_2 := blk_frozen BK423.out 2) | (go_at_call 13; (with_reducible refine (chrysalisref17_Is.calls a2_0 a2_1 a2_2 t425 _ A10.out).mono ?_); rintro e w15 ⟨rfl, hb⟩; have n0_ := Aside0.mk (blk_below (g := gb422) (o := .cells #[.int .i64 a1_0, .int .i64 a1_1, .string a1_2] 23 (0, 0)) BK422.out hb); have n1_ := Aside0.mk (blk_below (g := gb423) (o := .cells #[.int .i64 a2_0, .int .i64 a2_1, .string a2_2] 23 (0, 0)) BK423.out hb); have n2_ := Aside0.mk (below_step (by repeat (first | (with_reducible first | exact HB.out | apply below_alloc | apply pw_below_drewN | apply below_drew1 | refine below_set ?_ GE422.out | refine below_set ?_ GE423.out) | exact HB.out)) hb); clear BK422; clear BK423; clear HB; have BK422 := n0_; have BK423 := n1_; have HB := n2_; clear n0_ n1_ n2_; (try clear hb); (try clear hb2); (try clear hk); (try clear hi)))
        go_meet
        case rel => exact ⟨_, (!t425), (by first | rfl | (simp; done) | (simp [*]; done)), H', ⟨by first | omega | exact Nat.le_refl _⟩, ⟨by exact BK422.out⟩, ⟨by exact BK423.out⟩, ⟨by repeat (first | (with_reducible first | exact HB.out | apply below_alloc | apply pw_below_drewN | apply below_drew1 | refine below_set ?_ GE422.out | refine below_set ?_ GE423.out) | exact HB.out)⟩⟩
      · replace c9 := Bool.eq_false_iff.mpr c9
        subst c9
        have H1 : (chrysalislaw17_OpsTwo.j0 k a0 true a1_0 a1_1 a1_2 a2_0 a2_1 a2_2) = some r := by rw [if_neg (show ¬ (false = true) by decide)] at H; exact H
        clear H
        have H := H1
        clear H1
        have H' := Aside0.mk H
        clear H
        have hnb16 := NB422_423.out
        have hnc16 := NB423_422.out
        have hcz17_0 : w6.cell? ⟨gb422, 0, none⟩ = some (.int .i64 a1_0) := (blk_cell BK422.out 0).trans rfl
        have hcz17_1 : w6.cell? ⟨gb422, 1, none⟩ = some (.int .i64 a1_1) := (blk_cell BK422.out 1).trans rfl
        have hcz17_2 : w6.cell? ⟨gb422, 2, none⟩ = some (.string a1_2) := (blk_cell BK422.out 2).trans rfl
        have hfz17_0 := blk_frozen BK422.out 0
        have hfz17_1 := blk_frozen BK422.out 1
        have hfz17_2 := blk_frozen BK422.out 2
        go_wp2_with (first | (go_at_call 13; (with_reducible refine (chrysalisref17_Is.calls a1_0 a1_1 a1_2 false _ A8.out).mono ?_); rintro e w18 ⟨rfl, hb⟩; have n0_ := Aside0.mk (blk_below (g := gb422) (o := .cells #[.int .i64 a1_0, .int .i64 a1_1, .string a1_2] 23 (0, 0)) BK422.out hb); have n1_ := Aside0.mk (blk_below (g := gb423) (o := .cells #[.int .i64 a2_0, .int .i64 a2_1, .string a2_2] 23 (0, 0)) BK423.out hb); have n2_ := Aside0.mk (below_step (by repeat (first | (with_reducible first | exact HB.out | apply below_alloc | apply pw_below_drewN | apply below_drew1 | refine below_set ?_ GE422.out | refine below_set ?_ GE423.out) | exact HB.out)) hb); clear BK422; clear BK423; clear HB; have BK422 := n0_; have BK423 := n1_; have HB := n2_; clear n0_ n1_ n2_; (try clear hb); (try clear hb2); (try clear hk); (try clear hi)))
        go_meet
        case rel => exact ⟨_, (true), (by first | rfl | (simp; done) | (simp [*]; done)), H', ⟨by first | omega | exact Nat.le_refl _⟩, ⟨by exact BK422.out⟩, ⟨by exact BK423.out⟩, ⟨by repeat (first | (with_reducible first | exact HB.out | apply below_alloc | apply pw_below_drewN | apply below_drew1 | refine below_set ?_ GE422.out | refine below_set ?_ GE423.out) | exact HB.out)⟩⟩
  case rest =>
    clear HC4
    try clear c1
    try clear p2
    try clear c6
    try clear c7
    try clear c7b0
    try clear c7b1
    try clear c9
    try clear c11
    try clear c16
    try clear hcz12_0
    try clear hcz12_1
    try clear hcz12_2
    try clear hcz14_0
    try clear hcz14_1
    try clear hcz14_2
    try clear hcz17_0
    try clear hcz17_1
    try clear hcz17_2
    try clear hfz12_0
    try clear hfz12_1
    try clear hfz12_2
    try clear hfz14_0
    try clear hfz14_1
    try clear hfz14_2
    try clear hfz17_0
    try clear hfz17_1
    try clear hfz17_2
    obtain ⟨kq, x23_3, rfl, HA, HJ3, BK422, BK423, HB⟩ := hcut
    cases kq with
    | zero => exact absurd HA.out (by simp [chrysalislaw17_OpsTwo.j0])
    | succ kj3 =>
      have H := HA.out
      clear HA
      simp only [chrysalislaw17_OpsTwo.j0] at H
      by_cases c19 : x23_3 = true
      · subst c19
        have H1 : ((chrysalislaw17_known.f kj3).bind fun t426 => (some t426)) = some r := by rw [if_pos rfl] at H; exact H
        clear H
        have H := H1
        clear H1
        replace H := Option.bind_eq_some_iff.mp H
        obtain ⟨t426, A200, H⟩ := H
        replace H : (some t426) = some r := H
        have A20 := Aside0.mk A200
        clear A200
        obtain rfl := Option.some.inj H
        go_wp2_with (first | ((with_reducible refine gate_callee (f := 11) rfl ?_); refine goesL_ (some 24) rfl rfl Try.func11 (by kernel_rfl) rfl #[] rfl (by (try simp only [List.map_toArray, List.map_cons, List.map_nil]); first | done | rfl | (simp only [List.length_drop, List.length_take]; rfl)) ?_; (with_reducible refine (chrysalislaw17_known.calls kj3  t426 _ A20.out).mono ?_); rintro e w21 ⟨rfl, hb⟩; refine ⟨_, rfl, ?_⟩; have n0_ := Aside0.mk (blk_below (g := gb422) (o := .cells #[.int .i64 a1_0, .int .i64 a1_1, .string a1_2] 23 (0, 0)) BK422.out hb); have n1_ := Aside0.mk (blk_below (g := gb423) (o := .cells #[.int .i64 a2_0, .int .i64 a2_1, .string a2_2] 23 (0, 0)) BK423.out hb); have n2_ := Aside0.mk (below_step (by repeat (first | (with_reducible first | exact HB.out | apply below_alloc | apply pw_below_drewN | apply below_drew1 | refine below_set ?_ GE422.out | refine below_set ?_ GE423.out) | exact HB.out)) hb); clear BK422; clear BK423; clear HB; have BK422 := n0_; have BK423 := n1_; have HB := n2_; clear n0_ n1_ n2_; (try clear hb); (try clear hb2); (try clear hk); (try clear hi)))
        go_ret
        exact ⟨by first | rfl | (simp [errW_none, errW_some] <;> rfl) | (simp [*, errW_none, errW_some] <;> rfl), by repeat (first | (with_reducible first | exact HB.out | apply below_alloc | apply pw_below_drewN | apply below_drew1 | refine below_set ?_ GE422.out | refine below_set ?_ GE423.out) | exact HB.out)⟩
      · replace c19 := Bool.eq_false_iff.mpr c19
        subst c19
        have H1 : ((ops_Two.f kj3 a0 a1_0 a1_1 a1_2 a2_0 a2_1 a2_2).bind fun bt427 => ((chrysalisref17_Two.f kj3 a0 a1_0 a1_1 a1_2 a2_0 a2_1 a2_2).bind fun bt432 => (if (bt427.1 == bt432.1 && (bt427.2.1 == bt432.2.1 && (bt427.2.2.1.toList == bt432.2.2.1.toList))) = true then (if bt427.2.2.2 = bt432.2.2.2 then (if bt427.2.2.2 = 0 then ((ops_Is.f bt427.1 bt427.2.1 bt427.2.2.1).bind fun t437 => (if t437 = true then ((chrysalislaw17_known.f kj3).bind fun t438 => (some t438)) else (some false))) else ((chrysalislaw17_known.f kj3).bind fun t439 => (some t439))) else (some false)) else (some false)))) = some r := by rw [if_neg (show ¬ (false = true) by decide)] at H; exact H
        clear H
        have H := H1
        clear H1
        replace H := Option.bind_eq_some_iff.mp H
        obtain ⟨⟨t427, t428, t429, t430⟩, A220, H⟩ := H
        replace H : ((chrysalisref17_Two.f kj3 a0 a1_0 a1_1 a1_2 a2_0 a2_1 a2_2).bind fun bt432 => (if (t427 == bt432.1 && (t428 == bt432.2.1 && (t429.toList == bt432.2.2.1.toList))) = true then (if t430 = bt432.2.2.2 then (if t430 = 0 then ((ops_Is.f t427 t428 t429).bind fun t437 => (if t437 = true then ((chrysalislaw17_known.f kj3).bind fun t438 => (some t438)) else (some false))) else ((chrysalislaw17_known.f kj3).bind fun t439 => (some t439))) else (some false)) else (some false))) = some r := H
        have A22 := Aside0.mk A220
        clear A220
        replace H := Option.bind_eq_some_iff.mp H
        obtain ⟨⟨t432, t433, t434, t435⟩, A230, H⟩ := H
        replace H : (if (t427 == t432 && (t428 == t433 && (t429.toList == t434.toList))) = true then (if t430 = t435 then (if t430 = 0 then ((ops_Is.f t427 t428 t429).bind fun t437 => (if t437 = true then ((chrysalislaw17_known.f kj3).bind fun t438 => (some t438)) else (some false))) else ((chrysalislaw17_known.f kj3).bind fun t439 => (some t439))) else (some false)) else (some false)) = some r := H
        have A23 := Aside0.mk A230
        clear A230
        by_cases c24 : (t427 == t432 && (t428 == t433 && (t429.toList == t434.toList))) = true
        · rw [if_pos c24] at H
          have c24b0 : (t427 == t432 && (t428 == t433 && (t429.toList == t434.toList))) = true := c24
          (try (have c24b1 : decide (t427 = t432 && (t428 == t433 && (t429.toList == t434.toList))) = true := by simpa using c24))
          (try (have c24b2 : (t427 == t432 && (t428 == t433 && (t429.toList == t434.toList))) = true := by simpa using c24))
          clear c24
          by_cases c25 : t430 = t435
          · rw [if_pos c25] at H
            have c25b0 : (t430 == t435) = true := beq_iff_eq.mpr c25
            have c25b1 : (t430 != t435) = false := bne_eq_false_iff_eq.mpr c25
            clear c25
            by_cases c26 : t430 = 0
            · rw [if_pos c26] at H
              have c26b0 : (t430 == 0) = true := beq_iff_eq.mpr c26
              have c26b1 : (t430 != 0) = false := bne_eq_false_iff_eq.mpr c26
              clear c26
              replace H := Option.bind_eq_some_iff.mp H
              obtain ⟨t437, A270, H⟩ := H
              replace H : (if t437 = true then ((chrysalislaw17_known.f kj3).bind fun t438 => (some t438)) else (some false)) = some r := H
              have A27 := Aside0.mk A270
              clear A270
              by_cases c28 : t437 = true
              · subst c28
                have H1 : ((chrysalislaw17_known.f kj3).bind fun t438 => (some t438)) = some r := by rw [if_pos rfl] at H; exact H
                clear H
                have H := H1
                clear H1
                replace H := Option.bind_eq_some_iff.mp H
                obtain ⟨t438, A290, H⟩ := H
                replace H : (some t438) = some r := H
                have A29 := Aside0.mk A290
                clear A290
                obtain rfl := Option.some.inj H
                have hnb30 := NB422_423.out
                have hnc30 := NB423_422.out
                have hcz31_0 : wc.cell? ⟨gb422, 0, none⟩ = some (.int .i64 a1_0) := (blk_cell BK422.out 0).trans rfl
                have hcz31_1 : wc.cell? ⟨gb422, 1, none⟩ = some (.int .i64 a1_1) := (blk_cell BK422.out 1).trans rfl
                have hcz31_2 : wc.cell? ⟨gb422, 2, none⟩ = some (.string a1_2) := (blk_cell BK422.out 2).trans rfl
                have hfz31_0 := blk_frozen BK422.out 0
                have hfz31_1 := blk_frozen BK422.out 1
                have hfz31_2 := blk_frozen BK422.out 2
                have hcz32_0 : wc.cell? ⟨gb423, 0, none⟩ = some (.int .i64 a2_0) := (blk_cell BK423.out 0).trans rfl
                have hcz32_1 : wc.cell? ⟨gb423, 1, none⟩ = some (.int .i64 a2_1) := (blk_cell BK423.out 1).trans rfl
                have hcz32_2 : wc.cell? ⟨gb423, 2, none⟩ = some (.string a2_2) := (blk_cell BK423.out 2).trans rfl
                have hfz32_0 := blk_frozen BK423.out 0
                have hfz32_1 := blk_frozen BK423.out 1
                have hfz32_2 := blk_frozen BK423.out 2
                go_wp2_with (first | ((with_reducible refine gate_callee (f := 10) rfl ?_); refine goesL_ (some 29) rfl rfl Try.func10 (by kernel_rfl) rfl #[.string a0, .agg #[.int .i64 a1_0, .int .i64 a1_1, .string a1_2], .agg #[.int .i64 a2_0, .int .i64 a2_1, .string a2_2]] rfl (by (try simp only [List.map_toArray, List.map_cons, List.map_nil]); first | done | rfl | (simp only [List.length_drop, List.length_take]; rfl)) ?_; (with_reducible refine (ops_Two.calls kj3 a0 a1_0 a1_1 a1_2 a2_0 a2_1 a2_2 t427 t428 t429 t430 _ A22.out).mono ?_); rintro e w33 ⟨rfl, hb⟩; refine ⟨_, rfl, ?_⟩; have n0_ := Aside0.mk (blk_below (g := gb422) (o := .cells #[.int .i64 a1_0, .int .i64 a1_1, .string a1_2] 23 (0, 0)) BK422.out hb); have n1_ := Aside0.mk (blk_below (g := gb423) (o := .cells #[.int .i64 a2_0, .int .i64 a2_1, .string a2_2] 23 (0, 0)) BK423.out hb); have n2_ := Aside0.mk (below_step (by repeat (first | (with_reducible first | exact HB.out | apply below_alloc | apply pw_below_drewN | apply below_drew1 | refine below_set ?_ GE422.out | refine below_set ?_ GE423.out) | exact HB.out)) hb); clear BK422; clear BK423; clear HB; have BK422 := n0_; have BK423 := n1_; have HB := n2_; clear n0_ n1_ n2_; (try clear hb); (try clear hb2); (try clear hk); (try clear hi)) | ((with_reducible refine gate_dst (N := 7) rfl ?_); refine box_event ?hg (N := 7) ?hd (cs := #[.int .i64 0, .int .i64 0, .string (⟨#[]⟩ : ByteArray)]) (t := 23) ?hr ?_; (case hd => rfl); (case hg => rfl); (case hr => first | (go_simp; done) | (go_simp; rfl)); intro gb431 hg w34 hbox hb; have n0_ := Aside0.mk (blk_below (g := gb422) (o := .cells #[.int .i64 a1_0, .int .i64 a1_1, .string a1_2] 23 (0, 0)) BK422.out hb); have n1_ := Aside0.mk (blk_below (g := gb423) (o := .cells #[.int .i64 a2_0, .int .i64 a2_1, .string a2_2] 23 (0, 0)) BK423.out hb); have n2_ := Aside0.mk (below_step (by repeat (first | (with_reducible first | exact HB.out | apply below_alloc | apply pw_below_drewN | apply below_drew1 | refine below_set ?_ GE422.out | refine below_set ?_ GE423.out) | exact HB.out)) hb); have n3_ := Aside0.mk (hbox); have n4_ := Aside0.mk ((by rw [hg]; exact (below_size (by repeat (first | (with_reducible first | exact HB.out | apply below_alloc | apply pw_below_drewN | apply below_drew1 | refine below_set ?_ GE422.out | refine below_set ?_ GE423.out) | exact HB.out))) : w.heap.size ≤ gb431)); have n5_ := Aside0.mk ((by rw [hg]; exact (below_size (by repeat (first | (with_reducible first | exact HB.out | apply below_alloc | apply pw_below_drewN | apply below_drew1 | refine below_set ?_ GE422.out | refine below_set ?_ GE423.out) | exact HB.out))) : w.heap.size ≤ gb431)); have n6_ := Aside0.mk ((by rw [hg]; exact Nat.ne_of_lt (blk_lt (g := gb422) (o := .cells #[.int .i64 a1_0, .int .i64 a1_1, .string a1_2] 23 (0, 0)) BK422.out) : gb422 ≠ gb431)); have n7_ := Aside0.mk ((by rw [hg]; exact Nat.ne_of_gt (blk_lt (g := gb422) (o := .cells #[.int .i64 a1_0, .int .i64 a1_1, .string a1_2] 23 (0, 0)) BK422.out) : gb431 ≠ gb422)); have n8_ := Aside0.mk ((by rw [hg]; exact Nat.ne_of_lt (blk_lt (g := gb423) (o := .cells #[.int .i64 a2_0, .int .i64 a2_1, .string a2_2] 23 (0, 0)) BK423.out) : gb423 ≠ gb431)); have n9_ := Aside0.mk ((by rw [hg]; exact Nat.ne_of_gt (blk_lt (g := gb423) (o := .cells #[.int .i64 a2_0, .int .i64 a2_1, .string a2_2] 23 (0, 0)) BK423.out) : gb431 ≠ gb423)); clear BK422; clear BK423; clear HB; have BK422 := n0_; have BK423 := n1_; have HB := n2_; have BK431 := n3_; have GW431 := n4_; have GE431 := n5_; have NB422_431 := n6_; have NB431_422 := n7_; have NB423_431 := n8_; have NB431_423 := n9_; clear n0_ n1_ n2_ n3_ n4_ n5_ n6_ n7_ n8_ n9_; clear hb hbox hg; have hnb35 := NB431_422.out; have hnc35 := NB422_431.out; have hnb36 := NB431_423.out; have hnc36 := NB423_431.out; have hcz37_0 : w34.cell? ⟨gb431, 0, none⟩ = some (.int .i64 0) := (blk_cell BK431.out 0).trans rfl; have hcz37_1 : w34.cell? ⟨gb431, 1, none⟩ = some (.int .i64 0) := (blk_cell BK431.out 1).trans rfl; have hcz37_2 : w34.cell? ⟨gb431, 2, none⟩ = some (.string (⟨#[]⟩ : ByteArray)) := (blk_cell BK431.out 2).trans rfl; have hfz37_0 := blk_frozen BK431.out 0; have hfz37_1 := blk_frozen BK431.out 1; have hfz37_2 := blk_frozen BK431.out 2; have hcz38_0 : w34.cell? ⟨gb422, 0, none⟩ = some (.int .i64 a1_0) := (blk_cell BK422.out 0).trans rfl; have hcz38_1 : w34.cell? ⟨gb422, 1, none⟩ = some (.int .i64 a1_1) := (blk_cell BK422.out 1).trans rfl; have hcz38_2 : w34.cell? ⟨gb422, 2, none⟩ = some (.string a1_2) := (blk_cell BK422.out 2).trans rfl; have hfz38_0 := blk_frozen BK422.out 0; have hfz38_1 := blk_frozen BK422.out 1; have hfz38_2 := blk_frozen BK422.out 2; have hcz39_0 : w34.cell? ⟨gb423, 0, none⟩ = some (.int .i64 a2_0) := (blk_cell BK423.out 0).trans rfl; have hcz39_1 : w34.cell? ⟨gb423, 1, none⟩ = some (.int .i64 a2_1) := (blk_cell BK423.out 1).trans rfl; have hcz39_2 : w34.cell? ⟨gb423, 2, none⟩ = some (.string a2_2) := (blk_cell BK423.out 2).trans rfl; have hfz39_0 := blk_frozen BK423.out 0; have hfz39_1 := blk_frozen BK423.out 1; have hfz39_2 := blk_frozen BK423.out 2) | ((with_reducible refine gate_callee (f := 16) rfl ?_); refine goesL_ (some 36) rfl rfl Try.func16 (by kernel_rfl) rfl #[.string a0, .agg #[.int .i64 a1_0, .int .i64 a1_1, .string a1_2], .agg #[.int .i64 a2_0, .int .i64 a2_1, .string a2_2]] rfl (by (try simp only [List.map_toArray, List.map_cons, List.map_nil]); first | done | rfl | (simp only [List.length_drop, List.length_take]; rfl)) ?_; (with_reducible refine (chrysalisref17_Two.calls kj3 a0 a1_0 a1_1 a1_2 a2_0 a2_1 a2_2 t432 t433 t434 t435 _ A23.out).mono ?_); rintro e w40 ⟨rfl, hb⟩; refine ⟨_, rfl, ?_⟩; have n0_ := Aside0.mk (blk_below (g := gb422) (o := .cells #[.int .i64 a1_0, .int .i64 a1_1, .string a1_2] 23 (0, 0)) (by refine blk_far ?_ NB422_431.out _; refine blk_far ?_ NB422_431.out _; refine blk_far ?_ NB422_431.out _; exact BK422.out) hb); have n1_ := Aside0.mk (blk_below (g := gb423) (o := .cells #[.int .i64 a2_0, .int .i64 a2_1, .string a2_2] 23 (0, 0)) (by refine blk_far ?_ NB423_431.out _; refine blk_far ?_ NB423_431.out _; refine blk_far ?_ NB423_431.out _; exact BK423.out) hb); have n2_ := Aside0.mk (blk_below (g := gb431) (o := .cells #[.int .i64 t427, .int .i64 t428, .string t429] 23 (0, 0)) (by refine blk_put (cs := #[.int .i64 t427, .int .i64 t428, .string (⟨#[]⟩ : ByteArray)]) ?_ 2 _ rfl; refine blk_put (cs := #[.int .i64 t427, .int .i64 0, .string (⟨#[]⟩ : ByteArray)]) ?_ 1 _ rfl; refine blk_put (cs := #[.int .i64 0, .int .i64 0, .string (⟨#[]⟩ : ByteArray)]) ?_ 0 _ rfl; exact BK431.out) hb); have n3_ := Aside0.mk (below_step (by repeat (first | (with_reducible first | exact HB.out | apply below_alloc | apply pw_below_drewN | apply below_drew1 | refine below_set ?_ GE422.out | refine below_set ?_ GE423.out | refine below_set ?_ GE431.out) | exact HB.out)) hb); clear BK422; clear BK423; clear BK431; clear HB; have BK422 := n0_; have BK423 := n1_; have BK431 := n2_; have HB := n3_; clear n0_ n1_ n2_ n3_; (try clear hb); (try clear hb2); (try clear hk); (try clear hi)) | ((with_reducible refine gate_dst (N := 9) rfl ?_); refine box_event ?hg (N := 9) ?hd (cs := #[.int .i64 0, .int .i64 0, .string (⟨#[]⟩ : ByteArray)]) (t := 23) ?hr ?_; (case hd => rfl); (case hg => rfl); (case hr => first | (go_simp; done) | (go_simp; rfl)); intro gb436 hg w41 hbox hb; have n0_ := Aside0.mk (blk_below (g := gb422) (o := .cells #[.int .i64 a1_0, .int .i64 a1_1, .string a1_2] 23 (0, 0)) BK422.out hb); have n1_ := Aside0.mk (blk_below (g := gb423) (o := .cells #[.int .i64 a2_0, .int .i64 a2_1, .string a2_2] 23 (0, 0)) BK423.out hb); have n2_ := Aside0.mk (blk_below (g := gb431) (o := .cells #[.int .i64 t427, .int .i64 t428, .string t429] 23 (0, 0)) BK431.out hb); have n3_ := Aside0.mk (below_step (by repeat (first | (with_reducible first | exact HB.out | apply below_alloc | apply pw_below_drewN | apply below_drew1 | refine below_set ?_ GE422.out | refine below_set ?_ GE423.out | refine below_set ?_ GE431.out) | exact HB.out)) hb); have n4_ := Aside0.mk (hbox); have n5_ := Aside0.mk ((by rw [hg]; exact (below_size (by repeat (first | (with_reducible first | exact HB.out | apply below_alloc | apply pw_below_drewN | apply below_drew1 | refine below_set ?_ GE422.out | refine below_set ?_ GE423.out | refine below_set ?_ GE431.out) | exact HB.out))) : w.heap.size ≤ gb436)); have n6_ := Aside0.mk ((by rw [hg]; exact (below_size (by repeat (first | (with_reducible first | exact HB.out | apply below_alloc | apply pw_below_drewN | apply below_drew1 | refine below_set ?_ GE422.out | refine below_set ?_ GE423.out | refine below_set ?_ GE431.out) | exact HB.out))) : w.heap.size ≤ gb436)); have n7_ := Aside0.mk ((by rw [hg]; exact Nat.ne_of_lt (blk_lt (g := gb422) (o := .cells #[.int .i64 a1_0, .int .i64 a1_1, .string a1_2] 23 (0, 0)) BK422.out) : gb422 ≠ gb436)); have n8_ := Aside0.mk ((by rw [hg]; exact Nat.ne_of_gt (blk_lt (g := gb422) (o := .cells #[.int .i64 a1_0, .int .i64 a1_1, .string a1_2] 23 (0, 0)) BK422.out) : gb436 ≠ gb422)); have n9_ := Aside0.mk ((by rw [hg]; exact Nat.ne_of_lt (blk_lt (g := gb423) (o := .cells #[.int .i64 a2_0, .int .i64 a2_1, .string a2_2] 23 (0, 0)) BK423.out) : gb423 ≠ gb436)); have n10_ := Aside0.mk ((by rw [hg]; exact Nat.ne_of_gt (blk_lt (g := gb423) (o := .cells #[.int .i64 a2_0, .int .i64 a2_1, .string a2_2] 23 (0, 0)) BK423.out) : gb436 ≠ gb423)); have n11_ := Aside0.mk ((by rw [hg]; exact Nat.ne_of_lt (blk_lt (g := gb431) (o := .cells #[.int .i64 t427, .int .i64 t428, .string t429] 23 (0, 0)) BK431.out) : gb431 ≠ gb436)); have n12_ := Aside0.mk ((by rw [hg]; exact Nat.ne_of_gt (blk_lt (g := gb431) (o := .cells #[.int .i64 t427, .int .i64 t428, .string t429] 23 (0, 0)) BK431.out) : gb436 ≠ gb431)); clear BK422; clear BK423; clear BK431; clear HB; have BK422 := n0_; have BK423 := n1_; have BK431 := n2_; have HB := n3_; have BK436 := n4_; have GW436 := n5_; have GE436 := n6_; have NB422_436 := n7_; have NB436_422 := n8_; have NB423_436 := n9_; have NB436_423 := n10_; have NB431_436 := n11_; have NB436_431 := n12_; clear n0_ n1_ n2_ n3_ n4_ n5_ n6_ n7_ n8_ n9_ n10_ n11_ n12_; clear hb hbox hg; have hnb42 := NB436_422.out; have hnc42 := NB422_436.out; have hnb43 := NB436_423.out; have hnc43 := NB423_436.out; have hnb44 := NB436_431.out; have hnc44 := NB431_436.out; have hcz45_0 : w41.cell? ⟨gb436, 0, none⟩ = some (.int .i64 0) := (blk_cell BK436.out 0).trans rfl; have hcz45_1 : w41.cell? ⟨gb436, 1, none⟩ = some (.int .i64 0) := (blk_cell BK436.out 1).trans rfl; have hcz45_2 : w41.cell? ⟨gb436, 2, none⟩ = some (.string (⟨#[]⟩ : ByteArray)) := (blk_cell BK436.out 2).trans rfl; have hfz45_0 := blk_frozen BK436.out 0; have hfz45_1 := blk_frozen BK436.out 1; have hfz45_2 := blk_frozen BK436.out 2; have hcz46_0 : w41.cell? ⟨gb431, 0, none⟩ = some (.int .i64 t427) := (blk_cell BK431.out 0).trans rfl; have hcz46_1 : w41.cell? ⟨gb431, 1, none⟩ = some (.int .i64 t428) := (blk_cell BK431.out 1).trans rfl; have hcz46_2 : w41.cell? ⟨gb431, 2, none⟩ = some (.string t429) := (blk_cell BK431.out 2).trans rfl; have hfz46_0 := blk_frozen BK431.out 0; have hfz46_1 := blk_frozen BK431.out 1; have hfz46_2 := blk_frozen BK431.out 2) | (go_at_call 17; (with_reducible refine (ops_Is.calls t427 t428 t429 true _ A27.out).mono ?_); rintro e w47 ⟨rfl, hb⟩; have n0_ := Aside0.mk (blk_below (g := gb422) (o := .cells #[.int .i64 a1_0, .int .i64 a1_1, .string a1_2] 23 (0, 0)) (by refine blk_far ?_ NB422_436.out _; refine blk_far ?_ NB422_436.out _; refine blk_far ?_ NB422_436.out _; exact BK422.out) hb); have n1_ := Aside0.mk (blk_below (g := gb423) (o := .cells #[.int .i64 a2_0, .int .i64 a2_1, .string a2_2] 23 (0, 0)) (by refine blk_far ?_ NB423_436.out _; refine blk_far ?_ NB423_436.out _; refine blk_far ?_ NB423_436.out _; exact BK423.out) hb); have n2_ := Aside0.mk (blk_below (g := gb431) (o := .cells #[.int .i64 t427, .int .i64 t428, .string t429] 23 (0, 0)) (by refine blk_far ?_ NB431_436.out _; refine blk_far ?_ NB431_436.out _; refine blk_far ?_ NB431_436.out _; exact BK431.out) hb); have n3_ := Aside0.mk (blk_below (g := gb436) (o := .cells #[.int .i64 t432, .int .i64 t433, .string t434] 23 (0, 0)) (by refine blk_put (cs := #[.int .i64 t432, .int .i64 t433, .string (⟨#[]⟩ : ByteArray)]) ?_ 2 _ rfl; refine blk_put (cs := #[.int .i64 t432, .int .i64 0, .string (⟨#[]⟩ : ByteArray)]) ?_ 1 _ rfl; refine blk_put (cs := #[.int .i64 0, .int .i64 0, .string (⟨#[]⟩ : ByteArray)]) ?_ 0 _ rfl; exact BK436.out) hb); have n4_ := Aside0.mk (below_step (by repeat (first | (with_reducible first | exact HB.out | apply below_alloc | apply pw_below_drewN | apply below_drew1 | refine below_set ?_ GE422.out | refine below_set ?_ GE423.out | refine below_set ?_ GE431.out | refine below_set ?_ GE436.out) | exact HB.out)) hb); clear BK422; clear BK423; clear BK431; clear BK436; clear HB; have BK422 := n0_; have BK423 := n1_; have BK431 := n2_; have BK436 := n3_; have HB := n4_; clear n0_ n1_ n2_ n3_ n4_; (try clear hb); (try clear hb2); (try clear hk); (try clear hi)) | (go_at_call 11; (with_reducible refine (chrysalislaw17_known.calls kj3  t438 _ A29.out).mono ?_); rintro e w48 ⟨rfl, hb⟩; have n0_ := Aside0.mk (blk_below (g := gb422) (o := .cells #[.int .i64 a1_0, .int .i64 a1_1, .string a1_2] 23 (0, 0)) BK422.out hb); have n1_ := Aside0.mk (blk_below (g := gb423) (o := .cells #[.int .i64 a2_0, .int .i64 a2_1, .string a2_2] 23 (0, 0)) BK423.out hb); have n2_ := Aside0.mk (blk_below (g := gb431) (o := .cells #[.int .i64 t427, .int .i64 t428, .string t429] 23 (0, 0)) BK431.out hb); have n3_ := Aside0.mk (blk_below (g := gb436) (o := .cells #[.int .i64 t432, .int .i64 t433, .string t434] 23 (0, 0)) BK436.out hb); have n4_ := Aside0.mk (below_step (by repeat (first | (with_reducible first | exact HB.out | apply below_alloc | apply pw_below_drewN | apply below_drew1 | refine below_set ?_ GE422.out | refine below_set ?_ GE423.out | refine below_set ?_ GE431.out | refine below_set ?_ GE436.out) | exact HB.out)) hb); clear BK422; clear BK423; clear BK431; clear BK436; clear HB; have BK422 := n0_; have BK423 := n1_; have BK431 := n2_; have BK436 := n3_; have HB := n4_; clear n0_ n1_ n2_ n3_ n4_; (try clear hb); (try clear hb2); (try clear hk); (try clear hi)))
                go_ret
                exact ⟨by first | rfl | (simp [errW_none, errW_some] <;> rfl) | (simp [*, errW_none, errW_some] <;> rfl), by repeat (first | (with_reducible first | exact HB.out | apply below_alloc | apply pw_below_drewN | apply below_drew1 | refine below_set ?_ GE422.out | refine below_set ?_ GE423.out | refine below_set ?_ GE431.out | refine below_set ?_ GE436.out) | exact HB.out)⟩
              · replace c28 := Bool.eq_false_iff.mpr c28
                subst c28
                have H1 : (some false) = some r := by rw [if_neg (show ¬ (false = true) by decide)] at H; exact H
                clear H
                have H := H1
                clear H1
                exact absurd ((Option.some.inj H).trans HR.out) (by decide)
            · rw [if_neg c26] at H
              have c26b0 : (t430 == 0) = false := beq_eq_false_iff_ne.mpr c26
              have c26b1 : (t430 != 0) = true := bne_iff_ne.mpr c26
              replace H := Option.bind_eq_some_iff.mp H
              obtain ⟨t439, A670, H⟩ := H
              replace H : (some t439) = some r := H
              have A67 := Aside0.mk A670
              clear A670
              obtain rfl := Option.some.inj H
              have hnb68 := NB422_423.out
              have hnc68 := NB423_422.out
              have hcz69_0 : wc.cell? ⟨gb422, 0, none⟩ = some (.int .i64 a1_0) := (blk_cell BK422.out 0).trans rfl
              have hcz69_1 : wc.cell? ⟨gb422, 1, none⟩ = some (.int .i64 a1_1) := (blk_cell BK422.out 1).trans rfl
              have hcz69_2 : wc.cell? ⟨gb422, 2, none⟩ = some (.string a1_2) := (blk_cell BK422.out 2).trans rfl
              have hfz69_0 := blk_frozen BK422.out 0
              have hfz69_1 := blk_frozen BK422.out 1
              have hfz69_2 := blk_frozen BK422.out 2
              have hcz70_0 : wc.cell? ⟨gb423, 0, none⟩ = some (.int .i64 a2_0) := (blk_cell BK423.out 0).trans rfl
              have hcz70_1 : wc.cell? ⟨gb423, 1, none⟩ = some (.int .i64 a2_1) := (blk_cell BK423.out 1).trans rfl
              have hcz70_2 : wc.cell? ⟨gb423, 2, none⟩ = some (.string a2_2) := (blk_cell BK423.out 2).trans rfl
              have hfz70_0 := blk_frozen BK423.out 0
              have hfz70_1 := blk_frozen BK423.out 1
              have hfz70_2 := blk_frozen BK423.out 2
              go_wp2_with (first | ((with_reducible refine gate_callee (f := 10) rfl ?_); refine goesL_ (some 29) rfl rfl Try.func10 (by kernel_rfl) rfl #[.string a0, .agg #[.int .i64 a1_0, .int .i64 a1_1, .string a1_2], .agg #[.int .i64 a2_0, .int .i64 a2_1, .string a2_2]] rfl (by (try simp only [List.map_toArray, List.map_cons, List.map_nil]); first | done | rfl | (simp only [List.length_drop, List.length_take]; rfl)) ?_; (with_reducible refine (ops_Two.calls kj3 a0 a1_0 a1_1 a1_2 a2_0 a2_1 a2_2 t427 t428 t429 t430 _ A22.out).mono ?_); rintro e w71 ⟨rfl, hb⟩; refine ⟨_, rfl, ?_⟩; have n0_ := Aside0.mk (blk_below (g := gb422) (o := .cells #[.int .i64 a1_0, .int .i64 a1_1, .string a1_2] 23 (0, 0)) BK422.out hb); have n1_ := Aside0.mk (blk_below (g := gb423) (o := .cells #[.int .i64 a2_0, .int .i64 a2_1, .string a2_2] 23 (0, 0)) BK423.out hb); have n2_ := Aside0.mk (below_step (by repeat (first | (with_reducible first | exact HB.out | apply below_alloc | apply pw_below_drewN | apply below_drew1 | refine below_set ?_ GE422.out | refine below_set ?_ GE423.out) | exact HB.out)) hb); clear BK422; clear BK423; clear HB; have BK422 := n0_; have BK423 := n1_; have HB := n2_; clear n0_ n1_ n2_; (try clear hb); (try clear hb2); (try clear hk); (try clear hi)) | ((with_reducible refine gate_dst (N := 7) rfl ?_); refine box_event ?hg (N := 7) ?hd (cs := #[.int .i64 0, .int .i64 0, .string (⟨#[]⟩ : ByteArray)]) (t := 23) ?hr ?_; (case hd => rfl); (case hg => rfl); (case hr => first | (go_simp; done) | (go_simp; rfl)); intro gb431 hg w72 hbox hb; have n0_ := Aside0.mk (blk_below (g := gb422) (o := .cells #[.int .i64 a1_0, .int .i64 a1_1, .string a1_2] 23 (0, 0)) BK422.out hb); have n1_ := Aside0.mk (blk_below (g := gb423) (o := .cells #[.int .i64 a2_0, .int .i64 a2_1, .string a2_2] 23 (0, 0)) BK423.out hb); have n2_ := Aside0.mk (below_step (by repeat (first | (with_reducible first | exact HB.out | apply below_alloc | apply pw_below_drewN | apply below_drew1 | refine below_set ?_ GE422.out | refine below_set ?_ GE423.out) | exact HB.out)) hb); have n3_ := Aside0.mk (hbox); have n4_ := Aside0.mk ((by rw [hg]; exact (below_size (by repeat (first | (with_reducible first | exact HB.out | apply below_alloc | apply pw_below_drewN | apply below_drew1 | refine below_set ?_ GE422.out | refine below_set ?_ GE423.out) | exact HB.out))) : w.heap.size ≤ gb431)); have n5_ := Aside0.mk ((by rw [hg]; exact (below_size (by repeat (first | (with_reducible first | exact HB.out | apply below_alloc | apply pw_below_drewN | apply below_drew1 | refine below_set ?_ GE422.out | refine below_set ?_ GE423.out) | exact HB.out))) : w.heap.size ≤ gb431)); have n6_ := Aside0.mk ((by rw [hg]; exact Nat.ne_of_lt (blk_lt (g := gb422) (o := .cells #[.int .i64 a1_0, .int .i64 a1_1, .string a1_2] 23 (0, 0)) BK422.out) : gb422 ≠ gb431)); have n7_ := Aside0.mk ((by rw [hg]; exact Nat.ne_of_gt (blk_lt (g := gb422) (o := .cells #[.int .i64 a1_0, .int .i64 a1_1, .string a1_2] 23 (0, 0)) BK422.out) : gb431 ≠ gb422)); have n8_ := Aside0.mk ((by rw [hg]; exact Nat.ne_of_lt (blk_lt (g := gb423) (o := .cells #[.int .i64 a2_0, .int .i64 a2_1, .string a2_2] 23 (0, 0)) BK423.out) : gb423 ≠ gb431)); have n9_ := Aside0.mk ((by rw [hg]; exact Nat.ne_of_gt (blk_lt (g := gb423) (o := .cells #[.int .i64 a2_0, .int .i64 a2_1, .string a2_2] 23 (0, 0)) BK423.out) : gb431 ≠ gb423)); clear BK422; clear BK423; clear HB; have BK422 := n0_; have BK423 := n1_; have HB := n2_; have BK431 := n3_; have GW431 := n4_; have GE431 := n5_; have NB422_431 := n6_; have NB431_422 := n7_; have NB423_431 := n8_; have NB431_423 := n9_; clear n0_ n1_ n2_ n3_ n4_ n5_ n6_ n7_ n8_ n9_; clear hb hbox hg; have hnb73 := NB431_422.out; have hnc73 := NB422_431.out; have hnb74 := NB431_423.out; have hnc74 := NB423_431.out; have hcz75_0 : w72.cell? ⟨gb431, 0, none⟩ = some (.int .i64 0) := (blk_cell BK431.out 0).trans rfl; have hcz75_1 : w72.cell? ⟨gb431, 1, none⟩ = some (.int .i64 0) := (blk_cell BK431.out 1).trans rfl; have hcz75_2 : w72.cell? ⟨gb431, 2, none⟩ = some (.string (⟨#[]⟩ : ByteArray)) := (blk_cell BK431.out 2).trans rfl; have hfz75_0 := blk_frozen BK431.out 0; have hfz75_1 := blk_frozen BK431.out 1; have hfz75_2 := blk_frozen BK431.out 2; have hcz76_0 : w72.cell? ⟨gb422, 0, none⟩ = some (.int .i64 a1_0) := (blk_cell BK422.out 0).trans rfl; have hcz76_1 : w72.cell? ⟨gb422, 1, none⟩ = some (.int .i64 a1_1) := (blk_cell BK422.out 1).trans rfl; have hcz76_2 : w72.cell? ⟨gb422, 2, none⟩ = some (.string a1_2) := (blk_cell BK422.out 2).trans rfl; have hfz76_0 := blk_frozen BK422.out 0; have hfz76_1 := blk_frozen BK422.out 1; have hfz76_2 := blk_frozen BK422.out 2; have hcz77_0 : w72.cell? ⟨gb423, 0, none⟩ = some (.int .i64 a2_0) := (blk_cell BK423.out 0).trans rfl; have hcz77_1 : w72.cell? ⟨gb423, 1, none⟩ = some (.int .i64 a2_1) := (blk_cell BK423.out 1).trans rfl; have hcz77_2 : w72.cell? ⟨gb423, 2, none⟩ = some (.string a2_2) := (blk_cell BK423.out 2).trans rfl; have hfz77_0 := blk_frozen BK423.out 0; have hfz77_1 := blk_frozen BK423.out 1; have hfz77_2 := blk_frozen BK423.out 2) | ((with_reducible refine gate_callee (f := 16) rfl ?_); refine goesL_ (some 36) rfl rfl Try.func16 (by kernel_rfl) rfl #[.string a0, .agg #[.int .i64 a1_0, .int .i64 a1_1, .string a1_2], .agg #[.int .i64 a2_0, .int .i64 a2_1, .string a2_2]] rfl (by (try simp only [List.map_toArray, List.map_cons, List.map_nil]); first | done | rfl | (simp only [List.length_drop, List.length_take]; rfl)) ?_; (with_reducible refine (chrysalisref17_Two.calls kj3 a0 a1_0 a1_1 a1_2 a2_0 a2_1 a2_2 t432 t433 t434 t435 _ A23.out).mono ?_); rintro e w78 ⟨rfl, hb⟩; refine ⟨_, rfl, ?_⟩; have n0_ := Aside0.mk (blk_below (g := gb422) (o := .cells #[.int .i64 a1_0, .int .i64 a1_1, .string a1_2] 23 (0, 0)) (by refine blk_far ?_ NB422_431.out _; refine blk_far ?_ NB422_431.out _; refine blk_far ?_ NB422_431.out _; exact BK422.out) hb); have n1_ := Aside0.mk (blk_below (g := gb423) (o := .cells #[.int .i64 a2_0, .int .i64 a2_1, .string a2_2] 23 (0, 0)) (by refine blk_far ?_ NB423_431.out _; refine blk_far ?_ NB423_431.out _; refine blk_far ?_ NB423_431.out _; exact BK423.out) hb); have n2_ := Aside0.mk (blk_below (g := gb431) (o := .cells #[.int .i64 t427, .int .i64 t428, .string t429] 23 (0, 0)) (by refine blk_put (cs := #[.int .i64 t427, .int .i64 t428, .string (⟨#[]⟩ : ByteArray)]) ?_ 2 _ rfl; refine blk_put (cs := #[.int .i64 t427, .int .i64 0, .string (⟨#[]⟩ : ByteArray)]) ?_ 1 _ rfl; refine blk_put (cs := #[.int .i64 0, .int .i64 0, .string (⟨#[]⟩ : ByteArray)]) ?_ 0 _ rfl; exact BK431.out) hb); have n3_ := Aside0.mk (below_step (by repeat (first | (with_reducible first | exact HB.out | apply below_alloc | apply pw_below_drewN | apply below_drew1 | refine below_set ?_ GE422.out | refine below_set ?_ GE423.out | refine below_set ?_ GE431.out) | exact HB.out)) hb); clear BK422; clear BK423; clear BK431; clear HB; have BK422 := n0_; have BK423 := n1_; have BK431 := n2_; have HB := n3_; clear n0_ n1_ n2_ n3_; (try clear hb); (try clear hb2); (try clear hk); (try clear hi)) | ((with_reducible refine gate_dst (N := 9) rfl ?_); refine box_event ?hg (N := 9) ?hd (cs := #[.int .i64 0, .int .i64 0, .string (⟨#[]⟩ : ByteArray)]) (t := 23) ?hr ?_; (case hd => rfl); (case hg => rfl); (case hr => first | (go_simp; done) | (go_simp; rfl)); intro gb436 hg w79 hbox hb; have n0_ := Aside0.mk (blk_below (g := gb422) (o := .cells #[.int .i64 a1_0, .int .i64 a1_1, .string a1_2] 23 (0, 0)) BK422.out hb); have n1_ := Aside0.mk (blk_below (g := gb423) (o := .cells #[.int .i64 a2_0, .int .i64 a2_1, .string a2_2] 23 (0, 0)) BK423.out hb); have n2_ := Aside0.mk (blk_below (g := gb431) (o := .cells #[.int .i64 t427, .int .i64 t428, .string t429] 23 (0, 0)) BK431.out hb); have n3_ := Aside0.mk (below_step (by repeat (first | (with_reducible first | exact HB.out | apply below_alloc | apply pw_below_drewN | apply below_drew1 | refine below_set ?_ GE422.out | refine below_set ?_ GE423.out | refine below_set ?_ GE431.out) | exact HB.out)) hb); have n4_ := Aside0.mk (hbox); have n5_ := Aside0.mk ((by rw [hg]; exact (below_size (by repeat (first | (with_reducible first | exact HB.out | apply below_alloc | apply pw_below_drewN | apply below_drew1 | refine below_set ?_ GE422.out | refine below_set ?_ GE423.out | refine below_set ?_ GE431.out) | exact HB.out))) : w.heap.size ≤ gb436)); have n6_ := Aside0.mk ((by rw [hg]; exact (below_size (by repeat (first | (with_reducible first | exact HB.out | apply below_alloc | apply pw_below_drewN | apply below_drew1 | refine below_set ?_ GE422.out | refine below_set ?_ GE423.out | refine below_set ?_ GE431.out) | exact HB.out))) : w.heap.size ≤ gb436)); have n7_ := Aside0.mk ((by rw [hg]; exact Nat.ne_of_lt (blk_lt (g := gb422) (o := .cells #[.int .i64 a1_0, .int .i64 a1_1, .string a1_2] 23 (0, 0)) BK422.out) : gb422 ≠ gb436)); have n8_ := Aside0.mk ((by rw [hg]; exact Nat.ne_of_gt (blk_lt (g := gb422) (o := .cells #[.int .i64 a1_0, .int .i64 a1_1, .string a1_2] 23 (0, 0)) BK422.out) : gb436 ≠ gb422)); have n9_ := Aside0.mk ((by rw [hg]; exact Nat.ne_of_lt (blk_lt (g := gb423) (o := .cells #[.int .i64 a2_0, .int .i64 a2_1, .string a2_2] 23 (0, 0)) BK423.out) : gb423 ≠ gb436)); have n10_ := Aside0.mk ((by rw [hg]; exact Nat.ne_of_gt (blk_lt (g := gb423) (o := .cells #[.int .i64 a2_0, .int .i64 a2_1, .string a2_2] 23 (0, 0)) BK423.out) : gb436 ≠ gb423)); have n11_ := Aside0.mk ((by rw [hg]; exact Nat.ne_of_lt (blk_lt (g := gb431) (o := .cells #[.int .i64 t427, .int .i64 t428, .string t429] 23 (0, 0)) BK431.out) : gb431 ≠ gb436)); have n12_ := Aside0.mk ((by rw [hg]; exact Nat.ne_of_gt (blk_lt (g := gb431) (o := .cells #[.int .i64 t427, .int .i64 t428, .string t429] 23 (0, 0)) BK431.out) : gb436 ≠ gb431)); clear BK422; clear BK423; clear BK431; clear HB; have BK422 := n0_; have BK423 := n1_; have BK431 := n2_; have HB := n3_; have BK436 := n4_; have GW436 := n5_; have GE436 := n6_; have NB422_436 := n7_; have NB436_422 := n8_; have NB423_436 := n9_; have NB436_423 := n10_; have NB431_436 := n11_; have NB436_431 := n12_; clear n0_ n1_ n2_ n3_ n4_ n5_ n6_ n7_ n8_ n9_ n10_ n11_ n12_; clear hb hbox hg; have hnb80 := NB436_422.out; have hnc80 := NB422_436.out; have hnb81 := NB436_423.out; have hnc81 := NB423_436.out; have hnb82 := NB436_431.out; have hnc82 := NB431_436.out; have hcz83_0 : w79.cell? ⟨gb436, 0, none⟩ = some (.int .i64 0) := (blk_cell BK436.out 0).trans rfl; have hcz83_1 : w79.cell? ⟨gb436, 1, none⟩ = some (.int .i64 0) := (blk_cell BK436.out 1).trans rfl; have hcz83_2 : w79.cell? ⟨gb436, 2, none⟩ = some (.string (⟨#[]⟩ : ByteArray)) := (blk_cell BK436.out 2).trans rfl; have hfz83_0 := blk_frozen BK436.out 0; have hfz83_1 := blk_frozen BK436.out 1; have hfz83_2 := blk_frozen BK436.out 2; have hcz84_0 : w79.cell? ⟨gb431, 0, none⟩ = some (.int .i64 t427) := (blk_cell BK431.out 0).trans rfl; have hcz84_1 : w79.cell? ⟨gb431, 1, none⟩ = some (.int .i64 t428) := (blk_cell BK431.out 1).trans rfl; have hcz84_2 : w79.cell? ⟨gb431, 2, none⟩ = some (.string t429) := (blk_cell BK431.out 2).trans rfl; have hfz84_0 := blk_frozen BK431.out 0; have hfz84_1 := blk_frozen BK431.out 1; have hfz84_2 := blk_frozen BK431.out 2) | (go_at_call 11; (with_reducible refine (chrysalislaw17_known.calls kj3  t439 _ A67.out).mono ?_); rintro e w85 ⟨rfl, hb⟩; have n0_ := Aside0.mk (blk_below (g := gb422) (o := .cells #[.int .i64 a1_0, .int .i64 a1_1, .string a1_2] 23 (0, 0)) (by refine blk_far ?_ NB422_436.out _; refine blk_far ?_ NB422_436.out _; refine blk_far ?_ NB422_436.out _; exact BK422.out) hb); have n1_ := Aside0.mk (blk_below (g := gb423) (o := .cells #[.int .i64 a2_0, .int .i64 a2_1, .string a2_2] 23 (0, 0)) (by refine blk_far ?_ NB423_436.out _; refine blk_far ?_ NB423_436.out _; refine blk_far ?_ NB423_436.out _; exact BK423.out) hb); have n2_ := Aside0.mk (blk_below (g := gb431) (o := .cells #[.int .i64 t427, .int .i64 t428, .string t429] 23 (0, 0)) (by refine blk_far ?_ NB431_436.out _; refine blk_far ?_ NB431_436.out _; refine blk_far ?_ NB431_436.out _; exact BK431.out) hb); have n3_ := Aside0.mk (blk_below (g := gb436) (o := .cells #[.int .i64 t432, .int .i64 t433, .string t434] 23 (0, 0)) (by refine blk_put (cs := #[.int .i64 t432, .int .i64 t433, .string (⟨#[]⟩ : ByteArray)]) ?_ 2 _ rfl; refine blk_put (cs := #[.int .i64 t432, .int .i64 0, .string (⟨#[]⟩ : ByteArray)]) ?_ 1 _ rfl; refine blk_put (cs := #[.int .i64 0, .int .i64 0, .string (⟨#[]⟩ : ByteArray)]) ?_ 0 _ rfl; exact BK436.out) hb); have n4_ := Aside0.mk (below_step (by repeat (first | (with_reducible first | exact HB.out | apply below_alloc | apply pw_below_drewN | apply below_drew1 | refine below_set ?_ GE422.out | refine below_set ?_ GE423.out | refine below_set ?_ GE431.out | refine below_set ?_ GE436.out) | exact HB.out)) hb); clear BK422; clear BK423; clear BK431; clear BK436; clear HB; have BK422 := n0_; have BK423 := n1_; have BK431 := n2_; have BK436 := n3_; have HB := n4_; clear n0_ n1_ n2_ n3_ n4_; (try clear hb); (try clear hb2); (try clear hk); (try clear hi)))
              go_ret
              exact ⟨by first | rfl | (simp [errW_none, errW_some] <;> rfl) | (simp [*, errW_none, errW_some] <;> rfl), by repeat (first | (with_reducible first | exact HB.out | apply below_alloc | apply pw_below_drewN | apply below_drew1 | refine below_set ?_ GE422.out | refine below_set ?_ GE423.out | refine below_set ?_ GE431.out | refine below_set ?_ GE436.out) | exact HB.out)⟩
          · rw [if_neg c25] at H
            have c25b0 : (t430 == t435) = false := beq_eq_false_iff_ne.mpr c25
            have c25b1 : (t430 != t435) = true := bne_iff_ne.mpr c25
            exact absurd ((Option.some.inj H).trans HR.out) (by decide)
        · rw [if_neg c24] at H
          have c24b0 : (t427 == t432 && (t428 == t433 && (t429.toList == t434.toList))) = false := by simpa using c24
          (try (have c24b1 : decide (t427 = t432 && (t428 == t433 && (t429.toList == t434.toList))) = false := by simpa using c24))
          (try (have c24b2 : (t427 == t432 && (t428 == t433 && (t429.toList == t434.toList))) = false := by simpa using c24))
          (try (have c24b3 : ¬ (t427 = t432 && (t428 == t433 && (t429.toList == t434.toList))) := by simpa using c24))
          clear c24
          exact absurd ((Option.some.inj H).trans HR.out) (by decide)

-- BY HAND: function 14 (ops_Key)

/-! ### chrysalisref17_Truth: function 21 -/
def chrysalisref17_Truth.f (a0_0 : Int) (a0_1 : Int) (a0_2 : ByteArray) : Option (Bool) := if a0_0 = 0 then (some false) else (if a0_0 = 1 then (some (a0_1 != 0)) else (some true))
set_option maxHeartbeats 8000000 in
set_option maxRecDepth 100000 in
theorem chrysalisref17_Truth.calls (a0_0 : Int) (a0_1 : Int) (a0_2 : ByteArray) (r : Bool) (w : World) (h : chrysalisref17_Truth.f a0_0 a0_1 a0_2 = some r) :
    Calls Try.prog 21 #[.agg #[.int .i64 a0_0, .int .i64 a0_1, .string a0_2]] w fun e w' => e = .returned (.bool r) ∧ Below w.heap.size w w' := by
  have hu23 := Try.underlying23
  have HB := Aside0.mk (Below.refl w.heap.size w)
  have H : (if a0_0 = 0 then (some false) else (if a0_0 = 1 then (some (a0_1 != 0)) else (some true))) = some r := h
  clear h
  by_cases c2 : a0_0 = 0
  · rw [if_pos c2] at H
    have c2b0 : (a0_0 == 0) = true := beq_iff_eq.mpr c2
    have c2b1 : (a0_0 != 0) = false := bne_eq_false_iff_eq.mpr c2
    clear c2
    obtain rfl := Option.some.inj H
    go_enter Try.func21, Try.ntmps21
    go_wp2_with (first | ((with_reducible refine gate_dst (N := 1) rfl ?_); refine box_event ?hg (N := 1) ?hd (cs := #[.int .i64 a0_0, .int .i64 a0_1, .string a0_2]) (t := 23) ?hr ?_; (case hd => rfl); (case hg => rfl); (case hr => first | (go_simp; done) | (go_simp; rfl)); intro gb440 hg w3 hbox hb; have n0_ := Aside0.mk (below_step (by repeat (first | (with_reducible first | exact HB.out | apply below_alloc | apply pw_below_drewN | apply below_drew1) | exact HB.out)) hb); have n1_ := Aside0.mk (hbox); have n2_ := Aside0.mk ((by rw [hg]; exact (below_size (by repeat (first | (with_reducible first | exact HB.out | apply below_alloc | apply pw_below_drewN | apply below_drew1) | exact HB.out))) : w.heap.size ≤ gb440)); have n3_ := Aside0.mk ((by rw [hg]; exact (below_size (by repeat (first | (with_reducible first | exact HB.out | apply below_alloc | apply pw_below_drewN | apply below_drew1) | exact HB.out))) : w.heap.size ≤ gb440)); clear HB; have HB := n0_; have BK440 := n1_; have GW440 := n2_; have GE440 := n3_; clear n0_ n1_ n2_ n3_; clear hb hbox hg; have hcz4_0 : w3.cell? ⟨gb440, 0, none⟩ = some (.int .i64 a0_0) := (blk_cell BK440.out 0).trans rfl; have hcz4_1 : w3.cell? ⟨gb440, 1, none⟩ = some (.int .i64 a0_1) := (blk_cell BK440.out 1).trans rfl; have hcz4_2 : w3.cell? ⟨gb440, 2, none⟩ = some (.string a0_2) := (blk_cell BK440.out 2).trans rfl; have hfz4_0 := blk_frozen BK440.out 0; have hfz4_1 := blk_frozen BK440.out 1; have hfz4_2 := blk_frozen BK440.out 2))
    go_ret
    exact ⟨by first | rfl | (simp [errW_none, errW_some] <;> rfl) | (simp [*, errW_none, errW_some] <;> rfl), by repeat (first | (with_reducible first | exact HB.out | apply below_alloc | apply pw_below_drewN | apply below_drew1 | refine below_set ?_ GE440.out) | exact HB.out)⟩
  · rw [if_neg c2] at H
    have c2b0 : (a0_0 == 0) = false := beq_eq_false_iff_ne.mpr c2
    have c2b1 : (a0_0 != 0) = true := bne_iff_ne.mpr c2
    by_cases c5 : a0_0 = 1
    · rw [if_pos c5] at H
      have c5b0 : (a0_0 == 1) = true := beq_iff_eq.mpr c5
      have c5b1 : (a0_0 != 1) = false := bne_eq_false_iff_eq.mpr c5
      clear c5
      obtain rfl := Option.some.inj H
      go_enter Try.func21, Try.ntmps21
      go_wp2_with (first | ((with_reducible refine gate_dst (N := 1) rfl ?_); refine box_event ?hg (N := 1) ?hd (cs := #[.int .i64 a0_0, .int .i64 a0_1, .string a0_2]) (t := 23) ?hr ?_; (case hd => rfl); (case hg => rfl); (case hr => first | (go_simp; done) | (go_simp; rfl)); intro gb440 hg w6 hbox hb; have n0_ := Aside0.mk (below_step (by repeat (first | (with_reducible first | exact HB.out | apply below_alloc | apply pw_below_drewN | apply below_drew1) | exact HB.out)) hb); have n1_ := Aside0.mk (hbox); have n2_ := Aside0.mk ((by rw [hg]; exact (below_size (by repeat (first | (with_reducible first | exact HB.out | apply below_alloc | apply pw_below_drewN | apply below_drew1) | exact HB.out))) : w.heap.size ≤ gb440)); have n3_ := Aside0.mk ((by rw [hg]; exact (below_size (by repeat (first | (with_reducible first | exact HB.out | apply below_alloc | apply pw_below_drewN | apply below_drew1) | exact HB.out))) : w.heap.size ≤ gb440)); clear HB; have HB := n0_; have BK440 := n1_; have GW440 := n2_; have GE440 := n3_; clear n0_ n1_ n2_ n3_; clear hb hbox hg; have hcz7_0 : w6.cell? ⟨gb440, 0, none⟩ = some (.int .i64 a0_0) := (blk_cell BK440.out 0).trans rfl; have hcz7_1 : w6.cell? ⟨gb440, 1, none⟩ = some (.int .i64 a0_1) := (blk_cell BK440.out 1).trans rfl; have hcz7_2 : w6.cell? ⟨gb440, 2, none⟩ = some (.string a0_2) := (blk_cell BK440.out 2).trans rfl; have hfz7_0 := blk_frozen BK440.out 0; have hfz7_1 := blk_frozen BK440.out 1; have hfz7_2 := blk_frozen BK440.out 2))
      go_ret
      exact ⟨by first | rfl | (simp [errW_none, errW_some] <;> rfl) | (simp [*, errW_none, errW_some] <;> rfl), by repeat (first | (with_reducible first | exact HB.out | apply below_alloc | apply pw_below_drewN | apply below_drew1 | refine below_set ?_ GE440.out) | exact HB.out)⟩
    · rw [if_neg c5] at H
      have c5b0 : (a0_0 == 1) = false := beq_eq_false_iff_ne.mpr c5
      have c5b1 : (a0_0 != 1) = true := bne_iff_ne.mpr c5
      obtain rfl := Option.some.inj H
      go_enter Try.func21, Try.ntmps21
      go_wp2_with (first | ((with_reducible refine gate_dst (N := 1) rfl ?_); refine box_event ?hg (N := 1) ?hd (cs := #[.int .i64 a0_0, .int .i64 a0_1, .string a0_2]) (t := 23) ?hr ?_; (case hd => rfl); (case hg => rfl); (case hr => first | (go_simp; done) | (go_simp; rfl)); intro gb440 hg w8 hbox hb; have n0_ := Aside0.mk (below_step (by repeat (first | (with_reducible first | exact HB.out | apply below_alloc | apply pw_below_drewN | apply below_drew1) | exact HB.out)) hb); have n1_ := Aside0.mk (hbox); have n2_ := Aside0.mk ((by rw [hg]; exact (below_size (by repeat (first | (with_reducible first | exact HB.out | apply below_alloc | apply pw_below_drewN | apply below_drew1) | exact HB.out))) : w.heap.size ≤ gb440)); have n3_ := Aside0.mk ((by rw [hg]; exact (below_size (by repeat (first | (with_reducible first | exact HB.out | apply below_alloc | apply pw_below_drewN | apply below_drew1) | exact HB.out))) : w.heap.size ≤ gb440)); clear HB; have HB := n0_; have BK440 := n1_; have GW440 := n2_; have GE440 := n3_; clear n0_ n1_ n2_ n3_; clear hb hbox hg; have hcz9_0 : w8.cell? ⟨gb440, 0, none⟩ = some (.int .i64 a0_0) := (blk_cell BK440.out 0).trans rfl; have hcz9_1 : w8.cell? ⟨gb440, 1, none⟩ = some (.int .i64 a0_1) := (blk_cell BK440.out 1).trans rfl; have hcz9_2 : w8.cell? ⟨gb440, 2, none⟩ = some (.string a0_2) := (blk_cell BK440.out 2).trans rfl; have hfz9_0 := blk_frozen BK440.out 0; have hfz9_1 := blk_frozen BK440.out 1; have hfz9_2 := blk_frozen BK440.out 2))
      go_ret
      exact ⟨by first | rfl | (simp [errW_none, errW_some] <;> rfl) | (simp [*, errW_none, errW_some] <;> rfl), by repeat (first | (with_reducible first | exact HB.out | apply below_alloc | apply pw_below_drewN | apply below_drew1 | refine below_set ?_ GE440.out) | exact HB.out)⟩

end Go.Proofs.Ytmadbfahdnkecaa.Q
