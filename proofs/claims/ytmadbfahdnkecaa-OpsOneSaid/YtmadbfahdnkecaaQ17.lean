/- Functions that the laws reach, as plain Lean functions, each with a proof that the call does what its function says; no condition. -/
import Derived.Test.YtmadbfahdnkecaaQ0
import Derived.Test.YtmadbfahdnkecaaQ4
import Derived.Test.YtmadbfahdnkecaaQ9
import Derived.Test.YtmadbfahdnkecaaQ16
namespace Go.Proofs.Ytmadbfahdnkecaa.Q
open Go.RowKit Go.Proofs.YtmadbfahdnkecaaW.PrintWords Go.Proofs.YtmadbfahdnkecaaW.PrintLast Go.Proofs.YtmadbfahdnkecaaW.PrintMore
attribute [local go_sem]  Go.Proofs.Ytmadbfahdnkecaa.as_num_num Go.Proofs.Ytmadbfahdnkecaa.as_text_num Go.Proofs.Ytmadbfahdnkecaa.as_nil_num Go.Proofs.Ytmadbfahdnkecaa.as_text_text Go.Proofs.Ytmadbfahdnkecaa.as_num_text Go.Proofs.Ytmadbfahdnkecaa.as_nil_text Go.Proofs.Ytmadbfahdnkecaa.leq_texts max2_int min2_int max_two min_two max_three min_three max_four min_four   -- for this text's walks alone
set_option linter.unusedVariables false
set_option linter.unusedSimpArgs false

/-! ### chrysalisref17_One: function 19 -/
mutual
def chrysalisref17_One.j0 : Nat → ByteArray → Bool → Int → Int → ByteArray → Option (Int × Int × ByteArray × Int)
  | 0, _, _, _, _, _ => none
  | k + 1, x0, x13, x442000, x442001, x442002 => if x13 = true then ((chrysalisref17_Int.f (wrap64 (-x442001))).bind fun bt447 => (some (bt447.1, bt447.2.1, bt447.2.2, 0))) else (if x0.toList = ([108, 101, 110] : List UInt8) then (chrysalisref17_One.j1 k x0 (x442000 == 2) x442000 x442001 x442002) else (chrysalisref17_One.j1 k x0 false x442000 x442001 x442002))
def chrysalisref17_One.j1 : Nat → ByteArray → Bool → Int → Int → ByteArray → Option (Int × Int × ByteArray × Int)
  | 0, _, _, _, _, _ => none
  | k + 1, x0, x25, x442000, x442001, x442002 => if x25 = true then ((chrysalisref17_Int.f (x442002.size : Int)).bind fun bt450 => (some (bt450.1, bt450.2.1, bt450.2.2, 0))) else (if x0.toList = ([45] : List UInt8) then (some (0, 0, (⟨#[]⟩ : ByteArray), 1)) else (if x0.toList = ([108, 101, 110] : List UInt8) then (some (0, 0, (⟨#[]⟩ : ByteArray), 1)) else (some (0, 0, (⟨#[]⟩ : ByteArray), 12))))
end
def chrysalisref17_One.f (k : Nat) (a0 : ByteArray) (a1_0 : Int) (a1_1 : Int) (a1_2 : ByteArray) : Option (Int × Int × ByteArray × Int) := if a0.toList = ([110, 111, 116] : List UInt8) then ((chrysalisref17_Truth.f a1_0 a1_1 a1_2).bind fun t443 => ((chrysalisref17_truth.f (!t443)).bind fun bt444 => (some (bt444.1, bt444.2.1, bt444.2.2, 0)))) else (if a0.toList = ([45] : List UInt8) then (chrysalisref17_One.j0 k a0 (a1_0 == 1) a1_0 a1_1 a1_2) else (chrysalisref17_One.j0 k a0 false a1_0 a1_1 a1_2))
theorem chrysalisref17_One.mono_l : ∀ k, (∀ y0 y1 y2 y3 y4, LeO (chrysalisref17_One.j0 k y0 y1 y2 y3 y4) (chrysalisref17_One.j0 (k + 1) y0 y1 y2 y3 y4)) ∧ (∀ y0 y1 y2 y3 y4, LeO (chrysalisref17_One.j1 k y0 y1 y2 y3 y4) (chrysalisref17_One.j1 (k + 1) y0 y1 y2 y3 y4))
  | 0 => ⟨fun _ _ _ _ _ r h => by simp [chrysalisref17_One.j0] at h, fun _ _ _ _ _ r h => by simp [chrysalisref17_One.j1] at h⟩
  | k + 1 => by
    obtain ⟨ih0, ih1⟩ := chrysalisref17_One.mono_l k
    refine ⟨?_, ?_⟩
    · intro y0 y1 y2 y3 y4
      unfold chrysalisref17_One.j0
      repeat' first
      | (with_reducible exact ih0 _ _ _ _ _)
      | (with_reducible exact ih1 _ _ _ _ _)
      | (with_reducible exact LeO.refl _)
      | (with_reducible exact LeO.none _)
      | (with_reducible refine LeO.ite ?_ ?_)
      | (with_reducible refine LeO.bind ?_ (fun _ => ?_))
      | exact ih0 _ _ _ _ _
      | exact ih1 _ _ _ _ _
      | exact LeO.none _
      | refine LeO.ite ?_ ?_
      | refine LeO.bind ?_ (fun _ => ?_)
    · intro y0 y1 y2 y3 y4
      unfold chrysalisref17_One.j1
      repeat' first
      | (with_reducible exact ih0 _ _ _ _ _)
      | (with_reducible exact ih1 _ _ _ _ _)
      | (with_reducible exact LeO.refl _)
      | (with_reducible exact LeO.none _)
      | (with_reducible refine LeO.ite ?_ ?_)
      | (with_reducible refine LeO.bind ?_ (fun _ => ?_))
      | exact ih0 _ _ _ _ _
      | exact ih1 _ _ _ _ _
      | exact LeO.none _
      | refine LeO.ite ?_ ?_
      | refine LeO.bind ?_ (fun _ => ?_)
theorem chrysalisref17_One.mono : ∀ a0 a1 a2 a3 k, LeO (chrysalisref17_One.f k a0 a1 a2 a3) (chrysalisref17_One.f (k + 1) a0 a1 a2 a3) := by
  intro a0 a1 a2 a3 k
  obtain ⟨ih0, ih1⟩ := chrysalisref17_One.mono_l k
  unfold chrysalisref17_One.f
  repeat' first
      | (with_reducible exact ih0 _ _ _ _ _)
      | (with_reducible exact ih1 _ _ _ _ _)
      | (with_reducible exact LeO.refl _)
      | (with_reducible exact LeO.none _)
      | (with_reducible refine LeO.ite ?_ ?_)
      | (with_reducible refine LeO.bind ?_ (fun _ => ?_))
      | exact ih0 _ _ _ _ _
      | exact ih1 _ _ _ _ _
      | exact LeO.none _
      | refine LeO.ite ?_ ?_
      | refine LeO.bind ?_ (fun _ => ?_)
set_option maxHeartbeats 8000000 in
set_option maxRecDepth 100000 in
theorem chrysalisref17_One.calls (k : Nat) (a0 : ByteArray) (a1_0 : Int) (a1_1 : Int) (a1_2 : ByteArray) (r1 : Int) (r2 : Int) (r3 : ByteArray) (r4 : Int) (w : World) (h : chrysalisref17_One.f k a0 a1_0 a1_1 a1_2 = some (r1, r2, r3, r4)) :
    Calls Try.prog 19 #[.string a0, .agg #[.int .i64 a1_0, .int .i64 a1_1, .string a1_2]] w fun e w' => e = .returned (.tuple #[.agg #[.int .i64 r1, .int .i64 r2, .string r3], .int .i64 r4]) ∧ Below w.heap.size w w' := by
  have hu23 := Try.underlying23
  have HB := Aside0.mk (Below.refl w.heap.size w)
  have H : (if a0.toList = ([110, 111, 116] : List UInt8) then ((chrysalisref17_Truth.f a1_0 a1_1 a1_2).bind fun t443 => ((chrysalisref17_truth.f (!t443)).bind fun bt444 => (some (bt444.1, bt444.2.1, bt444.2.2, 0)))) else (if a0.toList = ([45] : List UInt8) then (chrysalisref17_One.j0 k a0 (a1_0 == 1) a1_0 a1_1 a1_2) else (chrysalisref17_One.j0 k a0 false a1_0 a1_1 a1_2))) = some (r1, r2, r3, r4) := h
  clear h
  by_cases c3 : a0.toList = ([110, 111, 116] : List UInt8)
  · rw [if_pos c3] at H
    have c3b0 : (a0.toList == ([110, 111, 116] : List UInt8)) = true := beq_iff_eq.mpr c3
    have c3b1 : (a0.toList != ([110, 111, 116] : List UInt8)) = false := bne_eq_false_iff_eq.mpr c3
    clear c3
    replace H := Option.bind_eq_some_iff.mp H
    obtain ⟨t443, A40, H⟩ := H
    replace H : ((chrysalisref17_truth.f (!t443)).bind fun bt444 => (some (bt444.1, bt444.2.1, bt444.2.2, 0))) = some (r1, r2, r3, r4) := H
    have A4 := Aside0.mk A40
    clear A40
    replace H := Option.bind_eq_some_iff.mp H
    obtain ⟨⟨t444, t445, t446⟩, A50, H⟩ := H
    replace H : (some (t444, t445, t446, 0)) = some (r1, r2, r3, r4) := H
    have A5 := Aside0.mk A50
    clear A50
    simp only [Option.some.injEq, Prod.mk.injEq] at H
    obtain ⟨rfl, rfl, rfl, rfl⟩ := H
    go_enter Try.func19, Try.ntmps19
    go_wp2_with (first | ((with_reducible refine gate_dst (N := 3) rfl ?_); refine box_event ?hg (N := 3) ?hd (cs := #[.int .i64 a1_0, .int .i64 a1_1, .string a1_2]) (t := 23) ?hr ?_; (case hd => rfl); (case hg => rfl); (case hr => first | (go_simp; done) | (go_simp; rfl)); intro gb441 hg w6 hbox hb; have n0_ := Aside0.mk (below_step (by repeat (first | (with_reducible first | exact HB.out | apply below_alloc | apply pw_below_drewN | apply below_drew1) | exact HB.out)) hb); have n1_ := Aside0.mk (hbox); have n2_ := Aside0.mk ((by rw [hg]; exact (below_size (by repeat (first | (with_reducible first | exact HB.out | apply below_alloc | apply pw_below_drewN | apply below_drew1) | exact HB.out))) : w.heap.size ≤ gb441)); have n3_ := Aside0.mk ((by rw [hg]; exact (below_size (by repeat (first | (with_reducible first | exact HB.out | apply below_alloc | apply pw_below_drewN | apply below_drew1) | exact HB.out))) : w.heap.size ≤ gb441)); clear HB; have HB := n0_; have BK441 := n1_; have GW441 := n2_; have GE441 := n3_; clear n0_ n1_ n2_ n3_; clear hb hbox hg) | ((with_reducible refine gate_dst (N := 4) rfl ?_); refine box_event ?hg (N := 4) ?hd (cs := #[.int .i64 0, .int .i64 0, .string (⟨#[]⟩ : ByteArray)]) (t := 23) ?hr ?_; (case hd => rfl); (case hg => rfl); (case hr => first | (go_simp; done) | (go_simp; rfl)); intro gb442 hg w7 hbox hb; have n0_ := Aside0.mk (blk_below (g := gb441) (o := .cells #[.int .i64 a1_0, .int .i64 a1_1, .string a1_2] 23 (0, 0)) BK441.out hb); have n1_ := Aside0.mk (below_step (by repeat (first | (with_reducible first | exact HB.out | apply below_alloc | apply pw_below_drewN | apply below_drew1 | refine below_set ?_ GE441.out) | exact HB.out)) hb); have n2_ := Aside0.mk (hbox); have n3_ := Aside0.mk ((by rw [hg]; exact (below_size (by repeat (first | (with_reducible first | exact HB.out | apply below_alloc | apply pw_below_drewN | apply below_drew1 | refine below_set ?_ GE441.out) | exact HB.out))) : w.heap.size ≤ gb442)); have n4_ := Aside0.mk ((by rw [hg]; exact (below_size (by repeat (first | (with_reducible first | exact HB.out | apply below_alloc | apply pw_below_drewN | apply below_drew1 | refine below_set ?_ GE441.out) | exact HB.out))) : w.heap.size ≤ gb442)); have n5_ := Aside0.mk ((by rw [hg]; exact Nat.ne_of_lt (blk_lt (g := gb441) (o := .cells #[.int .i64 a1_0, .int .i64 a1_1, .string a1_2] 23 (0, 0)) BK441.out) : gb441 ≠ gb442)); have n6_ := Aside0.mk ((by rw [hg]; exact Nat.ne_of_gt (blk_lt (g := gb441) (o := .cells #[.int .i64 a1_0, .int .i64 a1_1, .string a1_2] 23 (0, 0)) BK441.out) : gb442 ≠ gb441)); clear BK441; clear HB; have BK441 := n0_; have HB := n1_; have BK442 := n2_; have GW442 := n3_; have GE442 := n4_; have NB441_442 := n5_; have NB442_441 := n6_; clear n0_ n1_ n2_ n3_ n4_ n5_ n6_; clear hb hbox hg; have hnb8 := NB441_442.out; have hnc8 := NB442_441.out; have hcz9_0 : w7.cell? ⟨gb441, 0, none⟩ = some (.int .i64 a1_0) := (blk_cell BK441.out 0).trans rfl; have hcz9_1 : w7.cell? ⟨gb441, 1, none⟩ = some (.int .i64 a1_1) := (blk_cell BK441.out 1).trans rfl; have hcz9_2 : w7.cell? ⟨gb441, 2, none⟩ = some (.string a1_2) := (blk_cell BK441.out 2).trans rfl; have hfz9_0 := blk_frozen BK441.out 0; have hfz9_1 := blk_frozen BK441.out 1; have hfz9_2 := blk_frozen BK441.out 2) | ((with_reducible refine gate_callee (f := 21) rfl ?_); refine goesL_ (some 10) rfl rfl Try.func21 (by kernel_rfl) rfl #[.agg #[.int .i64 a1_0, .int .i64 a1_1, .string a1_2]] rfl (by (try simp only [List.map_toArray, List.map_cons, List.map_nil]); first | done | rfl | (simp only [List.length_drop, List.length_take]; rfl)) ?_; (with_reducible refine (chrysalisref17_Truth.calls a1_0 a1_1 a1_2 t443 _ A4.out).mono ?_); rintro e w10 ⟨rfl, hb⟩; refine ⟨_, rfl, ?_⟩; have n0_ := Aside0.mk (blk_below (g := gb441) (o := .cells #[.int .i64 a1_0, .int .i64 a1_1, .string a1_2] 23 (0, 0)) BK441.out hb); have n1_ := Aside0.mk (blk_below (g := gb442) (o := .cells #[.int .i64 0, .int .i64 0, .string (⟨#[]⟩ : ByteArray)] 23 (0, 0)) BK442.out hb); have n2_ := Aside0.mk (below_step (by repeat (first | (with_reducible first | exact HB.out | apply below_alloc | apply pw_below_drewN | apply below_drew1 | refine below_set ?_ GE441.out | refine below_set ?_ GE442.out) | exact HB.out)) hb); clear BK441; clear BK442; clear HB; have BK441 := n0_; have BK442 := n1_; have HB := n2_; clear n0_ n1_ n2_; (try clear hb)) | ((with_reducible refine gate_callee (f := 35) rfl ?_); refine goesL_ (some 12) rfl rfl Try.func35 (by kernel_rfl) rfl #[.bool (!t443)] rfl (by (try simp only [List.map_toArray, List.map_cons, List.map_nil]); first | done | rfl | (simp only [List.length_drop, List.length_take]; rfl)) ?_; (with_reducible refine (chrysalisref17_truth.calls (!t443) t444 t445 t446 _ A5.out).mono ?_); rintro e w11 ⟨rfl, hb⟩; refine ⟨_, rfl, ?_⟩; have n0_ := Aside0.mk (blk_below (g := gb441) (o := .cells #[.int .i64 a1_0, .int .i64 a1_1, .string a1_2] 23 (0, 0)) BK441.out hb); have n1_ := Aside0.mk (blk_below (g := gb442) (o := .cells #[.int .i64 0, .int .i64 0, .string (⟨#[]⟩ : ByteArray)] 23 (0, 0)) BK442.out hb); have n2_ := Aside0.mk (below_step (by repeat (first | (with_reducible first | exact HB.out | apply below_alloc | apply pw_below_drewN | apply below_drew1 | refine below_set ?_ GE441.out | refine below_set ?_ GE442.out) | exact HB.out)) hb); clear BK441; clear BK442; clear HB; have BK441 := n0_; have BK442 := n1_; have HB := n2_; clear n0_ n1_ n2_; (try clear hb); have hcz12_0 : w11.cell? ⟨gb442, 0, none⟩ = some (.int .i64 0) := (blk_cell BK442.out 0).trans rfl; have hcz12_1 : w11.cell? ⟨gb442, 1, none⟩ = some (.int .i64 0) := (blk_cell BK442.out 1).trans rfl; have hcz12_2 : w11.cell? ⟨gb442, 2, none⟩ = some (.string (⟨#[]⟩ : ByteArray)) := (blk_cell BK442.out 2).trans rfl; have hfz12_0 := blk_frozen BK442.out 0; have hfz12_1 := blk_frozen BK442.out 1; have hfz12_2 := blk_frozen BK442.out 2))
    refine bodyPost_ret (results_ct rfl _ _ gb442 23 #[.int .i64 t444, .int .i64 t445, .string t446] (0, 0) _ rfl (by refine blk_put (cs := #[.int .i64 t444, .int .i64 t445, .string (⟨#[]⟩ : ByteArray)]) ?_ 2 _ rfl; refine blk_put (cs := #[.int .i64 t444, .int .i64 0, .string (⟨#[]⟩ : ByteArray)]) ?_ 1 _ rfl; refine blk_put (cs := #[.int .i64 0, .int .i64 0, .string (⟨#[]⟩ : ByteArray)]) ?_ 0 _ rfl; exact BK442.out) Try.underlying23 rfl (by kernel_rfl)) rfl ?_
    exact ⟨by first | rfl | (simp [errW_none, errW_some] <;> rfl) | (simp [*, errW_none, errW_some] <;> rfl), by repeat (first | (with_reducible first | exact HB.out | apply below_alloc | apply pw_below_drewN | apply below_drew1 | refine below_set ?_ GE441.out | refine below_set ?_ GE442.out) | exact HB.out)⟩
  · rw [if_neg c3] at H
    have c3b0 : (a0.toList == ([110, 111, 116] : List UInt8)) = false := beq_eq_false_iff_ne.mpr c3
    have c3b1 : (a0.toList != ([110, 111, 116] : List UInt8)) = true := bne_iff_ne.mpr c3
    have HC13 := Aside0.mk H
    clear H
    go_enter Try.func19, Try.ntmps19
    go_upto_region 3 with (first | ((with_reducible refine gate_dst (N := 3) rfl ?_); refine box_event ?hg (N := 3) ?hd (cs := #[.int .i64 a1_0, .int .i64 a1_1, .string a1_2]) (t := 23) ?hr ?_; (case hd => rfl); (case hg => rfl); (case hr => first | (go_simp; done) | (go_simp; rfl)); intro gb441 hg w14 hbox hb; have n0_ := Aside0.mk (below_step (by repeat (first | (with_reducible first | exact HB.out | apply below_alloc | apply pw_below_drewN | apply below_drew1) | exact HB.out)) hb); have n1_ := Aside0.mk (hbox); have n2_ := Aside0.mk ((by rw [hg]; exact (below_size (by repeat (first | (with_reducible first | exact HB.out | apply below_alloc | apply pw_below_drewN | apply below_drew1) | exact HB.out))) : w.heap.size ≤ gb441)); have n3_ := Aside0.mk ((by rw [hg]; exact (below_size (by repeat (first | (with_reducible first | exact HB.out | apply below_alloc | apply pw_below_drewN | apply below_drew1) | exact HB.out))) : w.heap.size ≤ gb441)); clear HB; have HB := n0_; have BK441 := n1_; have GW441 := n2_; have GE441 := n3_; clear n0_ n1_ n2_ n3_; clear hb hbox hg) | ((with_reducible refine gate_dst (N := 4) rfl ?_); refine box_event ?hg (N := 4) ?hd (cs := #[.int .i64 0, .int .i64 0, .string (⟨#[]⟩ : ByteArray)]) (t := 23) ?hr ?_; (case hd => rfl); (case hg => rfl); (case hr => first | (go_simp; done) | (go_simp; rfl)); intro gb442 hg w15 hbox hb; have n0_ := Aside0.mk (blk_below (g := gb441) (o := .cells #[.int .i64 a1_0, .int .i64 a1_1, .string a1_2] 23 (0, 0)) BK441.out hb); have n1_ := Aside0.mk (below_step (by repeat (first | (with_reducible first | exact HB.out | apply below_alloc | apply pw_below_drewN | apply below_drew1 | refine below_set ?_ GE441.out) | exact HB.out)) hb); have n2_ := Aside0.mk (hbox); have n3_ := Aside0.mk ((by rw [hg]; exact (below_size (by repeat (first | (with_reducible first | exact HB.out | apply below_alloc | apply pw_below_drewN | apply below_drew1 | refine below_set ?_ GE441.out) | exact HB.out))) : w.heap.size ≤ gb442)); have n4_ := Aside0.mk ((by rw [hg]; exact (below_size (by repeat (first | (with_reducible first | exact HB.out | apply below_alloc | apply pw_below_drewN | apply below_drew1 | refine below_set ?_ GE441.out) | exact HB.out))) : w.heap.size ≤ gb442)); have n5_ := Aside0.mk ((by rw [hg]; exact Nat.ne_of_lt (blk_lt (g := gb441) (o := .cells #[.int .i64 a1_0, .int .i64 a1_1, .string a1_2] 23 (0, 0)) BK441.out) : gb441 ≠ gb442)); have n6_ := Aside0.mk ((by rw [hg]; exact Nat.ne_of_gt (blk_lt (g := gb441) (o := .cells #[.int .i64 a1_0, .int .i64 a1_1, .string a1_2] 23 (0, 0)) BK441.out) : gb442 ≠ gb441)); clear BK441; clear HB; have BK441 := n0_; have HB := n1_; have BK442 := n2_; have GW442 := n3_; have GE442 := n4_; have NB441_442 := n5_; have NB442_441 := n6_; clear n0_ n1_ n2_ n3_ n4_ n5_ n6_; clear hb hbox hg))
    (try simp only [Act.put, List.setIfInBounds_toArray, List.set_cons_zero, List.set_cons_succ])
    go_cut [13] (fun v13 wc => ∃ (kq : Nat) (x13_12 : Bool), v13 = .bool x13_12 ∧ Aside0 (chrysalisref17_One.j0 kq a0 x13_12 a1_0 a1_1 a1_2 = some (r1, r2, r3, r4)) ∧ Aside0 (kq ≤ k) ∧ Aside0 (wc.heap[gb441]? = some (.cells #[.int .i64 a1_0, .int .i64 a1_1, .string a1_2] 23 (0, 0))) ∧ Aside0 (wc.heap[gb442]? = some (.cells #[.int .i64 0, .int .i64 0, .string (⟨#[]⟩ : ByteArray)] 23 (0, 0))) ∧ Aside0 (Below w.heap.size w wc))
    case first =>
      have H := HC13.out
      clear HC13
      by_cases c16 : a0.toList = ([45] : List UInt8)
      · rw [if_pos c16] at H
        have c16b0 : (a0.toList == ([45] : List UInt8)) = true := beq_iff_eq.mpr c16
        have c16b1 : (a0.toList != ([45] : List UInt8)) = false := bne_eq_false_iff_eq.mpr c16
        clear c16
        (first | rw [c16b0] | (simp only [i64_w, i32_w]; rw [c16b0]) | skip)
        have H' := Aside0.mk H
        clear H
        have hnb17 := NB441_442.out
        have hnc17 := NB442_441.out
        have hcz18_0 : w15.cell? ⟨gb441, 0, none⟩ = some (.int .i64 a1_0) := (blk_cell BK441.out 0).trans rfl
        have hcz18_1 : w15.cell? ⟨gb441, 1, none⟩ = some (.int .i64 a1_1) := (blk_cell BK441.out 1).trans rfl
        have hcz18_2 : w15.cell? ⟨gb441, 2, none⟩ = some (.string a1_2) := (blk_cell BK441.out 2).trans rfl
        have hfz18_0 := blk_frozen BK441.out 0
        have hfz18_1 := blk_frozen BK441.out 1
        have hfz18_2 := blk_frozen BK441.out 2
        go_wp2
        go_meet
        case rel => exact ⟨_, ((a1_0 == 1)), (by first | rfl | (simp; done) | (simp [*]; done)), H', ⟨by first | omega | exact Nat.le_refl _⟩, ⟨by exact BK441.out⟩, ⟨by exact BK442.out⟩, ⟨by repeat (first | (with_reducible first | exact HB.out | apply below_alloc | apply pw_below_drewN | apply below_drew1 | refine below_set ?_ GE441.out | refine below_set ?_ GE442.out) | exact HB.out)⟩⟩
      · rw [if_neg c16] at H
        have c16b0 : (a0.toList == ([45] : List UInt8)) = false := beq_eq_false_iff_ne.mpr c16
        have c16b1 : (a0.toList != ([45] : List UInt8)) = true := bne_iff_ne.mpr c16
        (first | rw [c16b0] | (simp only [i64_w, i32_w]; rw [c16b0]) | skip)
        have H' := Aside0.mk H
        clear H
        go_wp2
        go_meet
        case rel => exact ⟨_, (false), (by first | rfl | (simp; done) | (simp [*]; done)), H', ⟨by first | omega | exact Nat.le_refl _⟩, ⟨by exact BK441.out⟩, ⟨by exact BK442.out⟩, ⟨by repeat (first | (with_reducible first | exact HB.out | apply below_alloc | apply pw_below_drewN | apply below_drew1 | refine below_set ?_ GE441.out | refine below_set ?_ GE442.out) | exact HB.out)⟩⟩
    case rest =>
      clear HC13
      try clear c1
      try clear c2
      try clear p2
      try clear c3
      try clear c3b0
      try clear c3b1
      try clear c8
      try clear c16
      try clear c16b0
      try clear c16b1
      try clear c17
      try clear hcz12_0
      try clear hcz12_1
      try clear hcz12_2
      try clear hcz18_0
      try clear hcz18_1
      try clear hcz18_2
      try clear hcz9_0
      try clear hcz9_1
      try clear hcz9_2
      try clear hfz12_0
      try clear hfz12_1
      try clear hfz12_2
      try clear hfz18_0
      try clear hfz18_1
      try clear hfz18_2
      try clear hfz9_0
      try clear hfz9_1
      try clear hfz9_2
      obtain ⟨kq, x13_12, rfl, HA, HJ12, BK441, BK442, HB⟩ := hcut
      cases kq with
      | zero => exact absurd HA.out (by simp [chrysalisref17_One.j0])
      | succ kj12 =>
        have H := HA.out
        clear HA
        simp only [chrysalisref17_One.j0] at H
        by_cases c19 : x13_12 = true
        · subst c19
          have H1 : ((chrysalisref17_Int.f (wrap64 (-a1_1))).bind fun bt447 => (some (bt447.1, bt447.2.1, bt447.2.2, 0))) = some (r1, r2, r3, r4) := by rw [if_pos rfl] at H; exact H
          clear H
          have H := H1
          clear H1
          replace H := Option.bind_eq_some_iff.mp H
          obtain ⟨⟨t447, t448, t449⟩, A200, H⟩ := H
          replace H : (some (t447, t448, t449, 0)) = some (r1, r2, r3, r4) := H
          have A20 := Aside0.mk A200
          clear A200
          simp only [Option.some.injEq, Prod.mk.injEq] at H
          obtain ⟨rfl, rfl, rfl, rfl⟩ := H
          have hnb21 := NB441_442.out
          have hnc21 := NB442_441.out
          have hcz22_0 : wc.cell? ⟨gb441, 0, none⟩ = some (.int .i64 a1_0) := (blk_cell BK441.out 0).trans rfl
          have hcz22_1 : wc.cell? ⟨gb441, 1, none⟩ = some (.int .i64 a1_1) := (blk_cell BK441.out 1).trans rfl
          have hcz22_2 : wc.cell? ⟨gb441, 2, none⟩ = some (.string a1_2) := (blk_cell BK441.out 2).trans rfl
          have hfz22_0 := blk_frozen BK441.out 0
          have hfz22_1 := blk_frozen BK441.out 1
          have hfz22_2 := blk_frozen BK441.out 2
          go_wp2_with (first | ((with_reducible refine gate_callee (f := 9) rfl ?_); refine goesL_ (some 24) rfl rfl Try.func9 (by kernel_rfl) rfl #[.int .i64 (wrap64 (-a1_1))] rfl (by (try simp only [List.map_toArray, List.map_cons, List.map_nil]); first | done | rfl | (simp only [List.length_drop, List.length_take]; rfl)) ?_; (with_reducible refine (chrysalisref17_Int.calls (wrap64 (-a1_1)) t447 t448 t449 _ A20.out).mono ?_); rintro e w23 ⟨rfl, hb⟩; refine ⟨_, rfl, ?_⟩; have n0_ := Aside0.mk (blk_below (g := gb441) (o := .cells #[.int .i64 a1_0, .int .i64 a1_1, .string a1_2] 23 (0, 0)) BK441.out hb); have n1_ := Aside0.mk (blk_below (g := gb442) (o := .cells #[.int .i64 0, .int .i64 0, .string (⟨#[]⟩ : ByteArray)] 23 (0, 0)) BK442.out hb); have n2_ := Aside0.mk (below_step (by repeat (first | (with_reducible first | exact HB.out | apply below_alloc | apply pw_below_drewN | apply below_drew1 | refine below_set ?_ GE441.out | refine below_set ?_ GE442.out) | exact HB.out)) hb); clear BK441; clear BK442; clear HB; have BK441 := n0_; have BK442 := n1_; have HB := n2_; clear n0_ n1_ n2_; (try clear hb); have hcz24_0 : w23.cell? ⟨gb442, 0, none⟩ = some (.int .i64 0) := (blk_cell BK442.out 0).trans rfl; have hcz24_1 : w23.cell? ⟨gb442, 1, none⟩ = some (.int .i64 0) := (blk_cell BK442.out 1).trans rfl; have hcz24_2 : w23.cell? ⟨gb442, 2, none⟩ = some (.string (⟨#[]⟩ : ByteArray)) := (blk_cell BK442.out 2).trans rfl; have hfz24_0 := blk_frozen BK442.out 0; have hfz24_1 := blk_frozen BK442.out 1; have hfz24_2 := blk_frozen BK442.out 2))
          refine bodyPost_ret (results_ct rfl _ _ gb442 23 #[.int .i64 t447, .int .i64 t448, .string t449] (0, 0) _ rfl (by refine blk_put (cs := #[.int .i64 t447, .int .i64 t448, .string (⟨#[]⟩ : ByteArray)]) ?_ 2 _ rfl; refine blk_put (cs := #[.int .i64 t447, .int .i64 0, .string (⟨#[]⟩ : ByteArray)]) ?_ 1 _ rfl; refine blk_put (cs := #[.int .i64 0, .int .i64 0, .string (⟨#[]⟩ : ByteArray)]) ?_ 0 _ rfl; exact BK442.out) Try.underlying23 rfl (by kernel_rfl)) rfl ?_
          exact ⟨by first | rfl | (simp [errW_none, errW_some] <;> rfl) | (simp [*, errW_none, errW_some] <;> rfl), by repeat (first | (with_reducible first | exact HB.out | apply below_alloc | apply pw_below_drewN | apply below_drew1 | refine below_set ?_ GE441.out | refine below_set ?_ GE442.out) | exact HB.out)⟩
        · replace c19 := Bool.eq_false_iff.mpr c19
          subst c19
          rw [if_neg (show ¬ (false = true) by decide)] at H
          have H1 := H
          clear H
          have H := H1
          clear H1
          have HC25 := Aside0.mk H
          clear H
          go_upto_region 5 with (fail)
          go_cut [25] (fun v25 wc => ∃ (kq : Nat) (x25_24 : Bool), v25 = .bool x25_24 ∧ Aside0 (chrysalisref17_One.j1 kq a0 x25_24 a1_0 a1_1 a1_2 = some (r1, r2, r3, r4)) ∧ Aside0 (kq ≤ kj12) ∧ Aside0 (wc.heap[gb441]? = some (.cells #[.int .i64 a1_0, .int .i64 a1_1, .string a1_2] 23 (0, 0))) ∧ Aside0 (wc.heap[gb442]? = some (.cells #[.int .i64 0, .int .i64 0, .string (⟨#[]⟩ : ByteArray)] 23 (0, 0))) ∧ Aside0 (Below w.heap.size w wc))
          case first =>
            have H := HC25.out
            clear HC25
            by_cases c26 : a0.toList = ([108, 101, 110] : List UInt8)
            · rw [if_pos c26] at H
              have c26b0 : (a0.toList == ([108, 101, 110] : List UInt8)) = true := beq_iff_eq.mpr c26
              have c26b1 : (a0.toList != ([108, 101, 110] : List UInt8)) = false := bne_eq_false_iff_eq.mpr c26
              clear c26
              (first | rw [c26b0] | (simp only [i64_w, i32_w]; rw [c26b0]) | skip)
              have H' := Aside0.mk H
              clear H
              have hnb27 := NB441_442.out
              have hnc27 := NB442_441.out
              have hcz28_0 : wc.cell? ⟨gb441, 0, none⟩ = some (.int .i64 a1_0) := (blk_cell BK441.out 0).trans rfl
              have hcz28_1 : wc.cell? ⟨gb441, 1, none⟩ = some (.int .i64 a1_1) := (blk_cell BK441.out 1).trans rfl
              have hcz28_2 : wc.cell? ⟨gb441, 2, none⟩ = some (.string a1_2) := (blk_cell BK441.out 2).trans rfl
              have hfz28_0 := blk_frozen BK441.out 0
              have hfz28_1 := blk_frozen BK441.out 1
              have hfz28_2 := blk_frozen BK441.out 2
              go_wp2
              go_meet
              case rel => exact ⟨_, ((a1_0 == 2)), (by first | rfl | (simp; done) | (simp [*]; done)), H', ⟨by have := HJ12.out; first | omega | exact Nat.le_refl _⟩, ⟨by exact BK441.out⟩, ⟨by exact BK442.out⟩, ⟨by repeat (first | (with_reducible first | exact HB.out | apply below_alloc | apply pw_below_drewN | apply below_drew1 | refine below_set ?_ GE441.out | refine below_set ?_ GE442.out) | exact HB.out)⟩⟩
            · rw [if_neg c26] at H
              have c26b0 : (a0.toList == ([108, 101, 110] : List UInt8)) = false := beq_eq_false_iff_ne.mpr c26
              have c26b1 : (a0.toList != ([108, 101, 110] : List UInt8)) = true := bne_iff_ne.mpr c26
              (first | rw [c26b0] | (simp only [i64_w, i32_w]; rw [c26b0]) | skip)
              have H' := Aside0.mk H
              clear H
              go_wp2
              go_meet
              case rel => exact ⟨_, (false), (by first | rfl | (simp; done) | (simp [*]; done)), H', ⟨by have := HJ12.out; first | omega | exact Nat.le_refl _⟩, ⟨by exact BK441.out⟩, ⟨by exact BK442.out⟩, ⟨by repeat (first | (with_reducible first | exact HB.out | apply below_alloc | apply pw_below_drewN | apply below_drew1 | refine below_set ?_ GE441.out | refine below_set ?_ GE442.out) | exact HB.out)⟩⟩
          case rest =>
            clear HC25
            try clear c1
            try clear c2
            try clear p2
            try clear c3
            try clear c3b0
            try clear c3b1
            try clear p6
            try clear c8
            try clear c9
            try clear c16
            try clear c16b0
            try clear c16b1
            try clear c17
            try clear c19
            try clear c21
            try clear c26
            try clear c26b0
            try clear c26b1
            try clear c27
            try clear hcz12_0
            try clear hcz12_1
            try clear hcz12_2
            try clear hcz18_0
            try clear hcz18_1
            try clear hcz18_2
            try clear hcz22_0
            try clear hcz22_1
            try clear hcz22_2
            try clear hcz24_0
            try clear hcz24_1
            try clear hcz24_2
            try clear hcz28_0
            try clear hcz28_1
            try clear hcz28_2
            try clear hcz9_0
            try clear hcz9_1
            try clear hcz9_2
            try clear hfz12_0
            try clear hfz12_1
            try clear hfz12_2
            try clear hfz18_0
            try clear hfz18_1
            try clear hfz18_2
            try clear hfz22_0
            try clear hfz22_1
            try clear hfz22_2
            try clear hfz24_0
            try clear hfz24_1
            try clear hfz24_2
            try clear hfz28_0
            try clear hfz28_1
            try clear hfz28_2
            try clear hfz9_0
            try clear hfz9_1
            try clear hfz9_2
            try clear p2
            obtain ⟨kq, x25_24, rfl, HA, HJ24, BK441, BK442, HB⟩ := hcut
            cases kq with
            | zero => exact absurd HA.out (by simp [chrysalisref17_One.j1])
            | succ kj24 =>
              have H := HA.out
              clear HA
              simp only [chrysalisref17_One.j1] at H
              by_cases c29 : x25_24 = true
              · subst c29
                have H1 : ((chrysalisref17_Int.f (a1_2.size : Int)).bind fun bt450 => (some (bt450.1, bt450.2.1, bt450.2.2, 0))) = some (r1, r2, r3, r4) := by rw [if_pos rfl] at H; exact H
                clear H
                have H := H1
                clear H1
                replace H := Option.bind_eq_some_iff.mp H
                obtain ⟨⟨t450, t451, t452⟩, A300, H⟩ := H
                replace H : (some (t450, t451, t452, 0)) = some (r1, r2, r3, r4) := H
                have A30 := Aside0.mk A300
                clear A300
                simp only [Option.some.injEq, Prod.mk.injEq] at H
                obtain ⟨rfl, rfl, rfl, rfl⟩ := H
                have hnb31 := NB441_442.out
                have hnc31 := NB442_441.out
                have hcz32_0 : wc.cell? ⟨gb441, 0, none⟩ = some (.int .i64 a1_0) := (blk_cell BK441.out 0).trans rfl
                have hcz32_1 : wc.cell? ⟨gb441, 1, none⟩ = some (.int .i64 a1_1) := (blk_cell BK441.out 1).trans rfl
                have hcz32_2 : wc.cell? ⟨gb441, 2, none⟩ = some (.string a1_2) := (blk_cell BK441.out 2).trans rfl
                have hfz32_0 := blk_frozen BK441.out 0
                have hfz32_1 := blk_frozen BK441.out 1
                have hfz32_2 := blk_frozen BK441.out 2
                go_wp2_with (first | ((with_reducible refine gate_callee (f := 9) rfl ?_); refine goesL_ (some 36) rfl rfl Try.func9 (by kernel_rfl) rfl #[.int .i64 (a1_2.size : Int)] rfl (by (try simp only [List.map_toArray, List.map_cons, List.map_nil]); first | done | rfl | (simp only [List.length_drop, List.length_take]; rfl)) ?_; (with_reducible refine (chrysalisref17_Int.calls (a1_2.size : Int) t450 t451 t452 _ A30.out).mono ?_); rintro e w33 ⟨rfl, hb⟩; refine ⟨_, rfl, ?_⟩; have n0_ := Aside0.mk (blk_below (g := gb441) (o := .cells #[.int .i64 a1_0, .int .i64 a1_1, .string a1_2] 23 (0, 0)) BK441.out hb); have n1_ := Aside0.mk (blk_below (g := gb442) (o := .cells #[.int .i64 0, .int .i64 0, .string (⟨#[]⟩ : ByteArray)] 23 (0, 0)) BK442.out hb); have n2_ := Aside0.mk (below_step (by repeat (first | (with_reducible first | exact HB.out | apply below_alloc | apply pw_below_drewN | apply below_drew1 | refine below_set ?_ GE441.out | refine below_set ?_ GE442.out) | exact HB.out)) hb); clear BK441; clear BK442; clear HB; have BK441 := n0_; have BK442 := n1_; have HB := n2_; clear n0_ n1_ n2_; (try clear hb); have hcz34_0 : w33.cell? ⟨gb442, 0, none⟩ = some (.int .i64 0) := (blk_cell BK442.out 0).trans rfl; have hcz34_1 : w33.cell? ⟨gb442, 1, none⟩ = some (.int .i64 0) := (blk_cell BK442.out 1).trans rfl; have hcz34_2 : w33.cell? ⟨gb442, 2, none⟩ = some (.string (⟨#[]⟩ : ByteArray)) := (blk_cell BK442.out 2).trans rfl; have hfz34_0 := blk_frozen BK442.out 0; have hfz34_1 := blk_frozen BK442.out 1; have hfz34_2 := blk_frozen BK442.out 2))
                refine bodyPost_ret (results_ct rfl _ _ gb442 23 #[.int .i64 t450, .int .i64 t451, .string t452] (0, 0) _ rfl (by refine blk_put (cs := #[.int .i64 t450, .int .i64 t451, .string (⟨#[]⟩ : ByteArray)]) ?_ 2 _ rfl; refine blk_put (cs := #[.int .i64 t450, .int .i64 0, .string (⟨#[]⟩ : ByteArray)]) ?_ 1 _ rfl; refine blk_put (cs := #[.int .i64 0, .int .i64 0, .string (⟨#[]⟩ : ByteArray)]) ?_ 0 _ rfl; exact BK442.out) Try.underlying23 rfl (by kernel_rfl)) rfl ?_
                exact ⟨by first | rfl | (simp [errW_none, errW_some] <;> rfl) | (simp [*, errW_none, errW_some] <;> rfl), by repeat (first | (with_reducible first | exact HB.out | apply below_alloc | apply pw_below_drewN | apply below_drew1 | refine below_set ?_ GE441.out | refine below_set ?_ GE442.out) | exact HB.out)⟩
              · replace c29 := Bool.eq_false_iff.mpr c29
                subst c29
                rw [if_neg (show ¬ (false = true) by decide)] at H
                have H1 := H
                clear H
                have H := H1
                clear H1
                by_cases c35 : a0.toList = ([45] : List UInt8)
                · rw [if_pos c35] at H
                  have c35b0 : (a0.toList == ([45] : List UInt8)) = true := beq_iff_eq.mpr c35
                  have c35b1 : (a0.toList != ([45] : List UInt8)) = false := bne_eq_false_iff_eq.mpr c35
                  clear c35
                  simp only [Option.some.injEq, Prod.mk.injEq] at H
                  obtain ⟨rfl, rfl, rfl, rfl⟩ := H
                  have hnb36 := NB442_441.out
                  have hnc36 := NB441_442.out
                  have hcz37_0 : wc.cell? ⟨gb442, 0, none⟩ = some (.int .i64 0) := (blk_cell BK442.out 0).trans rfl
                  have hcz37_1 : wc.cell? ⟨gb442, 1, none⟩ = some (.int .i64 0) := (blk_cell BK442.out 1).trans rfl
                  have hcz37_2 : wc.cell? ⟨gb442, 2, none⟩ = some (.string (⟨#[]⟩ : ByteArray)) := (blk_cell BK442.out 2).trans rfl
                  have hfz37_0 := blk_frozen BK442.out 0
                  have hfz37_1 := blk_frozen BK442.out 1
                  have hfz37_2 := blk_frozen BK442.out 2
                  go_wp2
                  refine bodyPost_ret (results_ct rfl _ _ gb442 23 #[.int .i64 0, .int .i64 0, .string (⟨#[]⟩ : ByteArray)] (0, 0) _ rfl (by refine blk_put (cs := #[.int .i64 0, .int .i64 0, .string (⟨#[]⟩ : ByteArray)]) ?_ 2 _ rfl; refine blk_put (cs := #[.int .i64 0, .int .i64 0, .string (⟨#[]⟩ : ByteArray)]) ?_ 1 _ rfl; refine blk_put (cs := #[.int .i64 0, .int .i64 0, .string (⟨#[]⟩ : ByteArray)]) ?_ 0 _ rfl; exact BK442.out) Try.underlying23 rfl (by kernel_rfl)) rfl ?_
                  exact ⟨by first | rfl | (simp [errW_none, errW_some] <;> rfl) | (simp [*, errW_none, errW_some] <;> rfl), by repeat (first | (with_reducible first | exact HB.out | apply below_alloc | apply pw_below_drewN | apply below_drew1 | refine below_set ?_ GE441.out | refine below_set ?_ GE442.out) | exact HB.out)⟩
                · rw [if_neg c35] at H
                  have c35b0 : (a0.toList == ([45] : List UInt8)) = false := beq_eq_false_iff_ne.mpr c35
                  have c35b1 : (a0.toList != ([45] : List UInt8)) = true := bne_iff_ne.mpr c35
                  by_cases c38 : a0.toList = ([108, 101, 110] : List UInt8)
                  · rw [if_pos c38] at H
                    have c38b0 : (a0.toList == ([108, 101, 110] : List UInt8)) = true := beq_iff_eq.mpr c38
                    have c38b1 : (a0.toList != ([108, 101, 110] : List UInt8)) = false := bne_eq_false_iff_eq.mpr c38
                    clear c38
                    simp only [Option.some.injEq, Prod.mk.injEq] at H
                    obtain ⟨rfl, rfl, rfl, rfl⟩ := H
                    have hnb39 := NB442_441.out
                    have hnc39 := NB441_442.out
                    have hcz40_0 : wc.cell? ⟨gb442, 0, none⟩ = some (.int .i64 0) := (blk_cell BK442.out 0).trans rfl
                    have hcz40_1 : wc.cell? ⟨gb442, 1, none⟩ = some (.int .i64 0) := (blk_cell BK442.out 1).trans rfl
                    have hcz40_2 : wc.cell? ⟨gb442, 2, none⟩ = some (.string (⟨#[]⟩ : ByteArray)) := (blk_cell BK442.out 2).trans rfl
                    have hfz40_0 := blk_frozen BK442.out 0
                    have hfz40_1 := blk_frozen BK442.out 1
                    have hfz40_2 := blk_frozen BK442.out 2
                    go_wp2
                    refine bodyPost_ret (results_ct rfl _ _ gb442 23 #[.int .i64 0, .int .i64 0, .string (⟨#[]⟩ : ByteArray)] (0, 0) _ rfl (by refine blk_put (cs := #[.int .i64 0, .int .i64 0, .string (⟨#[]⟩ : ByteArray)]) ?_ 2 _ rfl; refine blk_put (cs := #[.int .i64 0, .int .i64 0, .string (⟨#[]⟩ : ByteArray)]) ?_ 1 _ rfl; refine blk_put (cs := #[.int .i64 0, .int .i64 0, .string (⟨#[]⟩ : ByteArray)]) ?_ 0 _ rfl; exact BK442.out) Try.underlying23 rfl (by kernel_rfl)) rfl ?_
                    exact ⟨by first | rfl | (simp [errW_none, errW_some] <;> rfl) | (simp [*, errW_none, errW_some] <;> rfl), by repeat (first | (with_reducible first | exact HB.out | apply below_alloc | apply pw_below_drewN | apply below_drew1 | refine below_set ?_ GE441.out | refine below_set ?_ GE442.out) | exact HB.out)⟩
                  · rw [if_neg c38] at H
                    have c38b0 : (a0.toList == ([108, 101, 110] : List UInt8)) = false := beq_eq_false_iff_ne.mpr c38
                    have c38b1 : (a0.toList != ([108, 101, 110] : List UInt8)) = true := bne_iff_ne.mpr c38
                    simp only [Option.some.injEq, Prod.mk.injEq] at H
                    obtain ⟨rfl, rfl, rfl, rfl⟩ := H
                    have hnb41 := NB442_441.out
                    have hnc41 := NB441_442.out
                    have hcz42_0 : wc.cell? ⟨gb442, 0, none⟩ = some (.int .i64 0) := (blk_cell BK442.out 0).trans rfl
                    have hcz42_1 : wc.cell? ⟨gb442, 1, none⟩ = some (.int .i64 0) := (blk_cell BK442.out 1).trans rfl
                    have hcz42_2 : wc.cell? ⟨gb442, 2, none⟩ = some (.string (⟨#[]⟩ : ByteArray)) := (blk_cell BK442.out 2).trans rfl
                    have hfz42_0 := blk_frozen BK442.out 0
                    have hfz42_1 := blk_frozen BK442.out 1
                    have hfz42_2 := blk_frozen BK442.out 2
                    go_wp2
                    refine bodyPost_ret (results_ct rfl _ _ gb442 23 #[.int .i64 0, .int .i64 0, .string (⟨#[]⟩ : ByteArray)] (0, 0) _ rfl (by refine blk_put (cs := #[.int .i64 0, .int .i64 0, .string (⟨#[]⟩ : ByteArray)]) ?_ 2 _ rfl; refine blk_put (cs := #[.int .i64 0, .int .i64 0, .string (⟨#[]⟩ : ByteArray)]) ?_ 1 _ rfl; refine blk_put (cs := #[.int .i64 0, .int .i64 0, .string (⟨#[]⟩ : ByteArray)]) ?_ 0 _ rfl; exact BK442.out) Try.underlying23 rfl (by kernel_rfl)) rfl ?_
                    exact ⟨by first | rfl | (simp [errW_none, errW_some] <;> rfl) | (simp [*, errW_none, errW_some] <;> rfl), by repeat (first | (with_reducible first | exact HB.out | apply below_alloc | apply pw_below_drewN | apply below_drew1 | refine below_set ?_ GE441.out | refine below_set ?_ GE442.out) | exact HB.out)⟩

end Go.Proofs.Ytmadbfahdnkecaa.Q
