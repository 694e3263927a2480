/- Functions that the laws reach, as plain Lean functions, each with a proof that the call does what its function says; no condition. -/
import Derived.Test.YtmadbfahdnkecaaQ0
import Derived.Test.YtmadbfahdnkecaaQ4
import Derived.Test.YtmadbfahdnkecaaQ6
import Derived.Test.YtmadbfahdnkecaaQ7
import Derived.Test.YtmadbfahdnkecaaQ8
import Derived.Test.YtmadbfahdnkecaaQ30
namespace Go.Proofs.Ytmadbfahdnkecaa.Q
open Go.RowKit Go.Proofs.YtmadbfahdnkecaaW.PrintWords Go.Proofs.YtmadbfahdnkecaaW.PrintLast Go.Proofs.YtmadbfahdnkecaaW.PrintMore
attribute [local go_sem]  Go.Proofs.Ytmadbfahdnkecaa.as_num_num Go.Proofs.Ytmadbfahdnkecaa.as_text_num Go.Proofs.Ytmadbfahdnkecaa.as_nil_num Go.Proofs.Ytmadbfahdnkecaa.as_text_text Go.Proofs.Ytmadbfahdnkecaa.as_num_text Go.Proofs.Ytmadbfahdnkecaa.as_nil_text Go.Proofs.Ytmadbfahdnkecaa.leq_texts max2_int min2_int max_two min_two max_three min_three max_four min_four   -- for this text's walks alone
set_option linter.unusedVariables false
set_option linter.unusedSimpArgs false

/-! ### chrysalislaw17_OpsTexts: function 8 -/
def chrysalislaw17_OpsTexts.j0 : Nat → ByteArray → ByteArray → Bool → Option (Bool)
  | 0, _, _, _ => none
  | k + 1, x0, x1, x25 => if x25 = true then ((chrysalislaw17_known.f k).bind fun t614 => (some t614)) else ((chrysalisref17_Text.f x0).bind fun bt615 => ((chrysalisref17_Text.f x1).bind fun bt619 => ((ops_Two.f k (⟨#[46, 46]⟩ : ByteArray) bt615.1 bt615.2.1 bt615.2.2 bt619.1 bt619.2.1 bt619.2.2).bind fun bt623 => ((ops_One.f k (⟨#[108, 101, 110]⟩ : ByteArray) bt623.1 bt623.2.1 bt623.2.2.1).bind fun bt628 => ((ops_Two.f k (⟨#[60]⟩ : ByteArray) bt615.1 bt615.2.1 bt615.2.2 bt619.1 bt619.2.1 bt619.2.2).bind fun bt633 => ((ops_Two.f k (⟨#[60, 61]⟩ : ByteArray) bt619.1 bt619.2.1 bt619.2.2 bt615.1 bt615.2.1 bt615.2.2).bind fun bt638 => (if (wrap64 ((x0.size : Int) + (x1.size : Int))) > 1024 then (if bt623.2.2.2 = 3 then ((chrysalislaw17_known.f k).bind fun t643 => (some t643)) else (some false)) else ((ops_Show.f k bt623.1 bt623.2.1 bt623.2.2.1).bind fun t644 => ((lex_Scan.f k t644).bind fun bt645 => (if bt623.2.2.2 = 0 then (if x0.size + x1.size ≤ 9223372036854775807 then (if bt623.2.2.1.toList = (x0 ++ x1).toList then (if bt628.2.2.2 = 0 then (if bt628.2.1 = (wrap64 ((x0.size : Int) + (x1.size : Int))) then (if bt633.2.2.2 = 0 then (if bt638.2.2.2 = 0 then (if (wrap64 (bt633.2.1 + bt638.2.1)) = 1 then ((chrysalislaw17_truth.f (Op.bytesLess x0.toList x1.toList)).bind fun t650 => (if bt633.2.1 = t650 then (if bt645.2.1 = 0 then (if (bt645.1.length : Int) = 1 then (if 0 < (bt645.1.length : Int) then (if ((rd_T48 bt645.1 0).f1).toList = (x0 ++ x1).toList then ((chrysalislaw17_known.f k).bind fun t652 => (some t652)) else (some false)) else (none)) else (some false)) else (some false)) else (some false))) else (some false)) else (some false)) else (some false)) else (some false)) else (some false)) else (some false)) else (none)) else (some false)))))))))))
def chrysalislaw17_OpsTexts.f (k : Nat) (a0 : ByteArray) (a1 : ByteArray) : Option (Bool) := if (a0.size : Int) > 1024 then (chrysalislaw17_OpsTexts.j0 k a0 a1 true) else (chrysalislaw17_OpsTexts.j0 k a0 a1 (decide ((a1.size : Int) > 1024)))
theorem chrysalislaw17_OpsTexts.mono_l : ∀ k, (∀ y0 y1 y2, LeO (chrysalislaw17_OpsTexts.j0 k y0 y1 y2) (chrysalislaw17_OpsTexts.j0 (k + 1) y0 y1 y2))
  | 0 => fun _ _ _ r h => by simp [chrysalislaw17_OpsTexts.j0] at h
  | k + 1 => by
    have ih0 := chrysalislaw17_OpsTexts.mono_l k
    · intro y0 y1 y2
      unfold chrysalislaw17_OpsTexts.j0
      repeat' first
      | (with_reducible exact ih0 _ _ _)
      | (with_reducible exact chrysalislaw17_known.mono _)
      | (with_reducible exact lex_Scan.mono _ _)
      | (with_reducible exact ops_One.mono _ _ _ _ _)
      | (with_reducible exact ops_Show.mono _ _ _ _)
      | (with_reducible exact ops_Two.mono _ _ _ _ _ _ _ _)
      | (with_reducible exact LeO.refl _)
      | (with_reducible exact LeO.none _)
      | (with_reducible refine LeO.ite ?_ ?_)
      | (with_reducible refine LeO.bind ?_ (fun _ => ?_))
      | exact ih0 _ _ _
      | exact chrysalislaw17_known.mono _
      | exact lex_Scan.mono _ _
      | exact ops_One.mono _ _ _ _ _
      | exact ops_Show.mono _ _ _ _
      | exact ops_Two.mono _ _ _ _ _ _ _ _
      | exact LeO.none _
      | refine LeO.ite ?_ ?_
      | refine LeO.bind ?_ (fun _ => ?_)
theorem chrysalislaw17_OpsTexts.mono : ∀ a0 a1 k, LeO (chrysalislaw17_OpsTexts.f k a0 a1) (chrysalislaw17_OpsTexts.f (k + 1) a0 a1) := by
  intro a0 a1 k
  have ih0 := chrysalislaw17_OpsTexts.mono_l k
  unfold chrysalislaw17_OpsTexts.f
  repeat' first
      | (with_reducible exact ih0 _ _ _)
      | (with_reducible exact chrysalislaw17_known.mono _)
      | (with_reducible exact lex_Scan.mono _ _)
      | (with_reducible exact ops_One.mono _ _ _ _ _)
      | (with_reducible exact ops_Show.mono _ _ _ _)
      | (with_reducible exact ops_Two.mono _ _ _ _ _ _ _ _)
      | (with_reducible exact LeO.refl _)
      | (with_reducible exact LeO.none _)
      | (with_reducible refine LeO.ite ?_ ?_)
      | (with_reducible refine LeO.bind ?_ (fun _ => ?_))
      | exact ih0 _ _ _
      | exact chrysalislaw17_known.mono _
      | exact lex_Scan.mono _ _
      | exact ops_One.mono _ _ _ _ _
      | exact ops_Show.mono _ _ _ _
      | exact ops_Two.mono _ _ _ _ _ _ _ _
      | exact LeO.none _
      | refine LeO.ite ?_ ?_
      | refine LeO.bind ?_ (fun _ => ?_)
def chrysalislaw17_OpsTexts.T12 : Bool × List (List Nat × List Nat) := (true, [([], []), ([0], [0]), ([1], [1]), ([2], [2]), ([3, 2], [2, 3]), ([2], [2]), ([2], [2]), ([5, 6, 2], [2, 5, 6]), ([4, 7, 2], [2, 4, 7]), ([2, 8], [2, 8]), ([9, 2], [9]), ([10], [10]), ([11, 10], [10, 11]), ([10, 12], [10, 12]), ([13, 10], [13]), ([14], [14]), ([15, 14], [14, 15]), ([14], [14]), ([17, 14], [14, 17]), ([14], [14]), ([19, 14], [14, 19]), ([18, 20, 14], [14, 18, 20]), ([16, 21, 14], [14, 16, 21]), ([14, 22], [14, 22]), ([23, 14], [23]), ([24], [24]), ([25, 24], [24, 25]), ([24, 26], [24, 26]), ([27, 24], [27]), ([28], [28]), ([29, 28], [28, 29]), ([28, 30], [28, 30]), ([31, 28], [31]), ([32], [32]), ([33, 32], [32, 33]), ([32], [32]), ([35, 32], [32, 35]), ([34, 36, 32], [32, 34, 36]), ([37, 32], [32, 37]), ([32, 38], [32, 38]), ([39, 32], [39]), ([40], [40]), ([41, 40], [40, 41]), ([40], [40]), ([40], [40]), ([43, 44, 40], [40, 43, 44]), ([45, 40, 40], [40, 45]), ([42, 46, 40], [40, 42, 46]), ([40, 47], [40, 47]), ([48, 46], [48]), ([49], [49]), ([50, 49], [49, 50]), ([49, 51], [49, 51]), ([52, 49], [52]), ([53], [53]), ([54, 53], [53, 54]), ([55, 53], [53, 55]), ([53, 56], [53, 56]), ([57, 53], [57]), ([58], [58]), ([59, 58], [58, 59]), ([60, 58], [58, 60]), ([61, 58], [58, 61]), ([58], [58]), ([58], [58]), ([63, 64, 58], [58, 63, 64]), ([62, 65, 58], [58, 62, 65]), ([58, 66], [58, 66]), ([67, 58], [67]), ([68, 68], [68]), ([68, 69], [68, 69]), ([70, 69, 0, 1, 2, 3, 4, 5, 6, 7, 8, 9, 10, 11, 12, 13, 14, 15, 16, 17, 18, 19, 20, 21, 22, 23, 24, 25, 26, 27, 28, 29, 30, 31, 32, 33, 34, 35, 36, 37, 38, 39, 40, 41, 42, 43, 44, 45, 46, 47, 48, 49, 50, 51, 52, 53, 54, 55, 56, 57, 58, 59, 60, 61, 62, 63, 64, 65, 66, 67, 68, 69, 70], [70])])
def chrysalislaw17_OpsTexts.B12 : List Nat := [0, 1, 3, 7, 15, 7, 7, 103, 255, 511, 1023, 2047, 4095, 8191, 16383, 32767, 65535, 32767, 163839, 32767, 557055, 1998847, 4194303, 8388607, 16777215, 33554431, 67108863, 134217727, 268435455, 536870911, 1073741823, 2147483647, 4294967295, 8589934591, 17179869183, 8589934591, 42949672959, 137438953471, 274877906943, 549755813887, 1099511627775, 2199023255551, 4398046511103, 2199023255551, 2199023255551, 28587302322175, 63771674411007, 140737488355327, 281474976710655, 562949953421311, 1125899906842623, 2251799813685247, 4503599627370495, 9007199254740991, 18014398509481983, 36028797018963967, 72057594037927935, 144115188075855871, 288230376151711743, 576460752303423487, 1152921504606846975, 2305843009213693951, 4611686018427387903, 576460752303423487, 576460752303423487, 28246576862867750911, 73786976294838206463, 147573952589676412927, 295147905179352825855, 590295810358705651711, 1180591620717411303423, 2361183241434822606847]
theorem chrysalislaw17_OpsTexts.tab12 : rtab .any (opsOf Try.f8 12) = chrysalislaw17_OpsTexts.T12 := by kernel_rfl
theorem chrysalislaw17_OpsTexts.bits12 : waitsOk chrysalislaw17_OpsTexts.T12.2 chrysalislaw17_OpsTexts.B12 = true := by kernel_rfl
set_option maxHeartbeats 8000000 in
set_option maxRecDepth 100000 in
theorem chrysalislaw17_OpsTexts.calls (k : Nat) (a0 : ByteArray) (a1 : ByteArray) (r : Bool) (w : World) (h : chrysalislaw17_OpsTexts.f k a0 a1 = some r) (hr : r = true) :
    Calls Try.prog 8 #[.string a0, .string a1] w fun e w' => e = .returned (.bool r) ∧ Below w.heap.size w w' := by
  have hu23 := Try.underlying23
  have HB := Aside0.mk (Below.refl w.heap.size w)
  have HR := Aside0.mk hr
  clear hr
  have H : (if (a0.size : Int) > 1024 then (chrysalislaw17_OpsTexts.j0 k a0 a1 true) else (chrysalislaw17_OpsTexts.j0 k a0 a1 (decide ((a1.size : Int) > 1024)))) = some r := h
  clear h
  have HC3 := Aside0.mk H
  clear H
  go_enter Try.func8, Try.ntmps8
  go_upto_region 1 with (fail)
  go_cut [25] (fun v25 wc => ∃ (kq : Nat) (x25_2 : Bool), v25 = .bool x25_2 ∧ Aside0 (chrysalislaw17_OpsTexts.j0 kq a0 a1 x25_2 = some r) ∧ Aside0 (kq ≤ k) ∧ Aside0 (Below w.heap.size w wc))
  case first =>
    have H := HC3.out
    clear HC3
    by_cases c4 : (a0.size : Int) > 1024
    · rw [if_pos c4] at H
      have c4b0 : decide (1024 < (a0.size : Int)) = true := decide_eq_true c4
      have c4b1 : decide (1024 < a0.size) = true := decide_eq_true (by omega)
      clear c4
      (first | rw [c4b0] | (simp only [i64_w, i32_w]; rw [c4b0]) | skip)
      have H' := Aside0.mk H
      clear H
      go_wp2
      go_meet
      case rel => exact ⟨_, (true), (by first | rfl | (simp; done) | (simp [*]; done)), H', ⟨by first | omega | exact Nat.le_refl _⟩, ⟨by repeat (first | (with_reducible first | exact HB.out | apply below_alloc | apply pw_below_drewN | apply below_drew1) | exact HB.out)⟩⟩
    · rw [if_neg c4] at H
      have c4b0 : decide (1024 < (a0.size : Int)) = false := decide_eq_false c4
      have c4b1 : decide (1024 < a0.size) = false := decide_eq_false (by omega)
      clear c4
      (first | rw [c4b0] | (simp only [i64_w, i32_w]; rw [c4b0]) | skip)
      have H' := Aside0.mk H
      clear H
      go_wp2
      go_meet
      case rel => exact ⟨_, (decide ((a1.size : Int) > 1024)), (by first | rfl | (simp; done) | (simp [*]; done)), H', ⟨by first | omega | exact Nat.le_refl _⟩, ⟨by repeat (first | (with_reducible first | exact HB.out | apply below_alloc | apply pw_below_drewN | apply below_drew1) | exact HB.out)⟩⟩
  case rest =>
    clear HC3
    try clear p2
    try clear c4
    try clear c4b0
    try clear c4b1
    obtain ⟨kq, x25_2, rfl, HA, HJ2, HB⟩ := hcut
    cases kq with
    | zero => exact absurd HA.out (by simp [chrysalislaw17_OpsTexts.j0])
    | succ kj2 =>
      have H := HA.out
      clear HA
      simp only [chrysalislaw17_OpsTexts.j0] at H
      by_cases c5 : x25_2 = true
      · subst c5
        have H1 : ((chrysalislaw17_known.f kj2).bind fun t614 => (some t614)) = some r := by rw [if_pos rfl] at H; exact H
        clear H
        have H := H1
        clear H1
        replace H := Option.bind_eq_some_iff.mp H
        obtain ⟨t614, A60, H⟩ := H
        replace H : (some t614) = some r := H
        have A6 := Aside0.mk A60
        clear A60
        obtain rfl := Option.some.inj H
        go_wp2_with (first | ((with_reducible refine gate_callee (f := 11) rfl ?_); refine goesL_ (some 26) rfl rfl Try.func11 (by kernel_rfl) rfl #[] rfl (by (try simp only [List.map_toArray, List.map_cons, List.map_nil]); first | done | rfl | (simp only [List.length_drop, List.length_take]; rfl)) ?_; (with_reducible refine (chrysalislaw17_known.calls kj2  t614 _ A6.out).mono ?_); rintro e w7 ⟨rfl, hb⟩; refine ⟨_, rfl, ?_⟩; have n0_ := Aside0.mk (below_step (by repeat (first | (with_reducible first | exact HB.out | apply below_alloc | apply pw_below_drewN | apply below_drew1) | exact HB.out)) hb); clear HB; have HB := n0_; clear n0_; (try clear hb)))
        go_ret
        exact ⟨by first | rfl | (simp [errW_none, errW_some] <;> rfl) | (simp [*, errW_none, errW_some] <;> rfl), by repeat (first | (with_reducible first | exact HB.out | apply below_alloc | apply pw_below_drewN | apply below_drew1) | exact HB.out)⟩
      · replace c5 := Bool.eq_false_iff.mpr c5
        subst c5
        rw [if_neg (show ¬ (false = true) by decide)] at H
        have H1 := H
        clear H
        have H := H1
        clear H1
        replace H := Option.bind_eq_some_iff.mp H
        obtain ⟨⟨t615, t616, t617⟩, A80, H⟩ := H
        try dsimp only at H
        have A8 := Aside0.mk A80
        clear A80
        replace H := Option.bind_eq_some_iff.mp H
        obtain ⟨⟨t619, t620, t621⟩, A90, H⟩ := H
        try dsimp only at H
        have A9 := Aside0.mk A90
        clear A90
        replace H := Option.bind_eq_some_iff.mp H
        obtain ⟨⟨t623, t624, t625, t626⟩, A100, H⟩ := H
        try dsimp only at H
        have A10 := Aside0.mk A100
        clear A100
        replace H := Option.bind_eq_some_iff.mp H
        obtain ⟨⟨t628, t629, t630, t631⟩, A110, H⟩ := H
        try dsimp only at H
        have A11 := Aside0.mk A110
        clear A110
        replace H := Option.bind_eq_some_iff.mp H
        obtain ⟨⟨t633, t634, t635, t636⟩, A120, H⟩ := H
        try dsimp only at H
        have A12 := Aside0.mk A120
        clear A120
        replace H := Option.bind_eq_some_iff.mp H
        obtain ⟨⟨t638, t639, t640, t641⟩, A130, H⟩ := H
        try dsimp only at H
        have A13 := Aside0.mk A130
        clear A130
        by_cases c14 : (wrap64 ((a0.size : Int) + (a1.size : Int))) > 1024
        · rw [if_pos c14] at H
          have c14b0 : decide (1024 < (wrap64 ((a0.size : Int) + (a1.size : Int)))) = true := decide_eq_true c14
          clear c14
          by_cases c15 : t626 = 3
          · rw [if_pos c15] at H
            have c15b0 : (t626 == 3) = true := beq_iff_eq.mpr c15
            have c15b1 : (t626 != 3) = false := bne_eq_false_iff_eq.mpr c15
            clear c15
            replace H := Option.bind_eq_some_iff.mp H
            obtain ⟨t643, A160, H⟩ := H
            replace H : (some t643) = some r := H
            have A16 := Aside0.mk A160
            clear A160
            obtain rfl := Option.some.inj H
            go_wp2_with (first | ((with_reducible refine gate_callee (f := 12) rfl ?_); refine goesL_ (some 28) rfl rfl Try.func12 (by kernel_rfl) rfl #[.string a0] rfl (by (try simp only [List.map_toArray, List.map_cons, List.map_nil]); first | done | rfl | (simp only [List.length_drop, List.length_take]; rfl)) ?_; (with_reducible refine (chrysalisref17_Text.calls a0 t615 t616 t617 _ A8.out).mono ?_); rintro e w17 ⟨rfl, hb⟩; refine ⟨_, rfl, ?_⟩; have n0_ := Aside0.mk (below_step (by repeat (first | (with_reducible first | exact HB.out | apply below_alloc | apply pw_below_drewN | apply below_drew1) | exact HB.out)) hb); clear HB; have HB := n0_; clear n0_; (try clear hb)) | ((with_reducible refine gate_dst (N := 5) rfl ?_); (try (refine gate_guard (by rfl) ?_; dsimp only)); refine box_event ?hg (N := 5) ?hd (cs := #[.int .i64 0, .int .i64 0, .string (⟨#[]⟩ : ByteArray)]) (t := 23) ?hr ?_; (case hd => rfl); (case hg => rfl); (case hr => first | (go_simp; done) | (go_simp; rfl)); intro gb618 hg w18 hbox hb; have n0_ := Aside0.mk (below_step (by repeat (first | (with_reducible first | exact HB.out | apply below_alloc | apply pw_below_drewN | apply below_drew1) | exact HB.out)) hb); have n1_ := Aside0.mk (hbox); have n2_ := Aside0.mk ((by rw [hg]; exact (below_size (by repeat (first | (with_reducible first | exact HB.out | apply below_alloc | apply pw_below_drewN | apply below_drew1) | exact HB.out))) : w.heap.size ≤ gb618)); have n3_ := Aside0.mk ((by rw [hg]; exact (below_size (by repeat (first | (with_reducible first | exact HB.out | apply below_alloc | apply pw_below_drewN | apply below_drew1) | exact HB.out))) : w.heap.size ≤ gb618)); clear HB; have HB := n0_; have BK618 := n1_; have GW618 := n2_; have GE618 := n3_; clear n0_ n1_ n2_ n3_; clear hb hbox hg; have hcz19_0 : w18.cell? ⟨gb618, 0, none⟩ = some (.int .i64 0) := (blk_cell BK618.out 0).trans rfl; have hcz19_1 : w18.cell? ⟨gb618, 1, none⟩ = some (.int .i64 0) := (blk_cell BK618.out 1).trans rfl; have hcz19_2 : w18.cell? ⟨gb618, 2, none⟩ = some (.string (⟨#[]⟩ : ByteArray)) := (blk_cell BK618.out 2).trans rfl; have hfz19_0 := blk_frozen BK618.out 0; have hfz19_1 := blk_frozen BK618.out 1; have hfz19_2 := blk_frozen BK618.out 2) | ((with_reducible refine gate_callee (f := 12) rfl ?_); refine goesL_ (some 30) rfl rfl Try.func12 (by kernel_rfl) rfl #[.string a1] rfl (by (try simp only [List.map_toArray, List.map_cons, List.map_nil]); first | done | rfl | (simp only [List.length_drop, List.length_take]; rfl)) ?_; (with_reducible refine (chrysalisref17_Text.calls a1 t619 t620 t621 _ A9.out).mono ?_); rintro e w20 ⟨rfl, hb⟩; refine ⟨_, rfl, ?_⟩; have n0_ := Aside0.mk (blk_below (g := gb618) (o := .cells #[.int .i64 t615, .int .i64 t616, .string t617] 23 (0, 0)) (by refine blk_put (cs := #[.int .i64 t615, .int .i64 t616, .string (⟨#[]⟩ : ByteArray)]) ?_ 2 _ rfl; refine blk_put (cs := #[.int .i64 t615, .int .i64 0, .string (⟨#[]⟩ : ByteArray)]) ?_ 1 _ rfl; refine blk_put (cs := #[.int .i64 0, .int .i64 0, .string (⟨#[]⟩ : ByteArray)]) ?_ 0 _ rfl; exact BK618.out) hb); have n1_ := Aside0.mk (below_step (by repeat (first | (with_reducible first | exact HB.out | apply below_alloc | apply pw_below_drewN | apply below_drew1 | refine below_set ?_ GE618.out) | exact HB.out)) hb); clear BK618; clear HB; have BK618 := n0_; have HB := n1_; clear n0_ n1_; (try clear hb)) | ((with_reducible refine gate_dst (N := 6) rfl ?_); (try (refine gate_guard (by rfl) ?_; dsimp only)); refine box_event ?hg (N := 6) ?hd (cs := #[.int .i64 0, .int .i64 0, .string (⟨#[]⟩ : ByteArray)]) (t := 23) ?hr ?_; (case hd => rfl); (case hg => rfl); (case hr => first | (go_simp; done) | (go_simp; rfl)); intro gb622 hg w21 hbox hb; have n0_ := Aside0.mk (blk_below (g := gb618) (o := .cells #[.int .i64 t615, .int .i64 t616, .string t617] 23 (0, 0)) BK618.out hb); have n1_ := Aside0.mk (below_step (by repeat (first | (with_reducible first | exact HB.out | apply below_alloc | apply pw_below_drewN | apply below_drew1 | refine below_set ?_ GE618.out) | exact HB.out)) hb); have n2_ := Aside0.mk (hbox); have n3_ := Aside0.mk ((by rw [hg]; exact (below_size (by repeat (first | (with_reducible first | exact HB.out | apply below_alloc | apply pw_below_drewN | apply below_drew1 | refine below_set ?_ GE618.out) | exact HB.out))) : w.heap.size ≤ gb622)); have n4_ := Aside0.mk ((by rw [hg]; exact (below_size (by repeat (first | (with_reducible first | exact HB.out | apply below_alloc | apply pw_below_drewN | apply below_drew1 | refine below_set ?_ GE618.out) | exact HB.out))) : w.heap.size ≤ gb622)); have n5_ := Aside0.mk ((by rw [hg]; exact Nat.ne_of_lt (blk_lt (g := gb618) (o := .cells #[.int .i64 t615, .int .i64 t616, .string t617] 23 (0, 0)) BK618.out) : gb618 ≠ gb622)); have n6_ := Aside0.mk ((by rw [hg]; exact Nat.ne_of_gt (blk_lt (g := gb618) (o := .cells #[.int .i64 t615, .int .i64 t616, .string t617] 23 (0, 0)) BK618.out) : gb622 ≠ gb618)); clear BK618; clear HB; have BK618 := n0_; have HB := n1_; have BK622 := n2_; have GW622 := n3_; have GE622 := n4_; have NB618_622 := n5_; have NB622_618 := n6_; clear n0_ n1_ n2_ n3_ n4_ n5_ n6_; clear hb hbox hg; have hnb22 := NB622_618.out; have hnc22 := NB618_622.out; have hcz23_0 : w21.cell? ⟨gb622, 0, none⟩ = some (.int .i64 0) := (blk_cell BK622.out 0).trans rfl; have hcz23_1 : w21.cell? ⟨gb622, 1, none⟩ = some (.int .i64 0) := (blk_cell BK622.out 1).trans rfl; have hcz23_2 : w21.cell? ⟨gb622, 2, none⟩ = some (.string (⟨#[]⟩ : ByteArray)) := (blk_cell BK622.out 2).trans rfl; have hfz23_0 := blk_frozen BK622.out 0; have hfz23_1 := blk_frozen BK622.out 1; have hfz23_2 := blk_frozen BK622.out 2; have hcz24_0 : w21.cell? ⟨gb618, 0, none⟩ = some (.int .i64 t615) := (blk_cell BK618.out 0).trans rfl; have hcz24_1 : w21.cell? ⟨gb618, 1, none⟩ = some (.int .i64 t616) := (blk_cell BK618.out 1).trans rfl; have hcz24_2 : w21.cell? ⟨gb618, 2, none⟩ = some (.string t617) := (blk_cell BK618.out 2).trans rfl; have hfz24_0 := blk_frozen BK618.out 0; have hfz24_1 := blk_frozen BK618.out 1; have hfz24_2 := blk_frozen BK618.out 2) | ((with_reducible refine gate_callee (f := 10) rfl ?_); refine goesL_ (some 34) rfl rfl Try.func10 (by kernel_rfl) rfl #[.string (⟨#[46, 46]⟩ : ByteArray), .agg #[.int .i64 t615, .int .i64 t616, .string t617], .agg #[.int .i64 t619, .int .i64 t620, .string t621]] rfl (by (try simp only [List.map_toArray, List.map_cons, List.map_nil]); first | done | rfl | (simp only [List.length_drop, List.length_take]; rfl)) ?_; (with_reducible refine (ops_Two.calls kj2 (⟨#[46, 46]⟩ : ByteArray) t615 t616 t617 t619 t620 t621 t623 t624 t625 t626 _ A10.out).mono ?_); rintro e w25 ⟨rfl, hb⟩; refine ⟨_, rfl, ?_⟩; have n0_ := Aside0.mk (blk_below (g := gb618) (o := .cells #[.int .i64 t615, .int .i64 t616, .string t617] 23 (0, 0)) (by refine blk_far ?_ NB618_622.out _; refine blk_far ?_ NB618_622.out _; refine blk_far ?_ NB618_622.out _; exact BK618.out) hb); have n1_ := Aside0.mk (blk_below (g := gb622) (o := .cells #[.int .i64 t619, .int .i64 t620, .string t621] 23 (0, 0)) (by refine blk_put (cs := #[.int .i64 t619, .int .i64 t620, .string (⟨#[]⟩ : ByteArray)]) ?_ 2 _ rfl; refine blk_put (cs := #[.int .i64 t619, .int .i64 0, .string (⟨#[]⟩ : ByteArray)]) ?_ 1 _ rfl; refine blk_put (cs := #[.int .i64 0, .int .i64 0, .string (⟨#[]⟩ : ByteArray)]) ?_ 0 _ rfl; exact BK622.out) hb); have n2_ := Aside0.mk (below_step (by repeat (first | (with_reducible first | exact HB.out | apply below_alloc | apply pw_below_drewN | apply below_drew1 | refine below_set ?_ GE618.out | refine below_set ?_ GE622.out) | exact HB.out)) hb); clear BK618; clear BK622; clear HB; have BK618 := n0_; have BK622 := n1_; have HB := n2_; clear n0_ n1_ n2_; (try clear hb)) | ((with_reducible refine gate_dst (N := 7) rfl ?_); (try (refine gate_guard (by rfl) ?_; dsimp only)); refine box_event ?hg (N := 7) ?hd (cs := #[.int .i64 0, .int .i64 0, .string (⟨#[]⟩ : ByteArray)]) (t := 23) ?hr ?_; (case hd => rfl); (case hg => rfl); (case hr => first | (go_simp; done) | (go_simp; rfl)); intro gb627 hg w26 hbox hb; have n0_ := Aside0.mk (blk_below (g := gb618) (o := .cells #[.int .i64 t615, .int .i64 t616, .string t617] 23 (0, 0)) BK618.out hb); have n1_ := Aside0.mk (blk_below (g := gb622) (o := .cells #[.int .i64 t619, .int .i64 t620, .string t621] 23 (0, 0)) BK622.out hb); have n2_ := Aside0.mk (below_step (by repeat (first | (with_reducible first | exact HB.out | apply below_alloc | apply pw_below_drewN | apply below_drew1 | refine below_set ?_ GE618.out | refine below_set ?_ GE622.out) | exact HB.out)) hb); have n3_ := Aside0.mk (hbox); have n4_ := Aside0.mk ((by rw [hg]; exact (below_size (by repeat (first | (with_reducible first | exact HB.out | apply below_alloc | apply pw_below_drewN | apply below_drew1 | refine below_set ?_ GE618.out | refine below_set ?_ GE622.out) | exact HB.out))) : w.heap.size ≤ gb627)); have n5_ := Aside0.mk ((by rw [hg]; exact (below_size (by repeat (first | (with_reducible first | exact HB.out | apply below_alloc | apply pw_below_drewN | apply below_drew1 | refine below_set ?_ GE618.out | refine below_set ?_ GE622.out) | exact HB.out))) : w.heap.size ≤ gb627)); have n6_ := Aside0.mk ((by rw [hg]; exact Nat.ne_of_lt (blk_lt (g := gb618) (o := .cells #[.int .i64 t615, .int .i64 t616, .string t617] 23 (0, 0)) BK618.out) : gb618 ≠ gb627)); have n7_ := Aside0.mk ((by rw [hg]; exact Nat.ne_of_gt (blk_lt (g := gb618) (o := .cells #[.int .i64 t615, .int .i64 t616, .string t617] 23 (0, 0)) BK618.out) : gb627 ≠ gb618)); have n8_ := Aside0.mk ((by rw [hg]; exact Nat.ne_of_lt (blk_lt (g := gb622) (o := .cells #[.int .i64 t619, .int .i64 t620, .string t621] 23 (0, 0)) BK622.out) : gb622 ≠ gb627)); have n9_ := Aside0.mk ((by rw [hg]; exact Nat.ne_of_gt (blk_lt (g := gb622) (o := .cells #[.int .i64 t619, .int .i64 t620, .string t621] 23 (0, 0)) BK622.out) : gb627 ≠ gb622)); clear BK618; clear BK622; clear HB; have BK618 := n0_; have BK622 := n1_; have HB := n2_; have BK627 := n3_; have GW627 := n4_; have GE627 := n5_; have NB618_627 := n6_; have NB627_618 := n7_; have NB622_627 := n8_; have NB627_622 := n9_; clear n0_ n1_ n2_ n3_ n4_ n5_ n6_ n7_ n8_ n9_; clear hb hbox hg; have hnb27 := NB627_618.out; have hnc27 := NB618_627.out; have hnb28 := NB627_622.out; have hnc28 := NB622_627.out; have hcz29_0 : w26.cell? ⟨gb627, 0, none⟩ = some (.int .i64 0) := (blk_cell BK627.out 0).trans rfl; have hcz29_1 : w26.cell? ⟨gb627, 1, none⟩ = some (.int .i64 0) := (blk_cell BK627.out 1).trans rfl; have hcz29_2 : w26.cell? ⟨gb627, 2, none⟩ = some (.string (⟨#[]⟩ : ByteArray)) := (blk_cell BK627.out 2).trans rfl; have hfz29_0 := blk_frozen BK627.out 0; have hfz29_1 := blk_frozen BK627.out 1; have hfz29_2 := blk_frozen BK627.out 2) | ((with_reducible refine gate_callee (f := 18) rfl ?_); refine goesL_ (some 39) rfl rfl Try.func18 (by kernel_rfl) rfl #[.string (⟨#[108, 101, 110]⟩ : ByteArray), .agg #[.int .i64 t623, .int .i64 t624, .string t625]] rfl (by (try simp only [List.map_toArray, List.map_cons, List.map_nil]); first | done | rfl | (simp only [List.length_drop, List.length_take]; rfl)) ?_; (with_reducible refine (ops_One.calls kj2 (⟨#[108, 101, 110]⟩ : ByteArray) t623 t624 t625 t628 t629 t630 t631 _ A11.out).mono ?_); rintro e w30 ⟨rfl, hb⟩; refine ⟨_, rfl, ?_⟩; have n0_ := Aside0.mk (blk_below (g := gb618) (o := .cells #[.int .i64 t615, .int .i64 t616, .string t617] 23 (0, 0)) (by refine blk_far ?_ NB618_627.out _; refine blk_far ?_ NB618_627.out _; refine blk_far ?_ NB618_627.out _; exact BK618.out) hb); have n1_ := Aside0.mk (blk_below (g := gb622) (o := .cells #[.int .i64 t619, .int .i64 t620, .string t621] 23 (0, 0)) (by refine blk_far ?_ NB622_627.out _; refine blk_far ?_ NB622_627.out _; refine blk_far ?_ NB622_627.out _; exact BK622.out) hb); have n2_ := Aside0.mk (blk_below (g := gb627) (o := .cells #[.int .i64 t623, .int .i64 t624, .string t625] 23 (0, 0)) (by refine blk_put (cs := #[.int .i64 t623, .int .i64 t624, .string (⟨#[]⟩ : ByteArray)]) ?_ 2 _ rfl; refine blk_put (cs := #[.int .i64 t623, .int .i64 0, .string (⟨#[]⟩ : ByteArray)]) ?_ 1 _ rfl; refine blk_put (cs := #[.int .i64 0, .int .i64 0, .string (⟨#[]⟩ : ByteArray)]) ?_ 0 _ rfl; exact BK627.out) hb); have n3_ := Aside0.mk (below_step (by repeat (first | (with_reducible first | exact HB.out | apply below_alloc | apply pw_below_drewN | apply below_drew1 | refine below_set ?_ GE618.out | refine below_set ?_ GE622.out | refine below_set ?_ GE627.out) | exact HB.out)) hb); clear BK618; clear BK622; clear BK627; clear HB; have BK618 := n0_; have BK622 := n1_; have BK627 := n2_; have HB := n3_; clear n0_ n1_ n2_ n3_; (try clear hb)) | ((with_reducible refine gate_dst (N := 9) rfl ?_); (try (refine gate_guard (by rfl) ?_; dsimp only)); refine box_event ?hg (N := 9) ?hd (cs := #[.int .i64 0, .int .i64 0, .string (⟨#[]⟩ : ByteArray)]) (t := 23) ?hr ?_; (case hd => rfl); (case hg => rfl); (case hr => first | (go_simp; done) | (go_simp; rfl)); intro gb632 hg w31 hbox hb; have n0_ := Aside0.mk (blk_below (g := gb618) (o := .cells #[.int .i64 t615, .int .i64 t616, .string t617] 23 (0, 0)) BK618.out hb); have n1_ := Aside0.mk (blk_below (g := gb622) (o := .cells #[.int .i64 t619, .int .i64 t620, .string t621] 23 (0, 0)) BK622.out hb); have n2_ := Aside0.mk (blk_below (g := gb627) (o := .cells #[.int .i64 t623, .int .i64 t624, .string t625] 23 (0, 0)) BK627.out hb); have n3_ := Aside0.mk (below_step (by repeat (first | (with_reducible first | exact HB.out | apply below_alloc | apply pw_below_drewN | apply below_drew1 | refine below_set ?_ GE618.out | refine below_set ?_ GE622.out | refine below_set ?_ GE627.out) | exact HB.out)) hb); have n4_ := Aside0.mk (hbox); have n5_ := Aside0.mk ((by rw [hg]; exact (below_size (by repeat (first | (with_reducible first | exact HB.out | apply below_alloc | apply pw_below_drewN | apply below_drew1 | refine below_set ?_ GE618.out | refine below_set ?_ GE622.out | refine below_set ?_ GE627.out) | exact HB.out))) : w.heap.size ≤ gb632)); have n6_ := Aside0.mk ((by rw [hg]; exact (below_size (by repeat (first | (with_reducible first | exact HB.out | apply below_alloc | apply pw_below_drewN | apply below_drew1 | refine below_set ?_ GE618.out | refine below_set ?_ GE622.out | refine below_set ?_ GE627.out) | exact HB.out))) : w.heap.size ≤ gb632)); have n7_ := Aside0.mk ((by rw [hg]; exact Nat.ne_of_lt (blk_lt (g := gb618) (o := .cells #[.int .i64 t615, .int .i64 t616, .string t617] 23 (0, 0)) BK618.out) : gb618 ≠ gb632)); have n8_ := Aside0.mk ((by rw [hg]; exact Nat.ne_of_gt (blk_lt (g := gb618) (o := .cells #[.int .i64 t615, .int .i64 t616, .string t617] 23 (0, 0)) BK618.out) : gb632 ≠ gb618)); have n9_ := Aside0.mk ((by rw [hg]; exact Nat.ne_of_lt (blk_lt (g := gb622) (o := .cells #[.int .i64 t619, .int .i64 t620, .string t621] 23 (0, 0)) BK622.out) : gb622 ≠ gb632)); have n10_ := Aside0.mk ((by rw [hg]; exact Nat.ne_of_gt (blk_lt (g := gb622) (o := .cells #[.int .i64 t619, .int .i64 t620, .string t621] 23 (0, 0)) BK622.out) : gb632 ≠ gb622)); have n11_ := Aside0.mk ((by rw [hg]; exact Nat.ne_of_lt (blk_lt (g := gb627) (o := .cells #[.int .i64 t623, .int .i64 t624, .string t625] 23 (0, 0)) BK627.out) : gb627 ≠ gb632)); have n12_ := Aside0.mk ((by rw [hg]; exact Nat.ne_of_gt (blk_lt (g := gb627) (o := .cells #[.int .i64 t623, .int .i64 t624, .string t625] 23 (0, 0)) BK627.out) : gb632 ≠ gb627)); clear BK618; clear BK622; clear BK627; clear HB; have BK618 := n0_; have BK622 := n1_; have BK627 := n2_; have HB := n3_; have BK632 := n4_; have GW632 := n5_; have GE632 := n6_; have NB618_632 := n7_; have NB632_618 := n8_; have NB622_632 := n9_; have NB632_622 := n10_; have NB627_632 := n11_; have NB632_627 := n12_; clear n0_ n1_ n2_ n3_ n4_ n5_ n6_ n7_ n8_ n9_ n10_ n11_ n12_; clear hb hbox hg; have hnb32 := NB632_618.out; have hnc32 := NB618_632.out; have hnb33 := NB632_622.out; have hnc33 := NB622_632.out; have hnb34 := NB632_627.out; have hnc34 := NB627_632.out; have hcz35_0 : w31.cell? ⟨gb632, 0, none⟩ = some (.int .i64 0) := (blk_cell BK632.out 0).trans rfl; have hcz35_1 : w31.cell? ⟨gb632, 1, none⟩ = some (.int .i64 0) := (blk_cell BK632.out 1).trans rfl; have hcz35_2 : w31.cell? ⟨gb632, 2, none⟩ = some (.string (⟨#[]⟩ : ByteArray)) := (blk_cell BK632.out 2).trans rfl; have hfz35_0 := blk_frozen BK632.out 0; have hfz35_1 := blk_frozen BK632.out 1; have hfz35_2 := blk_frozen BK632.out 2; have hcz36_0 : w31.cell? ⟨gb618, 0, none⟩ = some (.int .i64 t615) := (blk_cell BK618.out 0).trans rfl; have hcz36_1 : w31.cell? ⟨gb618, 1, none⟩ = some (.int .i64 t616) := (blk_cell BK618.out 1).trans rfl; have hcz36_2 : w31.cell? ⟨gb618, 2, none⟩ = some (.string t617) := (blk_cell BK618.out 2).trans rfl; have hfz36_0 := blk_frozen BK618.out 0; have hfz36_1 := blk_frozen BK618.out 1; have hfz36_2 := blk_frozen BK618.out 2; have hcz37_0 : w31.cell? ⟨gb622, 0, none⟩ = some (.int .i64 t619) := (blk_cell BK622.out 0).trans rfl; have hcz37_1 : w31.cell? ⟨gb622, 1, none⟩ = some (.int .i64 t620) := (blk_cell BK622.out 1).trans rfl; have hcz37_2 : w31.cell? ⟨gb622, 2, none⟩ = some (.string t621) := (blk_cell BK622.out 2).trans rfl; have hfz37_0 := blk_frozen BK622.out 0; have hfz37_1 := blk_frozen BK622.out 1; have hfz37_2 := blk_frozen BK622.out 2) | ((with_reducible refine gate_callee (f := 10) rfl ?_); refine goesL_ (some 45) rfl rfl Try.func10 (by kernel_rfl) rfl #[.string (⟨#[60]⟩ : ByteArray), .agg #[.int .i64 t615, .int .i64 t616, .string t617], .agg #[.int .i64 t619, .int .i64 t620, .string t621]] rfl (by (try simp only [List.map_toArray, List.map_cons, List.map_nil]); first | done | rfl | (simp only [List.length_drop, List.length_take]; rfl)) ?_; (with_reducible refine (ops_Two.calls kj2 (⟨#[60]⟩ : ByteArray) t615 t616 t617 t619 t620 t621 t633 t634 t635 t636 _ A12.out).mono ?_); rintro e w38 ⟨rfl, hb⟩; refine ⟨_, rfl, ?_⟩; have n0_ := Aside0.mk (blk_below (g := gb618) (o := .cells #[.int .i64 t615, .int .i64 t616, .string t617] 23 (0, 0)) (by refine blk_far ?_ NB618_632.out _; refine blk_far ?_ NB618_632.out _; refine blk_far ?_ NB618_632.out _; exact BK618.out) hb); have n1_ := Aside0.mk (blk_below (g := gb622) (o := .cells #[.int .i64 t619, .int .i64 t620, .string t621] 23 (0, 0)) (by refine blk_far ?_ NB622_632.out _; refine blk_far ?_ NB622_632.out _; refine blk_far ?_ NB622_632.out _; exact BK622.out) hb); have n2_ := Aside0.mk (blk_below (g := gb627) (o := .cells #[.int .i64 t623, .int .i64 t624, .string t625] 23 (0, 0)) (by refine blk_far ?_ NB627_632.out _; refine blk_far ?_ NB627_632.out _; refine blk_far ?_ NB627_632.out _; exact BK627.out) hb); have n3_ := Aside0.mk (blk_below (g := gb632) (o := .cells #[.int .i64 t628, .int .i64 t629, .string t630] 23 (0, 0)) (by refine blk_put (cs := #[.int .i64 t628, .int .i64 t629, .string (⟨#[]⟩ : ByteArray)]) ?_ 2 _ rfl; refine blk_put (cs := #[.int .i64 t628, .int .i64 0, .string (⟨#[]⟩ : ByteArray)]) ?_ 1 _ rfl; refine blk_put (cs := #[.int .i64 0, .int .i64 0, .string (⟨#[]⟩ : ByteArray)]) ?_ 0 _ rfl; exact BK632.out) hb); have n4_ := Aside0.mk (below_step (by repeat (first | (with_reducible first | exact HB.out | apply below_alloc | apply pw_below_drewN | apply below_drew1 | refine below_set ?_ GE618.out | refine below_set ?_ GE622.out | refine below_set ?_ GE627.out | refine below_set ?_ GE632.out) | exact HB.out)) hb); clear BK618; clear BK622; clear BK627; clear BK632; clear HB; have BK618 := n0_; have BK622 := n1_; have BK627 := n2_; have BK632 := n3_; have HB := n4_; clear n0_ n1_ n2_ n3_ n4_; (try clear hb)) | ((with_reducible refine gate_dst (N := 11) rfl ?_); (try (refine gate_guard (by rfl) ?_; dsimp only)); refine box_event ?hg (N := 11) ?hd (cs := #[.int .i64 0, .int .i64 0, .string (⟨#[]⟩ : ByteArray)]) (t := 23) ?hr ?_; (case hd => rfl); (case hg => rfl); (case hr => first | (go_simp; done) | (go_simp; rfl)); intro gb637 hg w39 hbox hb; have n0_ := Aside0.mk (blk_below (g := gb618) (o := .cells #[.int .i64 t615, .int .i64 t616, .string t617] 23 (0, 0)) BK618.out hb); have n1_ := Aside0.mk (blk_below (g := gb622) (o := .cells #[.int .i64 t619, .int .i64 t620, .string t621] 23 (0, 0)) BK622.out hb); have n2_ := Aside0.mk (blk_below (g := gb627) (o := .cells #[.int .i64 t623, .int .i64 t624, .string t625] 23 (0, 0)) BK627.out hb); have n3_ := Aside0.mk (blk_below (g := gb632) (o := .cells #[.int .i64 t628, .int .i64 t629, .string t630] 23 (0, 0)) BK632.out hb); have n4_ := Aside0.mk (below_step (by repeat (first | (with_reducible first | exact HB.out | apply below_alloc | apply pw_below_drewN | apply below_drew1 | refine below_set ?_ GE618.out | refine below_set ?_ GE622.out | refine below_set ?_ GE627.out | refine below_set ?_ GE632.out) | exact HB.out)) hb); have n5_ := Aside0.mk (hbox); have n6_ := Aside0.mk ((by rw [hg]; exact (below_size (by repeat (first | (with_reducible first | exact HB.out | apply below_alloc | apply pw_below_drewN | apply below_drew1 | refine below_set ?_ GE618.out | refine below_set ?_ GE622.out | refine below_set ?_ GE627.out | refine below_set ?_ GE632.out) | exact HB.out))) : w.heap.size ≤ gb637)); have n7_ := Aside0.mk ((by rw [hg]; exact (below_size (by repeat (first | (with_reducible first | exact HB.out | apply below_alloc | apply pw_below_drewN | apply below_drew1 | refine below_set ?_ GE618.out | refine below_set ?_ GE622.out | refine below_set ?_ GE627.out | refine below_set ?_ GE632.out) | exact HB.out))) : w.heap.size ≤ gb637)); have n8_ := Aside0.mk ((by rw [hg]; exact Nat.ne_of_lt (blk_lt (g := gb618) (o := .cells #[.int .i64 t615, .int .i64 t616, .string t617] 23 (0, 0)) BK618.out) : gb618 ≠ gb637)); have n9_ := Aside0.mk ((by rw [hg]; exact Nat.ne_of_gt (blk_lt (g := gb618) (o := .cells #[.int .i64 t615, .int .i64 t616, .string t617] 23 (0, 0)) BK618.out) : gb637 ≠ gb618)); have n10_ := Aside0.mk ((by rw [hg]; exact Nat.ne_of_lt (blk_lt (g := gb622) (o := .cells #[.int .i64 t619, .int .i64 t620, .string t621] 23 (0, 0)) BK622.out) : gb622 ≠ gb637)); have n11_ := Aside0.mk ((by rw [hg]; exact Nat.ne_of_gt (blk_lt (g := gb622) (o := .cells #[.int .i64 t619, .int .i64 t620, .string t621] 23 (0, 0)) BK622.out) : gb637 ≠ gb622)); have n12_ := Aside0.mk ((by rw [hg]; exact Nat.ne_of_lt (blk_lt (g := gb627) (o := .cells #[.int .i64 t623, .int .i64 t624, .string t625] 23 (0, 0)) BK627.out) : gb627 ≠ gb637)); have n13_ := Aside0.mk ((by rw [hg]; exact Nat.ne_of_gt (blk_lt (g := gb627) (o := .cells #[.int .i64 t623, .int .i64 t624, .string t625] 23 (0, 0)) BK627.out) : gb637 ≠ gb627)); have n14_ := Aside0.mk ((by rw [hg]; exact Nat.ne_of_lt (blk_lt (g := gb632) (o := .cells #[.int .i64 t628, .int .i64 t629, .string t630] 23 (0, 0)) BK632.out) : gb632 ≠ gb637)); have n15_ := Aside0.mk ((by rw [hg]; exact Nat.ne_of_gt (blk_lt (g := gb632) (o := .cells #[.int .i64 t628, .int .i64 t629, .string t630] 23 (0, 0)) BK632.out) : gb637 ≠ gb632)); clear BK618; clear BK622; clear BK627; clear BK632; clear HB; have BK618 := n0_; have BK622 := n1_; have BK627 := n2_; have BK632 := n3_; have HB := n4_; have BK637 := n5_; have GW637 := n6_; have GE637 := n7_; have NB618_637 := n8_; have NB637_618 := n9_; have NB622_637 := n10_; have NB637_622 := n11_; have NB627_637 := n12_; have NB637_627 := n13_; have NB632_637 := n14_; have NB637_632 := n15_; clear n0_ n1_ n2_ n3_ n4_ n5_ n6_ n7_ n8_ n9_ n10_ n11_ n12_ n13_ n14_ n15_; clear hb hbox hg; have hnb40 := NB637_618.out; have hnc40 := NB618_637.out; have hnb41 := NB637_622.out; have hnc41 := NB622_637.out; have hnb42 := NB637_627.out; have hnc42 := NB627_637.out; have hnb43 := NB637_632.out; have hnc43 := NB632_637.out; have hcz44_0 : w39.cell? ⟨gb637, 0, none⟩ = some (.int .i64 0) := (blk_cell BK637.out 0).trans rfl; have hcz44_1 : w39.cell? ⟨gb637, 1, none⟩ = some (.int .i64 0) := (blk_cell BK637.out 1).trans rfl; have hcz44_2 : w39.cell? ⟨gb637, 2, none⟩ = some (.string (⟨#[]⟩ : ByteArray)) := (blk_cell BK637.out 2).trans rfl; have hfz44_0 := blk_frozen BK637.out 0; have hfz44_1 := blk_frozen BK637.out 1; have hfz44_2 := blk_frozen BK637.out 2; have hcz45_0 : w39.cell? ⟨gb622, 0, none⟩ = some (.int .i64 t619) := (blk_cell BK622.out 0).trans rfl; have hcz45_1 : w39.cell? ⟨gb622, 1, none⟩ = some (.int .i64 t620) := (blk_cell BK622.out 1).trans rfl; have hcz45_2 : w39.cell? ⟨gb622, 2, none⟩ = some (.string t621) := (blk_cell BK622.out 2).trans rfl; have hfz45_0 := blk_frozen BK622.out 0; have hfz45_1 := blk_frozen BK622.out 1; have hfz45_2 := blk_frozen BK622.out 2; have hcz46_0 : w39.cell? ⟨gb618, 0, none⟩ = some (.int .i64 t615) := (blk_cell BK618.out 0).trans rfl; have hcz46_1 : w39.cell? ⟨gb618, 1, none⟩ = some (.int .i64 t616) := (blk_cell BK618.out 1).trans rfl; have hcz46_2 : w39.cell? ⟨gb618, 2, none⟩ = some (.string t617) := (blk_cell BK618.out 2).trans rfl; have hfz46_0 := blk_frozen BK618.out 0; have hfz46_1 := blk_frozen BK618.out 1; have hfz46_2 := blk_frozen BK618.out 2) | ((with_reducible refine gate_callee (f := 10) rfl ?_); refine goesL_ (some 51) rfl rfl Try.func10 (by kernel_rfl) rfl #[.string (⟨#[60, 61]⟩ : ByteArray), .agg #[.int .i64 t619, .int .i64 t620, .string t621], .agg #[.int .i64 t615, .int .i64 t616, .string t617]] rfl (by (try simp only [List.map_toArray, List.map_cons, List.map_nil]); first | done | rfl | (simp only [List.length_drop, List.length_take]; rfl)) ?_; (with_reducible refine (ops_Two.calls kj2 (⟨#[60, 61]⟩ : ByteArray) t619 t620 t621 t615 t616 t617 t638 t639 t640 t641 _ A13.out).mono ?_); rintro e w47 ⟨rfl, hb⟩; refine ⟨_, rfl, ?_⟩; have n0_ := Aside0.mk (blk_below (g := gb618) (o := .cells #[.int .i64 t615, .int .i64 t616, .string t617] 23 (0, 0)) (by refine blk_far ?_ NB618_637.out _; refine blk_far ?_ NB618_637.out _; refine blk_far ?_ NB618_637.out _; exact BK618.out) hb); have n1_ := Aside0.mk (blk_below (g := gb622) (o := .cells #[.int .i64 t619, .int .i64 t620, .string t621] 23 (0, 0)) (by refine blk_far ?_ NB622_637.out _; refine blk_far ?_ NB622_637.out _; refine blk_far ?_ NB622_637.out _; exact BK622.out) hb); have n2_ := Aside0.mk (blk_below (g := gb627) (o := .cells #[.int .i64 t623, .int .i64 t624, .string t625] 23 (0, 0)) (by refine blk_far ?_ NB627_637.out _; refine blk_far ?_ NB627_637.out _; refine blk_far ?_ NB627_637.out _; exact BK627.out) hb); have n3_ := Aside0.mk (blk_below (g := gb632) (o := .cells #[.int .i64 t628, .int .i64 t629, .string t630] 23 (0, 0)) (by refine blk_far ?_ NB632_637.out _; refine blk_far ?_ NB632_637.out _; refine blk_far ?_ NB632_637.out _; exact BK632.out) hb); have n4_ := Aside0.mk (blk_below (g := gb637) (o := .cells #[.int .i64 t633, .int .i64 t634, .string t635] 23 (0, 0)) (by refine blk_put (cs := #[.int .i64 t633, .int .i64 t634, .string (⟨#[]⟩ : ByteArray)]) ?_ 2 _ rfl; refine blk_put (cs := #[.int .i64 t633, .int .i64 0, .string (⟨#[]⟩ : ByteArray)]) ?_ 1 _ rfl; refine blk_put (cs := #[.int .i64 0, .int .i64 0, .string (⟨#[]⟩ : ByteArray)]) ?_ 0 _ rfl; exact BK637.out) hb); have n5_ := Aside0.mk (below_step (by repeat (first | (with_reducible first | exact HB.out | apply below_alloc | apply pw_below_drewN | apply below_drew1 | refine below_set ?_ GE618.out | refine below_set ?_ GE622.out | refine below_set ?_ GE627.out | refine below_set ?_ GE632.out | refine below_set ?_ GE637.out) | exact HB.out)) hb); clear BK618; clear BK622; clear BK627; clear BK632; clear BK637; clear HB; have BK618 := n0_; have BK622 := n1_; have BK627 := n2_; have BK632 := n3_; have BK637 := n4_; have HB := n5_; clear n0_ n1_ n2_ n3_ n4_ n5_; (try clear hb)) | ((with_reducible refine gate_dst (N := 13) rfl ?_); (try (refine gate_guard (by rfl) ?_; dsimp only)); refine box_event ?hg (N := 13) ?hd (cs := #[.int .i64 0, .int .i64 0, .string (⟨#[]⟩ : ByteArray)]) (t := 23) ?hr ?_; (case hd => rfl); (case hg => rfl); (case hr => first | (go_simp; done) | (go_simp; rfl)); intro gb642 hg w48 hbox hb; have n0_ := Aside0.mk (blk_below (g := gb618) (o := .cells #[.int .i64 t615, .int .i64 t616, .string t617] 23 (0, 0)) BK618.out hb); have n1_ := Aside0.mk (blk_below (g := gb622) (o := .cells #[.int .i64 t619, .int .i64 t620, .string t621] 23 (0, 0)) BK622.out hb); have n2_ := Aside0.mk (blk_below (g := gb627) (o := .cells #[.int .i64 t623, .int .i64 t624, .string t625] 23 (0, 0)) BK627.out hb); have n3_ := Aside0.mk (blk_below (g := gb632) (o := .cells #[.int .i64 t628, .int .i64 t629, .string t630] 23 (0, 0)) BK632.out hb); have n4_ := Aside0.mk (blk_below (g := gb637) (o := .cells #[.int .i64 t633, .int .i64 t634, .string t635] 23 (0, 0)) BK637.out hb); have n5_ := Aside0.mk (below_step (by repeat (first | (with_reducible first | exact HB.out | apply below_alloc | apply pw_below_drewN | apply below_drew1 | refine below_set ?_ GE618.out | refine below_set ?_ GE622.out | refine below_set ?_ GE627.out | refine below_set ?_ GE632.out | refine below_set ?_ GE637.out) | exact HB.out)) hb); have n6_ := Aside0.mk (hbox); have n7_ := Aside0.mk ((by rw [hg]; exact (below_size (by repeat (first | (with_reducible first | exact HB.out | apply below_alloc | apply pw_below_drewN | apply below_drew1 | refine below_set ?_ GE618.out | refine below_set ?_ GE622.out | refine below_set ?_ GE627.out | refine below_set ?_ GE632.out | refine below_set ?_ GE637.out) | exact HB.out))) : w.heap.size ≤ gb642)); have n8_ := Aside0.mk ((by rw [hg]; exact (below_size (by repeat (first | (with_reducible first | exact HB.out | apply below_alloc | apply pw_below_drewN | apply below_drew1 | refine below_set ?_ GE618.out | refine below_set ?_ GE622.out | refine below_set ?_ GE627.out | refine below_set ?_ GE632.out | refine below_set ?_ GE637.out) | exact HB.out))) : w.heap.size ≤ gb642)); have n9_ := Aside0.mk ((by rw [hg]; exact Nat.ne_of_lt (blk_lt (g := gb618) (o := .cells #[.int .i64 t615, .int .i64 t616, .string t617] 23 (0, 0)) BK618.out) : gb618 ≠ gb642)); have n10_ := Aside0.mk ((by rw [hg]; exact Nat.ne_of_gt (blk_lt (g := gb618) (o := .cells #[.int .i64 t615, .int .i64 t616, .string t617] 23 (0, 0)) BK618.out) : gb642 ≠ gb618)); have n11_ := Aside0.mk ((by rw [hg]; exact Nat.ne_of_lt (blk_lt (g := gb622) (o := .cells #[.int .i64 t619, .int .i64 t620, .string t621] 23 (0, 0)) BK622.out) : gb622 ≠ gb642)); have n12_ := Aside0.mk ((by rw [hg]; exact Nat.ne_of_gt (blk_lt (g := gb622) (o := .cells #[.int .i64 t619, .int .i64 t620, .string t621] 23 (0, 0)) BK622.out) : gb642 ≠ gb622)); have n13_ := Aside0.mk ((by rw [hg]; exact Nat.ne_of_lt (blk_lt (g := gb627) (o := .cells #[.int .i64 t623, .int .i64 t624, .string t625] 23 (0, 0)) BK627.out) : gb627 ≠ gb642)); have n14_ := Aside0.mk ((by rw [hg]; exact Nat.ne_of_gt (blk_lt (g := gb627) (o := .cells #[.int .i64 t623, .int .i64 t624, .string t625] 23 (0, 0)) BK627.out) : gb642 ≠ gb627)); have n15_ := Aside0.mk ((by rw [hg]; exact Nat.ne_of_lt (blk_lt (g := gb632) (o := .cells #[.int .i64 t628, .int .i64 t629, .string t630] 23 (0, 0)) BK632.out) : gb632 ≠ gb642)); have n16_ := Aside0.mk ((by rw [hg]; exact Nat.ne_of_gt (blk_lt (g := gb632) (o := .cells #[.int .i64 t628, .int .i64 t629, .string t630] 23 (0, 0)) BK632.out) : gb642 ≠ gb632)); have n17_ := Aside0.mk ((by rw [hg]; exact Nat.ne_of_lt (blk_lt (g := gb637) (o := .cells #[.int .i64 t633, .int .i64 t634, .string t635] 23 (0, 0)) BK637.out) : gb637 ≠ gb642)); have n18_ := Aside0.mk ((by rw [hg]; exact Nat.ne_of_gt (blk_lt (g := gb637) (o := .cells #[.int .i64 t633, .int .i64 t634, .string t635] 23 (0, 0)) BK637.out) : gb642 ≠ gb637)); clear BK618; clear BK622; clear BK627; clear BK632; clear BK637; clear HB; have BK618 := n0_; have BK622 := n1_; have BK627 := n2_; have BK632 := n3_; have BK637 := n4_; have HB := n5_; have BK642 := n6_; have GW642 := n7_; have GE642 := n8_; have NB618_642 := n9_; have NB642_618 := n10_; have NB622_642 := n11_; have NB642_622 := n12_; have NB627_642 := n13_; have NB642_627 := n14_; have NB632_642 := n15_; have NB642_632 := n16_; have NB637_642 := n17_; have NB642_637 := n18_; clear n0_ n1_ n2_ n3_ n4_ n5_ n6_ n7_ n8_ n9_ n10_ n11_ n12_ n13_ n14_ n15_ n16_ n17_ n18_; clear hb hbox hg; have hnb49 := NB642_618.out; have hnc49 := NB618_642.out; have hnb50 := NB642_622.out; have hnc50 := NB622_642.out; have hnb51 := NB642_627.out; have hnc51 := NB627_642.out; have hnb52 := NB642_632.out; have hnc52 := NB632_642.out; have hnb53 := NB642_637.out; have hnc53 := NB637_642.out; have hcz54_0 : w48.cell? ⟨gb642, 0, none⟩ = some (.int .i64 0) := (blk_cell BK642.out 0).trans rfl; have hcz54_1 : w48.cell? ⟨gb642, 1, none⟩ = some (.int .i64 0) := (blk_cell BK642.out 1).trans rfl; have hcz54_2 : w48.cell? ⟨gb642, 2, none⟩ = some (.string (⟨#[]⟩ : ByteArray)) := (blk_cell BK642.out 2).trans rfl; have hfz54_0 := blk_frozen BK642.out 0; have hfz54_1 := blk_frozen BK642.out 1; have hfz54_2 := blk_frozen BK642.out 2) | (go_at_call 11; (with_reducible refine (chrysalislaw17_known.calls kj2  t643 _ A16.out).mono ?_); rintro e w55 ⟨rfl, hb⟩; have n0_ := Aside0.mk (blk_below (g := gb618) (o := .cells #[.int .i64 t615, .int .i64 t616, .string t617] 23 (0, 0)) (by refine blk_far ?_ NB618_642.out _; refine blk_far ?_ NB618_642.out _; refine blk_far ?_ NB618_642.out _; exact BK618.out) hb); have n1_ := Aside0.mk (blk_below (g := gb622) (o := .cells #[.int .i64 t619, .int .i64 t620, .string t621] 23 (0, 0)) (by refine blk_far ?_ NB622_642.out _; refine blk_far ?_ NB622_642.out _; refine blk_far ?_ NB622_642.out _; exact BK622.out) hb); have n2_ := Aside0.mk (blk_below (g := gb627) (o := .cells #[.int .i64 t623, .int .i64 t624, .string t625] 23 (0, 0)) (by refine blk_far ?_ NB627_642.out _; refine blk_far ?_ NB627_642.out _; refine blk_far ?_ NB627_642.out _; exact BK627.out) hb); have n3_ := Aside0.mk (blk_below (g := gb632) (o := .cells #[.int .i64 t628, .int .i64 t629, .string t630] 23 (0, 0)) (by refine blk_far ?_ NB632_642.out _; refine blk_far ?_ NB632_642.out _; refine blk_far ?_ NB632_642.out _; exact BK632.out) hb); have n4_ := Aside0.mk (blk_below (g := gb637) (o := .cells #[.int .i64 t633, .int .i64 t634, .string t635] 23 (0, 0)) (by refine blk_far ?_ NB637_642.out _; refine blk_far ?_ NB637_642.out _; refine blk_far ?_ NB637_642.out _; exact BK637.out) hb); have n5_ := Aside0.mk (blk_below (g := gb642) (o := .cells #[.int .i64 t638, .int .i64 t639, .string t640] 23 (0, 0)) (by refine blk_put (cs := #[.int .i64 t638, .int .i64 t639, .string (⟨#[]⟩ : ByteArray)]) ?_ 2 _ rfl; refine blk_put (cs := #[.int .i64 t638, .int .i64 0, .string (⟨#[]⟩ : ByteArray)]) ?_ 1 _ rfl; refine blk_put (cs := #[.int .i64 0, .int .i64 0, .string (⟨#[]⟩ : ByteArray)]) ?_ 0 _ rfl; exact BK642.out) hb); have n6_ := Aside0.mk (below_step (by repeat (first | (with_reducible first | exact HB.out | apply below_alloc | apply pw_below_drewN | apply below_drew1 | refine below_set ?_ GE618.out | refine below_set ?_ GE622.out | refine below_set ?_ GE627.out | refine below_set ?_ GE632.out | refine below_set ?_ GE637.out | refine below_set ?_ GE642.out) | exact HB.out)) hb); clear BK618; clear BK622; clear BK627; clear BK632; clear BK637; clear BK642; clear HB; have BK618 := n0_; have BK622 := n1_; have BK627 := n2_; have BK632 := n3_; have BK637 := n4_; have BK642 := n5_; have HB := n6_; clear n0_ n1_ n2_ n3_ n4_ n5_ n6_; (try clear hb)))
            go_ret
            exact ⟨by first | rfl | (simp [errW_none, errW_some] <;> rfl) | (simp [*, errW_none, errW_some] <;> rfl), by repeat (first | (with_reducible first | exact HB.out | apply below_alloc | apply pw_below_drewN | apply below_drew1 | refine below_set ?_ GE618.out | refine below_set ?_ GE622.out | refine below_set ?_ GE627.out | refine below_set ?_ GE632.out | refine below_set ?_ GE637.out | refine below_set ?_ GE642.out) | exact HB.out)⟩
          · rw [if_neg c15] at H
            have c15b0 : (t626 == 3) = false := beq_eq_false_iff_ne.mpr c15
            have c15b1 : (t626 != 3) = true := bne_iff_ne.mpr c15
            exact absurd ((Option.some.inj H).trans HR.out) (by decide)
        · rw [if_neg c14] at H
          have c14b0 : decide (1024 < (wrap64 ((a0.size : Int) + (a1.size : Int)))) = false := decide_eq_false c14
          clear c14
          replace H := Option.bind_eq_some_iff.mp H
          obtain ⟨t644, A940, H⟩ := H
          try dsimp only at H
          have A94 := Aside0.mk A940
          clear A940
          replace H := Option.bind_eq_some_iff.mp H
          obtain ⟨⟨t645, t646, t647⟩, A950, H⟩ := H
          try dsimp only at H
          have A95 := Aside0.mk A950
          clear A950
          by_cases c96 : t626 = 0
          · rw [if_pos c96] at H
            have c96b0 : (t626 == 0) = true := beq_iff_eq.mpr c96
            have c96b1 : (t626 != 0) = false := bne_eq_false_iff_eq.mpr c96
            clear c96
            by_cases c97 : a0.size + a1.size ≤ 9223372036854775807
            · rw [if_pos c97] at H
              have c97b0 := eq_true c97
              have c97b1 : decide (a0.size + a1.size ≤ 9223372036854775807) = true := decide_eq_true c97
              try have c97b2 : (9223372036854775807 < a0.size + a1.size) = False := eq_false (Nat.not_lt.2 c97)
              have cxx : decide (1024 < (a0.size : Int) + (a1.size : Int)) = false := by have e : wrap64 ((a0.size : Int) + (a1.size : Int)) = (a0.size : Int) + (a1.size : Int) := (by unfold wrap64; omega); rw [e] at c14b0; exact c14b0
              have cxy : decide (1024 < a0.size + a1.size) = false := decide_eq_false (by have := of_decide_eq_false cxx; omega)
              by_cases c98 : t625.toList = (a0 ++ a1).toList
              · rw [if_pos c98] at H
                have c98b0 : (t625.toList == (a0 ++ a1).toList) = true := beq_iff_eq.mpr c98
                have c98b1 : (t625.toList != (a0 ++ a1).toList) = false := bne_eq_false_iff_eq.mpr c98
                clear c98
                by_cases c99 : t631 = 0
                · rw [if_pos c99] at H
                  have c99b0 : (t631 == 0) = true := beq_iff_eq.mpr c99
                  have c99b1 : (t631 != 0) = false := bne_eq_false_iff_eq.mpr c99
                  clear c99
                  by_cases c100 : t629 = (wrap64 ((a0.size : Int) + (a1.size : Int)))
                  · rw [if_pos c100] at H
                    have c100b0 : (t629 == (wrap64 ((a0.size : Int) + (a1.size : Int)))) = true := beq_iff_eq.mpr c100
                    have cxz : (t629 == (a0.size : Int) + (a1.size : Int)) = true := by have e : wrap64 ((a0.size : Int) + (a1.size : Int)) = (a0.size : Int) + (a1.size : Int) := (by unfold wrap64; omega); rw [← e]; exact c100b0
                    have cxw : (t629 == ((a0.size + a1.size : Nat) : Int)) = true := by rw [Int.natCast_add]; exact cxz
                    have c100b1 : (t629 != (wrap64 ((a0.size : Int) + (a1.size : Int)))) = false := bne_eq_false_iff_eq.mpr c100
                    clear c100
                    by_cases c101 : t636 = 0
                    · rw [if_pos c101] at H
                      have c101b0 : (t636 == 0) = true := beq_iff_eq.mpr c101
                      have c101b1 : (t636 != 0) = false := bne_eq_false_iff_eq.mpr c101
                      clear c101
                      by_cases c102 : t641 = 0
                      · rw [if_pos c102] at H
                        have c102b0 : (t641 == 0) = true := beq_iff_eq.mpr c102
                        have c102b1 : (t641 != 0) = false := bne_eq_false_iff_eq.mpr c102
                        clear c102
                        by_cases c103 : (wrap64 (t634 + t639)) = 1
                        · rw [if_pos c103] at H
                          have c103b0 : ((wrap64 (t634 + t639)) == 1) = true := beq_iff_eq.mpr c103
                          have c103b1 : ((wrap64 (t634 + t639)) != 1) = false := bne_eq_false_iff_eq.mpr c103
                          clear c103
                          replace H := Option.bind_eq_some_iff.mp H
                          obtain ⟨t650, A1040, H⟩ := H
                          try dsimp only at H
                          have A104 := Aside0.mk A1040
                          clear A1040
                          by_cases c105 : t634 = t650
                          · rw [if_pos c105] at H
                            have c105b0 : (t634 == t650) = true := beq_iff_eq.mpr c105
                            have c105b1 : (t634 != t650) = false := bne_eq_false_iff_eq.mpr c105
                            clear c105
                            by_cases c106 : t646 = 0
                            · rw [if_pos c106] at H
                              have c106b0 : (t646 == 0) = true := beq_iff_eq.mpr c106
                              have c106b1 : (t646 != 0) = false := bne_eq_false_iff_eq.mpr c106
                              clear c106
                              by_cases c107 : (t645.length : Int) = 1
                              · rw [if_pos c107] at H
                                have c107b0 : ((t645.length : Int) == 1) = true := beq_iff_eq.mpr c107
                                have c107b1 : ((t645.length : Int) != 1) = false := bne_eq_false_iff_eq.mpr c107
                                clear c107
                                by_cases c108 : 0 < (t645.length : Int)
                                · rw [if_pos c108] at H
                                  have c108b0 : decide (0 < (t645.length : Int)) = true := decide_eq_true c108
                                  have c108b1 : decide (0 < t645.length) = true := decide_eq_true (by omega)
                                  clear c108
                                  by_cases c109 : ((rd_T48 t645 0).f1).toList = (a0 ++ a1).toList
                                  · rw [if_pos c109] at H
                                    have c109b0 : (((rd_T48 t645 0).f1).toList == (a0 ++ a1).toList) = true := beq_iff_eq.mpr c109
                                    have c109b1 : (((rd_T48 t645 0).f1).toList != (a0 ++ a1).toList) = false := bne_eq_false_iff_eq.mpr c109
                                    clear c109
                                    replace H := Option.bind_eq_some_iff.mp H
                                    obtain ⟨t652, A1100, H⟩ := H
                                    replace H : (some t652) = some r := H
                                    have A110 := Aside0.mk A1100
                                    clear A1100
                                    obtain rfl := Option.some.inj H
                                    try go_wp2_with (first | ((with_reducible refine gate_callee (f := 12) rfl ?_); refine goesL_ (some 28) rfl rfl Try.func12 (by kernel_rfl) rfl #[.string a0] rfl (by (try simp only [List.map_toArray, List.map_cons, List.map_nil]); first | done | rfl | (simp only [List.length_drop, List.length_take]; rfl)) ?_; (with_reducible refine (chrysalisref17_Text.calls a0 t615 t616 t617 _ A8.out).mono ?_); rintro e w111 ⟨rfl, hb⟩; refine ⟨_, rfl, ?_⟩; have n0_ := Aside0.mk (below_step (by repeat (first | (with_reducible first | exact HB.out | apply below_alloc | apply pw_below_drewN | apply below_drew1) | exact HB.out)) hb); clear HB; have HB := n0_; clear n0_; (try clear hb)) | ((with_reducible refine gate_dst (N := 5) rfl ?_); (try (refine gate_guard (by rfl) ?_; dsimp only)); refine box_event ?hg (N := 5) ?hd (cs := #[.int .i64 0, .int .i64 0, .string (⟨#[]⟩ : ByteArray)]) (t := 23) ?hr ?_; (case hd => rfl); (case hg => rfl); (case hr => first | (go_simp; done) | (go_simp; rfl)); intro gb618 hg w112 hbox hb; have n0_ := Aside0.mk (below_step (by repeat (first | (with_reducible first | exact HB.out | apply below_alloc | apply pw_below_drewN | apply below_drew1) | exact HB.out)) hb); have n1_ := Aside0.mk (hbox); have n2_ := Aside0.mk ((by rw [hg]; exact (below_size (by repeat (first | (with_reducible first | exact HB.out | apply below_alloc | apply pw_below_drewN | apply below_drew1) | exact HB.out))) : w.heap.size ≤ gb618)); have n3_ := Aside0.mk ((by rw [hg]; exact (below_size (by repeat (first | (with_reducible first | exact HB.out | apply below_alloc | apply pw_below_drewN | apply below_drew1) | exact HB.out))) : w.heap.size ≤ gb618)); clear HB; have HB := n0_; have BK618 := n1_; have GW618 := n2_; have GE618 := n3_; clear n0_ n1_ n2_ n3_; clear hb hbox hg; have hcz113_0 : w112.cell? ⟨gb618, 0, none⟩ = some (.int .i64 0) := (blk_cell BK618.out 0).trans rfl; have hcz113_1 : w112.cell? ⟨gb618, 1, none⟩ = some (.int .i64 0) := (blk_cell BK618.out 1).trans rfl; have hcz113_2 : w112.cell? ⟨gb618, 2, none⟩ = some (.string (⟨#[]⟩ : ByteArray)) := (blk_cell BK618.out 2).trans rfl; have hfz113_0 := blk_frozen BK618.out 0; have hfz113_1 := blk_frozen BK618.out 1; have hfz113_2 := blk_frozen BK618.out 2) | ((with_reducible refine gate_callee (f := 12) rfl ?_); refine goesL_ (some 30) rfl rfl Try.func12 (by kernel_rfl) rfl #[.string a1] rfl (by (try simp only [List.map_toArray, List.map_cons, List.map_nil]); first | done | rfl | (simp only [List.length_drop, List.length_take]; rfl)) ?_; (with_reducible refine (chrysalisref17_Text.calls a1 t619 t620 t621 _ A9.out).mono ?_); rintro e w114 ⟨rfl, hb⟩; refine ⟨_, rfl, ?_⟩; have n0_ := Aside0.mk (blk_below (g := gb618) (o := .cells #[.int .i64 t615, .int .i64 t616, .string t617] 23 (0, 0)) (by refine blk_put (cs := #[.int .i64 t615, .int .i64 t616, .string (⟨#[]⟩ : ByteArray)]) ?_ 2 _ rfl; refine blk_put (cs := #[.int .i64 t615, .int .i64 0, .string (⟨#[]⟩ : ByteArray)]) ?_ 1 _ rfl; refine blk_put (cs := #[.int .i64 0, .int .i64 0, .string (⟨#[]⟩ : ByteArray)]) ?_ 0 _ rfl; exact BK618.out) hb); have n1_ := Aside0.mk (below_step (by repeat (first | (with_reducible first | exact HB.out | apply below_alloc | apply pw_below_drewN | apply below_drew1 | refine below_set ?_ GE618.out) | exact HB.out)) hb); clear BK618; clear HB; have BK618 := n0_; have HB := n1_; clear n0_ n1_; (try clear hb)) | ((with_reducible refine gate_dst (N := 6) rfl ?_); (try (refine gate_guard (by rfl) ?_; dsimp only)); refine box_event ?hg (N := 6) ?hd (cs := #[.int .i64 0, .int .i64 0, .string (⟨#[]⟩ : ByteArray)]) (t := 23) ?hr ?_; (case hd => rfl); (case hg => rfl); (case hr => first | (go_simp; done) | (go_simp; rfl)); intro gb622 hg w115 hbox hb; have n0_ := Aside0.mk (blk_below (g := gb618) (o := .cells #[.int .i64 t615, .int .i64 t616, .string t617] 23 (0, 0)) BK618.out hb); have n1_ := Aside0.mk (below_step (by repeat (first | (with_reducible first | exact HB.out | apply below_alloc | apply pw_below_drewN | apply below_drew1 | refine below_set ?_ GE618.out) | exact HB.out)) hb); have n2_ := Aside0.mk (hbox); have n3_ := Aside0.mk ((by rw [hg]; exact (below_size (by repeat (first | (with_reducible first | exact HB.out | apply below_alloc | apply pw_below_drewN | apply below_drew1 | refine below_set ?_ GE618.out) | exact HB.out))) : w.heap.size ≤ gb622)); have n4_ := Aside0.mk ((by rw [hg]; exact (below_size (by repeat (first | (with_reducible first | exact HB.out | apply below_alloc | apply pw_below_drewN | apply below_drew1 | refine below_set ?_ GE618.out) | exact HB.out))) : w.heap.size ≤ gb622)); have n5_ := Aside0.mk ((by rw [hg]; exact Nat.ne_of_lt (blk_lt (g := gb618) (o := .cells #[.int .i64 t615, .int .i64 t616, .string t617] 23 (0, 0)) BK618.out) : gb618 ≠ gb622)); have n6_ := Aside0.mk ((by rw [hg]; exact Nat.ne_of_gt (blk_lt (g := gb618) (o := .cells #[.int .i64 t615, .int .i64 t616, .string t617] 23 (0, 0)) BK618.out) : gb622 ≠ gb618)); clear BK618; clear HB; have BK618 := n0_; have HB := n1_; have BK622 := n2_; have GW622 := n3_; have GE622 := n4_; have NB618_622 := n5_; have NB622_618 := n6_; clear n0_ n1_ n2_ n3_ n4_ n5_ n6_; clear hb hbox hg; have hnb116 := NB622_618.out; have hnc116 := NB618_622.out; have hcz117_0 : w115.cell? ⟨gb622, 0, none⟩ = some (.int .i64 0) := (blk_cell BK622.out 0).trans rfl; have hcz117_1 : w115.cell? ⟨gb622, 1, none⟩ = some (.int .i64 0) := (blk_cell BK622.out 1).trans rfl; have hcz117_2 : w115.cell? ⟨gb622, 2, none⟩ = some (.string (⟨#[]⟩ : ByteArray)) := (blk_cell BK622.out 2).trans rfl; have hfz117_0 := blk_frozen BK622.out 0; have hfz117_1 := blk_frozen BK622.out 1; have hfz117_2 := blk_frozen BK622.out 2; have hcz118_0 : w115.cell? ⟨gb618, 0, none⟩ = some (.int .i64 t615) := (blk_cell BK618.out 0).trans rfl; have hcz118_1 : w115.cell? ⟨gb618, 1, none⟩ = some (.int .i64 t616) := (blk_cell BK618.out 1).trans rfl; have hcz118_2 : w115.cell? ⟨gb618, 2, none⟩ = some (.string t617) := (blk_cell BK618.out 2).trans rfl; have hfz118_0 := blk_frozen BK618.out 0; have hfz118_1 := blk_frozen BK618.out 1; have hfz118_2 := blk_frozen BK618.out 2) | ((with_reducible refine gate_callee (f := 10) rfl ?_); refine goesL_ (some 34) rfl rfl Try.func10 (by kernel_rfl) rfl #[.string (⟨#[46, 46]⟩ : ByteArray), .agg #[.int .i64 t615, .int .i64 t616, .string t617], .agg #[.int .i64 t619, .int .i64 t620, .string t621]] rfl (by (try simp only [List.map_toArray, List.map_cons, List.map_nil]); first | done | rfl | (simp only [List.length_drop, List.length_take]; rfl)) ?_; (with_reducible refine (ops_Two.calls kj2 (⟨#[46, 46]⟩ : ByteArray) t615 t616 t617 t619 t620 t621 t623 t624 t625 t626 _ A10.out).mono ?_); rintro e w119 ⟨rfl, hb⟩; refine ⟨_, rfl, ?_⟩; have n0_ := Aside0.mk (blk_below (g := gb618) (o := .cells #[.int .i64 t615, .int .i64 t616, .string t617] 23 (0, 0)) (by refine blk_far ?_ NB618_622.out _; refine blk_far ?_ NB618_622.out _; refine blk_far ?_ NB618_622.out _; exact BK618.out) hb); have n1_ := Aside0.mk (blk_below (g := gb622) (o := .cells #[.int .i64 t619, .int .i64 t620, .string t621] 23 (0, 0)) (by refine blk_put (cs := #[.int .i64 t619, .int .i64 t620, .string (⟨#[]⟩ : ByteArray)]) ?_ 2 _ rfl; refine blk_put (cs := #[.int .i64 t619, .int .i64 0, .string (⟨#[]⟩ : ByteArray)]) ?_ 1 _ rfl; refine blk_put (cs := #[.int .i64 0, .int .i64 0, .string (⟨#[]⟩ : ByteArray)]) ?_ 0 _ rfl; exact BK622.out) hb); have n2_ := Aside0.mk (below_step (by repeat (first | (with_reducible first | exact HB.out | apply below_alloc | apply pw_below_drewN | apply below_drew1 | refine below_set ?_ GE618.out | refine below_set ?_ GE622.out) | exact HB.out)) hb); clear BK618; clear BK622; clear HB; have BK618 := n0_; have BK622 := n1_; have HB := n2_; clear n0_ n1_ n2_; (try clear hb)) | ((with_reducible refine gate_dst (N := 7) rfl ?_); (try (refine gate_guard (by rfl) ?_; dsimp only)); refine box_event ?hg (N := 7) ?hd (cs := #[.int .i64 0, .int .i64 0, .string (⟨#[]⟩ : ByteArray)]) (t := 23) ?hr ?_; (case hd => rfl); (case hg => rfl); (case hr => first | (go_simp; done) | (go_simp; rfl)); intro gb627 hg w120 hbox hb; have n0_ := Aside0.mk (blk_below (g := gb618) (o := .cells #[.int .i64 t615, .int .i64 t616, .string t617] 23 (0, 0)) BK618.out hb); have n1_ := Aside0.mk (blk_below (g := gb622) (o := .cells #[.int .i64 t619, .int .i64 t620, .string t621] 23 (0, 0)) BK622.out hb); have n2_ := Aside0.mk (below_step (by repeat (first | (with_reducible first | exact HB.out | apply below_alloc | apply pw_below_drewN | apply below_drew1 | refine below_set ?_ GE618.out | refine below_set ?_ GE622.out) | exact HB.out)) hb); have n3_ := Aside0.mk (hbox); have n4_ := Aside0.mk ((by rw [hg]; exact (below_size (by repeat (first | (with_reducible first | exact HB.out | apply below_alloc | apply pw_below_drewN | apply below_drew1 | refine below_set ?_ GE618.out | refine below_set ?_ GE622.out) | exact HB.out))) : w.heap.size ≤ gb627)); have n5_ := Aside0.mk ((by rw [hg]; exact (below_size (by repeat (first | (with_reducible first | exact HB.out | apply below_alloc | apply pw_below_drewN | apply below_drew1 | refine below_set ?_ GE618.out | refine below_set ?_ GE622.out) | exact HB.out))) : w.heap.size ≤ gb627)); have n6_ := Aside0.mk ((by rw [hg]; exact Nat.ne_of_lt (blk_lt (g := gb618) (o := .cells #[.int .i64 t615, .int .i64 t616, .string t617] 23 (0, 0)) BK618.out) : gb618 ≠ gb627)); have n7_ := Aside0.mk ((by rw [hg]; exact Nat.ne_of_gt (blk_lt (g := gb618) (o := .cells #[.int .i64 t615, .int .i64 t616, .string t617] 23 (0, 0)) BK618.out) : gb627 ≠ gb618)); have n8_ := Aside0.mk ((by rw [hg]; exact Nat.ne_of_lt (blk_lt (g := gb622) (o := .cells #[.int .i64 t619, .int .i64 t620, .string t621] 23 (0, 0)) BK622.out) : gb622 ≠ gb627)); have n9_ := Aside0.mk ((by rw [hg]; exact Nat.ne_of_gt (blk_lt (g := gb622) (o := .cells #[.int .i64 t619, .int .i64 t620, .string t621] 23 (0, 0)) BK622.out) : gb627 ≠ gb622)); clear BK618; clear BK622; clear HB; have BK618 := n0_; have BK622 := n1_; have HB := n2_; have BK627 := n3_; have GW627 := n4_; have GE627 := n5_; have NB618_627 := n6_; have NB627_618 := n7_; have NB622_627 := n8_; have NB627_622 := n9_; clear n0_ n1_ n2_ n3_ n4_ n5_ n6_ n7_ n8_ n9_; clear hb hbox hg; have hnb121 := NB627_618.out; have hnc121 := NB618_627.out; have hnb122 := NB627_622.out; have hnc122 := NB622_627.out; have hcz123_0 : w120.cell? ⟨gb627, 0, none⟩ = some (.int .i64 0) := (blk_cell BK627.out 0).trans rfl; have hcz123_1 : w120.cell? ⟨gb627, 1, none⟩ = some (.int .i64 0) := (blk_cell BK627.out 1).trans rfl; have hcz123_2 : w120.cell? ⟨gb627, 2, none⟩ = some (.string (⟨#[]⟩ : ByteArray)) := (blk_cell BK627.out 2).trans rfl; have hfz123_0 := blk_frozen BK627.out 0; have hfz123_1 := blk_frozen BK627.out 1; have hfz123_2 := blk_frozen BK627.out 2) | ((with_reducible refine gate_callee (f := 18) rfl ?_); refine goesL_ (some 39) rfl rfl Try.func18 (by kernel_rfl) rfl #[.string (⟨#[108, 101, 110]⟩ : ByteArray), .agg #[.int .i64 t623, .int .i64 t624, .string t625]] rfl (by (try simp only [List.map_toArray, List.map_cons, List.map_nil]); first | done | rfl | (simp only [List.length_drop, List.length_take]; rfl)) ?_; (with_reducible refine (ops_One.calls kj2 (⟨#[108, 101, 110]⟩ : ByteArray) t623 t624 t625 t628 t629 t630 t631 _ A11.out).mono ?_); rintro e w124 ⟨rfl, hb⟩; refine ⟨_, rfl, ?_⟩; have n0_ := Aside0.mk (blk_below (g := gb618) (o := .cells #[.int .i64 t615, .int .i64 t616, .string t617] 23 (0, 0)) (by refine blk_far ?_ NB618_627.out _; refine blk_far ?_ NB618_627.out _; refine blk_far ?_ NB618_627.out _; exact BK618.out) hb); have n1_ := Aside0.mk (blk_below (g := gb622) (o := .cells #[.int .i64 t619, .int .i64 t620, .string t621] 23 (0, 0)) (by refine blk_far ?_ NB622_627.out _; refine blk_far ?_ NB622_627.out _; refine blk_far ?_ NB622_627.out _; exact BK622.out) hb); have n2_ := Aside0.mk (blk_below (g := gb627) (o := .cells #[.int .i64 t623, .int .i64 t624, .string t625] 23 (0, 0)) (by refine blk_put (cs := #[.int .i64 t623, .int .i64 t624, .string (⟨#[]⟩ : ByteArray)]) ?_ 2 _ rfl; refine blk_put (cs := #[.int .i64 t623, .int .i64 0, .string (⟨#[]⟩ : ByteArray)]) ?_ 1 _ rfl; refine blk_put (cs := #[.int .i64 0, .int .i64 0, .string (⟨#[]⟩ : ByteArray)]) ?_ 0 _ rfl; exact BK627.out) hb); have n3_ := Aside0.mk (below_step (by repeat (first | (with_reducible first | exact HB.out | apply below_alloc | apply pw_below_drewN | apply below_drew1 | refine below_set ?_ GE618.out | refine below_set ?_ GE622.out | refine below_set ?_ GE627.out) | exact HB.out)) hb); clear BK618; clear BK622; clear BK627; clear HB; have BK618 := n0_; have BK622 := n1_; have BK627 := n2_; have HB := n3_; clear n0_ n1_ n2_ n3_; (try clear hb)) | ((with_reducible refine gate_dst (N := 9) rfl ?_); (try (refine gate_guard (by rfl) ?_; dsimp only)); refine box_event ?hg (N := 9) ?hd (cs := #[.int .i64 0, .int .i64 0, .string (⟨#[]⟩ : ByteArray)]) (t := 23) ?hr ?_; (case hd => rfl); (case hg => rfl); (case hr => first | (go_simp; done) | (go_simp; rfl)); intro gb632 hg w125 hbox hb; have n0_ := Aside0.mk (blk_below (g := gb618) (o := .cells #[.int .i64 t615, .int .i64 t616, .string t617] 23 (0, 0)) BK618.out hb); have n1_ := Aside0.mk (blk_below (g := gb622) (o := .cells #[.int .i64 t619, .int .i64 t620, .string t621] 23 (0, 0)) BK622.out hb); have n2_ := Aside0.mk (blk_below (g := gb627) (o := .cells #[.int .i64 t623, .int .i64 t624, .string t625] 23 (0, 0)) BK627.out hb); have n3_ := Aside0.mk (below_step (by repeat (first | (with_reducible first | exact HB.out | apply below_alloc | apply pw_below_drewN | apply below_drew1 | refine below_set ?_ GE618.out | refine below_set ?_ GE622.out | refine below_set ?_ GE627.out) | exact HB.out)) hb); have n4_ := Aside0.mk (hbox); have n5_ := Aside0.mk ((by rw [hg]; exact (below_size (by repeat (first | (with_reducible first | exact HB.out | apply below_alloc | apply pw_below_drewN | apply below_drew1 | refine below_set ?_ GE618.out | refine below_set ?_ GE622.out | refine below_set ?_ GE627.out) | exact HB.out))) : w.heap.size ≤ gb632)); have n6_ := Aside0.mk ((by rw [hg]; exact (below_size (by repeat (first | (with_reducible first | exact HB.out | apply below_alloc | apply pw_below_drewN | apply below_drew1 | refine below_set ?_ GE618.out | refine below_set ?_ GE622.out | refine below_set ?_ GE627.out) | exact HB.out))) : w.heap.size ≤ gb632)); have n7_ := Aside0.mk ((by rw [hg]; exact Nat.ne_of_lt (blk_lt (g := gb618) (o := .cells #[.int .i64 t615, .int .i64 t616, .string t617] 23 (0, 0)) BK618.out) : gb618 ≠ gb632)); have n8_ := Aside0.mk ((by rw [hg]; exact Nat.ne_of_gt (blk_lt (g := gb618) (o := .cells #[.int .i64 t615, .int .i64 t616, .string t617] 23 (0, 0)) BK618.out) : gb632 ≠ gb618)); have n9_ := Aside0.mk ((by rw [hg]; exact Nat.ne_of_lt (blk_lt (g := gb622) (o := .cells #[.int .i64 t619, .int .i64 t620, .string t621] 23 (0, 0)) BK622.out) : gb622 ≠ gb632)); have n10_ := Aside0.mk ((by rw [hg]; exact Nat.ne_of_gt (blk_lt (g := gb622) (o := .cells #[.int .i64 t619, .int .i64 t620, .string t621] 23 (0, 0)) BK622.out) : gb632 ≠ gb622)); have n11_ := Aside0.mk ((by rw [hg]; exact Nat.ne_of_lt (blk_lt (g := gb627) (o := .cells #[.int .i64 t623, .int .i64 t624, .string t625] 23 (0, 0)) BK627.out) : gb627 ≠ gb632)); have n12_ := Aside0.mk ((by rw [hg]; exact Nat.ne_of_gt (blk_lt (g := gb627) (o := .cells #[.int .i64 t623, .int .i64 t624, .string t625] 23 (0, 0)) BK627.out) : gb632 ≠ gb627)); clear BK618; clear BK622; clear BK627; clear HB; have BK618 := n0_; have BK622 := n1_; have BK627 := n2_; have HB := n3_; have BK632 := n4_; have GW632 := n5_; have GE632 := n6_; have NB618_632 := n7_; have NB632_618 := n8_; have NB622_632 := n9_; have NB632_622 := n10_; have NB627_632 := n11_; have NB632_627 := n12_; clear n0_ n1_ n2_ n3_ n4_ n5_ n6_ n7_ n8_ n9_ n10_ n11_ n12_; clear hb hbox hg; have hnb126 := NB632_618.out; have hnc126 := NB618_632.out; have hnb127 := NB632_622.out; have hnc127 := NB622_632.out; have hnb128 := NB632_627.out; have hnc128 := NB627_632.out; have hcz129_0 : w125.cell? ⟨gb632, 0, none⟩ = some (.int .i64 0) := (blk_cell BK632.out 0).trans rfl; have hcz129_1 : w125.cell? ⟨gb632, 1, none⟩ = some (.int .i64 0) := (blk_cell BK632.out 1).trans rfl; have hcz129_2 : w125.cell? ⟨gb632, 2, none⟩ = some (.string (⟨#[]⟩ : ByteArray)) := (blk_cell BK632.out 2).trans rfl; have hfz129_0 := blk_frozen BK632.out 0; have hfz129_1 := blk_frozen BK632.out 1; have hfz129_2 := blk_frozen BK632.out 2; have hcz130_0 : w125.cell? ⟨gb618, 0, none⟩ = some (.int .i64 t615) := (blk_cell BK618.out 0).trans rfl; have hcz130_1 : w125.cell? ⟨gb618, 1, none⟩ = some (.int .i64 t616) := (blk_cell BK618.out 1).trans rfl; have hcz130_2 : w125.cell? ⟨gb618, 2, none⟩ = some (.string t617) := (blk_cell BK618.out 2).trans rfl; have hfz130_0 := blk_frozen BK618.out 0; have hfz130_1 := blk_frozen BK618.out 1; have hfz130_2 := blk_frozen BK618.out 2; have hcz131_0 : w125.cell? ⟨gb622, 0, none⟩ = some (.int .i64 t619) := (blk_cell BK622.out 0).trans rfl; have hcz131_1 : w125.cell? ⟨gb622, 1, none⟩ = some (.int .i64 t620) := (blk_cell BK622.out 1).trans rfl; have hcz131_2 : w125.cell? ⟨gb622, 2, none⟩ = some (.string t621) := (blk_cell BK622.out 2).trans rfl; have hfz131_0 := blk_frozen BK622.out 0; have hfz131_1 := blk_frozen BK622.out 1; have hfz131_2 := blk_frozen BK622.out 2) | ((with_reducible refine gate_callee (f := 10) rfl ?_); refine goesL_ (some 45) rfl rfl Try.func10 (by kernel_rfl) rfl #[.string (⟨#[60]⟩ : ByteArray), .agg #[.int .i64 t615, .int .i64 t616, .string t617], .agg #[.int .i64 t619, .int .i64 t620, .string t621]] rfl (by (try simp only [List.map_toArray, List.map_cons, List.map_nil]); first | done | rfl | (simp only [List.length_drop, List.length_take]; rfl)) ?_; (with_reducible refine (ops_Two.calls kj2 (⟨#[60]⟩ : ByteArray) t615 t616 t617 t619 t620 t621 t633 t634 t635 t636 _ A12.out).mono ?_); rintro e w132 ⟨rfl, hb⟩; refine ⟨_, rfl, ?_⟩; have n0_ := Aside0.mk (blk_below (g := gb618) (o := .cells #[.int .i64 t615, .int .i64 t616, .string t617] 23 (0, 0)) (by refine blk_far ?_ NB618_632.out _; refine blk_far ?_ NB618_632.out _; refine blk_far ?_ NB618_632.out _; exact BK618.out) hb); have n1_ := Aside0.mk (blk_below (g := gb622) (o := .cells #[.int .i64 t619, .int .i64 t620, .string t621] 23 (0, 0)) (by refine blk_far ?_ NB622_632.out _; refine blk_far ?_ NB622_632.out _; refine blk_far ?_ NB622_632.out _; exact BK622.out) hb); have n2_ := Aside0.mk (blk_below (g := gb627) (o := .cells #[.int .i64 t623, .int .i64 t624, .string t625] 23 (0, 0)) (by refine blk_far ?_ NB627_632.out _; refine blk_far ?_ NB627_632.out _; refine blk_far ?_ NB627_632.out _; exact BK627.out) hb); have n3_ := Aside0.mk (blk_below (g := gb632) (o := .cells #[.int .i64 t628, .int .i64 t629, .string t630] 23 (0, 0)) (by refine blk_put (cs := #[.int .i64 t628, .int .i64 t629, .string (⟨#[]⟩ : ByteArray)]) ?_ 2 _ rfl; refine blk_put (cs := #[.int .i64 t628, .int .i64 0, .string (⟨#[]⟩ : ByteArray)]) ?_ 1 _ rfl; refine blk_put (cs := #[.int .i64 0, .int .i64 0, .string (⟨#[]⟩ : ByteArray)]) ?_ 0 _ rfl; exact BK632.out) hb); have n4_ := Aside0.mk (below_step (by repeat (first | (with_reducible first | exact HB.out | apply below_alloc | apply pw_below_drewN | apply below_drew1 | refine below_set ?_ GE618.out | refine below_set ?_ GE622.out | refine below_set ?_ GE627.out | refine below_set ?_ GE632.out) | exact HB.out)) hb); clear BK618; clear BK622; clear BK627; clear BK632; clear HB; have BK618 := n0_; have BK622 := n1_; have BK627 := n2_; have BK632 := n3_; have HB := n4_; clear n0_ n1_ n2_ n3_ n4_; (try clear hb)) | ((with_reducible refine gate_dst (N := 11) rfl ?_); (try (refine gate_guard (by rfl) ?_; dsimp only)); refine box_event ?hg (N := 11) ?hd (cs := #[.int .i64 0, .int .i64 0, .string (⟨#[]⟩ : ByteArray)]) (t := 23) ?hr ?_; (case hd => rfl); (case hg => rfl); (case hr => first | (go_simp; done) | (go_simp; rfl)); intro gb637 hg w133 hbox hb; have n0_ := Aside0.mk (blk_below (g := gb618) (o := .cells #[.int .i64 t615, .int .i64 t616, .string t617] 23 (0, 0)) BK618.out hb); have n1_ := Aside0.mk (blk_below (g := gb622) (o := .cells #[.int .i64 t619, .int .i64 t620, .string t621] 23 (0, 0)) BK622.out hb); have n2_ := Aside0.mk (blk_below (g := gb627) (o := .cells #[.int .i64 t623, .int .i64 t624, .string t625] 23 (0, 0)) BK627.out hb); have n3_ := Aside0.mk (blk_below (g := gb632) (o := .cells #[.int .i64 t628, .int .i64 t629, .string t630] 23 (0, 0)) BK632.out hb); have n4_ := Aside0.mk (below_step (by repeat (first | (with_reducible first | exact HB.out | apply below_alloc | apply pw_below_drewN | apply below_drew1 | refine below_set ?_ GE618.out | refine below_set ?_ GE622.out | refine below_set ?_ GE627.out | refine below_set ?_ GE632.out) | exact HB.out)) hb); have n5_ := Aside0.mk (hbox); have n6_ := Aside0.mk ((by rw [hg]; exact (below_size (by repeat (first | (with_reducible first | exact HB.out | apply below_alloc | apply pw_below_drewN | apply below_drew1 | refine below_set ?_ GE618.out | refine below_set ?_ GE622.out | refine below_set ?_ GE627.out | refine below_set ?_ GE632.out) | exact HB.out))) : w.heap.size ≤ gb637)); have n7_ := Aside0.mk ((by rw [hg]; exact (below_size (by repeat (first | (with_reducible first | exact HB.out | apply below_alloc | apply pw_below_drewN | apply below_drew1 | refine below_set ?_ GE618.out | refine below_set ?_ GE622.out | refine below_set ?_ GE627.out | refine below_set ?_ GE632.out) | exact HB.out))) : w.heap.size ≤ gb637)); have n8_ := Aside0.mk ((by rw [hg]; exact Nat.ne_of_lt (blk_lt (g := gb618) (o := .cells #[.int .i64 t615, .int .i64 t616, .string t617] 23 (0, 0)) BK618.out) : gb618 ≠ gb637)); have n9_ := Aside0.mk ((by rw [hg]; exact Nat.ne_of_gt (blk_lt (g := gb618) (o := .cells #[.int .i64 t615, .int .i64 t616, .string t617] 23 (0, 0)) BK618.out) : gb637 ≠ gb618)); have n10_ := Aside0.mk ((by rw [hg]; exact Nat.ne_of_lt (blk_lt (g := gb622) (o := .cells #[.int .i64 t619, .int .i64 t620, .string t621] 23 (0, 0)) BK622.out) : gb622 ≠ gb637)); have n11_ := Aside0.mk ((by rw [hg]; exact Nat.ne_of_gt (blk_lt (g := gb622) (o := .cells #[.int .i64 t619, .int .i64 t620, .string t621] 23 (0, 0)) BK622.out) : gb637 ≠ gb622)); have n12_ := Aside0.mk ((by rw [hg]; exact Nat.ne_of_lt (blk_lt (g := gb627) (o := .cells #[.int .i64 t623, .int .i64 t624, .string t625] 23 (0, 0)) BK627.out) : gb627 ≠ gb637)); have n13_ := Aside0.mk ((by rw [hg]; exact Nat.ne_of_gt (blk_lt (g := gb627) (o := .cells #[.int .i64 t623, .int .i64 t624, .string t625] 23 (0, 0)) BK627.out) : gb637 ≠ gb627)); have n14_ := Aside0.mk ((by rw [hg]; exact Nat.ne_of_lt (blk_lt (g := gb632) (o := .cells #[.int .i64 t628, .int .i64 t629, .string t630] 23 (0, 0)) BK632.out) : gb632 ≠ gb637)); have n15_ := Aside0.mk ((by rw [hg]; exact Nat.ne_of_gt (blk_lt (g := gb632) (o := .cells #[.int .i64 t628, .int .i64 t629, .string t630] 23 (0, 0)) BK632.out) : gb637 ≠ gb632)); clear BK618; clear BK622; clear BK627; clear BK632; clear HB; have BK618 := n0_; have BK622 := n1_; have BK627 := n2_; have BK632 := n3_; have HB := n4_; have BK637 := n5_; have GW637 := n6_; have GE637 := n7_; have NB618_637 := n8_; have NB637_618 := n9_; have NB622_637 := n10_; have NB637_622 := n11_; have NB627_637 := n12_; have NB637_627 := n13_; have NB632_637 := n14_; have NB637_632 := n15_; clear n0_ n1_ n2_ n3_ n4_ n5_ n6_ n7_ n8_ n9_ n10_ n11_ n12_ n13_ n14_ n15_; clear hb hbox hg; have hnb134 := NB637_618.out; have hnc134 := NB618_637.out; have hnb135 := NB637_622.out; have hnc135 := NB622_637.out; have hnb136 := NB637_627.out; have hnc136 := NB627_637.out; have hnb137 := NB637_632.out; have hnc137 := NB632_637.out; have hcz138_0 : w133.cell? ⟨gb637, 0, none⟩ = some (.int .i64 0) := (blk_cell BK637.out 0).trans rfl; have hcz138_1 : w133.cell? ⟨gb637, 1, none⟩ = some (.int .i64 0) := (blk_cell BK637.out 1).trans rfl; have hcz138_2 : w133.cell? ⟨gb637, 2, none⟩ = some (.string (⟨#[]⟩ : ByteArray)) := (blk_cell BK637.out 2).trans rfl; have hfz138_0 := blk_frozen BK637.out 0; have hfz138_1 := blk_frozen BK637.out 1; have hfz138_2 := blk_frozen BK637.out 2; have hcz139_0 : w133.cell? ⟨gb622, 0, none⟩ = some (.int .i64 t619) := (blk_cell BK622.out 0).trans rfl; have hcz139_1 : w133.cell? ⟨gb622, 1, none⟩ = some (.int .i64 t620) := (blk_cell BK622.out 1).trans rfl; have hcz139_2 : w133.cell? ⟨gb622, 2, none⟩ = some (.string t621) := (blk_cell BK622.out 2).trans rfl; have hfz139_0 := blk_frozen BK622.out 0; have hfz139_1 := blk_frozen BK622.out 1; have hfz139_2 := blk_frozen BK622.out 2; have hcz140_0 : w133.cell? ⟨gb618, 0, none⟩ = some (.int .i64 t615) := (blk_cell BK618.out 0).trans rfl; have hcz140_1 : w133.cell? ⟨gb618, 1, none⟩ = some (.int .i64 t616) := (blk_cell BK618.out 1).trans rfl; have hcz140_2 : w133.cell? ⟨gb618, 2, none⟩ = some (.string t617) := (blk_cell BK618.out 2).trans rfl; have hfz140_0 := blk_frozen BK618.out 0; have hfz140_1 := blk_frozen BK618.out 1; have hfz140_2 := blk_frozen BK618.out 2) | ((with_reducible refine gate_callee (f := 10) rfl ?_); refine goesL_ (some 51) rfl rfl Try.func10 (by kernel_rfl) rfl #[.string (⟨#[60, 61]⟩ : ByteArray), .agg #[.int .i64 t619, .int .i64 t620, .string t621], .agg #[.int .i64 t615, .int .i64 t616, .string t617]] rfl (by (try simp only [List.map_toArray, List.map_cons, List.map_nil]); first | done | rfl | (simp only [List.length_drop, List.length_take]; rfl)) ?_; (with_reducible refine (ops_Two.calls kj2 (⟨#[60, 61]⟩ : ByteArray) t619 t620 t621 t615 t616 t617 t638 t639 t640 t641 _ A13.out).mono ?_); rintro e w141 ⟨rfl, hb⟩; refine ⟨_, rfl, ?_⟩; have n0_ := Aside0.mk (blk_below (g := gb618) (o := .cells #[.int .i64 t615, .int .i64 t616, .string t617] 23 (0, 0)) (by refine blk_far ?_ NB618_637.out _; refine blk_far ?_ NB618_637.out _; refine blk_far ?_ NB618_637.out _; exact BK618.out) hb); have n1_ := Aside0.mk (blk_below (g := gb622) (o := .cells #[.int .i64 t619, .int .i64 t620, .string t621] 23 (0, 0)) (by refine blk_far ?_ NB622_637.out _; refine blk_far ?_ NB622_637.out _; refine blk_far ?_ NB622_637.out _; exact BK622.out) hb); have n2_ := Aside0.mk (blk_below (g := gb627) (o := .cells #[.int .i64 t623, .int .i64 t624, .string t625] 23 (0, 0)) (by refine blk_far ?_ NB627_637.out _; refine blk_far ?_ NB627_637.out _; refine blk_far ?_ NB627_637.out _; exact BK627.out) hb); have n3_ := Aside0.mk (blk_below (g := gb632) (o := .cells #[.int .i64 t628, .int .i64 t629, .string t630] 23 (0, 0)) (by refine blk_far ?_ NB632_637.out _; refine blk_far ?_ NB632_637.out _; refine blk_far ?_ NB632_637.out _; exact BK632.out) hb); have n4_ := Aside0.mk (blk_below (g := gb637) (o := .cells #[.int .i64 t633, .int .i64 t634, .string t635] 23 (0, 0)) (by refine blk_put (cs := #[.int .i64 t633, .int .i64 t634, .string (⟨#[]⟩ : ByteArray)]) ?_ 2 _ rfl; refine blk_put (cs := #[.int .i64 t633, .int .i64 0, .string (⟨#[]⟩ : ByteArray)]) ?_ 1 _ rfl; refine blk_put (cs := #[.int .i64 0, .int .i64 0, .string (⟨#[]⟩ : ByteArray)]) ?_ 0 _ rfl; exact BK637.out) hb); have n5_ := Aside0.mk (below_step (by repeat (first | (with_reducible first | exact HB.out | apply below_alloc | apply pw_below_drewN | apply below_drew1 | refine below_set ?_ GE618.out | refine below_set ?_ GE622.out | refine below_set ?_ GE627.out | refine below_set ?_ GE632.out | refine below_set ?_ GE637.out) | exact HB.out)) hb); clear BK618; clear BK622; clear BK627; clear BK632; clear BK637; clear HB; have BK618 := n0_; have BK622 := n1_; have BK627 := n2_; have BK632 := n3_; have BK637 := n4_; have HB := n5_; clear n0_ n1_ n2_ n3_ n4_ n5_; (try clear hb)) | ((with_reducible refine gate_dst (N := 13) rfl ?_); (try (refine gate_guard (by rfl) ?_; dsimp only)); refine box_event ?hg (N := 13) ?hd (cs := #[.int .i64 0, .int .i64 0, .string (⟨#[]⟩ : ByteArray)]) (t := 23) ?hr ?_; (case hd => rfl); (case hg => rfl); (case hr => first | (go_simp; done) | (go_simp; rfl)); intro gb642 hg w142 hbox hb; have n0_ := Aside0.mk (blk_below (g := gb618) (o := .cells #[.int .i64 t615, .int .i64 t616, .string t617] 23 (0, 0)) BK618.out hb); have n1_ := Aside0.mk (blk_below (g := gb622) (o := .cells #[.int .i64 t619, .int .i64 t620, .string t621] 23 (0, 0)) BK622.out hb); have n2_ := Aside0.mk (blk_below (g := gb627) (o := .cells #[.int .i64 t623, .int .i64 t624, .string t625] 23 (0, 0)) BK627.out hb); have n3_ := Aside0.mk (blk_below (g := gb632) (o := .cells #[.int .i64 t628, .int .i64 t629, .string t630] 23 (0, 0)) BK632.out hb); have n4_ := Aside0.mk (blk_below (g := gb637) (o := .cells #[.int .i64 t633, .int .i64 t634, .string t635] 23 (0, 0)) BK637.out hb); have n5_ := Aside0.mk (below_step (by repeat (first | (with_reducible first | exact HB.out | apply below_alloc | apply pw_below_drewN | apply below_drew1 | refine below_set ?_ GE618.out | refine below_set ?_ GE622.out | refine below_set ?_ GE627.out | refine below_set ?_ GE632.out | refine below_set ?_ GE637.out) | exact HB.out)) hb); have n6_ := Aside0.mk (hbox); have n7_ := Aside0.mk ((by rw [hg]; exact (below_size (by repeat (first | (with_reducible first | exact HB.out | apply below_alloc | apply pw_below_drewN | apply below_drew1 | refine below_set ?_ GE618.out | refine below_set ?_ GE622.out | refine below_set ?_ GE627.out | refine below_set ?_ GE632.out | refine below_set ?_ GE637.out) | exact HB.out))) : w.heap.size ≤ gb642)); have n8_ := Aside0.mk ((by rw [hg]; exact (below_size (by repeat (first | (with_reducible first | exact HB.out | apply below_alloc | apply pw_below_drewN | apply below_drew1 | refine below_set ?_ GE618.out | refine below_set ?_ GE622.out | refine below_set ?_ GE627.out | refine below_set ?_ GE632.out | refine below_set ?_ GE637.out) | exact HB.out))) : w.heap.size ≤ gb642)); have n9_ := Aside0.mk ((by rw [hg]; exact Nat.ne_of_lt (blk_lt (g := gb618) (o := .cells #[.int .i64 t615, .int .i64 t616, .string t617] 23 (0, 0)) BK618.out) : gb618 ≠ gb642)); have n10_ := Aside0.mk ((by rw [hg]; exact Nat.ne_of_gt (blk_lt (g := gb618) (o := .cells #[.int .i64 t615, .int .i64 t616, .string t617] 23 (0, 0)) BK618.out) : gb642 ≠ gb618)); have n11_ := Aside0.mk ((by rw [hg]; exact Nat.ne_of_lt (blk_lt (g := gb622) (o := .cells #[.int .i64 t619, .int .i64 t620, .string t621] 23 (0, 0)) BK622.out) : gb622 ≠ gb642)); have n12_ := Aside0.mk ((by rw [hg]; exact Nat.ne_of_gt (blk_lt (g := gb622) (o := .cells #[.int .i64 t619, .int .i64 t620, .string t621] 23 (0, 0)) BK622.out) : gb642 ≠ gb622)); have n13_ := Aside0.mk ((by rw [hg]; exact Nat.ne_of_lt (blk_lt (g := gb627) (o := .cells #[.int .i64 t623, .int .i64 t624, .string t625] 23 (0, 0)) BK627.out) : gb627 ≠ gb642)); have n14_ := Aside0.mk ((by rw [hg]; exact Nat.ne_of_gt (blk_lt (g := gb627) (o := .cells #[.int .i64 t623, .int .i64 t624, .string t625] 23 (0, 0)) BK627.out) : gb642 ≠ gb627)); have n15_ := Aside0.mk ((by rw [hg]; exact Nat.ne_of_lt (blk_lt (g := gb632) (o := .cells #[.int .i64 t628, .int .i64 t629, .string t630] 23 (0, 0)) BK632.out) : gb632 ≠ gb642)); have n16_ := Aside0.mk ((by rw [hg]; exact Nat.ne_of_gt (blk_lt (g := gb632) (o := .cells #[.int .i64 t628, .int .i64 t629, .string t630] 23 (0, 0)) BK632.out) : gb642 ≠ gb632)); have n17_ := Aside0.mk ((by rw [hg]; exact Nat.ne_of_lt (blk_lt (g := gb637) (o := .cells #[.int .i64 t633, .int .i64 t634, .string t635] 23 (0, 0)) BK637.out) : gb637 ≠ gb642)); have n18_ := Aside0.mk ((by rw [hg]; exact Nat.ne_of_gt (blk_lt (g := gb637) (o := .cells #[.int .i64 t633, .int .i64 t634, .string t635] 23 (0, 0)) BK637.out) : gb642 ≠ gb637)); clear BK618; clear BK622; clear BK627; clear BK632; clear BK637; clear HB; have BK618 := n0_; have BK622 := n1_; have BK627 := n2_; have BK632 := n3_; have BK637 := n4_; have HB := n5_; have BK642 := n6_; have GW642 := n7_; have GE642 := n8_; have NB618_642 := n9_; have NB642_618 := n10_; have NB622_642 := n11_; have NB642_622 := n12_; have NB627_642 := n13_; have NB642_627 := n14_; have NB632_642 := n15_; have NB642_632 := n16_; have NB637_642 := n17_; have NB642_637 := n18_; clear n0_ n1_ n2_ n3_ n4_ n5_ n6_ n7_ n8_ n9_ n10_ n11_ n12_ n13_ n14_ n15_ n16_ n17_ n18_; clear hb hbox hg; have hnb143 := NB642_618.out; have hnc143 := NB618_642.out; have hnb144 := NB642_622.out; have hnc144 := NB622_642.out; have hnb145 := NB642_627.out; have hnc145 := NB627_642.out; have hnb146 := NB642_632.out; have hnc146 := NB632_642.out; have hnb147 := NB642_637.out; have hnc147 := NB637_642.out; have hcz148_0 : w142.cell? ⟨gb642, 0, none⟩ = some (.int .i64 0) := (blk_cell BK642.out 0).trans rfl; have hcz148_1 : w142.cell? ⟨gb642, 1, none⟩ = some (.int .i64 0) := (blk_cell BK642.out 1).trans rfl; have hcz148_2 : w142.cell? ⟨gb642, 2, none⟩ = some (.string (⟨#[]⟩ : ByteArray)) := (blk_cell BK642.out 2).trans rfl; have hfz148_0 := blk_frozen BK642.out 0; have hfz148_1 := blk_frozen BK642.out 1; have hfz148_2 := blk_frozen BK642.out 2; have hcz149_0 : w142.cell? ⟨gb627, 0, none⟩ = some (.int .i64 t623) := (blk_cell BK627.out 0).trans rfl; have hcz149_1 : w142.cell? ⟨gb627, 1, none⟩ = some (.int .i64 t624) := (blk_cell BK627.out 1).trans rfl; have hcz149_2 : w142.cell? ⟨gb627, 2, none⟩ = some (.string t625) := (blk_cell BK627.out 2).trans rfl; have hfz149_0 := blk_frozen BK627.out 0; have hfz149_1 := blk_frozen BK627.out 1; have hfz149_2 := blk_frozen BK627.out 2) | ((with_reducible refine gate_callee (f := 15) rfl ?_); refine goesL_ (some 67) rfl rfl Try.func15 (by kernel_rfl) rfl #[.agg #[.int .i64 t623, .int .i64 t624, .string t625]] rfl (by (try simp only [List.map_toArray, List.map_cons, List.map_nil]); first | done | rfl | (simp only [List.length_drop, List.length_take]; rfl)) ?_; (with_reducible refine (ops_Show.calls kj2 t623 t624 t625 t644 _ A94.out).mono ?_); rintro e w150 ⟨rfl, hb⟩; refine ⟨_, rfl, ?_⟩; have n0_ := Aside0.mk (blk_below (g := gb618) (o := .cells #[.int .i64 t615, .int .i64 t616, .string t617] 23 (0, 0)) (by refine blk_far ?_ NB618_642.out _; refine blk_far ?_ NB618_642.out _; refine blk_far ?_ NB618_642.out _; exact BK618.out) hb); have n1_ := Aside0.mk (blk_below (g := gb622) (o := .cells #[.int .i64 t619, .int .i64 t620, .string t621] 23 (0, 0)) (by refine blk_far ?_ NB622_642.out _; refine blk_far ?_ NB622_642.out _; refine blk_far ?_ NB622_642.out _; exact BK622.out) hb); have n2_ := Aside0.mk (blk_below (g := gb627) (o := .cells #[.int .i64 t623, .int .i64 t624, .string t625] 23 (0, 0)) (by refine blk_far ?_ NB627_642.out _; refine blk_far ?_ NB627_642.out _; refine blk_far ?_ NB627_642.out _; exact BK627.out) hb); have n3_ := Aside0.mk (blk_below (g := gb632) (o := .cells #[.int .i64 t628, .int .i64 t629, .string t630] 23 (0, 0)) (by refine blk_far ?_ NB632_642.out _; refine blk_far ?_ NB632_642.out _; refine blk_far ?_ NB632_642.out _; exact BK632.out) hb); have n4_ := Aside0.mk (blk_below (g := gb637) (o := .cells #[.int .i64 t633, .int .i64 t634, .string t635] 23 (0, 0)) (by refine blk_far ?_ NB637_642.out _; refine blk_far ?_ NB637_642.out _; refine blk_far ?_ NB637_642.out _; exact BK637.out) hb); have n5_ := Aside0.mk (blk_below (g := gb642) (o := .cells #[.int .i64 t638, .int .i64 t639, .string t640] 23 (0, 0)) (by refine blk_put (cs := #[.int .i64 t638, .int .i64 t639, .string (⟨#[]⟩ : ByteArray)]) ?_ 2 _ rfl; refine blk_put (cs := #[.int .i64 t638, .int .i64 0, .string (⟨#[]⟩ : ByteArray)]) ?_ 1 _ rfl; refine blk_put (cs := #[.int .i64 0, .int .i64 0, .string (⟨#[]⟩ : ByteArray)]) ?_ 0 _ rfl; exact BK642.out) hb); have n6_ := Aside0.mk (below_step (by repeat (first | (with_reducible first | exact HB.out | apply below_alloc | apply pw_below_drewN | apply below_drew1 | refine below_set ?_ GE618.out | refine below_set ?_ GE622.out | refine below_set ?_ GE627.out | refine below_set ?_ GE632.out | refine below_set ?_ GE637.out | refine below_set ?_ GE642.out) | exact HB.out)) hb); clear BK618; clear BK622; clear BK627; clear BK632; clear BK637; clear BK642; clear HB; have BK618 := n0_; have BK622 := n1_; have BK627 := n2_; have BK632 := n3_; have BK637 := n4_; have BK642 := n5_; have HB := n6_; clear n0_ n1_ n2_ n3_ n4_ n5_ n6_; (try clear hb)) | ((with_reducible refine gate_callee (f := 24) rfl ?_); refine goesL_ (some 68) rfl rfl Try.func24 (by kernel_rfl) rfl #[.string t644] rfl (by (try simp only [List.map_toArray, List.map_cons, List.map_nil]); first | done | rfl | (simp only [List.length_drop, List.length_take]; rfl)) ?_; (with_reducible refine (lex_Scan.calls kj2 t644 t645 t646 t647 _ A95.out).mono ?_); rintro e w151 ⟨v648, rfl, ho0, hb⟩; refine ⟨_, rfl, ?_⟩; have n0_ := Aside0.mk (Kd.R_lower ho0 (below_size (by repeat (first | (with_reducible first | exact HB.out | apply below_alloc | apply pw_below_drewN | apply below_drew1 | refine below_set ?_ GE618.out | refine below_set ?_ GE622.out | refine below_set ?_ GE627.out | refine below_set ?_ GE632.out | refine below_set ?_ GE637.out | refine below_set ?_ GE642.out) | exact HB.out)))); have n1_ := Aside0.mk (blk_below (g := gb618) (o := .cells #[.int .i64 t615, .int .i64 t616, .string t617] 23 (0, 0)) BK618.out hb); have n2_ := Aside0.mk (blk_below (g := gb622) (o := .cells #[.int .i64 t619, .int .i64 t620, .string t621] 23 (0, 0)) BK622.out hb); have n3_ := Aside0.mk (blk_below (g := gb627) (o := .cells #[.int .i64 t623, .int .i64 t624, .string t625] 23 (0, 0)) BK627.out hb); have n4_ := Aside0.mk (blk_below (g := gb632) (o := .cells #[.int .i64 t628, .int .i64 t629, .string t630] 23 (0, 0)) BK632.out hb); have n5_ := Aside0.mk (blk_below (g := gb637) (o := .cells #[.int .i64 t633, .int .i64 t634, .string t635] 23 (0, 0)) BK637.out hb); have n6_ := Aside0.mk (blk_below (g := gb642) (o := .cells #[.int .i64 t638, .int .i64 t639, .string t640] 23 (0, 0)) BK642.out hb); have n7_ := Aside0.mk (below_step (by repeat (first | (with_reducible first | exact HB.out | apply below_alloc | apply pw_below_drewN | apply below_drew1 | refine below_set ?_ GE618.out | refine below_set ?_ GE622.out | refine below_set ?_ GE627.out | refine below_set ?_ GE632.out | refine below_set ?_ GE637.out | refine below_set ?_ GE642.out) | exact HB.out)) hb); clear BK618; clear BK622; clear BK627; clear BK632; clear BK637; clear BK642; clear HB; have HO649 := n0_; have BK618 := n1_; have BK622 := n2_; have BK627 := n3_; have BK632 := n4_; have BK637 := n5_; have BK642 := n6_; have HB := n7_; clear n0_ n1_ n2_ n3_ n4_ n5_ n6_ n7_; (try clear hb); (try clear ho0)))
                                    have n0_ := Aside0.mk (Kd.R_drew HO649.out)
                                    have n1_ := Aside0.mk (blk_drew BK618.out)
                                    have n2_ := Aside0.mk (blk_drew BK622.out)
                                    have n3_ := Aside0.mk (blk_drew BK627.out)
                                    have n4_ := Aside0.mk (blk_drew BK632.out)
                                    have n5_ := Aside0.mk (blk_drew BK637.out)
                                    have n6_ := Aside0.mk (blk_drew BK642.out)
                                    have n7_ := Aside0.mk (below_drew1 HB.out)
                                    clear HO649
                                    clear BK618
                                    clear BK622
                                    clear BK627
                                    clear BK632
                                    clear BK637
                                    clear BK642
                                    clear HB
                                    have HO649 := n0_
                                    have BK618 := n1_
                                    have BK622 := n2_
                                    have BK627 := n3_
                                    have BK632 := n4_
                                    have BK637 := n5_
                                    have BK642 := n6_
                                    have HB := n7_
                                    clear n0_ n1_ n2_ n3_ n4_ n5_ n6_ n7_
                                    have p651 : 0 ≤ (0 : Int) := (by omega)
                                    have q651 : 0 < (t645.length : Int) := of_decide_eq_true (by first | (with_reducible assumption) | assumption)
                                    obtain ⟨A_651, c_651, rfl⟩ := Kd.R_slice HO649.out
                                    obtain ⟨ad651, e651, hx651_0, hx651_1, hx651_2, hx651_3⟩ := at_T48 (Kd.R_reads' HO649.out).2.2 0 p651 q651
                                    cases e651
                                    have qi651 : (0 < t645.length) = True := eq_true (by omega)
                                    (try rw [show ((0 : Int)).toNat = 0 from rfl] at hx651_0)
                                    (try rw [show 0 * 4 = 0 from rfl] at hx651_0)
                                    (try rw [Addr.add_zero'] at hx651_0)
                                    (try rw [show ((0 : Int)).toNat = 0 from rfl] at hx651_1)
                                    (try rw [show 0 * 4 = 0 from rfl] at hx651_1)
                                    (try rw [Addr.add_zero'] at hx651_1)
                                    (try rw [show ((0 : Int)).toNat = 0 from rfl] at hx651_2)
                                    (try rw [show 0 * 4 = 0 from rfl] at hx651_2)
                                    (try rw [Addr.add_zero'] at hx651_2)
                                    (try rw [show ((0 : Int)).toNat = 0 from rfl] at hx651_3)
                                    (try rw [show 0 * 4 = 0 from rfl] at hx651_3)
                                    (try rw [Addr.add_zero'] at hx651_3)
                                    replace p651 := eq_true p651
                                    replace q651 := eq_true q651
                                    refine start_ (n := 72) (S := fun w' => w'.cell? ⟨gb627, 0, none⟩ = some (.int .i64 t623) ∧ w'.cell? ⟨gb627, 1, none⟩ = some (.int .i64 t624) ∧ w'.cell? ⟨gb627, 2, none⟩ = some (.string t625) ∧ w'.cell? ⟨gb632, 0, none⟩ = some (.int .i64 t628) ∧ w'.cell? ⟨gb632, 1, none⟩ = some (.int .i64 t629) ∧ w'.cell? ⟨gb632, 2, none⟩ = some (.string t630) ∧ w'.cell? ⟨gb637, 0, none⟩ = some (.int .i64 t633) ∧ w'.cell? ⟨gb637, 1, none⟩ = some (.int .i64 t634) ∧ w'.cell? ⟨gb637, 2, none⟩ = some (.string t635) ∧ w'.cell? ⟨gb642, 0, none⟩ = some (.int .i64 t638) ∧ w'.cell? ⟨gb642, 1, none⟩ = some (.int .i64 t639) ∧ w'.cell? ⟨gb642, 2, none⟩ = some (.string t640) ∧ w'.cell? ad651 = some (.int .i64 ((rd_T48 t645 0).f0)) ∧ w'.cell? ⟨ad651.block, ad651.off + 1, none⟩ = some (.string ((rd_T48 t645 0).f1)) ∧ w'.cell? ⟨ad651.block, ad651.off + 2, none⟩ = some (.int .i64 ((rd_T48 t645 0).f2)) ∧ w'.cell? ⟨ad651.block, ad651.off + 3, none⟩ = some (.int .i64 ((rd_T48 t645 0).f3))) (ds := []) #[false, false, false, false, false, false, false, false, false, false, false, false, false, false, false, false, false, false, false, false, false, false, false, false, false, false, false, false, false, false, false, false, false, false, false, false, false, false, false, false, false, false, false, false, false, false, false, false, false, false, false, false, false, false, false, false, false, false, false, false, false, false, false, false, false, false, false, false, false, false, false, false] (by kernel_rfl) rfl rfl ⟨(blk_cell BK627.out 0).trans rfl, (blk_cell BK627.out 1).trans rfl, (blk_cell BK627.out 2).trans rfl, (blk_cell BK632.out 0).trans rfl, (blk_cell BK632.out 1).trans rfl, (blk_cell BK632.out 2).trans rfl, (blk_cell BK637.out 0).trans rfl, (blk_cell BK637.out 1).trans rfl, (blk_cell BK637.out 2).trans rfl, (blk_cell BK642.out 0).trans rfl, (blk_cell BK642.out 1).trans rfl, (blk_cell BK642.out 2).trans rfl, hx651_0, hx651_1, hx651_2, hx651_3⟩ (fun hHeld => ?_); refine with_tabW chrysalislaw17_OpsTexts.tab12 chrysalislaw17_OpsTexts.bits12 (fun HT_ HW_ => ?_)
                                    generalize w151.drew = w152 at HO649 BK618 BK622 BK627 BK632 BK637 BK642 HB hx651_0 hx651_1 hx651_2 hx651_3 hHeld ⊢
                                    refine pure_ (i := 0) (N := some 72) (v := ?_) (a' := ?_) #[true, false, false, false, false, false, false, false, false, false, false, false, false, false, false, false, false, false, false, false, false, false, false, false, false, false, false, false, false, false, false, false, false, false, false, false, false, false, false, false, false, false, false, false, false, false, false, false, false, false, false, false, false, false, false, false, false, false, false, false, false, false, false, false, false, false, false, false, false, false, false, false] rfl rfl (any_of HT_.out (by kernel_rfl)) (fun _ _ _ h => h) (Or.inl ⟨by rfl, ?_⟩) ?_ ?_
                                    rotate_left
                                    · intro w'
                                      go_simp
                                      with_reducible rfl
                                    rotate_left
                                    · simp only [Act.put, List.setIfInBounds_toArray, List.set_cons_zero, List.set_cons_succ, i64_w, i32_w]
                                      rfl
                                    refine pure_ (i := 1) (N := some 73) (v := ?_) (a' := ?_) #[true, true, false, false, false, false, false, false, false, false, false, false, false, false, false, false, false, false, false, false, false, false, false, false, false, false, false, false, false, false, false, false, false, false, false, false, false, false, false, false, false, false, false, false, false, false, false, false, false, false, false, false, false, false, false, false, false, false, false, false, false, false, false, false, false, false, false, false, false, false, false, false] rfl rfl (any_of HT_.out (by kernel_rfl)) (fun _ _ _ h => h) (Or.inl ⟨by rfl, ?_⟩) ?_ ?_
                                    rotate_left
                                    · intro w'
                                      go_simp
                                      with_reducible rfl
                                    rotate_left
                                    · simp only [Act.put, List.setIfInBounds_toArray, List.set_cons_zero, List.set_cons_succ, i64_w, i32_w]
                                      rfl
                                    refine pure_ (i := 2) (N := some 74) (v := ?_) (a' := ?_) #[true, true, true, false, false, false, false, false, false, false, false, false, false, false, false, false, false, false, false, false, false, false, false, false, false, false, false, false, false, false, false, false, false, false, false, false, false, false, false, false, false, false, false, false, false, false, false, false, false, false, false, false, false, false, false, false, false, false, false, false, false, false, false, false, false, false, false, false, false, false, false, false] rfl rfl (any_of HT_.out (by kernel_rfl)) (fun _ _ _ h => h) (Or.inl ⟨by rfl, ?_⟩) ?_ ?_
                                    rotate_left
                                    · intro w'
                                      go_simp
                                      with_reducible rfl
                                    rotate_left
                                    · simp only [Act.put, List.setIfInBounds_toArray, List.set_cons_zero, List.set_cons_succ, i64_w, i32_w]
                                      rfl
                                    refine pure_ (i := 3) (N := some 75) (v := ?_) (a' := ?_) #[true, true, true, true, false, false, false, false, false, false, false, false, false, false, false, false, false, false, false, false, false, false, false, false, false, false, false, false, false, false, false, false, false, false, false, false, false, false, false, false, false, false, false, false, false, false, false, false, false, false, false, false, false, false, false, false, false, false, false, false, false, false, false, false, false, false, false, false, false, false, false, false] rfl rfl (any_of HT_.out (by kernel_rfl)) (fun _ _ _ h => h) (Or.inl ⟨by rfl, ?_⟩) ?_ ?_
                                    rotate_left
                                    · intro w'
                                      go_simp
                                      with_reducible rfl
                                    rotate_left
                                    · simp only [Act.put, List.setIfInBounds_toArray, List.set_cons_zero, List.set_cons_succ, i64_w, i32_w]
                                      rfl
                                    refine pure_ (i := 5) (N := some 77) (v := ?_) (a' := ?_) #[true, true, true, true, false, true, false, false, false, false, false, false, false, false, false, false, false, false, false, false, false, false, false, false, false, false, false, false, false, false, false, false, false, false, false, false, false, false, false, false, false, false, false, false, false, false, false, false, false, false, false, false, false, false, false, false, false, false, false, false, false, false, false, false, false, false, false, false, false, false, false, false] rfl rfl (any_of HT_.out (by kernel_rfl)) (fun _ _ _ h => h) (Or.inl ⟨by rfl, ?_⟩) ?_ ?_
                                    rotate_left
                                    · intro w'
                                      go_simp
                                      with_reducible rfl
                                    rotate_left
                                    · simp only [Act.put, List.setIfInBounds_toArray, List.set_cons_zero, List.set_cons_succ, i64_w, i32_w]
                                      rfl
                                    refine pure_ (i := 6) (N := some 78) (v := ?_) (a' := ?_) #[true, true, true, true, false, true, true, false, false, false, false, false, false, false, false, false, false, false, false, false, false, false, false, false, false, false, false, false, false, false, false, false, false, false, false, false, false, false, false, false, false, false, false, false, false, false, false, false, false, false, false, false, false, false, false, false, false, false, false, false, false, false, false, false, false, false, false, false, false, false, false, false] rfl rfl (any_of HT_.out (by kernel_rfl)) (fun _ _ _ h => h) (Or.inl ⟨by rfl, ?_⟩) ?_ ?_
                                    rotate_left
                                    · intro w'
                                      go_simp
                                      with_reducible rfl
                                    rotate_left
                                    · simp only [Act.put, List.setIfInBounds_toArray, List.set_cons_zero, List.set_cons_succ, i64_w, i32_w]
                                      rfl
                                    refine pure_ (i := 7) (N := some 79) (v := ?_) (a' := ?_) #[true, true, true, true, false, true, true, true, false, false, false, false, false, false, false, false, false, false, false, false, false, false, false, false, false, false, false, false, false, false, false, false, false, false, false, false, false, false, false, false, false, false, false, false, false, false, false, false, false, false, false, false, false, false, false, false, false, false, false, false, false, false, false, false, false, false, false, false, false, false, false, false] rfl rfl (any_of HT_.out (by kernel_rfl)) (fun _ _ _ h => h) (Or.inl ⟨by rfl, ?_⟩) ?_ ?_
                                    rotate_left
                                    · intro w'
                                      go_simp
                                      with_reducible rfl
                                    rotate_left
                                    · simp only [Act.put, List.setIfInBounds_toArray, List.set_cons_zero, List.set_cons_succ, i64_w, i32_w]
                                      rfl
                                    refine take_ (i := 4) (N := some 76) (v := ?_) (a' := ?_) #[true, true, true, true, true, true, true, true, false, false, false, false, false, false, false, false, false, false, false, false, false, false, false, false, false, false, false, false, false, false, false, false, false, false, false, false, false, false, false, false, false, false, false, false, false, false, false, false, false, false, false, false, false, false, false, false, false, false, false, false, false, false, false, false, false, false, false, false, false, false, false, false] rfl rfl (take_ofW HT_.out HW_.out (by kernel_rfl)) (fun _ _ _ h => h) (Or.inl ⟨by rfl, ?_⟩) hHeld ?_ ?_
                                    rotate_left
                                    · rintro w' ⟨s0, s1, s2, s3, s4, s5, s6, s7, s8, s9, s10, s11, s12, s13, s14, s15⟩
                                      go_simp
                                      with_reducible rfl
                                    rotate_left
                                    · simp only [Act.put, List.setIfInBounds_toArray, List.set_cons_zero, List.set_cons_succ, i64_w, i32_w]
                                      rfl
                                    refine pure_ (i := 8) (N := some 80) (v := ?_) (a' := ?_) #[true, true, true, true, true, true, true, true, true, false, false, false, false, false, false, false, false, false, false, false, false, false, false, false, false, false, false, false, false, false, false, false, false, false, false, false, false, false, false, false, false, false, false, false, false, false, false, false, false, false, false, false, false, false, false, false, false, false, false, false, false, false, false, false, false, false, false, false, false, false, false, false] rfl rfl (any_of HT_.out (by kernel_rfl)) (fun _ _ _ h => h) (Or.inl ⟨by rfl, ?_⟩) ?_ ?_
                                    rotate_left
                                    · intro w'
                                      go_simp
                                      with_reducible rfl
                                    rotate_left
                                    · simp only [Act.put, List.setIfInBounds_toArray, List.set_cons_zero, List.set_cons_succ, i64_w, i32_w]
                                      rfl
                                    refine pure_ (i := 9) (N := some 81) (v := ?_) (a' := ?_) #[true, true, true, true, true, true, true, true, true, true, false, false, false, false, false, false, false, false, false, false, false, false, false, false, false, false, false, false, false, false, false, false, false, false, false, false, false, false, false, false, false, false, false, false, false, false, false, false, false, false, false, false, false, false, false, false, false, false, false, false, false, false, false, false, false, false, false, false, false, false, false, false] rfl rfl (any_of HT_.out (by kernel_rfl)) (fun _ _ _ h => h) (Or.inl ⟨by rfl, ?_⟩) ?_ ?_
                                    rotate_left
                                    · intro w'
                                      go_simp
                                      with_reducible rfl
                                    rotate_left
                                    · simp only [Act.put, List.setIfInBounds_toArray, List.set_cons_zero, List.set_cons_succ, i64_w, i32_w]
                                      rfl
                                    refine pure_ (i := 10) (N := some 82) (v := ?_) (a' := ?_) #[true, true, true, true, true, true, true, true, true, true, true, false, false, false, false, false, false, false, false, false, false, false, false, false, false, false, false, false, false, false, false, false, false, false, false, false, false, false, false, false, false, false, false, false, false, false, false, false, false, false, false, false, false, false, false, false, false, false, false, false, false, false, false, false, false, false, false, false, false, false, false, false] rfl rfl (any_of HT_.out (by kernel_rfl)) (fun _ _ _ h => h) (Or.inl ⟨by rfl, ?_⟩) ?_ ?_
                                    rotate_left
                                    · intro w'
                                      go_simp
                                      with_reducible rfl
                                    rotate_left
                                    · simp only [Act.put, List.setIfInBounds_toArray, List.set_cons_zero, List.set_cons_succ, i64_w, i32_w]
                                      rfl
                                    refine pure_ (i := 11) (N := some 83) (v := ?_) (a' := ?_) #[true, true, true, true, true, true, true, true, true, true, true, true, false, false, false, false, false, false, false, false, false, false, false, false, false, false, false, false, false, false, false, false, false, false, false, false, false, false, false, false, false, false, false, false, false, false, false, false, false, false, false, false, false, false, false, false, false, false, false, false, false, false, false, false, false, false, false, false, false, false, false, false] rfl rfl (any_of HT_.out (by kernel_rfl)) (fun _ _ _ h => h) (Or.inl ⟨by rfl, ?_⟩) ?_ ?_
                                    rotate_left
                                    · intro w'
                                      go_simp
                                      with_reducible rfl
                                    rotate_left
                                    · simp only [Act.put, List.setIfInBounds_toArray, List.set_cons_zero, List.set_cons_succ, i64_w, i32_w]
                                      rfl
                                    refine pure_ (i := 12) (N := some 84) (v := ?_) (a' := ?_) #[true, true, true, true, true, true, true, true, true, true, true, true, true, false, false, false, false, false, false, false, false, false, false, false, false, false, false, false, false, false, false, false, false, false, false, false, false, false, false, false, false, false, false, false, false, false, false, false, false, false, false, false, false, false, false, false, false, false, false, false, false, false, false, false, false, false, false, false, false, false, false, false] rfl rfl (any_of HT_.out (by kernel_rfl)) (fun _ _ _ h => h) (Or.inl ⟨by rfl, ?_⟩) ?_ ?_
                                    rotate_left
                                    · intro w'
                                      go_simp
                                      with_reducible rfl
                                    rotate_left
                                    · simp only [Act.put, List.setIfInBounds_toArray, List.set_cons_zero, List.set_cons_succ, i64_w, i32_w]
                                      rfl
                                    refine pure_ (i := 13) (N := some 85) (v := ?_) (a' := ?_) #[true, true, true, true, true, true, true, true, true, true, true, true, true, true, false, false, false, false, false, false, false, false, false, false, false, false, false, false, false, false, false, false, false, false, false, false, false, false, false, false, false, false, false, false, false, false, false, false, false, false, false, false, false, false, false, false, false, false, false, false, false, false, false, false, false, false, false, false, false, false, false, false] rfl rfl (any_of HT_.out (by kernel_rfl)) (fun _ _ _ h => h) (Or.inl ⟨by rfl, ?_⟩) ?_ ?_
                                    rotate_left
                                    · intro w'
                                      go_simp
                                      with_reducible rfl
                                    rotate_left
                                    · simp only [Act.put, List.setIfInBounds_toArray, List.set_cons_zero, List.set_cons_succ, i64_w, i32_w]
                                      rfl
                                    refine pure_ (i := 14) (N := some 86) (v := ?_) (a' := ?_) #[true, true, true, true, true, true, true, true, true, true, true, true, true, true, true, false, false, false, false, false, false, false, false, false, false, false, false, false, false, false, false, false, false, false, false, false, false, false, false, false, false, false, false, false, false, false, false, false, false, false, false, false, false, false, false, false, false, false, false, false, false, false, false, false, false, false, false, false, false, false, false, false] rfl rfl (any_of HT_.out (by kernel_rfl)) (fun _ _ _ h => h) (Or.inl ⟨by rfl, ?_⟩) ?_ ?_
                                    rotate_left
                                    · intro w'
                                      go_simp
                                      with_reducible rfl
                                    rotate_left
                                    · simp only [Act.put, List.setIfInBounds_toArray, List.set_cons_zero, List.set_cons_succ, i64_w, i32_w]
                                      rfl
                                    refine pure_ (i := 15) (N := some 87) (v := ?_) (a' := ?_) #[true, true, true, true, true, true, true, true, true, true, true, true, true, true, true, true, false, false, false, false, false, false, false, false, false, false, false, false, false, false, false, false, false, false, false, false, false, false, false, false, false, false, false, false, false, false, false, false, false, false, false, false, false, false, false, false, false, false, false, false, false, false, false, false, false, false, false, false, false, false, false, false] rfl rfl (any_of HT_.out (by kernel_rfl)) (fun _ _ _ h => h) (Or.inl ⟨by rfl, ?_⟩) ?_ ?_
                                    rotate_left
                                    · intro w'
                                      go_simp
                                      with_reducible rfl
                                    rotate_left
                                    · simp only [Act.put, List.setIfInBounds_toArray, List.set_cons_zero, List.set_cons_succ, i64_w, i32_w]
                                      rfl
                                    refine pure_ (i := 17) (N := some 89) (v := ?_) (a' := ?_) #[true, true, true, true, true, true, true, true, true, true, true, true, true, true, true, true, false, true, false, false, false, false, false, false, false, false, false, false, false, false, false, false, false, false, false, false, false, false, false, false, false, false, false, false, false, false, false, false, false, false, false, false, false, false, false, false, false, false, false, false, false, false, false, false, false, false, false, false, false, false, false, false] rfl rfl (any_of HT_.out (by kernel_rfl)) (fun _ _ _ h => h) (Or.inl ⟨by rfl, ?_⟩) ?_ ?_
                                    rotate_left
                                    · intro w'
                                      go_simp
                                      with_reducible rfl
                                    rotate_left
                                    · simp only [Act.put, List.setIfInBounds_toArray, List.set_cons_zero, List.set_cons_succ, i64_w, i32_w]
                                      rfl
                                    refine pure_ (i := 18) (N := some 90) (v := ?_) (a' := ?_) #[true, true, true, true, true, true, true, true, true, true, true, true, true, true, true, true, false, true, true, false, false, false, false, false, false, false, false, false, false, false, false, false, false, false, false, false, false, false, false, false, false, false, false, false, false, false, false, false, false, false, false, false, false, false, false, false, false, false, false, false, false, false, false, false, false, false, false, false, false, false, false, false] rfl rfl (any_of HT_.out (by kernel_rfl)) (fun _ _ _ h => h) (Or.inl ⟨by rfl, ?_⟩) ?_ ?_
                                    rotate_left
                                    · intro w'
                                      go_simp
                                      with_reducible rfl
                                    rotate_left
                                    · simp only [Act.put, List.setIfInBounds_toArray, List.set_cons_zero, List.set_cons_succ, i64_w, i32_w]
                                      rfl
                                    refine pure_ (i := 19) (N := some 91) (v := ?_) (a' := ?_) #[true, true, true, true, true, true, true, true, true, true, true, true, true, true, true, true, false, true, true, true, false, false, false, false, false, false, false, false, false, false, false, false, false, false, false, false, false, false, false, false, false, false, false, false, false, false, false, false, false, false, false, false, false, false, false, false, false, false, false, false, false, false, false, false, false, false, false, false, false, false, false, false] rfl rfl (any_of HT_.out (by kernel_rfl)) (fun _ _ _ h => h) (Or.inl ⟨by rfl, ?_⟩) ?_ ?_
                                    rotate_left
                                    · intro w'
                                      go_simp
                                      with_reducible rfl
                                    rotate_left
                                    · simp only [Act.put, List.setIfInBounds_toArray, List.set_cons_zero, List.set_cons_succ, i64_w, i32_w]
                                      rfl
                                    refine pure_ (i := 20) (N := some 92) (v := ?_) (a' := ?_) #[true, true, true, true, true, true, true, true, true, true, true, true, true, true, true, true, false, true, true, true, true, false, false, false, false, false, false, false, false, false, false, false, false, false, false, false, false, false, false, false, false, false, false, false, false, false, false, false, false, false, false, false, false, false, false, false, false, false, false, false, false, false, false, false, false, false, false, false, false, false, false, false] rfl rfl (any_of HT_.out (by kernel_rfl)) (fun _ _ _ h => h) (Or.inl ⟨by rfl, ?_⟩) ?_ ?_
                                    rotate_left
                                    · intro w'
                                      go_simp
                                      with_reducible rfl
                                    rotate_left
                                    · simp only [Act.put, List.setIfInBounds_toArray, List.set_cons_zero, List.set_cons_succ, i64_w, i32_w]
                                      rfl
                                    refine pure_ (i := 21) (N := some 93) (v := ?_) (a' := ?_) #[true, true, true, true, true, true, true, true, true, true, true, true, true, true, true, true, false, true, true, true, true, true, false, false, false, false, false, false, false, false, false, false, false, false, false, false, false, false, false, false, false, false, false, false, false, false, false, false, false, false, false, false, false, false, false, false, false, false, false, false, false, false, false, false, false, false, false, false, false, false, false, false] rfl rfl (any_of HT_.out (by kernel_rfl)) (fun _ _ _ h => h) (Or.inl ⟨by rfl, ?_⟩) ?_ ?_
                                    rotate_left
                                    · intro w'
                                      go_simp
                                      with_reducible rfl
                                    rotate_left
                                    · simp only [Act.put, List.setIfInBounds_toArray, List.set_cons_zero, List.set_cons_succ, i64_w, i32_w]
                                      rfl
                                    refine take_ (i := 16) (N := some 88) (v := ?_) (a' := ?_) #[true, true, true, true, true, true, true, true, true, true, true, true, true, true, true, true, true, true, true, true, true, true, false, false, false, false, false, false, false, false, false, false, false, false, false, false, false, false, false, false, false, false, false, false, false, false, false, false, false, false, false, false, false, false, false, false, false, false, false, false, false, false, false, false, false, false, false, false, false, false, false, false] rfl rfl (take_ofW HT_.out HW_.out (by kernel_rfl)) (fun _ _ _ h => h) (Or.inl ⟨by rfl, ?_⟩) hHeld ?_ ?_
                                    rotate_left
                                    · rintro w' ⟨s0, s1, s2, s3, s4, s5, s6, s7, s8, s9, s10, s11, s12, s13, s14, s15⟩
                                      go_simp
                                      with_reducible rfl
                                    rotate_left
                                    · simp only [Act.put, List.setIfInBounds_toArray, List.set_cons_zero, List.set_cons_succ, i64_w, i32_w]
                                      rfl
                                    refine pure_ (i := 22) (N := some 94) (v := ?_) (a' := ?_) #[true, true, true, true, true, true, true, true, true, true, true, true, true, true, true, true, true, true, true, true, true, true, true, false, false, false, false, false, false, false, false, false, false, false, false, false, false, false, false, false, false, false, false, false, false, false, false, false, false, false, false, false, false, false, false, false, false, false, false, false, false, false, false, false, false, false, false, false, false, false, false, false] rfl rfl (any_of HT_.out (by kernel_rfl)) (fun _ _ _ h => h) (Or.inl ⟨by rfl, ?_⟩) ?_ ?_
                                    rotate_left
                                    · intro w'
                                      go_simp
                                      with_reducible rfl
                                    rotate_left
                                    · simp only [Act.put, List.setIfInBounds_toArray, List.set_cons_zero, List.set_cons_succ, i64_w, i32_w]
                                      rfl
                                    refine pure_ (i := 23) (N := some 95) (v := ?_) (a' := ?_) #[true, true, true, true, true, true, true, true, true, true, true, true, true, true, true, true, true, true, true, true, true, true, true, true, false, false, false, false, false, false, false, false, false, false, false, false, false, false, false, false, false, false, false, false, false, false, false, false, false, false, false, false, false, false, false, false, false, false, false, false, false, false, false, false, false, false, false, false, false, false, false, false] rfl rfl (any_of HT_.out (by kernel_rfl)) (fun _ _ _ h => h) (Or.inl ⟨by rfl, ?_⟩) ?_ ?_
                                    rotate_left
                                    · intro w'
                                      go_simp
                                      with_reducible rfl
                                    rotate_left
                                    · simp only [Act.put, List.setIfInBounds_toArray, List.set_cons_zero, List.set_cons_succ, i64_w, i32_w]
                                      rfl
                                    refine pure_ (i := 24) (N := some 96) (v := ?_) (a' := ?_) #[true, true, true, true, true, true, true, true, true, true, true, true, true, true, true, true, true, true, true, true, true, true, true, true, true, false, false, false, false, false, false, false, false, false, false, false, false, false, false, false, false, false, false, false, false, false, false, false, false, false, false, false, false, false, false, false, false, false, false, false, false, false, false, false, false, false, false, false, false, false, false, false] rfl rfl (any_of HT_.out (by kernel_rfl)) (fun _ _ _ h => h) (Or.inl ⟨by rfl, ?_⟩) ?_ ?_
                                    rotate_left
                                    · intro w'
                                      go_simp
                                      with_reducible rfl
                                    rotate_left
                                    · simp only [Act.put, List.setIfInBounds_toArray, List.set_cons_zero, List.set_cons_succ, i64_w, i32_w]
                                      rfl
                                    refine pure_ (i := 25) (N := some 97) (v := ?_) (a' := ?_) #[true, true, true, true, true, true, true, true, true, true, true, true, true, true, true, true, true, true, true, true, true, true, true, true, true, true, false, false, false, false, false, false, false, false, false, false, false, false, false, false, false, false, false, false, false, false, false, false, false, false, false, false, false, false, false, false, false, false, false, false, false, false, false, false, false, false, false, false, false, false, false, false] rfl rfl (any_of HT_.out (by kernel_rfl)) (fun _ _ _ h => h) (Or.inl ⟨by rfl, ?_⟩) ?_ ?_
                                    rotate_left
                                    · intro w'
                                      go_simp
                                      with_reducible rfl
                                    rotate_left
                                    · simp only [Act.put, List.setIfInBounds_toArray, List.set_cons_zero, List.set_cons_succ, i64_w, i32_w]
                                      rfl
                                    refine pure_ (i := 26) (N := some 98) (v := ?_) (a' := ?_) #[true, true, true, true, true, true, true, true, true, true, true, true, true, true, true, true, true, true, true, true, true, true, true, true, true, true, true, false, false, false, false, false, false, false, false, false, false, false, false, false, false, false, false, false, false, false, false, false, false, false, false, false, false, false, false, false, false, false, false, false, false, false, false, false, false, false, false, false, false, false, false, false] rfl rfl (any_of HT_.out (by kernel_rfl)) (fun _ _ _ h => h) (Or.inl ⟨by rfl, ?_⟩) ?_ ?_
                                    rotate_left
                                    · intro w'
                                      go_simp
                                      with_reducible rfl
                                    rotate_left
                                    · simp only [Act.put, List.setIfInBounds_toArray, List.set_cons_zero, List.set_cons_succ, i64_w, i32_w]
                                      rfl
                                    refine pure_ (i := 27) (N := some 99) (v := ?_) (a' := ?_) #[true, true, true, true, true, true, true, true, true, true, true, true, true, true, true, true, true, true, true, true, true, true, true, true, true, true, true, true, false, false, false, false, false, false, false, false, false, false, false, false, false, false, false, false, false, false, false, false, false, false, false, false, false, false, false, false, false, false, false, false, false, false, false, false, false, false, false, false, false, false, false, false] rfl rfl (any_of HT_.out (by kernel_rfl)) (fun _ _ _ h => h) (Or.inl ⟨by rfl, ?_⟩) ?_ ?_
                                    rotate_left
                                    · intro w'
                                      go_simp
                                      with_reducible rfl
                                    rotate_left
                                    · simp only [Act.put, List.setIfInBounds_toArray, List.set_cons_zero, List.set_cons_succ, i64_w, i32_w]
                                      rfl
                                    refine pure_ (i := 28) (N := some 100) (v := ?_) (a' := ?_) #[true, true, true, true, true, true, true, true, true, true, true, true, true, true, true, true, true, true, true, true, true, true, true, true, true, true, true, true, true, false, false, false, false, false, false, false, false, false, false, false, false, false, false, false, false, false, false, false, false, false, false, false, false, false, false, false, false, false, false, false, false, false, false, false, false, false, false, false, false, false, false, false] rfl rfl (any_of HT_.out (by kernel_rfl)) (fun _ _ _ h => h) (Or.inl ⟨by rfl, ?_⟩) ?_ ?_
                                    rotate_left
                                    · intro w'
                                      go_simp
                                      with_reducible rfl
                                    rotate_left
                                    · simp only [Act.put, List.setIfInBounds_toArray, List.set_cons_zero, List.set_cons_succ, i64_w, i32_w]
                                      rfl
                                    refine pure_ (i := 29) (N := some 101) (v := ?_) (a' := ?_) #[true, true, true, true, true, true, true, true, true, true, true, true, true, true, true, true, true, true, true, true, true, true, true, true, true, true, true, true, true, true, false, false, false, false, false, false, false, false, false, false, false, false, false, false, false, false, false, false, false, false, false, false, false, false, false, false, false, false, false, false, false, false, false, false, false, false, false, false, false, false, false, false] rfl rfl (any_of HT_.out (by kernel_rfl)) (fun _ _ _ h => h) (Or.inl ⟨by rfl, ?_⟩) ?_ ?_
                                    rotate_left
                                    · intro w'
                                      go_simp
                                      with_reducible rfl
                                    rotate_left
                                    · simp only [Act.put, List.setIfInBounds_toArray, List.set_cons_zero, List.set_cons_succ, i64_w, i32_w]
                                      rfl
                                    refine pure_ (i := 30) (N := some 102) (v := ?_) (a' := ?_) #[true, true, true, true, true, true, true, true, true, true, true, true, true, true, true, true, true, true, true, true, true, true, true, true, true, true, true, true, true, true, true, false, false, false, false, false, false, false, false, false, false, false, false, false, false, false, false, false, false, false, false, false, false, false, false, false, false, false, false, false, false, false, false, false, false, false, false, false, false, false, false, false] rfl rfl (any_of HT_.out (by kernel_rfl)) (fun _ _ _ h => h) (Or.inl ⟨by rfl, ?_⟩) ?_ ?_
                                    rotate_left
                                    · intro w'
                                      go_simp
                                      with_reducible rfl
                                    rotate_left
                                    · simp only [Act.put, List.setIfInBounds_toArray, List.set_cons_zero, List.set_cons_succ, i64_w, i32_w]
                                      rfl
                                    refine pure_ (i := 31) (N := some 103) (v := ?_) (a' := ?_) #[true, true, true, true, true, true, true, true, true, true, true, true, true, true, true, true, true, true, true, true, true, true, true, true, true, true, true, true, true, true, true, true, false, false, false, false, false, false, false, false, false, false, false, false, false, false, false, false, false, false, false, false, false, false, false, false, false, false, false, false, false, false, false, false, false, false, false, false, false, false, false, false] rfl rfl (any_of HT_.out (by kernel_rfl)) (fun _ _ _ h => h) (Or.inl ⟨by rfl, ?_⟩) ?_ ?_
                                    rotate_left
                                    · intro w'
                                      go_simp
                                      with_reducible rfl
                                    rotate_left
                                    · simp only [Act.put, List.setIfInBounds_toArray, List.set_cons_zero, List.set_cons_succ, i64_w, i32_w]
                                      rfl
                                    refine pure_ (i := 32) (N := some 104) (v := ?_) (a' := ?_) #[true, true, true, true, true, true, true, true, true, true, true, true, true, true, true, true, true, true, true, true, true, true, true, true, true, true, true, true, true, true, true, true, true, false, false, false, false, false, false, false, false, false, false, false, false, false, false, false, false, false, false, false, false, false, false, false, false, false, false, false, false, false, false, false, false, false, false, false, false, false, false, false] rfl rfl (any_of HT_.out (by kernel_rfl)) (fun _ _ _ h => h) (Or.inl ⟨by rfl, ?_⟩) ?_ ?_
                                    rotate_left
                                    · intro w'
                                      go_simp
                                      with_reducible rfl
                                    rotate_left
                                    · simp only [Act.put, List.setIfInBounds_toArray, List.set_cons_zero, List.set_cons_succ, i64_w, i32_w]
                                      rfl
                                    refine pure_ (i := 33) (N := some 105) (v := ?_) (a' := ?_) #[true, true, true, true, true, true, true, true, true, true, true, true, true, true, true, true, true, true, true, true, true, true, true, true, true, true, true, true, true, true, true, true, true, true, false, false, false, false, false, false, false, false, false, false, false, false, false, false, false, false, false, false, false, false, false, false, false, false, false, false, false, false, false, false, false, false, false, false, false, false, false, false] rfl rfl (any_of HT_.out (by kernel_rfl)) (fun _ _ _ h => h) (Or.inl ⟨by rfl, ?_⟩) ?_ ?_
                                    rotate_left
                                    · intro w'
                                      go_simp
                                      with_reducible rfl
                                    rotate_left
                                    · simp only [Act.put, List.setIfInBounds_toArray, List.set_cons_zero, List.set_cons_succ, i64_w, i32_w]
                                      rfl
                                    refine pure_ (i := 35) (N := some 107) (v := ?_) (a' := ?_) #[true, true, true, true, true, true, true, true, true, true, true, true, true, true, true, true, true, true, true, true, true, true, true, true, true, true, true, true, true, true, true, true, true, true, false, true, false, false, false, false, false, false, false, false, false, false, false, false, false, false, false, false, false, false, false, false, false, false, false, false, false, false, false, false, false, false, false, false, false, false, false, false] rfl rfl (any_of HT_.out (by kernel_rfl)) (fun _ _ _ h => h) (Or.inl ⟨by rfl, ?_⟩) ?_ ?_
                                    rotate_left
                                    · intro w'
                                      go_simp
                                      with_reducible rfl
                                    rotate_left
                                    · simp only [Act.put, List.setIfInBounds_toArray, List.set_cons_zero, List.set_cons_succ, i64_w, i32_w]
                                      rfl
                                    refine take_ (i := 34) (N := some 106) (v := ?_) (a' := ?_) #[true, true, true, true, true, true, true, true, true, true, true, true, true, true, true, true, true, true, true, true, true, true, true, true, true, true, true, true, true, true, true, true, true, true, true, true, false, false, false, false, false, false, false, false, false, false, false, false, false, false, false, false, false, false, false, false, false, false, false, false, false, false, false, false, false, false, false, false, false, false, false, false] rfl rfl (take_ofW HT_.out HW_.out (by kernel_rfl)) (fun _ _ _ h => h) (Or.inl ⟨by rfl, ?_⟩) hHeld ?_ ?_
                                    rotate_left
                                    · rintro w' ⟨s0, s1, s2, s3, s4, s5, s6, s7, s8, s9, s10, s11, s12, s13, s14, s15⟩
                                      go_simp
                                      with_reducible rfl
                                    rotate_left
                                    · simp only [Act.put, List.setIfInBounds_toArray, List.set_cons_zero, List.set_cons_succ, i64_w, i32_w]
                                      rfl
                                    refine take_ (i := 36) (N := some 108) (v := ?_) (a' := ?_) #[true, true, true, true, true, true, true, true, true, true, true, true, true, true, true, true, true, true, true, true, true, true, true, true, true, true, true, true, true, true, true, true, true, true, true, true, true, false, false, false, false, false, false, false, false, false, false, false, false, false, false, false, false, false, false, false, false, false, false, false, false, false, false, false, false, false, false, false, false, false, false, false] rfl rfl (take_ofW HT_.out HW_.out (by kernel_rfl)) (fun _ _ _ h => h) (Or.inl ⟨by rfl, ?_⟩) hHeld ?_ ?_
                                    rotate_left
                                    · rintro w' ⟨s0, s1, s2, s3, s4, s5, s6, s7, s8, s9, s10, s11, s12, s13, s14, s15⟩
                                      go_simp
                                      with_reducible rfl
                                    rotate_left
                                    · simp only [Act.put, List.setIfInBounds_toArray, List.set_cons_zero, List.set_cons_succ, i64_w, i32_w]
                                      rfl
                                    refine pure_ (i := 37) (N := some 109) (v := ?_) (a' := ?_) #[true, true, true, true, true, true, true, true, true, true, true, true, true, true, true, true, true, true, true, true, true, true, true, true, true, true, true, true, true, true, true, true, true, true, true, true, true, true, false, false, false, false, false, false, false, false, false, false, false, false, false, false, false, false, false, false, false, false, false, false, false, false, false, false, false, false, false, false, false, false, false, false] rfl rfl (any_of HT_.out (by kernel_rfl)) (fun _ _ _ h => h) (Or.inl ⟨by rfl, ?_⟩) ?_ ?_
                                    rotate_left
                                    · intro w'
                                      go_simp
                                      with_reducible rfl
                                    rotate_left
                                    · simp only [Act.put, List.setIfInBounds_toArray, List.set_cons_zero, List.set_cons_succ, i64_w, i32_w]
                                      rfl
                                    refine pure_ (i := 38) (N := some 110) (v := ?_) (a' := ?_) #[true, true, true, true, true, true, true, true, true, true, true, true, true, true, true, true, true, true, true, true, true, true, true, true, true, true, true, true, true, true, true, true, true, true, true, true, true, true, true, false, false, false, false, false, false, false, false, false, false, false, false, false, false, false, false, false, false, false, false, false, false, false, false, false, false, false, false, false, false, false, false, false] rfl rfl (any_of HT_.out (by kernel_rfl)) (fun _ _ _ h => h) (Or.inl ⟨by rfl, ?_⟩) ?_ ?_
                                    rotate_left
                                    · intro w'
                                      go_simp
                                      with_reducible rfl
                                    rotate_left
                                    · simp only [Act.put, List.setIfInBounds_toArray, List.set_cons_zero, List.set_cons_succ, i64_w, i32_w]
                                      rfl
                                    refine pure_ (i := 39) (N := some 111) (v := ?_) (a' := ?_) #[true, true, true, true, true, true, true, true, true, true, true, true, true, true, true, true, true, true, true, true, true, true, true, true, true, true, true, true, true, true, true, true, true, true, true, true, true, true, true, true, false, false, false, false, false, false, false, false, false, false, false, false, false, false, false, false, false, false, false, false, false, false, false, false, false, false, false, false, false, false, false, false] rfl rfl (any_of HT_.out (by kernel_rfl)) (fun _ _ _ h => h) (Or.inl ⟨by rfl, ?_⟩) ?_ ?_
                                    rotate_left
                                    · intro w'
                                      go_simp
                                      with_reducible rfl
                                    rotate_left
                                    · simp only [Act.put, List.setIfInBounds_toArray, List.set_cons_zero, List.set_cons_succ, i64_w, i32_w]
                                      rfl
                                    refine pure_ (i := 40) (N := some 112) (v := ?_) (a' := ?_) #[true, true, true, true, true, true, true, true, true, true, true, true, true, true, true, true, true, true, true, true, true, true, true, true, true, true, true, true, true, true, true, true, true, true, true, true, true, true, true, true, true, false, false, false, false, false, false, false, false, false, false, false, false, false, false, false, false, false, false, false, false, false, false, false, false, false, false, false, false, false, false, false] rfl rfl (any_of HT_.out (by kernel_rfl)) (fun _ _ _ h => h) (Or.inl ⟨by rfl, ?_⟩) ?_ ?_
                                    rotate_left
                                    · intro w'
                                      go_simp
                                      with_reducible rfl
                                    rotate_left
                                    · simp only [Act.put, List.setIfInBounds_toArray, List.set_cons_zero, List.set_cons_succ, i64_w, i32_w]
                                      rfl
                                    refine pure_ (i := 41) (N := some 113) (v := ?_) (a' := ?_) #[true, true, true, true, true, true, true, true, true, true, true, true, true, true, true, true, true, true, true, true, true, true, true, true, true, true, true, true, true, true, true, true, true, true, true, true, true, true, true, true, true, true, false, false, false, false, false, false, false, false, false, false, false, false, false, false, false, false, false, false, false, false, false, false, false, false, false, false, false, false, false, false] rfl rfl (any_of HT_.out (by kernel_rfl)) (fun _ _ _ h => h) (Or.inl ⟨by rfl, ?_⟩) ?_ ?_
                                    rotate_left
                                    · intro w'
                                      go_simp
                                      with_reducible rfl
                                    rotate_left
                                    · simp only [Act.put, List.setIfInBounds_toArray, List.set_cons_zero, List.set_cons_succ, i64_w, i32_w]
                                      rfl
                                    refine pure_ (i := 43) (N := some 115) (v := ?_) (a' := ?_) #[true, true, true, true, true, true, true, true, true, true, true, true, true, true, true, true, true, true, true, true, true, true, true, true, true, true, true, true, true, true, true, true, true, true, true, true, true, true, true, true, true, true, false, true, false, false, false, false, false, false, false, false, false, false, false, false, false, false, false, false, false, false, false, false, false, false, false, false, false, false, false, false] rfl rfl (any_of HT_.out (by kernel_rfl)) (fun _ _ _ h => h) (Or.inl ⟨by rfl, ?_⟩) ?_ ?_
                                    rotate_left
                                    · intro w'
                                      go_simp
                                      with_reducible rfl
                                    rotate_left
                                    · simp only [Act.put, List.setIfInBounds_toArray, List.set_cons_zero, List.set_cons_succ, i64_w, i32_w]
                                      rfl
                                    refine pure_ (i := 44) (N := some 116) (v := ?_) (a' := ?_) #[true, true, true, true, true, true, true, true, true, true, true, true, true, true, true, true, true, true, true, true, true, true, true, true, true, true, true, true, true, true, true, true, true, true, true, true, true, true, true, true, true, true, false, true, true, false, false, false, false, false, false, false, false, false, false, false, false, false, false, false, false, false, false, false, false, false, false, false, false, false, false, false] rfl rfl (any_of HT_.out (by kernel_rfl)) (fun _ _ _ h => h) (Or.inl ⟨by rfl, ?_⟩) ?_ ?_
                                    rotate_left
                                    · intro w'
                                      go_simp
                                      with_reducible rfl
                                    rotate_left
                                    · simp only [Act.put, List.setIfInBounds_toArray, List.set_cons_zero, List.set_cons_succ, i64_w, i32_w]
                                      rfl
                                    refine pure_ (i := 45) (N := some 117) (v := ?_) (a' := ?_) #[true, true, true, true, true, true, true, true, true, true, true, true, true, true, true, true, true, true, true, true, true, true, true, true, true, true, true, true, true, true, true, true, true, true, true, true, true, true, true, true, true, true, false, true, true, true, false, false, false, false, false, false, false, false, false, false, false, false, false, false, false, false, false, false, false, false, false, false, false, false, false, false] rfl rfl (any_of HT_.out (by kernel_rfl)) (fun _ _ _ h => h) (Or.inl ⟨by rfl, ?_⟩) ?_ ?_
                                    rotate_left
                                    · intro w'
                                      go_simp
                                      with_reducible rfl
                                    rotate_left
                                    · simp only [Act.put, List.setIfInBounds_toArray, List.set_cons_zero, List.set_cons_succ, i64_w, i32_w]
                                      rfl
                                    refine take_ (i := 42) (N := some 114) (v := ?_) (a' := ?_) #[true, true, true, true, true, true, true, true, true, true, true, true, true, true, true, true, true, true, true, true, true, true, true, true, true, true, true, true, true, true, true, true, true, true, true, true, true, true, true, true, true, true, true, true, true, true, false, false, false, false, false, false, false, false, false, false, false, false, false, false, false, false, false, false, false, false, false, false, false, false, false, false] rfl rfl (take_ofW HT_.out HW_.out (by kernel_rfl)) (fun _ _ _ h => h) (Or.inl ⟨by rfl, ?_⟩) hHeld ?_ ?_
                                    rotate_left
                                    · rintro w' ⟨s0, s1, s2, s3, s4, s5, s6, s7, s8, s9, s10, s11, s12, s13, s14, s15⟩
                                      go_simp
                                      with_reducible rfl
                                    rotate_left
                                    · simp only [Act.put, List.setIfInBounds_toArray, List.set_cons_zero, List.set_cons_succ, i64_w, i32_w]
                                      rfl
                                    refine one_ (i := 46) (N := some 118) #[true, true, true, true, true, true, true, true, true, true, true, true, true, true, true, true, true, true, true, true, true, true, true, true, true, true, true, true, true, true, true, true, true, true, true, true, true, true, true, true, true, true, true, true, true, true, true, false, false, false, false, false, false, false, false, false, false, false, false, false, false, false, false, false, false, false, false, false, false, false, false, false] rfl rfl (one_of HT_.out (by kernel_rfl)) (by decide) (fun K hK => ?_)
                                    refine goes_ Try.func25 (by kernel_rfl) rfl #[.bool (Op.bytesLess a0.toList a1.toList)] (by rfl) rfl rfl (by (try simp only [List.map_toArray, List.map_cons, List.map_nil]); first | done | rfl | (simp only [List.length_drop, List.length_take]; rfl)) ?_
                                    with_reducible refine (chrysalislaw17_truth.calls (Op.bytesLess a0.toList a1.toList) t650 _ A104.out).mono ?_
                                    rintro e w' ⟨rfl, ⟨nd, rfl⟩⟩
                                    refine ⟨_, rfl, ?_⟩
                                    obtain ⟨Ao153, co153, eo153⟩ := Kd.R_slice HO649.out
                                    (first | subst eo153 | (injection eo153 with f1_ f2_ f3_; have f4_ := f1_.symm; have f5_ := f3_.symm; clear f1_ f2_ f3_; subst f4_; subst f5_))
                                    refine hK.out _ _ ⟨(blk_cell BK627.out 0).trans rfl, (blk_cell BK627.out 1).trans rfl, (blk_cell BK627.out 2).trans rfl, (blk_cell BK632.out 0).trans rfl, (blk_cell BK632.out 1).trans rfl, (blk_cell BK632.out 2).trans rfl, (blk_cell BK637.out 0).trans rfl, (blk_cell BK637.out 1).trans rfl, (blk_cell BK637.out 2).trans rfl, (blk_cell BK642.out 0).trans rfl, (blk_cell BK642.out 1).trans rfl, (blk_cell BK642.out 2).trans rfl, hHeld.2.2.2.2.2.2.2.2.2.2.2.2.1, hHeld.2.2.2.2.2.2.2.2.2.2.2.2.2.1, hHeld.2.2.2.2.2.2.2.2.2.2.2.2.2.2.1, hHeld.2.2.2.2.2.2.2.2.2.2.2.2.2.2.2⟩ (fun hHeld => ?_)
                                    clear hK K
                                    refine norm_ (a' := ?_) ?_ ?_
                                    rotate_left
                                    · show Act.put _ (some 118) _ = _
                                      simp only [Act.put, List.setIfInBounds_toArray, List.set_cons_zero, List.set_cons_succ, i64_w, i32_w]
                                      rfl
                                    refine pure_ (i := 47) (N := some 119) (v := ?_) (a' := ?_) #[true, true, true, true, true, true, true, true, true, true, true, true, true, true, true, true, true, true, true, true, true, true, true, true, true, true, true, true, true, true, true, true, true, true, true, true, true, true, true, true, true, true, true, true, true, true, true, true, false, false, false, false, false, false, false, false, false, false, false, false, false, false, false, false, false, false, false, false, false, false, false, false] rfl rfl (any_of HT_.out (by kernel_rfl)) (fun _ _ _ h => h) (Or.inl ⟨by rfl, ?_⟩) ?_ ?_
                                    rotate_left
                                    · intro w'
                                      go_simp
                                      with_reducible rfl
                                    rotate_left
                                    · simp only [Act.put, List.setIfInBounds_toArray, List.set_cons_zero, List.set_cons_succ, i64_w, i32_w]
                                      rfl
                                    refine pure_ (i := 48) (N := some 120) (v := ?_) (a' := ?_) #[true, true, true, true, true, true, true, true, true, true, true, true, true, true, true, true, true, true, true, true, true, true, true, true, true, true, true, true, true, true, true, true, true, true, true, true, true, true, true, true, true, true, true, true, true, true, true, true, true, false, false, false, false, false, false, false, false, false, false, false, false, false, false, false, false, false, false, false, false, false, false, false] rfl rfl (any_of HT_.out (by kernel_rfl)) (fun _ _ _ h => h) (Or.inl ⟨by rfl, ?_⟩) ?_ ?_
                                    rotate_left
                                    · intro w'
                                      go_simp
                                      with_reducible rfl
                                    rotate_left
                                    · simp only [Act.put, List.setIfInBounds_toArray, List.set_cons_zero, List.set_cons_succ, i64_w, i32_w]
                                      rfl
                                    refine pure_ (i := 49) (N := some 121) (v := ?_) (a' := ?_) #[true, true, true, true, true, true, true, true, true, true, true, true, true, true, true, true, true, true, true, true, true, true, true, true, true, true, true, true, true, true, true, true, true, true, true, true, true, true, true, true, true, true, true, true, true, true, true, true, true, true, false, false, false, false, false, false, false, false, false, false, false, false, false, false, false, false, false, false, false, false, false, false] rfl rfl (any_of HT_.out (by kernel_rfl)) (fun _ _ _ h => h) (Or.inl ⟨by rfl, ?_⟩) ?_ ?_
                                    rotate_left
                                    · intro w'
                                      go_simp
                                      with_reducible rfl
                                    rotate_left
                                    · simp only [Act.put, List.setIfInBounds_toArray, List.set_cons_zero, List.set_cons_succ, i64_w, i32_w]
                                      rfl
                                    refine pure_ (i := 50) (N := some 122) (v := ?_) (a' := ?_) #[true, true, true, true, true, true, true, true, true, true, true, true, true, true, true, true, true, true, true, true, true, true, true, true, true, true, true, true, true, true, true, true, true, true, true, true, true, true, true, true, true, true, true, true, true, true, true, true, true, true, true, false, false, false, false, false, false, false, false, false, false, false, false, false, false, false, false, false, false, false, false, false] rfl rfl (any_of HT_.out (by kernel_rfl)) (fun _ _ _ h => h) (Or.inl ⟨by rfl, ?_⟩) ?_ ?_
                                    rotate_left
                                    · intro w'
                                      go_simp
                                      with_reducible rfl
                                    rotate_left
                                    · simp only [Act.put, List.setIfInBounds_toArray, List.set_cons_zero, List.set_cons_succ, i64_w, i32_w]
                                      rfl
                                    refine pure_ (i := 51) (N := some 123) (v := ?_) (a' := ?_) #[true, true, true, true, true, true, true, true, true, true, true, true, true, true, true, true, true, true, true, true, true, true, true, true, true, true, true, true, true, true, true, true, true, true, true, true, true, true, true, true, true, true, true, true, true, true, true, true, true, true, true, true, false, false, false, false, false, false, false, false, false, false, false, false, false, false, false, false, false, false, false, false] rfl rfl (any_of HT_.out (by kernel_rfl)) (fun _ _ _ h => h) (Or.inl ⟨by rfl, ?_⟩) ?_ ?_
                                    rotate_left
                                    · intro w'
                                      go_simp
                                      with_reducible rfl
                                    rotate_left
                                    · simp only [Act.put, List.setIfInBounds_toArray, List.set_cons_zero, List.set_cons_succ, i64_w, i32_w]
                                      rfl
                                    refine pure_ (i := 52) (N := some 124) (v := ?_) (a' := ?_) #[true, true, true, true, true, true, true, true, true, true, true, true, true, true, true, true, true, true, true, true, true, true, true, true, true, true, true, true, true, true, true, true, true, true, true, true, true, true, true, true, true, true, true, true, true, true, true, true, true, true, true, true, true, false, false, false, false, false, false, false, false, false, false, false, false, false, false, false, false, false, false, false] rfl rfl (any_of HT_.out (by kernel_rfl)) (fun _ _ _ h => h) (Or.inl ⟨by rfl, ?_⟩) ?_ ?_
                                    rotate_left
                                    · intro w'
                                      go_simp
                                      with_reducible rfl
                                    rotate_left
                                    · simp only [Act.put, List.setIfInBounds_toArray, List.set_cons_zero, List.set_cons_succ, i64_w, i32_w]
                                      rfl
                                    refine pure_ (i := 53) (N := some 125) (v := ?_) (a' := ?_) #[true, true, true, true, true, true, true, true, true, true, true, true, true, true, true, true, true, true, true, true, true, true, true, true, true, true, true, true, true, true, true, true, true, true, true, true, true, true, true, true, true, true, true, true, true, true, true, true, true, true, true, true, true, true, false, false, false, false, false, false, false, false, false, false, false, false, false, false, false, false, false, false] rfl rfl (any_of HT_.out (by kernel_rfl)) (fun _ _ _ h => h) (Or.inl ⟨by rfl, ?_⟩) ?_ ?_
                                    rotate_left
                                    · intro w'
                                      go_simp
                                      with_reducible rfl
                                    rotate_left
                                    · simp only [Act.put, List.setIfInBounds_toArray, List.set_cons_zero, List.set_cons_succ, i64_w, i32_w]
                                      rfl
                                    refine pure_ (i := 54) (N := some 126) (v := ?_) (a' := ?_) #[true, true, true, true, true, true, true, true, true, true, true, true, true, true, true, true, true, true, true, true, true, true, true, true, true, true, true, true, true, true, true, true, true, true, true, true, true, true, true, true, true, true, true, true, true, true, true, true, true, true, true, true, true, true, true, false, false, false, false, false, false, false, false, false, false, false, false, false, false, false, false, false] rfl rfl (any_of HT_.out (by kernel_rfl)) (fun _ _ _ h => h) (Or.inl ⟨by rfl, ?_⟩) ?_ ?_
                                    rotate_left
                                    · intro w'
                                      go_simp
                                      with_reducible rfl
                                    rotate_left
                                    · simp only [Act.put, List.setIfInBounds_toArray, List.set_cons_zero, List.set_cons_succ, i64_w, i32_w]
                                      rfl
                                    refine pure_ (i := 55) (N := some 127) (v := ?_) (a' := ?_) #[true, true, true, true, true, true, true, true, true, true, true, true, true, true, true, true, true, true, true, true, true, true, true, true, true, true, true, true, true, true, true, true, true, true, true, true, true, true, true, true, true, true, true, true, true, true, true, true, true, true, true, true, true, true, true, true, false, false, false, false, false, false, false, false, false, false, false, false, false, false, false, false] rfl rfl (any_of HT_.out (by kernel_rfl)) (fun _ _ _ h => h) (Or.inl ⟨by rfl, ?_⟩) ?_ ?_
                                    rotate_left
                                    · intro w'
                                      go_simp
                                      with_reducible rfl
                                    rotate_left
                                    · simp only [Act.put, List.setIfInBounds_toArray, List.set_cons_zero, List.set_cons_succ, i64_w, i32_w]
                                      rfl
                                    refine pure_ (i := 56) (N := some 128) (v := ?_) (a' := ?_) #[true, true, true, true, true, true, true, true, true, true, true, true, true, true, true, true, true, true, true, true, true, true, true, true, true, true, true, true, true, true, true, true, true, true, true, true, true, true, true, true, true, true, true, true, true, true, true, true, true, true, true, true, true, true, true, true, true, false, false, false, false, false, false, false, false, false, false, false, false, false, false, false] rfl rfl (any_of HT_.out (by kernel_rfl)) (fun _ _ _ h => h) (Or.inl ⟨by rfl, ?_⟩) ?_ ?_
                                    rotate_left
                                    · intro w'
                                      go_simp
                                      with_reducible rfl
                                    rotate_left
                                    · simp only [Act.put, List.setIfInBounds_toArray, List.set_cons_zero, List.set_cons_succ, i64_w, i32_w]
                                      rfl
                                    refine pure_ (i := 57) (N := some 129) (v := ?_) (a' := ?_) #[true, true, true, true, true, true, true, true, true, true, true, true, true, true, true, true, true, true, true, true, true, true, true, true, true, true, true, true, true, true, true, true, true, true, true, true, true, true, true, true, true, true, true, true, true, true, true, true, true, true, true, true, true, true, true, true, true, true, false, false, false, false, false, false, false, false, false, false, false, false, false, false] rfl rfl (any_of HT_.out (by kernel_rfl)) (fun _ _ _ h => h) (Or.inl ⟨by rfl, ?_⟩) ?_ ?_
                                    rotate_left
                                    · intro w'
                                      go_simp
                                      with_reducible rfl
                                    rotate_left
                                    · simp only [Act.put, List.setIfInBounds_toArray, List.set_cons_zero, List.set_cons_succ, i64_w, i32_w]
                                      rfl
                                    refine pure_ (i := 58) (N := some 130) (v := ?_) (a' := ?_) #[true, true, true, true, true, true, true, true, true, true, true, true, true, true, true, true, true, true, true, true, true, true, true, true, true, true, true, true, true, true, true, true, true, true, true, true, true, true, true, true, true, true, true, true, true, true, true, true, true, true, true, true, true, true, true, true, true, true, true, false, false, false, false, false, false, false, false, false, false, false, false, false] rfl rfl (any_of HT_.out (by kernel_rfl)) (fun _ _ _ h => h) (Or.inl ⟨by rfl, ?_⟩) ?_ ?_
                                    rotate_left
                                    · intro w'
                                      go_simp
                                      with_reducible rfl
                                    rotate_left
                                    · simp only [Act.put, List.setIfInBounds_toArray, List.set_cons_zero, List.set_cons_succ, i64_w, i32_w]
                                      rfl
                                    refine pure_ (i := 59) (N := some 131) (v := ?_) (a' := ?_) #[true, true, true, true, true, true, true, true, true, true, true, true, true, true, true, true, true, true, true, true, true, true, true, true, true, true, true, true, true, true, true, true, true, true, true, true, true, true, true, true, true, true, true, true, true, true, true, true, true, true, true, true, true, true, true, true, true, true, true, true, false, false, false, false, false, false, false, false, false, false, false, false] rfl rfl (any_of HT_.out (by kernel_rfl)) (fun _ _ _ h => h) (Or.inl ⟨by rfl, ?_⟩) ?_ ?_
                                    rotate_left
                                    · intro w'
                                      go_simp
                                      with_reducible rfl
                                    rotate_left
                                    · simp only [Act.put, List.setIfInBounds_toArray, List.set_cons_zero, List.set_cons_succ, i64_w, i32_w]
                                      rfl
                                    refine pure_ (i := 60) (N := some 132) (v := ?_) (a' := ?_) #[true, true, true, true, true, true, true, true, true, true, true, true, true, true, true, true, true, true, true, true, true, true, true, true, true, true, true, true, true, true, true, true, true, true, true, true, true, true, true, true, true, true, true, true, true, true, true, true, true, true, true, true, true, true, true, true, true, true, true, true, true, false, false, false, false, false, false, false, false, false, false, false] rfl rfl (any_of HT_.out (by kernel_rfl)) (fun _ _ _ h => h) (Or.inl ⟨by rfl, ?_⟩) ?_ ?_
                                    rotate_left
                                    · intro w'
                                      go_simp
                                      with_reducible rfl
                                    rotate_left
                                    · simp only [Act.put, List.setIfInBounds_toArray, List.set_cons_zero, List.set_cons_succ, i64_w, i32_w]
                                      rfl
                                    refine pure_ (i := 61) (N := some 133) (v := ?_) (a' := ?_) #[true, true, true, true, true, true, true, true, true, true, true, true, true, true, true, true, true, true, true, true, true, true, true, true, true, true, true, true, true, true, true, true, true, true, true, true, true, true, true, true, true, true, true, true, true, true, true, true, true, true, true, true, true, true, true, true, true, true, true, true, true, true, false, false, false, false, false, false, false, false, false, false] rfl rfl (any_of HT_.out (by kernel_rfl)) (fun _ _ _ h => h) (Or.inl ⟨by rfl, ?_⟩) ?_ ?_
                                    rotate_left
                                    · intro w'
                                      go_simp
                                      with_reducible rfl
                                    rotate_left
                                    · simp only [Act.put, List.setIfInBounds_toArray, List.set_cons_zero, List.set_cons_succ, i64_w, i32_w]
                                      rfl
                                    refine pure_ (i := 63) (N := some 135) (v := ?_) (a' := ?_) #[true, true, true, true, true, true, true, true, true, true, true, true, true, true, true, true, true, true, true, true, true, true, true, true, true, true, true, true, true, true, true, true, true, true, true, true, true, true, true, true, true, true, true, true, true, true, true, true, true, true, true, true, true, true, true, true, true, true, true, true, true, true, false, true, false, false, false, false, false, false, false, false] rfl rfl (any_of HT_.out (by kernel_rfl)) (fun _ _ _ h => h) (Or.inl ⟨by rfl, ?_⟩) ?_ ?_
                                    rotate_left
                                    · intro w'
                                      go_simp
                                      with_reducible rfl
                                    rotate_left
                                    · simp only [Act.put, List.setIfInBounds_toArray, List.set_cons_zero, List.set_cons_succ, i64_w, i32_w]
                                      rfl
                                    refine pure_ (i := 64) (N := some 136) (v := ?_) (a' := ?_) #[true, true, true, true, true, true, true, true, true, true, true, true, true, true, true, true, true, true, true, true, true, true, true, true, true, true, true, true, true, true, true, true, true, true, true, true, true, true, true, true, true, true, true, true, true, true, true, true, true, true, true, true, true, true, true, true, true, true, true, true, true, true, false, true, true, false, false, false, false, false, false, false] rfl rfl (any_of HT_.out (by kernel_rfl)) (fun _ _ _ h => h) (Or.inl ⟨by rfl, ?_⟩) ?_ ?_
                                    rotate_left
                                    · intro w'
                                      go_simp
                                      with_reducible rfl
                                    rotate_left
                                    · simp only [Act.put, List.setIfInBounds_toArray, List.set_cons_zero, List.set_cons_succ, i64_w, i32_w]
                                      rfl
                                    refine pure_ (i := 65) (N := some 137) (v := ?_) (a' := ?_) #[true, true, true, true, true, true, true, true, true, true, true, true, true, true, true, true, true, true, true, true, true, true, true, true, true, true, true, true, true, true, true, true, true, true, true, true, true, true, true, true, true, true, true, true, true, true, true, true, true, true, true, true, true, true, true, true, true, true, true, true, true, true, false, true, true, true, false, false, false, false, false, false] rfl rfl (any_of HT_.out (by kernel_rfl)) (fun _ _ _ h => h) (Or.inl ⟨by rfl, ?_⟩) ?_ ?_
                                    rotate_left
                                    · intro w'
                                      go_simp
                                      with_reducible rfl
                                    rotate_left
                                    · simp only [Act.put, List.setIfInBounds_toArray, List.set_cons_zero, List.set_cons_succ, i64_w, i32_w]
                                      rfl
                                    refine take_ (i := 62) (N := some 134) (v := ?_) (a' := ?_) #[true, true, true, true, true, true, true, true, true, true, true, true, true, true, true, true, true, true, true, true, true, true, true, true, true, true, true, true, true, true, true, true, true, true, true, true, true, true, true, true, true, true, true, true, true, true, true, true, true, true, true, true, true, true, true, true, true, true, true, true, true, true, true, true, true, true, false, false, false, false, false, false] rfl rfl (take_ofW HT_.out HW_.out (by kernel_rfl)) (fun _ _ _ h => h) (Or.inl ⟨by rfl, ?_⟩) hHeld ?_ ?_
                                    rotate_left
                                    · rintro w' ⟨s0, s1, s2, s3, s4, s5, s6, s7, s8, s9, s10, s11, s12, s13, s14, s15⟩
                                      go_simp
                                      with_reducible rfl
                                    rotate_left
                                    · simp only [Act.put, List.setIfInBounds_toArray, List.set_cons_zero, List.set_cons_succ, i64_w, i32_w]
                                      rfl
                                    refine pure_ (i := 66) (N := some 138) (v := ?_) (a' := ?_) #[true, true, true, true, true, true, true, true, true, true, true, true, true, true, true, true, true, true, true, true, true, true, true, true, true, true, true, true, true, true, true, true, true, true, true, true, true, true, true, true, true, true, true, true, true, true, true, true, true, true, true, true, true, true, true, true, true, true, true, true, true, true, true, true, true, true, true, false, false, false, false, false] rfl rfl (any_of HT_.out (by kernel_rfl)) (fun _ _ _ h => h) (Or.inl ⟨by rfl, ?_⟩) ?_ ?_
                                    rotate_left
                                    · intro w'
                                      go_simp
                                      with_reducible rfl
                                    rotate_left
                                    · simp only [Act.put, List.setIfInBounds_toArray, List.set_cons_zero, List.set_cons_succ, i64_w, i32_w]
                                      rfl
                                    refine pure_ (i := 67) (N := some 139) (v := ?_) (a' := ?_) #[true, true, true, true, true, true, true, true, true, true, true, true, true, true, true, true, true, true, true, true, true, true, true, true, true, true, true, true, true, true, true, true, true, true, true, true, true, true, true, true, true, true, true, true, true, true, true, true, true, true, true, true, true, true, true, true, true, true, true, true, true, true, true, true, true, true, true, true, false, false, false, false] rfl rfl (any_of HT_.out (by kernel_rfl)) (fun _ _ _ h => h) (Or.inl ⟨by rfl, ?_⟩) ?_ ?_
                                    rotate_left
                                    · intro w'
                                      go_simp
                                      with_reducible rfl
                                    rotate_left
                                    · simp only [Act.put, List.setIfInBounds_toArray, List.set_cons_zero, List.set_cons_succ, i64_w, i32_w]
                                      rfl
                                    refine pure_ (i := 68) (N := some 140) (v := ?_) (a' := ?_) #[true, true, true, true, true, true, true, true, true, true, true, true, true, true, true, true, true, true, true, true, true, true, true, true, true, true, true, true, true, true, true, true, true, true, true, true, true, true, true, true, true, true, true, true, true, true, true, true, true, true, true, true, true, true, true, true, true, true, true, true, true, true, true, true, true, true, true, true, true, false, false, false] rfl rfl (any_of HT_.out (by kernel_rfl)) (fun _ _ _ h => h) (Or.inl ⟨by rfl, ?_⟩) ?_ ?_
                                    rotate_left
                                    · intro w'
                                      go_simp
                                      with_reducible rfl
                                    rotate_left
                                    · simp only [Act.put, List.setIfInBounds_toArray, List.set_cons_zero, List.set_cons_succ, i64_w, i32_w]
                                      rfl
                                    refine one_ (i := 69) (N := some 141) #[true, true, true, true, true, true, true, true, true, true, true, true, true, true, true, true, true, true, true, true, true, true, true, true, true, true, true, true, true, true, true, true, true, true, true, true, true, true, true, true, true, true, true, true, true, true, true, true, true, true, true, true, true, true, true, true, true, true, true, true, true, true, true, true, true, true, true, true, true, true, false, false] rfl rfl (one_of HT_.out (by kernel_rfl)) (by decide) (fun K hK => ?_)
                                    refine goes_ Try.func11 (by kernel_rfl) rfl #[] (by rfl) rfl rfl (by (try simp only [List.map_toArray, List.map_cons, List.map_nil]); first | done | rfl | (simp only [List.length_drop, List.length_take]; rfl)) ?_
                                    with_reducible refine (chrysalislaw17_known.calls kj2  t652 _ A110.out).mono ?_
                                    rintro e w154 ⟨rfl, hb⟩
                                    have HS12_ := (hb.cell (World.block_lt_of_cell? _ _ (hHeld.2.2.2.2.2.2.2.2.2.2.2.2.1))).trans (hHeld.2.2.2.2.2.2.2.2.2.2.2.2.1)
                                    have HS13_ := (hb.cell (World.block_lt_of_cell? _ _ (hHeld.2.2.2.2.2.2.2.2.2.2.2.2.2.1))).trans (hHeld.2.2.2.2.2.2.2.2.2.2.2.2.2.1)
                                    have HS14_ := (hb.cell (World.block_lt_of_cell? _ _ (hHeld.2.2.2.2.2.2.2.2.2.2.2.2.2.2.1))).trans (hHeld.2.2.2.2.2.2.2.2.2.2.2.2.2.2.1)
                                    have HS15_ := (hb.cell (World.block_lt_of_cell? _ _ (hHeld.2.2.2.2.2.2.2.2.2.2.2.2.2.2.2))).trans (hHeld.2.2.2.2.2.2.2.2.2.2.2.2.2.2.2)
                                    refine ⟨_, rfl, ?_⟩
                                    have n0_ := Aside0.mk (Kd.R_below (by (with_reducible repeat (first | apply Kd.R_alloc | apply Kd.R_drewN | apply Kd.R_drew)); exact HO649.out) hb)
                                    have n1_ := Aside0.mk (blk_below (g := gb618) (o := .cells #[.int .i64 t615, .int .i64 t616, .string t617] 23 (0, 0)) (by exact BK618.out) hb)
                                    have n2_ := Aside0.mk (blk_below (g := gb622) (o := .cells #[.int .i64 t619, .int .i64 t620, .string t621] 23 (0, 0)) (by exact BK622.out) hb)
                                    have n3_ := Aside0.mk (blk_below (g := gb627) (o := .cells #[.int .i64 t623, .int .i64 t624, .string t625] 23 (0, 0)) (by exact BK627.out) hb)
                                    have n4_ := Aside0.mk (blk_below (g := gb632) (o := .cells #[.int .i64 t628, .int .i64 t629, .string t630] 23 (0, 0)) (by exact BK632.out) hb)
                                    have n5_ := Aside0.mk (blk_below (g := gb637) (o := .cells #[.int .i64 t633, .int .i64 t634, .string t635] 23 (0, 0)) (by exact BK637.out) hb)
                                    have n6_ := Aside0.mk (blk_below (g := gb642) (o := .cells #[.int .i64 t638, .int .i64 t639, .string t640] 23 (0, 0)) (by exact BK642.out) hb)
                                    have n7_ := Aside0.mk (below_step (by repeat (first | (with_reducible first | exact HB.out | apply below_alloc | apply pw_below_drewN | apply below_drew1 | refine below_set ?_ GE618.out | refine below_set ?_ GE622.out | refine below_set ?_ GE627.out | refine below_set ?_ GE632.out | refine below_set ?_ GE637.out | refine below_set ?_ GE642.out) | exact HB.out)) hb)
                                    clear HO649
                                    clear BK618
                                    clear BK622
                                    clear BK627
                                    clear BK632
                                    clear BK637
                                    clear BK642
                                    clear HB
                                    have HO649 := n0_
                                    have BK618 := n1_
                                    have BK622 := n2_
                                    have BK627 := n3_
                                    have BK632 := n4_
                                    have BK637 := n5_
                                    have BK642 := n6_
                                    have HB := n7_
                                    clear n0_ n1_ n2_ n3_ n4_ n5_ n6_ n7_
                                    (try clear hb)
                                    (try clear hb2)
                                    (try clear hk)
                                    (try clear hi)
                                    refine hK.out _ _ ⟨(blk_cell BK627.out 0).trans rfl, (blk_cell BK627.out 1).trans rfl, (blk_cell BK627.out 2).trans rfl, (blk_cell BK632.out 0).trans rfl, (blk_cell BK632.out 1).trans rfl, (blk_cell BK632.out 2).trans rfl, (blk_cell BK637.out 0).trans rfl, (blk_cell BK637.out 1).trans rfl, (blk_cell BK637.out 2).trans rfl, (blk_cell BK642.out 0).trans rfl, (blk_cell BK642.out 1).trans rfl, (blk_cell BK642.out 2).trans rfl, HS12_, HS13_, HS14_, HS15_⟩ (fun hHeld => ?_)
                                    clear hK K
                                    refine norm_ (a' := ?_) ?_ ?_
                                    rotate_left
                                    · show Act.put _ (some 141) _ = _
                                      simp only [Act.put, List.setIfInBounds_toArray, List.set_cons_zero, List.set_cons_succ, i64_w, i32_w]
                                      rfl
                                    refine pure_ (i := 70) (N := some 142) (v := ?_) (a' := ?_) #[true, true, true, true, true, true, true, true, true, true, true, true, true, true, true, true, true, true, true, true, true, true, true, true, true, true, true, true, true, true, true, true, true, true, true, true, true, true, true, true, true, true, true, true, true, true, true, true, true, true, true, true, true, true, true, true, true, true, true, true, true, true, true, true, true, true, true, true, true, true, true, false] rfl rfl (any_of HT_.out (by kernel_rfl)) (fun _ _ _ h => h) (Or.inl ⟨by rfl, ?_⟩) ?_ ?_
                                    rotate_left
                                    · intro w'
                                      go_simp
                                      with_reducible rfl
                                    rotate_left
                                    · simp only [Act.put, List.setIfInBounds_toArray, List.set_cons_zero, List.set_cons_succ, i64_w, i32_w]
                                      rfl
                                    refine pure_ (i := 71) (N := some 4) (v := ?_) (a' := ?_) #[true, true, true, true, true, true, true, true, true, true, true, true, true, true, true, true, true, true, true, true, true, true, true, true, true, true, true, true, true, true, true, true, true, true, true, true, true, true, true, true, true, true, true, true, true, true, true, true, true, true, true, true, true, true, true, true, true, true, true, true, true, true, true, true, true, true, true, true, true, true, true, true] rfl rfl (any_of HT_.out (by kernel_rfl)) (fun _ _ _ h => h) (Or.inl ⟨by rfl, ?_⟩) ?_ ?_
                                    rotate_left
                                    · intro w'
                                      go_simp
                                      with_reducible rfl
                                    rotate_left
                                    · simp only [Act.put, List.setIfInBounds_toArray, List.set_cons_zero, List.set_cons_succ, i64_w, i32_w]
                                      rfl
                                    refine done_ (done_of HT_.out (by kernel_rfl)) ?_
                                    try go_wp2
                                    go_ret
                                    exact ⟨by first | rfl | (simp [errW_none, errW_some] <;> rfl) | (simp [*, errW_none, errW_some] <;> rfl), by repeat (first | (with_reducible first | exact HB.out | apply below_alloc | apply pw_below_drewN | apply below_drew1 | refine below_set ?_ GE618.out | refine below_set ?_ GE622.out | refine below_set ?_ GE627.out | refine below_set ?_ GE632.out | refine below_set ?_ GE637.out | refine below_set ?_ GE642.out) | exact HB.out)⟩
                                  · rw [if_neg c109] at H
                                    have c109b0 : (((rd_T48 t645 0).f1).toList == (a0 ++ a1).toList) = false := beq_eq_false_iff_ne.mpr c109
                                    have c109b1 : (((rd_T48 t645 0).f1).toList != (a0 ++ a1).toList) = true := bne_iff_ne.mpr c109
                                    exact absurd ((Option.some.inj H).trans HR.out) (by decide)
                                · rw [if_neg c108] at H
                                  exact absurd H (by simp)
                              · rw [if_neg c107] at H
                                have c107b0 : ((t645.length : Int) == 1) = false := beq_eq_false_iff_ne.mpr c107
                                have c107b1 : ((t645.length : Int) != 1) = true := bne_iff_ne.mpr c107
                                exact absurd ((Option.some.inj H).trans HR.out) (by decide)
                            · rw [if_neg c106] at H
                              have c106b0 : (t646 == 0) = false := beq_eq_false_iff_ne.mpr c106
                              have c106b1 : (t646 != 0) = true := bne_iff_ne.mpr c106
                              exact absurd ((Option.some.inj H).trans HR.out) (by decide)
                          · rw [if_neg c105] at H
                            have c105b0 : (t634 == t650) = false := beq_eq_false_iff_ne.mpr c105
                            have c105b1 : (t634 != t650) = true := bne_iff_ne.mpr c105
                            exact absurd ((Option.some.inj H).trans HR.out) (by decide)
                        · rw [if_neg c103] at H
                          have c103b0 : ((wrap64 (t634 + t639)) == 1) = false := beq_eq_false_iff_ne.mpr c103
                          have c103b1 : ((wrap64 (t634 + t639)) != 1) = true := bne_iff_ne.mpr c103
                          exact absurd ((Option.some.inj H).trans HR.out) (by decide)
                      · rw [if_neg c102] at H
                        have c102b0 : (t641 == 0) = false := beq_eq_false_iff_ne.mpr c102
                        have c102b1 : (t641 != 0) = true := bne_iff_ne.mpr c102
                        exact absurd ((Option.some.inj H).trans HR.out) (by decide)
                    · rw [if_neg c101] at H
                      have c101b0 : (t636 == 0) = false := beq_eq_false_iff_ne.mpr c101
                      have c101b1 : (t636 != 0) = true := bne_iff_ne.mpr c101
                      exact absurd ((Option.some.inj H).trans HR.out) (by decide)
                  · rw [if_neg c100] at H
                    have c100b0 : (t629 == (wrap64 ((a0.size : Int) + (a1.size : Int)))) = false := beq_eq_false_iff_ne.mpr c100
                    have cxz : (t629 == (a0.size : Int) + (a1.size : Int)) = false := by have e : wrap64 ((a0.size : Int) + (a1.size : Int)) = (a0.size : Int) + (a1.size : Int) := (by unfold wrap64; omega); rw [← e]; exact c100b0
                    have cxw : (t629 == ((a0.size + a1.size : Nat) : Int)) = false := by rw [Int.natCast_add]; exact cxz
                    have c100b1 : (t629 != (wrap64 ((a0.size : Int) + (a1.size : Int)))) = true := bne_iff_ne.mpr c100
                    exact absurd ((Option.some.inj H).trans HR.out) (by decide)
                · rw [if_neg c99] at H
                  have c99b0 : (t631 == 0) = false := beq_eq_false_iff_ne.mpr c99
                  have c99b1 : (t631 != 0) = true := bne_iff_ne.mpr c99
                  exact absurd ((Option.some.inj H).trans HR.out) (by decide)
              · rw [if_neg c98] at H
                have c98b0 : (t625.toList == (a0 ++ a1).toList) = false := beq_eq_false_iff_ne.mpr c98
                have c98b1 : (t625.toList != (a0 ++ a1).toList) = true := bne_iff_ne.mpr c98
                exact absurd ((Option.some.inj H).trans HR.out) (by decide)
            · rw [if_neg c97] at H
              exact absurd H (by simp)
          · rw [if_neg c96] at H
            have c96b0 : (t626 == 0) = false := beq_eq_false_iff_ne.mpr c96
            have c96b1 : (t626 != 0) = true := bne_iff_ne.mpr c96
            exact absurd ((Option.some.inj H).trans HR.out) (by decide)

/-- THE ONE PURE STATEMENT of chrysalislaw17_OpsTexts: yours. -/
def chrysalislaw17_OpsTexts.Pure : Prop := ∀ (a0 : ByteArray) (a1 : ByteArray), a0.size ≤ 140737488351232 → a1.size ≤ 140737488351232 → ∃ k, chrysalislaw17_OpsTexts.f k a0 a1 = some true
theorem chrysalislaw17_OpsTexts.walk (P : chrysalislaw17_OpsTexts.Pure) (a0 : ByteArray) (a1 : ByteArray) (w : World) (w0 : a0.size ≤ 140737488351232) (w1 : a1.size ≤ 140737488351232) :
    Calls Try.prog 8 #[.string a0, .string a1] w fun e w' => e = .returned (.bool true) ∧ Below w.heap.size w w' := by
  obtain ⟨k, h⟩ := P a0 a1 w0 w1
  refine (chrysalislaw17_OpsTexts.calls k a0 a1 true w h rfl).mono ?_
  rintro e w' ⟨rfl, hd⟩
  exact ⟨rfl, hd⟩

end Go.Proofs.Ytmadbfahdnkecaa.Q
