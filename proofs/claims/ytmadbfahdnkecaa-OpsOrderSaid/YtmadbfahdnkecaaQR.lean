/- Functions that the laws reach, as plain Lean functions, each with a proof that the call does what its function says; no condition. -/
import Derived.Test.YtmadbfahdnkecaaCmp
import Derived.Test.YtmadbfahdnkecaaQ0
import Derived.Test.YtmadbfahdnkecaaQ4
import Derived.Test.YtmadbfahdnkecaaQ8
namespace Go.Proofs.Ytmadbfahdnkecaa.Q
open Go.RowKit Go.Proofs.YtmadbfahdnkecaaW.PrintWords Go.Proofs.YtmadbfahdnkecaaW.PrintLast Go.Proofs.YtmadbfahdnkecaaW.PrintMore
attribute [local go_sem]  Go.Proofs.Ytmadbfahdnkecaa.as_num_num Go.Proofs.Ytmadbfahdnkecaa.as_text_num Go.Proofs.Ytmadbfahdnkecaa.as_nil_num Go.Proofs.Ytmadbfahdnkecaa.as_text_text Go.Proofs.Ytmadbfahdnkecaa.as_num_text Go.Proofs.Ytmadbfahdnkecaa.as_nil_text Go.Proofs.Ytmadbfahdnkecaa.leq_texts max2_int min2_int max_two min_two max_three min_three max_four min_four   -- for this text's walks alone
set_option linter.unusedVariables false
set_option linter.unusedSimpArgs false

theorem chrysalislaw17_OpsOrder.rtab7 : rtab .any (opsOf Try.f4 7) = (true, [([], []), ([], []), ([0, 1], [0, 1]), ([2], [2]), ([3], [3]), ([4], [4]), ([], []), ([], []), ([6, 7], [6, 7]), ([8], [8]), ([9], [9]), ([10], [10]), ([5, 11], [5, 11]), ([12], [12]), ([13], [13]), ([13], [13]), ([], []), ([16, 14, 12, 0, 1, 2, 3, 4, 5, 6, 7, 8, 9, 10, 11, 12, 13, 14, 16], [14, 16]), ([15, 17, 0, 1, 2, 3, 4, 5, 6, 7, 8, 9, 10, 11, 12, 13, 14, 15, 16, 17], [15])]) := by kernel_rfl
theorem chrysalislaw17_OpsOrder.rbits7 : waitsOk ((true, [([], []), ([], []), ([0, 1], [0, 1]), ([2], [2]), ([3], [3]), ([4], [4]), ([], []), ([], []), ([6, 7], [6, 7]), ([8], [8]), ([9], [9]), ([10], [10]), ([5, 11], [5, 11]), ([12], [12]), ([13], [13]), ([13], [13]), ([], []), ([16, 14, 12, 0, 1, 2, 3, 4, 5, 6, 7, 8, 9, 10, 11, 12, 13, 14, 16], [14, 16]), ([15, 17, 0, 1, 2, 3, 4, 5, 6, 7, 8, 9, 10, 11, 12, 13, 14, 15, 16, 17], [15])]) : Bool × List (List Nat × List Nat)).2 [0, 0, 3, 7, 15, 31, 0, 0, 192, 448, 960, 1984, 4095, 8191, 16383, 16383, 0, 98303, 262143] = true := by kernel_rfl
set_option maxHeartbeats 8000000 in
set_option maxRecDepth 100000 in
theorem chrysalislaw17_OpsOrder.reg7 {k2 : Nat} {x : Int} {n co len c0 : Nat} {ad ar : Addr} {p0 p1 : Int} {p2 : ByteArray} {q0 q1 : Int} {q2 : ByteArray} {t0 t1 : Int} {t2 : ByteArray} {t3 : Int}
    {u0 u1 u2 u3 u4 u7 u8 u9 u10 u11 u12 u13 u14 u15 u16 u17 u18 u19 u20 u21 u22 u23 u24 u25 u26 u27 u28 u29 u30 u31 u32 u33 u34 u35 u36 u37 u38 u39 u40 u41 u42 u43 u44 u45 u46 u47 u48 u49 u50 u51 u52 u53 u54 u55 u56 u57 u58 u59 u60 u61 u62 u63 u64 u65 u66 u67 u68 u69 u70 u71 u72 u73 u74 u75 u76 u77 u78 u79 u80 u81 u82 u83 u84 u85 u86 u87 u88 u89 u90 u91 u92 u93 u94 u95 u96 u97 u98 u99 u100 u101 u102 u103 u104 u105 u106 u107 u108 u109 u110 u111 u112 u113 u114 u115 u116 u117 u118 u119 u120 u121 u122 u123 u124 u125 u126 u127 u128 u129 u130 u131 u132 u133 u134 u135 u136 u137 u138 u139 u140 u141 u142 u143 u144 u145 u146 u147 u148 u149 u150 u151 u152 u153 u154 u155 u156 u157 u158 u159 u160 u161 u162 u163 u164 u165 u166 u167 u168 u169 u170 u171 u172 u173 u174 u175 u176 u177 u178 u179 u180 u181 u182 u183 u184 u185 u186 u187 u188 u189 u190 u191 u192 u193 u194 u195 u196 u197 u198 u199 u200 u201 u202 : Value} {wr : World} {Q : Exit → Act → World → Prop}
    (hP : ∀ c (a : Act) (t : Tmp) v w, Q (.panic c) (a.put (some t) v) w → Q (.panic c) a w)
    (A : Aside0 (ops_Two.f k2 (⟨#[60]⟩ : ByteArray) p0 p1 p2 q0 q1 q2 = some (t0, t1, t2, t3))) (hp : (0 ≤ x) = True) (hq : (x < (n : Int)) = True)
    (hi : (0 < (len : Int)) = True) (hj : (1 < (len : Int)) = True) (gi : (0 < len) = True) (gj : (1 < len) = True)
    (h0 : wr.drew.cell? (ad.add x.toNat) = some (.slice (some ar) len c0)) (h1 : wr.drew.cell? ar = some (.int .i64 p0)) (h2 : wr.drew.cell? ⟨ar.block, ar.off + 1, none⟩ = some (.int .i64 p1)) (h3 : wr.drew.cell? ⟨ar.block, ar.off + 2, none⟩ = some (.string p2)) (h4 : wr.drew.cell? ⟨ar.block, ar.off + 3, none⟩ = some (.int .i64 q0)) (h5 : wr.drew.cell? ⟨ar.block, ar.off + 3 + 1, none⟩ = some (.int .i64 q1)) (h6 : wr.drew.cell? ⟨ar.block, ar.off + 3 + 2, none⟩ = some (.string q2))
    (hEnd : ∀ g w' v61 v62 v63 v64 v65 v66 v67 v68 v69 v70 v71 v72 v73 v74 v75 v76, wr.drew.heap.size ≤ g → Below wr.drew.heap.size wr.drew w' → w'.heap[g]? = some (.cells #[.int .i64 t0, .int .i64 t1, .string t2] 23 (0, 0)) → Q .normal { tmps := #[u0, u1, u2, u3, u4, .slice (some ad) n co, .int .i64 x, .pointer (some ⟨g, 0, none⟩), .int .i64 t3, u9, u10, u11, u12, u13, u14, u15, u16, u17, u18, u19, u20, u21, u22, u23, u24, u25, u26, u27, u28, u29, u30, u31, u32, u33, u34, u35, u36, u37, u38, u39, u40, u41, u42, u43, u44, u45, u46, u47, u48, u49, u50, u51, u52, u53, u54, u55, u56, u57, u58, u59, u60, v61, v62, v63, v64, v65, v66, v67, v68, v69, v70, v71, v72, v73, v74, v75, v76, u77, u78, u79, u80, u81, u82, u83, u84, u85, u86, u87, u88, u89, u90, u91, u92, u93, u94, u95, u96, u97, u98, u99, u100, u101, u102, u103, u104, u105, u106, u107, u108, u109, u110, u111, u112, u113, u114, u115, u116, u117, u118, u119, u120, u121, u122, u123, u124, u125, u126, u127, u128, u129, u130, u131, u132, u133, u134, u135, u136, u137, u138, u139, u140, u141, u142, u143, u144, u145, u146, u147, u148, u149, u150, u151, u152, u153, u154, u155, u156, u157, u158, u159, u160, u161, u162, u163, u164, u165, u166, u167, u168, u169, u170, u171, u172, u173, u174, u175, u176, u177, u178, u179, u180, u181, u182, u183, u184, u185, u186, u187, u188, u189, u190, u191, u192, u193, u194, u195, u196, u197, u198, u199, u200, u201, u202], defers := [] } w') :
    (Code.region 7 #[{ dst := some 62, op := Op.move (Operand.tmp 5), type := 33, pos := "law.go:100", after := #[], guard := none },
      { dst := some 63, op := Op.move (Operand.tmp 6), type := 3, pos := "law.go:100", after := #[], guard := none },
      { dst := some 64, op := Op.indexAddr 33 (Operand.tmp 62) (Operand.tmp 63), type := 0, pos := "law.go:100", after := #[{ on := 0, ground := Ground.data }, { on := 1, ground := Ground.data }], guard := none },
      { dst := some 65, op := Op.load 31 (Operand.tmp 64), type := 31, pos := "law.go:100", after := #[{ on := 2, ground := Ground.data }], guard := none },
      { dst := some 66, op := Op.indexAddr 31 (Operand.tmp 65) (Operand.const (Value.int IntKind.i64 0)), type := 0, pos := "law.go:100", after := #[{ on := 3, ground := Ground.data }], guard := none },
      { dst := some 67, op := Op.load 23 (Operand.tmp 66), type := 23, pos := "law.go:100", after := #[{ on := 4, ground := Ground.data }], guard := none },
      { dst := some 68, op := Op.move (Operand.tmp 5), type := 33, pos := "law.go:100", after := #[], guard := none },
      { dst := some 69, op := Op.move (Operand.tmp 6), type := 3, pos := "law.go:100", after := #[], guard := none },
      { dst := some 70, op := Op.indexAddr 33 (Operand.tmp 68) (Operand.tmp 69), type := 0, pos := "law.go:100", after := #[{ on := 6, ground := Ground.data }, { on := 7, ground := Ground.data }], guard := none },
      { dst := some 71, op := Op.load 31 (Operand.tmp 70), type := 31, pos := "law.go:100", after := #[{ on := 8, ground := Ground.data }], guard := none },
      { dst := some 72, op := Op.indexAddr 31 (Operand.tmp 71) (Operand.const (Value.int IntKind.i64 1)), type := 0, pos := "law.go:100", after := #[{ on := 9, ground := Ground.data }], guard := none },
      { dst := some 73, op := Op.load 23 (Operand.tmp 72), type := 23, pos := "law.go:100", after := #[{ on := 10, ground := Ground.data }], guard := none },
      { dst := some 74, op := Op.call { callee := Callee.value (Operand.func 10), args := #[Operand.const (Value.string ⟨#[60]⟩), Operand.tmp 67, Operand.tmp 73], argTypes := #[9, 23, 23] }, type := 25, pos := "law.go:100", after := #[{ on := 5, ground := Ground.data }, { on := 11, ground := Ground.data }], guard := none },
      { dst := some 61, op := Op.move (Operand.tmp 74), type := 25, pos := "law.go:100", after := #[{ on := 12, ground := Ground.data }], guard := none },
      { dst := some 75, op := Op.extract (Operand.tmp 61) 0, type := 23, pos := "law.go:100", after := #[{ on := 13, ground := Ground.data }], guard := none },
      { dst := some 76, op := Op.extract (Operand.tmp 61) 1, type := 3, pos := "law.go:100", after := #[{ on := 13, ground := Ground.data }, { on := 17, ground := Ground.gcOnly Departure.lateStores }], guard := none },
      { dst := some 7, op := Op.alloc 23, type := 0, pos := "law.go:100", after := #[], guard := none },
      { dst := none, op := Op.store 23 (Operand.tmp 7) (Operand.tmp 75), type := 0, pos := "law.go:100", after := #[{ on := 16, ground := Ground.data }, { on := 14, ground := Ground.data }, { on := 12, ground := Ground.chain }, { on := 0, ground := Ground.phase }, { on := 1, ground := Ground.phase }, { on := 2, ground := Ground.phase }, { on := 3, ground := Ground.phase }, { on := 4, ground := Ground.phase }, { on := 5, ground := Ground.phase }, { on := 6, ground := Ground.phase }, { on := 7, ground := Ground.phase }, { on := 8, ground := Ground.phase }, { on := 9, ground := Ground.phase }, { on := 10, ground := Ground.phase }, { on := 11, ground := Ground.phase }, { on := 12, ground := Ground.phase }, { on := 13, ground := Ground.phase }, { on := 14, ground := Ground.phase }, { on := 15, ground := Ground.textOnly Departure.lateStores }, { on := 16, ground := Ground.phase }], guard := none },
      { dst := some 8, op := Op.assign (Operand.tmp 76), type := 3, pos := "law.go:100", after := #[{ on := 15, ground := Ground.data }, { on := 17, ground := Ground.chain }, { on := 0, ground := Ground.phase }, { on := 1, ground := Ground.phase }, { on := 2, ground := Ground.phase }, { on := 3, ground := Ground.phase }, { on := 4, ground := Ground.phase }, { on := 5, ground := Ground.phase }, { on := 6, ground := Ground.phase }, { on := 7, ground := Ground.phase }, { on := 8, ground := Ground.phase }, { on := 9, ground := Ground.phase }, { on := 10, ground := Ground.phase }, { on := 11, ground := Ground.phase }, { on := 12, ground := Ground.phase }, { on := 13, ground := Ground.phase }, { on := 14, ground := Ground.phase }, { on := 15, ground := Ground.phase }, { on := 16, ground := Ground.phase }, { on := 17, ground := Ground.phase }], guard := none }] true).wp Try.prog Q { tmps := #[u0, u1, u2, u3, u4, .slice (some ad) n co, .int .i64 x, u7, u8, u9, u10, u11, u12, u13, u14, u15, u16, u17, u18, u19, u20, u21, u22, u23, u24, u25, u26, u27, u28, u29, u30, u31, u32, u33, u34, u35, u36, u37, u38, u39, u40, u41, u42, u43, u44, u45, u46, u47, u48, u49, u50, u51, u52, u53, u54, u55, u56, u57, u58, u59, u60, u61, u62, u63, u64, u65, u66, u67, u68, u69, u70, u71, u72, u73, u74, u75, u76, u77, u78, u79, u80, u81, u82, u83, u84, u85, u86, u87, u88, u89, u90, u91, u92, u93, u94, u95, u96, u97, u98, u99, u100, u101, u102, u103, u104, u105, u106, u107, u108, u109, u110, u111, u112, u113, u114, u115, u116, u117, u118, u119, u120, u121, u122, u123, u124, u125, u126, u127, u128, u129, u130, u131, u132, u133, u134, u135, u136, u137, u138, u139, u140, u141, u142, u143, u144, u145, u146, u147, u148, u149, u150, u151, u152, u153, u154, u155, u156, u157, u158, u159, u160, u161, u162, u163, u164, u165, u166, u167, u168, u169, u170, u171, u172, u173, u174, u175, u176, u177, u178, u179, u180, u181, u182, u183, u184, u185, u186, u187, u188, u189, u190, u191, u192, u193, u194, u195, u196, u197, u198, u199, u200, u201, u202], defers := [] } wr := by
  have hu29 := Try.underlying29
  have hu30 := Try.underlying30
  have hu23 := Try.underlying23
  refine start_ (n := 19) (S := fun w' => w'.cell? (ad.add x.toNat) = some (.slice (some ar) len c0) ∧ w'.cell? ar = some (.int .i64 p0) ∧ w'.cell? ⟨ar.block, ar.off + 1, none⟩ = some (.int .i64 p1) ∧ w'.cell? ⟨ar.block, ar.off + 2, none⟩ = some (.string p2) ∧ w'.cell? ⟨ar.block, ar.off + 3, none⟩ = some (.int .i64 q0) ∧ w'.cell? ⟨ar.block, ar.off + 3 + 1, none⟩ = some (.int .i64 q1) ∧ w'.cell? ⟨ar.block, ar.off + 3 + 2, none⟩ = some (.string q2)) (ds := []) #[false, false, false, false, false, false, false, false, false, false, false, false, false, false, false, false, false, false, false] (by kernel_rfl) rfl rfl ⟨h0, h1, h2, h3, h4, h5, h6⟩ (fun hHeld => ?_); refine with_tabW chrysalislaw17_OpsOrder.rtab7 chrysalislaw17_OpsOrder.rbits7 (fun HT_ HW_ => ?_)
  generalize wr.drew = w57 at h0 h1 h2 h3 h4 h5 h6 hHeld hEnd ⊢
  have keep : ∀ w', Below w57.heap.size w57 w' → w'.cell? (ad.add x.toNat) = some (.slice (some ar) len c0) ∧ w'.cell? ar = some (.int .i64 p0) ∧ w'.cell? ⟨ar.block, ar.off + 1, none⟩ = some (.int .i64 p1) ∧ w'.cell? ⟨ar.block, ar.off + 2, none⟩ = some (.string p2) ∧ w'.cell? ⟨ar.block, ar.off + 3, none⟩ = some (.int .i64 q0) ∧ w'.cell? ⟨ar.block, ar.off + 3 + 1, none⟩ = some (.int .i64 q1) ∧ w'.cell? ⟨ar.block, ar.off + 3 + 2, none⟩ = some (.string q2) := fun w' hb => ⟨(hb.cell (World.block_lt_of_cell? _ _ h0)).trans h0, (hb.cell (World.block_lt_of_cell? _ _ h1)).trans h1, (hb.cell (World.block_lt_of_cell? _ _ h2)).trans h2, (hb.cell (World.block_lt_of_cell? _ _ h3)).trans h3, (hb.cell (World.block_lt_of_cell? _ _ h4)).trans h4, (hb.cell (World.block_lt_of_cell? _ _ h5)).trans h5, (hb.cell (World.block_lt_of_cell? _ _ h6)).trans h6⟩
  refine pA 0 62 (bQ 19 1) (hQ := fun c a w => hP c a _ _ w) ?_
  refine pA 1 63 (bQ 19 3) (hQ := fun c a w => hP c a _ _ w) ?_
  refine pA 2 64 (bQ 19 7) (hQ := fun c a w => hP c a _ _ w) ?_
  refine pA 6 68 (bQ 19 71) (hQ := fun c a w => hP c a _ _ w) ?_
  refine pA 7 69 (bQ 19 199) (hQ := fun c a w => hP c a _ _ w) ?_
  refine pA 8 70 (bQ 19 455) (hQ := fun c a w => hP c a _ _ w) ?_
  refine take_ (i := 3) (N := some 65) (v := ?_) (a' := ?_) #[true, true, true, true, false, false, true, true, true, false, false, false, false, false, false, false, false, false, false] rfl rfl (take_ofW HT_.out HW_.out (by kernel_rfl)) (fun c a w => hP c a _ _ w) (Or.inl ⟨by rfl, ?_⟩) hHeld ?_ ?_
  rotate_left
  · rintro w' ⟨s0, s1, s2, s3, s4, s5, s6⟩
    go_simp
    with_reducible rfl
  rotate_left
  · simp only [Act.put, List.setIfInBounds_toArray, List.set_cons_zero, List.set_cons_succ, i64_w, i32_w]
    rfl
  refine pA 4 66 (bQ 19 479) (hQ := fun c a w => hP c a _ _ w) ?_
  refine take_ (i := 5) (N := some 67) (v := ?_) (a' := ?_) #[true, true, true, true, true, true, true, true, true, false, false, false, false, false, false, false, false, false, false] rfl rfl (take_ofW HT_.out HW_.out (by kernel_rfl)) (fun c a w => hP c a _ _ w) (Or.inl ⟨by rfl, ?_⟩) hHeld ?_ ?_
  rotate_left
  · rintro w' ⟨s0, s1, s2, s3, s4, s5, s6⟩
    go_simp
    with_reducible rfl
  rotate_left
  · simp only [Act.put, List.setIfInBounds_toArray, List.set_cons_zero, List.set_cons_succ, i64_w, i32_w]
    rfl
  refine take_ (i := 9) (N := some 71) (v := ?_) (a' := ?_) #[true, true, true, true, true, true, true, true, true, true, false, false, false, false, false, false, false, false, false] rfl rfl (take_ofW HT_.out HW_.out (by kernel_rfl)) (fun c a w => hP c a _ _ w) (Or.inl ⟨by rfl, ?_⟩) hHeld ?_ ?_
  rotate_left
  · rintro w' ⟨s0, s1, s2, s3, s4, s5, s6⟩
    go_simp
    with_reducible rfl
  rotate_left
  · simp only [Act.put, List.setIfInBounds_toArray, List.set_cons_zero, List.set_cons_succ, i64_w, i32_w]
    rfl
  refine pA 10 72 (bQ 19 2047) (hQ := fun c a w => hP c a _ _ w) ?_
  refine take_ (i := 11) (N := some 73) (v := ?_) (a' := ?_) #[true, true, true, true, true, true, true, true, true, true, true, true, false, false, false, false, false, false, false] rfl rfl (take_ofW HT_.out HW_.out (by kernel_rfl)) (fun c a w => hP c a _ _ w) (Or.inl ⟨by rfl, ?_⟩) hHeld ?_ ?_
  rotate_left
  · rintro w' ⟨s0, s1, s2, s3, s4, s5, s6⟩
    go_simp
    with_reducible rfl
  rotate_left
  · simp only [Act.put, List.setIfInBounds_toArray, List.set_cons_zero, List.set_cons_succ, i64_w, i32_w]
    rfl
  refine join_ (σ := Nat) 2 #[true, true, true, true, true, true, true, true, true, true, true, true, true, true, true, true, true, false, false] (fun s_ => [(74, .tuple #[.agg #[.int .i64 t0, .int .i64 t1, .string t2], .int .i64 t3]), (7, .pointer (some ⟨s_, 0, none⟩)), (61, .tuple #[.agg #[.int .i64 t0, .int .i64 t1, .string t2], .int .i64 t3]), (75, .agg #[.int .i64 t0, .int .i64 t1, .string t2]), (76, .int .i64 t3)]) (fun s_ w' => (w'.cell? (ad.add x.toNat) = some (.slice (some ar) len c0) ∧ w'.cell? ar = some (.int .i64 p0) ∧ w'.cell? ⟨ar.block, ar.off + 1, none⟩ = some (.int .i64 p1) ∧ w'.cell? ⟨ar.block, ar.off + 2, none⟩ = some (.string p2) ∧ w'.cell? ⟨ar.block, ar.off + 3, none⟩ = some (.int .i64 q0) ∧ w'.cell? ⟨ar.block, ar.off + 3 + 1, none⟩ = some (.int .i64 q1) ∧ w'.cell? ⟨ar.block, ar.off + 3 + 2, none⟩ = some (.string q2)) ∧ w57.heap.size ≤ s_ ∧ w'.heap[s_]? = some (.cells #[.int .i64 0, .int .i64 0, .string (⟨#[]⟩ : ByteArray)] 23 (0, 0)) ∧ Below w57.heap.size w57 w') ?_ ?_
  rotate_left
  · intro hCont
    refine two_ (i := 12) (j := 16) (Ni := some 74) (Nj := some 7) #[true, true, true, true, true, true, true, true, true, true, true, true, true, false, false, false, false, false, false] #[true, true, true, true, true, true, true, true, true, true, true, true, false, false, false, false, true, false, false] rfl rfl rfl rfl (two_of HT_.out (by kernel_rfl)) (by decide) (by decide) (fun K hK => ?_) (fun K hK => ?_)
    · skip
      refine goes_ Try.func10 (by kernel_rfl) rfl #[.string (⟨#[60]⟩ : ByteArray), .agg #[.int .i64 p0, .int .i64 p1, .string p2], .agg #[.int .i64 q0, .int .i64 q1, .string q2]] (by rfl) rfl rfl (by (try simp only [List.map_toArray, List.map_cons, List.map_nil]); first | done | rfl) ?_
      with_reducible refine (ops_Two.calls k2 (⟨#[60]⟩ : ByteArray) p0 p1 p2 q0 q1 q2 t0 t1 t2 t3 _ A.out).mono ?_
      rintro e w59 ⟨rfl, hb⟩
      refine ⟨_, rfl, ?_⟩
      have HB1 := hb
      refine hK.out _ _ (keep _ HB1) (fun hHeld => ?_)
      clear hK K
      refine norm_ (a' := ?_) ?_ ?_
      rotate_left
      · show Act.put _ (some 74) _ = _
        simp only [Act.put, List.setIfInBounds_toArray, List.set_cons_zero, List.set_cons_succ, i64_w, i32_w]
        rfl
      refine pA 13 61 (bQ 19 16383) (hQ := fun c a w => hP c a _ _ w) ?_
      refine pA 14 75 (bQ 19 32767) (hQ := fun c a w => hP c a _ _ w) ?_
      refine pA 15 76 (bQ 19 65535) (hQ := fun c a w => hP c a _ _ w) ?_
      refine one_ (i := 16) (N := some 7) (bQ 19 131071) rfl rfl (one_of HT_.out (by kernel_rfl)) (by decide) (fun K hK => ?_)
      refine box_step ?hg (N := 7) ?hd (cs := #[.int .i64 0, .int .i64 0, .string (⟨#[]⟩ : ByteArray)]) (t := 23) ?hr ?_; (case hd => rfl); (case hg => rfl); (case hr => first | (go_simp; done) | (go_simp; rfl))
      intro g hg w60 hbox hb
      have HB2 := below_step HB1 hb
      have hge : w57.heap.size ≤ g := by rw [hg]; exact below_size HB1
      have hbox' := hbox
      refine hK.out _ _ (keep _ HB2) (fun hHeld => ?_)
      clear hK K
      refine norm_ (a' := ?_) ?_ ?_
      rotate_left
      · show Act.put _ (some 7) _ = _
        simp only [Act.put, List.setIfInBounds_toArray, List.set_cons_zero, List.set_cons_succ, i64_w, i32_w]
        rfl
      exact norm_ (by simp only [putAll, Act.put, List.setIfInBounds_toArray, List.set_cons_zero, List.set_cons_succ]) (hCont g _ ⟨hHeld, hge, hbox', HB2⟩)
    · skip
      refine box_step ?hg (N := 7) ?hd (cs := #[.int .i64 0, .int .i64 0, .string (⟨#[]⟩ : ByteArray)]) (t := 23) ?hr ?_; (case hd => rfl); (case hg => rfl); (case hr => first | (go_simp; done) | (go_simp; rfl))
      intro g hg w59 hbox hb
      have HB1 := hb
      have hge : w57.heap.size ≤ g := Nat.le_of_eq hg.symm
      refine hK.out _ _ (keep _ HB1) (fun hHeld => ?_)
      clear hK K
      refine norm_ (a' := ?_) ?_ ?_
      rotate_left
      · show Act.put _ (some 7) _ = _
        simp only [Act.put, List.setIfInBounds_toArray, List.set_cons_zero, List.set_cons_succ, i64_w, i32_w]
        rfl
      refine one_ (i := 12) (N := some 74) (bQ 19 73727) rfl rfl (one_of HT_.out (by kernel_rfl)) (by decide) (fun K hK => ?_)
      refine goes_ Try.func10 (by kernel_rfl) rfl #[.string (⟨#[60]⟩ : ByteArray), .agg #[.int .i64 p0, .int .i64 p1, .string p2], .agg #[.int .i64 q0, .int .i64 q1, .string q2]] (by rfl) rfl rfl (by (try simp only [List.map_toArray, List.map_cons, List.map_nil]); first | done | rfl) ?_
      with_reducible refine (ops_Two.calls k2 (⟨#[60]⟩ : ByteArray) p0 p1 p2 q0 q1 q2 t0 t1 t2 t3 _ A.out).mono ?_
      rintro e w60 ⟨rfl, hb⟩
      refine ⟨_, rfl, ?_⟩
      have HB2 := below_step HB1 hb
      have hbox' := blk_below hbox hb
      refine hK.out _ _ (keep _ HB2) (fun hHeld => ?_)
      clear hK K
      refine norm_ (a' := ?_) ?_ ?_
      rotate_left
      · show Act.put _ (some 74) _ = _
        simp only [Act.put, List.setIfInBounds_toArray, List.set_cons_zero, List.set_cons_succ, i64_w, i32_w]
        rfl
      refine pA 13 61 (bQ 19 81919) (hQ := fun c a w => hP c a _ _ w) ?_
      refine pA 14 75 (bQ 19 98303) (hQ := fun c a w => hP c a _ _ w) ?_
      refine pA 15 76 (bQ 19 131071) (hQ := fun c a w => hP c a _ _ w) ?_
      exact norm_ (by simp only [putAll, Act.put, List.setIfInBounds_toArray, List.set_cons_zero, List.set_cons_succ]) (hCont g _ ⟨hHeld, hge, hbox', HB2⟩)
  rintro g w61 ⟨hS_, hge, hbox, HB⟩
  have hHeld : w61.cell? (ad.add x.toNat) = some (.slice (some ar) len c0) ∧ w61.cell? ar = some (.int .i64 p0) ∧ w61.cell? ⟨ar.block, ar.off + 1, none⟩ = some (.int .i64 p1) ∧ w61.cell? ⟨ar.block, ar.off + 2, none⟩ = some (.string p2) ∧ w61.cell? ⟨ar.block, ar.off + 3, none⟩ = some (.int .i64 q0) ∧ w61.cell? ⟨ar.block, ar.off + 3 + 1, none⟩ = some (.int .i64 q1) ∧ w61.cell? ⟨ar.block, ar.off + 3 + 2, none⟩ = some (.string q2) := hS_
  refine norm_ (a' := ?_) ?_ ?_
  rotate_left
  · simp only [putAll, Act.put, List.setIfInBounds_toArray, List.set_cons_zero, List.set_cons_succ]
    rfl
  refine one_ (i := 17) (N := none) #[true, true, true, true, true, true, true, true, true, true, true, true, true, true, true, true, true, true, false] rfl rfl (one_of HT_.out (by kernel_rfl)) (by decide) (fun K hK => ?_)
  have hs0 : w61.cell? ⟨g, 0, none⟩ = some (.int .i64 0) := (blk_cell hbox 0).trans rfl
  have hf0 := blk_frozen hbox 0
  have hs1 : w61.cell? ⟨g, 1, none⟩ = some (.int .i64 0) := (blk_cell hbox 1).trans rfl
  have hf1 := blk_frozen hbox 1
  have hs2 : w61.cell? ⟨g, 2, none⟩ = some (.string (⟨#[]⟩ : ByteArray)) := (blk_cell hbox 2).trans rfl
  have hf2 := blk_frozen hbox 2
  refine skip_ (w1 := ?_) (by rfl) rfl ?_ ?_
  rotate_left
  · go_simp
    rfl
  have HB3 := below_set (j := 2) (v := .string t2) (below_set (j := 1) (v := .int .i64 t1) (below_set (j := 0) (v := .int .i64 t0) HB hge) hge) hge
  have hbx := blk_put (cs' := #[.int .i64 t0, .int .i64 t1, .string t2]) (blk_put (cs' := #[.int .i64 t0, .int .i64 t1, .string (⟨#[]⟩ : ByteArray)]) (blk_put (cs' := #[.int .i64 t0, .int .i64 0, .string (⟨#[]⟩ : ByteArray)]) hbox 0 (.int .i64 t0) rfl) 1 (.int .i64 t1) rfl) 2 (.string t2) rfl
  refine hK.out _ _ (keep _ HB3) (fun hHeld => ?_)
  clear hK K
  refine pA 18 8 (bQ 19 524287) (hQ := fun c a w => hP c a _ _ w) ?_
  refine done_ (done_of HT_.out (by kernel_rfl)) ?_
  exact hEnd g _ _ _ _ _ _ _ _ _ _ _ _ _ _ _ _ _ hge HB3 hbx
theorem chrysalislaw17_OpsOrder.rtab8 : rtab .any (opsOf Try.f4 8) = (true, [([], []), ([], []), ([0, 1], [0, 1]), ([2], [2]), ([3], [3]), ([4], [4]), ([], []), ([], []), ([6, 7], [6, 7]), ([8], [8]), ([9], [9]), ([10], [10]), ([5, 11], [5, 11]), ([12], [12]), ([13], [13]), ([13], [13]), ([], []), ([16, 14, 12, 0, 1, 2, 3, 4, 5, 6, 7, 8, 9, 10, 11, 12, 13, 14, 16], [14, 16]), ([15, 17, 0, 1, 2, 3, 4, 5, 6, 7, 8, 9, 10, 11, 12, 13, 14, 15, 16, 17], [15])]) := by kernel_rfl
theorem chrysalislaw17_OpsOrder.rbits8 : waitsOk ((true, [([], []), ([], []), ([0, 1], [0, 1]), ([2], [2]), ([3], [3]), ([4], [4]), ([], []), ([], []), ([6, 7], [6, 7]), ([8], [8]), ([9], [9]), ([10], [10]), ([5, 11], [5, 11]), ([12], [12]), ([13], [13]), ([13], [13]), ([], []), ([16, 14, 12, 0, 1, 2, 3, 4, 5, 6, 7, 8, 9, 10, 11, 12, 13, 14, 16], [14, 16]), ([15, 17, 0, 1, 2, 3, 4, 5, 6, 7, 8, 9, 10, 11, 12, 13, 14, 15, 16, 17], [15])]) : Bool × List (List Nat × List Nat)).2 [0, 0, 3, 7, 15, 31, 0, 0, 192, 448, 960, 1984, 4095, 8191, 16383, 16383, 0, 98303, 262143] = true := by kernel_rfl
set_option maxHeartbeats 8000000 in
set_option maxRecDepth 100000 in
theorem chrysalislaw17_OpsOrder.reg8 {k2 : Nat} {x : Int} {n co len c0 : Nat} {ad ar : Addr} {p0 p1 : Int} {p2 : ByteArray} {q0 q1 : Int} {q2 : ByteArray} {t0 t1 : Int} {t2 : ByteArray} {t3 : Int}
    {u0 u1 u2 u3 u4 u7 u8 u9 u10 u11 u12 u13 u14 u15 u16 u17 u18 u19 u20 u21 u22 u23 u24 u25 u26 u27 u28 u29 u30 u31 u32 u33 u34 u35 u36 u37 u38 u39 u40 u41 u42 u43 u44 u45 u46 u47 u48 u49 u50 u51 u52 u53 u54 u55 u56 u57 u58 u59 u60 u61 u62 u63 u64 u65 u66 u67 u68 u69 u70 u71 u72 u73 u74 u75 u76 u77 u78 u79 u80 u81 u82 u83 u84 u85 u86 u87 u88 u89 u90 u91 u92 u93 u94 u95 u96 u97 u98 u99 u100 u101 u102 u103 u104 u105 u106 u107 u108 u109 u110 u111 u112 u113 u114 u115 u116 u117 u118 u119 u120 u121 u122 u123 u124 u125 u126 u127 u128 u129 u130 u131 u132 u133 u134 u135 u136 u137 u138 u139 u140 u141 u142 u143 u144 u145 u146 u147 u148 u149 u150 u151 u152 u153 u154 u155 u156 u157 u158 u159 u160 u161 u162 u163 u164 u165 u166 u167 u168 u169 u170 u171 u172 u173 u174 u175 u176 u177 u178 u179 u180 u181 u182 u183 u184 u185 u186 u187 u188 u189 u190 u191 u192 u193 u194 u195 u196 u197 u198 u199 u200 u201 u202 : Value} {wr : World} {Q : Exit → Act → World → Prop}
    (hP : ∀ c (a : Act) (t : Tmp) v w, Q (.panic c) (a.put (some t) v) w → Q (.panic c) a w)
    (A : Aside0 (ops_Two.f k2 (⟨#[60]⟩ : ByteArray) p0 p1 p2 q0 q1 q2 = some (t0, t1, t2, t3))) (hp : (0 ≤ x) = True) (hq : (x < (n : Int)) = True)
    (hi : (1 < (len : Int)) = True) (hj : (2 < (len : Int)) = True) (gi : (1 < len) = True) (gj : (2 < len) = True)
    (h0 : wr.drew.cell? (ad.add x.toNat) = some (.slice (some ar) len c0)) (h1 : wr.drew.cell? ⟨ar.block, ar.off + 3, none⟩ = some (.int .i64 p0)) (h2 : wr.drew.cell? ⟨ar.block, ar.off + 3 + 1, none⟩ = some (.int .i64 p1)) (h3 : wr.drew.cell? ⟨ar.block, ar.off + 3 + 2, none⟩ = some (.string p2)) (h4 : wr.drew.cell? ⟨ar.block, ar.off + 6, none⟩ = some (.int .i64 q0)) (h5 : wr.drew.cell? ⟨ar.block, ar.off + 6 + 1, none⟩ = some (.int .i64 q1)) (h6 : wr.drew.cell? ⟨ar.block, ar.off + 6 + 2, none⟩ = some (.string q2))
    (hEnd : ∀ g w' v77 v78 v79 v80 v81 v82 v83 v84 v85 v86 v87 v88 v89 v90 v91 v92, wr.drew.heap.size ≤ g → Below wr.drew.heap.size wr.drew w' → w'.heap[g]? = some (.cells #[.int .i64 t0, .int .i64 t1, .string t2] 23 (0, 0)) → Q .normal { tmps := #[u0, u1, u2, u3, u4, .slice (some ad) n co, .int .i64 x, u7, u8, .pointer (some ⟨g, 0, none⟩), .int .i64 t3, u11, u12, u13, u14, u15, u16, u17, u18, u19, u20, u21, u22, u23, u24, u25, u26, u27, u28, u29, u30, u31, u32, u33, u34, u35, u36, u37, u38, u39, u40, u41, u42, u43, u44, u45, u46, u47, u48, u49, u50, u51, u52, u53, u54, u55, u56, u57, u58, u59, u60, u61, u62, u63, u64, u65, u66, u67, u68, u69, u70, u71, u72, u73, u74, u75, u76, v77, v78, v79, v80, v81, v82, v83, v84, v85, v86, v87, v88, v89, v90, v91, v92, u93, u94, u95, u96, u97, u98, u99, u100, u101, u102, u103, u104, u105, u106, u107, u108, u109, u110, u111, u112, u113, u114, u115, u116, u117, u118, u119, u120, u121, u122, u123, u124, u125, u126, u127, u128, u129, u130, u131, u132, u133, u134, u135, u136, u137, u138, u139, u140, u141, u142, u143, u144, u145, u146, u147, u148, u149, u150, u151, u152, u153, u154, u155, u156, u157, u158, u159, u160, u161, u162, u163, u164, u165, u166, u167, u168, u169, u170, u171, u172, u173, u174, u175, u176, u177, u178, u179, u180, u181, u182, u183, u184, u185, u186, u187, u188, u189, u190, u191, u192, u193, u194, u195, u196, u197, u198, u199, u200, u201, u202], defers := [] } w') :
    (Code.region 8 #[{ dst := some 78, op := Op.move (Operand.tmp 5), type := 33, pos := "law.go:101", after := #[], guard := none },
      { dst := some 79, op := Op.move (Operand.tmp 6), type := 3, pos := "law.go:101", after := #[], guard := none },
      { dst := some 80, op := Op.indexAddr 33 (Operand.tmp 78) (Operand.tmp 79), type := 0, pos := "law.go:101", after := #[{ on := 0, ground := Ground.data }, { on := 1, ground := Ground.data }], guard := none },
      { dst := some 81, op := Op.load 31 (Operand.tmp 80), type := 31, pos := "law.go:101", after := #[{ on := 2, ground := Ground.data }], guard := none },
      { dst := some 82, op := Op.indexAddr 31 (Operand.tmp 81) (Operand.const (Value.int IntKind.i64 1)), type := 0, pos := "law.go:101", after := #[{ on := 3, ground := Ground.data }], guard := none },
      { dst := some 83, op := Op.load 23 (Operand.tmp 82), type := 23, pos := "law.go:101", after := #[{ on := 4, ground := Ground.data }], guard := none },
      { dst := some 84, op := Op.move (Operand.tmp 5), type := 33, pos := "law.go:101", after := #[], guard := none },
      { dst := some 85, op := Op.move (Operand.tmp 6), type := 3, pos := "law.go:101", after := #[], guard := none },
      { dst := some 86, op := Op.indexAddr 33 (Operand.tmp 84) (Operand.tmp 85), type := 0, pos := "law.go:101", after := #[{ on := 6, ground := Ground.data }, { on := 7, ground := Ground.data }], guard := none },
      { dst := some 87, op := Op.load 31 (Operand.tmp 86), type := 31, pos := "law.go:101", after := #[{ on := 8, ground := Ground.data }], guard := none },
      { dst := some 88, op := Op.indexAddr 31 (Operand.tmp 87) (Operand.const (Value.int IntKind.i64 2)), type := 0, pos := "law.go:101", after := #[{ on := 9, ground := Ground.data }], guard := none },
      { dst := some 89, op := Op.load 23 (Operand.tmp 88), type := 23, pos := "law.go:101", after := #[{ on := 10, ground := Ground.data }], guard := none },
      { dst := some 90, op := Op.call { callee := Callee.value (Operand.func 10), args := #[Operand.const (Value.string ⟨#[60]⟩), Operand.tmp 83, Operand.tmp 89], argTypes := #[9, 23, 23] }, type := 25, pos := "law.go:101", after := #[{ on := 5, ground := Ground.data }, { on := 11, ground := Ground.data }], guard := none },
      { dst := some 77, op := Op.move (Operand.tmp 90), type := 25, pos := "law.go:101", after := #[{ on := 12, ground := Ground.data }], guard := none },
      { dst := some 91, op := Op.extract (Operand.tmp 77) 0, type := 23, pos := "law.go:101", after := #[{ on := 13, ground := Ground.data }], guard := none },
      { dst := some 92, op := Op.extract (Operand.tmp 77) 1, type := 3, pos := "law.go:101", after := #[{ on := 13, ground := Ground.data }, { on := 17, ground := Ground.gcOnly Departure.lateStores }], guard := none },
      { dst := some 9, op := Op.alloc 23, type := 0, pos := "law.go:101", after := #[], guard := none },
      { dst := none, op := Op.store 23 (Operand.tmp 9) (Operand.tmp 91), type := 0, pos := "law.go:101", after := #[{ on := 16, ground := Ground.data }, { on := 14, ground := Ground.data }, { on := 12, ground := Ground.chain }, { on := 0, ground := Ground.phase }, { on := 1, ground := Ground.phase }, { on := 2, ground := Ground.phase }, { on := 3, ground := Ground.phase }, { on := 4, ground := Ground.phase }, { on := 5, ground := Ground.phase }, { on := 6, ground := Ground.phase }, { on := 7, ground := Ground.phase }, { on := 8, ground := Ground.phase }, { on := 9, ground := Ground.phase }, { on := 10, ground := Ground.phase }, { on := 11, ground := Ground.phase }, { on := 12, ground := Ground.phase }, { on := 13, ground := Ground.phase }, { on := 14, ground := Ground.phase }, { on := 15, ground := Ground.textOnly Departure.lateStores }, { on := 16, ground := Ground.phase }], guard := none },
      { dst := some 10, op := Op.assign (Operand.tmp 92), type := 3, pos := "law.go:101", after := #[{ on := 15, ground := Ground.data }, { on := 17, ground := Ground.chain }, { on := 0, ground := Ground.phase }, { on := 1, ground := Ground.phase }, { on := 2, ground := Ground.phase }, { on := 3, ground := Ground.phase }, { on := 4, ground := Ground.phase }, { on := 5, ground := Ground.phase }, { on := 6, ground := Ground.phase }, { on := 7, ground := Ground.phase }, { on := 8, ground := Ground.phase }, { on := 9, ground := Ground.phase }, { on := 10, ground := Ground.phase }, { on := 11, ground := Ground.phase }, { on := 12, ground := Ground.phase }, { on := 13, ground := Ground.phase }, { on := 14, ground := Ground.phase }, { on := 15, ground := Ground.phase }, { on := 16, ground := Ground.phase }, { on := 17, ground := Ground.phase }], guard := none }] true).wp Try.prog Q { tmps := #[u0, u1, u2, u3, u4, .slice (some ad) n co, .int .i64 x, u7, u8, u9, u10, u11, u12, u13, u14, u15, u16, u17, u18, u19, u20, u21, u22, u23, u24, u25, u26, u27, u28, u29, u30, u31, u32, u33, u34, u35, u36, u37, u38, u39, u40, u41, u42, u43, u44, u45, u46, u47, u48, u49, u50, u51, u52, u53, u54, u55, u56, u57, u58, u59, u60, u61, u62, u63, u64, u65, u66, u67, u68, u69, u70, u71, u72, u73, u74, u75, u76, u77, u78, u79, u80, u81, u82, u83, u84, u85, u86, u87, u88, u89, u90, u91, u92, u93, u94, u95, u96, u97, u98, u99, u100, u101, u102, u103, u104, u105, u106, u107, u108, u109, u110, u111, u112, u113, u114, u115, u116, u117, u118, u119, u120, u121, u122, u123, u124, u125, u126, u127, u128, u129, u130, u131, u132, u133, u134, u135, u136, u137, u138, u139, u140, u141, u142, u143, u144, u145, u146, u147, u148, u149, u150, u151, u152, u153, u154, u155, u156, u157, u158, u159, u160, u161, u162, u163, u164, u165, u166, u167, u168, u169, u170, u171, u172, u173, u174, u175, u176, u177, u178, u179, u180, u181, u182, u183, u184, u185, u186, u187, u188, u189, u190, u191, u192, u193, u194, u195, u196, u197, u198, u199, u200, u201, u202], defers := [] } wr := by
  have hu29 := Try.underlying29
  have hu30 := Try.underlying30
  have hu23 := Try.underlying23
  refine start_ (n := 19) (S := fun w' => w'.cell? (ad.add x.toNat) = some (.slice (some ar) len c0) ∧ w'.cell? ⟨ar.block, ar.off + 3, none⟩ = some (.int .i64 p0) ∧ w'.cell? ⟨ar.block, ar.off + 3 + 1, none⟩ = some (.int .i64 p1) ∧ w'.cell? ⟨ar.block, ar.off + 3 + 2, none⟩ = some (.string p2) ∧ w'.cell? ⟨ar.block, ar.off + 6, none⟩ = some (.int .i64 q0) ∧ w'.cell? ⟨ar.block, ar.off + 6 + 1, none⟩ = some (.int .i64 q1) ∧ w'.cell? ⟨ar.block, ar.off + 6 + 2, none⟩ = some (.string q2)) (ds := []) #[false, false, false, false, false, false, false, false, false, false, false, false, false, false, false, false, false, false, false] (by kernel_rfl) rfl rfl ⟨h0, h1, h2, h3, h4, h5, h6⟩ (fun hHeld => ?_); refine with_tabW chrysalislaw17_OpsOrder.rtab8 chrysalislaw17_OpsOrder.rbits8 (fun HT_ HW_ => ?_)
  generalize wr.drew = w57 at h0 h1 h2 h3 h4 h5 h6 hHeld hEnd ⊢
  have keep : ∀ w', Below w57.heap.size w57 w' → w'.cell? (ad.add x.toNat) = some (.slice (some ar) len c0) ∧ w'.cell? ⟨ar.block, ar.off + 3, none⟩ = some (.int .i64 p0) ∧ w'.cell? ⟨ar.block, ar.off + 3 + 1, none⟩ = some (.int .i64 p1) ∧ w'.cell? ⟨ar.block, ar.off + 3 + 2, none⟩ = some (.string p2) ∧ w'.cell? ⟨ar.block, ar.off + 6, none⟩ = some (.int .i64 q0) ∧ w'.cell? ⟨ar.block, ar.off + 6 + 1, none⟩ = some (.int .i64 q1) ∧ w'.cell? ⟨ar.block, ar.off + 6 + 2, none⟩ = some (.string q2) := fun w' hb => ⟨(hb.cell (World.block_lt_of_cell? _ _ h0)).trans h0, (hb.cell (World.block_lt_of_cell? _ _ h1)).trans h1, (hb.cell (World.block_lt_of_cell? _ _ h2)).trans h2, (hb.cell (World.block_lt_of_cell? _ _ h3)).trans h3, (hb.cell (World.block_lt_of_cell? _ _ h4)).trans h4, (hb.cell (World.block_lt_of_cell? _ _ h5)).trans h5, (hb.cell (World.block_lt_of_cell? _ _ h6)).trans h6⟩
  refine pA 0 78 (bQ 19 1) (hQ := fun c a w => hP c a _ _ w) ?_
  refine pA 1 79 (bQ 19 3) (hQ := fun c a w => hP c a _ _ w) ?_
  refine pA 2 80 (bQ 19 7) (hQ := fun c a w => hP c a _ _ w) ?_
  refine pA 6 84 (bQ 19 71) (hQ := fun c a w => hP c a _ _ w) ?_
  refine pA 7 85 (bQ 19 199) (hQ := fun c a w => hP c a _ _ w) ?_
  refine pA 8 86 (bQ 19 455) (hQ := fun c a w => hP c a _ _ w) ?_
  refine take_ (i := 3) (N := some 81) (v := ?_) (a' := ?_) #[true, true, true, true, false, false, true, true, true, false, false, false, false, false, false, false, false, false, false] rfl rfl (take_ofW HT_.out HW_.out (by kernel_rfl)) (fun c a w => hP c a _ _ w) (Or.inl ⟨by rfl, ?_⟩) hHeld ?_ ?_
  rotate_left
  · rintro w' ⟨s0, s1, s2, s3, s4, s5, s6⟩
    go_simp
    with_reducible rfl
  rotate_left
  · simp only [Act.put, List.setIfInBounds_toArray, List.set_cons_zero, List.set_cons_succ, i64_w, i32_w]
    rfl
  refine pA 4 82 (bQ 19 479) (hQ := fun c a w => hP c a _ _ w) ?_
  refine take_ (i := 5) (N := some 83) (v := ?_) (a' := ?_) #[true, true, true, true, true, true, true, true, true, false, false, false, false, false, false, false, false, false, false] rfl rfl (take_ofW HT_.out HW_.out (by kernel_rfl)) (fun c a w => hP c a _ _ w) (Or.inl ⟨by rfl, ?_⟩) hHeld ?_ ?_
  rotate_left
  · rintro w' ⟨s0, s1, s2, s3, s4, s5, s6⟩
    go_simp
    with_reducible rfl
  rotate_left
  · simp only [Act.put, List.setIfInBounds_toArray, List.set_cons_zero, List.set_cons_succ, i64_w, i32_w]
    rfl
  refine take_ (i := 9) (N := some 87) (v := ?_) (a' := ?_) #[true, true, true, true, true, true, true, true, true, true, false, false, false, false, false, false, false, false, false] rfl rfl (take_ofW HT_.out HW_.out (by kernel_rfl)) (fun c a w => hP c a _ _ w) (Or.inl ⟨by rfl, ?_⟩) hHeld ?_ ?_
  rotate_left
  · rintro w' ⟨s0, s1, s2, s3, s4, s5, s6⟩
    go_simp
    with_reducible rfl
  rotate_left
  · simp only [Act.put, List.setIfInBounds_toArray, List.set_cons_zero, List.set_cons_succ, i64_w, i32_w]
    rfl
  refine pA 10 88 (bQ 19 2047) (hQ := fun c a w => hP c a _ _ w) ?_
  refine take_ (i := 11) (N := some 89) (v := ?_) (a' := ?_) #[true, true, true, true, true, true, true, true, true, true, true, true, false, false, false, false, false, false, false] rfl rfl (take_ofW HT_.out HW_.out (by kernel_rfl)) (fun c a w => hP c a _ _ w) (Or.inl ⟨by rfl, ?_⟩) hHeld ?_ ?_
  rotate_left
  · rintro w' ⟨s0, s1, s2, s3, s4, s5, s6⟩
    go_simp
    with_reducible rfl
  rotate_left
  · simp only [Act.put, List.setIfInBounds_toArray, List.set_cons_zero, List.set_cons_succ, i64_w, i32_w]
    rfl
  refine join_ (σ := Nat) 2 #[true, true, true, true, true, true, true, true, true, true, true, true, true, true, true, true, true, false, false] (fun s_ => [(90, .tuple #[.agg #[.int .i64 t0, .int .i64 t1, .string t2], .int .i64 t3]), (9, .pointer (some ⟨s_, 0, none⟩)), (77, .tuple #[.agg #[.int .i64 t0, .int .i64 t1, .string t2], .int .i64 t3]), (91, .agg #[.int .i64 t0, .int .i64 t1, .string t2]), (92, .int .i64 t3)]) (fun s_ w' => (w'.cell? (ad.add x.toNat) = some (.slice (some ar) len c0) ∧ w'.cell? ⟨ar.block, ar.off + 3, none⟩ = some (.int .i64 p0) ∧ w'.cell? ⟨ar.block, ar.off + 3 + 1, none⟩ = some (.int .i64 p1) ∧ w'.cell? ⟨ar.block, ar.off + 3 + 2, none⟩ = some (.string p2) ∧ w'.cell? ⟨ar.block, ar.off + 6, none⟩ = some (.int .i64 q0) ∧ w'.cell? ⟨ar.block, ar.off + 6 + 1, none⟩ = some (.int .i64 q1) ∧ w'.cell? ⟨ar.block, ar.off + 6 + 2, none⟩ = some (.string q2)) ∧ w57.heap.size ≤ s_ ∧ w'.heap[s_]? = some (.cells #[.int .i64 0, .int .i64 0, .string (⟨#[]⟩ : ByteArray)] 23 (0, 0)) ∧ Below w57.heap.size w57 w') ?_ ?_
  rotate_left
  · intro hCont
    refine two_ (i := 12) (j := 16) (Ni := some 90) (Nj := some 9) #[true, true, true, true, true, true, true, true, true, true, true, true, true, false, false, false, false, false, false] #[true, true, true, true, true, true, true, true, true, true, true, true, false, false, false, false, true, false, false] rfl rfl rfl rfl (two_of HT_.out (by kernel_rfl)) (by decide) (by decide) (fun K hK => ?_) (fun K hK => ?_)
    · skip
      refine goes_ Try.func10 (by kernel_rfl) rfl #[.string (⟨#[60]⟩ : ByteArray), .agg #[.int .i64 p0, .int .i64 p1, .string p2], .agg #[.int .i64 q0, .int .i64 q1, .string q2]] (by rfl) rfl rfl (by (try simp only [List.map_toArray, List.map_cons, List.map_nil]); first | done | rfl) ?_
      with_reducible refine (ops_Two.calls k2 (⟨#[60]⟩ : ByteArray) p0 p1 p2 q0 q1 q2 t0 t1 t2 t3 _ A.out).mono ?_
      rintro e w59 ⟨rfl, hb⟩
      refine ⟨_, rfl, ?_⟩
      have HB1 := hb
      refine hK.out _ _ (keep _ HB1) (fun hHeld => ?_)
      clear hK K
      refine norm_ (a' := ?_) ?_ ?_
      rotate_left
      · show Act.put _ (some 90) _ = _
        simp only [Act.put, List.setIfInBounds_toArray, List.set_cons_zero, List.set_cons_succ, i64_w, i32_w]
        rfl
      refine pA 13 77 (bQ 19 16383) (hQ := fun c a w => hP c a _ _ w) ?_
      refine pA 14 91 (bQ 19 32767) (hQ := fun c a w => hP c a _ _ w) ?_
      refine pA 15 92 (bQ 19 65535) (hQ := fun c a w => hP c a _ _ w) ?_
      refine one_ (i := 16) (N := some 9) (bQ 19 131071) rfl rfl (one_of HT_.out (by kernel_rfl)) (by decide) (fun K hK => ?_)
      refine box_step ?hg (N := 9) ?hd (cs := #[.int .i64 0, .int .i64 0, .string (⟨#[]⟩ : ByteArray)]) (t := 23) ?hr ?_; (case hd => rfl); (case hg => rfl); (case hr => first | (go_simp; done) | (go_simp; rfl))
      intro g hg w60 hbox hb
      have HB2 := below_step HB1 hb
      have hge : w57.heap.size ≤ g := by rw [hg]; exact below_size HB1
      have hbox' := hbox
      refine hK.out _ _ (keep _ HB2) (fun hHeld => ?_)
      clear hK K
      refine norm_ (a' := ?_) ?_ ?_
      rotate_left
      · show Act.put _ (some 9) _ = _
        simp only [Act.put, List.setIfInBounds_toArray, List.set_cons_zero, List.set_cons_succ, i64_w, i32_w]
        rfl
      exact norm_ (by simp only [putAll, Act.put, List.setIfInBounds_toArray, List.set_cons_zero, List.set_cons_succ]) (hCont g _ ⟨hHeld, hge, hbox', HB2⟩)
    · skip
      refine box_step ?hg (N := 9) ?hd (cs := #[.int .i64 0, .int .i64 0, .string (⟨#[]⟩ : ByteArray)]) (t := 23) ?hr ?_; (case hd => rfl); (case hg => rfl); (case hr => first | (go_simp; done) | (go_simp; rfl))
      intro g hg w59 hbox hb
      have HB1 := hb
      have hge : w57.heap.size ≤ g := Nat.le_of_eq hg.symm
      refine hK.out _ _ (keep _ HB1) (fun hHeld => ?_)
      clear hK K
      refine norm_ (a' := ?_) ?_ ?_
      rotate_left
      · show Act.put _ (some 9) _ = _
        simp only [Act.put, List.setIfInBounds_toArray, List.set_cons_zero, List.set_cons_succ, i64_w, i32_w]
        rfl
      refine one_ (i := 12) (N := some 90) (bQ 19 73727) rfl rfl (one_of HT_.out (by kernel_rfl)) (by decide) (fun K hK => ?_)
      refine goes_ Try.func10 (by kernel_rfl) rfl #[.string (⟨#[60]⟩ : ByteArray), .agg #[.int .i64 p0, .int .i64 p1, .string p2], .agg #[.int .i64 q0, .int .i64 q1, .string q2]] (by rfl) rfl rfl (by (try simp only [List.map_toArray, List.map_cons, List.map_nil]); first | done | rfl) ?_
      with_reducible refine (ops_Two.calls k2 (⟨#[60]⟩ : ByteArray) p0 p1 p2 q0 q1 q2 t0 t1 t2 t3 _ A.out).mono ?_
      rintro e w60 ⟨rfl, hb⟩
      refine ⟨_, rfl, ?_⟩
      have HB2 := below_step HB1 hb
      have hbox' := blk_below hbox hb
      refine hK.out _ _ (keep _ HB2) (fun hHeld => ?_)
      clear hK K
      refine norm_ (a' := ?_) ?_ ?_
      rotate_left
      · show Act.put _ (some 90) _ = _
        simp only [Act.put, List.setIfInBounds_toArray, List.set_cons_zero, List.set_cons_succ, i64_w, i32_w]
        rfl
      refine pA 13 77 (bQ 19 81919) (hQ := fun c a w => hP c a _ _ w) ?_
      refine pA 14 91 (bQ 19 98303) (hQ := fun c a w => hP c a _ _ w) ?_
      refine pA 15 92 (bQ 19 131071) (hQ := fun c a w => hP c a _ _ w) ?_
      exact norm_ (by simp only [putAll, Act.put, List.setIfInBounds_toArray, List.set_cons_zero, List.set_cons_succ]) (hCont g _ ⟨hHeld, hge, hbox', HB2⟩)
  rintro g w61 ⟨hS_, hge, hbox, HB⟩
  have hHeld : w61.cell? (ad.add x.toNat) = some (.slice (some ar) len c0) ∧ w61.cell? ⟨ar.block, ar.off + 3, none⟩ = some (.int .i64 p0) ∧ w61.cell? ⟨ar.block, ar.off + 3 + 1, none⟩ = some (.int .i64 p1) ∧ w61.cell? ⟨ar.block, ar.off + 3 + 2, none⟩ = some (.string p2) ∧ w61.cell? ⟨ar.block, ar.off + 6, none⟩ = some (.int .i64 q0) ∧ w61.cell? ⟨ar.block, ar.off + 6 + 1, none⟩ = some (.int .i64 q1) ∧ w61.cell? ⟨ar.block, ar.off + 6 + 2, none⟩ = some (.string q2) := hS_
  refine norm_ (a' := ?_) ?_ ?_
  rotate_left
  · simp only [putAll, Act.put, List.setIfInBounds_toArray, List.set_cons_zero, List.set_cons_succ]
    rfl
  refine one_ (i := 17) (N := none) #[true, true, true, true, true, true, true, true, true, true, true, true, true, true, true, true, true, true, false] rfl rfl (one_of HT_.out (by kernel_rfl)) (by decide) (fun K hK => ?_)
  have hs0 : w61.cell? ⟨g, 0, none⟩ = some (.int .i64 0) := (blk_cell hbox 0).trans rfl
  have hf0 := blk_frozen hbox 0
  have hs1 : w61.cell? ⟨g, 1, none⟩ = some (.int .i64 0) := (blk_cell hbox 1).trans rfl
  have hf1 := blk_frozen hbox 1
  have hs2 : w61.cell? ⟨g, 2, none⟩ = some (.string (⟨#[]⟩ : ByteArray)) := (blk_cell hbox 2).trans rfl
  have hf2 := blk_frozen hbox 2
  refine skip_ (w1 := ?_) (by rfl) rfl ?_ ?_
  rotate_left
  · go_simp
    rfl
  have HB3 := below_set (j := 2) (v := .string t2) (below_set (j := 1) (v := .int .i64 t1) (below_set (j := 0) (v := .int .i64 t0) HB hge) hge) hge
  have hbx := blk_put (cs' := #[.int .i64 t0, .int .i64 t1, .string t2]) (blk_put (cs' := #[.int .i64 t0, .int .i64 t1, .string (⟨#[]⟩ : ByteArray)]) (blk_put (cs' := #[.int .i64 t0, .int .i64 0, .string (⟨#[]⟩ : ByteArray)]) hbox 0 (.int .i64 t0) rfl) 1 (.int .i64 t1) rfl) 2 (.string t2) rfl
  refine hK.out _ _ (keep _ HB3) (fun hHeld => ?_)
  clear hK K
  refine pA 18 10 (bQ 19 524287) (hQ := fun c a w => hP c a _ _ w) ?_
  refine done_ (done_of HT_.out (by kernel_rfl)) ?_
  exact hEnd g _ _ _ _ _ _ _ _ _ _ _ _ _ _ _ _ _ hge HB3 hbx
theorem chrysalislaw17_OpsOrder.rtab9 : rtab .any (opsOf Try.f4 9) = (true, [([], []), ([], []), ([0, 1], [0, 1]), ([2], [2]), ([3], [3]), ([4], [4]), ([], []), ([], []), ([6, 7], [6, 7]), ([8], [8]), ([9], [9]), ([10], [10]), ([5, 11], [5, 11]), ([12], [12]), ([13], [13]), ([13], [13]), ([], []), ([16, 14, 12, 0, 1, 2, 3, 4, 5, 6, 7, 8, 9, 10, 11, 12, 13, 14, 16], [14, 16]), ([15, 17, 0, 1, 2, 3, 4, 5, 6, 7, 8, 9, 10, 11, 12, 13, 14, 15, 16, 17], [15])]) := by kernel_rfl
theorem chrysalislaw17_OpsOrder.rbits9 : waitsOk ((true, [([], []), ([], []), ([0, 1], [0, 1]), ([2], [2]), ([3], [3]), ([4], [4]), ([], []), ([], []), ([6, 7], [6, 7]), ([8], [8]), ([9], [9]), ([10], [10]), ([5, 11], [5, 11]), ([12], [12]), ([13], [13]), ([13], [13]), ([], []), ([16, 14, 12, 0, 1, 2, 3, 4, 5, 6, 7, 8, 9, 10, 11, 12, 13, 14, 16], [14, 16]), ([15, 17, 0, 1, 2, 3, 4, 5, 6, 7, 8, 9, 10, 11, 12, 13, 14, 15, 16, 17], [15])]) : Bool × List (List Nat × List Nat)).2 [0, 0, 3, 7, 15, 31, 0, 0, 192, 448, 960, 1984, 4095, 8191, 16383, 16383, 0, 98303, 262143] = true := by kernel_rfl
set_option maxHeartbeats 8000000 in
set_option maxRecDepth 100000 in
theorem chrysalislaw17_OpsOrder.reg9 {k2 : Nat} {x : Int} {n co len c0 : Nat} {ad ar : Addr} {p0 p1 : Int} {p2 : ByteArray} {q0 q1 : Int} {q2 : ByteArray} {t0 t1 : Int} {t2 : ByteArray} {t3 : Int}
    {u0 u1 u2 u3 u4 u7 u8 u9 u10 u11 u12 u13 u14 u15 u16 u17 u18 u19 u20 u21 u22 u23 u24 u25 u26 u27 u28 u29 u30 u31 u32 u33 u34 u35 u36 u37 u38 u39 u40 u41 u42 u43 u44 u45 u46 u47 u48 u49 u50 u51 u52 u53 u54 u55 u56 u57 u58 u59 u60 u61 u62 u63 u64 u65 u66 u67 u68 u69 u70 u71 u72 u73 u74 u75 u76 u77 u78 u79 u80 u81 u82 u83 u84 u85 u86 u87 u88 u89 u90 u91 u92 u93 u94 u95 u96 u97 u98 u99 u100 u101 u102 u103 u104 u105 u106 u107 u108 u109 u110 u111 u112 u113 u114 u115 u116 u117 u118 u119 u120 u121 u122 u123 u124 u125 u126 u127 u128 u129 u130 u131 u132 u133 u134 u135 u136 u137 u138 u139 u140 u141 u142 u143 u144 u145 u146 u147 u148 u149 u150 u151 u152 u153 u154 u155 u156 u157 u158 u159 u160 u161 u162 u163 u164 u165 u166 u167 u168 u169 u170 u171 u172 u173 u174 u175 u176 u177 u178 u179 u180 u181 u182 u183 u184 u185 u186 u187 u188 u189 u190 u191 u192 u193 u194 u195 u196 u197 u198 u199 u200 u201 u202 : Value} {wr : World} {Q : Exit → Act → World → Prop}
    (hP : ∀ c (a : Act) (t : Tmp) v w, Q (.panic c) (a.put (some t) v) w → Q (.panic c) a w)
    (A : Aside0 (ops_Two.f k2 (⟨#[60]⟩ : ByteArray) p0 p1 p2 q0 q1 q2 = some (t0, t1, t2, t3))) (hp : (0 ≤ x) = True) (hq : (x < (n : Int)) = True)
    (hi : (0 < (len : Int)) = True) (hj : (2 < (len : Int)) = True) (gi : (0 < len) = True) (gj : (2 < len) = True)
    (h0 : wr.drew.cell? (ad.add x.toNat) = some (.slice (some ar) len c0)) (h1 : wr.drew.cell? ar = some (.int .i64 p0)) (h2 : wr.drew.cell? ⟨ar.block, ar.off + 1, none⟩ = some (.int .i64 p1)) (h3 : wr.drew.cell? ⟨ar.block, ar.off + 2, none⟩ = some (.string p2)) (h4 : wr.drew.cell? ⟨ar.block, ar.off + 6, none⟩ = some (.int .i64 q0)) (h5 : wr.drew.cell? ⟨ar.block, ar.off + 6 + 1, none⟩ = some (.int .i64 q1)) (h6 : wr.drew.cell? ⟨ar.block, ar.off + 6 + 2, none⟩ = some (.string q2))
    (hEnd : ∀ g w' v93 v94 v95 v96 v97 v98 v99 v100 v101 v102 v103 v104 v105 v106 v107 v108, wr.drew.heap.size ≤ g → Below wr.drew.heap.size wr.drew w' → w'.heap[g]? = some (.cells #[.int .i64 t0, .int .i64 t1, .string t2] 23 (0, 0)) → Q .normal { tmps := #[u0, u1, u2, u3, u4, .slice (some ad) n co, .int .i64 x, u7, u8, u9, u10, .pointer (some ⟨g, 0, none⟩), .int .i64 t3, u13, u14, u15, u16, u17, u18, u19, u20, u21, u22, u23, u24, u25, u26, u27, u28, u29, u30, u31, u32, u33, u34, u35, u36, u37, u38, u39, u40, u41, u42, u43, u44, u45, u46, u47, u48, u49, u50, u51, u52, u53, u54, u55, u56, u57, u58, u59, u60, u61, u62, u63, u64, u65, u66, u67, u68, u69, u70, u71, u72, u73, u74, u75, u76, u77, u78, u79, u80, u81, u82, u83, u84, u85, u86, u87, u88, u89, u90, u91, u92, v93, v94, v95, v96, v97, v98, v99, v100, v101, v102, v103, v104, v105, v106, v107, v108, u109, u110, u111, u112, u113, u114, u115, u116, u117, u118, u119, u120, u121, u122, u123, u124, u125, u126, u127, u128, u129, u130, u131, u132, u133, u134, u135, u136, u137, u138, u139, u140, u141, u142, u143, u144, u145, u146, u147, u148, u149, u150, u151, u152, u153, u154, u155, u156, u157, u158, u159, u160, u161, u162, u163, u164, u165, u166, u167, u168, u169, u170, u171, u172, u173, u174, u175, u176, u177, u178, u179, u180, u181, u182, u183, u184, u185, u186, u187, u188, u189, u190, u191, u192, u193, u194, u195, u196, u197, u198, u199, u200, u201, u202], defers := [] } w') :
    (Code.region 9 #[{ dst := some 94, op := Op.move (Operand.tmp 5), type := 33, pos := "law.go:102", after := #[], guard := none },
      { dst := some 95, op := Op.move (Operand.tmp 6), type := 3, pos := "law.go:102", after := #[], guard := none },
      { dst := some 96, op := Op.indexAddr 33 (Operand.tmp 94) (Operand.tmp 95), type := 0, pos := "law.go:102", after := #[{ on := 0, ground := Ground.data }, { on := 1, ground := Ground.data }], guard := none },
      { dst := some 97, op := Op.load 31 (Operand.tmp 96), type := 31, pos := "law.go:102", after := #[{ on := 2, ground := Ground.data }], guard := none },
      { dst := some 98, op := Op.indexAddr 31 (Operand.tmp 97) (Operand.const (Value.int IntKind.i64 0)), type := 0, pos := "law.go:102", after := #[{ on := 3, ground := Ground.data }], guard := none },
      { dst := some 99, op := Op.load 23 (Operand.tmp 98), type := 23, pos := "law.go:102", after := #[{ on := 4, ground := Ground.data }], guard := none },
      { dst := some 100, op := Op.move (Operand.tmp 5), type := 33, pos := "law.go:102", after := #[], guard := none },
      { dst := some 101, op := Op.move (Operand.tmp 6), type := 3, pos := "law.go:102", after := #[], guard := none },
      { dst := some 102, op := Op.indexAddr 33 (Operand.tmp 100) (Operand.tmp 101), type := 0, pos := "law.go:102", after := #[{ on := 6, ground := Ground.data }, { on := 7, ground := Ground.data }], guard := none },
      { dst := some 103, op := Op.load 31 (Operand.tmp 102), type := 31, pos := "law.go:102", after := #[{ on := 8, ground := Ground.data }], guard := none },
      { dst := some 104, op := Op.indexAddr 31 (Operand.tmp 103) (Operand.const (Value.int IntKind.i64 2)), type := 0, pos := "law.go:102", after := #[{ on := 9, ground := Ground.data }], guard := none },
      { dst := some 105, op := Op.load 23 (Operand.tmp 104), type := 23, pos := "law.go:102", after := #[{ on := 10, ground := Ground.data }], guard := none },
      { dst := some 106, op := Op.call { callee := Callee.value (Operand.func 10), args := #[Operand.const (Value.string ⟨#[60]⟩), Operand.tmp 99, Operand.tmp 105], argTypes := #[9, 23, 23] }, type := 25, pos := "law.go:102", after := #[{ on := 5, ground := Ground.data }, { on := 11, ground := Ground.data }], guard := none },
      { dst := some 93, op := Op.move (Operand.tmp 106), type := 25, pos := "law.go:102", after := #[{ on := 12, ground := Ground.data }], guard := none },
      { dst := some 107, op := Op.extract (Operand.tmp 93) 0, type := 23, pos := "law.go:102", after := #[{ on := 13, ground := Ground.data }], guard := none },
      { dst := some 108, op := Op.extract (Operand.tmp 93) 1, type := 3, pos := "law.go:102", after := #[{ on := 13, ground := Ground.data }, { on := 17, ground := Ground.gcOnly Departure.lateStores }], guard := none },
      { dst := some 11, op := Op.alloc 23, type := 0, pos := "law.go:102", after := #[], guard := none },
      { dst := none, op := Op.store 23 (Operand.tmp 11) (Operand.tmp 107), type := 0, pos := "law.go:102", after := #[{ on := 16, ground := Ground.data }, { on := 14, ground := Ground.data }, { on := 12, ground := Ground.chain }, { on := 0, ground := Ground.phase }, { on := 1, ground := Ground.phase }, { on := 2, ground := Ground.phase }, { on := 3, ground := Ground.phase }, { on := 4, ground := Ground.phase }, { on := 5, ground := Ground.phase }, { on := 6, ground := Ground.phase }, { on := 7, ground := Ground.phase }, { on := 8, ground := Ground.phase }, { on := 9, ground := Ground.phase }, { on := 10, ground := Ground.phase }, { on := 11, ground := Ground.phase }, { on := 12, ground := Ground.phase }, { on := 13, ground := Ground.phase }, { on := 14, ground := Ground.phase }, { on := 15, ground := Ground.textOnly Departure.lateStores }, { on := 16, ground := Ground.phase }], guard := none },
      { dst := some 12, op := Op.assign (Operand.tmp 108), type := 3, pos := "law.go:102", after := #[{ on := 15, ground := Ground.data }, { on := 17, ground := Ground.chain }, { on := 0, ground := Ground.phase }, { on := 1, ground := Ground.phase }, { on := 2, ground := Ground.phase }, { on := 3, ground := Ground.phase }, { on := 4, ground := Ground.phase }, { on := 5, ground := Ground.phase }, { on := 6, ground := Ground.phase }, { on := 7, ground := Ground.phase }, { on := 8, ground := Ground.phase }, { on := 9, ground := Ground.phase }, { on := 10, ground := Ground.phase }, { on := 11, ground := Ground.phase }, { on := 12, ground := Ground.phase }, { on := 13, ground := Ground.phase }, { on := 14, ground := Ground.phase }, { on := 15, ground := Ground.phase }, { on := 16, ground := Ground.phase }, { on := 17, ground := Ground.phase }], guard := none }] true).wp Try.prog Q { tmps := #[u0, u1, u2, u3, u4, .slice (some ad) n co, .int .i64 x, u7, u8, u9, u10, u11, u12, u13, u14, u15, u16, u17, u18, u19, u20, u21, u22, u23, u24, u25, u26, u27, u28, u29, u30, u31, u32, u33, u34, u35, u36, u37, u38, u39, u40, u41, u42, u43, u44, u45, u46, u47, u48, u49, u50, u51, u52, u53, u54, u55, u56, u57, u58, u59, u60, u61, u62, u63, u64, u65, u66, u67, u68, u69, u70, u71, u72, u73, u74, u75, u76, u77, u78, u79, u80, u81, u82, u83, u84, u85, u86, u87, u88, u89, u90, u91, u92, u93, u94, u95, u96, u97, u98, u99, u100, u101, u102, u103, u104, u105, u106, u107, u108, u109, u110, u111, u112, u113, u114, u115, u116, u117, u118, u119, u120, u121, u122, u123, u124, u125, u126, u127, u128, u129, u130, u131, u132, u133, u134, u135, u136, u137, u138, u139, u140, u141, u142, u143, u144, u145, u146, u147, u148, u149, u150, u151, u152, u153, u154, u155, u156, u157, u158, u159, u160, u161, u162, u163, u164, u165, u166, u167, u168, u169, u170, u171, u172, u173, u174, u175, u176, u177, u178, u179, u180, u181, u182, u183, u184, u185, u186, u187, u188, u189, u190, u191, u192, u193, u194, u195, u196, u197, u198, u199, u200, u201, u202], defers := [] } wr := by
  have hu29 := Try.underlying29
  have hu30 := Try.underlying30
  have hu23 := Try.underlying23
  refine start_ (n := 19) (S := fun w' => w'.cell? (ad.add x.toNat) = some (.slice (some ar) len c0) ∧ w'.cell? ar = some (.int .i64 p0) ∧ w'.cell? ⟨ar.block, ar.off + 1, none⟩ = some (.int .i64 p1) ∧ w'.cell? ⟨ar.block, ar.off + 2, none⟩ = some (.string p2) ∧ w'.cell? ⟨ar.block, ar.off + 6, none⟩ = some (.int .i64 q0) ∧ w'.cell? ⟨ar.block, ar.off + 6 + 1, none⟩ = some (.int .i64 q1) ∧ w'.cell? ⟨ar.block, ar.off + 6 + 2, none⟩ = some (.string q2)) (ds := []) #[false, false, false, false, false, false, false, false, false, false, false, false, false, false, false, false, false, false, false] (by kernel_rfl) rfl rfl ⟨h0, h1, h2, h3, h4, h5, h6⟩ (fun hHeld => ?_); refine with_tabW chrysalislaw17_OpsOrder.rtab9 chrysalislaw17_OpsOrder.rbits9 (fun HT_ HW_ => ?_)
  generalize wr.drew = w57 at h0 h1 h2 h3 h4 h5 h6 hHeld hEnd ⊢
  have keep : ∀ w', Below w57.heap.size w57 w' → w'.cell? (ad.add x.toNat) = some (.slice (some ar) len c0) ∧ w'.cell? ar = some (.int .i64 p0) ∧ w'.cell? ⟨ar.block, ar.off + 1, none⟩ = some (.int .i64 p1) ∧ w'.cell? ⟨ar.block, ar.off + 2, none⟩ = some (.string p2) ∧ w'.cell? ⟨ar.block, ar.off + 6, none⟩ = some (.int .i64 q0) ∧ w'.cell? ⟨ar.block, ar.off + 6 + 1, none⟩ = some (.int .i64 q1) ∧ w'.cell? ⟨ar.block, ar.off + 6 + 2, none⟩ = some (.string q2) := fun w' hb => ⟨(hb.cell (World.block_lt_of_cell? _ _ h0)).trans h0, (hb.cell (World.block_lt_of_cell? _ _ h1)).trans h1, (hb.cell (World.block_lt_of_cell? _ _ h2)).trans h2, (hb.cell (World.block_lt_of_cell? _ _ h3)).trans h3, (hb.cell (World.block_lt_of_cell? _ _ h4)).trans h4, (hb.cell (World.block_lt_of_cell? _ _ h5)).trans h5, (hb.cell (World.block_lt_of_cell? _ _ h6)).trans h6⟩
  refine pA 0 94 (bQ 19 1) (hQ := fun c a w => hP c a _ _ w) ?_
  refine pA 1 95 (bQ 19 3) (hQ := fun c a w => hP c a _ _ w) ?_
  refine pA 2 96 (bQ 19 7) (hQ := fun c a w => hP c a _ _ w) ?_
  refine pA 6 100 (bQ 19 71) (hQ := fun c a w => hP c a _ _ w) ?_
  refine pA 7 101 (bQ 19 199) (hQ := fun c a w => hP c a _ _ w) ?_
  refine pA 8 102 (bQ 19 455) (hQ := fun c a w => hP c a _ _ w) ?_
  refine take_ (i := 3) (N := some 97) (v := ?_) (a' := ?_) #[true, true, true, true, false, false, true, true, true, false, false, false, false, false, false, false, false, false, false] rfl rfl (take_ofW HT_.out HW_.out (by kernel_rfl)) (fun c a w => hP c a _ _ w) (Or.inl ⟨by rfl, ?_⟩) hHeld ?_ ?_
  rotate_left
  · rintro w' ⟨s0, s1, s2, s3, s4, s5, s6⟩
    go_simp
    with_reducible rfl
  rotate_left
  · simp only [Act.put, List.setIfInBounds_toArray, List.set_cons_zero, List.set_cons_succ, i64_w, i32_w]
    rfl
  refine pA 4 98 (bQ 19 479) (hQ := fun c a w => hP c a _ _ w) ?_
  refine take_ (i := 5) (N := some 99) (v := ?_) (a' := ?_) #[true, true, true, true, true, true, true, true, true, false, false, false, false, false, false, false, false, false, false] rfl rfl (take_ofW HT_.out HW_.out (by kernel_rfl)) (fun c a w => hP c a _ _ w) (Or.inl ⟨by rfl, ?_⟩) hHeld ?_ ?_
  rotate_left
  · rintro w' ⟨s0, s1, s2, s3, s4, s5, s6⟩
    go_simp
    with_reducible rfl
  rotate_left
  · simp only [Act.put, List.setIfInBounds_toArray, List.set_cons_zero, List.set_cons_succ, i64_w, i32_w]
    rfl
  refine take_ (i := 9) (N := some 103) (v := ?_) (a' := ?_) #[true, true, true, true, true, true, true, true, true, true, false, false, false, false, false, false, false, false, false] rfl rfl (take_ofW HT_.out HW_.out (by kernel_rfl)) (fun c a w => hP c a _ _ w) (Or.inl ⟨by rfl, ?_⟩) hHeld ?_ ?_
  rotate_left
  · rintro w' ⟨s0, s1, s2, s3, s4, s5, s6⟩
    go_simp
    with_reducible rfl
  rotate_left
  · simp only [Act.put, List.setIfInBounds_toArray, List.set_cons_zero, List.set_cons_succ, i64_w, i32_w]
    rfl
  refine pA 10 104 (bQ 19 2047) (hQ := fun c a w => hP c a _ _ w) ?_
  refine take_ (i := 11) (N := some 105) (v := ?_) (a' := ?_) #[true, true, true, true, true, true, true, true, true, true, true, true, false, false, false, false, false, false, false] rfl rfl (take_ofW HT_.out HW_.out (by kernel_rfl)) (fun c a w => hP c a _ _ w) (Or.inl ⟨by rfl, ?_⟩) hHeld ?_ ?_
  rotate_left
  · rintro w' ⟨s0, s1, s2, s3, s4, s5, s6⟩
    go_simp
    with_reducible rfl
  rotate_left
  · simp only [Act.put, List.setIfInBounds_toArray, List.set_cons_zero, List.set_cons_succ, i64_w, i32_w]
    rfl
  refine join_ (σ := Nat) 2 #[true, true, true, true, true, true, true, true, true, true, true, true, true, true, true, true, true, false, false] (fun s_ => [(106, .tuple #[.agg #[.int .i64 t0, .int .i64 t1, .string t2], .int .i64 t3]), (11, .pointer (some ⟨s_, 0, none⟩)), (93, .tuple #[.agg #[.int .i64 t0, .int .i64 t1, .string t2], .int .i64 t3]), (107, .agg #[.int .i64 t0, .int .i64 t1, .string t2]), (108, .int .i64 t3)]) (fun s_ w' => (w'.cell? (ad.add x.toNat) = some (.slice (some ar) len c0) ∧ w'.cell? ar = some (.int .i64 p0) ∧ w'.cell? ⟨ar.block, ar.off + 1, none⟩ = some (.int .i64 p1) ∧ w'.cell? ⟨ar.block, ar.off + 2, none⟩ = some (.string p2) ∧ w'.cell? ⟨ar.block, ar.off + 6, none⟩ = some (.int .i64 q0) ∧ w'.cell? ⟨ar.block, ar.off + 6 + 1, none⟩ = some (.int .i64 q1) ∧ w'.cell? ⟨ar.block, ar.off + 6 + 2, none⟩ = some (.string q2)) ∧ w57.heap.size ≤ s_ ∧ w'.heap[s_]? = some (.cells #[.int .i64 0, .int .i64 0, .string (⟨#[]⟩ : ByteArray)] 23 (0, 0)) ∧ Below w57.heap.size w57 w') ?_ ?_
  rotate_left
  · intro hCont
    refine two_ (i := 12) (j := 16) (Ni := some 106) (Nj := some 11) #[true, true, true, true, true, true, true, true, true, true, true, true, true, false, false, false, false, false, false] #[true, true, true, true, true, true, true, true, true, true, true, true, false, false, false, false, true, false, false] rfl rfl rfl rfl (two_of HT_.out (by kernel_rfl)) (by decide) (by decide) (fun K hK => ?_) (fun K hK => ?_)
    · skip
      refine goes_ Try.func10 (by kernel_rfl) rfl #[.string (⟨#[60]⟩ : ByteArray), .agg #[.int .i64 p0, .int .i64 p1, .string p2], .agg #[.int .i64 q0, .int .i64 q1, .string q2]] (by rfl) rfl rfl (by (try simp only [List.map_toArray, List.map_cons, List.map_nil]); first | done | rfl) ?_
      with_reducible refine (ops_Two.calls k2 (⟨#[60]⟩ : ByteArray) p0 p1 p2 q0 q1 q2 t0 t1 t2 t3 _ A.out).mono ?_
      rintro e w59 ⟨rfl, hb⟩
      refine ⟨_, rfl, ?_⟩
      have HB1 := hb
      refine hK.out _ _ (keep _ HB1) (fun hHeld => ?_)
      clear hK K
      refine norm_ (a' := ?_) ?_ ?_
      rotate_left
      · show Act.put _ (some 106) _ = _
        simp only [Act.put, List.setIfInBounds_toArray, List.set_cons_zero, List.set_cons_succ, i64_w, i32_w]
        rfl
      refine pA 13 93 (bQ 19 16383) (hQ := fun c a w => hP c a _ _ w) ?_
      refine pA 14 107 (bQ 19 32767) (hQ := fun c a w => hP c a _ _ w) ?_
      refine pA 15 108 (bQ 19 65535) (hQ := fun c a w => hP c a _ _ w) ?_
      refine one_ (i := 16) (N := some 11) (bQ 19 131071) rfl rfl (one_of HT_.out (by kernel_rfl)) (by decide) (fun K hK => ?_)
      refine box_step ?hg (N := 11) ?hd (cs := #[.int .i64 0, .int .i64 0, .string (⟨#[]⟩ : ByteArray)]) (t := 23) ?hr ?_; (case hd => rfl); (case hg => rfl); (case hr => first | (go_simp; done) | (go_simp; rfl))
      intro g hg w60 hbox hb
      have HB2 := below_step HB1 hb
      have hge : w57.heap.size ≤ g := by rw [hg]; exact below_size HB1
      have hbox' := hbox
      refine hK.out _ _ (keep _ HB2) (fun hHeld => ?_)
      clear hK K
      refine norm_ (a' := ?_) ?_ ?_
      rotate_left
      · show Act.put _ (some 11) _ = _
        simp only [Act.put, List.setIfInBounds_toArray, List.set_cons_zero, List.set_cons_succ, i64_w, i32_w]
        rfl
      exact norm_ (by simp only [putAll, Act.put, List.setIfInBounds_toArray, List.set_cons_zero, List.set_cons_succ]) (hCont g _ ⟨hHeld, hge, hbox', HB2⟩)
    · skip
      refine box_step ?hg (N := 11) ?hd (cs := #[.int .i64 0, .int .i64 0, .string (⟨#[]⟩ : ByteArray)]) (t := 23) ?hr ?_; (case hd => rfl); (case hg => rfl); (case hr => first | (go_simp; done) | (go_simp; rfl))
      intro g hg w59 hbox hb
      have HB1 := hb
      have hge : w57.heap.size ≤ g := Nat.le_of_eq hg.symm
      refine hK.out _ _ (keep _ HB1) (fun hHeld => ?_)
      clear hK K
      refine norm_ (a' := ?_) ?_ ?_
      rotate_left
      · show Act.put _ (some 11) _ = _
        simp only [Act.put, List.setIfInBounds_toArray, List.set_cons_zero, List.set_cons_succ, i64_w, i32_w]
        rfl
      refine one_ (i := 12) (N := some 106) (bQ 19 73727) rfl rfl (one_of HT_.out (by kernel_rfl)) (by decide) (fun K hK => ?_)
      refine goes_ Try.func10 (by kernel_rfl) rfl #[.string (⟨#[60]⟩ : ByteArray), .agg #[.int .i64 p0, .int .i64 p1, .string p2], .agg #[.int .i64 q0, .int .i64 q1, .string q2]] (by rfl) rfl rfl (by (try simp only [List.map_toArray, List.map_cons, List.map_nil]); first | done | rfl) ?_
      with_reducible refine (ops_Two.calls k2 (⟨#[60]⟩ : ByteArray) p0 p1 p2 q0 q1 q2 t0 t1 t2 t3 _ A.out).mono ?_
      rintro e w60 ⟨rfl, hb⟩
      refine ⟨_, rfl, ?_⟩
      have HB2 := below_step HB1 hb
      have hbox' := blk_below hbox hb
      refine hK.out _ _ (keep _ HB2) (fun hHeld => ?_)
      clear hK K
      refine norm_ (a' := ?_) ?_ ?_
      rotate_left
      · show Act.put _ (some 106) _ = _
        simp only [Act.put, List.setIfInBounds_toArray, List.set_cons_zero, List.set_cons_succ, i64_w, i32_w]
        rfl
      refine pA 13 93 (bQ 19 81919) (hQ := fun c a w => hP c a _ _ w) ?_
      refine pA 14 107 (bQ 19 98303) (hQ := fun c a w => hP c a _ _ w) ?_
      refine pA 15 108 (bQ 19 131071) (hQ := fun c a w => hP c a _ _ w) ?_
      exact norm_ (by simp only [putAll, Act.put, List.setIfInBounds_toArray, List.set_cons_zero, List.set_cons_succ]) (hCont g _ ⟨hHeld, hge, hbox', HB2⟩)
  rintro g w61 ⟨hS_, hge, hbox, HB⟩
  have hHeld : w61.cell? (ad.add x.toNat) = some (.slice (some ar) len c0) ∧ w61.cell? ar = some (.int .i64 p0) ∧ w61.cell? ⟨ar.block, ar.off + 1, none⟩ = some (.int .i64 p1) ∧ w61.cell? ⟨ar.block, ar.off + 2, none⟩ = some (.string p2) ∧ w61.cell? ⟨ar.block, ar.off + 6, none⟩ = some (.int .i64 q0) ∧ w61.cell? ⟨ar.block, ar.off + 6 + 1, none⟩ = some (.int .i64 q1) ∧ w61.cell? ⟨ar.block, ar.off + 6 + 2, none⟩ = some (.string q2) := hS_
  refine norm_ (a' := ?_) ?_ ?_
  rotate_left
  · simp only [putAll, Act.put, List.setIfInBounds_toArray, List.set_cons_zero, List.set_cons_succ]
    rfl
  refine one_ (i := 17) (N := none) #[true, true, true, true, true, true, true, true, true, true, true, true, true, true, true, true, true, true, false] rfl rfl (one_of HT_.out (by kernel_rfl)) (by decide) (fun K hK => ?_)
  have hs0 : w61.cell? ⟨g, 0, none⟩ = some (.int .i64 0) := (blk_cell hbox 0).trans rfl
  have hf0 := blk_frozen hbox 0
  have hs1 : w61.cell? ⟨g, 1, none⟩ = some (.int .i64 0) := (blk_cell hbox 1).trans rfl
  have hf1 := blk_frozen hbox 1
  have hs2 : w61.cell? ⟨g, 2, none⟩ = some (.string (⟨#[]⟩ : ByteArray)) := (blk_cell hbox 2).trans rfl
  have hf2 := blk_frozen hbox 2
  refine skip_ (w1 := ?_) (by rfl) rfl ?_ ?_
  rotate_left
  · go_simp
    rfl
  have HB3 := below_set (j := 2) (v := .string t2) (below_set (j := 1) (v := .int .i64 t1) (below_set (j := 0) (v := .int .i64 t0) HB hge) hge) hge
  have hbx := blk_put (cs' := #[.int .i64 t0, .int .i64 t1, .string t2]) (blk_put (cs' := #[.int .i64 t0, .int .i64 t1, .string (⟨#[]⟩ : ByteArray)]) (blk_put (cs' := #[.int .i64 t0, .int .i64 0, .string (⟨#[]⟩ : ByteArray)]) hbox 0 (.int .i64 t0) rfl) 1 (.int .i64 t1) rfl) 2 (.string t2) rfl
  refine hK.out _ _ (keep _ HB3) (fun hHeld => ?_)
  clear hK K
  refine pA 18 12 (bQ 19 524287) (hQ := fun c a w => hP c a _ _ w) ?_
  refine done_ (done_of HT_.out (by kernel_rfl)) ?_
  exact hEnd g _ _ _ _ _ _ _ _ _ _ _ _ _ _ _ _ _ hge HB3 hbx
theorem chrysalislaw17_OpsOrder.rtab10 : rtab .any (opsOf Try.f4 10) = (true, [([], []), ([], []), ([0, 1], [0, 1]), ([2], [2]), ([3], [3]), ([4], [4]), ([], []), ([], []), ([6, 7], [6, 7]), ([8], [8]), ([9], [9]), ([10], [10]), ([5, 11], [5, 11]), ([12], [12]), ([13], [13]), ([13], [13]), ([], []), ([16, 14, 12, 0, 1, 2, 3, 4, 5, 6, 7, 8, 9, 10, 11, 12, 13, 14, 16], [14, 16]), ([15, 17, 0, 1, 2, 3, 4, 5, 6, 7, 8, 9, 10, 11, 12, 13, 14, 15, 16, 17], [15])]) := by kernel_rfl
theorem chrysalislaw17_OpsOrder.rbits10 : waitsOk ((true, [([], []), ([], []), ([0, 1], [0, 1]), ([2], [2]), ([3], [3]), ([4], [4]), ([], []), ([], []), ([6, 7], [6, 7]), ([8], [8]), ([9], [9]), ([10], [10]), ([5, 11], [5, 11]), ([12], [12]), ([13], [13]), ([13], [13]), ([], []), ([16, 14, 12, 0, 1, 2, 3, 4, 5, 6, 7, 8, 9, 10, 11, 12, 13, 14, 16], [14, 16]), ([15, 17, 0, 1, 2, 3, 4, 5, 6, 7, 8, 9, 10, 11, 12, 13, 14, 15, 16, 17], [15])]) : Bool × List (List Nat × List Nat)).2 [0, 0, 3, 7, 15, 31, 0, 0, 192, 448, 960, 1984, 4095, 8191, 16383, 16383, 0, 98303, 262143] = true := by kernel_rfl
set_option maxHeartbeats 8000000 in
set_option maxRecDepth 100000 in
theorem chrysalislaw17_OpsOrder.reg10 {k2 : Nat} {x : Int} {n co len c0 : Nat} {ad ar : Addr} {p0 p1 : Int} {p2 : ByteArray} {q0 q1 : Int} {q2 : ByteArray} {t0 t1 : Int} {t2 : ByteArray} {t3 : Int}
    {u0 u1 u2 u3 u4 u7 u8 u9 u10 u11 u12 u13 u14 u15 u16 u17 u18 u19 u20 u21 u22 u23 u24 u25 u26 u27 u28 u29 u30 u31 u32 u33 u34 u35 u36 u37 u38 u39 u40 u41 u42 u43 u44 u45 u46 u47 u48 u49 u50 u51 u52 u53 u54 u55 u56 u57 u58 u59 u60 u61 u62 u63 u64 u65 u66 u67 u68 u69 u70 u71 u72 u73 u74 u75 u76 u77 u78 u79 u80 u81 u82 u83 u84 u85 u86 u87 u88 u89 u90 u91 u92 u93 u94 u95 u96 u97 u98 u99 u100 u101 u102 u103 u104 u105 u106 u107 u108 u109 u110 u111 u112 u113 u114 u115 u116 u117 u118 u119 u120 u121 u122 u123 u124 u125 u126 u127 u128 u129 u130 u131 u132 u133 u134 u135 u136 u137 u138 u139 u140 u141 u142 u143 u144 u145 u146 u147 u148 u149 u150 u151 u152 u153 u154 u155 u156 u157 u158 u159 u160 u161 u162 u163 u164 u165 u166 u167 u168 u169 u170 u171 u172 u173 u174 u175 u176 u177 u178 u179 u180 u181 u182 u183 u184 u185 u186 u187 u188 u189 u190 u191 u192 u193 u194 u195 u196 u197 u198 u199 u200 u201 u202 : Value} {wr : World} {Q : Exit → Act → World → Prop}
    (hP : ∀ c (a : Act) (t : Tmp) v w, Q (.panic c) (a.put (some t) v) w → Q (.panic c) a w)
    (A : Aside0 (ops_Two.f k2 (⟨#[60, 61]⟩ : ByteArray) p0 p1 p2 q0 q1 q2 = some (t0, t1, t2, t3))) (hp : (0 ≤ x) = True) (hq : (x < (n : Int)) = True)
    (hi : (0 < (len : Int)) = True) (hj : (1 < (len : Int)) = True) (gi : (0 < len) = True) (gj : (1 < len) = True)
    (h0 : wr.drew.cell? (ad.add x.toNat) = some (.slice (some ar) len c0)) (h1 : wr.drew.cell? ar = some (.int .i64 p0)) (h2 : wr.drew.cell? ⟨ar.block, ar.off + 1, none⟩ = some (.int .i64 p1)) (h3 : wr.drew.cell? ⟨ar.block, ar.off + 2, none⟩ = some (.string p2)) (h4 : wr.drew.cell? ⟨ar.block, ar.off + 3, none⟩ = some (.int .i64 q0)) (h5 : wr.drew.cell? ⟨ar.block, ar.off + 3 + 1, none⟩ = some (.int .i64 q1)) (h6 : wr.drew.cell? ⟨ar.block, ar.off + 3 + 2, none⟩ = some (.string q2))
    (hEnd : ∀ g w' v109 v110 v111 v112 v113 v114 v115 v116 v117 v118 v119 v120 v121 v122 v123 v124, wr.drew.heap.size ≤ g → Below wr.drew.heap.size wr.drew w' → w'.heap[g]? = some (.cells #[.int .i64 t0, .int .i64 t1, .string t2] 23 (0, 0)) → Q .normal { tmps := #[u0, u1, u2, u3, u4, .slice (some ad) n co, .int .i64 x, u7, u8, u9, u10, u11, u12, .pointer (some ⟨g, 0, none⟩), .int .i64 t3, u15, u16, u17, u18, u19, u20, u21, u22, u23, u24, u25, u26, u27, u28, u29, u30, u31, u32, u33, u34, u35, u36, u37, u38, u39, u40, u41, u42, u43, u44, u45, u46, u47, u48, u49, u50, u51, u52, u53, u54, u55, u56, u57, u58, u59, u60, u61, u62, u63, u64, u65, u66, u67, u68, u69, u70, u71, u72, u73, u74, u75, u76, u77, u78, u79, u80, u81, u82, u83, u84, u85, u86, u87, u88, u89, u90, u91, u92, u93, u94, u95, u96, u97, u98, u99, u100, u101, u102, u103, u104, u105, u106, u107, u108, v109, v110, v111, v112, v113, v114, v115, v116, v117, v118, v119, v120, v121, v122, v123, v124, u125, u126, u127, u128, u129, u130, u131, u132, u133, u134, u135, u136, u137, u138, u139, u140, u141, u142, u143, u144, u145, u146, u147, u148, u149, u150, u151, u152, u153, u154, u155, u156, u157, u158, u159, u160, u161, u162, u163, u164, u165, u166, u167, u168, u169, u170, u171, u172, u173, u174, u175, u176, u177, u178, u179, u180, u181, u182, u183, u184, u185, u186, u187, u188, u189, u190, u191, u192, u193, u194, u195, u196, u197, u198, u199, u200, u201, u202], defers := [] } w') :
    (Code.region 10 #[{ dst := some 110, op := Op.move (Operand.tmp 5), type := 33, pos := "law.go:103", after := #[], guard := none },
      { dst := some 111, op := Op.move (Operand.tmp 6), type := 3, pos := "law.go:103", after := #[], guard := none },
      { dst := some 112, op := Op.indexAddr 33 (Operand.tmp 110) (Operand.tmp 111), type := 0, pos := "law.go:103", after := #[{ on := 0, ground := Ground.data }, { on := 1, ground := Ground.data }], guard := none },
      { dst := some 113, op := Op.load 31 (Operand.tmp 112), type := 31, pos := "law.go:103", after := #[{ on := 2, ground := Ground.data }], guard := none },
      { dst := some 114, op := Op.indexAddr 31 (Operand.tmp 113) (Operand.const (Value.int IntKind.i64 0)), type := 0, pos := "law.go:103", after := #[{ on := 3, ground := Ground.data }], guard := none },
      { dst := some 115, op := Op.load 23 (Operand.tmp 114), type := 23, pos := "law.go:103", after := #[{ on := 4, ground := Ground.data }], guard := none },
      { dst := some 116, op := Op.move (Operand.tmp 5), type := 33, pos := "law.go:103", after := #[], guard := none },
      { dst := some 117, op := Op.move (Operand.tmp 6), type := 3, pos := "law.go:103", after := #[], guard := none },
      { dst := some 118, op := Op.indexAddr 33 (Operand.tmp 116) (Operand.tmp 117), type := 0, pos := "law.go:103", after := #[{ on := 6, ground := Ground.data }, { on := 7, ground := Ground.data }], guard := none },
      { dst := some 119, op := Op.load 31 (Operand.tmp 118), type := 31, pos := "law.go:103", after := #[{ on := 8, ground := Ground.data }], guard := none },
      { dst := some 120, op := Op.indexAddr 31 (Operand.tmp 119) (Operand.const (Value.int IntKind.i64 1)), type := 0, pos := "law.go:103", after := #[{ on := 9, ground := Ground.data }], guard := none },
      { dst := some 121, op := Op.load 23 (Operand.tmp 120), type := 23, pos := "law.go:103", after := #[{ on := 10, ground := Ground.data }], guard := none },
      { dst := some 122, op := Op.call { callee := Callee.value (Operand.func 10), args := #[Operand.const (Value.string ⟨#[60, 61]⟩), Operand.tmp 115, Operand.tmp 121], argTypes := #[9, 23, 23] }, type := 25, pos := "law.go:103", after := #[{ on := 5, ground := Ground.data }, { on := 11, ground := Ground.data }], guard := none },
      { dst := some 109, op := Op.move (Operand.tmp 122), type := 25, pos := "law.go:103", after := #[{ on := 12, ground := Ground.data }], guard := none },
      { dst := some 123, op := Op.extract (Operand.tmp 109) 0, type := 23, pos := "law.go:103", after := #[{ on := 13, ground := Ground.data }], guard := none },
      { dst := some 124, op := Op.extract (Operand.tmp 109) 1, type := 3, pos := "law.go:103", after := #[{ on := 13, ground := Ground.data }, { on := 17, ground := Ground.gcOnly Departure.lateStores }], guard := none },
      { dst := some 13, op := Op.alloc 23, type := 0, pos := "law.go:103", after := #[], guard := none },
      { dst := none, op := Op.store 23 (Operand.tmp 13) (Operand.tmp 123), type := 0, pos := "law.go:103", after := #[{ on := 16, ground := Ground.data }, { on := 14, ground := Ground.data }, { on := 12, ground := Ground.chain }, { on := 0, ground := Ground.phase }, { on := 1, ground := Ground.phase }, { on := 2, ground := Ground.phase }, { on := 3, ground := Ground.phase }, { on := 4, ground := Ground.phase }, { on := 5, ground := Ground.phase }, { on := 6, ground := Ground.phase }, { on := 7, ground := Ground.phase }, { on := 8, ground := Ground.phase }, { on := 9, ground := Ground.phase }, { on := 10, ground := Ground.phase }, { on := 11, ground := Ground.phase }, { on := 12, ground := Ground.phase }, { on := 13, ground := Ground.phase }, { on := 14, ground := Ground.phase }, { on := 15, ground := Ground.textOnly Departure.lateStores }, { on := 16, ground := Ground.phase }], guard := none },
      { dst := some 14, op := Op.assign (Operand.tmp 124), type := 3, pos := "law.go:103", after := #[{ on := 15, ground := Ground.data }, { on := 17, ground := Ground.chain }, { on := 0, ground := Ground.phase }, { on := 1, ground := Ground.phase }, { on := 2, ground := Ground.phase }, { on := 3, ground := Ground.phase }, { on := 4, ground := Ground.phase }, { on := 5, ground := Ground.phase }, { on := 6, ground := Ground.phase }, { on := 7, ground := Ground.phase }, { on := 8, ground := Ground.phase }, { on := 9, ground := Ground.phase }, { on := 10, ground := Ground.phase }, { on := 11, ground := Ground.phase }, { on := 12, ground := Ground.phase }, { on := 13, ground := Ground.phase }, { on := 14, ground := Ground.phase }, { on := 15, ground := Ground.phase }, { on := 16, ground := Ground.phase }, { on := 17, ground := Ground.phase }], guard := none }] true).wp Try.prog Q { tmps := #[u0, u1, u2, u3, u4, .slice (some ad) n co, .int .i64 x, u7, u8, u9, u10, u11, u12, u13, u14, u15, u16, u17, u18, u19, u20, u21, u22, u23, u24, u25, u26, u27, u28, u29, u30, u31, u32, u33, u34, u35, u36, u37, u38, u39, u40, u41, u42, u43, u44, u45, u46, u47, u48, u49, u50, u51, u52, u53, u54, u55, u56, u57, u58, u59, u60, u61, u62, u63, u64, u65, u66, u67, u68, u69, u70, u71, u72, u73, u74, u75, u76, u77, u78, u79, u80, u81, u82, u83, u84, u85, u86, u87, u88, u89, u90, u91, u92, u93, u94, u95, u96, u97, u98, u99, u100, u101, u102, u103, u104, u105, u106, u107, u108, u109, u110, u111, u112, u113, u114, u115, u116, u117, u118, u119, u120, u121, u122, u123, u124, u125, u126, u127, u128, u129, u130, u131, u132, u133, u134, u135, u136, u137, u138, u139, u140, u141, u142, u143, u144, u145, u146, u147, u148, u149, u150, u151, u152, u153, u154, u155, u156, u157, u158, u159, u160, u161, u162, u163, u164, u165, u166, u167, u168, u169, u170, u171, u172, u173, u174, u175, u176, u177, u178, u179, u180, u181, u182, u183, u184, u185, u186, u187, u188, u189, u190, u191, u192, u193, u194, u195, u196, u197, u198, u199, u200, u201, u202], defers := [] } wr := by
  have hu29 := Try.underlying29
  have hu30 := Try.underlying30
  have hu23 := Try.underlying23
  refine start_ (n := 19) (S := fun w' => w'.cell? (ad.add x.toNat) = some (.slice (some ar) len c0) ∧ w'.cell? ar = some (.int .i64 p0) ∧ w'.cell? ⟨ar.block, ar.off + 1, none⟩ = some (.int .i64 p1) ∧ w'.cell? ⟨ar.block, ar.off + 2, none⟩ = some (.string p2) ∧ w'.cell? ⟨ar.block, ar.off + 3, none⟩ = some (.int .i64 q0) ∧ w'.cell? ⟨ar.block, ar.off + 3 + 1, none⟩ = some (.int .i64 q1) ∧ w'.cell? ⟨ar.block, ar.off + 3 + 2, none⟩ = some (.string q2)) (ds := []) #[false, false, false, false, false, false, false, false, false, false, false, false, false, false, false, false, false, false, false] (by kernel_rfl) rfl rfl ⟨h0, h1, h2, h3, h4, h5, h6⟩ (fun hHeld => ?_); refine with_tabW chrysalislaw17_OpsOrder.rtab10 chrysalislaw17_OpsOrder.rbits10 (fun HT_ HW_ => ?_)
  generalize wr.drew = w57 at h0 h1 h2 h3 h4 h5 h6 hHeld hEnd ⊢
  have keep : ∀ w', Below w57.heap.size w57 w' → w'.cell? (ad.add x.toNat) = some (.slice (some ar) len c0) ∧ w'.cell? ar = some (.int .i64 p0) ∧ w'.cell? ⟨ar.block, ar.off + 1, none⟩ = some (.int .i64 p1) ∧ w'.cell? ⟨ar.block, ar.off + 2, none⟩ = some (.string p2) ∧ w'.cell? ⟨ar.block, ar.off + 3, none⟩ = some (.int .i64 q0) ∧ w'.cell? ⟨ar.block, ar.off + 3 + 1, none⟩ = some (.int .i64 q1) ∧ w'.cell? ⟨ar.block, ar.off + 3 + 2, none⟩ = some (.string q2) := fun w' hb => ⟨(hb.cell (World.block_lt_of_cell? _ _ h0)).trans h0, (hb.cell (World.block_lt_of_cell? _ _ h1)).trans h1, (hb.cell (World.block_lt_of_cell? _ _ h2)).trans h2, (hb.cell (World.block_lt_of_cell? _ _ h3)).trans h3, (hb.cell (World.block_lt_of_cell? _ _ h4)).trans h4, (hb.cell (World.block_lt_of_cell? _ _ h5)).trans h5, (hb.cell (World.block_lt_of_cell? _ _ h6)).trans h6⟩
  refine pA 0 110 (bQ 19 1) (hQ := fun c a w => hP c a _ _ w) ?_
  refine pA 1 111 (bQ 19 3) (hQ := fun c a w => hP c a _ _ w) ?_
  refine pA 2 112 (bQ 19 7) (hQ := fun c a w => hP c a _ _ w) ?_
  refine pA 6 116 (bQ 19 71) (hQ := fun c a w => hP c a _ _ w) ?_
  refine pA 7 117 (bQ 19 199) (hQ := fun c a w => hP c a _ _ w) ?_
  refine pA 8 118 (bQ 19 455) (hQ := fun c a w => hP c a _ _ w) ?_
  refine take_ (i := 3) (N := some 113) (v := ?_) (a' := ?_) #[true, true, true, true, false, false, true, true, true, false, false, false, false, false, false, false, false, false, false] rfl rfl (take_ofW HT_.out HW_.out (by kernel_rfl)) (fun c a w => hP c a _ _ w) (Or.inl ⟨by rfl, ?_⟩) hHeld ?_ ?_
  rotate_left
  · rintro w' ⟨s0, s1, s2, s3, s4, s5, s6⟩
    go_simp
    with_reducible rfl
  rotate_left
  · simp only [Act.put, List.setIfInBounds_toArray, List.set_cons_zero, List.set_cons_succ, i64_w, i32_w]
    rfl
  refine pA 4 114 (bQ 19 479) (hQ := fun c a w => hP c a _ _ w) ?_
  refine take_ (i := 5) (N := some 115) (v := ?_) (a' := ?_) #[true, true, true, true, true, true, true, true, true, false, false, false, false, false, false, false, false, false, false] rfl rfl (take_ofW HT_.out HW_.out (by kernel_rfl)) (fun c a w => hP c a _ _ w) (Or.inl ⟨by rfl, ?_⟩) hHeld ?_ ?_
  rotate_left
  · rintro w' ⟨s0, s1, s2, s3, s4, s5, s6⟩
    go_simp
    with_reducible rfl
  rotate_left
  · simp only [Act.put, List.setIfInBounds_toArray, List.set_cons_zero, List.set_cons_succ, i64_w, i32_w]
    rfl
  refine take_ (i := 9) (N := some 119) (v := ?_) (a' := ?_) #[true, true, true, true, true, true, true, true, true, true, false, false, false, false, false, false, false, false, false] rfl rfl (take_ofW HT_.out HW_.out (by kernel_rfl)) (fun c a w => hP c a _ _ w) (Or.inl ⟨by rfl, ?_⟩) hHeld ?_ ?_
  rotate_left
  · rintro w' ⟨s0, s1, s2, s3, s4, s5, s6⟩
    go_simp
    with_reducible rfl
  rotate_left
  · simp only [Act.put, List.setIfInBounds_toArray, List.set_cons_zero, List.set_cons_succ, i64_w, i32_w]
    rfl
  refine pA 10 120 (bQ 19 2047) (hQ := fun c a w => hP c a _ _ w) ?_
  refine take_ (i := 11) (N := some 121) (v := ?_) (a' := ?_) #[true, true, true, true, true, true, true, true, true, true, true, true, false, false, false, false, false, false, false] rfl rfl (take_ofW HT_.out HW_.out (by kernel_rfl)) (fun c a w => hP c a _ _ w) (Or.inl ⟨by rfl, ?_⟩) hHeld ?_ ?_
  rotate_left
  · rintro w' ⟨s0, s1, s2, s3, s4, s5, s6⟩
    go_simp
    with_reducible rfl
  rotate_left
  · simp only [Act.put, List.setIfInBounds_toArray, List.set_cons_zero, List.set_cons_succ, i64_w, i32_w]
    rfl
  refine join_ (σ := Nat) 2 #[true, true, true, true, true, true, true, true, true, true, true, true, true, true, true, true, true, false, false] (fun s_ => [(122, .tuple #[.agg #[.int .i64 t0, .int .i64 t1, .string t2], .int .i64 t3]), (13, .pointer (some ⟨s_, 0, none⟩)), (109, .tuple #[.agg #[.int .i64 t0, .int .i64 t1, .string t2], .int .i64 t3]), (123, .agg #[.int .i64 t0, .int .i64 t1, .string t2]), (124, .int .i64 t3)]) (fun s_ w' => (w'.cell? (ad.add x.toNat) = some (.slice (some ar) len c0) ∧ w'.cell? ar = some (.int .i64 p0) ∧ w'.cell? ⟨ar.block, ar.off + 1, none⟩ = some (.int .i64 p1) ∧ w'.cell? ⟨ar.block, ar.off + 2, none⟩ = some (.string p2) ∧ w'.cell? ⟨ar.block, ar.off + 3, none⟩ = some (.int .i64 q0) ∧ w'.cell? ⟨ar.block, ar.off + 3 + 1, none⟩ = some (.int .i64 q1) ∧ w'.cell? ⟨ar.block, ar.off + 3 + 2, none⟩ = some (.string q2)) ∧ w57.heap.size ≤ s_ ∧ w'.heap[s_]? = some (.cells #[.int .i64 0, .int .i64 0, .string (⟨#[]⟩ : ByteArray)] 23 (0, 0)) ∧ Below w57.heap.size w57 w') ?_ ?_
  rotate_left
  · intro hCont
    refine two_ (i := 12) (j := 16) (Ni := some 122) (Nj := some 13) #[true, true, true, true, true, true, true, true, true, true, true, true, true, false, false, false, false, false, false] #[true, true, true, true, true, true, true, true, true, true, true, true, false, false, false, false, true, false, false] rfl rfl rfl rfl (two_of HT_.out (by kernel_rfl)) (by decide) (by decide) (fun K hK => ?_) (fun K hK => ?_)
    · skip
      refine goes_ Try.func10 (by kernel_rfl) rfl #[.string (⟨#[60, 61]⟩ : ByteArray), .agg #[.int .i64 p0, .int .i64 p1, .string p2], .agg #[.int .i64 q0, .int .i64 q1, .string q2]] (by rfl) rfl rfl (by (try simp only [List.map_toArray, List.map_cons, List.map_nil]); first | done | rfl) ?_
      with_reducible refine (ops_Two.calls k2 (⟨#[60, 61]⟩ : ByteArray) p0 p1 p2 q0 q1 q2 t0 t1 t2 t3 _ A.out).mono ?_
      rintro e w59 ⟨rfl, hb⟩
      refine ⟨_, rfl, ?_⟩
      have HB1 := hb
      refine hK.out _ _ (keep _ HB1) (fun hHeld => ?_)
      clear hK K
      refine norm_ (a' := ?_) ?_ ?_
      rotate_left
      · show Act.put _ (some 122) _ = _
        simp only [Act.put, List.setIfInBounds_toArray, List.set_cons_zero, List.set_cons_succ, i64_w, i32_w]
        rfl
      refine pA 13 109 (bQ 19 16383) (hQ := fun c a w => hP c a _ _ w) ?_
      refine pA 14 123 (bQ 19 32767) (hQ := fun c a w => hP c a _ _ w) ?_
      refine pA 15 124 (bQ 19 65535) (hQ := fun c a w => hP c a _ _ w) ?_
      refine one_ (i := 16) (N := some 13) (bQ 19 131071) rfl rfl (one_of HT_.out (by kernel_rfl)) (by decide) (fun K hK => ?_)
      refine box_step ?hg (N := 13) ?hd (cs := #[.int .i64 0, .int .i64 0, .string (⟨#[]⟩ : ByteArray)]) (t := 23) ?hr ?_; (case hd => rfl); (case hg => rfl); (case hr => first | (go_simp; done) | (go_simp; rfl))
      intro g hg w60 hbox hb
      have HB2 := below_step HB1 hb
      have hge : w57.heap.size ≤ g := by rw [hg]; exact below_size HB1
      have hbox' := hbox
      refine hK.out _ _ (keep _ HB2) (fun hHeld => ?_)
      clear hK K
      refine norm_ (a' := ?_) ?_ ?_
      rotate_left
      · show Act.put _ (some 13) _ = _
        simp only [Act.put, List.setIfInBounds_toArray, List.set_cons_zero, List.set_cons_succ, i64_w, i32_w]
        rfl
      exact norm_ (by simp only [putAll, Act.put, List.setIfInBounds_toArray, List.set_cons_zero, List.set_cons_succ]) (hCont g _ ⟨hHeld, hge, hbox', HB2⟩)
    · skip
      refine box_step ?hg (N := 13) ?hd (cs := #[.int .i64 0, .int .i64 0, .string (⟨#[]⟩ : ByteArray)]) (t := 23) ?hr ?_; (case hd => rfl); (case hg => rfl); (case hr => first | (go_simp; done) | (go_simp; rfl))
      intro g hg w59 hbox hb
      have HB1 := hb
      have hge : w57.heap.size ≤ g := Nat.le_of_eq hg.symm
      refine hK.out _ _ (keep _ HB1) (fun hHeld => ?_)
      clear hK K
      refine norm_ (a' := ?_) ?_ ?_
      rotate_left
      · show Act.put _ (some 13) _ = _
        simp only [Act.put, List.setIfInBounds_toArray, List.set_cons_zero, List.set_cons_succ, i64_w, i32_w]
        rfl
      refine one_ (i := 12) (N := some 122) (bQ 19 73727) rfl rfl (one_of HT_.out (by kernel_rfl)) (by decide) (fun K hK => ?_)
      refine goes_ Try.func10 (by kernel_rfl) rfl #[.string (⟨#[60, 61]⟩ : ByteArray), .agg #[.int .i64 p0, .int .i64 p1, .string p2], .agg #[.int .i64 q0, .int .i64 q1, .string q2]] (by rfl) rfl rfl (by (try simp only [List.map_toArray, List.map_cons, List.map_nil]); first | done | rfl) ?_
      with_reducible refine (ops_Two.calls k2 (⟨#[60, 61]⟩ : ByteArray) p0 p1 p2 q0 q1 q2 t0 t1 t2 t3 _ A.out).mono ?_
      rintro e w60 ⟨rfl, hb⟩
      refine ⟨_, rfl, ?_⟩
      have HB2 := below_step HB1 hb
      have hbox' := blk_below hbox hb
      refine hK.out _ _ (keep _ HB2) (fun hHeld => ?_)
      clear hK K
      refine norm_ (a' := ?_) ?_ ?_
      rotate_left
      · show Act.put _ (some 122) _ = _
        simp only [Act.put, List.setIfInBounds_toArray, List.set_cons_zero, List.set_cons_succ, i64_w, i32_w]
        rfl
      refine pA 13 109 (bQ 19 81919) (hQ := fun c a w => hP c a _ _ w) ?_
      refine pA 14 123 (bQ 19 98303) (hQ := fun c a w => hP c a _ _ w) ?_
      refine pA 15 124 (bQ 19 131071) (hQ := fun c a w => hP c a _ _ w) ?_
      exact norm_ (by simp only [putAll, Act.put, List.setIfInBounds_toArray, List.set_cons_zero, List.set_cons_succ]) (hCont g _ ⟨hHeld, hge, hbox', HB2⟩)
  rintro g w61 ⟨hS_, hge, hbox, HB⟩
  have hHeld : w61.cell? (ad.add x.toNat) = some (.slice (some ar) len c0) ∧ w61.cell? ar = some (.int .i64 p0) ∧ w61.cell? ⟨ar.block, ar.off + 1, none⟩ = some (.int .i64 p1) ∧ w61.cell? ⟨ar.block, ar.off + 2, none⟩ = some (.string p2) ∧ w61.cell? ⟨ar.block, ar.off + 3, none⟩ = some (.int .i64 q0) ∧ w61.cell? ⟨ar.block, ar.off + 3 + 1, none⟩ = some (.int .i64 q1) ∧ w61.cell? ⟨ar.block, ar.off + 3 + 2, none⟩ = some (.string q2) := hS_
  refine norm_ (a' := ?_) ?_ ?_
  rotate_left
  · simp only [putAll, Act.put, List.setIfInBounds_toArray, List.set_cons_zero, List.set_cons_succ]
    rfl
  refine one_ (i := 17) (N := none) #[true, true, true, true, true, true, true, true, true, true, true, true, true, true, true, true, true, true, false] rfl rfl (one_of HT_.out (by kernel_rfl)) (by decide) (fun K hK => ?_)
  have hs0 : w61.cell? ⟨g, 0, none⟩ = some (.int .i64 0) := (blk_cell hbox 0).trans rfl
  have hf0 := blk_frozen hbox 0
  have hs1 : w61.cell? ⟨g, 1, none⟩ = some (.int .i64 0) := (blk_cell hbox 1).trans rfl
  have hf1 := blk_frozen hbox 1
  have hs2 : w61.cell? ⟨g, 2, none⟩ = some (.string (⟨#[]⟩ : ByteArray)) := (blk_cell hbox 2).trans rfl
  have hf2 := blk_frozen hbox 2
  refine skip_ (w1 := ?_) (by rfl) rfl ?_ ?_
  rotate_left
  · go_simp
    rfl
  have HB3 := below_set (j := 2) (v := .string t2) (below_set (j := 1) (v := .int .i64 t1) (below_set (j := 0) (v := .int .i64 t0) HB hge) hge) hge
  have hbx := blk_put (cs' := #[.int .i64 t0, .int .i64 t1, .string t2]) (blk_put (cs' := #[.int .i64 t0, .int .i64 t1, .string (⟨#[]⟩ : ByteArray)]) (blk_put (cs' := #[.int .i64 t0, .int .i64 0, .string (⟨#[]⟩ : ByteArray)]) hbox 0 (.int .i64 t0) rfl) 1 (.int .i64 t1) rfl) 2 (.string t2) rfl
  refine hK.out _ _ (keep _ HB3) (fun hHeld => ?_)
  clear hK K
  refine pA 18 14 (bQ 19 524287) (hQ := fun c a w => hP c a _ _ w) ?_
  refine done_ (done_of HT_.out (by kernel_rfl)) ?_
  exact hEnd g _ _ _ _ _ _ _ _ _ _ _ _ _ _ _ _ _ hge HB3 hbx
theorem chrysalislaw17_OpsOrder.rtab11 : rtab .any (opsOf Try.f4 11) = (true, [([], []), ([], []), ([0, 1], [0, 1]), ([2], [2]), ([3], [3]), ([4], [4]), ([], []), ([], []), ([6, 7], [6, 7]), ([8], [8]), ([9], [9]), ([10], [10]), ([5, 11], [5, 11]), ([12], [12]), ([13], [13]), ([13], [13]), ([], []), ([16, 14, 12, 0, 1, 2, 3, 4, 5, 6, 7, 8, 9, 10, 11, 12, 13, 14, 16], [14, 16]), ([15, 17, 0, 1, 2, 3, 4, 5, 6, 7, 8, 9, 10, 11, 12, 13, 14, 15, 16, 17], [15])]) := by kernel_rfl
theorem chrysalislaw17_OpsOrder.rbits11 : waitsOk ((true, [([], []), ([], []), ([0, 1], [0, 1]), ([2], [2]), ([3], [3]), ([4], [4]), ([], []), ([], []), ([6, 7], [6, 7]), ([8], [8]), ([9], [9]), ([10], [10]), ([5, 11], [5, 11]), ([12], [12]), ([13], [13]), ([13], [13]), ([], []), ([16, 14, 12, 0, 1, 2, 3, 4, 5, 6, 7, 8, 9, 10, 11, 12, 13, 14, 16], [14, 16]), ([15, 17, 0, 1, 2, 3, 4, 5, 6, 7, 8, 9, 10, 11, 12, 13, 14, 15, 16, 17], [15])]) : Bool × List (List Nat × List Nat)).2 [0, 0, 3, 7, 15, 31, 0, 0, 192, 448, 960, 1984, 4095, 8191, 16383, 16383, 0, 98303, 262143] = true := by kernel_rfl
set_option maxHeartbeats 8000000 in
set_option maxRecDepth 100000 in
theorem chrysalislaw17_OpsOrder.reg11 {k2 : Nat} {x : Int} {n co len c0 : Nat} {ad ar : Addr} {p0 p1 : Int} {p2 : ByteArray} {q0 q1 : Int} {q2 : ByteArray} {t0 t1 : Int} {t2 : ByteArray} {t3 : Int}
    {u0 u1 u2 u3 u4 u7 u8 u9 u10 u11 u12 u13 u14 u15 u16 u17 u18 u19 u20 u21 u22 u23 u24 u25 u26 u27 u28 u29 u30 u31 u32 u33 u34 u35 u36 u37 u38 u39 u40 u41 u42 u43 u44 u45 u46 u47 u48 u49 u50 u51 u52 u53 u54 u55 u56 u57 u58 u59 u60 u61 u62 u63 u64 u65 u66 u67 u68 u69 u70 u71 u72 u73 u74 u75 u76 u77 u78 u79 u80 u81 u82 u83 u84 u85 u86 u87 u88 u89 u90 u91 u92 u93 u94 u95 u96 u97 u98 u99 u100 u101 u102 u103 u104 u105 u106 u107 u108 u109 u110 u111 u112 u113 u114 u115 u116 u117 u118 u119 u120 u121 u122 u123 u124 u125 u126 u127 u128 u129 u130 u131 u132 u133 u134 u135 u136 u137 u138 u139 u140 u141 u142 u143 u144 u145 u146 u147 u148 u149 u150 u151 u152 u153 u154 u155 u156 u157 u158 u159 u160 u161 u162 u163 u164 u165 u166 u167 u168 u169 u170 u171 u172 u173 u174 u175 u176 u177 u178 u179 u180 u181 u182 u183 u184 u185 u186 u187 u188 u189 u190 u191 u192 u193 u194 u195 u196 u197 u198 u199 u200 u201 u202 : Value} {wr : World} {Q : Exit → Act → World → Prop}
    (hP : ∀ c (a : Act) (t : Tmp) v w, Q (.panic c) (a.put (some t) v) w → Q (.panic c) a w)
    (A : Aside0 (ops_Two.f k2 (⟨#[61, 61]⟩ : ByteArray) p0 p1 p2 q0 q1 q2 = some (t0, t1, t2, t3))) (hp : (0 ≤ x) = True) (hq : (x < (n : Int)) = True)
    (hi : (0 < (len : Int)) = True) (hj : (1 < (len : Int)) = True) (gi : (0 < len) = True) (gj : (1 < len) = True)
    (h0 : wr.drew.cell? (ad.add x.toNat) = some (.slice (some ar) len c0)) (h1 : wr.drew.cell? ar = some (.int .i64 p0)) (h2 : wr.drew.cell? ⟨ar.block, ar.off + 1, none⟩ = some (.int .i64 p1)) (h3 : wr.drew.cell? ⟨ar.block, ar.off + 2, none⟩ = some (.string p2)) (h4 : wr.drew.cell? ⟨ar.block, ar.off + 3, none⟩ = some (.int .i64 q0)) (h5 : wr.drew.cell? ⟨ar.block, ar.off + 3 + 1, none⟩ = some (.int .i64 q1)) (h6 : wr.drew.cell? ⟨ar.block, ar.off + 3 + 2, none⟩ = some (.string q2))
    (hEnd : ∀ g w' v125 v126 v127 v128 v129 v130 v131 v132 v133 v134 v135 v136 v137 v138 v139 v140, wr.drew.heap.size ≤ g → Below wr.drew.heap.size wr.drew w' → w'.heap[g]? = some (.cells #[.int .i64 t0, .int .i64 t1, .string t2] 23 (0, 0)) → Q .normal { tmps := #[u0, u1, u2, u3, u4, .slice (some ad) n co, .int .i64 x, u7, u8, u9, u10, u11, u12, u13, u14, .pointer (some ⟨g, 0, none⟩), .int .i64 t3, u17, u18, u19, u20, u21, u22, u23, u24, u25, u26, u27, u28, u29, u30, u31, u32, u33, u34, u35, u36, u37, u38, u39, u40, u41, u42, u43, u44, u45, u46, u47, u48, u49, u50, u51, u52, u53, u54, u55, u56, u57, u58, u59, u60, u61, u62, u63, u64, u65, u66, u67, u68, u69, u70, u71, u72, u73, u74, u75, u76, u77, u78, u79, u80, u81, u82, u83, u84, u85, u86, u87, u88, u89, u90, u91, u92, u93, u94, u95, u96, u97, u98, u99, u100, u101, u102, u103, u104, u105, u106, u107, u108, u109, u110, u111, u112, u113, u114, u115, u116, u117, u118, u119, u120, u121, u122, u123, u124, v125, v126, v127, v128, v129, v130, v131, v132, v133, v134, v135, v136, v137, v138, v139, v140, u141, u142, u143, u144, u145, u146, u147, u148, u149, u150, u151, u152, u153, u154, u155, u156, u157, u158, u159, u160, u161, u162, u163, u164, u165, u166, u167, u168, u169, u170, u171, u172, u173, u174, u175, u176, u177, u178, u179, u180, u181, u182, u183, u184, u185, u186, u187, u188, u189, u190, u191, u192, u193, u194, u195, u196, u197, u198, u199, u200, u201, u202], defers := [] } w') :
    (Code.region 11 #[{ dst := some 126, op := Op.move (Operand.tmp 5), type := 33, pos := "law.go:104", after := #[], guard := none },
      { dst := some 127, op := Op.move (Operand.tmp 6), type := 3, pos := "law.go:104", after := #[], guard := none },
      { dst := some 128, op := Op.indexAddr 33 (Operand.tmp 126) (Operand.tmp 127), type := 0, pos := "law.go:104", after := #[{ on := 0, ground := Ground.data }, { on := 1, ground := Ground.data }], guard := none },
      { dst := some 129, op := Op.load 31 (Operand.tmp 128), type := 31, pos := "law.go:104", after := #[{ on := 2, ground := Ground.data }], guard := none },
      { dst := some 130, op := Op.indexAddr 31 (Operand.tmp 129) (Operand.const (Value.int IntKind.i64 0)), type := 0, pos := "law.go:104", after := #[{ on := 3, ground := Ground.data }], guard := none },
      { dst := some 131, op := Op.load 23 (Operand.tmp 130), type := 23, pos := "law.go:104", after := #[{ on := 4, ground := Ground.data }], guard := none },
      { dst := some 132, op := Op.move (Operand.tmp 5), type := 33, pos := "law.go:104", after := #[], guard := none },
      { dst := some 133, op := Op.move (Operand.tmp 6), type := 3, pos := "law.go:104", after := #[], guard := none },
      { dst := some 134, op := Op.indexAddr 33 (Operand.tmp 132) (Operand.tmp 133), type := 0, pos := "law.go:104", after := #[{ on := 6, ground := Ground.data }, { on := 7, ground := Ground.data }], guard := none },
      { dst := some 135, op := Op.load 31 (Operand.tmp 134), type := 31, pos := "law.go:104", after := #[{ on := 8, ground := Ground.data }], guard := none },
      { dst := some 136, op := Op.indexAddr 31 (Operand.tmp 135) (Operand.const (Value.int IntKind.i64 1)), type := 0, pos := "law.go:104", after := #[{ on := 9, ground := Ground.data }], guard := none },
      { dst := some 137, op := Op.load 23 (Operand.tmp 136), type := 23, pos := "law.go:104", after := #[{ on := 10, ground := Ground.data }], guard := none },
      { dst := some 138, op := Op.call { callee := Callee.value (Operand.func 10), args := #[Operand.const (Value.string ⟨#[61, 61]⟩), Operand.tmp 131, Operand.tmp 137], argTypes := #[9, 23, 23] }, type := 25, pos := "law.go:104", after := #[{ on := 5, ground := Ground.data }, { on := 11, ground := Ground.data }], guard := none },
      { dst := some 125, op := Op.move (Operand.tmp 138), type := 25, pos := "law.go:104", after := #[{ on := 12, ground := Ground.data }], guard := none },
      { dst := some 139, op := Op.extract (Operand.tmp 125) 0, type := 23, pos := "law.go:104", after := #[{ on := 13, ground := Ground.data }], guard := none },
      { dst := some 140, op := Op.extract (Operand.tmp 125) 1, type := 3, pos := "law.go:104", after := #[{ on := 13, ground := Ground.data }, { on := 17, ground := Ground.gcOnly Departure.lateStores }], guard := none },
      { dst := some 15, op := Op.alloc 23, type := 0, pos := "law.go:104", after := #[], guard := none },
      { dst := none, op := Op.store 23 (Operand.tmp 15) (Operand.tmp 139), type := 0, pos := "law.go:104", after := #[{ on := 16, ground := Ground.data }, { on := 14, ground := Ground.data }, { on := 12, ground := Ground.chain }, { on := 0, ground := Ground.phase }, { on := 1, ground := Ground.phase }, { on := 2, ground := Ground.phase }, { on := 3, ground := Ground.phase }, { on := 4, ground := Ground.phase }, { on := 5, ground := Ground.phase }, { on := 6, ground := Ground.phase }, { on := 7, ground := Ground.phase }, { on := 8, ground := Ground.phase }, { on := 9, ground := Ground.phase }, { on := 10, ground := Ground.phase }, { on := 11, ground := Ground.phase }, { on := 12, ground := Ground.phase }, { on := 13, ground := Ground.phase }, { on := 14, ground := Ground.phase }, { on := 15, ground := Ground.textOnly Departure.lateStores }, { on := 16, ground := Ground.phase }], guard := none },
      { dst := some 16, op := Op.assign (Operand.tmp 140), type := 3, pos := "law.go:104", after := #[{ on := 15, ground := Ground.data }, { on := 17, ground := Ground.chain }, { on := 0, ground := Ground.phase }, { on := 1, ground := Ground.phase }, { on := 2, ground := Ground.phase }, { on := 3, ground := Ground.phase }, { on := 4, ground := Ground.phase }, { on := 5, ground := Ground.phase }, { on := 6, ground := Ground.phase }, { on := 7, ground := Ground.phase }, { on := 8, ground := Ground.phase }, { on := 9, ground := Ground.phase }, { on := 10, ground := Ground.phase }, { on := 11, ground := Ground.phase }, { on := 12, ground := Ground.phase }, { on := 13, ground := Ground.phase }, { on := 14, ground := Ground.phase }, { on := 15, ground := Ground.phase }, { on := 16, ground := Ground.phase }, { on := 17, ground := Ground.phase }], guard := none }] true).wp Try.prog Q { tmps := #[u0, u1, u2, u3, u4, .slice (some ad) n co, .int .i64 x, u7, u8, u9, u10, u11, u12, u13, u14, u15, u16, u17, u18, u19, u20, u21, u22, u23, u24, u25, u26, u27, u28, u29, u30, u31, u32, u33, u34, u35, u36, u37, u38, u39, u40, u41, u42, u43, u44, u45, u46, u47, u48, u49, u50, u51, u52, u53, u54, u55, u56, u57, u58, u59, u60, u61, u62, u63, u64, u65, u66, u67, u68, u69, u70, u71, u72, u73, u74, u75, u76, u77, u78, u79, u80, u81, u82, u83, u84, u85, u86, u87, u88, u89, u90, u91, u92, u93, u94, u95, u96, u97, u98, u99, u100, u101, u102, u103, u104, u105, u106, u107, u108, u109, u110, u111, u112, u113, u114, u115, u116, u117, u118, u119, u120, u121, u122, u123, u124, u125, u126, u127, u128, u129, u130, u131, u132, u133, u134, u135, u136, u137, u138, u139, u140, u141, u142, u143, u144, u145, u146, u147, u148, u149, u150, u151, u152, u153, u154, u155, u156, u157, u158, u159, u160, u161, u162, u163, u164, u165, u166, u167, u168, u169, u170, u171, u172, u173, u174, u175, u176, u177, u178, u179, u180, u181, u182, u183, u184, u185, u186, u187, u188, u189, u190, u191, u192, u193, u194, u195, u196, u197, u198, u199, u200, u201, u202], defers := [] } wr := by
  have hu29 := Try.underlying29
  have hu30 := Try.underlying30
  have hu23 := Try.underlying23
  refine start_ (n := 19) (S := fun w' => w'.cell? (ad.add x.toNat) = some (.slice (some ar) len c0) ∧ w'.cell? ar = some (.int .i64 p0) ∧ w'.cell? ⟨ar.block, ar.off + 1, none⟩ = some (.int .i64 p1) ∧ w'.cell? ⟨ar.block, ar.off + 2, none⟩ = some (.string p2) ∧ w'.cell? ⟨ar.block, ar.off + 3, none⟩ = some (.int .i64 q0) ∧ w'.cell? ⟨ar.block, ar.off + 3 + 1, none⟩ = some (.int .i64 q1) ∧ w'.cell? ⟨ar.block, ar.off + 3 + 2, none⟩ = some (.string q2)) (ds := []) #[false, false, false, false, false, false, false, false, false, false, false, false, false, false, false, false, false, false, false] (by kernel_rfl) rfl rfl ⟨h0, h1, h2, h3, h4, h5, h6⟩ (fun hHeld => ?_); refine with_tabW chrysalislaw17_OpsOrder.rtab11 chrysalislaw17_OpsOrder.rbits11 (fun HT_ HW_ => ?_)
  generalize wr.drew = w57 at h0 h1 h2 h3 h4 h5 h6 hHeld hEnd ⊢
  have keep : ∀ w', Below w57.heap.size w57 w' → w'.cell? (ad.add x.toNat) = some (.slice (some ar) len c0) ∧ w'.cell? ar = some (.int .i64 p0) ∧ w'.cell? ⟨ar.block, ar.off + 1, none⟩ = some (.int .i64 p1) ∧ w'.cell? ⟨ar.block, ar.off + 2, none⟩ = some (.string p2) ∧ w'.cell? ⟨ar.block, ar.off + 3, none⟩ = some (.int .i64 q0) ∧ w'.cell? ⟨ar.block, ar.off + 3 + 1, none⟩ = some (.int .i64 q1) ∧ w'.cell? ⟨ar.block, ar.off + 3 + 2, none⟩ = some (.string q2) := fun w' hb => ⟨(hb.cell (World.block_lt_of_cell? _ _ h0)).trans h0, (hb.cell (World.block_lt_of_cell? _ _ h1)).trans h1, (hb.cell (World.block_lt_of_cell? _ _ h2)).trans h2, (hb.cell (World.block_lt_of_cell? _ _ h3)).trans h3, (hb.cell (World.block_lt_of_cell? _ _ h4)).trans h4, (hb.cell (World.block_lt_of_cell? _ _ h5)).trans h5, (hb.cell (World.block_lt_of_cell? _ _ h6)).trans h6⟩
  refine pA 0 126 (bQ 19 1) (hQ := fun c a w => hP c a _ _ w) ?_
  refine pA 1 127 (bQ 19 3) (hQ := fun c a w => hP c a _ _ w) ?_
  refine pA 2 128 (bQ 19 7) (hQ := fun c a w => hP c a _ _ w) ?_
  refine pA 6 132 (bQ 19 71) (hQ := fun c a w => hP c a _ _ w) ?_
  refine pA 7 133 (bQ 19 199) (hQ := fun c a w => hP c a _ _ w) ?_
  refine pA 8 134 (bQ 19 455) (hQ := fun c a w => hP c a _ _ w) ?_
  refine take_ (i := 3) (N := some 129) (v := ?_) (a' := ?_) #[true, true, true, true, false, false, true, true, true, false, false, false, false, false, false, false, false, false, false] rfl rfl (take_ofW HT_.out HW_.out (by kernel_rfl)) (fun c a w => hP c a _ _ w) (Or.inl ⟨by rfl, ?_⟩) hHeld ?_ ?_
  rotate_left
  · rintro w' ⟨s0, s1, s2, s3, s4, s5, s6⟩
    go_simp
    with_reducible rfl
  rotate_left
  · simp only [Act.put, List.setIfInBounds_toArray, List.set_cons_zero, List.set_cons_succ, i64_w, i32_w]
    rfl
  refine pA 4 130 (bQ 19 479) (hQ := fun c a w => hP c a _ _ w) ?_
  refine take_ (i := 5) (N := some 131) (v := ?_) (a' := ?_) #[true, true, true, true, true, true, true, true, true, false, false, false, false, false, false, false, false, false, false] rfl rfl (take_ofW HT_.out HW_.out (by kernel_rfl)) (fun c a w => hP c a _ _ w) (Or.inl ⟨by rfl, ?_⟩) hHeld ?_ ?_
  rotate_left
  · rintro w' ⟨s0, s1, s2, s3, s4, s5, s6⟩
    go_simp
    with_reducible rfl
  rotate_left
  · simp only [Act.put, List.setIfInBounds_toArray, List.set_cons_zero, List.set_cons_succ, i64_w, i32_w]
    rfl
  refine take_ (i := 9) (N := some 135) (v := ?_) (a' := ?_) #[true, true, true, true, true, true, true, true, true, true, false, false, false, false, false, false, false, false, false] rfl rfl (take_ofW HT_.out HW_.out (by kernel_rfl)) (fun c a w => hP c a _ _ w) (Or.inl ⟨by rfl, ?_⟩) hHeld ?_ ?_
  rotate_left
  · rintro w' ⟨s0, s1, s2, s3, s4, s5, s6⟩
    go_simp
    with_reducible rfl
  rotate_left
  · simp only [Act.put, List.setIfInBounds_toArray, List.set_cons_zero, List.set_cons_succ, i64_w, i32_w]
    rfl
  refine pA 10 136 (bQ 19 2047) (hQ := fun c a w => hP c a _ _ w) ?_
  refine take_ (i := 11) (N := some 137) (v := ?_) (a' := ?_) #[true, true, true, true, true, true, true, true, true, true, true, true, false, false, false, false, false, false, false] rfl rfl (take_ofW HT_.out HW_.out (by kernel_rfl)) (fun c a w => hP c a _ _ w) (Or.inl ⟨by rfl, ?_⟩) hHeld ?_ ?_
  rotate_left
  · rintro w' ⟨s0, s1, s2, s3, s4, s5, s6⟩
    go_simp
    with_reducible rfl
  rotate_left
  · simp only [Act.put, List.setIfInBounds_toArray, List.set_cons_zero, List.set_cons_succ, i64_w, i32_w]
    rfl
  refine join_ (σ := Nat) 2 #[true, true, true, true, true, true, true, true, true, true, true, true, true, true, true, true, true, false, false] (fun s_ => [(138, .tuple #[.agg #[.int .i64 t0, .int .i64 t1, .string t2], .int .i64 t3]), (15, .pointer (some ⟨s_, 0, none⟩)), (125, .tuple #[.agg #[.int .i64 t0, .int .i64 t1, .string t2], .int .i64 t3]), (139, .agg #[.int .i64 t0, .int .i64 t1, .string t2]), (140, .int .i64 t3)]) (fun s_ w' => (w'.cell? (ad.add x.toNat) = some (.slice (some ar) len c0) ∧ w'.cell? ar = some (.int .i64 p0) ∧ w'.cell? ⟨ar.block, ar.off + 1, none⟩ = some (.int .i64 p1) ∧ w'.cell? ⟨ar.block, ar.off + 2, none⟩ = some (.string p2) ∧ w'.cell? ⟨ar.block, ar.off + 3, none⟩ = some (.int .i64 q0) ∧ w'.cell? ⟨ar.block, ar.off + 3 + 1, none⟩ = some (.int .i64 q1) ∧ w'.cell? ⟨ar.block, ar.off + 3 + 2, none⟩ = some (.string q2)) ∧ w57.heap.size ≤ s_ ∧ w'.heap[s_]? = some (.cells #[.int .i64 0, .int .i64 0, .string (⟨#[]⟩ : ByteArray)] 23 (0, 0)) ∧ Below w57.heap.size w57 w') ?_ ?_
  rotate_left
  · intro hCont
    refine two_ (i := 12) (j := 16) (Ni := some 138) (Nj := some 15) #[true, true, true, true, true, true, true, true, true, true, true, true, true, false, false, false, false, false, false] #[true, true, true, true, true, true, true, true, true, true, true, true, false, false, false, false, true, false, false] rfl rfl rfl rfl (two_of HT_.out (by kernel_rfl)) (by decide) (by decide) (fun K hK => ?_) (fun K hK => ?_)
    · skip
      refine goes_ Try.func10 (by kernel_rfl) rfl #[.string (⟨#[61, 61]⟩ : ByteArray), .agg #[.int .i64 p0, .int .i64 p1, .string p2], .agg #[.int .i64 q0, .int .i64 q1, .string q2]] (by rfl) rfl rfl (by (try simp only [List.map_toArray, List.map_cons, List.map_nil]); first | done | rfl) ?_
      with_reducible refine (ops_Two.calls k2 (⟨#[61, 61]⟩ : ByteArray) p0 p1 p2 q0 q1 q2 t0 t1 t2 t3 _ A.out).mono ?_
      rintro e w59 ⟨rfl, hb⟩
      refine ⟨_, rfl, ?_⟩
      have HB1 := hb
      refine hK.out _ _ (keep _ HB1) (fun hHeld => ?_)
      clear hK K
      refine norm_ (a' := ?_) ?_ ?_
      rotate_left
      · show Act.put _ (some 138) _ = _
        simp only [Act.put, List.setIfInBounds_toArray, List.set_cons_zero, List.set_cons_succ, i64_w, i32_w]
        rfl
      refine pA 13 125 (bQ 19 16383) (hQ := fun c a w => hP c a _ _ w) ?_
      refine pA 14 139 (bQ 19 32767) (hQ := fun c a w => hP c a _ _ w) ?_
      refine pA 15 140 (bQ 19 65535) (hQ := fun c a w => hP c a _ _ w) ?_
      refine one_ (i := 16) (N := some 15) (bQ 19 131071) rfl rfl (one_of HT_.out (by kernel_rfl)) (by decide) (fun K hK => ?_)
      refine box_step ?hg (N := 15) ?hd (cs := #[.int .i64 0, .int .i64 0, .string (⟨#[]⟩ : ByteArray)]) (t := 23) ?hr ?_; (case hd => rfl); (case hg => rfl); (case hr => first | (go_simp; done) | (go_simp; rfl))
      intro g hg w60 hbox hb
      have HB2 := below_step HB1 hb
      have hge : w57.heap.size ≤ g := by rw [hg]; exact below_size HB1
      have hbox' := hbox
      refine hK.out _ _ (keep _ HB2) (fun hHeld => ?_)
      clear hK K
      refine norm_ (a' := ?_) ?_ ?_
      rotate_left
      · show Act.put _ (some 15) _ = _
        simp only [Act.put, List.setIfInBounds_toArray, List.set_cons_zero, List.set_cons_succ, i64_w, i32_w]
        rfl
      exact norm_ (by simp only [putAll, Act.put, List.setIfInBounds_toArray, List.set_cons_zero, List.set_cons_succ]) (hCont g _ ⟨hHeld, hge, hbox', HB2⟩)
    · skip
      refine box_step ?hg (N := 15) ?hd (cs := #[.int .i64 0, .int .i64 0, .string (⟨#[]⟩ : ByteArray)]) (t := 23) ?hr ?_; (case hd => rfl); (case hg => rfl); (case hr => first | (go_simp; done) | (go_simp; rfl))
      intro g hg w59 hbox hb
      have HB1 := hb
      have hge : w57.heap.size ≤ g := Nat.le_of_eq hg.symm
      refine hK.out _ _ (keep _ HB1) (fun hHeld => ?_)
      clear hK K
      refine norm_ (a' := ?_) ?_ ?_
      rotate_left
      · show Act.put _ (some 15) _ = _
        simp only [Act.put, List.setIfInBounds_toArray, List.set_cons_zero, List.set_cons_succ, i64_w, i32_w]
        rfl
      refine one_ (i := 12) (N := some 138) (bQ 19 73727) rfl rfl (one_of HT_.out (by kernel_rfl)) (by decide) (fun K hK => ?_)
      refine goes_ Try.func10 (by kernel_rfl) rfl #[.string (⟨#[61, 61]⟩ : ByteArray), .agg #[.int .i64 p0, .int .i64 p1, .string p2], .agg #[.int .i64 q0, .int .i64 q1, .string q2]] (by rfl) rfl rfl (by (try simp only [List.map_toArray, List.map_cons, List.map_nil]); first | done | rfl) ?_
      with_reducible refine (ops_Two.calls k2 (⟨#[61, 61]⟩ : ByteArray) p0 p1 p2 q0 q1 q2 t0 t1 t2 t3 _ A.out).mono ?_
      rintro e w60 ⟨rfl, hb⟩
      refine ⟨_, rfl, ?_⟩
      have HB2 := below_step HB1 hb
      have hbox' := blk_below hbox hb
      refine hK.out _ _ (keep _ HB2) (fun hHeld => ?_)
      clear hK K
      refine norm_ (a' := ?_) ?_ ?_
      rotate_left
      · show Act.put _ (some 138) _ = _
        simp only [Act.put, List.setIfInBounds_toArray, List.set_cons_zero, List.set_cons_succ, i64_w, i32_w]
        rfl
      refine pA 13 125 (bQ 19 81919) (hQ := fun c a w => hP c a _ _ w) ?_
      refine pA 14 139 (bQ 19 98303) (hQ := fun c a w => hP c a _ _ w) ?_
      refine pA 15 140 (bQ 19 131071) (hQ := fun c a w => hP c a _ _ w) ?_
      exact norm_ (by simp only [putAll, Act.put, List.setIfInBounds_toArray, List.set_cons_zero, List.set_cons_succ]) (hCont g _ ⟨hHeld, hge, hbox', HB2⟩)
  rintro g w61 ⟨hS_, hge, hbox, HB⟩
  have hHeld : w61.cell? (ad.add x.toNat) = some (.slice (some ar) len c0) ∧ w61.cell? ar = some (.int .i64 p0) ∧ w61.cell? ⟨ar.block, ar.off + 1, none⟩ = some (.int .i64 p1) ∧ w61.cell? ⟨ar.block, ar.off + 2, none⟩ = some (.string p2) ∧ w61.cell? ⟨ar.block, ar.off + 3, none⟩ = some (.int .i64 q0) ∧ w61.cell? ⟨ar.block, ar.off + 3 + 1, none⟩ = some (.int .i64 q1) ∧ w61.cell? ⟨ar.block, ar.off + 3 + 2, none⟩ = some (.string q2) := hS_
  refine norm_ (a' := ?_) ?_ ?_
  rotate_left
  · simp only [putAll, Act.put, List.setIfInBounds_toArray, List.set_cons_zero, List.set_cons_succ]
    rfl
  refine one_ (i := 17) (N := none) #[true, true, true, true, true, true, true, true, true, true, true, true, true, true, true, true, true, true, false] rfl rfl (one_of HT_.out (by kernel_rfl)) (by decide) (fun K hK => ?_)
  have hs0 : w61.cell? ⟨g, 0, none⟩ = some (.int .i64 0) := (blk_cell hbox 0).trans rfl
  have hf0 := blk_frozen hbox 0
  have hs1 : w61.cell? ⟨g, 1, none⟩ = some (.int .i64 0) := (blk_cell hbox 1).trans rfl
  have hf1 := blk_frozen hbox 1
  have hs2 : w61.cell? ⟨g, 2, none⟩ = some (.string (⟨#[]⟩ : ByteArray)) := (blk_cell hbox 2).trans rfl
  have hf2 := blk_frozen hbox 2
  refine skip_ (w1 := ?_) (by rfl) rfl ?_ ?_
  rotate_left
  · go_simp
    rfl
  have HB3 := below_set (j := 2) (v := .string t2) (below_set (j := 1) (v := .int .i64 t1) (below_set (j := 0) (v := .int .i64 t0) HB hge) hge) hge
  have hbx := blk_put (cs' := #[.int .i64 t0, .int .i64 t1, .string t2]) (blk_put (cs' := #[.int .i64 t0, .int .i64 t1, .string (⟨#[]⟩ : ByteArray)]) (blk_put (cs' := #[.int .i64 t0, .int .i64 0, .string (⟨#[]⟩ : ByteArray)]) hbox 0 (.int .i64 t0) rfl) 1 (.int .i64 t1) rfl) 2 (.string t2) rfl
  refine hK.out _ _ (keep _ HB3) (fun hHeld => ?_)
  clear hK K
  refine pA 18 16 (bQ 19 524287) (hQ := fun c a w => hP c a _ _ w) ?_
  refine done_ (done_of HT_.out (by kernel_rfl)) ?_
  exact hEnd g _ _ _ _ _ _ _ _ _ _ _ _ _ _ _ _ _ hge HB3 hbx
theorem chrysalislaw17_OpsOrder.rtab12 : rtab .any (opsOf Try.f4 12) = (true, [([], []), ([], []), ([0, 1], [0, 1]), ([2], [2]), ([3], [3]), ([4], [4]), ([], []), ([], []), ([6, 7], [6, 7]), ([8], [8]), ([9], [9]), ([10], [10]), ([5, 11], [5, 11]), ([12], [12]), ([13], [13]), ([13], [13]), ([], []), ([16, 14, 12, 0, 1, 2, 3, 4, 5, 6, 7, 8, 9, 10, 11, 12, 13, 14, 16], [14, 16]), ([15, 17, 0, 1, 2, 3, 4, 5, 6, 7, 8, 9, 10, 11, 12, 13, 14, 15, 16, 17], [15])]) := by kernel_rfl
theorem chrysalislaw17_OpsOrder.rbits12 : waitsOk ((true, [([], []), ([], []), ([0, 1], [0, 1]), ([2], [2]), ([3], [3]), ([4], [4]), ([], []), ([], []), ([6, 7], [6, 7]), ([8], [8]), ([9], [9]), ([10], [10]), ([5, 11], [5, 11]), ([12], [12]), ([13], [13]), ([13], [13]), ([], []), ([16, 14, 12, 0, 1, 2, 3, 4, 5, 6, 7, 8, 9, 10, 11, 12, 13, 14, 16], [14, 16]), ([15, 17, 0, 1, 2, 3, 4, 5, 6, 7, 8, 9, 10, 11, 12, 13, 14, 15, 16, 17], [15])]) : Bool × List (List Nat × List Nat)).2 [0, 0, 3, 7, 15, 31, 0, 0, 192, 448, 960, 1984, 4095, 8191, 16383, 16383, 0, 98303, 262143] = true := by kernel_rfl
set_option maxHeartbeats 8000000 in
set_option maxRecDepth 100000 in
theorem chrysalislaw17_OpsOrder.reg12 {k2 : Nat} {x : Int} {n co len c0 : Nat} {ad ar : Addr} {p0 p1 : Int} {p2 : ByteArray} {q0 q1 : Int} {q2 : ByteArray} {t0 t1 : Int} {t2 : ByteArray} {t3 : Int}
    {u0 u1 u2 u3 u4 u7 u8 u9 u10 u11 u12 u13 u14 u15 u16 u17 u18 u19 u20 u21 u22 u23 u24 u25 u26 u27 u28 u29 u30 u31 u32 u33 u34 u35 u36 u37 u38 u39 u40 u41 u42 u43 u44 u45 u46 u47 u48 u49 u50 u51 u52 u53 u54 u55 u56 u57 u58 u59 u60 u61 u62 u63 u64 u65 u66 u67 u68 u69 u70 u71 u72 u73 u74 u75 u76 u77 u78 u79 u80 u81 u82 u83 u84 u85 u86 u87 u88 u89 u90 u91 u92 u93 u94 u95 u96 u97 u98 u99 u100 u101 u102 u103 u104 u105 u106 u107 u108 u109 u110 u111 u112 u113 u114 u115 u116 u117 u118 u119 u120 u121 u122 u123 u124 u125 u126 u127 u128 u129 u130 u131 u132 u133 u134 u135 u136 u137 u138 u139 u140 u141 u142 u143 u144 u145 u146 u147 u148 u149 u150 u151 u152 u153 u154 u155 u156 u157 u158 u159 u160 u161 u162 u163 u164 u165 u166 u167 u168 u169 u170 u171 u172 u173 u174 u175 u176 u177 u178 u179 u180 u181 u182 u183 u184 u185 u186 u187 u188 u189 u190 u191 u192 u193 u194 u195 u196 u197 u198 u199 u200 u201 u202 : Value} {wr : World} {Q : Exit → Act → World → Prop}
    (hP : ∀ c (a : Act) (t : Tmp) v w, Q (.panic c) (a.put (some t) v) w → Q (.panic c) a w)
    (A : Aside0 (ops_Two.f k2 (⟨#[33, 61]⟩ : ByteArray) p0 p1 p2 q0 q1 q2 = some (t0, t1, t2, t3))) (hp : (0 ≤ x) = True) (hq : (x < (n : Int)) = True)
    (hi : (0 < (len : Int)) = True) (hj : (1 < (len : Int)) = True) (gi : (0 < len) = True) (gj : (1 < len) = True)
    (h0 : wr.drew.cell? (ad.add x.toNat) = some (.slice (some ar) len c0)) (h1 : wr.drew.cell? ar = some (.int .i64 p0)) (h2 : wr.drew.cell? ⟨ar.block, ar.off + 1, none⟩ = some (.int .i64 p1)) (h3 : wr.drew.cell? ⟨ar.block, ar.off + 2, none⟩ = some (.string p2)) (h4 : wr.drew.cell? ⟨ar.block, ar.off + 3, none⟩ = some (.int .i64 q0)) (h5 : wr.drew.cell? ⟨ar.block, ar.off + 3 + 1, none⟩ = some (.int .i64 q1)) (h6 : wr.drew.cell? ⟨ar.block, ar.off + 3 + 2, none⟩ = some (.string q2))
    (hEnd : ∀ g w' v141 v142 v143 v144 v145 v146 v147 v148 v149 v150 v151 v152 v153 v154 v155 v156, wr.drew.heap.size ≤ g → Below wr.drew.heap.size wr.drew w' → w'.heap[g]? = some (.cells #[.int .i64 t0, .int .i64 t1, .string t2] 23 (0, 0)) → Q .normal { tmps := #[u0, u1, u2, u3, u4, .slice (some ad) n co, .int .i64 x, u7, u8, u9, u10, u11, u12, u13, u14, u15, u16, .pointer (some ⟨g, 0, none⟩), .int .i64 t3, u19, u20, u21, u22, u23, u24, u25, u26, u27, u28, u29, u30, u31, u32, u33, u34, u35, u36, u37, u38, u39, u40, u41, u42, u43, u44, u45, u46, u47, u48, u49, u50, u51, u52, u53, u54, u55, u56, u57, u58, u59, u60, u61, u62, u63, u64, u65, u66, u67, u68, u69, u70, u71, u72, u73, u74, u75, u76, u77, u78, u79, u80, u81, u82, u83, u84, u85, u86, u87, u88, u89, u90, u91, u92, u93, u94, u95, u96, u97, u98, u99, u100, u101, u102, u103, u104, u105, u106, u107, u108, u109, u110, u111, u112, u113, u114, u115, u116, u117, u118, u119, u120, u121, u122, u123, u124, u125, u126, u127, u128, u129, u130, u131, u132, u133, u134, u135, u136, u137, u138, u139, u140, v141, v142, v143, v144, v145, v146, v147, v148, v149, v150, v151, v152, v153, v154, v155, v156, u157, u158, u159, u160, u161, u162, u163, u164, u165, u166, u167, u168, u169, u170, u171, u172, u173, u174, u175, u176, u177, u178, u179, u180, u181, u182, u183, u184, u185, u186, u187, u188, u189, u190, u191, u192, u193, u194, u195, u196, u197, u198, u199, u200, u201, u202], defers := [] } w') :
    (Code.region 12 #[{ dst := some 142, op := Op.move (Operand.tmp 5), type := 33, pos := "law.go:105", after := #[], guard := none },
      { dst := some 143, op := Op.move (Operand.tmp 6), type := 3, pos := "law.go:105", after := #[], guard := none },
      { dst := some 144, op := Op.indexAddr 33 (Operand.tmp 142) (Operand.tmp 143), type := 0, pos := "law.go:105", after := #[{ on := 0, ground := Ground.data }, { on := 1, ground := Ground.data }], guard := none },
      { dst := some 145, op := Op.load 31 (Operand.tmp 144), type := 31, pos := "law.go:105", after := #[{ on := 2, ground := Ground.data }], guard := none },
      { dst := some 146, op := Op.indexAddr 31 (Operand.tmp 145) (Operand.const (Value.int IntKind.i64 0)), type := 0, pos := "law.go:105", after := #[{ on := 3, ground := Ground.data }], guard := none },
      { dst := some 147, op := Op.load 23 (Operand.tmp 146), type := 23, pos := "law.go:105", after := #[{ on := 4, ground := Ground.data }], guard := none },
      { dst := some 148, op := Op.move (Operand.tmp 5), type := 33, pos := "law.go:105", after := #[], guard := none },
      { dst := some 149, op := Op.move (Operand.tmp 6), type := 3, pos := "law.go:105", after := #[], guard := none },
      { dst := some 150, op := Op.indexAddr 33 (Operand.tmp 148) (Operand.tmp 149), type := 0, pos := "law.go:105", after := #[{ on := 6, ground := Ground.data }, { on := 7, ground := Ground.data }], guard := none },
      { dst := some 151, op := Op.load 31 (Operand.tmp 150), type := 31, pos := "law.go:105", after := #[{ on := 8, ground := Ground.data }], guard := none },
      { dst := some 152, op := Op.indexAddr 31 (Operand.tmp 151) (Operand.const (Value.int IntKind.i64 1)), type := 0, pos := "law.go:105", after := #[{ on := 9, ground := Ground.data }], guard := none },
      { dst := some 153, op := Op.load 23 (Operand.tmp 152), type := 23, pos := "law.go:105", after := #[{ on := 10, ground := Ground.data }], guard := none },
      { dst := some 154, op := Op.call { callee := Callee.value (Operand.func 10), args := #[Operand.const (Value.string ⟨#[33, 61]⟩), Operand.tmp 147, Operand.tmp 153], argTypes := #[9, 23, 23] }, type := 25, pos := "law.go:105", after := #[{ on := 5, ground := Ground.data }, { on := 11, ground := Ground.data }], guard := none },
      { dst := some 141, op := Op.move (Operand.tmp 154), type := 25, pos := "law.go:105", after := #[{ on := 12, ground := Ground.data }], guard := none },
      { dst := some 155, op := Op.extract (Operand.tmp 141) 0, type := 23, pos := "law.go:105", after := #[{ on := 13, ground := Ground.data }], guard := none },
      { dst := some 156, op := Op.extract (Operand.tmp 141) 1, type := 3, pos := "law.go:105", after := #[{ on := 13, ground := Ground.data }, { on := 17, ground := Ground.gcOnly Departure.lateStores }], guard := none },
      { dst := some 17, op := Op.alloc 23, type := 0, pos := "law.go:105", after := #[], guard := none },
      { dst := none, op := Op.store 23 (Operand.tmp 17) (Operand.tmp 155), type := 0, pos := "law.go:105", after := #[{ on := 16, ground := Ground.data }, { on := 14, ground := Ground.data }, { on := 12, ground := Ground.chain }, { on := 0, ground := Ground.phase }, { on := 1, ground := Ground.phase }, { on := 2, ground := Ground.phase }, { on := 3, ground := Ground.phase }, { on := 4, ground := Ground.phase }, { on := 5, ground := Ground.phase }, { on := 6, ground := Ground.phase }, { on := 7, ground := Ground.phase }, { on := 8, ground := Ground.phase }, { on := 9, ground := Ground.phase }, { on := 10, ground := Ground.phase }, { on := 11, ground := Ground.phase }, { on := 12, ground := Ground.phase }, { on := 13, ground := Ground.phase }, { on := 14, ground := Ground.phase }, { on := 15, ground := Ground.textOnly Departure.lateStores }, { on := 16, ground := Ground.phase }], guard := none },
      { dst := some 18, op := Op.assign (Operand.tmp 156), type := 3, pos := "law.go:105", after := #[{ on := 15, ground := Ground.data }, { on := 17, ground := Ground.chain }, { on := 0, ground := Ground.phase }, { on := 1, ground := Ground.phase }, { on := 2, ground := Ground.phase }, { on := 3, ground := Ground.phase }, { on := 4, ground := Ground.phase }, { on := 5, ground := Ground.phase }, { on := 6, ground := Ground.phase }, { on := 7, ground := Ground.phase }, { on := 8, ground := Ground.phase }, { on := 9, ground := Ground.phase }, { on := 10, ground := Ground.phase }, { on := 11, ground := Ground.phase }, { on := 12, ground := Ground.phase }, { on := 13, ground := Ground.phase }, { on := 14, ground := Ground.phase }, { on := 15, ground := Ground.phase }, { on := 16, ground := Ground.phase }, { on := 17, ground := Ground.phase }], guard := none }] true).wp Try.prog Q { tmps := #[u0, u1, u2, u3, u4, .slice (some ad) n co, .int .i64 x, u7, u8, u9, u10, u11, u12, u13, u14, u15, u16, u17, u18, u19, u20, u21, u22, u23, u24, u25, u26, u27, u28, u29, u30, u31, u32, u33, u34, u35, u36, u37, u38, u39, u40, u41, u42, u43, u44, u45, u46, u47, u48, u49, u50, u51, u52, u53, u54, u55, u56, u57, u58, u59, u60, u61, u62, u63, u64, u65, u66, u67, u68, u69, u70, u71, u72, u73, u74, u75, u76, u77, u78, u79, u80, u81, u82, u83, u84, u85, u86, u87, u88, u89, u90, u91, u92, u93, u94, u95, u96, u97, u98, u99, u100, u101, u102, u103, u104, u105, u106, u107, u108, u109, u110, u111, u112, u113, u114, u115, u116, u117, u118, u119, u120, u121, u122, u123, u124, u125, u126, u127, u128, u129, u130, u131, u132, u133, u134, u135, u136, u137, u138, u139, u140, u141, u142, u143, u144, u145, u146, u147, u148, u149, u150, u151, u152, u153, u154, u155, u156, u157, u158, u159, u160, u161, u162, u163, u164, u165, u166, u167, u168, u169, u170, u171, u172, u173, u174, u175, u176, u177, u178, u179, u180, u181, u182, u183, u184, u185, u186, u187, u188, u189, u190, u191, u192, u193, u194, u195, u196, u197, u198, u199, u200, u201, u202], defers := [] } wr := by
  have hu29 := Try.underlying29
  have hu30 := Try.underlying30
  have hu23 := Try.underlying23
  refine start_ (n := 19) (S := fun w' => w'.cell? (ad.add x.toNat) = some (.slice (some ar) len c0) ∧ w'.cell? ar = some (.int .i64 p0) ∧ w'.cell? ⟨ar.block, ar.off + 1, none⟩ = some (.int .i64 p1) ∧ w'.cell? ⟨ar.block, ar.off + 2, none⟩ = some (.string p2) ∧ w'.cell? ⟨ar.block, ar.off + 3, none⟩ = some (.int .i64 q0) ∧ w'.cell? ⟨ar.block, ar.off + 3 + 1, none⟩ = some (.int .i64 q1) ∧ w'.cell? ⟨ar.block, ar.off + 3 + 2, none⟩ = some (.string q2)) (ds := []) #[false, false, false, false, false, false, false, false, false, false, false, false, false, false, false, false, false, false, false] (by kernel_rfl) rfl rfl ⟨h0, h1, h2, h3, h4, h5, h6⟩ (fun hHeld => ?_); refine with_tabW chrysalislaw17_OpsOrder.rtab12 chrysalislaw17_OpsOrder.rbits12 (fun HT_ HW_ => ?_)
  generalize wr.drew = w57 at h0 h1 h2 h3 h4 h5 h6 hHeld hEnd ⊢
  have keep : ∀ w', Below w57.heap.size w57 w' → w'.cell? (ad.add x.toNat) = some (.slice (some ar) len c0) ∧ w'.cell? ar = some (.int .i64 p0) ∧ w'.cell? ⟨ar.block, ar.off + 1, none⟩ = some (.int .i64 p1) ∧ w'.cell? ⟨ar.block, ar.off + 2, none⟩ = some (.string p2) ∧ w'.cell? ⟨ar.block, ar.off + 3, none⟩ = some (.int .i64 q0) ∧ w'.cell? ⟨ar.block, ar.off + 3 + 1, none⟩ = some (.int .i64 q1) ∧ w'.cell? ⟨ar.block, ar.off + 3 + 2, none⟩ = some (.string q2) := fun w' hb => ⟨(hb.cell (World.block_lt_of_cell? _ _ h0)).trans h0, (hb.cell (World.block_lt_of_cell? _ _ h1)).trans h1, (hb.cell (World.block_lt_of_cell? _ _ h2)).trans h2, (hb.cell (World.block_lt_of_cell? _ _ h3)).trans h3, (hb.cell (World.block_lt_of_cell? _ _ h4)).trans h4, (hb.cell (World.block_lt_of_cell? _ _ h5)).trans h5, (hb.cell (World.block_lt_of_cell? _ _ h6)).trans h6⟩
  refine pA 0 142 (bQ 19 1) (hQ := fun c a w => hP c a _ _ w) ?_
  refine pA 1 143 (bQ 19 3) (hQ := fun c a w => hP c a _ _ w) ?_
  refine pA 2 144 (bQ 19 7) (hQ := fun c a w => hP c a _ _ w) ?_
  refine pA 6 148 (bQ 19 71) (hQ := fun c a w => hP c a _ _ w) ?_
  refine pA 7 149 (bQ 19 199) (hQ := fun c a w => hP c a _ _ w) ?_
  refine pA 8 150 (bQ 19 455) (hQ := fun c a w => hP c a _ _ w) ?_
  refine take_ (i := 3) (N := some 145) (v := ?_) (a' := ?_) #[true, true, true, true, false, false, true, true, true, false, false, false, false, false, false, false, false, false, false] rfl rfl (take_ofW HT_.out HW_.out (by kernel_rfl)) (fun c a w => hP c a _ _ w) (Or.inl ⟨by rfl, ?_⟩) hHeld ?_ ?_
  rotate_left
  · rintro w' ⟨s0, s1, s2, s3, s4, s5, s6⟩
    go_simp
    with_reducible rfl
  rotate_left
  · simp only [Act.put, List.setIfInBounds_toArray, List.set_cons_zero, List.set_cons_succ, i64_w, i32_w]
    rfl
  refine pA 4 146 (bQ 19 479) (hQ := fun c a w => hP c a _ _ w) ?_
  refine take_ (i := 5) (N := some 147) (v := ?_) (a' := ?_) #[true, true, true, true, true, true, true, true, true, false, false, false, false, false, false, false, false, false, false] rfl rfl (take_ofW HT_.out HW_.out (by kernel_rfl)) (fun c a w => hP c a _ _ w) (Or.inl ⟨by rfl, ?_⟩) hHeld ?_ ?_
  rotate_left
  · rintro w' ⟨s0, s1, s2, s3, s4, s5, s6⟩
    go_simp
    with_reducible rfl
  rotate_left
  · simp only [Act.put, List.setIfInBounds_toArray, List.set_cons_zero, List.set_cons_succ, i64_w, i32_w]
    rfl
  refine take_ (i := 9) (N := some 151) (v := ?_) (a' := ?_) #[true, true, true, true, true, true, true, true, true, true, false, false, false, false, false, false, false, false, false] rfl rfl (take_ofW HT_.out HW_.out (by kernel_rfl)) (fun c a w => hP c a _ _ w) (Or.inl ⟨by rfl, ?_⟩) hHeld ?_ ?_
  rotate_left
  · rintro w' ⟨s0, s1, s2, s3, s4, s5, s6⟩
    go_simp
    with_reducible rfl
  rotate_left
  · simp only [Act.put, List.setIfInBounds_toArray, List.set_cons_zero, List.set_cons_succ, i64_w, i32_w]
    rfl
  refine pA 10 152 (bQ 19 2047) (hQ := fun c a w => hP c a _ _ w) ?_
  refine take_ (i := 11) (N := some 153) (v := ?_) (a' := ?_) #[true, true, true, true, true, true, true, true, true, true, true, true, false, false, false, false, false, false, false] rfl rfl (take_ofW HT_.out HW_.out (by kernel_rfl)) (fun c a w => hP c a _ _ w) (Or.inl ⟨by rfl, ?_⟩) hHeld ?_ ?_
  rotate_left
  · rintro w' ⟨s0, s1, s2, s3, s4, s5, s6⟩
    go_simp
    with_reducible rfl
  rotate_left
  · simp only [Act.put, List.setIfInBounds_toArray, List.set_cons_zero, List.set_cons_succ, i64_w, i32_w]
    rfl
  refine join_ (σ := Nat) 2 #[true, true, true, true, true, true, true, true, true, true, true, true, true, true, true, true, true, false, false] (fun s_ => [(154, .tuple #[.agg #[.int .i64 t0, .int .i64 t1, .string t2], .int .i64 t3]), (17, .pointer (some ⟨s_, 0, none⟩)), (141, .tuple #[.agg #[.int .i64 t0, .int .i64 t1, .string t2], .int .i64 t3]), (155, .agg #[.int .i64 t0, .int .i64 t1, .string t2]), (156, .int .i64 t3)]) (fun s_ w' => (w'.cell? (ad.add x.toNat) = some (.slice (some ar) len c0) ∧ w'.cell? ar = some (.int .i64 p0) ∧ w'.cell? ⟨ar.block, ar.off + 1, none⟩ = some (.int .i64 p1) ∧ w'.cell? ⟨ar.block, ar.off + 2, none⟩ = some (.string p2) ∧ w'.cell? ⟨ar.block, ar.off + 3, none⟩ = some (.int .i64 q0) ∧ w'.cell? ⟨ar.block, ar.off + 3 + 1, none⟩ = some (.int .i64 q1) ∧ w'.cell? ⟨ar.block, ar.off + 3 + 2, none⟩ = some (.string q2)) ∧ w57.heap.size ≤ s_ ∧ w'.heap[s_]? = some (.cells #[.int .i64 0, .int .i64 0, .string (⟨#[]⟩ : ByteArray)] 23 (0, 0)) ∧ Below w57.heap.size w57 w') ?_ ?_
  rotate_left
  · intro hCont
    refine two_ (i := 12) (j := 16) (Ni := some 154) (Nj := some 17) #[true, true, true, true, true, true, true, true, true, true, true, true, true, false, false, false, false, false, false] #[true, true, true, true, true, true, true, true, true, true, true, true, false, false, false, false, true, false, false] rfl rfl rfl rfl (two_of HT_.out (by kernel_rfl)) (by decide) (by decide) (fun K hK => ?_) (fun K hK => ?_)
    · skip
      refine goes_ Try.func10 (by kernel_rfl) rfl #[.string (⟨#[33, 61]⟩ : ByteArray), .agg #[.int .i64 p0, .int .i64 p1, .string p2], .agg #[.int .i64 q0, .int .i64 q1, .string q2]] (by rfl) rfl rfl (by (try simp only [List.map_toArray, List.map_cons, List.map_nil]); first | done | rfl) ?_
      with_reducible refine (ops_Two.calls k2 (⟨#[33, 61]⟩ : ByteArray) p0 p1 p2 q0 q1 q2 t0 t1 t2 t3 _ A.out).mono ?_
      rintro e w59 ⟨rfl, hb⟩
      refine ⟨_, rfl, ?_⟩
      have HB1 := hb
      refine hK.out _ _ (keep _ HB1) (fun hHeld => ?_)
      clear hK K
      refine norm_ (a' := ?_) ?_ ?_
      rotate_left
      · show Act.put _ (some 154) _ = _
        simp only [Act.put, List.setIfInBounds_toArray, List.set_cons_zero, List.set_cons_succ, i64_w, i32_w]
        rfl
      refine pA 13 141 (bQ 19 16383) (hQ := fun c a w => hP c a _ _ w) ?_
      refine pA 14 155 (bQ 19 32767) (hQ := fun c a w => hP c a _ _ w) ?_
      refine pA 15 156 (bQ 19 65535) (hQ := fun c a w => hP c a _ _ w) ?_
      refine one_ (i := 16) (N := some 17) (bQ 19 131071) rfl rfl (one_of HT_.out (by kernel_rfl)) (by decide) (fun K hK => ?_)
      refine box_step ?hg (N := 17) ?hd (cs := #[.int .i64 0, .int .i64 0, .string (⟨#[]⟩ : ByteArray)]) (t := 23) ?hr ?_; (case hd => rfl); (case hg => rfl); (case hr => first | (go_simp; done) | (go_simp; rfl))
      intro g hg w60 hbox hb
      have HB2 := below_step HB1 hb
      have hge : w57.heap.size ≤ g := by rw [hg]; exact below_size HB1
      have hbox' := hbox
      refine hK.out _ _ (keep _ HB2) (fun hHeld => ?_)
      clear hK K
      refine norm_ (a' := ?_) ?_ ?_
      rotate_left
      · show Act.put _ (some 17) _ = _
        simp only [Act.put, List.setIfInBounds_toArray, List.set_cons_zero, List.set_cons_succ, i64_w, i32_w]
        rfl
      exact norm_ (by simp only [putAll, Act.put, List.setIfInBounds_toArray, List.set_cons_zero, List.set_cons_succ]) (hCont g _ ⟨hHeld, hge, hbox', HB2⟩)
    · skip
      refine box_step ?hg (N := 17) ?hd (cs := #[.int .i64 0, .int .i64 0, .string (⟨#[]⟩ : ByteArray)]) (t := 23) ?hr ?_; (case hd => rfl); (case hg => rfl); (case hr => first | (go_simp; done) | (go_simp; rfl))
      intro g hg w59 hbox hb
      have HB1 := hb
      have hge : w57.heap.size ≤ g := Nat.le_of_eq hg.symm
      refine hK.out _ _ (keep _ HB1) (fun hHeld => ?_)
      clear hK K
      refine norm_ (a' := ?_) ?_ ?_
      rotate_left
      · show Act.put _ (some 17) _ = _
        simp only [Act.put, List.setIfInBounds_toArray, List.set_cons_zero, List.set_cons_succ, i64_w, i32_w]
        rfl
      refine one_ (i := 12) (N := some 154) (bQ 19 73727) rfl rfl (one_of HT_.out (by kernel_rfl)) (by decide) (fun K hK => ?_)
      refine goes_ Try.func10 (by kernel_rfl) rfl #[.string (⟨#[33, 61]⟩ : ByteArray), .agg #[.int .i64 p0, .int .i64 p1, .string p2], .agg #[.int .i64 q0, .int .i64 q1, .string q2]] (by rfl) rfl rfl (by (try simp only [List.map_toArray, List.map_cons, List.map_nil]); first | done | rfl) ?_
      with_reducible refine (ops_Two.calls k2 (⟨#[33, 61]⟩ : ByteArray) p0 p1 p2 q0 q1 q2 t0 t1 t2 t3 _ A.out).mono ?_
      rintro e w60 ⟨rfl, hb⟩
      refine ⟨_, rfl, ?_⟩
      have HB2 := below_step HB1 hb
      have hbox' := blk_below hbox hb
      refine hK.out _ _ (keep _ HB2) (fun hHeld => ?_)
      clear hK K
      refine norm_ (a' := ?_) ?_ ?_
      rotate_left
      · show Act.put _ (some 154) _ = _
        simp only [Act.put, List.setIfInBounds_toArray, List.set_cons_zero, List.set_cons_succ, i64_w, i32_w]
        rfl
      refine pA 13 141 (bQ 19 81919) (hQ := fun c a w => hP c a _ _ w) ?_
      refine pA 14 155 (bQ 19 98303) (hQ := fun c a w => hP c a _ _ w) ?_
      refine pA 15 156 (bQ 19 131071) (hQ := fun c a w => hP c a _ _ w) ?_
      exact norm_ (by simp only [putAll, Act.put, List.setIfInBounds_toArray, List.set_cons_zero, List.set_cons_succ]) (hCont g _ ⟨hHeld, hge, hbox', HB2⟩)
  rintro g w61 ⟨hS_, hge, hbox, HB⟩
  have hHeld : w61.cell? (ad.add x.toNat) = some (.slice (some ar) len c0) ∧ w61.cell? ar = some (.int .i64 p0) ∧ w61.cell? ⟨ar.block, ar.off + 1, none⟩ = some (.int .i64 p1) ∧ w61.cell? ⟨ar.block, ar.off + 2, none⟩ = some (.string p2) ∧ w61.cell? ⟨ar.block, ar.off + 3, none⟩ = some (.int .i64 q0) ∧ w61.cell? ⟨ar.block, ar.off + 3 + 1, none⟩ = some (.int .i64 q1) ∧ w61.cell? ⟨ar.block, ar.off + 3 + 2, none⟩ = some (.string q2) := hS_
  refine norm_ (a' := ?_) ?_ ?_
  rotate_left
  · simp only [putAll, Act.put, List.setIfInBounds_toArray, List.set_cons_zero, List.set_cons_succ]
    rfl
  refine one_ (i := 17) (N := none) #[true, true, true, true, true, true, true, true, true, true, true, true, true, true, true, true, true, true, false] rfl rfl (one_of HT_.out (by kernel_rfl)) (by decide) (fun K hK => ?_)
  have hs0 : w61.cell? ⟨g, 0, none⟩ = some (.int .i64 0) := (blk_cell hbox 0).trans rfl
  have hf0 := blk_frozen hbox 0
  have hs1 : w61.cell? ⟨g, 1, none⟩ = some (.int .i64 0) := (blk_cell hbox 1).trans rfl
  have hf1 := blk_frozen hbox 1
  have hs2 : w61.cell? ⟨g, 2, none⟩ = some (.string (⟨#[]⟩ : ByteArray)) := (blk_cell hbox 2).trans rfl
  have hf2 := blk_frozen hbox 2
  refine skip_ (w1 := ?_) (by rfl) rfl ?_ ?_
  rotate_left
  · go_simp
    rfl
  have HB3 := below_set (j := 2) (v := .string t2) (below_set (j := 1) (v := .int .i64 t1) (below_set (j := 0) (v := .int .i64 t0) HB hge) hge) hge
  have hbx := blk_put (cs' := #[.int .i64 t0, .int .i64 t1, .string t2]) (blk_put (cs' := #[.int .i64 t0, .int .i64 t1, .string (⟨#[]⟩ : ByteArray)]) (blk_put (cs' := #[.int .i64 t0, .int .i64 0, .string (⟨#[]⟩ : ByteArray)]) hbox 0 (.int .i64 t0) rfl) 1 (.int .i64 t1) rfl) 2 (.string t2) rfl
  refine hK.out _ _ (keep _ HB3) (fun hHeld => ?_)
  clear hK K
  refine pA 18 18 (bQ 19 524287) (hQ := fun c a w => hP c a _ _ w) ?_
  refine done_ (done_of HT_.out (by kernel_rfl)) ?_
  exact hEnd g _ _ _ _ _ _ _ _ _ _ _ _ _ _ _ _ _ hge HB3 hbx
end Go.Proofs.Ytmadbfahdnkecaa.Q
