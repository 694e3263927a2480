/- The walks over ops.in, what is in a value that can be reckoned with, and ops.Key; for every value. -/
import Derived.Test.YtmadbfahdnkecaaHd
import Derived.Lib.Hide
set_option linter.unusedVariables false
set_option linter.unusedSimpArgs false
namespace Go.Proofs.Ytmadbfahdnkecaa
open Go.RowKit Go.Proofs.YtmadbfahdnkecaaW.PrintWords Go.Proofs.YtmadbfahdnkecaaW.PrintLast Go.Proofs.YtmadbfahdnkecaaW.PrintMore

set_option maxHeartbeats 1000000 in
set_option maxRecDepth 100000 in
theorem in_int (k n : Int) (s : ByteArray) (w : World) (h1 : (k == 1) = true) : Calls Try.prog 29 #[.agg #[.int .i64 k, .int .i64 n, .string s]] w fun e w' => e = .returned (.iface 56 (.int .i64 n)) ∧ Below w.heap.size w w' := by
  have hu23 := Try.underlying23
  have HB := Aside0.mk (Below.refl w.heap.size w)
  go_enter Try.func29, Try.ntmps29
  go_wp2_with (first | ((with_reducible refine gate_dst (N := 1) rfl ?_); refine box_event ?hg (N := 1) ?hd (cs := #[.int .i64 k, .int .i64 n, .string s]) (t := 23) ?hr ?_; (case hd => rfl); (case hg => rfl); (case hr => first | (go_simp; done) | (go_simp; rfl)); intro gb hg w_ hbox hb; have n0_ := Aside0.mk (below_step (by repeat (first | (with_reducible first | exact HB.out | apply below_alloc | apply pw_below_drewN | apply below_drew1) | exact HB.out)) hb); have n1_ := Aside0.mk (hbox); have n2_ := Aside0.mk ((by rw [hg]; exact (below_size (by repeat (first | (with_reducible first | exact HB.out | apply below_alloc | apply pw_below_drewN | apply below_drew1) | exact HB.out))) : w.heap.size ≤ gb)); clear HB; have HB := n0_; have BKgb := n1_; have GEgb := n2_; clear n0_ n1_ n2_; clear hb hbox hg; have hczgb_0 : w_.cell? ⟨gb, 0, none⟩ = some (.int .i64 k) := (blk_cell BKgb.out 0).trans rfl; have hczgb_1 : w_.cell? ⟨gb, 1, none⟩ = some (.int .i64 n) := (blk_cell BKgb.out 1).trans rfl; have hczgb_2 : w_.cell? ⟨gb, 2, none⟩ = some (.string s) := (blk_cell BKgb.out 2).trans rfl; have hfzgb_0 := blk_frozen BKgb.out 0; have hfzgb_1 := blk_frozen BKgb.out 1; have hfzgb_2 := blk_frozen BKgb.out 2))
  go_ret
  exact ⟨rfl, by repeat (first | (with_reducible first | exact HB.out | apply below_alloc | apply pw_below_drewN | apply below_drew1 | refine below_set ?_ GEgb.out) | exact HB.out)⟩
set_option maxHeartbeats 1000000 in
set_option maxRecDepth 100000 in
theorem in_text (k n : Int) (s : ByteArray) (w : World) (h1 : (k == 1) = false) (h2 : (k == 2) = true) : Calls Try.prog 29 #[.agg #[.int .i64 k, .int .i64 n, .string s]] w fun e w' => e = .returned (.iface 58 (.string s)) ∧ Below w.heap.size w w' := by
  have hu23 := Try.underlying23
  have HB := Aside0.mk (Below.refl w.heap.size w)
  go_enter Try.func29, Try.ntmps29
  go_wp2_with (first | ((with_reducible refine gate_dst (N := 1) rfl ?_); refine box_event ?hg (N := 1) ?hd (cs := #[.int .i64 k, .int .i64 n, .string s]) (t := 23) ?hr ?_; (case hd => rfl); (case hg => rfl); (case hr => first | (go_simp; done) | (go_simp; rfl)); intro gb hg w_ hbox hb; have n0_ := Aside0.mk (below_step (by repeat (first | (with_reducible first | exact HB.out | apply below_alloc | apply pw_below_drewN | apply below_drew1) | exact HB.out)) hb); have n1_ := Aside0.mk (hbox); have n2_ := Aside0.mk ((by rw [hg]; exact (below_size (by repeat (first | (with_reducible first | exact HB.out | apply below_alloc | apply pw_below_drewN | apply below_drew1) | exact HB.out))) : w.heap.size ≤ gb)); clear HB; have HB := n0_; have BKgb := n1_; have GEgb := n2_; clear n0_ n1_ n2_; clear hb hbox hg; have hczgb_0 : w_.cell? ⟨gb, 0, none⟩ = some (.int .i64 k) := (blk_cell BKgb.out 0).trans rfl; have hczgb_1 : w_.cell? ⟨gb, 1, none⟩ = some (.int .i64 n) := (blk_cell BKgb.out 1).trans rfl; have hczgb_2 : w_.cell? ⟨gb, 2, none⟩ = some (.string s) := (blk_cell BKgb.out 2).trans rfl; have hfzgb_0 := blk_frozen BKgb.out 0; have hfzgb_1 := blk_frozen BKgb.out 1; have hfzgb_2 := blk_frozen BKgb.out 2))
  go_ret
  exact ⟨rfl, by repeat (first | (with_reducible first | exact HB.out | apply below_alloc | apply pw_below_drewN | apply below_drew1 | refine below_set ?_ GEgb.out) | exact HB.out)⟩
set_option maxHeartbeats 1000000 in
set_option maxRecDepth 100000 in
theorem in_none (k n : Int) (s : ByteArray) (w : World) (h1 : (k == 1) = false) (h2 : (k == 2) = false) : Calls Try.prog 29 #[.agg #[.int .i64 k, .int .i64 n, .string s]] w fun e w' => e = .returned (.nilIface) ∧ Below w.heap.size w w' := by
  have hu23 := Try.underlying23
  have HB := Aside0.mk (Below.refl w.heap.size w)
  go_enter Try.func29, Try.ntmps29
  go_wp2_with (first | ((with_reducible refine gate_dst (N := 1) rfl ?_); refine box_event ?hg (N := 1) ?hd (cs := #[.int .i64 k, .int .i64 n, .string s]) (t := 23) ?hr ?_; (case hd => rfl); (case hg => rfl); (case hr => first | (go_simp; done) | (go_simp; rfl)); intro gb hg w_ hbox hb; have n0_ := Aside0.mk (below_step (by repeat (first | (with_reducible first | exact HB.out | apply below_alloc | apply pw_below_drewN | apply below_drew1) | exact HB.out)) hb); have n1_ := Aside0.mk (hbox); have n2_ := Aside0.mk ((by rw [hg]; exact (below_size (by repeat (first | (with_reducible first | exact HB.out | apply below_alloc | apply pw_below_drewN | apply below_drew1) | exact HB.out))) : w.heap.size ≤ gb)); clear HB; have HB := n0_; have BKgb := n1_; have GEgb := n2_; clear n0_ n1_ n2_; clear hb hbox hg; have hczgb_0 : w_.cell? ⟨gb, 0, none⟩ = some (.int .i64 k) := (blk_cell BKgb.out 0).trans rfl; have hczgb_1 : w_.cell? ⟨gb, 1, none⟩ = some (.int .i64 n) := (blk_cell BKgb.out 1).trans rfl; have hczgb_2 : w_.cell? ⟨gb, 2, none⟩ = some (.string s) := (blk_cell BKgb.out 2).trans rfl; have hfzgb_0 := blk_frozen BKgb.out 0; have hfzgb_1 := blk_frozen BKgb.out 1; have hfzgb_2 := blk_frozen BKgb.out 2))
  go_ret
  exact ⟨rfl, by repeat (first | (with_reducible first | exact HB.out | apply below_alloc | apply pw_below_drewN | apply below_drew1 | refine below_set ?_ GEgb.out) | exact HB.out)⟩

def opsKey.f (k n : Int) (s : ByteArray) : Option Bool := some (k == 1 || k == 2)
set_option maxHeartbeats 1000000 in
set_option maxRecDepth 100000 in
theorem opsKey.calls (k n : Int) (s : ByteArray) (r : Bool) (w : World) (h : opsKey.f k n s = some r) : Calls Try.prog 14 #[.agg #[.int .i64 k, .int .i64 n, .string s]] w fun e w' => e = .returned (.bool r) ∧ Below w.heap.size w w' := by
  obtain rfl := Option.some.inj h
  clear h
  have hu23 := Try.underlying23
  have HB := Aside0.mk (Below.refl w.heap.size w)
  by_cases c1 : k = 1
  · have h1 : (k == 1) = true := beq_iff_eq.mpr c1
    have HR : Hid ((k == 1 || k == 2) = true) := Lib.hid (by simp [c1])
    rw [HR.out]
    clear c1
    go_enter Try.func14, Try.ntmps14
    go_wp2_with (first | ((with_reducible refine gate_dst (N := 1) rfl ?_); refine box_event ?hg (N := 1) ?hd (cs := #[.int .i64 k, .int .i64 n, .string s]) (t := 23) ?hr ?_; (case hd => rfl); (case hg => rfl); (case hr => first | (go_simp; done) | (go_simp; rfl)); intro gb hg w_ hbox hb; have n0_ := Aside0.mk (below_step (by repeat (first | (with_reducible first | exact HB.out | apply below_alloc | apply pw_below_drewN | apply below_drew1) | exact HB.out)) hb); have n1_ := Aside0.mk (hbox); have n2_ := Aside0.mk ((by rw [hg]; exact (below_size (by repeat (first | (with_reducible first | exact HB.out | apply below_alloc | apply pw_below_drewN | apply below_drew1) | exact HB.out))) : w.heap.size ≤ gb)); clear HB; have HB := n0_; have BKgb := n1_; have GEgb := n2_; clear n0_ n1_ n2_; clear hb hbox hg; have hczgb_0 : w_.cell? ⟨gb, 0, none⟩ = some (.int .i64 k) := (blk_cell BKgb.out 0).trans rfl; have hczgb_1 : w_.cell? ⟨gb, 1, none⟩ = some (.int .i64 n) := (blk_cell BKgb.out 1).trans rfl; have hczgb_2 : w_.cell? ⟨gb, 2, none⟩ = some (.string s) := (blk_cell BKgb.out 2).trans rfl; have hfzgb_0 := blk_frozen BKgb.out 0; have hfzgb_1 := blk_frozen BKgb.out 1; have hfzgb_2 := blk_frozen BKgb.out 2) | (go_at_call 29; (with_reducible refine (in_int k n s _ h1).mono ?_); rintro e w8 ⟨rfl, hb⟩; have n0_ := Aside0.mk (below_step (by repeat (first | (with_reducible first | exact HB.out | apply below_alloc | apply pw_below_drewN | apply below_drew1) | exact HB.out)) hb); clear HB; clear hb; have HB := n0_; clear n0_))
    go_ret
    exact ⟨rfl, by repeat (first | (with_reducible first | exact HB.out | apply below_alloc | apply pw_below_drewN | apply below_drew1 | refine below_set ?_ GEgb.out) | exact HB.out)⟩
  · have h1 : (k == 1) = false := beq_eq_false_iff_ne.mpr c1
    by_cases c2 : k = 2
    · have h2 : (k == 2) = true := beq_iff_eq.mpr c2
      have HR : Hid ((k == 1 || k == 2) = true) := Lib.hid (by simp [c2])
      rw [HR.out]
      clear c1 c2
      go_enter Try.func14, Try.ntmps14
      go_wp2_with (first | ((with_reducible refine gate_dst (N := 1) rfl ?_); refine box_event ?hg (N := 1) ?hd (cs := #[.int .i64 k, .int .i64 n, .string s]) (t := 23) ?hr ?_; (case hd => rfl); (case hg => rfl); (case hr => first | (go_simp; done) | (go_simp; rfl)); intro gb hg w_ hbox hb; have n0_ := Aside0.mk (below_step (by repeat (first | (with_reducible first | exact HB.out | apply below_alloc | apply pw_below_drewN | apply below_drew1) | exact HB.out)) hb); have n1_ := Aside0.mk (hbox); have n2_ := Aside0.mk ((by rw [hg]; exact (below_size (by repeat (first | (with_reducible first | exact HB.out | apply below_alloc | apply pw_below_drewN | apply below_drew1) | exact HB.out))) : w.heap.size ≤ gb)); clear HB; have HB := n0_; have BKgb := n1_; have GEgb := n2_; clear n0_ n1_ n2_; clear hb hbox hg; have hczgb_0 : w_.cell? ⟨gb, 0, none⟩ = some (.int .i64 k) := (blk_cell BKgb.out 0).trans rfl; have hczgb_1 : w_.cell? ⟨gb, 1, none⟩ = some (.int .i64 n) := (blk_cell BKgb.out 1).trans rfl; have hczgb_2 : w_.cell? ⟨gb, 2, none⟩ = some (.string s) := (blk_cell BKgb.out 2).trans rfl; have hfzgb_0 := blk_frozen BKgb.out 0; have hfzgb_1 := blk_frozen BKgb.out 1; have hfzgb_2 := blk_frozen BKgb.out 2) | (go_at_call 29; (with_reducible refine (in_text k n s _ h1 h2).mono ?_); rintro e w8 ⟨rfl, hb⟩; have n0_ := Aside0.mk (below_step (by repeat (first | (with_reducible first | exact HB.out | apply below_alloc | apply pw_below_drewN | apply below_drew1) | exact HB.out)) hb); clear HB; clear hb; have HB := n0_; clear n0_))
      go_ret
      exact ⟨rfl, by repeat (first | (with_reducible first | exact HB.out | apply below_alloc | apply pw_below_drewN | apply below_drew1 | refine below_set ?_ GEgb.out) | exact HB.out)⟩
    · have h2 : (k == 2) = false := beq_eq_false_iff_ne.mpr c2
      have HR : Hid ((k == 1 || k == 2) = false) := Lib.hid (by simp [c1, c2])
      rw [HR.out]
      clear c1 c2
      go_enter Try.func14, Try.ntmps14
      go_wp2_with (first | ((with_reducible refine gate_dst (N := 1) rfl ?_); refine box_event ?hg (N := 1) ?hd (cs := #[.int .i64 k, .int .i64 n, .string s]) (t := 23) ?hr ?_; (case hd => rfl); (case hg => rfl); (case hr => first | (go_simp; done) | (go_simp; rfl)); intro gb hg w_ hbox hb; have n0_ := Aside0.mk (below_step (by repeat (first | (with_reducible first | exact HB.out | apply below_alloc | apply pw_below_drewN | apply below_drew1) | exact HB.out)) hb); have n1_ := Aside0.mk (hbox); have n2_ := Aside0.mk ((by rw [hg]; exact (below_size (by repeat (first | (with_reducible first | exact HB.out | apply below_alloc | apply pw_below_drewN | apply below_drew1) | exact HB.out))) : w.heap.size ≤ gb)); clear HB; have HB := n0_; have BKgb := n1_; have GEgb := n2_; clear n0_ n1_ n2_; clear hb hbox hg; have hczgb_0 : w_.cell? ⟨gb, 0, none⟩ = some (.int .i64 k) := (blk_cell BKgb.out 0).trans rfl; have hczgb_1 : w_.cell? ⟨gb, 1, none⟩ = some (.int .i64 n) := (blk_cell BKgb.out 1).trans rfl; have hczgb_2 : w_.cell? ⟨gb, 2, none⟩ = some (.string s) := (blk_cell BKgb.out 2).trans rfl; have hfzgb_0 := blk_frozen BKgb.out 0; have hfzgb_1 := blk_frozen BKgb.out 1; have hfzgb_2 := blk_frozen BKgb.out 2) | (go_at_call 29; (with_reducible refine (in_none k n s _ h1 h2).mono ?_); rintro e w8 ⟨rfl, hb⟩; have n0_ := Aside0.mk (below_step (by repeat (first | (with_reducible first | exact HB.out | apply below_alloc | apply pw_below_drewN | apply below_drew1) | exact HB.out)) hb); clear HB; clear hb; have HB := n0_; clear n0_))
      go_ret
      exact ⟨rfl, by repeat (first | (with_reducible first | exact HB.out | apply below_alloc | apply pw_below_drewN | apply below_drew1 | refine below_set ?_ GEgb.out) | exact HB.out)⟩
/-! What a type switch over such a content comes to, and '<=' of texts. -/
theorem as_num_num (v : Value) (w : World) : (Instr.typeAssert (.iface 56 v) 54 56 true).run Try.prog w = .ok (.tuple #[v, .bool true]) w := by kernel_rfl
theorem as_text_num (v : Value) (w : World) : (Instr.typeAssert (.iface 58 v) 54 56 true).run Try.prog w = .ok (.tuple #[.int .i64 0, .bool false]) w := by kernel_rfl
theorem as_nil_num (w : World) : (Instr.typeAssert .nilIface 54 56 true).run Try.prog w = .ok (.tuple #[.int .i64 0, .bool false]) w := by kernel_rfl
theorem as_text_text (v : Value) (w : World) : (Instr.typeAssert (.iface 58 v) 54 58 true).run Try.prog w = .ok (.tuple #[v, .bool true]) w := by kernel_rfl
theorem as_num_text (v : Value) (w : World) : (Instr.typeAssert (.iface 56 v) 54 58 true).run Try.prog w = .ok (.tuple #[.string ⟨#[]⟩, .bool false]) w := by kernel_rfl
theorem as_nil_text (w : World) : (Instr.typeAssert .nilIface 54 58 true).run Try.prog w = .ok (.tuple #[.string ⟨#[]⟩, .bool false]) w := by kernel_rfl
theorem bytesLess_total : ∀ a b : List UInt8, (Op.bytesLess a b || a == b) = !Op.bytesLess b a
  | [], [] => rfl
  | [], _ :: _ => rfl
  | _ :: _, [] => rfl
  | a :: x, b :: y => by
    have ih := bytesLess_total x y
    simp only [Op.bytesLess]
    rcases Nat.lt_trichotomy a.toNat b.toNat with h | h | h
    · have h1 : a < b := UInt8.lt_iff_toNat_lt.2 h
      have h2 : ¬ b < a := fun q => by have := UInt8.lt_iff_toNat_lt.1 q; omega
      have h3 : a ≠ b := fun q => by subst q; omega
      simp [h1, h2, h3, Ne.symm h3]
    · obtain rfl : a = b := UInt8.toNat_inj.1 h
      have h2 : ¬ a < a := fun q => by have := UInt8.lt_iff_toNat_lt.1 q; omega
      simpa [h2] using ih
    · have h1 : b < a := UInt8.lt_iff_toNat_lt.2 h
      have h2 : ¬ a < b := fun q => by have := UInt8.lt_iff_toNat_lt.1 q; omega
      have h3 : a ≠ b := fun q => by subst q; omega
      simp [h1, h2, h3, Ne.symm h3]
theorem leq_texts (t : TypeId) (a b : ByteArray) : binOp .leq t (.string a) (.string b) = pure (.bool (!Op.bytesLess b.toList a.toList)) := by
  rw [← bytesLess_total]
  simp [binOp, Op.stringOp]
end Go.Proofs.Ytmadbfahdnkecaa
