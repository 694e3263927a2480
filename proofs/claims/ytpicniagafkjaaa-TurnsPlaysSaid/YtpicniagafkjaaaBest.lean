/- The walk over turns.best: what the place holds behind the call; for every open channel of one place. -/
import Derived.Test.YtpicniagafkjaaaChan
import Derived.Laws.Rows
import Derived.Laws.Small
import Derived.Maps.AppendAt
import Derived.WalkLawsBesides
set_option linter.unusedVariables false
set_option linter.unusedSimpArgs false
namespace Go.Proofs.Ytpicniagafkjaaa
open Go.Conc Go.RowKit

set_option maxRecDepth 100000 in
theorem best_none (c : Nat) (n : Int) (s r : Nat) (w : World) (hc : w.heap[c]? = some (.chan 1 #[] false s r false)) :
    Calls Try.prog 15 #[.chan (some c), .int .i64 n] w fun e w' => e = .returned (.tuple #[]) ∧ w' = w.setChan c 1 #[.int .i64 n] false (s + 1) r false := by
  refine calls_of_loneTo fun cs => ?_
  have e : Frame.enter Try.prog 15 #[.chan (some c), .int .i64 n] .normal = (base 15).at ⟨#[.chan (some c), .int .i64 n, undef, undef, undef, undef, undef, undef, undef, undef, undef, undef, undef, undef, undef, undef], []⟩ [.code (Try.f15.body.getD .skip)] := by
    simp [Frame.enter, Frame.at, Try.func15, base, Try.f15]
  rw [e]
  refine LoneTo.goes (n := 19) ?_
  simp only [Try.f15, Option.getD_some]
  s_c stepG_seq
  s_reg
  s_op
  s_c stepG_region_end
  s_c stepG_seq
  s_reg
  s_stop
  refine LoneTo.step (step_lone_select_default (c := c) (z := .int .i64 0) (cap := 1) (s := s) (r := r) (tm := false) (stepG_comm (cases := #[rcase c (.int .i64 0)]) (blocking := false) (shape := .select) (w' := w) rfl rfl (by decide) (by simp [go_sem, execOp, rcase, Act.eval])) hc) ?_
  rw [Frame.finish_at]
  walk_nrm
  refine LoneTo.goes (n := 19) ?_
  s_op
  s_op
  s_c stepG_region_end
  s_c stepG_block
  s_cond false
  s_reg
  s_op
  s_op
  s_stop
  refine LoneTo.step (step_lone_send_room (c := c) (cap := 1) (buf := #[]) (s := s) (r := r) (tm := false) (stepG_comm (cases := #[scase c (.int .i64 n) (.tuple #[])]) (blocking := true) (shape := .send) (w' := w) rfl rfl (by decide) (by simp [execOp, scase, Act.eval])) hc (by simp)) ?_
  rw [Frame.finish_at]
  walk_nrm
  refine LoneTo.goes (n := 11) ?_
  s_c stepG_region_end
  s_c stepG_inBlock
  s_stop
  refine LoneTo.step (step_lone_go (by rfl)) ?_
  refine LoneTo.done ⟨.returned (.tuple #[]), _, rfl, ⟨rfl, rfl⟩, rfl, rfl, rfl, rfl, _, Try.func15, by simp [results, Try.f15, Frame.at]⟩

set_option maxRecDepth 100000 in
theorem best_some (c : Nat) (n x : Int) (s r : Nat) (w : World) (hc : w.heap[c]? = some (.chan 1 #[.int .i64 x] false s r false)) :
    Calls Try.prog 15 #[.chan (some c), .int .i64 n] w fun e w' => e = .returned (.tuple #[]) ∧
      w' = (w.setChan c 1 #[] false s (r + 1) false).setChan c 1 #[.int .i64 (if n < x then n else x)] false (s + 1) (r + 1) false := by
  have hlt : c < w.heap.size := (Array.getElem?_eq_some_iff.1 hc).1
  refine calls_of_loneTo fun cs => ?_
  have e : Frame.enter Try.prog 15 #[.chan (some c), .int .i64 n] .normal = (base 15).at ⟨#[.chan (some c), .int .i64 n, undef, undef, undef, undef, undef, undef, undef, undef, undef, undef, undef, undef, undef, undef], []⟩ [.code (Try.f15.body.getD .skip)] := by
    simp [Frame.enter, Frame.at, Try.func15, base, Try.f15]
  rw [e]
  refine LoneTo.goes (n := 19) ?_
  simp only [Try.f15, Option.getD_some]
  s_c stepG_seq
  s_reg
  s_op
  s_c stepG_region_end
  s_c stepG_seq
  s_reg
  s_stop
  refine LoneTo.step (step_lone_select_recv_buf (c := c) (z := .int .i64 0) (cap := 1) (buf := #[.int .i64 x]) (closed := false) (s := s) (r := r) (tm := false) (stepG_comm (cases := #[rcase c (.int .i64 0)]) (blocking := false) (shape := .select) (w' := w) rfl rfl (by decide) (by simp [go_sem, execOp, rcase, Act.eval])) hc (by simp)) ?_
  rw [Frame.finish_at]
  walk_nrm
  have hb0 : (#[Value.int .i64 x].extract 1 1) = #[] := by simp
  refine LoneTo.goes (n := 19) ?_
  s_op
  s_op
  s_c stepG_region_end
  s_c stepG_block
  s_cond true
  s_c stepG_seq
  s_reg
  s_op
  s_op
  s_c stepG_region_end
  s_reg
  s_op
  s_op
  s_op
  s_op
  s_stop
  refine LoneTo.step (step_lone_send_room (c := c) (cap := 1) (buf := #[]) (s := s) (r := r + 1) (tm := false) (stepG_comm (cases := #[scase c (.int .i64 (if n < x then n else x)) (.tuple #[])]) (blocking := true) (shape := .send) (w' := w.setChan c 1 #[] false s (r + 1) false) rfl rfl (by decide) (by simp [execOp, scase, Act.eval])) (heap_setChan _ _ _ _ _ _ _ _ hlt) (by simp)) ?_
  rw [Frame.finish_at]
  walk_nrm
  refine LoneTo.goes (n := 11) ?_
  s_c stepG_region_end
  s_c stepG_inBlock
  s_stop
  refine LoneTo.step (step_lone_go (by rfl)) ?_
  refine LoneTo.done ⟨.returned (.tuple #[]), _, rfl, ⟨rfl, rfl⟩, rfl, rfl, rfl, rfl, _, Try.func15, by simp [results, Try.f15, Frame.at]⟩

/-- best, whatever lies in the place. -/
theorem best_any (c : Nat) (n : Int) (o : Option Int) (w : World) (hc : ChanIs w c o) :
    Calls Try.prog 15 #[.chan (some c), .int .i64 n] w fun e w' => e = .returned (.tuple #[]) ∧ ChanIs w' c (some (bst o n)) ∧ w.grownBy w' (some c) := by
  have hlt := hc.lt
  obtain ⟨s, r, hc⟩ := hc
  cases o with
  | none =>
    refine (best_none c n s r w hc).mono fun e w' ⟨he, hw⟩ => ?_
    subst hw
    exact ⟨he, ⟨_, _, heap_setChan _ _ _ _ _ _ _ _ hlt⟩, grownBy_setChan _ _ _ _ _ _ _ _⟩
  | some x =>
    refine (best_some c n x s r w hc).mono fun e w' ⟨he, hw⟩ => ?_
    subst hw
    exact ⟨he, ⟨_, _, heap_setChan _ _ _ _ _ _ _ _ (by rw [size_setChan]; exact hlt)⟩, (grownBy_setChan _ _ _ _ _ _ _ _).trans (grownBy_setChan _ _ _ _ _ _ _ _)⟩
end Go.Proofs.Ytpicniagafkjaaa
