/- The walk over TurnsNil; no condition. -/
import Derived.Test.YtpicniagafkjaaaKnown
set_option linter.unusedVariables false
set_option linter.unusedSimpArgs false
namespace Go.Proofs.Ytpicniagafkjaaa
open Go.RowKit Go.Proofs.YtpicniagafkjaaaW.PrintWords

set_option maxHeartbeats 1000000 in
set_option maxRecDepth 100000 in
theorem nil_walk (A : Option Addr) (len cap : Nat) (n : Int) (w : World) (hm : len ≤ 9223372036854775807) : Calls Try.prog 6 #[.slice A len cap, .int .i64 n] w fun e w' => e = .returned (.bool true) ∧ Below w.heap.size w w' := by
  by_cases hl : len > 200
  · go_enter Try.func6, Try.ntmps6
    go_wp2_with fail
    refine (known_any _).mono ?_
    rintro e w' ⟨rfl, hb⟩
    go_wp2_with fail
    go_ret
    exact ⟨rfl, hb⟩
  · go_enter Try.func6, Try.ntmps6
    go_wp2_with fail
    refine (took_nil _ _).mono ?_
    rintro e w' ⟨rfl, rfl⟩
    go_wp2_with fail
    have h0 : (w.alloc (.cells #[.bool false, .bool false, .int .i64 0] 41 (0, 0))).cell? ⟨w.heap.size, 0, none⟩ = some (.bool false) := by
      have hb := heap_alloc_new w (.cells #[.bool false, .bool false, .int .i64 0] 41 (0, 0))
      generalize w.alloc (.cells #[.bool false, .bool false, .int .i64 0] 41 (0, 0)) = w' at hb
      unfold World.cell?
      simp only [hb]
      rfl
    have b1 : Below w.heap.size w (w.alloc (.cells #[.bool false, .bool false, .int .i64 0] 41 (0, 0))) := (Below.refl _ w).alloc (Nat.le_refl _) _
    generalize w.alloc (.cells #[.bool false, .bool false, .int .i64 0] 41 (0, 0)) = w1 at h0 b1
    refine (took_zero w.heap.size n _ h0).mono ?_
    rintro e w' ⟨rfl, rfl⟩
    go_wp2_with fail
    refine (next_nil _ _).mono ?_
    rintro e w' ⟨rfl, rfl⟩
    go_wp2_with fail
    refine (next_zero w.heap.size _ _ h0).mono ?_
    rintro e w' ⟨rfl, rfl⟩
    go_wp2_with fail
    refine (last_nil _).mono ?_
    rintro e w' ⟨rfl, rfl⟩
    go_wp2_with fail
    refine (last_zero w.heap.size _ h0).mono ?_
    rintro e w' ⟨rfl, rfl⟩
    go_wp2_with fail
    refine (copy_nil _).mono ?_
    rintro e w' ⟨rfl, rfl⟩
    go_wp2_with fail
    refine (copy_zero w.heap.size _ h0).mono ?_
    rintro e w' ⟨rfl, rfl⟩
    go_wp2_with fail
    refine (known_any _).mono ?_
    rintro e w' ⟨rfl, hb⟩
    go_wp2_with fail
    go_ret
    exact ⟨rfl, b1.trans (hb.mono b1.size)⟩

/-- In the form that the row asks for. -/
theorem nil_row (A : Option Addr) (len cap : Nat) (z : List Int) (n : Int) (w : World)
    (h : (A = none ∧ len = 0 ∧ cap = 0 ∧ z = []) ∨ ∃ x, A = some x ∧ len ≤ cap ∧ cap ≤ maxLen ∧ z.length = cap ∧ (∀ i, i < z.length → w.cell? (x.add i) = some (.int .i64 (z.getD i 0))) ∧ ∀ n ∈ z, (Lit.int .i64 n).wf = true)
    (y : len * 8 ≤ 140737488351232) (hn : (Lit.int .i64 n).wf = true) : Calls Try.prog 6 #[.slice A len cap, .int .i64 n] w fun e w' => e = .returned (.bool true) ∧ Below w.heap.size w w' :=
  nil_walk A len cap n w (by omega)
end Go.Proofs.Ytpicniagafkjaaa
