/- The walks over turns.New, there, Took, Last, Copy; for every object that New made, and for nil and the zero object. -/
import Derived.Test.YtpicniagafkjaaaChan
import Derived.RegionTactic
import Derived.ChangeAlike
import Derived.Deep.QuietTactic
import Derived.BigQuiet
import Derived.OwnWalk
import Derived.Below
import Derived.OneCell
import Derived.Maps.AppendAt
set_option linter.unusedVariables false
set_option linter.unusedSimpArgs false
namespace Go.Proofs.Ytpicniagafkjaaa
open Go.RowKit

/-- A Turns in memory: was it made by New, was anybody taken, who. -/
def TW (w : World) (g : Nat) (made has : Bool) (last : Int) : Prop := w.heap[g]? = some (.cells #[.bool made, .bool has, .int .i64 last] 41 (0, 0))

theorem TW.lt {w : World} {g : Nat} {m h : Bool} {l : Int} (t : TW w g m h l) : g < w.heap.size := (Array.getElem?_eq_some_iff.1 t).1
theorem TW.c0 {w : World} {g : Nat} {m h : Bool} {l : Int} (t : TW w g m h l) : w.cell? ⟨g, 0, none⟩ = some (.bool m) := by
  unfold TW at t; simp [World.cell?, t]
theorem TW.c1 {w : World} {g : Nat} {m h : Bool} {l : Int} (t : TW w g m h l) : w.cell? ⟨g, 1, none⟩ = some (.bool h) := by
  unfold TW at t; simp [World.cell?, t]
theorem TW.c2 {w : World} {g : Nat} {m h : Bool} {l : Int} (t : TW w g m h l) : w.cell? ⟨g, 2, none⟩ = some (.int .i64 l) := by
  unfold TW at t; simp [World.cell?, t]
theorem TW.fz {w : World} {g : Nat} {m h : Bool} {l : Int} (t : TW w g m h l) (o : Nat) : w.frozen? ⟨g, o, none⟩ = false := by
  unfold TW at t; simp [World.frozen?, t]
theorem TW.kept {w w' : World} {g : Nat} {m h : Bool} {l : Int} (t : TW w g m h l) {row : Option Nat} (hg : w.grownBy w' row) (hne : some g ≠ row) : TW w' g m h l :=
  (hg.block g t.lt hne).trans t

set_option maxHeartbeats 400000 in
theorem there_nil (w : World) : Calls Try.prog 14 #[.pointer none] w fun e w' => e = .returned (.bool false) ∧ w = w' := by
  go_enter Try.func14, Try.ntmps14
  go_wp2
  go_ret
  exact ⟨rfl, rfl⟩

set_option maxHeartbeats 400000 in
theorem there_any (g : Nat) (m : Bool) (w : World) (h0 : w.cell? ⟨g, 0, none⟩ = some (.bool m)) :
    Calls Try.prog 14 #[.pointer (some ⟨g, 0, none⟩)] w fun e w' => e = .returned (.bool m) ∧ w = w' := by
  go_enter Try.func14, Try.ntmps14
  go_wp2
  go_ret
  exact ⟨rfl, rfl⟩

set_option maxHeartbeats 400000 in
theorem new_any (w : World) : Calls Try.prog 7 #[] w fun e w' => e = .returned (.pointer (some ⟨w.heap.size, 0, none⟩)) ∧ w' = w.alloc (.cells #[.bool true, .bool false, .int .i64 0] 41 (0, 0)) := by
  go_enter Try.func7, Try.ntmps7
  go_wp2
  go_ret
  exact ⟨rfl, rfl⟩

set_option maxHeartbeats 400000 in
theorem took_nil (n : Int) (w : World) : Calls Try.prog 8 #[.pointer none, .int .i64 n] w fun e w' => e = .returned (.tuple #[]) ∧ w = w' := by
  go_enter Try.func8, Try.ntmps8
  go_wp2_with (first | (go_at_call 14; refine (there_nil _).mono ?_; rintro e w' ⟨rfl, rfl⟩))
  go_end0
  exact ⟨rfl, rfl⟩

set_option maxHeartbeats 400000 in
theorem took_zero (g : Nat) (n : Int) (w : World) (h0 : w.cell? ⟨g, 0, none⟩ = some (.bool false)) :
    Calls Try.prog 8 #[.pointer (some ⟨g, 0, none⟩), .int .i64 n] w fun e w' => e = .returned (.tuple #[]) ∧ w = w' := by
  go_enter Try.func8, Try.ntmps8
  go_wp2_with (first | (go_at_call 14; refine (there_any g false _ h0).mono ?_; rintro e w' ⟨rfl, rfl⟩))
  go_end0
  exact ⟨rfl, rfl⟩

theorem grown_setCell (w : World) (a : Addr) (u : Value) : w.grownBy (w.setCell a u) (some a.block) :=
  ⟨rfl, rfl, rfl, by simp, fun k _ hne => Below.heap_setCell w a u k (by intro e; exact hne (by rw [e]))⟩

theorem TW.take {w : World} {g : Nat} {h : Bool} {l : Int} (t : TW w g true h l) (n : Int) :
    TW ((w.setCell ⟨g, 2, none⟩ (.int .i64 n)).setCell ⟨g, 1, none⟩ (.bool true)) g true true n := by
  unfold TW at *
  simp only [World.setCell, Array.getElem?_modify, if_true, t, Option.map_some]
  rfl

set_option maxHeartbeats 400000 in
theorem took_any (g : Nat) (h : Bool) (l n : Int) (w : World) (ht : TW w g true h l) :
    Calls Try.prog 8 #[.pointer (some ⟨g, 0, none⟩), .int .i64 n] w fun e w' => e = .returned (.tuple #[]) ∧ TW w' g true true n ∧ w.grownBy w' (some g) := by
  have h0 := ht.c0
  have h1 := ht.c1
  have h2 := ht.c2
  have f1 := ht.fz 1
  have f2 := ht.fz 2
  go_enter Try.func8, Try.ntmps8
  go_wp2_with (first | (go_at_call 14; refine (there_any g true _ h0).mono ?_; rintro e w' ⟨rfl, rfl⟩))
  go_end0
  exact ⟨rfl, ht.take n, (grown_setCell w ⟨g, 2, none⟩ _).trans (grown_setCell _ ⟨g, 1, none⟩ _)⟩

set_option maxHeartbeats 400000 in
theorem last_nil (w : World) : Calls Try.prog 11 #[.pointer none] w fun e w' => e = .returned (.tuple #[.int .i64 0, .bool false]) ∧ w = w' := by
  go_enter Try.func11, Try.ntmps11
  go_wp2_with (first | (go_at_call 14; refine (there_nil _).mono ?_; rintro e w' ⟨rfl, rfl⟩))
  go_ret2
  exact ⟨rfl, rfl⟩
set_option maxHeartbeats 400000 in
theorem last_zero (g : Nat) (w : World) (h0 : w.cell? ⟨g, 0, none⟩ = some (.bool false)) : Calls Try.prog 11 #[.pointer (some ⟨g, 0, none⟩)] w fun e w' => e = .returned (.tuple #[.int .i64 0, .bool false]) ∧ w = w' := by
  go_enter Try.func11, Try.ntmps11
  go_wp2_with (first | (go_at_call 14; refine (there_any g false _ h0).mono ?_; rintro e w' ⟨rfl, rfl⟩))
  go_ret2
  exact ⟨rfl, rfl⟩
set_option maxHeartbeats 400000 in
theorem last_any (g : Nat) (h : Bool) (l : Int) (w : World) (ht : TW w g true h l) :
    Calls Try.prog 11 #[.pointer (some ⟨g, 0, none⟩)] w fun e w' => e = .returned (.tuple #[.int .i64 (if h then l else 0), .bool h]) ∧ w = w' := by
  have h0 := ht.c0
  have h1 := ht.c1
  have h2 := ht.c2
  cases h with
  | false =>
    go_enter Try.func11, Try.ntmps11
    go_wp2_with (first | (go_at_call 14; refine (there_any g true _ h0).mono ?_; rintro e w' ⟨rfl, rfl⟩))
    go_ret2
    exact ⟨rfl, rfl⟩
  | true =>
    go_enter Try.func11, Try.ntmps11
    go_wp2_with (first | (go_at_call 14; refine (there_any g true _ h0).mono ?_; rintro e w' ⟨rfl, rfl⟩))
    go_ret2
    exact ⟨rfl, rfl⟩
set_option maxHeartbeats 400000 in
theorem copy_nil (w : World) : Calls Try.prog 13 #[.pointer none] w fun e w' => e = .returned (.pointer none) ∧ w = w' := by
  go_enter Try.func13, Try.ntmps13
  go_wp2_with (first | (go_at_call 14; refine (there_nil _).mono ?_; rintro e w' ⟨rfl, rfl⟩))
  go_ret
  exact ⟨rfl, rfl⟩
set_option maxHeartbeats 400000 in
theorem copy_zero (g : Nat) (w : World) (h0 : w.cell? ⟨g, 0, none⟩ = some (.bool false)) : Calls Try.prog 13 #[.pointer (some ⟨g, 0, none⟩)] w fun e w' => e = .returned (.pointer none) ∧ w = w' := by
  go_enter Try.func13, Try.ntmps13
  go_wp2_with (first | (go_at_call 14; refine (there_any g false _ h0).mono ?_; rintro e w' ⟨rfl, rfl⟩))
  go_ret
  exact ⟨rfl, rfl⟩
set_option maxHeartbeats 400000 in
theorem copy_any (g : Nat) (h : Bool) (l : Int) (w : World) (ht : TW w g true h l) :
    Calls Try.prog 13 #[.pointer (some ⟨g, 0, none⟩)] w fun e w' => ∃ g', e = .returned (.pointer (some ⟨g', 0, none⟩)) ∧ w.heap.size ≤ g' ∧ TW w' g' true h l ∧ w.grownBy w' none := by
  have h0 := ht.c0
  have h1 := ht.c1
  have h2 := ht.c2
  go_enter Try.func13, Try.ntmps13
  go_wp2_with (first | (go_at_call 14; refine (there_any g true _ h0).mono ?_; rintro e w' ⟨rfl, rfl⟩))
  go_ret
  exact ⟨_, rfl, Nat.le_refl _, heap_alloc_new _ _, World.grownBy_alloc _ _ _⟩
end Go.Proofs.Ytpicniagafkjaaa
