/- The walk over the fixed calls that every statement of this layer ends with; no condition. -/
import Derived.Test.YtpicniagafkjaaaNext2
set_option linter.unusedVariables false
set_option linter.unusedSimpArgs false
namespace Go.Proofs.Ytpicniagafkjaaa
open Go.RowKit Go.Proofs.YtpicniagafkjaaaW.PrintWords

/-- A row of ints at the head of a block. -/
def Row (w : World) (b : Nat) (l : List Int) : Prop := ReadsInt w .i64 (some ⟨b, 0, none⟩) l.length l ∧ b < w.heap.size
theorem Row.kept {w w' : World} {b : Nat} {l : List Int} (h : Row w b l) {row : Option Nat} (hg : w.grownBy w' row) (hne : some b ≠ row) : Row w' b l := by
  obtain ⟨⟨h1, h2, h3⟩, hb⟩ := h
  refine ⟨⟨h1, h2, fun hp => ?_⟩, by have := hg.size; omega⟩
  obtain ⟨ad, e, hc⟩ := h3 hp
  cases e
  exact ⟨_, rfl, fun j hj => (hg.cell_far (Addr.add ⟨b, 0, none⟩ j) (by rw [add_plain]; exact hb) (by rw [add_plain]; exact hne)).trans (hc j hj)⟩

theorem next_some (g : Nat) (has : Bool) (last n : Int) (A : Option Addr) (len cap : Nat) (l : List Int) (w : World) (ht : TW w g true has last) (hr : ReadsInt w .i64 A len l) (hn : nextOf has last l = some n) :
    Calls Try.prog 9 #[.pointer (some ⟨g, 0, none⟩), .slice A len cap] w fun e w' => e = .returned (.tuple #[.int .i64 n, .bool true]) ∧ TW w' g true true n ∧ w.grownBy w' (some g) := by
  obtain rfl := hr.1
  refine (next_any g has last A cap l w ht hr).mono fun e w' h => ?_
  unfold NextPost at h
  rw [hn] at h
  exact ⟨h.2.1, h.2.2, h.1⟩
theorem next_none (g : Nat) (has : Bool) (last : Int) (A : Option Addr) (len cap : Nat) (l : List Int) (w : World) (ht : TW w g true has last) (hr : ReadsInt w .i64 A len l) (hn : nextOf has last l = none) :
    Calls Try.prog 9 #[.pointer (some ⟨g, 0, none⟩), .slice A len cap] w fun e w' => e = .returned (.tuple #[.int .i64 0, .bool false]) ∧ TW w' g true has last ∧ w.grownBy w' (some g) := by
  obtain rfl := hr.1
  refine (next_any g has last A cap l w ht hr).mono fun e w' h => ?_
  unfold NextPost at h
  rw [hn] at h
  exact ⟨h.2.1, h.2.2, h.1⟩

theorem row_351 (w : World) : Row (w.alloc (.cells #[.int .i64 3, .int .i64 1, .int .i64 5] 3 (0, 0))) w.heap.size [3, 1, 5] := by
  have hb := heap_alloc_new w (.cells #[.int .i64 3, .int .i64 1, .int .i64 5] 3 (0, 0))
  refine ⟨⟨rfl, by decide, fun _ => ⟨_, rfl, fun j hj => ?_⟩⟩, by simp⟩
  rw [add_plain]
  generalize w.alloc (.cells #[.int .i64 3, .int .i64 1, .int .i64 5] 3 (0, 0)) = w' at hb
  unfold World.cell?
  simp only [hb]
  rcases j with _ | _ | _ | j
  · rfl
  · rfl
  · rfl
  · simp at hj; omega

/-- What is carried from call to call. -/
structure St (w w' : World) (g b : Nat) (has : Bool) (last : Int) : Prop where
  t : TW w' g true has last
  r : Row w' b [3, 1, 5]
  bl : Below w.heap.size w w'
theorem St.next {w w1 w2 : World} {g b : Nat} {has has' : Bool} {last last' : Int} (h : St w w1 g b has last) (hg : w.heap.size ≤ g) (hne : b ≠ g) (t : TW w2 g true has' last') (hgr : w1.grownBy w2 (some g)) : St w w2 g b has' last' :=
  ⟨t, h.r.kept hgr (by intro e; exact hne (Option.some.inj e)), h.bl.grown hgr h.bl.size (fun k e => by cases e; exact hg)⟩

set_option maxHeartbeats 1000000 in
set_option maxRecDepth 100000 in
theorem known_any (w : World) : Calls Try.prog 10 #[] w fun e w' => e = .returned (.bool true) ∧ Below w.heap.size w w' := by
  go_enter Try.func10, Try.ntmps10
  go_wp2_with fail
  refine (new_any _).mono ?_
  rintro e w1 ⟨rfl, hw⟩
  have t1 : TW w1 w.heap.size true false 0 := by rw [hw]; exact heap_alloc_new _ _
  have b1 : Below w.heap.size w w1 := by rw [hw]; exact (Below.refl _ w).alloc (Nat.le_refl _) _
  have z1 : w.heap.size < w1.heap.size := by rw [hw]; simp
  clear hw
  go_wp2_with fail
  have s : St w (w1.alloc (.cells #[.int .i64 3, .int .i64 1, .int .i64 5] 3 (0, 0))) w.heap.size w1.heap.size false 0 :=
    ⟨t1.kept (World.grownBy_alloc _ _ none) (by simp), row_351 w1, b1.alloc b1.size _⟩
  generalize w1.alloc (.cells #[.int .i64 3, .int .i64 1, .int .i64 5] 3 (0, 0)) = w2 at s
  generalize w1.heap.size = b at s z1
  obtain ⟨g, hg⟩ : ∃ g, w.heap.size = g := ⟨_, rfl⟩
  have hg1 : w.heap.size ≤ g := by omega
  have hne : b ≠ g := by omega
  rw [hg] at s
  simp only [hg]
  clear hg t1 b1 z1
  refine (last_any g _ _ _ s.t).mono ?_
  rintro e w' ⟨rfl, rfl⟩
  go_wp2_with fail
  refine (next_some g _ _ 1 _ _ _ _ _ s.t s.r.1 (by decide)).mono ?_
  rintro e w3 ⟨rfl, q1, q2⟩
  replace s := s.next hg1 hne q1 q2
  clear q1 q2
  go_wp2_with fail
  refine (next_some g _ _ 3 _ _ _ _ _ s.t s.r.1 (by decide)).mono ?_
  rintro e w4 ⟨rfl, q1, q2⟩
  replace s := s.next hg1 hne q1 q2
  clear q1 q2
  go_wp2_with fail
  refine (next_some g _ _ 5 _ _ _ _ _ s.t s.r.1 (by decide)).mono ?_
  rintro e w5 ⟨rfl, q1, q2⟩
  replace s := s.next hg1 hne q1 q2
  clear q1 q2
  go_wp2_with fail
  refine (next_some g _ _ 1 _ _ _ _ _ s.t s.r.1 (by decide)).mono ?_
  rintro e w6 ⟨rfl, q1, q2⟩
  replace s := s.next hg1 hne q1 q2
  clear q1 q2
  go_wp2_with fail
  refine (next_none g _ _ none 0 0 [] _ s.t (ReadsInt.nil _ _) (by decide)).mono ?_
  rintro e w7 ⟨rfl, q1, q2⟩
  replace s := s.next hg1 hne q1 q2
  clear q1 q2
  go_wp2_with fail
  refine (took_any g _ _ 4 _ s.t).mono ?_
  rintro e w8 ⟨rfl, q1, q2⟩
  replace s := s.next hg1 hne q1 q2
  clear q1 q2
  go_wp2_with fail
  refine (next_some g _ _ 5 _ _ _ _ _ s.t s.r.1 (by decide)).mono ?_
  rintro e w9 ⟨rfl, q1, q2⟩
  replace s := s.next hg1 hne q1 q2
  clear q1 q2
  go_wp2_with fail
  refine (last_any g _ _ _ s.t).mono ?_
  rintro e w' ⟨rfl, rfl⟩
  go_wp2_with fail
  go_ret
  exact ⟨rfl, s.bl⟩
end Go.Proofs.Ytpicniagafkjaaa
