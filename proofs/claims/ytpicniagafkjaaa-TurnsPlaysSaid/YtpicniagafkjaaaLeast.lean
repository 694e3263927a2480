/- The walk over TurnsLeast; no condition. -/
import Derived.Test.YtpicniagafkjaaaKnown
set_option linter.unusedVariables false
set_option linter.unusedSimpArgs false
namespace Go.Proofs.Ytpicniagafkjaaa
open Go.RowKit Go.Proofs.YtpicniagafkjaaaW.PrintWords

theorem foldBest_some_of (l : List Int) (h : l ≠ []) : ∃ m, foldBest l = some m ∧ m ∈ l ∧ ∀ x ∈ l, m ≤ x := by
  rcases foldBest_spec l with ⟨_, e⟩ | h'
  · exact absurd e h
  · exact h'
theorem mem_above {has : Bool} {last : Int} {l : List Int} {x : Int} : x ∈ aboveOf has last l ↔ x ∈ l ∧ has = true ∧ last < x := by
  unfold aboveOf
  simp [List.mem_filter, Bool.and_eq_true]

/-- Who goes on, of somebody who was taken. -/
theorem nextOf_spec (last : Int) (l : List Int) (h : l ≠ []) : ∃ n, nextOf true last l = some n ∧ n ∈ l ∧
    ((last < n ∧ ∀ x ∈ l, last < x → n ≤ x) ∨ (n ≤ last ∧ ∀ x ∈ l, x ≤ last ∧ n ≤ x)) := by
  by_cases ha : aboveOf true last l = []
  · obtain ⟨m, e, hm, hl⟩ := foldBest_some_of l h
    have hno : ∀ x ∈ l, x ≤ last := by
      intro x hx
      by_cases c : last < x
      · have : x ∈ aboveOf true last l := mem_above.2 ⟨hx, rfl, c⟩
        rw [ha] at this
        cases this
      · omega
    refine ⟨m, ?_, hm, .inr ⟨hno m hm, fun x hx => ⟨hno x hx, hl x hx⟩⟩⟩
    unfold nextOf
    rw [ha, foldBest_nil]
    exact e
  · obtain ⟨m, e, hm, hl⟩ := foldBest_some_of _ ha
    obtain ⟨h1, _, h2⟩ := mem_above.1 hm
    refine ⟨m, ?_, h1, .inl ⟨h2, fun x hx c => hl x (mem_above.2 ⟨hx, rfl, c⟩)⟩⟩
    unfold nextOf
    rw [e]

theorem any_snoc (l : List Int) (n : Int) (k : Nat) (h : k < l.length) : (l.take (k + 1)).any (· == n) = ((l.take k).any (· == n) || (l.getD k 0 == n)) := by
  rw [take_succ_getD l k h, List.any_append]
  simp
theorem getD_mem (l : List Int) (k : Nat) (h : k < l.length) : l.getD k 0 ∈ l := by
  rw [List.getD_eq_getElem?_getD, List.getElem?_eq_getElem h]
  exact List.getElem_mem h

set_option maxHeartbeats 1000000 in
set_option maxRecDepth 100000 in
theorem least_walk (A : Option Addr) (cap : Nat) (l : List Int) (last : Int) (w : World) (hr : ReadsInt w .i64 A l.length l) :
    Calls Try.prog 4 #[.slice A l.length cap, .int .i64 last] w fun e w' => e = .returned (.bool true) ∧ Below w.heap.size w w' := by
  have hm := hr.2.1
  by_cases hl : l.length > 200
  · go_enter Try.func4, Try.ntmps4
    go_wp2_with fail
    refine (new_any _).mono ?_
    rintro e w1 ⟨rfl, hw⟩
    have b1 : Below w.heap.size w w1 := by rw [hw]; exact (Below.refl _ w).alloc (Nat.le_refl _) _
    clear hw
    go_wp2_with fail
    refine (known_any _).mono ?_
    rintro e w' ⟨rfl, hb⟩
    go_wp2_with fail
    go_ret
    exact ⟨rfl, b1.trans (hb.mono b1.size)⟩
  · go_enter Try.func4, Try.ntmps4
    go_wp2_with fail
    refine (new_any _).mono ?_
    rintro e w1 ⟨rfl, hw⟩
    have t1 : TW w1 w.heap.size true false 0 := by rw [hw]; exact heap_alloc_new _ _
    have b1 : Below w.heap.size w w1 := by rw [hw]; exact (Below.refl _ w).alloc (Nat.le_refl _) _
    clear hw
    go_wp2_with fail
    refine (took_any _ _ _ _ _ t1).mono ?_
    rintro e w2 ⟨rfl, t2, g2⟩
    have b2 : Below w.heap.size w w2 := b1.grown g2 b1.size (fun k e => by cases e; exact Nat.le_refl _)
    have r2 := hr.below b2
    clear t1 b1 g2
    by_cases hnil : l = []
    · subst hnil
      go_wp2_with fail
      refine (next_none _ _ _ _ _ _ _ _ t2 r2 (by rfl)).mono ?_
      rintro e w3 ⟨rfl, t3, g3⟩
      have b3 : Below w.heap.size w w3 := b2.grown g3 b2.size (fun k e => by cases e; exact Nat.le_refl _)
      go_wp2_with fail
      refine (known_any _).mono ?_
      rintro e w' ⟨rfl, hb⟩
      go_wp2_with fail
      go_ret
      exact ⟨rfl, b3.trans (hb.mono b3.size)⟩
    · obtain ⟨n, hn, hmem, hspec⟩ := nextOf_spec last l hnil
      have hlen : 0 < l.length := by cases l with | nil => exact absurd rfl hnil | cons => simp
      go_wp2_with fail
      refine (next_some _ _ _ n _ _ _ _ _ t2 r2 hn).mono ?_
      rintro e w3 ⟨rfl, t3, g3⟩
      have b3 : Below w.heap.size w w3 := b2.grown g3 b2.size (fun k e => by cases e; exact Nat.le_refl _)
      have r3 := hr.below b3
      clear t2 g3 b2 r2
      have HN := Lib.hid hn
      clear hn
      go_wp2_with fail
      go_loop [8, 9] (fun m i => ∃ k : Nat, k ≤ l.length ∧ i = .int .i64 k ∧ m = .bool ((l.take k).any (· == n))) (fun _ i => l.length - (intOf i).toNat)
      case atStart => exact ⟨0, Nat.zero_le _, rfl, rfl⟩
      case round =>
        obtain ⟨k, hk, rfl, rfl⟩ := hrel
        by_cases hlt : k < l.length
        · obtain ⟨ad, hA, hc0⟩ := r3.2.2 (by omega)
          subst hA
          have hx := getD_mem l k hlt
          have hstep := any_snoc l n k hlt
          have hc := hc0 k hlt
          generalize l.getD k 0 = x at hc hx hstep
          generalize (l.take k).any (· == n) = met at hstep
          have HS := Lib.hid hstep
          have HX := Lib.hid hx
          clear hstep hx hc0
          rcases hspec with ⟨q1, q2⟩ | ⟨q1, q2⟩
          · have q3 := q2 x HX.out
            clear q2
            by_cases c : last < x
            · have q3 := q3 c
              cases met
              all_goals
                go_wp2
                go_round
                case rel => exact ⟨k + 1, by omega, by go_num, by rw [HS.out]; simp⟩
                case measure => simp [intOf]; omega
            · clear q3
              cases met
              all_goals
                go_wp2
                go_round
                case rel => exact ⟨k + 1, by omega, by go_num, by rw [HS.out]; simp⟩
                case measure => simp [intOf]; omega
          · obtain ⟨q3, q4⟩ := q2 x HX.out
            clear q2
            cases met
            all_goals
              go_wp2
              go_round
              case rel => exact ⟨k + 1, by omega, by go_num, by rw [HS.out]; simp⟩
              case measure => simp [intOf]; omega
        · have hany : (l.take k).any (· == n) = true := by
            rw [List.take_of_length_le (by omega)]
            exact List.any_eq_true.2 ⟨n, hmem, by simp⟩
          rw [hany]
          clear hany
          go_wp2_with fail
          refine (last_any _ _ _ _ t3).mono ?_
          rintro e w' ⟨rfl, rfl⟩
          go_wp2_with fail
          refine (known_any _).mono ?_
          rintro e w' ⟨rfl, hb⟩
          go_wp2_with fail
          go_ret
          exact ⟨rfl, b3.trans (hb.mono b3.size)⟩

theorem least_row (A : Option Addr) (len cap : Nat) (z : List Int) (n : Int) (w : World)
    (h : (A = none ∧ len = 0 ∧ cap = 0 ∧ z = []) ∨ ∃ x, A = some x ∧ len ≤ cap ∧ cap ≤ maxLen ∧ z.length = cap ∧ (∀ i, i < z.length → w.cell? (x.add i) = some (.int .i64 (z.getD i 0))) ∧ ∀ n ∈ z, (Lit.int .i64 n).wf = true)
    (y : len * 8 ≤ 140737488351232) (hn : (Lit.int .i64 n).wf = true) : Calls Try.prog 4 #[.slice A len cap, .int .i64 n] w fun e w' => e = .returned (.bool true) ∧ Below w.heap.size w w' := by
  obtain ⟨l, rfl, hr, -, -, -⟩ := ReadsInt.ofRowC h
  exact least_walk A cap l n w hr
end Go.Proofs.Ytpicniagafkjaaa
