/- Where tokens stand. -/
import Derived.Test.YtkcnpnkcahgniaaLexLaw
set_option linter.unusedVariables false
set_option linter.unusedSimpArgs false
namespace Go.Proofs.Ytkcnpnkcahgniaa.Lex
open Go Go.RowKit

theorem skp_skp : ∀ (l : List UInt8) (b : Bool), skp false (skp b l) = skp b l
  | [], b => by cases b <;> rfl
  | c :: t, false => by
    by_cases h : bl c = true
    · have e1 : skp false (c :: t) = skp false t := by simp [skp, h]
      rw [e1, skp_skp t false]
    · by_cases h2 : c = 35
      · have e1 : skp false (c :: t) = skp true t := by simp [skp, h, h2]; intro q; rw [h2] at h; exact absurd q h
        rw [e1, skp_skp t true]
      · have e1 : skp false (c :: t) = c :: t := by simp [skp, h, h2]
        rw [e1, e1]
  | c :: t, true => by
    by_cases h : c = 10
    · have e1 : skp true (c :: t) = skp false t := by simp [skp, h]
      rw [e1, skp_skp t false]
    · have e1 : skp true (c :: t) = skp true t := by simp [skp, h]
      rw [e1, skp_skp t true]
theorem skp_suffix : ∀ (l : List UInt8) (b : Bool), skp b l <:+ l
  | [], b => by cases b <;> exact List.suffix_refl _
  | c :: t, false => by
    by_cases h : bl c = true
    · have e1 : skp false (c :: t) = skp false t := by simp [skp, h]
      rw [e1]
      exact (skp_suffix t false).trans (List.suffix_cons c t)
    · by_cases h2 : c = 35
      · have e1 : skp false (c :: t) = skp true t := by simp [skp, h, h2]; intro q; rw [h2] at h; exact absurd q h
        rw [e1]
        exact (skp_suffix t true).trans (List.suffix_cons c t)
      · have e1 : skp false (c :: t) = c :: t := by simp [skp, h, h2]
        rw [e1]
        exact List.suffix_refl _
  | c :: t, true => by
    by_cases h : c = 10
    · have e1 : skp true (c :: t) = skp false t := by simp [skp, h]
      rw [e1]
      exact (skp_suffix t false).trans (List.suffix_cons c t)
    · have e1 : skp true (c :: t) = skp true t := by simp [skp, h]
      rw [e1]
      exact (skp_suffix t true).trans (List.suffix_cons c t)
theorem toks_rem : ∀ (f : Nat) (l : List UInt8) (ts : List Tk), toks f l = .ok ts → ts.length ≤ l.length ∧ ∀ t ∈ ts, t.rem ≤ l.length
  | 0, l, ts, h => by
    simp only [toks, Except.ok.injEq] at h
    subst h
    exact ⟨by simp, fun t ht => by cases ht⟩
  | f + 1, [], ts, h => by
    simp only [toks, Except.ok.injEq] at h
    subst h
    exact ⟨by simp, fun t ht => by cases ht⟩
  | f + 1, c :: u, ts, h => by
    simp only [toks] at h
    split at h
    · cases h
    · rename_i k x n j ho
      split at h
      · cases h
      · rename_i us hu
        simp only [Except.ok.injEq] at h
        subst h
        have hj := one_len ho
        have hs := skp_len ((c :: u).drop j) false
        rw [List.length_drop] at hs
        obtain ⟨h1, h2⟩ := toks_rem f _ us hu
        refine ⟨by simp only [List.length_cons] at *; omega, fun t ht => ?_⟩
        rcases List.mem_cons.1 ht with rfl | ht
        · exact Nat.le_refl _
        · have := h2 t ht; omega
/-- What lies behind a token's beginning: it is found there again, and all that stand behind it; the next one stands behind it. -/
theorem toks_at : ∀ (f : Nat) (u : List UInt8) (ts : List Tk), u.length < f → skp false u = u → toks f u = .ok ts → ∀ i (h : i < ts.length),
    ∃ v m, v <:+ u ∧ v.length = ts[i].rem ∧ skp false v = v ∧ toks (v.length + 1) v = .ok (ts.drop i) ∧ Lex.one v = .ok (ts[i].kind, ts[i].text, ts[i].n, m) ∧ ∀ (h2 : i + 1 < ts.length), ts[i + 1].rem < ts[i].rem
  | 0, u, ts, h, _, _, _, _ => by omega
  | f + 1, [], ts, _, _, h, i, hi => by
    simp only [toks, Except.ok.injEq] at h
    subst h
    simp at hi
  | f + 1, c :: u, ts, hf, hs, h, i, hi => by
    have h0 := h
    simp only [toks] at h
    split at h
    · cases h
    · rename_i k x n j ho
      split at h
      · cases h
      · rename_i us hu
        simp only [Except.ok.injEq] at h
        subst h
        have hj := one_len ho
        have hsl := skp_len ((c :: u).drop j) false
        rw [List.length_drop] at hsl
        cases i with
        | zero =>
          refine ⟨c :: u, j, List.suffix_refl _, rfl, hs, ?_, ho, fun h2 => ?_⟩
          · rw [List.drop_zero, ← h0]
            exact toks_fuel _ _ _ (by omega) hf
          · have hm := (toks_rem f _ us hu).2 (us[0]'(by simpa using h2)) (List.getElem_mem _)
            simp only [List.getElem_cons_succ, List.getElem_cons_zero]
            omega
        | succ i =>
          have hi' : i < us.length := by simpa using hi
          obtain ⟨v, m, v1, v2, v3, v4, v5, v6⟩ := toks_at f _ us (by omega) (skp_skp _ _) hu i hi'
          refine ⟨v, m, v1.trans ((skp_suffix _ _).trans (List.drop_suffix _ _)), by simpa using v2, v3, by simpa using v4, by simpa using v5, fun h2 => ?_⟩
          have := v6 (by simpa using h2)
          simpa using this
theorem scan_at {l : List UInt8} {ts : List Tk} (h : Lex.scan l = .ok ts) (i : Nat) (hi : i < ts.length) :
    ∃ v m, v = l.drop (l.length - ts[i].rem) ∧ v.length = ts[i].rem ∧ Lex.scan v = .ok (ts.drop i) ∧ Lex.one v = .ok (ts[i].kind, ts[i].text, ts[i].n, m) ∧ ∀ (h2 : i + 1 < ts.length), ts[i + 1].rem < ts[i].rem := by
  have hsl := skp_len l false
  obtain ⟨v, m, v1, v2, v3, v4, v5, v6⟩ := toks_at (l.length + 1) (skp false l) ts (by omega) (skp_skp _ _) h i hi
  have hv : v <:+ l := v1.trans (skp_suffix _ _)
  refine ⟨v, m, ?_, v2, ?_, v5, v6⟩
  · rw [← v2]
    exact List.suffix_iff_eq_drop.1 hv
  · unfold Lex.scan
    rw [v3]
    exact v4
theorem take_len_take {α : Type} (n : Nat) (l : List α) : l.take (l.take n).length = l.take n := by
  rw [List.length_take]
  rcases Nat.le_total n l.length with h | h
  · rw [Nat.min_eq_left h]
  · rw [Nat.min_eq_right h, List.take_of_length_le h, List.take_of_length_le (Nat.le_refl _)]
theorem mark_take (l : List UInt8) : l.take (Lex.mark l).length = Lex.mark l := by
  unfold Lex.mark
  by_cases h : PAIRS.contains (l.take 2) = true
  · rw [if_pos h]; exact take_len_take 2 l
  · rw [if_neg h]
    have key : ∀ (b : Bool), l.take (if b = true then l.take 1 else []).length = if b = true then l.take 1 else [] := by
      intro b
      cases b with
      | true => exact take_len_take 1 l
      | false => rfl
    exact key _
/-- A token's text stands at its place, but for a quoted one: that begins with a quote. -/
theorem one_text {v : List UInt8} {k : Int} {x : List UInt8} {n : Int} {m : Nat} (h : Lex.one v = .ok (k, x, n, m)) : (k ≠ 3 → v.take x.length = x ∧ x ≠ [] ∧ x.length ≤ v.length) ∧ (k = 3 → ∃ t, v = 34 :: t) := by
  cases v with
  | nil => cases h
  | cons c t =>
    have hl := one_len h
    simp only [Lex.one] at h
    have tw : ∀ q : UInt8 → Bool, q c = true → ((c :: t).take ((c :: t).takeWhile q).length = (c :: t).takeWhile q ∧ (c :: t).takeWhile q ≠ [] ∧ ((c :: t).takeWhile q).length ≤ (c :: t).length) := fun q hq =>
      ⟨take_takeWhile q _, by rw [List.takeWhile_cons, if_pos hq]; simp, takeWhile_len q _⟩
    by_cases c1 : le c = true
    · rw [if_pos c1] at h
      split at h
      · simp only [Except.ok.injEq, Prod.mk.injEq] at h
        obtain ⟨rfl, rfl, _, _⟩ := h
        exact ⟨fun _ => tw inn (le_inn c1), fun q => by omega⟩
      · split at h
        · simp only [Except.ok.injEq, Prod.mk.injEq] at h
          obtain ⟨rfl, rfl, _, _⟩ := h
          exact ⟨fun _ => tw inn (le_inn c1), fun q => by omega⟩
        · cases h
    · rw [if_neg c1] at h
      by_cases c2 : di c = true
      · rw [if_pos c2] at h
        split at h
        · simp only [Except.ok.injEq, Prod.mk.injEq] at h
          obtain ⟨rfl, rfl, _, _⟩ := h
          exact ⟨fun _ => tw di c2, fun q => by omega⟩
        · cases h
      · rw [if_neg c2] at h
        by_cases c3 : c = 34
        · rw [if_pos c3] at h
          split at h
          · simp only [Except.ok.injEq, Prod.mk.injEq] at h
            obtain ⟨rfl, _, _, _⟩ := h
            exact ⟨fun q => by omega, fun _ => ⟨t, by rw [c3]⟩⟩
          · cases h
        · rw [if_neg c3] at h
          split at h
          · cases h
          · rename_i hm
            simp only [Except.ok.injEq, Prod.mk.injEq] at h
            obtain ⟨rfl, rfl, _, _⟩ := h
            refine ⟨fun _ => ⟨?_, hm, mark_len _⟩, fun q => by omega⟩
            exact mark_take _
end Go.Proofs.Ytkcnpnkcahgniaa.Lex
