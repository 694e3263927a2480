/- What the laws of layer 8 lean on: words and tokens of a kind. -/
import Derived.Test.YtkcnpnkcahgniaaLexEq3
import Derived.Test.YtkcnpnkcahgniaaQ5
set_option linter.unusedVariables false
set_option linter.unusedSimpArgs false
namespace Go.Proofs.Ytkcnpnkcahgniaa.Lex
open Go Go.RowKit Go.Proofs.YtkcnpnkcahgniaaW.PrintWords Go.Proofs.Ytkcnpnkcahgniaa.Q

theorem known_E : EvTo (fun k => chrysalislaw08_known.f k) true := EvTo.of_one (fun k r h => chrysalislaw08_known.mono k r h) 200 chrysalislaw08_known.at
theorem known_B : EvTo (fun k => (chrysalislaw08_known.f k).bind fun t => some t) true := EvTo.bind known_E EvTo.now

theorem le_inn {c : UInt8} (h : le c = true) : inn c = true := by simp [inn, h]
theorem le_bl {c : UInt8} (h : le c = true) : bl c = false := by
  unfold le at h
  unfold bl
  simp only [decide_eq_true_eq] at h
  rw [Bool.eq_false_iff]
  intro q
  simp only [Bool.or_eq_true, beq_iff_eq] at q
  rcases q with ((rfl | rfl) | rfl) | rfl <;> simp at h
theorem le_35 {c : UInt8} (h : le c = true) : c ≠ 35 := by
  rintro rfl
  simp [le] at h
theorem takeWhile_id {α : Type} (q : α → Bool) (l : List α) (h : l.all q = true) : l.takeWhile q = l := by
  induction l with
  | nil => rfl
  | cons a t ih =>
    simp only [List.all_cons, Bool.and_eq_true] at h
    rw [List.takeWhile_cons, if_pos h.1, ih h.2]
/-- A word that is a key, or is no longer than sixteen bytes, is one token. -/
theorem scan_word {l : List UInt8} (h : isWord l = true) (h2 : isKey l = true ∨ l.length ≤ 16) : Lex.scan l = .ok [⟨if isKey l then 5 else 1, l, 0, l.length⟩] := by
  cases l with
  | nil => cases h
  | cons c t =>
    simp only [isWord, Bool.and_eq_true] at h
    have e1 : skp false (c :: t) = c :: t := by
      simp only [skp]
      rw [if_neg (by rw [le_bl h.1]; simp), if_neg (le_35 h.1)]
    have e2 : (c :: t).takeWhile inn = c :: t := takeWhile_id inn _ h.2
    have e3 : Lex.one (c :: t) = .ok (if isKey (c :: t) then 5 else 1, c :: t, 0, (c :: t).length) := by
      simp only [Lex.one]
      rw [if_pos h.1, e2]
      by_cases k : isKey (c :: t) = true
      · rw [if_pos k, if_pos k]
      · rw [if_neg k, if_pos (h2.resolve_left k), if_neg k]
    unfold Lex.scan
    rw [e1]
    have e4 : ∀ f, toks f [] = .ok [] := by intro f; cases f <;> rfl
    simp only [toks, e3]
    rw [List.drop_length]
    simp only [skp, e4]
/-- A token of the kind of the keys is a key, one of the kind of the names a name. -/
theorem one_kind {l : List UInt8} {k : Int} {x : List UInt8} {n : Int} {m : Nat} (h : Lex.one l = .ok (k, x, n, m)) : (k = 5 → isKey x = true) ∧ (k = 1 → isName x = true) := by
  cases l with
  | nil => cases h
  | cons c t =>
    simp only [Lex.one] at h
    split at h
    · rename_i hc
      have hword : isWord ((c :: t).takeWhile inn) = true := by
        rw [List.takeWhile_cons, if_pos (le_inn hc)]
        simp only [isWord, hc, Bool.true_and, List.all_cons, le_inn hc]
        exact all_takeWhile inn t
      split at h
      · rename_i hk
        simp only [Except.ok.injEq, Prod.mk.injEq] at h
        obtain ⟨rfl, rfl, _, _⟩ := h
        exact ⟨fun _ => hk, fun q => by omega⟩
      · split at h
        · rename_i hk hl
          simp only [Except.ok.injEq, Prod.mk.injEq] at h
          obtain ⟨rfl, rfl, _, _⟩ := h
          refine ⟨fun q => by omega, fun _ => ?_⟩
          unfold isName
          rw [hword, decide_eq_true hl, Bool.eq_false_iff.2 hk]; rfl
        · cases h
    · repeat' split at h
      all_goals first
        | cases h; done
        | (simp only [Except.ok.injEq, Prod.mk.injEq] at h
           obtain ⟨rfl, _, _, _⟩ := h
           exact ⟨fun q => by omega, fun q => by omega⟩)
theorem toks_kind : ∀ (f : Nat) (l : List UInt8) (ts : List Tk), toks f l = .ok ts → ∀ t ∈ ts, (t.kind = 5 → isKey t.text = true) ∧ (t.kind = 1 → isName t.text = true)
  | 0, l, ts, h => by
    simp only [toks, Except.ok.injEq] at h
    subst h
    intro t ht
    cases ht
  | f + 1, [], ts, h => by
    simp only [toks, Except.ok.injEq] at h
    subst h
    intro t ht
    cases ht
  | f + 1, c :: u, ts, h => by
    simp only [toks] at h
    split at h
    · cases h
    · rename_i k x n m ho
      split at h
      · cases h
      · rename_i us hu
        simp only [Except.ok.injEq] at h
        subst h
        intro t ht
        rcases List.mem_cons.1 ht with rfl | ht
        · exact one_kind ho
        · exact toks_kind f _ us hu t ht
theorem toks_err : ∀ (f : Nat) (l : List UInt8) (e : Int) (r : Nat), toks f l = .error (e, r) → e ≠ 0 ∧ 1 ≤ r ∧ r ≤ l.length
  | 0, l, e, r, h => by simp [toks] at h
  | f + 1, [], e, r, h => by simp [toks] at h
  | f + 1, c :: u, e, r, h => by
    simp only [toks] at h
    split at h
    · rename_i e1 ho
      simp only [Except.error.injEq, Prod.mk.injEq] at h
      obtain ⟨rfl, rfl⟩ := h
      exact ⟨Lex_one_err ho (by simp), by simp, Nat.le_refl _⟩
    · rename_i k x n m ho
      split at h
      · rename_i e2 h2
        simp only [Except.error.injEq] at h
        subst h
        have := toks_err f _ e r h2
        have h3 := skp_len ((c :: u).drop m) false
        rw [List.length_drop] at h3
        exact ⟨this.1, this.2.1, by omega⟩
      · cases h
theorem scan_err {l : List UInt8} {e : Int} {r : Nat} (h : Lex.scan l = .error (e, r)) : e ≠ 0 ∧ 1 ≤ r ∧ r ≤ l.length := by
  have := toks_err _ _ e r h
  have h3 := skp_len l false
  exact ⟨this.1, this.2.1, by omega⟩
end Go.Proofs.Ytkcnpnkcahgniaa.Lex
