/- The plain law of LexKeys. -/
import Derived.Test.YtkcnpnkcahgniaaQ17
import Derived.Test.YtkcnpnkcahgniaaLexLaw
set_option linter.unusedVariables false
set_option linter.unusedSimpArgs false
namespace Go.Proofs.Ytkcnpnkcahgniaa.Pure
open Go Go.RowKit Go.Proofs.YtkcnpnkcahgniaaW.PrintWords Go.Proofs.Ytkcnpnkcahgniaa.Q Go.Proofs.Ytkcnpnkcahgniaa.Lex

theorem LexKeys_one (a0 : ByteArray) (l : List S29) (b : Bool) (ha : a0.size ≤ 140737488351232)
    (hb : b = true → 0 < l.length ∧ ((rd_T29 l 0).f0 = 5 → isKey (L a0) = true) ∧ ((rd_T29 l 0).f0 = 1 → isName (L a0) = true))
    (hk : isKey (L a0) = true → b = true ∧ (rd_T29 l 0).f0 = 5) (hn : isName (L a0) = true → b = true ∧ (rd_T29 l 0).f0 = 1) :
    EvTo (fun k => chrysalislaw08_LexKeys.j0 k a0 l b) true := by
  refine EvTo.step (fun k => by rw [chrysalislaw08_LexKeys.j0]) (EvTo.bind (Key_f a0 ha) ?_)
  by_cases c1 : isKey (L a0) = true
  · have hnn : isName (L a0) = false := by unfold isName; rw [c1]; simp
    obtain ⟨rfl, h5⟩ := hk c1
    refine EvTo.pos c1 (EvTo.bind (Name_f a0 ha) (EvTo.neg (by rw [hnn]; simp) (EvTo.pos rfl (EvTo.pos (by have := (hb rfl).1; omega) (EvTo.pos h5 known_B)))))
  · refine EvTo.neg c1 (EvTo.bind (Name_f a0 ha) ?_)
    by_cases c2 : isName (L a0) = true
    · obtain ⟨rfl, h1⟩ := hn c2
      have hl : a0.size ≤ 16 := by
        unfold isName at c2
        simp only [Bool.and_eq_true, decide_eq_true_eq] at c2
        rw [L_size]; exact c2.1.2
      exact EvTo.pos c2 (EvTo.pos rfl (EvTo.pos (by have := (hb rfl).1; omega) (EvTo.pos h1 (EvTo.pos (by omega) known_B))))
    · refine EvTo.neg c2 ?_
      cases b with
      | true =>
        have := hb rfl
        exact EvTo.pos rfl (EvTo.pos (by have := this.1; omega) (EvTo.neg (fun q => c2 (this.2.2 q)) (EvTo.neg (fun q => c1 (this.2.1 q)) known_B)))
      | false => exact EvTo.neg (by simp) known_B
theorem LexKeys : chrysalislaw08_LexKeys.Pure := by
  intro a0 ha
  apply EvTo.one (F := fun k => chrysalislaw08_LexKeys.f k a0)
  unfold chrysalislaw08_LexKeys.f
  by_cases h : (a0.size : Int) > 100
  · exact EvTo.pos h known_B
  · refine EvTo.neg h (EvTo.bind (Scan_f a0) ?_)
    have hw : isWord (L a0) = true → (isKey (L a0) = true ∨ (L a0).length ≤ 16) → scanOf a0 = ([⟨if isKey (L a0) then 5 else 1, a0, 0, 0⟩], 0, 0) := by
      intro h1 h2
      unfold scanOf
      rw [if_pos (by omega), scan_word h1 h2]
      simp [scanV, tkS, S_L, L_size]
    have hone : isKey (L a0) = true ∨ isName (L a0) = true → isWord (L a0) = true ∧ (isKey (L a0) = true ∨ (L a0).length ≤ 16) := by
      rintro (q | q)
      · exact ⟨key_word q, Or.inl q⟩
      · unfold isName at q
        simp only [Bool.and_eq_true, decide_eq_true_eq] at q
        exact ⟨q.1.1, Or.inr q.1.2⟩
    have hsc : scanOf a0 = scanV a0.size [] (Lex.scan (L a0)) := by unfold scanOf; rw [if_pos (by omega)]
    by_cases hq : isKey (L a0) = true ∨ isName (L a0) = true
    · obtain ⟨h1, h2⟩ := hone hq
      rw [hw h1 h2]
      refine EvTo.pos rfl (EvTo.pos rfl (EvTo.pos (by show (0 : Int) < ((1 : Nat) : Int); decide) ?_))
      have hb : ((rd_T29 [(⟨if isKey (L a0) then 5 else 1, a0, 0, 0⟩ : S29)] 0).f1.toList == a0.toList) = true := by simp [rd_T29]
      rw [hb]
      refine LexKeys_one a0 _ true ha (fun _ => ⟨by simp, fun q => ?_, fun q => ?_⟩) (fun q => ⟨rfl, by simp [rd_T29, q]⟩) (fun q => ⟨rfl, ?_⟩)
      · by_cases c : isKey (L a0) = true
        · exact c
        · simp [rd_T29, c] at q
      · by_cases c : isKey (L a0) = true
        · simp [rd_T29, c] at q
        · exact hq.resolve_left c
      · have : isKey (L a0) = false := by
          unfold isName at q
          simp only [Bool.and_eq_true, Bool.not_eq_true'] at q
          exact q.2
        simp [rd_T29, this]
    · have hk : isKey (L a0) = true → False := fun q => hq (Or.inl q)
      have hn : isName (L a0) = true → False := fun q => hq (Or.inr q)
      have hno : ∀ l, EvTo (fun k => chrysalislaw08_LexKeys.j0 k a0 l false) true := fun l =>
        LexKeys_one a0 l false ha (fun q => by cases q) (fun q => (hk q).elim) (fun q => (hn q).elim)
      rw [hsc]
      cases hs : Lex.scan (L a0) with
      | error e =>
        obtain ⟨e, r⟩ := e
        exact EvTo.neg (scan_err hs).1 (hno _)
      | ok ts =>
        refine EvTo.pos rfl ?_
        simp only [scanV, List.nil_append]
        by_cases c1 : ((ts.map (tkS a0.size)).length : Int) = 1
        · refine EvTo.pos c1 (EvTo.pos (by omega) ?_)
          cases hb : ((rd_T29 (ts.map (tkS a0.size)) 0).f1.toList == a0.toList) with
          | false => exact hno _
          | true =>
            obtain ⟨t, rfl⟩ : ∃ t, ts = [t] := by
              rw [List.length_map] at c1
              cases ts with
              | nil => simp at c1
              | cons a u => cases u with
                | nil => exact ⟨a, rfl⟩
                | cons b v => simp at c1; omega
            have hk2 := toks_kind _ _ _ hs t (by simp)
            have ht : t.text = L a0 := by
              have : (S t.text).toList = a0.toList := by simpa [rd_T29, tkS] using hb
              rw [L_toList, L_toList, L_S] at this
              exact this
            rw [ht] at hk2
            refine LexKeys_one a0 _ true ha (fun _ => ⟨by simp, fun q => hk2.1 (by simpa [rd_T29, tkS] using q), fun q => hk2.2 (by simpa [rd_T29, tkS] using q)⟩) (fun q => (hk q).elim) (fun q => (hn q).elim)
        · exact EvTo.neg c1 (hno _)
end Go.Proofs.Ytkcnpnkcahgniaa.Pure
