/- What the document's Quote, Text and Name compute, as the list of bytes says it. -/
import Derived.Test.YtkcnpnkcahgniaaLexRef2
import Derived.Test.YtkcnpnkcahgniaaLexText
import Derived.Test.YtkcnpnkcahgniaaQ19
import Derived.Test.YtkcnpnkcahgniaaQ19
set_option linter.unusedVariables false
set_option linter.unusedSimpArgs false
namespace Go.Proofs.Ytkcnpnkcahgniaa.Lex
open Go Go.RowKit Go.Proofs.YtkcnpnkcahgniaaW.PrintWords Go.Proofs.Ytkcnpnkcahgniaa.Q

theorem rquote_l (s : ByteArray) (hs : s.size ≤ 140737488351232) : ∀ (m i : Nat) (acc : List UInt8), s.size = m + i → acc.length + 2 * m + 1 < 140737488355328 →
    EvTo (fun k => chrysalisref08_Quote.l0 k s (nums acc) (i : Int)) (S (acc ++ (((L s).drop i).flatMap quo1 ++ [34]))) := by
  intro m
  induction m with
  | zero =>
    intro i acc h1 h2
    have hnil : (L s).drop i = [] := List.drop_eq_nil_of_le (by rw [← L_size]; omega)
    rw [hnil]
    refine EvTo.step (fun k => by rw [chrysalisref08_Quote.l0]) ?_
    refine EvTo.neg (by omega) (EvTo.pos (by rw [nums_len]; omega) (EvTo.of_eq (fun k => ?_)))
    congr 1
    rw [← S_nums, nums_app]; rfl
  | succ m ih =>
    intro i acc h1 h2
    have hd := drop_getD (L s) i (by rw [← L_size]; omega)
    have hb := bt_L s i
    generalize (L s).getD i 0 = c at hd hb
    have e1 : ((c.toNat : Int) = 10) ↔ c = 10 := u8_iff c 10
    have e2 : ((c.toNat : Int) = 34) ↔ c = 34 := u8_iff c 34
    have e3 : ((c.toNat : Int) = 92) ↔ c = 92 := u8_iff c 92
    rw [hd, List.flatMap_cons]
    have key : ∀ q : List UInt8, quo1 c = q → q.length ≤ 2 → EvTo (fun k => chrysalisref08_Quote.l0 k s (nums acc ++ nums q) ((i + 1 : Nat) : Int)) (S (acc ++ (quo1 c ++ ((L s).drop (i + 1)).flatMap quo1 ++ [34]))) := by
      intro q hq hl
      have := ih (i + 1) (acc ++ q) (by omega) (by rw [List.length_append]; omega)
      rw [hq]
      rw [List.append_assoc, nums_app] at this
      rw [List.append_assoc]
      exact this
    refine EvTo.step (fun k => by rw [chrysalisref08_Quote.l0]) ?_
    refine EvTo.pos (by omega) (EvTo.pos (by omega) ?_)
    simp only [hb, inc i 0 (by omega), Option.bind_some]
    by_cases c1 : c = 10
    · refine EvTo.pos (e1.2 c1) (EvTo.pos (by rw [nums_len]; simp; omega) ?_)
      exact key [92, 110] (by simp [quo1, c1]) (by simp)
    · refine EvTo.neg (fun h => c1 (e1.1 h)) ?_
      by_cases c2 : c = 34
      · refine EvTo.pos (e2.2 c2) (EvTo.pos (by rw [nums_len]; simp; omega) ?_)
        have := key [92, 34] (by simp [quo1, c2]) (by simp)
        rw [c2] at this ⊢
        exact this
      · refine EvTo.neg (fun h => c2 (e2.1 h)) ?_
        by_cases c3 : c = 92
        · refine EvTo.pos (e3.2 c3) (EvTo.pos (by rw [nums_len]; simp; omega) ?_)
          have := key [92, 92] (by simp [quo1, c3]) (by simp)
          rw [c3] at this ⊢
          exact this
        · refine EvTo.neg (fun h => c3 (e3.1 h)) (EvTo.pos (by rw [nums_len]; omega) ?_)
          exact key [c] (by simp [quo1, c1, c2, c3]) (by simp)
theorem rQuote_f (s : ByteArray) (hs : s.size ≤ 70368744177000) : EvTo (fun k => chrysalisref08_Quote.f k s) (S (quo (L s))) := by
  have := rquote_l s (by omega) s.size 0 [34] (by omega) (by simp; omega)
  simpa [chrysalisref08_Quote.f, quo, nums] using this
theorem rtext_l (l : List S29) (hl : l.length ≤ 4611686018427387904) (hq : ∀ t ∈ l, t.f1.size ≤ 70368744177000) : ∀ (m i : Nat) (acc : List UInt8), l.length = m + i → 0 < i → acc.length + (tailL ((l.drop i).map wr)).length ≤ 4611686018427387904 →
    EvTo (fun k => chrysalisref08_Text.l0 k l (S acc) (i : Int)) (S (acc ++ tailL ((l.drop i).map wr))) := by
  intro m
  induction m with
  | zero =>
    intro i acc h1 h2 h3
    rw [List.drop_eq_nil_of_le (by omega)]
    refine EvTo.step (fun k => by rw [chrysalisref08_Text.l0]) ?_
    refine EvTo.neg (by omega) ?_
    simp only [List.map_nil, tailL, List.append_nil]
    exact EvTo.now
  | succ m ih =>
    intro i acc h1 h2 h3
    have hi : i < l.length := by omega
    rw [tailL_drop l i hi] at h3 ⊢
    simp only [List.length_append, List.length_cons] at h3
    have hb := hq l[i] (List.getElem_mem _)
    have hinc : wrap64 ((i : Int) + 1) = ((i + 1 : Nat) : Int) := by rw [w64 _ (by omega)]; omega
    have h32 : S acc ++ (⟨#[32]⟩ : ByteArray) = S (acc ++ [32]) := S_app acc [32]
    have hsz : (S (acc ++ [32])).size = acc.length + 1 := by rw [S_size]; simp
    refine EvTo.step (fun k => by rw [chrysalisref08_Text.l0]) ?_
    refine EvTo.pos (by omega) (EvTo.pos (by omega) (EvTo.pos (by rw [S_size]; omega) (EvTo.pos (by omega) ?_)))
    simp only [rd_get l i hi, hinc, h32]
    by_cases c : l[i].f0 = 3
    · have hw : wr l[i] = quo (L l[i].f1) := by simp [wr, c]
      rw [hw] at h3 ⊢
      refine EvTo.pos c (EvTo.bind (rQuote_f _ hb) (EvTo.pos (by rw [hsz, S_size]; omega) ?_))
      rw [S_app]
      have := ih (i + 1) (acc ++ [32] ++ quo (L l[i].f1)) (by omega) (by omega) (by simp only [List.length_append, List.length_cons, List.length_nil]; omega)
      simpa only [List.append_assoc, List.cons_append, List.nil_append, List.singleton_append] using this
    · have hw : wr l[i] = L l[i].f1 := by simp [wr, c]
      rw [hw] at h3 ⊢
      have hf : l[i].f1 = S (L l[i].f1) := (S_L _).symm
      refine EvTo.neg c (EvTo.pos (by rw [hsz, L_size]; omega) ?_)
      rw [hf, S_app, ← hf]
      have := ih (i + 1) (acc ++ [32] ++ L l[i].f1) (by omega) (by omega) (by simp only [List.length_append, List.length_cons, List.length_nil]; omega)
      simpa only [List.append_assoc, List.cons_append, List.nil_append, List.singleton_append] using this
theorem rText_f (l : List S29) (hl : l.length ≤ 4611686018427387904) (hq : ∀ t ∈ l, t.f1.size ≤ 70368744177000) (h3 : (textL (l.map wr)).length ≤ 4611686018427387904) : EvTo (fun k => chrysalisref08_Text.f k l) (S (textL (l.map wr))) := by
  unfold chrysalisref08_Text.f
  cases l with
  | nil =>
    refine EvTo.step (fun k => by rw [chrysalisref08_Text.l0]) ?_
    exact EvTo.neg (by simp) EvTo.now
  | cons t u =>
    have hb := hq t (by simp)
    have hrd : rd_T29 (t :: u) 0 = t := rfl
    have hz : (⟨#[]⟩ : ByteArray).size = 0 := rfl
    have hn : ∀ x : List UInt8, (⟨#[]⟩ : ByteArray) ++ S x = S x := fun x => S_app [] x
    have hinc : wrap64 ((0 : Int) + 1) = ((1 : Nat) : Int) := by rw [w64 _ (by omega)]; rfl
    simp only [List.map_cons, textL, List.length_append] at h3 ⊢
    refine EvTo.step (fun k => by rw [chrysalisref08_Text.l0]) ?_
    refine EvTo.pos (by simp only [List.length_cons]; omega) (EvTo.neg (by omega) (EvTo.pos (by omega) ?_))
    simp only [hrd, hinc]
    by_cases c : t.f0 = 3
    · have hw : wr t = quo (L t.f1) := by simp [wr, c]
      rw [hw] at h3 ⊢
      refine EvTo.pos c (EvTo.bind (rQuote_f _ hb) (EvTo.pos (by rw [hz, S_size]; omega) ?_))
      rw [hn]
      exact rtext_l (t :: u) hl hq u.length 1 (quo (L t.f1)) (by simp) (by omega) (by simpa using h3)
    · have hw : wr t = L t.f1 := by simp [wr, c]
      rw [hw] at h3 ⊢
      refine EvTo.neg c (EvTo.pos (by rw [hz, L_size]; omega) ?_)
      rw [show (⟨#[]⟩ : ByteArray) ++ t.f1 = S (L t.f1) by rw [← hn, S_L]]
      exact rtext_l (t :: u) hl hq u.length 1 (L t.f1) (by simp) (by omega) (by simpa using h3)
theorem rName_f (s : ByteArray) (hs : s.size ≤ 140737488351232) : EvTo (fun k => chrysalisref08_Name.f k s) (isName (L s)) := by
  unfold chrysalisref08_Name.f
  have hL := L_size s
  by_cases h : (s.size : Int) > 0
  · refine EvTo.pos h ?_
    by_cases h2 : (s.size : Int) ≤ 16
    · refine EvTo.pos h2 ?_
      have hw := rword_f s hs 0 (by omega)
      rw [List.drop_zero] at hw
      refine EvTo.bind hw ?_
      have hiff : (wordN (L s) = (L s).length) ↔ isWord (L s) = true := by
        rcases hl : L s with _ | ⟨c, t⟩
        · rw [hl, List.length_nil] at hL; omega
        · simp only [wordN, isWord, Bool.and_eq_true]
          by_cases c1 : le c = true
          · rw [if_pos c1, takeWhile_all]
            exact ⟨fun q => ⟨c1, q⟩, fun q => q.2⟩
          · rw [if_neg c1]
            constructor
            · intro q; simp at q
            · intro q; exact absurd q.1 c1
      by_cases h3 : isWord (L s) = true
      · refine EvTo.pos (by rw [hiff.2 h3, ← hL]) ?_
        have e : isName (L s) = !isKey (L s) := by
          unfold isName
          rw [h3, show decide ((L s).length ≤ 16) = true from decide_eq_true (by omega)]
          rfl
        rw [e]
        exact EvTo.bind (rKey_f s) EvTo.now
      · refine EvTo.neg (fun q => h3 (hiff.1 (by omega))) ?_
        have e : isName (L s) = false := by
          unfold isName
          rw [show isWord (L s) = false by simpa using h3]
          rfl
        rw [e]
        exact EvTo.now
    · refine EvTo.neg h2 ?_
      have e : isName (L s) = false := by
        unfold isName
        rw [show decide ((L s).length ≤ 16) = false from decide_eq_false (by omega)]
        simp
      rw [e]
      exact EvTo.now
  · refine EvTo.neg h ?_
    have e : L s = [] := List.eq_nil_of_length_eq_zero (by omega)
    rw [e]
    exact EvTo.now
end Go.Proofs.Ytkcnpnkcahgniaa.Lex
