/- What the document's lex computes, as the list of bytes says it: numbers, quoted texts, marks, keys. -/
import Derived.Test.YtkcnpnkcahgniaaLexRef
import Derived.Test.YtkcnpnkcahgniaaQ7
import Derived.Test.YtkcnpnkcahgniaaQ8
import Derived.Test.YtkcnpnkcahgniaaQ9
import Derived.Test.YtkcnpnkcahgniaaQ6
set_option linter.unusedVariables false
set_option linter.unusedSimpArgs false
namespace Go.Proofs.Ytkcnpnkcahgniaa.Lex
open Go Go.RowKit Go.Proofs.YtkcnpnkcahgniaaW.PrintWords Go.Proofs.Ytkcnpnkcahgniaa.Q

/-! number -/
theorem rnumber_l (s : ByteArray) (hs : s.size ≤ 140737488351232) : ∀ (m i : Nat) (n : Int), s.size = m + i →
    EvTo (fun k => chrysalisref08_number.l0 k s n (i : Int)) (wrap64 (((L s).drop i).foldl nstep n), decide (((L s).drop i).foldl nstep n < 9223372036854775808)) := by
  intro m
  induction m with
  | zero =>
    intro i n h1
    rw [List.drop_eq_nil_of_le (by rw [← L_size]; omega)]
    refine EvTo.step (fun k => by rw [chrysalisref08_number.l0]) ?_
    exact EvTo.neg (by omega) EvTo.now
  | succ m ih =>
    intro i n h1
    have hd := drop_getD (L s) i (by rw [← L_size]; omega)
    have hb := bt_L s i
    generalize (L s).getD i 0 = c at hd hb
    rw [hd, List.foldl_cons]
    refine EvTo.step (fun k => by rw [chrysalisref08_number.l0]) ?_
    refine EvTo.pos (by omega) (EvTo.pos (by omega) ?_)
    simp only [hb]
    rw [inc i 0 (by omega)]
    exact ih (i + 1) (nstep n c) (by omega)
theorem rnumber_f (s : ByteArray) (hs : s.size ≤ 140737488351232) : EvTo (fun k => chrysalisref08_number.f k s) (numOf (L s)) := by
  have hl := rnumber_l s hs s.size 0 0 (by omega)
  rw [List.drop_zero] at hl
  have hno : long (L s) = false → EvTo (fun k => chrysalisref08_number.j0 k s false) (numOf (L s)) := by
    intro h
    refine EvTo.step (fun k => by rw [chrysalisref08_number.j0]) ?_
    refine EvTo.neg (by simp) ?_
    unfold numOf
    rw [h]
    exact hl
  have hyes : long (L s) = true → EvTo (fun k => chrysalisref08_number.j0 k s true) (numOf (L s)) := by
    intro h
    refine EvTo.step (fun k => by rw [chrysalisref08_number.j0]) ?_
    refine EvTo.pos rfl ?_
    unfold numOf
    rw [h]
    exact EvTo.now
  unfold chrysalisref08_number.f
  by_cases h : (s.size : Int) > 19
  · refine EvTo.pos h (hyes ?_)
    unfold long
    rw [show decide (19 < (L s).length) = true from decide_eq_true (by rw [← L_size]; omega)]; rfl
  · refine EvTo.neg h ?_
    have d1 : decide (19 < (L s).length) = false := decide_eq_false (by rw [← L_size]; omega)
    by_cases h2 : (s.size : Int) > 1
    · refine EvTo.pos h2 (EvTo.pos (by omega) ?_)
      have d2 : decide (1 < (L s).length) = true := decide_eq_true (by rw [← L_size]; omega)
      have d3 : (bt s 0 == 48) = ((L s).head? == some 48) := by
        rcases hl2 : L s with _ | ⟨c, t⟩
        · rw [L_size, hl2] at h2; simp at h2
        · rw [bt0 s c t hl2]
          have e1 : ((c.toNat : Int) = 48) ↔ c = 48 := u8_iff c 48
          rw [Bool.eq_iff_iff]
          simp only [List.head?_cons, beq_iff_eq, Option.some.injEq, ← e1]
      rw [d3]
      cases h4 : ((L s).head? == some 48) with
      | true => exact hyes (by unfold long; rw [d1, d2, h4]; rfl)
      | false => exact hno (by unfold long; rw [d1, d2, h4]; rfl)
    · refine EvTo.neg h2 (hno ?_)
      unfold long
      rw [d1, show decide (1 < (L s).length) = false from decide_eq_false (by rw [← L_size]; omega)]; rfl

/-! unquoted -/
def unqV (size at' : Nat) (acc : List UInt8) : Option (List UInt8 × List UInt8) → ByteArray × Int
  | some (x, r) => (S (acc ++ x), ((size - r.length - at' : Nat) : Int))
  | none => ((⟨#[]⟩ : ByteArray), 0)
theorem unqV_cons (size at' : Nat) (acc : List UInt8) (c : UInt8) (o : Option (List UInt8 × List UInt8)) : unqV size at' acc (o.map fun r => (c :: r.1, r.2)) = unqV size at' (acc ++ [c]) o := by
  cases o with
  | none => rfl
  | some r => simp [unqV]
theorem runq_l (s : ByteArray) (hs : s.size ≤ 140737488351232) (at' : Nat) : ∀ (m i : Nat) (acc : List UInt8), s.size ≤ m + i → at' ≤ i → i ≤ s.size → acc.length + (s.size - i) < 140737488355328 →
    EvTo (fun k => chrysalisref08_unquoted.l0 k s (at' : Int) (nums acc) (i : Int)) (unqV s.size at' acc (unq false ((L s).drop i))) := by
  intro m
  induction m with
  | zero =>
    intro i acc h1 h2 h3 h4
    rw [List.drop_eq_nil_of_le (by rw [← L_size]; omega)]
    refine EvTo.step (fun k => by rw [chrysalisref08_unquoted.l0]) ?_
    exact EvTo.neg (by omega) EvTo.now
  | succ m ih =>
    intro i acc h1 h2 h3 h4
    by_cases hlt : i < s.size
    · have hd := drop_getD (L s) i (by rw [← L_size]; omega)
      have hb := bt_L s i
      generalize (L s).getD i 0 = c at hd hb
      have e1 : ((c.toNat : Int) = 34) ↔ c = 34 := u8_iff c 34
      have e2 : ((c.toNat : Int) = 10) ↔ c = 10 := u8_iff c 10
      have e3 : ((c.toNat : Int) = 92) ↔ c = 92 := u8_iff c 92
      have hinc : wrap64 ((i : Int) + 1) = ((i + 1 : Nat) : Int) := inc i 0 (by omega)
      have hinc2 : wrap64 (((i + 1 : Nat) : Int) + 1) = ((i + 2 : Nat) : Int) := inc (i + 1) 0 (by omega)
      rw [hd]
      refine EvTo.step (fun k => by rw [chrysalisref08_unquoted.l0]) ?_
      refine EvTo.pos (by omega) (EvTo.pos (by omega) ?_)
      simp only [hb, hinc, unq]
      by_cases c1 : c = 34
      · refine EvTo.pos (e1.2 c1) ?_
        rw [if_pos c1]
        refine EvTo.of_eq (fun k => ?_)
        rw [S_nums, w64 _ (by omega)]
        simp only [unqV, List.append_nil, List.length_drop, ← L_size]
        congr 2
        omega
      · refine EvTo.neg (fun h => c1 (e1.1 h)) ?_
        rw [if_neg c1]
        by_cases c2 : c = 10
        · refine EvTo.pos (e2.2 c2) ?_
          rw [if_pos c2]
          exact EvTo.now
        · refine EvTo.neg (fun h => c2 (e2.1 h)) ?_
          rw [if_neg c2]
          by_cases c3 : c = 92
          · refine EvTo.pos (e3.2 c3) ?_
            rw [if_pos c3]
            by_cases hlt2 : i + 1 < s.size
            · have hd2 := drop_getD (L s) (i + 1) (by rw [← L_size]; omega)
              have hb2 := bt_L s (i + 1)
              generalize (L s).getD (i + 1) 0 = d at hd2 hb2
              have f1 : ((d.toNat : Int) = 110) ↔ d = 110 := u8_iff d 110
              have f2 : ((d.toNat : Int) = 34) ↔ d = 34 := u8_iff d 34
              have f3 : ((d.toNat : Int) = 92) ↔ d = 92 := u8_iff d 92
              rw [hd2]
              simp only [hb2, unq]
              refine EvTo.pos (by omega) (EvTo.pos (by omega) ?_)
              have hnext : ∀ x : UInt8, EvTo (fun k => chrysalisref08_unquoted.l0 k s (at' : Int) (nums acc ++ [(x.toNat : Int)]) ((i + 2 : Nat) : Int)) (unqV s.size at' acc ((unq false ((L s).drop (i + 1 + 1))).map fun r => (x :: r.1, r.2))) := by
                intro x
                rw [unqV_cons]
                have := ih (i + 2) (acc ++ [x]) (by omega) (by omega) (by omega) (by rw [List.length_append]; simp only [List.length_cons, List.length_nil]; omega)
                rw [nums_app] at this
                exact this
              by_cases d1 : d = 110
              · rw [show ((d.toNat : Int) == 110) = true from beq_iff_eq.2 (f1.2 d1)]
                refine EvTo.step (fun k => by rw [chrysalisref08_unquoted.j1]) ?_
                refine EvTo.pos rfl (EvTo.pos (by rw [nums_len]; omega) ?_)
                simp only [hinc, hinc2]
                have he : esc d = some 10 := by rw [d1]; rfl
                rw [he]
                exact hnext 10
              · rw [show ((d.toNat : Int) == 110) = false from beq_eq_false_iff_ne.2 (fun h => d1 (f1.1 h))]
                refine EvTo.step (fun k => by rw [chrysalisref08_unquoted.j1]) ?_
                refine EvTo.neg (by simp) ?_
                simp only [hinc, hinc2, hb2]
                refine EvTo.pos (by omega) (EvTo.pos (by omega) ?_)
                by_cases d2 : d = 34
                · refine EvTo.pos (f2.2 d2) (EvTo.pos (by rw [nums_len]; omega) ?_)
                  have he : esc d = some 34 := by rw [d2]; rfl
                  rw [he, d2]
                  exact hnext 34
                · refine EvTo.neg (fun h => d2 (f2.1 h)) ?_
                  by_cases d3 : d = 92
                  · refine EvTo.pos (f3.2 d3) (EvTo.pos (by rw [nums_len]; omega) ?_)
                    have he : esc d = some 92 := by rw [d3]; rfl
                    rw [he, d3]
                    exact hnext 92
                  · refine EvTo.neg (fun h => d3 (f3.1 h)) ?_
                    have he : esc d = none := by simp [esc, d1, d2, d3]
                    rw [he]
                    exact EvTo.now
            · have hnil : (L s).drop (i + 1) = [] := List.drop_eq_nil_of_le (by rw [← L_size]; omega)
              rw [hnil]
              refine EvTo.neg (by omega) ?_
              refine EvTo.step (fun k => by rw [chrysalisref08_unquoted.j1]) ?_
              refine EvTo.neg (by simp) ?_
              simp only [hinc]
              exact EvTo.neg (by omega) EvTo.now
          · refine EvTo.neg (fun h => c3 (e3.1 h)) (EvTo.pos (by rw [nums_len]; omega) ?_)
            rw [if_neg c3, unqV_cons]
            have := ih (i + 1) (acc ++ [c]) (by omega) (by omega) (by omega) (by rw [List.length_append]; simp only [List.length_cons, List.length_nil]; omega)
            rw [nums_app] at this
            exact this
    · rw [List.drop_eq_nil_of_le (by rw [← L_size]; omega)]
      refine EvTo.step (fun k => by rw [chrysalisref08_unquoted.l0]) ?_
      exact EvTo.neg (by omega) EvTo.now
theorem runq_f (s : ByteArray) (hs : s.size ≤ 140737488351232) (at' : Nat) (ha : at' < s.size) : EvTo (fun k => chrysalisref08_unquoted.f k s (at' : Int)) (unqV s.size at' [] (unq false ((L s).drop (at' + 1)))) := by
  unfold chrysalisref08_unquoted.f
  have := runq_l s hs at' (s.size - (at' + 1)) (at' + 1) [] (by omega) (by omega) (by omega) (by simp; omega)
  rw [inc at' 0 (by omega)]
  exact this

/-! lists of words -/
theorem rd_list (l : List ByteArray) (i : Nat) (h : i < l.length) : rdOf ByteArray.empty l (i : Int) = l[i] := by
  simp [rdOf, List.getD_eq_getElem?_getD, List.getElem?_eq_getElem h]
theorem rKey_l (s : ByteArray) (l : List ByteArray) (hl : l.length ≤ 1000) : ∀ (m i : Nat), l.length = m + i →
    EvTo (fun k => chrysalisref08_Key.l0 k s l (i : Int)) (((l.drop i).map L).contains (L s)) := by
  intro m
  induction m with
  | zero =>
    intro i h1
    rw [List.drop_eq_nil_of_le (by omega)]
    refine EvTo.step (fun k => by rw [chrysalisref08_Key.l0]) ?_
    exact EvTo.neg (by omega) EvTo.now
  | succ m ih =>
    intro i h1
    have hi : i < l.length := by omega
    refine EvTo.step (fun k => by rw [chrysalisref08_Key.l0]) ?_
    refine EvTo.pos (by omega) (EvTo.pos (by omega) ?_)
    simp only [rd_list l i hi]
    rw [List.drop_eq_getElem_cons hi, List.map_cons, List.contains_cons]
    by_cases c : L l[i] = L s
    · refine EvTo.pos (by rw [L_toList, L_toList]; exact c) ?_
      rw [show (L s == L l[i]) = true from beq_iff_eq.2 c.symm]
      exact EvTo.now
    · refine EvTo.neg (by rw [L_toList, L_toList]; exact c) ?_
      rw [show (L s == L l[i]) = false from beq_eq_false_iff_ne.2 (fun e => c e.symm), Bool.false_or, inc i 0 (by omega)]
      exact ih (i + 1) (by omega)
theorem rKey_f (s : ByteArray) : EvTo (fun k => chrysalisref08_Key.f k s) (isKey (L s)) := by
  unfold chrysalisref08_Key.f
  exact rKey_l s _ (by simp) 20 0 (by simp)
theorem rmark_l (s : ByteArray) (hs : s.size ≤ 140737488351232) (at' : Nat) (ha : at' ≤ s.size) (l : List ByteArray) (hl : l.length ≤ 1000) (hw : ∀ w ∈ l, w.size ≤ 1000) : ∀ (m i : Nat), l.length = m + i →
    EvTo (fun k => chrysalisref08_mark.l0 k s (at' : Int) l (i : Int)) (((match (((l.drop i).map L).find? (fun w => w.isPrefixOf ((L s).drop at'))) with | some w => w.length | none => 0) : Nat) : Int) := by
  intro m
  induction m with
  | zero =>
    intro i h1
    have hnil : l.drop i = [] := List.drop_eq_nil_of_le (by omega)
    rw [hnil]
    refine EvTo.step (fun k => by rw [chrysalisref08_mark.l0]) ?_
    exact EvTo.neg (by omega) EvTo.now
  | succ m ih =>
    intro i h1
    have hi : i < l.length := by omega
    have hz := hw l[i] (List.getElem_mem _)
    have hL := L_size l[i]
    have hsL := L_size s
    refine EvTo.step (fun k => by rw [chrysalisref08_mark.l0]) ?_
    refine EvTo.pos (by omega) (EvTo.pos (by omega) ?_)
    simp only [rd_list l i hi]
    rw [List.drop_eq_getElem_cons hi, List.map_cons, List.find?_cons]
    have d1 : -9223372036854775808 ≤ (s.size : Int) - (at' : Int) ∧ (s.size : Int) - (at' : Int) ≤ 9223372036854775807 := by omega
    have hnext : EvTo (fun k => chrysalisref08_mark.l0 k s (at' : Int) l (wrap64 ((i : Int) + 1))) (((match (((l.drop (i + 1)).map L).find? (fun w => w.isPrefixOf ((L s).drop at'))) with | some w => w.length | none => 0) : Nat) : Int) := by
      rw [inc i 0 (by omega)]
      exact ih (i + 1) (by omega)
    have hp : (L l[i]).isPrefixOf ((L s).drop at') = true ↔ ((L l[i]).length ≤ ((L s).drop at').length ∧ ((L s).drop at').take (L l[i]).length = L l[i]) := prefix_take _ _
    rw [List.length_drop, ← hL, ← hsL] at hp
    by_cases c1 : l[i].size ≤ s.size - at'
    · have d2 : (s.size : Int) - (at' : Int) ≥ (l[i].size : Int) := by omega
      have d3 : -9223372036854775808 ≤ (at' : Int) + (l[i].size : Int) ∧ (at' : Int) + (l[i].size : Int) ≤ 9223372036854775807 := by omega
      have d4 : (at' : Int) ≤ (at' : Int) + (l[i].size : Int) := by omega
      have d5 : (at' : Int) + (l[i].size : Int) ≤ (s.size : Int) := by omega
      have d6 : ((at' : Int) + (l[i].size : Int)).toNat = at' + l[i].size := by omega
      have d0 : 0 ≤ (at' : Int) := by omega
      simp only [w64 _ d1, w64 _ d3]
      refine EvTo.pos d2 (EvTo.pos d0 (EvTo.pos d4 (EvTo.pos d5 ?_)))
      rw [d6, Int.toNat_natCast]
      by_cases c2 : ((L s).drop at').take l[i].size = L l[i]
      · refine EvTo.pos (by rw [L_toList, L_toList, L_cut]; exact c2) ?_
        rw [hp.2 ⟨c1, c2⟩, hL]
        exact EvTo.now
      · refine EvTo.neg (by rw [L_toList, L_toList, L_cut]; exact c2) ?_
        rw [show (L l[i]).isPrefixOf ((L s).drop at') = false from Bool.eq_false_iff.2 (fun q => c2 (hp.1 q).2)]
        exact hnext
    · have d2 : ¬ (s.size : Int) - (at' : Int) ≥ (l[i].size : Int) := by omega
      simp only [w64 _ d1]
      refine EvTo.neg d2 ?_
      rw [show (L l[i]).isPrefixOf ((L s).drop at') = false from Bool.eq_false_iff.2 (fun q => c1 (hp.1 q).1)]
      exact hnext
end Go.Proofs.Ytkcnpnkcahgniaa.Lex
