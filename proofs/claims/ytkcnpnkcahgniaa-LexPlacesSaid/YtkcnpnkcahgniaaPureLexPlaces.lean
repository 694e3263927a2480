/- The plain law of LexPlaces. -/
import Derived.Test.YtkcnpnkcahgniaaQ15
import Derived.Test.YtkcnpnkcahgniaaLexSame
import Derived.Test.YtkcnpnkcahgniaaLexPlace
set_option linter.unusedVariables false
set_option linter.unusedSimpArgs false
namespace Go.Proofs.Ytkcnpnkcahgniaa.Pure
open Go Go.RowKit Go.Proofs.YtkcnpnkcahgniaaW.PrintWords Go.Proofs.Ytkcnpnkcahgniaa.Q Go.Proofs.Ytkcnpnkcahgniaa.Lex

theorem places_l (s : ByteArray) (hs : s.size ≤ 4000) (ts : List Tk) (h : Lex.scan (L s) = .ok ts) : ∀ (m i : Nat) (last : Int), ts.length = m + i → (∀ hi : i < ts.length, last < ((s.size - ts[i].rem : Nat) : Int)) →
    EvTo (fun k => chrysalislaw08_LexPlaces.l0 k s (ts.map (tkS s.size)) last (i : Int)) true := by
  have hcnt := toks_rem _ _ _ h
  have hsk := skp_len (L s) false
  have hL := L_size s
  intro m
  induction m with
  | zero =>
    intro i last h1 h2
    refine EvTo.step (fun k => by rw [chrysalislaw08_LexPlaces.l0]) ?_
    exact EvTo.neg (by simp only [List.length_map]; omega) known_B
  | succ m ih =>
    intro i last h1 h2
    have hi : i < ts.length := by omega
    obtain ⟨v, j, v1, v2, v3, v4, v5⟩ := scan_at h i hi
    have hr : ts[i].rem ≤ s.size := by have := hcnt.2 ts[i] (List.getElem_mem _); omega
    have hj := one_len v4
    have hlast := h2 hi
    have htx := one_text v4
    have hrd : rd_T29 (ts.map (tkS s.size)) (i : Int) = tkS s.size ts[i] := by
      rw [rd_get _ i (by simpa using hi), List.getElem_map]
    refine EvTo.step (fun k => by rw [chrysalislaw08_LexPlaces.l0]) ?_
    refine EvTo.pos (by simp only [List.length_map]; omega) (EvTo.pos (by omega) ?_)
    simp only [hrd]
    refine EvTo.neg (by simp only [tkS]; omega) ?_
    rw [show decide ((tkS s.size ts[i]).f3 ≥ (s.size : Int)) = false from decide_eq_false (by simp only [tkS]; omega)]
    refine EvTo.step (fun k => by rw [chrysalislaw08_LexPlaces.j1]) ?_
    refine EvTo.neg (by simp) (EvTo.pos (by omega) (EvTo.pos (by simp only [List.length_map]; omega) ?_))
    simp only [hrd]
    have hnext : EvTo (fun k => chrysalislaw08_LexPlaces.j2 k s (ts.map (tkS s.size)) (i : Int) (tkS s.size ts[i]).f3 false) true := by
      refine EvTo.step (fun k => by rw [chrysalislaw08_LexPlaces.j2]) ?_
      refine EvTo.neg (by simp) (EvTo.pos (by simp only [tkS]; omega) (EvTo.pos (by simp only [tkS]; omega) ?_))
      have e0 : ((tkS s.size ts[i]).f3 : Int).toNat = s.size - ts[i].rem := by simp only [tkS]; omega
      rw [e0]
      have e1 : L (s.extract (s.size - ts[i].rem) s.size) = v := by
        rw [L_extract, v1, hL, List.take_of_length_le]
        rw [List.length_drop]
        exact Nat.le_refl _
      have e2 : (s.extract (s.size - ts[i].rem) s.size).size = v.length := by rw [L_size, e1]
      have e3 : scanOf (s.extract (s.size - ts[i].rem) s.size) = ((ts.drop i).map (tkS v.length), 0, 0) := by
        unfold scanOf
        rw [if_pos (by omega), e1, v3, e2]
        rfl
      refine EvTo.bind (Scan_f _) ?_
      rw [e3]
      refine EvTo.pos rfl (EvTo.pos ?_ (EvTo.pos (by omega) (EvTo.pos (by simp only [List.length_map]; omega) ?_)))
      · simp only [List.length_map, List.length_drop]
        rw [w64 _ (by omega)]
        omega
      have e4 : (ts.map (tkS s.size)).drop ((i : Int) : Int).toNat = (ts.drop i).map (tkS s.size) := by rw [Int.toNat_natCast, List.map_drop]
      rw [e4]
      refine EvTo.bind (Same_map _ _ _ _ false (by simp; omega) rfl (fun q => by cases q)) ?_
      refine EvTo.step (fun k => by rw [chrysalislaw08_LexPlaces.j3]) ?_
      refine EvTo.neg (by simp) ?_
      by_cases c : (i : Int) > 20
      · exact EvTo.pos c known_B
      · refine EvTo.neg c ?_
        rw [show wrap64 ((i : Int) + 1) = ((i + 1 : Nat) : Int) by rw [w64 _ (by omega)]; omega]
        refine ih (i + 1) _ (by omega) (fun hi2 => ?_)
        have := v5 hi2
        simp only [tkS]
        omega
    by_cases c3 : ts[i].kind = 3
    · refine EvTo.pos c3 (EvTo.pos (by simp only [tkS]; omega) (EvTo.pos (by simp only [tkS]; omega) ?_))
      obtain ⟨t, ht⟩ := htx.2 c3
      have hb : (bt s (tkS s.size ts[i]).f3 != 34) = false := by
        have hb1 := bt_L s (s.size - ts[i].rem)
        have hd := drop_getD (L s) (s.size - ts[i].rem) (by omega)
        rw [← hL] at v1
        rw [← v1, ht] at hd
        rw [← (List.cons.inj hd).1] at hb1
        simp only [tkS]
        rw [hb1]
        rfl
      rw [hb]
      exact hnext
    · refine EvTo.neg c3 ?_
      obtain ⟨t1, t2, t3⟩ := htx.1 c3
      have ex : (tkS s.size ts[i]).f1.size = ts[i].text.length := by simp only [tkS, S_size]
      have ea : (tkS s.size ts[i]).f3 = ((s.size - ts[i].rem : Nat) : Int) := rfl
      have et : L (tkS s.size ts[i]).f1 = ts[i].text := L_S _
      obtain ⟨p, hp⟩ : ∃ p, p = s.size - ts[i].rem := ⟨_, rfl⟩
      obtain ⟨q, hq⟩ : ∃ q, q = ts[i].text.length := ⟨_, rfl⟩
      have b1 : p + q ≤ s.size := by rw [hp, hq]; omega
      have b2 : 1 ≤ q := by
        rw [hq]
        rcases hz : ts[i].text with _ | ⟨u, w⟩
        · exact absurd hz t2
        · simp
      have t4 : (L s).drop p = v := by rw [v1, hp, hL]
      have t5 : v.take q = ts[i].text := by rw [hq]; exact t1
      rw [← hp] at ea
      rw [← hq] at ex
      have d1 : -9223372036854775808 ≤ (s.size : Int) - (p : Int) ∧ (s.size : Int) - (p : Int) ≤ 9223372036854775807 := by omega
      have d2 : -9223372036854775808 ≤ (p : Int) + (q : Int) ∧ (p : Int) + (q : Int) ≤ 9223372036854775807 := by omega
      have d3 : (p : Int) + (q : Int) = ((p + q : Nat) : Int) := by omega
      have d4 : ¬ (s.size : Int) - (p : Int) < (q : Int) := by omega
      have d5 : 0 ≤ (p : Int) := by omega
      have d6 : (p : Int) ≤ ((p + q : Nat) : Int) := by omega
      have d7 : ((p + q : Nat) : Int) ≤ (s.size : Int) := by omega
      have d8 : ¬ (q : Int) = 0 := by omega
      have ew : wrap64 ((p : Int) + (q : Int)) = ((p + q : Nat) : Int) := (w64 _ d2).trans d3
      have c1 : ¬ wrap64 ((s.size : Int) - (tkS s.size ts[i]).f3) < ((tkS s.size ts[i]).f1.size : Int) := by
        rw [ea, ex, w64 _ d1]; exact d4
      have c2 : 0 ≤ (tkS s.size ts[i]).f3 := by rw [ea]; exact d5
      have c4 : (tkS s.size ts[i]).f3 ≤ wrap64 ((tkS s.size ts[i]).f3 + ((tkS s.size ts[i]).f1.size : Int)) := by rw [ea, ex, ew]; exact d6
      have c5 : wrap64 ((tkS s.size ts[i]).f3 + ((tkS s.size ts[i]).f1.size : Int)) ≤ (s.size : Int) := by rw [ea, ex, ew]; exact d7
      have c6 : (s.extract ((tkS s.size ts[i]).f3 : Int).toNat ((wrap64 ((tkS s.size ts[i]).f3 + ((tkS s.size ts[i]).f1.size : Int))) : Int).toNat).toList = ((tkS s.size ts[i]).f1).toList := by
        rw [ea, ex, ew, Int.toNat_natCast, Int.toNat_natCast, L_toList, L_toList, L_cut, et, t4]
        exact t5
      have c7 : ¬ ((tkS s.size ts[i]).f1.size : Int) = 0 := by rw [ex]; exact d8
      exact EvTo.neg c1 (EvTo.pos c2 (EvTo.pos c4 (EvTo.pos c5 (EvTo.pos c6 (EvTo.neg c7 hnext)))))
theorem LexPlaces : chrysalislaw08_LexPlaces.Pure := by
  intro a0 ha
  apply EvTo.one (F := fun k => chrysalislaw08_LexPlaces.f k a0)
  unfold chrysalislaw08_LexPlaces.f
  by_cases h : (a0.size : Int) > 4000
  · exact EvTo.pos h known_B
  refine EvTo.neg h (EvTo.bind (Scan_f a0) ?_)
  have hs : scanOf a0 = scanV a0.size [] (Lex.scan (L a0)) := by unfold scanOf; rw [if_pos (by omega)]
  rw [hs]
  cases hx : Lex.scan (L a0) with
  | error e =>
    obtain ⟨e, r⟩ := e
    have := scan_err hx
    have hL := L_size a0
    refine EvTo.neg this.1 (EvTo.pos (by simp only [scanV]; omega) (EvTo.pos (by simp only [scanV]; omega) known_B))
  | ok ts =>
    refine EvTo.pos rfl ?_
    simp only [scanV, List.nil_append]
    exact places_l a0 (by omega) ts hx ts.length 0 (-1) (by omega) (fun _ => by omega)
end Go.Proofs.Ytkcnpnkcahgniaa.Pure
