/- What the document's lex computes, as the list of bytes says it: a token, and Scan. -/
import Derived.Test.YtkcnpnkcahgniaaLexRef2
import Derived.Test.YtkcnpnkcahgniaaQ11
set_option linter.unusedVariables false
set_option linter.unusedSimpArgs false
namespace Go.Proofs.Ytkcnpnkcahgniaa.Lex
open Go Go.RowKit Go.Proofs.YtkcnpnkcahgniaaW.PrintWords Go.Proofs.Ytkcnpnkcahgniaa.Q

theorem prefix_n (n : Nat) (w l : List UInt8) (h : w.length = n) : w.isPrefixOf l = (l.take n == w) := by
  rw [Bool.eq_iff_iff, prefix_take, beq_iff_eq, h]
  constructor
  · exact fun q => q.2
  · intro q
    refine ⟨?_, q⟩
    have := congrArg List.length q
    rw [List.length_take, h] at this
    omega
theorem find_n (n : Nat) (l : List UInt8) : ∀ P : List (List UInt8), (∀ w ∈ P, w.length = n) → P.find? (fun w => w.isPrefixOf l) = if P.contains (l.take n) = true then some (l.take n) else none
  | [], _ => by simp
  | w :: P, h => by
    rw [List.find?_cons, prefix_n n w l (h w (by simp)), List.contains_cons, find_n n l P (fun x hx => h x (by simp [hx]))]
    by_cases c : l.take n = w
    · rw [show (l.take n == w) = true from beq_iff_eq.2 c]
      simp [c]
    · rw [show (l.take n == w) = false from beq_eq_false_iff_ne.2 c]
      simp
theorem singles_in (c : UInt8) : ∀ l : List UInt8, (l.map fun d => [d]).contains [c] = l.contains c
  | [] => rfl
  | d :: l => by
    rw [List.map_cons, List.contains_cons, List.contains_cons, singles_in c l]
    congr 1
    rw [Bool.eq_iff_iff, beq_iff_eq, beq_iff_eq]
    simp
theorem mark_find (l : List UInt8) : (match (PAIRS ++ SINGLES.map fun c => [c]).find? (fun w => w.isPrefixOf l) with | some w => w.length | none => 0) = (Lex.mark l).length := by
  rw [List.find?_append, find_n 2 l PAIRS (by decide), find_n 1 l (SINGLES.map fun c => [c]) (by decide)]
  unfold Lex.mark
  by_cases h : PAIRS.contains (l.take 2) = true
  · rw [if_pos h, if_pos h]; rfl
  · rw [if_neg h, if_neg h]
    cases l with
    | nil =>
      rfl
    | cons c t =>
      have e : (SINGLES.map fun c => [c]).contains ((c :: t).take 1) = SINGLES.contains c := singles_in c SINGLES
      rw [e]
      show _ = (if SINGLES.contains c = true then [c] else []).length
      by_cases h2 : SINGLES.contains c = true
      · rw [if_pos h2, if_pos h2]; rfl
      · rw [if_neg h2, if_neg h2]; rfl
theorem rmark_f (s : ByteArray) (hs : s.size ≤ 140737488351232) (at' : Nat) (ha : at' ≤ s.size) : EvTo (fun k => chrysalisref08_mark.f k s (at' : Int)) (((Lex.mark ((L s).drop at')).length : Nat) : Int) := by
  unfold chrysalisref08_mark.f
  rw [← mark_find]
  exact rmark_l s hs at' ha _ (by simp) (by decide) 20 0 (by simp)

/-! one -/
def roneV (at' : Nat) : Except Int (Int × List UInt8 × Int × Nat) → Int × ByteArray × Int × Int × Int × Int
  | .ok (k, x, n, m) => (k, S x, n, (at' : Int), (m : Int), 0)
  | .error e => (0, (⟨#[]⟩ : ByteArray), 0, 0, 0, e)
theorem cut_S (s : ByteArray) (p n : Nat) (x : List UInt8) (h : ((L s).drop p).take n = x) : s.extract p (p + n) = S x := L_inj (by rw [L_cut, h, L_S])
theorem rdig_l (s : ByteArray) (hs : s.size ≤ 140737488351232) (p : Nat) (d : List UInt8) (hd0 : ((L s).drop p).takeWhile di = d) : ∀ (m n : Nat), s.size = m + (p + n) → n + (((L s).drop (p + n)).takeWhile di).length = d.length →
    EvTo (fun k => chrysalisref08_one.l0 k s (p : Int) (n : Int)) (roneV p (if (numOf d).2 then .ok (2, d, (numOf d).1, d.length) else .error 10)) := by
  have hend : ∀ n, p + n ≤ s.size → n = d.length → EvTo (fun k => (chrysalisref08_number.f k (s.extract p (p + n))).bind fun (bt231 : Int × Bool) => (if bt231.2 = true then (some ((2 : Int), s.extract p (p + n), bt231.1, (p : Int), (n : Int), (0 : Int))) else (some ((0 : Int), (⟨#[]⟩ : ByteArray), (0 : Int), (0 : Int), (0 : Int), (10 : Int))))) (roneV p (if (numOf d).2 then .ok (2, d, (numOf d).1, d.length) else .error 10)) := by
    intro n hn e
    subst e
    have e1 : s.extract p (p + d.length) = S d := cut_S s p _ d (by rw [← hd0]; exact take_takeWhile di _)
    rw [e1]
    refine EvTo.bind (rnumber_f _ (by rw [S_size]; omega)) ?_
    rw [L_S]
    by_cases c : (numOf d).2 = true
    · refine EvTo.pos c ?_
      rw [if_pos c]
      exact EvTo.now
    · refine EvTo.neg c ?_
      rw [if_neg c]
      exact EvTo.now
  intro m
  induction m with
  | zero =>
    intro n h1 h2
    have hnil : (L s).drop (p + n) = [] := List.drop_eq_nil_of_le (by rw [← L_size]; omega)
    rw [hnil] at h2
    simp only [List.takeWhile_nil, List.length_nil, Nat.add_zero] at h2
    have hw : wrap64 ((p : Int) + (n : Int)) = ((p + n : Nat) : Int) := by rw [w64 _ (by omega)]; omega
    refine EvTo.step (fun k => by rw [chrysalisref08_one.l0]) ?_
    simp only [hw, Int.toNat_natCast]
    exact EvTo.neg (by omega) (EvTo.pos (by omega) (EvTo.pos (by omega) (EvTo.pos (by omega) (hend n (by omega) h2))))
  | succ m ih =>
    intro n h1 h2
    have hd := drop_getD (L s) (p + n) (by rw [← L_size]; omega)
    have hb := bt_L s (p + n)
    generalize (L s).getD (p + n) 0 = c at hd hb
    have hw : wrap64 ((p : Int) + (n : Int)) = ((p + n : Nat) : Int) := by rw [w64 _ (by omega)]; omega
    refine EvTo.step (fun k => by rw [chrysalisref08_one.l0]) ?_
    simp only [hw, hb, rdigit_f, Option.bind_some, Int.toNat_natCast]
    refine EvTo.pos (by omega) (EvTo.pos (by omega) ?_)
    rw [hd, List.takeWhile_cons] at h2
    by_cases c1 : di c = true
    · refine EvTo.pos c1 ?_
      rw [if_pos c1, List.length_cons] at h2
      rw [inc n 0 (by omega)]
      exact ih (n + 1) (by omega) (by rw [show p + (n + 1) = p + n + 1 by omega]; omega)
    · refine EvTo.neg c1 ?_
      rw [if_neg c1, List.length_nil, Nat.add_zero] at h2
      exact EvTo.pos (by omega) (EvTo.pos (by omega) (EvTo.pos (by omega) (hend n (by omega) h2)))
theorem rone_f (s : ByteArray) (hs : s.size ≤ 140737488351232) (p : Nat) (hp : p < s.size) : EvTo (fun k => chrysalisref08_one.f k s (p : Int)) (roneV p (Lex.one ((L s).drop p))) := by
  have hd := drop_getD (L s) p (by rw [← L_size]; omega)
  have hb := bt_L s p
  generalize (L s).getD p 0 = c at hd hb
  generalize ht : (L s).drop (p + 1) = t at hd
  have hlen : (c :: t).length = s.size - p := by rw [← hd, List.length_drop, ← L_size]
  have hwr : ∀ n, n ≤ (c :: t).length → wrap64 ((p : Int) + (n : Int)) = ((p + n : Nat) : Int) := fun n hn => by rw [w64 _ (by omega)]; omega
  unfold chrysalisref08_one.f
  refine EvTo.pos (by omega) (EvTo.pos (by omega) ?_)
  simp only [hb, rletter_f, rdigit_f, Option.bind_some]
  rw [hd]
  simp only [Lex.one]
  by_cases c1 : le c = true
  · refine EvTo.pos c1 (EvTo.bind (rword_f s hs p (by omega)) ?_)
    have hw : wordN ((L s).drop p) = ((c :: t).takeWhile inn).length := by rw [hd]; simp only [wordN, c1, if_true]
    rw [hw, if_pos c1]
    have hle := takeWhile_len inn (c :: t)
    have hcut : s.extract p (p + ((c :: t).takeWhile inn).length) = S ((c :: t).takeWhile inn) := cut_S s p _ _ (by rw [hd]; exact take_takeWhile inn _)
    simp only [hwr _ hle, Int.toNat_natCast, hcut]
    refine EvTo.pos (by omega) (EvTo.pos (by omega) (EvTo.bind (rKey_f _) ?_))
    rw [L_S]
    by_cases c2 : isKey ((c :: t).takeWhile inn) = true
    · refine EvTo.pos c2 ?_
      rw [if_pos c2]
      exact EvTo.now
    · refine EvTo.neg c2 ?_
      rw [if_neg c2]
      by_cases c3 : ((c :: t).takeWhile inn).length ≤ 16
      · refine EvTo.neg (by omega) ?_
        rw [if_pos c3]
        exact EvTo.now
      · refine EvTo.pos (by omega) ?_
        rw [if_neg c3]
        exact EvTo.now
  · refine EvTo.neg c1 ?_
    rw [if_neg c1]
    by_cases c2 : di c = true
    · refine EvTo.pos c2 ?_
      rw [if_pos c2]
      exact rdig_l s hs p _ (by rw [hd]) (s.size - p) 0 (by omega) (by rw [Nat.add_zero, hd]; omega)
    · refine EvTo.neg c2 ?_
      rw [if_neg c2]
      have e1 : ((c.toNat : Int) = 34) ↔ c = 34 := u8_iff c 34
      by_cases c3 : c = 34
      · refine EvTo.pos (e1.2 c3) (EvTo.bind (runq_f s hs p hp) ?_)
        rw [if_pos c3, ht]
        cases hu : unq false t with
        | none =>
          refine EvTo.pos rfl ?_
          exact EvTo.now
        | some r =>
          obtain ⟨x, r⟩ := r
          have := unq_len t false x r hu
          simp only [List.length_cons] at hlen
          have e2 : s.size - r.length - p = (c :: t).length - r.length := by simp only [List.length_cons]; omega
          simp only [unqV, List.nil_append, e2]
          refine EvTo.neg (by simp only [List.length_cons]; omega) ?_
          exact EvTo.now
      · refine EvTo.neg (fun h => c3 (e1.1 h)) (EvTo.bind (rmark_f s hs p (by omega)) ?_)
        rw [if_neg c3, hd]
        have hml := mark_len (c :: t)
        by_cases c4 : Lex.mark (c :: t) = []
        · refine EvTo.pos (by rw [c4]; rfl) ?_
          rw [if_pos c4]
          exact EvTo.now
        · have hpos : 1 ≤ (Lex.mark (c :: t)).length := by
            rcases hz : Lex.mark (c :: t) with _ | ⟨a, b⟩
            · exact absurd hz c4
            · simp
          have hcut : s.extract p (p + (Lex.mark (c :: t)).length) = S (Lex.mark (c :: t)) := cut_S s p _ _ (by rw [hd]; exact mark_take _)
          simp only [hwr _ hml, Int.toNat_natCast, hcut]
          refine EvTo.neg (by omega) (EvTo.pos (by omega) (EvTo.pos (by omega) ?_))
          rw [if_neg c4]
          exact EvTo.now

/-! Scan -/
theorem rscan_l (s : ByteArray) (h0 : s.size ≤ 8192) : ∀ (f p : Nat) (acc : List S29), s.size - p < f → p ≤ s.size → acc.length ≤ p →
    EvTo (fun k => chrysalisref08_Scan.l0 k s acc (p : Int)) (scanV s.size acc (toks f ((L s).drop p))) := by
  intro f
  induction f with
  | zero => intro p acc h; omega
  | succ f ih =>
    intro p acc h1 h2 h3
    have hlen : ((L s).drop p).length = s.size - p := by rw [List.length_drop, ← L_size]
    refine EvTo.step (fun k => by rw [chrysalisref08_Scan.l0]) ?_
    rcases hl : (L s).drop p with _ | ⟨c, t⟩
    · rw [hl] at hlen
      simp only [List.length_nil] at hlen
      refine EvTo.neg (by omega) (EvTo.of_eq (fun k => ?_))
      simp [toks, scanV]
    · rw [hl] at hlen
      simp only [List.length_cons] at hlen
      refine EvTo.pos (by omega) (EvTo.bind (rone_f s (by omega) p (by omega)) ?_)
      rw [hl]
      simp only [toks]
      cases ho : Lex.one (c :: t) with
      | error e =>
        simp only [roneV]
        refine EvTo.neg (Lex_one_err ho (by simp)) (EvTo.of_eq (fun k => ?_))
        simp only [scanV, List.length_cons]
        congr 3
        omega
      | ok r =>
        obtain ⟨kd, x, n, m⟩ := r
        have hm := one_len ho
        simp only [List.length_cons] at hm
        simp only [roneV]
        have hw : wrap64 ((p : Int) + (m : Int)) = ((p + m : Nat) : Int) := by rw [w64 _ (by omega)]; omega
        simp only [hw]
        refine EvTo.pos trivial (EvTo.pos (by omega) (EvTo.bind (rskip_f s (by omega) (p + m) (by omega)) ?_))
        have e1 : (L s).drop (p + m) = (c :: t).drop m := by rw [← hl, List.drop_drop]
        rw [e1]
        have hsl := skp_len ((c :: t).drop m) false
        simp only [List.length_drop, List.length_cons] at hsl
        have hsuf : skp false ((c :: t).drop m) <:+ L s := (skp_suffix _ _).trans (by rw [← e1]; exact List.drop_suffix _ _)
        have e2 : (L s).drop (s.size - (skp false ((c :: t).drop m)).length) = skp false ((c :: t).drop m) := by
          have := List.suffix_iff_eq_drop.1 hsuf
          rw [← L_size] at this
          exact this.symm
        have := ih (s.size - (skp false ((c :: t).drop m)).length) (acc ++ [(⟨kd, S x, n, (p : Int)⟩ : S29)]) (by omega) (by omega) (by simp only [List.length_append, List.length_cons, List.length_nil]; omega)
        rw [e2] at this
        have e4 : (p : Int) = ((s.size - (c :: t).length : Nat) : Int) := by simp only [List.length_cons]; omega
        rw [e4] at this ⊢
        generalize toks f (skp false ((c :: t).drop m)) = o at this ⊢
        cases o with
        | error e => exact this
        | ok ts => simpa only [scanV, List.map_cons, tkS, List.append_assoc, List.singleton_append] using this
theorem rScan_f (s : ByteArray) : EvTo (fun k => chrysalisref08_Scan.f k s) (scanOf s) := by
  unfold chrysalisref08_Scan.f scanOf
  by_cases h : s.size ≤ 8192
  · refine EvTo.neg (by omega) ?_
    rw [if_pos h]
    have hz := rskip_f s (by omega) 0 (by omega)
    refine EvTo.bind hz ?_
    rw [List.drop_zero]
    have hl := skp_len (L s) false
    have hsuf := List.suffix_iff_eq_drop.1 (skp_suffix (L s) false)
    have := rscan_l s h (s.size + 1) (s.size - (skp false (L s)).length) [] (by omega) (by omega) (by simp)
    rw [← L_size] at hsuf
    rw [← hsuf] at this
    unfold Lex.scan
    rw [← L_size]
    exact this
  · refine EvTo.pos (by omega) ?_
    rw [if_neg h]
    exact EvTo.now
end Go.Proofs.Ytkcnpnkcahgniaa.Lex
