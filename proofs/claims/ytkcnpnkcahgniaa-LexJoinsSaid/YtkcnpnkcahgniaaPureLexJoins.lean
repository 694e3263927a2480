/- The plain law of LexJoins. -/
import Derived.Test.YtkcnpnkcahgniaaQ16
import Derived.Test.YtkcnpnkcahgniaaLexSame
set_option linter.unusedVariables false
set_option linter.unusedSimpArgs false
namespace Go.Proofs.Ytkcnpnkcahgniaa.Pure
open Go Go.RowKit Go.Proofs.YtkcnpnkcahgniaaW.PrintWords Go.Proofs.Ytkcnpnkcahgniaa.Q Go.Proofs.Ytkcnpnkcahgniaa.Lex

theorem skp_join (m : List UInt8) : ∀ (l : List UInt8) (b : Bool), skp b (l ++ 10 :: m) = if skp b l = [] then skp false m else skp b l ++ 10 :: m
  | [], b => by cases b <;> simp [skp, bl]
  | c :: t, false => by
    by_cases h : bl c = true
    · have e1 : skp false (c :: t) = skp false t := by simp [skp, h]
      have e2 : skp false (c :: t ++ 10 :: m) = skp false (t ++ 10 :: m) := by simp [skp, h]
      rw [e1, e2, skp_join m t false]
    · by_cases h2 : c = 35
      · have e1 : skp false (c :: t) = skp true t := by simp [skp, h, h2]; intro q; rw [h2] at h; exact absurd q h
        have e2 : skp false (c :: t ++ 10 :: m) = skp true (t ++ 10 :: m) := by simp [skp, h, h2]; intro q; rw [h2] at h; exact absurd q h
        rw [e1, e2, skp_join m t true]
      · have e1 : skp false (c :: t) = c :: t := by simp [skp, h, h2]
        have e2 : skp false (c :: t ++ 10 :: m) = c :: t ++ 10 :: m := by simp [skp, h, h2]
        rw [e1, e2, if_neg (by simp)]
  | c :: t, true => by
    by_cases h : c = 10
    · have e1 : skp true (c :: t) = skp false t := by simp [skp, h]
      have e2 : skp true (c :: t ++ 10 :: m) = skp false (t ++ 10 :: m) := by simp [skp, h]
      rw [e1, e2, skp_join m t false]
    · have e1 : skp true (c :: t) = skp true t := by simp [skp, h]
      have e2 : skp true (c :: t ++ 10 :: m) = skp true (t ++ 10 :: m) := by simp [skp, h]
      rw [e1, e2, skp_join m t true]
theorem takeWhile_join (q : UInt8 → Bool) (hq : q 10 = false) (m : List UInt8) : ∀ l : List UInt8, (l ++ 10 :: m).takeWhile q = l.takeWhile q
  | [] => by simp [List.takeWhile_cons, hq]
  | c :: t => by
    rw [List.cons_append, List.takeWhile_cons, List.takeWhile_cons, takeWhile_join q hq m t]
theorem unq_join (m : List UInt8) : ∀ (l : List UInt8) (b : Bool) (x r : List UInt8), unq b l = some (x, r) → unq b (l ++ 10 :: m) = some (x, r ++ 10 :: m)
  | [], b, x, r, h => by cases b <;> simp [unq] at h
  | c :: t, true, x, r, h => by
    simp only [List.cons_append, unq] at h ⊢
    split at h
    · cases h
    · rename_i y he
      simp only [Option.map_eq_some_iff, Prod.mk.injEq] at h ⊢
      obtain ⟨⟨u, v⟩, h1, h2, h3⟩ := h
      refine ⟨(u, v ++ 10 :: m), ?_, h2, by rw [← h3]⟩
      exact unq_join m t false u v h1
  | c :: t, false, x, r, h => by
    simp only [List.cons_append, unq] at h ⊢
    by_cases c1 : c = 34
    · rw [if_pos c1] at h ⊢
      simp only [Option.some.injEq, Prod.mk.injEq] at h ⊢
      exact ⟨h.1, by rw [h.2]⟩
    · rw [if_neg c1] at h ⊢
      by_cases c2 : c = 10
      · rw [if_pos c2] at h; cases h
      · rw [if_neg c2] at h ⊢
        by_cases c3 : c = 92
        · rw [if_pos c3] at h ⊢
          exact unq_join m t true x r h
        · rw [if_neg c3] at h ⊢
          simp only [Option.map_eq_some_iff, Prod.mk.injEq] at h ⊢
          obtain ⟨⟨u, v⟩, h1, h2, h3⟩ := h
          exact ⟨(u, v ++ 10 :: m), unq_join m t false u v h1, h2, by rw [← h3]⟩
theorem mark_join (m : List UInt8) (c : UInt8) (t : List UInt8) : Lex.mark (c :: t ++ 10 :: m) = Lex.mark (c :: t) := by
  unfold Lex.mark
  cases t with
  | nil =>
    have e1 : PAIRS.contains [c, 10] = false := by simp [PAIRS]
    have e2 : PAIRS.contains [c] = false := by simp [PAIRS]
    show (if PAIRS.contains [c, 10] = true then [c, 10] else if SINGLES.contains c = true then [c] else []) = (if PAIRS.contains [c] = true then [c] else if SINGLES.contains c = true then [c] else [])
    rw [e1, e2]
    rfl
  | cons d u => simp
theorem one_join (m : List UInt8) {l : List UInt8} {k : Int} {x : List UInt8} {n : Int} {j : Nat} (h : Lex.one l = .ok (k, x, n, j)) : Lex.one (l ++ 10 :: m) = .ok (k, x, n, j) := by
  cases l with
  | nil => cases h
  | cons c t =>
    rw [← h, List.cons_append]
    simp only [Lex.one]
    have w1 := takeWhile_join inn (by decide) m (c :: t)
    have w2 := takeWhile_join di (by decide) m (c :: t)
    rw [List.cons_append] at w1 w2
    rw [w1, w2]
    have w3 := mark_join m c t
    rw [List.cons_append] at w3
    rw [w3]
    by_cases c1 : le c = true
    · rw [if_pos c1, if_pos c1]
    · rw [if_neg c1, if_neg c1]
      by_cases c2 : di c = true
      · rw [if_pos c2, if_pos c2]
      · rw [if_neg c2, if_neg c2]
        by_cases c3 : c = 34
        · rw [if_pos c3, if_pos c3]
          simp only [Lex.one] at h
          rw [if_neg c1, if_neg c2, if_pos c3] at h
          cases hu : unq false t with
          | none => rw [hu] at h; cases h
          | some r =>
            obtain ⟨y, r⟩ := r
            rw [unq_join m t false y r hu]
            have := unq_len t false y r hu
            simp only [List.length_cons, List.length_append, Except.ok.injEq, Prod.mk.injEq, true_and]
            omega
        · rw [if_neg c3, if_neg c3]
def up (d : Nat) (t : Tk) : Tk := ⟨t.kind, t.text, t.n, t.rem + d⟩
theorem toks_join (m : List UInt8) (ys : List Tk) (hm : Lex.scan m = .ok ys) : ∀ (f g : Nat) (l : List UInt8) (xs : List Tk), l.length < f → l.length + m.length + 1 < g → l ≠ [] → toks f l = .ok xs →
    toks g (l ++ 10 :: m) = .ok (xs.map (up (m.length + 1)) ++ ys)
  | 0, _, l, _, h, _, _, _ => by omega
  | _ + 1, 0, l, _, _, h, _, _ => by omega
  | f + 1, g + 1, [], xs, _, _, h, _ => absurd rfl h
  | f + 1, g + 1, c :: t, xs, hf, hg, _, h => by
    simp only [List.length_cons] at hf hg
    simp only [toks] at h
    split at h
    · cases h
    · rename_i k x n j ho
      split at h
      · cases h
      · rename_i us hu
        simp only [Except.ok.injEq] at h
        subst h
        have hj := one_len ho
        simp only [List.length_cons] at hj
        have ho2 := one_join m ho
        rw [List.cons_append] at ho2 ⊢
        simp only [toks, ho2]
        have hd : List.drop j (c :: (t ++ 10 :: m)) = List.drop j (c :: t) ++ 10 :: m := by
          rw [← List.cons_append, List.drop_append_of_le_length (by simp only [List.length_cons]; omega)]
        rw [hd, skp_join]
        have hsl := skp_len ((c :: t).drop j) false
        simp only [List.length_drop, List.length_cons] at hsl
        have hl1 : (c :: (t ++ 10 :: m)).length = (c :: t).length + (m.length + 1) := by simp; omega
        by_cases he : skp false ((c :: t).drop j) = []
        · rw [if_pos he]
          rw [he] at hu
          have hus : us = [] := by
            cases f with
            | zero => simp [toks] at hu; exact hu
            | succ f => simp [toks] at hu; exact hu
          have hms := skp_len m false
          have : toks g (skp false m) = .ok ys := by
            rw [← hm]
            exact toks_fuel g (m.length + 1) _ (by omega) (by omega)
          rw [this]
          simp only [hus, List.map_cons, List.map_nil, List.nil_append, List.cons_append, up, hl1]
        · rw [if_neg he]
          rw [toks_join m ys hm f g _ us (by omega) (by omega) he hu]
          simp only [List.map_cons, List.cons_append, up, hl1]
theorem scan_join {l m : List UInt8} {xs ys : List Tk} (hl : Lex.scan l = .ok xs) (hm : Lex.scan m = .ok ys) : Lex.scan (l ++ 10 :: m) = .ok (xs.map (up (m.length + 1)) ++ ys) := by
  unfold Lex.scan at hl ⊢
  have h1 := skp_len l false
  have h2 := skp_len m false
  rw [skp_join]
  by_cases he : skp false l = []
  · rw [if_pos he]
    rw [he] at hl
    have hxs : xs = [] := by simpa [toks] using hl.symm
    subst hxs
    rw [List.map_nil, List.nil_append, ← hm]
    exact toks_fuel _ _ _ (by simp; omega) (by omega)
  · rw [if_neg he]
    exact toks_join m ys hm _ _ _ xs (by omega) (by simp; omega) he hl
theorem toks_count : ∀ (f : Nat) (l : List UInt8) (ts : List Tk), toks f l = .ok ts → ts.length ≤ l.length ∧ ∀ t ∈ ts, t.rem ≤ l.length
  | 0, l, ts, h => by
    simp only [toks, Except.ok.injEq] at h
    subst h
    exact ⟨by simp, fun t ht => by cases ht⟩
  | f + 1, [], ts, h => by
    simp only [toks, Except.ok.injEq] at h
    subst h
    exact ⟨by simp, fun t ht => by cases ht⟩
  | f + 1, c :: u, ts, h => by
    simp only [toks] at h
    split at h
    · cases h
    · rename_i k x n j ho
      split at h
      · cases h
      · rename_i us hu
        simp only [Except.ok.injEq] at h
        subst h
        have hj := one_len ho
        have hs := skp_len ((c :: u).drop j) false
        rw [List.length_drop] at hs
        obtain ⟨h1, h2⟩ := toks_count f _ us hu
        refine ⟨by simp only [List.length_cons] at *; omega, fun t ht => ?_⟩
        rcases List.mem_cons.1 ht with rfl | ht
        · exact Nat.le_refl _
        · have := h2 t ht; omega
theorem scan_count {l : List UInt8} {ts : List Tk} (h : Lex.scan l = .ok ts) : ts.length ≤ l.length ∧ ∀ t ∈ ts, t.rem ≤ l.length := by
  have h1 := toks_count _ _ _ h
  have h2 := skp_len l false
  exact ⟨by omega, fun t ht => by have := h1.2 t ht; omega⟩
theorem LexJoins : chrysalislaw08_LexJoins.Pure := by
  intro a0 a1 ha hb
  apply EvTo.one (F := fun k => chrysalislaw08_LexJoins.f k a0 a1)
  have hyes : EvTo (fun k => chrysalislaw08_LexJoins.j0 k a0 a1 true) true := by
    refine EvTo.step (fun k => by rw [chrysalislaw08_LexJoins.j0]) (EvTo.pos rfl known_B)
  unfold chrysalislaw08_LexJoins.f
  by_cases h : (a0.size : Int) > 2000
  · exact EvTo.pos h hyes
  refine EvTo.neg h ?_
  by_cases h2 : (a1.size : Int) > 2000
  · rw [decide_eq_true h2]; exact hyes
  rw [decide_eq_false h2]
  have z1 : (⟨#[10]⟩ : ByteArray).size = 1 := rfl
  refine EvTo.step (fun k => by rw [chrysalislaw08_LexJoins.j0]) ?_
  refine EvTo.neg (by simp) (EvTo.bind (Scan_f a0) (EvTo.bind (Scan_f a1) (EvTo.pos (by omega) (EvTo.pos (by rw [ByteArray.size_append]; omega) (EvTo.bind (Scan_f _) ?_)))))
  have hsa : scanOf a0 = scanV a0.size [] (Lex.scan (L a0)) := by unfold scanOf; rw [if_pos (by omega)]
  have hsb : scanOf a1 = scanV a1.size [] (Lex.scan (L a1)) := by unfold scanOf; rw [if_pos (by omega)]
  have hz : ((a0 ++ (⟨#[10]⟩ : ByteArray)) ++ a1).size = a0.size + (a1.size + 1) := by rw [ByteArray.size_append, ByteArray.size_append, z1]; omega
  have hsc : scanOf ((a0 ++ (⟨#[10]⟩ : ByteArray)) ++ a1) = scanV (a0.size + (a1.size + 1)) [] (Lex.scan (L a0 ++ 10 :: L a1)) := by
    unfold scanOf
    rw [if_pos (by omega), hz]
    congr 2
    rw [L_append, L_append]
    simp [L]
  rw [hsa, hsb, hsc]
  have hskip : ∀ (x y z : List S29) (e : Int), EvTo (fun k => chrysalislaw08_LexJoins.j1 k x y z e true) true := fun x y z e => by
    refine EvTo.step (fun k => by rw [chrysalislaw08_LexJoins.j1]) (EvTo.pos rfl known_B)
  cases hx : Lex.scan (L a0) with
  | error e =>
    obtain ⟨e, r⟩ := e
    exact EvTo.neg (scan_err hx).1 (hskip _ _ _ _)
  | ok xs =>
    refine EvTo.pos rfl ?_
    cases hy : Lex.scan (L a1) with
    | error e =>
      obtain ⟨e, r⟩ := e
      have : ((scanV a1.size [] (Except.error (e, r))).2.1 != 0) = true := bne_iff_ne.2 (scan_err hy).1
      rw [this]
      exact hskip _ _ _ _
    | ok ys =>
      have : ((scanV a1.size [] (Except.ok ys)).2.1 != 0) = false := rfl
      rw [this, scan_join hx hy]
      have cx := scan_count hx
      have cy := scan_count hy
      rw [← L_size] at cx cy
      refine EvTo.step (fun k => by rw [chrysalislaw08_LexJoins.j1]) ?_
      refine EvTo.neg (by simp) (EvTo.pos rfl ?_)
      simp only [scanV, List.nil_append]
      have hb2 : (((List.map (tkS (a0.size + (a1.size + 1))) (List.map (up ((L a1).length + 1)) xs ++ ys)).length : Int) != wrap64 (((List.map (tkS a0.size) xs).length : Int) + ((List.map (tkS a1.size) ys).length : Int))) = false := by
        rw [w64 _ (by simp only [List.length_map]; omega)]
        simp
      rw [hb2]
      have e1 : (List.map (tkS (a0.size + (a1.size + 1))) (List.map (up ((L a1).length + 1)) xs ++ ys)).take (((List.map (tkS a0.size) xs).length : Int) : Int).toNat = (List.map (up ((L a1).length + 1)) xs).map (tkS (a0.size + (a1.size + 1))) := by
        rw [Int.toNat_natCast, List.map_append, List.take_left' (by simp)]
      have e2 : (List.map (tkS (a0.size + (a1.size + 1))) (List.map (up ((L a1).length + 1)) xs ++ ys)).drop (((List.map (tkS a0.size) xs).length : Int) : Int).toNat = ys.map (tkS (a0.size + (a1.size + 1))) := by
        rw [Int.toNat_natCast, List.map_append, List.drop_left' (by simp)]
      refine EvTo.step (fun k => by rw [chrysalislaw08_LexJoins.j2]) ?_
      refine EvTo.neg (by simp) (EvTo.pos (by omega) (EvTo.pos (by simp only [List.length_map, List.length_append]; omega) ?_))
      rw [e1, e2]
      refine EvTo.bind (Same_map _ xs _ _ true (by simp; omega) (by simp [up, Function.comp_def]) (fun _ => ?_)) (EvTo.pos rfl (EvTo.bind (Same_map ys ys _ _ false (by omega) rfl (fun q => by cases q)) (EvTo.pos rfl known_B)))
      rw [List.map_map]
      apply List.map_congr_left
      intro t ht
      have := cx.2 t ht
      simp only [up, Function.comp]
      rw [← L_size]
      omega
end Go.Proofs.Ytkcnpnkcahgniaa.Pure
