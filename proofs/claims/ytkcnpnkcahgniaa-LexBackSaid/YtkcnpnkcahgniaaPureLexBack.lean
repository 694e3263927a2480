/- The plain law of LexBack. -/
import Derived.Test.YtkcnpnkcahgniaaQ21
import Derived.Test.YtkcnpnkcahgniaaLexText
import Derived.Test.YtkcnpnkcahgniaaLexPlace
set_option linter.unusedVariables false
set_option linter.unusedSimpArgs false
namespace Go.Proofs.Ytkcnpnkcahgniaa.Pure
open Go Go.RowKit Go.Proofs.YtkcnpnkcahgniaaW.PrintWords Go.Proofs.Ytkcnpnkcahgniaa.Q Go.Proofs.Ytkcnpnkcahgniaa.Lex

theorem unq_back : ∀ (s r : List UInt8), unq false (s.flatMap quo1 ++ 34 :: r) = some (s, r)
  | [], r => by simp [unq]
  | c :: s, r => by
    rw [List.flatMap_cons, List.append_assoc]
    have ih := unq_back s r
    by_cases c1 : c = 10
    · rw [show quo1 c = [92, 110] by simp [quo1, c1], c1]
      simp [unq, esc, ih]
    · by_cases c2 : c = 34
      · rw [show quo1 c = [92, 34] by simp [quo1, c2], c2]
        simp [unq, esc, ih]
      · by_cases c3 : c = 92
        · rw [show quo1 c = [92, 92] by simp [quo1, c3], c3]
          simp [unq, esc, ih]
        · rw [show quo1 c = [c] by simp [quo1, c1, c2, c3]]
          simp [unq, c1, c2, c3, ih]
theorem esc_quo {c x : UInt8} (h : esc c = some x) : (quo1 x).length = 2 := by
  unfold esc at h
  split at h
  · cases h; rfl
  · split at h
    · cases h; rfl
    · split at h
      · cases h; rfl
      · cases h
theorem unq_count : ∀ (t : List UInt8) (b : Bool) (x r : List UInt8), unq b t = some (x, r) → t.length + (if b then 1 else 0) = (x.flatMap quo1).length + 1 + r.length
  | [], b, x, r, h => by cases b <;> simp [unq] at h
  | c :: t, true, x, r, h => by
    simp only [unq] at h
    split at h
    · cases h
    · rename_i y he
      simp only [Option.map_eq_some_iff, Prod.mk.injEq] at h
      obtain ⟨⟨u, v⟩, h1, rfl, rfl⟩ := h
      have := unq_count t false u v h1
      have e := esc_quo he
      simp only [List.flatMap_cons, List.length_append, List.length_cons, if_true, Bool.false_eq_true, if_false] at this ⊢
      omega
  | c :: t, false, x, r, h => by
    simp only [unq] at h
    by_cases c1 : c = 34
    · rw [if_pos c1] at h
      simp only [Option.some.injEq, Prod.mk.injEq] at h
      obtain ⟨rfl, rfl⟩ := h
      simp only [List.flatMap_nil, List.length_nil, List.length_cons, Bool.false_eq_true, if_false]
      omega
    · rw [if_neg c1] at h
      by_cases c2 : c = 10
      · rw [if_pos c2] at h; cases h
      · rw [if_neg c2] at h
        by_cases c3 : c = 92
        · rw [if_pos c3] at h
          have := unq_count t true x r h
          simp only [List.length_cons, if_true, Bool.false_eq_true, if_false] at this ⊢
          omega
        · rw [if_neg c3] at h
          simp only [Option.map_eq_some_iff, Prod.mk.injEq] at h
          obtain ⟨⟨u, v⟩, h1, rfl, rfl⟩ := h
          have := unq_count t false u v h1
          have e : quo1 c = [c] := by simp [quo1, c1, c2, c3]
          simp only [List.flatMap_cons, e, List.length_append, List.length_cons, List.length_nil, Bool.false_eq_true, if_false] at this ⊢
          omega
/-- A token as it is written. -/
def wrt (k : Int) (x : List UInt8) : List UInt8 := if k = 3 then quo x else x
theorem takeWhile_end (q : UInt8 → Bool) (r : List UInt8) (hr : ∀ c u, r = c :: u → q c = false) : ∀ w : List UInt8, w.all q = true → (w ++ r).takeWhile q = w
  | [], _ => by
    cases r with
    | nil => rfl
    | cons c u => rw [List.nil_append, List.takeWhile_cons, if_neg (by rw [hr c u rfl]; simp)]
  | a :: w, h => by
    simp only [List.all_cons, Bool.and_eq_true] at h
    rw [List.cons_append, List.takeWhile_cons, if_pos h.1, takeWhile_end q r hr w h.2]
/-- A token that is written, with a blank or nothing behind it, is the same token; it has as many bytes as it had; no blank nor remark stands first. -/
theorem one_again {v : List UInt8} {k : Int} {x : List UInt8} {n : Int} {m : Nat} (h : Lex.one v = .ok (k, x, n, m)) : (wrt k x).length = m ∧ ∀ r, (∀ c u, r = c :: u → c = 32) → Lex.one (wrt k x ++ r) = .ok (k, x, n, m) ∧ skp false (wrt k x ++ r) = wrt k x ++ r := by
  cases v with
  | nil => cases h
  | cons c t =>
    have hm := one_len h
    simp only [Lex.one] at h
    have tw : ∀ q : UInt8 → Bool, q c = true → (c :: t).takeWhile q = c :: t.takeWhile q := fun q hq => by rw [List.takeWhile_cons, if_pos hq]
    have ta : ∀ q : UInt8 → Bool, ((c :: t).takeWhile q).all q = true := fun q => all_takeWhile q _
    by_cases c1 : le c = true
    · rw [if_pos c1] at h
      have hi := tw inn (le_inn c1)
      have ha := ta inn
      have hs : ∀ u, skp false (c :: u) = c :: u := fun u => by simp only [skp]; rw [if_neg (by rw [le_bl c1]; simp), if_neg (le_35 c1)]
      have base : ∀ r, (∀ c u, r = c :: u → c = 32) → ((c :: t).takeWhile inn ++ r).takeWhile inn = (c :: t).takeWhile inn := fun r hr =>
        takeWhile_end inn r (fun d u e => by rw [hr d u e]; decide) _ ha
      rw [hi] at h base
      split at h
      · rename_i hk
        simp only [Except.ok.injEq, Prod.mk.injEq] at h
        obtain ⟨rfl, rfl, rfl, rfl⟩ := h
        refine ⟨rfl, fun r hr => ⟨?_, hs _⟩⟩
        have hb := base r hr
        simp only [wrt, show ¬ (5 : Int) = 3 by omega, if_false, List.cons_append, Lex.one] at hb ⊢
        rw [if_pos c1, hb, if_pos hk]
      · split at h
        · rename_i hk hl
          simp only [Except.ok.injEq, Prod.mk.injEq] at h
          obtain ⟨rfl, rfl, rfl, rfl⟩ := h
          refine ⟨rfl, fun r hr => ⟨?_, hs _⟩⟩
          have hb := base r hr
          simp only [wrt, show ¬ (1 : Int) = 3 by omega, if_false, List.cons_append, Lex.one] at hb ⊢
          rw [if_pos c1, hb, if_neg hk, if_pos hl]
        · cases h
    · rw [if_neg c1] at h
      by_cases c2 : di c = true
      · rw [if_pos c2] at h
        have hi := tw di c2
        have ha := ta di
        have hs : ∀ u, skp false (c :: u) = c :: u := fun u => by
          have h1 : bl c = false := by
            rw [Bool.eq_false_iff]
            intro q
            simp only [bl, Bool.or_eq_true, beq_iff_eq] at q
            rcases q with ((rfl | rfl) | rfl) | rfl <;> simp [di] at c2
          have h2 : c ≠ 35 := by rintro rfl; simp [di] at c2
          simp only [skp]; rw [if_neg (by rw [h1]; simp), if_neg h2]
        split at h
        · rename_i hk
          simp only [Except.ok.injEq, Prod.mk.injEq] at h
          obtain ⟨rfl, rfl, rfl, rfl⟩ := h
          refine ⟨rfl, fun r hr => ?_⟩
          have hb := takeWhile_end di r (fun d u e => by rw [hr d u e]; decide) _ ha
          rw [hi] at hb hk ⊢
          simp only [wrt, show ¬ (2 : Int) = 3 by omega, if_false, List.cons_append, Lex.one] at hb ⊢
          refine ⟨?_, hs _⟩
          rw [if_neg c1, if_pos c2, hb, if_pos hk]
        · cases h
      · rw [if_neg c2] at h
        by_cases c3 : c = 34
        · rw [if_pos c3] at h
          split at h
          · rename_i y r0 hu
            simp only [Except.ok.injEq, Prod.mk.injEq] at h
            obtain ⟨rfl, rfl, rfl, rfl⟩ := h
            have hc := unq_count t false _ _ hu
            simp only [Bool.false_eq_true, if_false] at hc
            have hlen : (wrt 3 y).length = (c :: t).length - r0.length := by
              simp only [wrt, if_true, quo_len, List.length_cons]
              omega
            refine ⟨hlen, fun r hr => ?_⟩
            have e : wrt 3 y ++ r = 34 :: (y.flatMap quo1 ++ 34 :: r) := by simp [wrt, quo]
            rw [e]
            refine ⟨?_, by simp only [skp]; rw [if_neg (by decide), if_neg (by decide)]⟩
            simp only [Lex.one]
            rw [if_neg (by decide), if_neg (by decide), if_pos trivial, unq_back]
            simp only [Except.ok.injEq, Prod.mk.injEq, true_and]
            simp only [List.length_cons, List.length_append]
            omega
          · cases h
        · rw [if_neg c3] at h
          split at h
          · cases h
          · rename_i hmk
            simp only [Except.ok.injEq, Prod.mk.injEq] at h
            obtain ⟨rfl, rfl, rfl, rfl⟩ := h
            refine ⟨rfl, fun r hr => ?_⟩
            simp only [wrt, show ¬ (4 : Int) = 3 by omega, if_false]
            have key : ∃ u, Lex.mark (c :: t) = c :: u ∧ Lex.mark (c :: u ++ r) = c :: u ∧ bl c = false ∧ c ≠ 35 := by
              have hp : ∀ p ∈ PAIRS, ∀ a b, p = [a, b] → bl a = false ∧ a ≠ 35 := by
                intro p hp a b e
                subst e
                simp only [PAIRS, List.mem_cons, List.cons.injEq, and_true, List.not_mem_nil, or_false] at hp
                rcases hp with ⟨rfl, _⟩ | ⟨rfl, _⟩ | ⟨rfl, _⟩ | ⟨rfl, _⟩ <;> decide
              have hsn : ∀ a ∈ SINGLES, bl a = false ∧ a ≠ 35 := by decide
              by_cases h1 : PAIRS.contains ((c :: t).take 2) = true
              · have e1 : Lex.mark (c :: t) = (c :: t).take 2 := by unfold Lex.mark; rw [if_pos h1]
                cases t with
                | nil => simp [PAIRS] at h1
                | cons d u =>
                  have h2 := hp _ (List.contains_iff_mem.1 h1) c d rfl
                  refine ⟨[d], e1, ?_, h2⟩
                  unfold Lex.mark
                  rw [show (c :: [d] ++ r).take 2 = [c, d] from rfl, if_pos (show PAIRS.contains [c, d] = true from h1)]
              · have e1 : Lex.mark (c :: t) = if SINGLES.contains c = true then [c] else [] := by unfold Lex.mark; rw [if_neg h1]; rfl
                by_cases h2 : SINGLES.contains c = true
                · rw [if_pos h2] at e1
                  refine ⟨[], e1, ?_, hsn c (List.contains_iff_mem.1 h2)⟩
                  have h3 : PAIRS.contains ((c :: ([] ++ r)).take 2) = false := by
                    cases r with
                    | nil => simp [PAIRS]
                    | cons d u =>
                      rw [hr d u rfl]
                      simp [PAIRS]
                  unfold Lex.mark
                  rw [List.cons_append, h3]
                  show (if SINGLES.contains c = true then [c] else []) = [c]
                  rw [if_pos h2]
                · rw [if_neg h2] at e1
                  exact absurd e1 hmk
            obtain ⟨u, k1, k2, k3, k4⟩ := key
            rw [k1]
            refine ⟨?_, ?_⟩
            · rw [List.cons_append] at k2 ⊢
              simp only [Lex.one]
              rw [if_neg c1, if_neg c2, if_neg c3, k2, if_neg (by simp)]
            · rw [List.cons_append]
              simp only [skp]
              rw [if_neg (by rw [k3]; simp), if_neg k4]
def wt (t : Tk) : List UInt8 := wrt t.kind t.text
def key3 (t : Tk) : Int × List UInt8 × Int := (t.kind, t.text, t.n)
theorem tail_32 (ws : List (List UInt8)) : ∀ c u, tailL ws = c :: u → c = 32 := by
  intro c u h
  cases ws with
  | nil => simp [tailL] at h
  | cons w ws => simp only [tailL, List.cons_append, List.cons.injEq] at h; exact h.1.symm
/-- What is written of tokens has the same tokens. -/
theorem toks_again : ∀ (f : Nat) (u : List UInt8) (ts : List Tk), u.length < f → toks f u = .ok ts →
    ((textL (ts.map wt)).length ≤ 2 * u.length) ∧ skp false (textL (ts.map wt)) = textL (ts.map wt) ∧ ∀ g, (textL (ts.map wt)).length < g → ∃ us, toks g (textL (ts.map wt)) = .ok us ∧ us.map key3 = ts.map key3
  | 0, u, ts, h, _ => by omega
  | f + 1, [], ts, _, h => by
    simp only [toks, Except.ok.injEq] at h
    subst h
    refine ⟨by simp [textL], rfl, fun g hg => ⟨[], ?_, rfl⟩⟩
    cases g <;> rfl
  | f + 1, c :: u, ts, hf, h => by
    simp only [toks] at h
    split at h
    · cases h
    · rename_i k x n j ho
      split at h
      · cases h
      · rename_i us hu
        simp only [Except.ok.injEq] at h
        subst h
        have hj := one_len ho
        have hsl := skp_len ((c :: u).drop j) false
        rw [List.length_drop] at hsl
        obtain ⟨h1, h2, h3⟩ := toks_again f _ us (by omega) hu
        obtain ⟨a1, a2⟩ := one_again ho
        have a3 := a2 (tailL (us.map wt)) (tail_32 _)
        have e : textL ((⟨k, x, n, (c :: u).length⟩ :: us).map wt) = wrt k x ++ tailL (us.map wt) := rfl
        have el : us ≠ [] → tailL (us.map wt) = 32 :: textL (us.map wt) := by
          intro hne
          cases us with
          | nil => exact absurd rfl hne
          | cons a b => rfl
        have tl : (tailL (us.map wt)).length ≤ 1 + (textL (us.map wt)).length := by
          by_cases hne : us = []
          · subst hne; simp [tailL]
          · rw [el hne]; simp; omega
        rw [e]
        refine ⟨by rw [List.length_append, a1]; simp only [List.length_cons] at *; omega, a3.2, fun g hg => ?_⟩
        obtain ⟨g, rfl⟩ : ∃ i, g = i + 1 := ⟨g - 1, by omega⟩
        rw [List.length_append, a1] at hg
        have hg2 : (textL (us.map wt)).length < g := by
          by_cases hne : us = []
          · subst hne; simp [textL]; omega
          · rw [el hne] at hg; simp only [List.length_cons] at hg; omega
        obtain ⟨vs, v1, v2⟩ := h3 g hg2
        have hd : (wrt k x ++ tailL (us.map wt)).drop j = tailL (us.map wt) := List.drop_left' a1
        have hs : skp false (tailL (us.map wt)) = textL (us.map wt) := by
          by_cases hne : us = []
          · subst hne; rfl
          · rw [el hne]
            have : skp false (32 :: textL (us.map wt)) = skp false (textL (us.map wt)) := by simp [skp, bl]
            rw [this, h2]
        rcases hz : wrt k x ++ tailL (us.map wt) with _ | ⟨b, w⟩
        · have := congrArg List.length hz
          rw [List.length_append, a1] at this
          simp at this
          omega
        · refine ⟨⟨k, x, n, (b :: w).length⟩ :: vs, ?_, ?_⟩
          · have a4 := a3.1
            rw [hz] at a4 hd
            simp only [toks, a4, hd, hs, v1]
          · simp only [List.map_cons, v2]; rfl
theorem scan_again {l : List UInt8} {ts : List Tk} (h : Lex.scan l = .ok ts) : ((textL (ts.map wt)).length ≤ 2 * l.length) ∧ ∃ us, Lex.scan (textL (ts.map wt)) = .ok us ∧ us.map key3 = ts.map key3 := by
  have hs := skp_len l false
  obtain ⟨h1, h2, h3⟩ := toks_again _ _ _ (by omega) h
  refine ⟨by omega, ?_⟩
  unfold Lex.scan
  rw [h2]
  exact h3 _ (by omega)
theorem wr_tk (n : Nat) (ts : List Tk) : (ts.map (tkS n)).map wr = ts.map wt := by
  rw [List.map_map]
  apply List.map_congr_left
  intro t _
  simp only [Function.comp, wr, tkS, L_S, wt, wrt]
  rfl
theorem wt_key {us ts : List Tk} (h : us.map key3 = ts.map key3) : us.map wt = ts.map wt := by
  have e : ∀ l : List Tk, l.map wt = (l.map key3).map (fun p => wrt p.1 p.2.1) := fun l => by rw [List.map_map]; rfl
  rw [e, e, h]
theorem mem_text : ∀ (ws : List (List UInt8)) (w : List UInt8), w ∈ ws → w.length ≤ (tailL ws).length
  | a :: ws, w, h => by
    rcases List.mem_cons.1 h with rfl | h
    · simp only [tailL, List.length_append, List.length_cons]; omega
    · have := mem_text ws w h
      simp only [tailL, List.length_append, List.length_cons]; omega
theorem text_small {ts : List Tk} {b : Nat} (h : (textL (ts.map wt)).length ≤ b) : ∀ t ∈ ts, t.text.length ≤ b + 1 := by
  intro t ht
  have h1 : (wt t).length ≤ (textL (ts.map wt)).length + 1 := by
    cases ts with
    | nil => cases ht
    | cons a u =>
      have := mem_text ((a :: u).map wt) (wt t) (List.mem_map_of_mem ht)
      simp only [List.map_cons, tailL, textL, List.cons_append, List.length_cons, List.length_append] at this ⊢
      omega
  have h2 : t.text.length ≤ (wt t).length := by
    simp only [wt, wrt]
    split
    · rw [quo_len]
      have : ∀ s : List UInt8, s.length ≤ (s.flatMap quo1).length := by
        intro s
        induction s with
        | nil => simp
        | cons c s ih =>
          rw [List.flatMap_cons, List.length_append, List.length_cons]
          have : 1 ≤ (quo1 c).length := by
            unfold quo1
            repeat' split
            all_goals simp
          omega
      have := this t.text
      omega
    · exact Nat.le_refl _
  omega
theorem text_E (n : Nat) (ts : List Tk) (hl : ts.length ≤ 4611686018427387904) (h : (textL (ts.map wt)).length ≤ 100000) : EvTo (fun k => lex_Text.f k (ts.map (tkS n))) (S (textL (ts.map wt))) := by
  rw [← wr_tk n ts]
  refine Text_f _ (by simpa using hl) (fun t ht => ?_) (by rw [wr_tk]; omega)
  obtain ⟨u, hu, rfl⟩ := List.mem_map.1 ht
  have := text_small h u hu
  simp only [tkS, S_size]
  omega
theorem LexBack : chrysalislaw08_LexBack.Pure := by
  intro a0 ha
  apply EvTo.one (F := fun k => chrysalislaw08_LexBack.f k a0)
  unfold chrysalislaw08_LexBack.f
  by_cases h : (a0.size : Int) > 4000
  · exact EvTo.pos h known_B
  refine EvTo.neg h (EvTo.bind (Scan_f a0) ?_)
  have hL := L_size a0
  have hs : scanOf a0 = scanV a0.size [] (Lex.scan (L a0)) := by unfold scanOf; rw [if_pos (by omega)]
  rw [hs]
  cases hx : Lex.scan (L a0) with
  | error e =>
    obtain ⟨e, r⟩ := e
    exact EvTo.neg (scan_err hx).1 (EvTo.pos rfl known_B)
  | ok ts =>
    obtain ⟨t1, us, t2, t3⟩ := scan_again hx
    have hc := toks_rem _ _ _ hx
    have hk := skp_len (L a0) false
    have hul : us.length = ts.length := by have := congrArg List.length t3; simpa using this
    refine EvTo.pos rfl ?_
    simp only [scanV, List.nil_append]
    refine EvTo.bind (text_E a0.size ts (by omega) (by omega)) (EvTo.bind (Scan_f _) ?_)
    have hs2 : scanOf (S (textL (ts.map wt))) = (us.map (tkS (textL (ts.map wt)).length), 0, 0) := by
      unfold scanOf
      rw [if_pos (by rw [S_size]; omega), L_S, t2, S_size]; rfl
    rw [hs2]
    refine EvTo.bind (Same_map ts us _ _ false (by omega) t3 (fun q => by cases q)) (EvTo.pos rfl (EvTo.pos rfl ?_))
    have e := wt_key t3
    refine EvTo.bind (text_E _ us (by omega) (by rw [e]; omega)) (EvTo.pos ?_ known_B)
    rw [e]
end Go.Proofs.Ytkcnpnkcahgniaa.Pure
