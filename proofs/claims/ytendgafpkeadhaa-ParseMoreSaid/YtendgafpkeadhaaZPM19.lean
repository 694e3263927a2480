/- Walks over functions of the program, words for them, and what the functions come to; of each text only what this claim uses; no condition. -/
import Derived.Test.YtendgafpkeadhaaZPM0
import Derived.Test.YtendgafpkeadhaaZPM15
import Derived.Test.YtendgafpkeadhaaZPM17
import Derived.Test.YtendgafpkeadhaaZPM18
section
set_option linter.unusedVariables false
set_option linter.unusedSimpArgs false
namespace Go.Proofs.Ytendgafpkeadhaa.Lex
open Go Go.RowKit Go.Proofs.YtendgafpkeadhaaW.PrintWords Go.Proofs.Ytendgafpkeadhaa.Q
theorem jK (m : List UInt8) : ∀ (l : List UInt8) (b : Bool), skp b (l ++ 10 :: m) = if skp b l = [] then skp false m else skp b l ++ 10 :: m
 | [], b => by cases b <;> simp [skp, bl]
 | c :: t, false => by
  by_cases h : bl c = true
  ·have e1 : skp false (c :: t) = skp false t := by simp [skp, h]
   have e2 : skp false (c :: t ++ 10 :: m) = skp false (t ++ 10 :: m) := by simp [skp, h]
   rw [e1, e2, jK m t false]
  by_cases h2 : c = 35
  ·have e1 : skp false (c :: t) = skp true t := by simp [skp, h, h2]; intro q; rw [h2] at h; exact absurd q h
   have e2 : skp false (c :: t ++ 10 :: m) = skp true (t ++ 10 :: m) := by simp [skp, h, h2]; intro q; rw [h2] at h; exact absurd q h
   rw [e1, e2, jK m t true]
  have e1 : skp false (c :: t) = c :: t := by simp [skp, h, h2]
  have e2 : skp false (c :: t ++ 10 :: m) = c :: t ++ 10 :: m := by simp [skp, h, h2]
  rw [e1, e2, if_neg (by simp)]
 | c :: t, true => by
  by_cases h : c = 10
  ·have e1 : skp true (c :: t) = skp false t := by simp [skp, h]
   have e2 : skp true (c :: t ++ 10 :: m) = skp false (t ++ 10 :: m) := by simp [skp, h]
   rw [e1, e2, jK m t false]
  have e1 : skp true (c :: t) = skp true t := by simp [skp, h]
  have e2 : skp true (c :: t ++ 10 :: m) = skp true (t ++ 10 :: m) := by simp [skp, h]
  rw [e1, e2, jK m t true]
theorem iL (q : UInt8 → Bool) (hq : q 10 = false) (m : List UInt8) : ∀ l : List UInt8, (l ++ 10 :: m).takeWhile q = l.takeWhile q
 | [] => by simp [List.takeWhile_cons, hq]
 | c :: t => by
  rw [List.cons_append, List.takeWhile_cons, List.takeWhile_cons, iL q hq m t]
theorem oq (m : List UInt8) : ∀ (l : List UInt8) (b : Bool) (x r : List UInt8), unq b l = some (x, r) → unq b (l ++ 10 :: m) = some (x, r ++ 10 :: m)
 | [], b, x, r, h => by cases b <;> simp [unq] at h
 | c :: t, true, x, r, h => by
  simp only [List.cons_append, unq] at h ⊢
  split at h
  ·cases h
  rename_i y he
  simp only [Option.map_eq_some_iff, Prod.mk.injEq] at h ⊢
  obtain ⟨⟨u, v⟩, h1, h2, h3⟩ := h
  refine ⟨(u, v ++ 10 :: m), ?_, h2, by rw [← h3]⟩
  exact oq m t false u v h1
 | c :: t, false, x, r, h => by
  simp only [List.cons_append, unq] at h ⊢
  by_cases c1 : c = 34
  ·rw [if_pos c1] at h ⊢
   simp only [Option.some.injEq, Prod.mk.injEq] at h ⊢
   exact ⟨h.1, by rw [h.2]⟩
  rw [if_neg c1] at h ⊢
  by_cases c2 : c = 10
  ·rw [if_pos c2] at h; cases h
  rw [if_neg c2] at h ⊢
  by_cases c3 : c = 92
  ·rw [if_pos c3] at h ⊢
   exact oq m t true x r h
  rw [if_neg c3] at h ⊢
  simp only [Option.map_eq_some_iff, Prod.mk.injEq] at h ⊢
  obtain ⟨⟨u, v⟩, h1, h2, h3⟩ := h
  exact ⟨(u, v ++ 10 :: m), oq m t false u v h1, h2, by rw [← h3]⟩
theorem tK (m : List UInt8) (c : UInt8) (t : List UInt8) : Lex.mark (c :: t ++ 10 :: m) = Lex.mark (c :: t) := by
 unfold Lex.mark
 cases t with
 | nil =>
  have e1 : PAIRS.contains [c, 10] = false := by simp [PAIRS]
  have e2 : PAIRS.contains [c] = false := by simp [PAIRS]
  show (if PAIRS.contains [c, 10] = true then [c, 10] else if oN.contains c = true then [c] else []) = (if PAIRS.contains [c] = true then [c] else if oN.contains c = true then [c] else [])
  rw [e1, e2]
  rfl
 | cons d u => simp
theorem vU (m : List UInt8) {l : List UInt8} {k : Int} {x : List UInt8} {n : Int} {j : Nat} (h : Lex.one l = .ok (k, x, n, j)) : Lex.one (l ++ 10 :: m) = .ok (k, x, n, j) := by
 cases l with
 | nil => cases h
 | cons c t =>
  rw [← h, List.cons_append]
  simp only [Lex.one]
  have w1 := iL inn (by decide) m (c :: t)
  have w2 := iL di (by decide) m (c :: t)
  rw [List.cons_append] at w1 w2
  rw [w1, w2]
  have w3 := tK m c t
  rw [List.cons_append] at w3
  rw [w3]
  by_cases c1 : le c = true
  ·rw [if_pos c1, if_pos c1]
  rw [if_neg c1, if_neg c1]
  by_cases c2 : di c = true
  ·rw [if_pos c2, if_pos c2]
  rw [if_neg c2, if_neg c2]
  by_cases c3 : c = 34
  ·rw [if_pos c3, if_pos c3]
   simp only [Lex.one] at h
   rw [if_neg c1, if_neg c2, if_pos c3] at h
   cases hu : unq false t with
   | none => rw [hu] at h; cases h
   | some r =>
    obtain ⟨y, r⟩ := r
    rw [oq m t false y r hu]
    have := mQ t false y r hu
    simp only [List.length_cons, List.length_append, Except.ok.injEq, Prod.mk.injEq, true_and]
    omega
  rw [if_neg c3, if_neg c3]
def up (d : Nat) (t : Tk) : Tk := ⟨t.kind, t.text, t.n, t.rem + d⟩
theorem sV (m : List UInt8) (ys : List Tk) (hm : Lex.scan m = .ok ys) : ∀ (f g : Nat) (l : List UInt8) (xs : List Tk), l.length < f → l.length + m.length + 1 < g → l ≠ [] → toks f l = .ok xs →
 toks g (l ++ 10 :: m) = .ok (xs.map (up (m.length + 1)) ++ ys)
 | 0, _, l, _, h, _, _, _ => by omega
 | _ + 1, 0, l, _, _, h, _, _ => by omega
 | f + 1, g + 1, [], xs, _, _, h, _ => absurd rfl h
 | f + 1, g + 1, c :: t, xs, hf, hg, _, h => by
  simp only [List.length_cons] at hf hg
  simp only [toks] at h
  split at h
  ·cases h
  rename_i k x n j ho
  split at h
  ·cases h
  rename_i us hu
  simp only [Except.ok.injEq] at h
  subst h
  have hj := o8 ho
  simp only [List.length_cons] at hj
  have ho2 := vU m ho
  rw [List.cons_append] at ho2 ⊢
  simp only [toks, ho2]
  have hd : List.drop j (c :: (t ++ 10 :: m)) = List.drop j (c :: t) ++ 10 :: m := by
   rw [← List.cons_append, List.drop_append_of_le_length Z71]
  rw [hd, jK]
  have hsl := gG ((c :: t).drop j) false
  simp only [List.length_drop, List.length_cons] at hsl
  have hl1 : (c :: (t ++ 10 :: m)).length = (c :: t).length + (m.length + 1) := by simp; omega
  by_cases he : skp false ((c :: t).drop j) = []
  ·rw [if_pos he]
   rw [he] at hu
   have hus : us = [] := by
    cases f with
    | zero => simp [toks] at hu; exact hu
    | succ f => simp [toks] at hu; exact hu
   have hms := gG m false
   have : toks g (skp false m) = .ok ys := by
    rw [← hm]
    exact mW g (m.length + 1) _ (by omega) (by omega)
   rw [this]
   simp only [hus, List.map_cons, List.map_nil, List.nil_append, List.cons_append, up, hl1]
  rw [if_neg he]
  rw [sV m ys hm f g _ us (by omega) (by omega) he hu]
  simp only [List.map_cons, List.cons_append, up, hl1]
theorem scan_join {l m : List UInt8} {xs ys : List Tk} (hl : Lex.scan l = .ok xs) (hm : Lex.scan m = .ok ys) : Lex.scan (l ++ 10 :: m) = .ok (xs.map (up (m.length + 1)) ++ ys) := by
 unfold Lex.scan at hl ⊢
 have h1 := gG l false
 have h2 := gG m false
 rw [jK]
 by_cases he : skp false l = []
 ·rw [if_pos he]
  rw [he] at hl
  have hxs : xs = [] := by simpa [toks] using hl.symm
  subst hxs
  rw [List.map_nil, List.nil_append, ← hm]
  exact mW _ _ _ (by simp; omega) (by omega)
 rw [if_neg he]
 exact sV m ys hm _ _ _ xs (by omega) (by simp; omega) he hl
theorem qp (m : List UInt8) : ∀ (l : List UInt8) (b : Bool), unq b l = none → unq b (l ++ 10 :: m) = none
 | [], true, _ => rfl
 | [], false, _ => rfl
 | c :: t, true, h => by
  rw [List.cons_append]
  simp only [unq] at h ⊢
  cases he : esc c with
  | none => rfl
  | some x =>
   rw [he] at h
   simp only [Option.map_eq_none_iff] at h ⊢
   exact qp m t false h
 | c :: t, false, h => by
  rw [List.cons_append]
  simp only [unq] at h ⊢
  by_cases c1 : c = 34
  ·rw [if_pos c1] at h; cases h
  rw [if_neg c1] at h ⊢
  by_cases c2 : c = 10
  ·rw [if_pos c2]
  rw [if_neg c2] at h ⊢
  by_cases c3 : c = 92
  ·rw [if_pos c3] at h ⊢; exact qp m t true h
  rw [if_neg c3] at h ⊢
  simp only [Option.map_eq_none_iff] at h ⊢
  exact qp m t false h
theorem CB (m : List UInt8) {c : UInt8} {t : List UInt8} {e : Int} (h : Lex.one (c :: t) = .error e) : Lex.one (c :: t ++ 10 :: m) = .error e := by
 rw [← h, List.cons_append]
 simp only [Lex.one]
 have w1 := iL inn (by decide) m (c :: t)
 have w2 := iL di (by decide) m (c :: t)
 rw [List.cons_append] at w1 w2
 rw [w1, w2]
 have w3 := tK m c t
 rw [List.cons_append] at w3
 rw [w3]
 by_cases c1 : le c = true
 ·rw [if_pos c1, if_pos c1]
 rw [if_neg c1, if_neg c1]
 by_cases c2 : di c = true
 ·rw [if_pos c2, if_pos c2]
 rw [if_neg c2, if_neg c2]
 by_cases c3 : c = 34
 ·rw [if_pos c3, if_pos c3]
  simp only [Lex.one] at h
  rw [if_neg c1, if_neg c2, if_pos c3] at h
  cases hu : unq false t with
  | none => rw [qp m t false hu]
  | some r => rw [hu] at h; cases h
 rw [if_neg c3, if_neg c3]
theorem vI (m : List UInt8) : ∀ (f g : Nat) (l : List UInt8) (e : Int × Nat), l.length < f → l.length + m.length + 1 < g → toks f l = .error e → ∃ e', toks g (l ++ 10 :: m) = .error e'
 | 0, _, l, _, h, _, _ => by omega
 | _ + 1, 0, l, _, _, h, _ => by omega
 | f + 1, g + 1, [], e, _, _, h => by cases h
 | f + 1, g + 1, c :: t, e, hf, hg, h => by
  simp only [List.length_cons] at hf hg
  simp only [toks] at h
  cases ho : Lex.one (c :: t) with
  | error e1 =>
   have := CB m ho
   rw [List.cons_append] at this ⊢
   simp only [toks, this]
   exact ⟨_, rfl⟩
  | ok r =>
   obtain ⟨k, x, n, j⟩ := r
   rw [ho] at h
   have ho2 := vU m ho
   have hj := o8 ho
   simp only [List.length_cons] at hj
   have hsl := gG ((c :: t).drop j) false
   simp only [List.length_drop, List.length_cons] at hsl
   have hd : List.drop j (c :: (t ++ 10 :: m)) = List.drop j (c :: t) ++ 10 :: m := by
    rw [← List.cons_append, List.drop_append_of_le_length Z71]
   rw [List.cons_append] at ho2 ⊢
   simp only [toks, ho2]
   rw [hd, jK]
   simp only at h
   cases hu : toks f (skp false ((c :: t).drop j)) with
   | ok ts => rw [hu] at h; cases h
   | error e1 =>
    have he : skp false ((c :: t).drop j) ≠ [] := by
     intro he
     rw [he] at hu
     cases f with
     | zero => cases hu
     | succ f => cases hu
    rw [if_neg he]
    obtain ⟨e', h'⟩ := vI m f g _ e1 (by omega) (by omega) hu
    rw [h']
    exact ⟨_, rfl⟩
theorem scan_cut {l m : List UInt8} {zs : List Tk} (h : Lex.scan (l ++ 10 :: m) = .ok zs) : ∃ xs, Lex.scan l = .ok xs := by
 cases hl : Lex.scan l with
 | ok xs => exact ⟨xs, rfl⟩
 | error e =>
  exfalso
  unfold Lex.scan at h hl
  have h1 := gG l false
  rw [jK] at h
  have he : skp false l ≠ [] := by
   intro he
   rw [he] at hl
   cases hl
  rw [if_neg he] at h
  obtain ⟨e', h'⟩ := vI m _ (((l ++ 10 :: m).length) + 1) _ e (by omega) (by simp; omega) hl
  rw [h'] at h
  cases h
theorem mV {f : Nat} {c : UInt8} {t : List UInt8} {k : Int} {x : List UInt8} {n : Int} {j : Nat} {u : List UInt8} (h : Lex.one (c :: t) = .ok (k, x, n, j)) (hu : skp false ((c :: t).drop j) = u) :
 toks (f + 1) (c :: t) = match toks f u with
  | .error e => .error e
  | .ok ts => .ok (⟨k, x, n, (c :: t).length⟩ :: ts) := by
 simp only [toks, h, hu]
 cases toks f u <;> rfl
/-- The tokens with which a module begins. -/
def headT (n : Nat) : List Tk := [⟨5, [109, 111, 100, 117, 108, 101], 0, n + 12⟩, ⟨1, [109], 0, n + 5⟩, ⟨2, [49], 1, n + 3⟩, ⟨4, [59], 0, n + 2⟩]
set_option maxRecDepth 100000 in
theorem head_scan (z : List UInt8) : Lex.scan ([109, 111, 100, 117, 108, 101, 32, 109, 32, 49, 59, 32] ++ z) = match Lex.scan z with
 | .error e => .error e
 | .ok zs => .ok (headT z.length ++ zs) := by
 have o1 : Lex.one (109 :: 111 :: 100 :: 117 :: 108 :: 101 :: 32 :: 109 :: 32 :: 49 :: 59 :: 32 :: z) = .ok (5, [109, 111, 100, 117, 108, 101], 0, 6) := by kernel_rfl
 have o2 : Lex.one (109 :: 32 :: 49 :: 59 :: 32 :: z) = .ok (1, [109], 0, 1) := by kernel_rfl
 have o3 : Lex.one (49 :: 59 :: 32 :: z) = .ok (2, [49], 1, 1) := by kernel_rfl
 have o4 : Lex.one (59 :: 32 :: z) = .ok (4, [59], 0, 1) := by kernel_rfl
 have s0 : skp false (109 :: 111 :: 100 :: 117 :: 108 :: 101 :: 32 :: 109 :: 32 :: 49 :: 59 :: 32 :: z) = 109 :: 111 :: 100 :: 117 :: 108 :: 101 :: 32 :: 109 :: 32 :: 49 :: 59 :: 32 :: z := by kernel_rfl
 have s1 : skp false ((109 :: 111 :: 100 :: 117 :: 108 :: 101 :: 32 :: 109 :: 32 :: 49 :: 59 :: 32 :: z).drop 6) = 109 :: 32 :: 49 :: 59 :: 32 :: z := by kernel_rfl
 have s2 : skp false ((109 :: 32 :: 49 :: 59 :: 32 :: z).drop 1) = 49 :: 59 :: 32 :: z := by kernel_rfl
 have s3 : skp false ((49 :: 59 :: 32 :: z).drop 1) = 59 :: 32 :: z := by kernel_rfl
 have s4 : skp false ((59 :: 32 :: z).drop 1) = skp false z := by kernel_rfl
 have hz := gG z false
 show toks (_ + 1) (skp false (109 :: 111 :: 100 :: 117 :: 108 :: 101 :: 32 :: 109 :: 32 :: 49 :: 59 :: 32 :: z)) = _
 rw [s0]
 show toks (z.length + 8 + 1 + 1 + 1 + 1 + 1) _ = _
 rw [mV o1 s1, mV o2 s2, mV o3 s3, mV o4 s4]
 unfold Lex.scan
 rw [mW (z.length + 8 + 1) (z.length + 1) _ (by omega) (by omega)]
 cases toks (z.length + 1) (skp false z) with
 | error e => rfl
 | ok zs => rfl
end Go.Proofs.Ytendgafpkeadhaa.Lex
end
section
set_option linter.unusedVariables false
set_option linter.unusedSimpArgs false
namespace Go.Proofs.Ytendgafpkeadhaa.Par
open Go Go.RowKit Go.Proofs.YtendgafpkeadhaaW.PrintWords Go.Proofs.Ytendgafpkeadhaa.Q Go.Proofs.Ytendgafpkeadhaa.Lex Go.Proofs.Ytendgafpkeadhaa.Tree
abbrev HB : ByteArray := (⟨#[109, 111, 100, 117, 108, 101, 32, 109, 32, 49, 59, 32]⟩ : ByteArray)
abbrev LB : ByteArray := (⟨#[10]⟩ : ByteArray)
/-- What the law asks at its end. -/
theorem more_l (x y z : List S41) (g : Int) (hy : y.length ≤ 100000)
 (h : (∀ e ∈ y, e.f0 ≠ 2) → g = 3 ∨ (g = 0 ∧ ∃ (q0 : Int) (q2 : ByteArray) (q3 : Int) (q4 : ByteArray) (a b : S41) (A B : List S41), x = a :: A ∧ y = b :: B ∧ z = ⟨q0, a.f1 + b.f1, q2, q3, q4⟩ :: (A ++ B) ∧ z.length ≤ 2000 ∧ 0 ≤ a.f1 ∧ a.f1 ≤ 2000 ∧ 0 ≤ b.f1 ∧ b.f1 ≤ 2000)) :
 ∀ (m i : Nat), y.length = m + i → (∀ j (hj : j < y.length), j < i → y[j].f0 ≠ 2) → EvTo (fun k => chrysalislaw10_ParseMore.l0 k x y z g (i : Int)) true := by
 intro m
 induction m with
 | zero =>
  intro i h1 h2
  refine EvTo.step (fun k => by rw [chrysalislaw10_ParseMore.l0]) ?_
  refine EvTo.neg (by omega) ?_
  have hall : ∀ e ∈ y, e.f0 ≠ 2 := fun e he => by
   obtain ⟨j, hj, rfl⟩ := List.getElem_of_mem he
   exact h2 j hj (by omega)
  rcases h hall with rfl | ⟨rfl, q0, q2, q3, q4, a, b, A, B, rfl, rfl, rfl, h5, a0, a9, b0, b9⟩
  ·exact EvTo.pos rfl known_B
  simp only [List.length_cons, List.length_append] at h5
  have f1 : wrap64 ((wrap64 (((a :: A).length : Int) + ((b :: B).length : Int))) - 1) = (((A.length + B.length + 1 : Nat)) : Int) := by
   simp only [List.length_cons]
   rw [Tree.w64 (n := ((A.length + 1 : Nat) : Int) + ((B.length + 1 : Nat) : Int)) (by omega) (by omega), Tree.w64 (by omega) (by omega)]
   omega
  have f2 : wrap64 (((rd_T41 (a :: A) 0).f1) + ((rd_T41 (b :: B) 0).f1)) = a.f1 + b.f1 := Tree.w64 (n := a.f1 + b.f1) (by omega) (by omega)
  have f3 : ((⟨q0, a.f1 + b.f1, q2, q3, q4⟩ :: (A ++ B) : List S41).take (((a :: A).length : Int)).toNat).drop 1 = (a :: A).drop 1 := by simp
  have f4 : (⟨q0, a.f1 + b.f1, q2, q3, q4⟩ :: (A ++ B) : List S41).drop (((a :: A).length : Int)).toNat = (b :: B).drop 1 := by simp
  have g0 : ((((⟨q0, a.f1 + b.f1, q2, q3, q4⟩ :: (A ++ B) : List S41).length : Nat)) : Int) = (((A.length + B.length + 1 : Nat)) : Int) := by simp
  refine EvTo.neg (by decide) (EvTo.pos rfl ?_)
  refine EvTo.pos (g0.trans f1.symm) ?_
  clear f1
  refine EvTo.pos (by clear f2; simp only [List.length_cons]; omega) (EvTo.pos (by clear f2; simp only [List.length_cons]; omega) (EvTo.pos (by clear f2; simp only [List.length_cons]; omega) (EvTo.pos f2.symm ?_)))
  clear f2
  refine EvTo.pos Z71 (EvTo.pos (by simp only [List.length_cons, List.length_append]; omega) ?_)
  rw [f3, f4]
  refine EvTo.bind (Same_self _ (by simp; omega)) (EvTo.pos rfl (EvTo.pos Z71 (EvTo.pos Z71 ?_)))
  exact EvTo.bind (Same_self _ (by simp; omega)) (EvTo.pos rfl known_B)
 | succ m ih =>
  intro i h1 h2
  have hi : i < y.length := by omega
  refine EvTo.step (fun k => by rw [chrysalislaw10_ParseMore.l0]) ?_
  refine EvTo.pos (by omega) (EvTo.pos (by omega) ?_)
  rw [rd36 y i hi, Tree.inc i (by omega)]
  by_cases c : y[i].f0 = 2
  ·exact EvTo.pos c known_B
  refine EvTo.neg c (ih (i + 1) (by omega) fun j hj hji => ?_)
  rcases Nat.lt_or_ge j i with h3 | h3
  ·exact h2 j hj h3
  obtain rfl : j = i := by omega
  exact c
theorem more_1 (x : List S41) (e : Int) (y : List S41) (f : Int) (z : List S41) (g : Int) (b : Bool) (hb : b = true → e ≠ 0 ∨ f ≠ 0) (h : b = false → EvTo (fun k => chrysalislaw10_ParseMore.l0 k x y z g 0) true) :
 EvTo (fun k => chrysalislaw10_ParseMore.j1 k x e y f z g b) true := by
 refine EvTo.step (fun k => by rw [chrysalislaw10_ParseMore.j1]) ?_
 cases b with
 | false => exact EvTo.neg (by simp) (h rfl)
 | true =>
  refine EvTo.pos rfl ?_
  by_cases c : e = 0
  ·refine EvTo.pos c ?_
   by_cases d : f = 0
   ·exact absurd (hb rfl) (by simp [c, d])
   exact EvTo.neg d known_B
  exact EvTo.neg c known_B
theorem big_check {l : List S41} (h : 2000 < l.length) : checkS l = (3, 0) := by unfold checkS; rw [if_pos h]
theorem sizes (a b : ByteArray) : (a ++ b).size = a.size + b.size := by rw [L_size, L_append, List.length_append, ← L_size, ← L_size]
/-- What is read of both, over any tokens. -/
theorem more_Z {n : Nat} (hr : Rnd n) {h1 h2 h3 A B A' B' : List S38} {x y : List S41} (hh1 : ∃ t0 t1 t2 t3, h1 = [t0, t1, t2, t3]) (s2 : Sim h1 h2) (s3 : Sim h1 h3) (sA : Sim A A') (sB : Sim B B')
 (hA : TB (h1 ++ A)) (hB : TB (h2 ++ B)) (lA : A.length + B.length + 4 ≤ 3000) (lN : A.length + B.length + 4 ≤ n)
 (m1 : moduleP (pfam n) n (h1 ++ A) = .ok (x, [])) (m2 : moduleP (pfam n) n (h2 ++ B) = .ok (y, [])) (hu : ∀ e ∈ y, e.f0 ≠ 2) (c1 : (checkS x).1 = 0) (c2 : (checkS y).1 = 0) :
 ∃ z : List S41 × Int × Int, z = ansS (h3 ++ (A' ++ B')) (moduleP (pfam n) n (h3 ++ (A' ++ B'))) ∧
  (z.2.1 = 3 ∨ (z.2.1 = 0 ∧ ∃ (q0 : Int) (q2 : ByteArray) (q3 : Int) (q4 : ByteArray) (a b : S41) (A B : List S41), x = a :: A ∧ y = b :: B ∧ z.1 = ⟨q0, a.f1 + b.f1, q2, q3, q4⟩ :: (A ++ B) ∧ z.1.length ≤ 2000 ∧ 0 ≤ a.f1 ∧ a.f1 ≤ 2000 ∧ 0 ≤ b.f1 ∧ b.f1 ≤ 2000)) := by
 obtain ⟨nm, v, ks, ks', q1, q2, q3, q4, q5, us', fs', q6, q7, q8, q9⟩ := more_kids (m0 := 3000) (N := n) (pfam_L n) hr.1 hh1 s2 s3 sA sB hA hB lA lN m1 m2 hu
 refine ⟨_, rfl, ?_⟩
 rw [q3]
 clear q3 m1 m2 hA hB
 subst q1
 subst q2
 obtain ⟨r1, r2, r3, r4⟩ := mod_kids q4 c1
 obtain ⟨s1, _, s3, s4⟩ := mod_kids q5 c2
 by_cases big : 2000 < (nd 1 nm v E (ks ++ ks')).length
 ·left
  show (if (checkS (nd 1 nm v E (ks ++ ks'))).1 = 0 then (nd 1 nm v E (ks ++ ks'), (0 : Int), (0 : Int)) else ([], (checkS (nd 1 nm v E (ks ++ ks'))).1, 0)).2.1 = 3
  rw [big_check big]
  rfl
 right
 have hck : checkS (nd 1 nm v E (ks ++ ks')) = (0, 0) := by
  refine kids_mod (by omega) r2 ?_ (fun e he => ?_)
  ·rw [q6, List.append_assoc]
   refine modS_mk q7 (fun e he => ?_)
   rcases List.mem_append.1 he with he | he
   ·exact q8 e he
   exact q9 e he
  rcases List.mem_append.1 he with he | he
  ·exact r4 e he
  exact s4 e he
 have e : ansS (h3 ++ (A' ++ B')) (.ok (nd 1 nm v E (ks ++ ks'), [])) = (nd 1 nm v E (ks ++ ks'), 0, 0) := if_pos (by rw [hck])
 rw [e]
 have l1 : ks.length ≤ 2000 := by
  obtain ⟨D, _, g⟩ := GF.join ks 59 r4
  have := g.fo.len
  rw [nd_len] at r1
  rw [List.length_map] at this
  omega
 have l2 : ks'.length ≤ 2000 := by
  obtain ⟨D, _, g⟩ := GF.join ks' 59 s4
  have := g.fo.len
  rw [nd_len] at s1
  rw [List.length_map] at this
  omega
 refine ⟨rfl, 1, nm, v, E, _, _, _, _, rfl, rfl, ?_, (by show (nd 1 nm v E (ks ++ ks')).length ≤ 2000; omega), ?_, ?_, ?_, ?_⟩
 ·show nd 1 nm v E (ks ++ ks') = (⟨1, (ks.length : Int) + (ks'.length : Int), nm, v, E⟩ : S41) :: (ks.flatten ++ ks'.flatten)
  simp [nd]
 all_goals simp only; omega
/-- What the three texts come to. -/
theorem more_T {n : Nat} (hr : Rnd n) (hn : 3000 ≤ n) (a b : ByteArray) (ha : a.size ≤ 1000) (hb : b.size ≤ 1000) (x y : List S41) (us vs : List Tk)
 (h1 : Lex.scan (L ((HB ++ a) ++ LB)) = .ok us) (m1 : moduleP (pfam n) n (us.map (tkS ((HB ++ a) ++ LB).size)) = .ok (x, [])) (c1 : (checkS x).1 = 0)
 (h2 : Lex.scan (L ((HB ++ b) ++ LB)) = .ok vs) (m2 : moduleP (pfam n) n (vs.map (tkS ((HB ++ b) ++ LB).size)) = .ok (y, [])) (c2 : (checkS y).1 = 0) :
 x.length ≤ 2000 ∧ y.length ≤ 2000 ∧ x ≠ [] ∧ y ≠ [] ∧ ((∀ e ∈ y, e.f0 ≠ 2) → ∃ z : List S41 × Int × Int, EvTo (fun k => parse_Text.f k (((((HB ++ a) ++ LB) ++ b) ++ LB))) z ∧
  (z.2.1 = 3 ∨ (z.2.1 = 0 ∧ ∃ (q0 : Int) (q2 : ByteArray) (q3 : Int) (q4 : ByteArray) (a b : S41) (A B : List S41), x = a :: A ∧ y = b :: B ∧ z.1 = ⟨q0, a.f1 + b.f1, q2, q3, q4⟩ :: (A ++ B) ∧ z.1.length ≤ 2000 ∧ 0 ≤ a.f1 ∧ a.f1 ≤ 2000 ∧ 0 ≤ b.f1 ∧ b.f1 ≤ 2000))) := by
 have lx := (checkS_ok c1).1
 have ly := (checkS_ok c2).1
 have nx : x ≠ [] := by rintro rfl; exact absurd c1 (by decide)
 have ny : y ≠ [] := by rintro rfl; exact absurd c2 (by decide)
 refine ⟨lx, ly, nx, ny, fun hu => ?_⟩
 have e1 : L ((HB ++ a) ++ LB) = [109, 111, 100, 117, 108, 101, 32, 109, 32, 49, 59, 32] ++ (L a ++ 10 :: []) := by rw [L_append, L_append, List.append_assoc]; rfl
 have e2 : L ((HB ++ b) ++ LB) = [109, 111, 100, 117, 108, 101, 32, 109, 32, 49, 59, 32] ++ (L b ++ 10 :: []) := by rw [L_append, L_append, List.append_assoc]; rfl
 have e3 : L (((((HB ++ a) ++ LB) ++ b) ++ LB)) = [109, 111, 100, 117, 108, 101, 32, 109, 32, 49, 59, 32] ++ (L a ++ 10 :: (L b ++ 10 :: [])) := by
  rw [L_append, L_append, L_append, L_append, List.append_assoc, List.append_assoc, List.append_assoc]; rfl
 rw [e1, head_scan] at h1
 rw [e2, head_scan] at h2
 cases k1 : Lex.scan (L a ++ 10 :: []) with
 | error e => rw [k1] at h1; cases h1
 | ok xa =>
 cases k2 : Lex.scan (L b ++ 10 :: []) with
 | error e => rw [k2] at h2; cases h2
 | ok yb =>
 rw [k1] at h1
 rw [k2] at h2
 simp only [Except.ok.injEq] at h1 h2
 subst h1
 subst h2
 obtain ⟨xs, k3⟩ := scan_cut k1
 have k4 := scan_join k3 (show Lex.scan [] = .ok [] from rfl)
 rw [k1] at k4
 simp only [Except.ok.injEq, List.append_nil] at k4
 have k5 := scan_join k3 k2
 have h3 : Lex.scan (L (((((HB ++ a) ++ LB) ++ b) ++ LB))) = .ok (headT (L a ++ 10 :: (L b ++ 10 :: [])).length ++ (xs.map (up ((L b ++ 10 :: []).length + 1)) ++ yb)) := by
  rw [e3, head_scan, k5]
 have sz3 : (((((HB ++ a) ++ LB) ++ b) ++ LB)).size ≤ 3000 := by
  simp only [sizes]
  have : HB.size = 12 := rfl
  have : LB.size = 1 := rfl
  omega
 have sz1 : ((HB ++ a) ++ LB).size ≤ 3000 := by
  simp only [sizes]
  have : HB.size = 12 := rfl
  have : LB.size = 1 := rfl
  omega
 have sz2 : ((HB ++ b) ++ LB).size ≤ 3000 := by
  simp only [sizes]
  have : HB.size = 12 := rfl
  have : LB.size = 1 := rfl
  omega
 obtain ⟨p1, p2, p3⟩ := text_toks sz3 h3
 have hz := text_A _ sz3 h3 n (hr.2 _ p1 p2)
 have b1 := (text_toks sz1 (show Lex.scan (L ((HB ++ a) ++ LB)) = .ok (headT (L a ++ [10]).length ++ xa) by rw [e1, head_scan, k1])).2.1
 have b2 := (text_toks sz2 (show Lex.scan (L ((HB ++ b) ++ LB)) = .ok (headT (L b ++ [10]).length ++ yb) by rw [e2, head_scan, k2])).2.1
 rw [List.map_append] at m1 m2 b1 b2
 rw [List.map_append, List.map_append] at hz p1
 have simH : ∀ i j p q : Nat, Sim ((headT i).map (tkS p)) ((headT j).map (tkS q)) := fun i j p q => rfl
 have simA : ∀ (U : Nat) (p q : Nat), xa = xs.map (up 1) → Sim (xa.map (tkS p)) ((xs.map (up U)).map (tkS q)) := fun U p q h => by
  rw [h]
  unfold Sim
  simp only [List.map_map]
  rfl
 have lxs : xa.length = xs.length := by rw [k4]; simp
 have hd4 : ∀ i, (headT i).length = 4 := fun i => rfl
 simp only [List.length_append, List.length_map, hd4] at p1
 have lA : xa.length + yb.length + 4 ≤ 3000 := by omega
 have hMK := more_Z hr ⟨_, _, _, _, rfl⟩ (simH _ _ _ _) (simH _ (L a ++ 10 :: (L b ++ 10 :: [])).length _ (((((HB ++ a) ++ LB) ++ b) ++ LB)).size) (simA ((L b ++ 10 :: []).length + 1) _ (((((HB ++ a) ++ LB) ++ b) ++ LB)).size k4) (sim_map yb _ (((((HB ++ a) ++ LB) ++ b) ++ LB)).size) b1 b2 (by rw [List.length_map, List.length_map]; exact lA) (by rw [List.length_map, List.length_map]; omega) m1 m2 hu c1 c2
 obtain ⟨z, z1, z2⟩ := hMK
 exact ⟨z, by rw [z1]; exact hz, z2⟩
theorem more_j {n : Nat} (hr : Rnd n) (hn : 3000 ≤ n) (a b : ByteArray) (c : Bool) (hc : c = false → a.size ≤ 1000 ∧ b.size ≤ 1000) : EvTo (fun k => chrysalislaw10_ParseMore.j0 k a b c) true := by
 refine EvTo.step (fun k => by rw [chrysalislaw10_ParseMore.j0]) ?_
 cases c with
 | true => exact EvTo.pos rfl known_B
 | false =>
  obtain ⟨ha, hb⟩ := hc rfl
  have hH : (⟨#[109, 111, 100, 117, 108, 101, 32, 109, 32, 49, 59, 32]⟩ : ByteArray).size = 12 := rfl
  have hL : (⟨#[10]⟩ : ByteArray).size = 1 := rfl
  have hH' : HB.size = 12 := rfl
  have hL' : LB.size = 1 := rfl
  obtain ⟨v1, t1, u1⟩ := text_V hr ((HB ++ a) ++ LB) (by simp only [sizes]; omega)
  obtain ⟨v2, t2, u2⟩ := text_V hr ((HB ++ b) ++ LB) (by simp only [sizes]; omega)
  obtain ⟨v3, t3, _⟩ := text_V hr (((((HB ++ a) ++ LB) ++ b) ++ LB)) (by simp only [sizes]; omega)
  refine EvTo.neg (by simp) (EvTo.pos (by omega) (EvTo.pos (by simp only [sizes]; omega) (EvTo.bind t1 ?_)))
  refine EvTo.pos (by omega) (EvTo.pos (by simp only [sizes]; omega) (EvTo.bind t2 ?_))
  refine EvTo.pos (by simp only [sizes]; omega) (EvTo.pos (by simp only [sizes]; omega) (EvTo.bind t3 ?_))
  by_cases d1 : v1.2.1 = 0
  ·refine EvTo.pos d1 ?_
   by_cases d2 : v2.2.1 = 0
   ·refine EvTo.pos d2 ?_
    obtain ⟨us, s1, s2, s3⟩ := u1 d1
    obtain ⟨vs, w1, w2, w3⟩ := u2 d2
    obtain ⟨lx, ly, nx, ny, hT⟩ := more_T hr hn a b ha hb v1.1 v2.1 us vs s1 s2 s3 w1 w2 w3
    have px := List.length_pos_iff.2 nx
    have py := List.length_pos_iff.2 ny
    refine EvTo.neg (by omega) (more_1 _ _ _ _ _ _ _ (fun h => ?_) (fun _ => ?_))
    ·rw [beq_iff_eq] at h; omega
    refine more_l v1.1 v2.1 v3.1 v3.2.1 (by omega) (fun hu => ?_) v2.1.length 0 (by omega) (fun j hj h0 => by omega)
    obtain ⟨z, z1, z2⟩ := hT hu
    have : v3 = z := EvTo.uniq t3 z1
    rw [this]
    exact z2
   exact EvTo.neg d2 (more_1 _ _ _ _ _ _ _ (fun _ => Or.inr d2) (fun h => by cases h))
  exact EvTo.neg d1 (more_1 _ _ _ _ _ _ _ (fun _ => Or.inl d1) (fun h => by cases h))
theorem more : chrysalislaw10_ParseMore.Pure := by
 intro a0 a1 h0 h1
 refine EvTo.one (F := fun k => chrysalislaw10_ParseMore.f k a0 a1) ?_
 obtain ⟨n0, hr⟩ := rounds 3000
 have hr := hr (n0 + 3000) (by omega)
 unfold chrysalislaw10_ParseMore.f
 by_cases h : (a0.size : Int) > 1000
 ·exact EvTo.pos h (more_j hr (by omega) a0 a1 true (fun h => by cases h))
 refine EvTo.neg h (more_j hr (by omega) a0 a1 _ (fun hc => ?_))
 have := of_decide_eq_false hc
 omega
end Go.Proofs.Ytendgafpkeadhaa.Par
namespace Go.Proofs.Ytendgafpkeadhaa.Pure
theorem ParseMore : Q.chrysalislaw10_ParseMore.Pure := Par.more
end Go.Proofs.Ytendgafpkeadhaa.Pure
end
