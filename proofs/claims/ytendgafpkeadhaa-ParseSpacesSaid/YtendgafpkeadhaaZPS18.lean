/- Walks over functions of the program, words for them, and what the functions come to; of each text only what this claim uses; no condition. -/
import Derived.Test.YtendgafpkeadhaaZPS0
import Derived.Test.YtendgafpkeadhaaZPS12
import Derived.Test.YtendgafpkeadhaaZPS13
import Derived.Test.YtendgafpkeadhaaZPS14
import Derived.Test.YtendgafpkeadhaaZPS15
import Derived.Test.YtendgafpkeadhaaZPS16
import Derived.Test.YtendgafpkeadhaaZPS17
section
set_option linter.unusedVariables false
set_option linter.unusedSimpArgs false
namespace Go.Proofs.Ytendgafpkeadhaa.Lex
open Go Go.RowKit Go.Proofs.YtendgafpkeadhaaW.PrintWords Go.Proofs.Ytendgafpkeadhaa.Q
theorem vC : ∀ (f : Nat) (l : List UInt8) (e : Int) (r : Nat), toks f l = .error (e, r) → e ≠ 0 ∧ 1 ≤ r ∧ r ≤ l.length
 | 0, l, e, r, h => by simp [toks] at h
 | f + 1, [], e, r, h => by simp [toks] at h
 | f + 1, c :: u, e, r, h => by
  simp only [toks] at h
  split at h
  ·rename_i e1 ho
   simp only [Except.error.injEq, Prod.mk.injEq] at h
   obtain ⟨rfl, rfl⟩ := h
   exact ⟨pX ho (by simp), by simp, Nat.le_refl _⟩
  rename_i k x n m ho
  split at h
  ·rename_i e2 h2
   simp only [Except.error.injEq] at h
   subst h
   have := vC f _ e r h2
   have h3 := jG ((c :: u).drop m) false
   rw [List.length_drop] at h3
   exact ⟨this.1, this.2.1, by omega⟩
  cases h
theorem zS {l : List UInt8} {e : Int} {r : Nat} (h : Lex.scan l = .error (e, r)) : e ≠ 0 ∧ 1 ≤ r ∧ r ≤ l.length := by
 have := vC _ _ e r h
 have h3 := jG l false
 exact ⟨this.1, this.2.1, by omega⟩
theorem qi : ∀ (l : List UInt8) (b : Bool) (x r : List UInt8), unq b l = some (x, r) → x.length ≤ l.length
 | [], b, x, r, h => by cases b <;> simp [unq] at h
 | c :: t, true, x, r, h => by
  simp only [unq] at h
  split at h
  ·cases h
  simp only [Option.map_eq_some_iff, Prod.mk.injEq] at h
  obtain ⟨⟨y, s⟩, h1, h2, h3⟩ := h
  have := qi t false y s h1
  subst h2
  simp only [List.length_cons]
  omega
 | c :: t, false, x, r, h => by
  simp only [unq] at h
  split at h
  ·simp only [Option.some.injEq, Prod.mk.injEq] at h
   rw [← h.1]; simp
  split at h
  ·cases h
  split at h
  ·have := qi t true x r h
   simp only [List.length_cons]; omega
  simp only [Option.map_eq_some_iff, Prod.mk.injEq] at h
  obtain ⟨⟨y, s⟩, h1, h2, h3⟩ := h
  have := qi t false y s h1
  subst h2
  simp only [List.length_cons]
  omega
theorem CJ {l : List UInt8} {k : Int} {x : List UInt8} {n : Int} {m : Nat} (h : Lex.one l = .ok (k, x, n, m)) : x.length ≤ l.length := by
 cases l with
 | nil => simp [Lex.one] at h
 | cons c t =>
  have h1 := iE inn (c :: t)
  have h2 := iE di (c :: t)
  have h3 := vU (c :: t)
  simp only [Lex.one] at h
  repeat' split at h
  all_goals first
   | (cases h; done)
   | (simp only [Except.ok.injEq, Prod.mk.injEq] at h; obtain ⟨_, rfl, _, _⟩ := h; first | exact h1 | exact h2 | exact h3 | (have := qi _ _ _ _ ‹unq _ _ = some _›; simp only [List.length_cons]; omega))
theorem vF : ∀ (f : Nat) (l : List UInt8) (ts : List Tk), toks f l = .ok ts → ts.length ≤ l.length ∧ ∀ t ∈ ts, 1 ≤ t.rem ∧ t.rem ≤ l.length ∧ t.text.length ≤ l.length
 | 0, l, ts, h => by
  simp only [toks, Except.ok.injEq] at h
  subst h
  exact ⟨by simp, fun t ht => by cases ht⟩
 | f + 1, [], ts, h => by
  simp only [toks, Except.ok.injEq] at h
  subst h
  exact ⟨by simp, fun t ht => by cases ht⟩
 | f + 1, c :: u, ts, h => by
  simp only [toks] at h
  split at h
  ·cases h
  rename_i k x n j ho
  split at h
  ·cases h
  rename_i us hu
  simp only [Except.ok.injEq] at h
  subst h
  have hj := ql ho
  have hs := jG ((c :: u).drop j) false
  rw [List.length_drop] at hs
  obtain ⟨h1, h2⟩ := vF f _ us hu
  refine ⟨by simp only [List.length_cons] at *; omega, fun t ht => ?_⟩
  rcases List.mem_cons.1 ht with rfl | ht
  ·exact ⟨by simp, Nat.le_refl _, CJ ho⟩
  have := h2 t ht
  omega
theorem qM {l : List UInt8} {ts : List Tk} (h : Lex.scan l = .ok ts) : ts.length ≤ l.length ∧ ∀ t ∈ ts, 1 ≤ t.rem ∧ t.rem ≤ l.length ∧ t.text.length ≤ l.length := by
 obtain ⟨h1, h2⟩ := vF _ _ _ h
 have h3 := jG l false
 exact ⟨by omega, fun t ht => by have := h2 t ht; omega⟩
end Go.Proofs.Ytendgafpkeadhaa.Lex
end
section
set_option linter.unusedVariables false
set_option linter.unusedSimpArgs false
namespace Go.Proofs.Ytendgafpkeadhaa.Tree
open Go Go.RowKit Go.Proofs.YtendgafpkeadhaaW.PrintWords Go.Proofs.Ytendgafpkeadhaa.Q Go.Proofs.Ytendgafpkeadhaa.Lex
theorem EvTo.both {α : Type} {F G : Nat → Option α} {v u : α} {c : Prop} [Decidable c] (f : c → EvTo F v) (g : ¬c → EvTo G u) : EvTo (fun k => if c then F k else G k) (if c then v else u) := by
 by_cases h : c
 ·rw [if_pos h]; exact EvTo.pos h (f h)
 rw [if_neg h]; exact EvTo.neg h (g h)
def OPS : List (List UInt8) := [[43], [45], [42], [47], [37], [46, 46], [61, 61], [33, 61], [60], [60, 61], [97, 110, 100], [111, 114]]
def UNS : List (List UInt8) := [[45], [110, 111, 116], [108, 101, 110]]
def OB : ByteArray := (⟨#[32, 43, 32, 45, 32, 42, 32, 47, 32, 37, 32, 46, 46, 32, 61, 61, 32, 33, 61, 32, 60, 32, 60, 61, 32, 97, 110, 100, 32, 111, 114, 32]⟩ : ByteArray)
def UB : ByteArray := (⟨#[32, 45, 32, 110, 111, 116, 32, 108, 101, 110, 32]⟩ : ByteArray)
theorem vw : wordsOf (L OB) = OPS := by decide +kernel
theorem vk : wordsOf (L UB) = UNS := by decide +kernel
theorem Bg (w s : ByteArray) (hs : s.size ≤ 3000) (hw : w.size ≤ 1000) (hne : ¬ s.toList = ([] : List UInt8)) : ∀ (m i : Nat), w.size ≤ m + i → i ≤ w.size + 1 →
 EvTo (fun k => aX.l1 k w s ((s.size + 2 : Nat) : Int) (i : Int)) (jA (32 :: (L s ++ [32])) ((L w).drop i)) := by
 have hb : (32 :: (L s ++ [32])).length = s.size + 2 := by rw [L_size]; simp
 have hwL := L_size w
 have h1s : ((⟨#[32]⟩ : ByteArray) ++ s).size = 1 + s.size := by rw [ByteArray.size_append]; rfl
 have hLb : (((⟨#[32]⟩ : ByteArray) ++ s) ++ (⟨#[32]⟩ : ByteArray)).toList = 32 :: (L s ++ [32]) := by
  rw [iK, L_append, L_append]; rfl
 intro m
 induction m with
 | zero =>
  intro i h1 h2
  refine EvTo.step (fun k => by rw [aX.l1]) (EvTo.neg hne ?_)
  refine EvTo.step (fun k => by rw [aX.j2]) (EvTo.neg ?_ ?_)
  ·rw [w64 (by omega) (by omega)]; simp; omega
  rw [kJ _ _ (by rw [List.length_drop, hb]; omega)]
  exact EvTo.now
 | succ m ih =>
  intro i h1 h2
  refine EvTo.step (fun k => by rw [aX.l1]) (EvTo.neg hne ?_)
  have hwr : wrap64 ((i : Int) + ((s.size + 2 : Nat) : Int)) = ((i + (s.size + 2) : Nat) : Int) := by rw [w64 (by omega) (by omega)]; omega
  rw [hwr]
  refine EvTo.step (fun k => by rw [aX.j2]) ?_
  rw [hwr]
  by_cases c : i + (s.size + 2) ≤ w.size
  ·refine EvTo.pos (decide_eq_true (by omega)) (EvTo.pos (by omega) (EvTo.pos (by omega) (EvTo.pos (by omega) (EvTo.pos (by omega) (EvTo.pos (by omega) ?_)))))
   rw [Int.toNat_natCast, Int.toNat_natCast, iK, BC, hLb, inc i (by omega)]
   have hd := iM (L w) i (by omega)
   by_cases e : ((L w).drop i).take (s.size + 2) = 32 :: (L s ++ [32])
   ·refine EvTo.pos e ?_
    have : jA (32 :: (L s ++ [32])) ((L w).drop i) = true := by
     rw [hd] at e ⊢
     rw [jA, Bool.or_eq_true, jK]
     refine Or.inl ⟨?_, by rw [hb]; exact e⟩
     rw [hb, ← hd, List.length_drop]; omega
    rw [this]
    exact EvTo.now
   refine EvTo.neg e ?_
   have : jA (32 :: (L s ++ [32])) ((L w).drop i) = jA (32 :: (L s ++ [32])) ((L w).drop (i + 1)) := by
    rw [hd, jA, ← hd]
    have : List.isPrefixOf (32 :: (L s ++ [32])) ((L w).drop i) = false := by
     rw [Bool.eq_false_iff, ne_eq, jK]
     rintro ⟨_, q⟩
     rw [hb] at q
     exact e q
    rw [this, Bool.false_or]
   rw [this]
   exact ih (i + 1) (by omega) (by omega)
  refine EvTo.neg (by simp; omega) ?_
  rw [kJ _ _ (by rw [List.length_drop, hb]; omega)]
  exact EvTo.now
theorem rM (q : UInt8 → Bool) (l : List UInt8) : (l.takeWhile q).all q = true := by
 induction l with
 | nil => rfl
 | cons a t ih =>
  rw [List.takeWhile_cons]
  split
  ·rename_i h; rw [List.all_cons, h, ih]; rfl
  rfl
theorem nR : ∀ (l x : List UInt8), x ∈ wordsOf l → x.all lK = true
 | [], x, h => by simp [wordsOf] at h
 | c :: t, x, h => by
  rw [wordsOf] at h
  split at h
  ·rcases List.mem_cons.1 h with rfl | h
   ·exact rM _ _
   exact nR t x h
  exact nR t x h
theorem Bh (w s : ByteArray) (hs : s.size ≤ 3000) (hw : w.size ≤ 1000) (hn : (wordsOf (L w)).contains [] = false) : ∀ (m i : Nat), s.size = m + i →
 (∀ j, j < i → (L s).getD j 0 ≠ 32) → EvTo (fun k => aX.l0 k w s (s.size : Int) (i : Int)) ((wordsOf (L w)).contains (L s)) := by
 have hL := L_size s
 intro m
 induction m with
 | zero =>
  intro i h1 h2
  refine EvTo.step (fun k => by rw [aX.l0]) (EvTo.neg (by omega) ?_)
  have hall : (L s).all lK = true := by
   rw [List.all_eq_true]
   intro x hx
   obtain ⟨j, hj, rfl⟩ := List.getElem_of_mem hx
   have := h2 j (by omega)
   rw [List.getD_eq_getElem?_getD, List.getElem?_eq_getElem hj] at this
   simpa [lK] using this
  rw [w64 (n := (s.size : Int) + 2) (by omega) (by omega), show (s.size : Int) + 2 = ((s.size + 2 : Nat) : Int) by omega]
  by_cases e : s.toList = ([] : List UInt8)
  ·rw [(isE s).1 e, hn]
   refine EvTo.step (fun k => by rw [aX.l1]) (EvTo.pos e ?_)
   exact EvTo.step (fun k => by rw [aX.j2]) (EvTo.neg (by simp) EvTo.now)
  rw [← nV _ hall]
  have := Bg w s hs hw e w.size 0 (by omega) (by omega)
  rw [List.drop_zero] at this
  exact this
 | succ m ih =>
  intro i h1 h2
  refine EvTo.step (fun k => by rw [aX.l0]) (EvTo.pos (by omega) (EvTo.pos (by omega) (EvTo.pos (by omega) ?_)))
  rw [xy, inc i (by omega)]
  have hsplit : ((((L s).getD i 0).toNat : Int) = 32) ↔ (L s).getD i 0 = 32 := gX _ 32
  by_cases c : (L s).getD i 0 = 32
  ·refine EvTo.pos (hsplit.2 c) ?_
   have : (wordsOf (L w)).contains (L s) = false := by
    rw [Bool.eq_false_iff]
    intro h
    have := nR _ _ (List.contains_iff_mem.1 h)
    rw [List.all_eq_true] at this
    have hi : i < (L s).length := by omega
    have := this _ (List.getElem_mem hi)
    rw [List.getD_eq_getElem?_getD, List.getElem?_eq_getElem hi] at c
    simp at c
    rw [c] at this
    exact absurd this (by decide)
   rw [this]
   exact EvTo.now
  refine EvTo.neg (fun h => c (hsplit.1 h)) (ih (i + 1) (by omega) (fun j hj => ?_))
  rcases Nat.eq_or_lt_of_le (Nat.lt_succ_iff.1 hj) with rfl | hj
  ·exact c
  exact h2 j hj
theorem yH (w s : ByteArray) (hs : s.size ≤ 3000) (hw : w.size ≤ 1000) (hn : (wordsOf (L w)).contains [] = false) : EvTo (fun k => aX.f k w s) ((wordsOf (L w)).contains (L s)) := by
 have := Bh w s hs hw hn s.size 0 (by omega) (fun j hj => by omega)
 exact this
/-- What a node of a kind has, and whether there is such a kind; what its number may be. -/
def wC (a : Int) : Int × Bool :=
 if a = 1 then (5, true) else if a = 2 then (7, true) else if a = 3 ∨ a = 4 ∨ a = 6 ∨ a = 7 ∨ a = 21 then (1, true) else if a = 19 then (4, true) else if a = 20 then (32, true)
 else if a = 23 then (3, true) else if a = 27 then (8, true) else if a = 28 then (16, true) else (0, decide (1 ≤ a ∧ a ≤ 30))
def rangeS (a : Int) : Int × Int := if a = 1 then (1, 2147483647) else if a = 2 then (0, 8) else (0, 9223372036854775807)
theorem wz (a : Int) (b : Bool) (h : b = decide (a = 3 ∨ a = 4 ∨ a = 6 ∨ a = 7 ∨ a = 21)) (h1 : a ≠ 1) (h2 : a ≠ 2) : EvTo (fun k => dh.j0 k a a b) (wC a) := by
 refine EvTo.step (fun k => by rw [dh.j0]) ?_
 unfold wC
 rw [if_neg h1, if_neg h2]
 by_cases c : a = 3 ∨ a = 4 ∨ a = 6 ∨ a = 7 ∨ a = 21
 ·rw [if_pos c]
  exact EvTo.pos (by rw [h]; exact decide_eq_true c) EvTo.now
 rw [if_neg c]
 refine EvTo.neg (by rw [h]; simpa using c) ?_
 refine EvTo.both (fun _ => EvTo.now) (fun c1 => EvTo.both (fun _ => EvTo.now) (fun c2 => EvTo.both (fun _ => EvTo.now) (fun c3 => EvTo.both (fun _ => EvTo.now) (fun c4 => EvTo.both (fun _ => EvTo.now) (fun c5 => ?_)))))
 by_cases c6 : a ≥ 1
 ·refine EvTo.pos c6 ?_
  rw [show (decide (1 ≤ a ∧ a ≤ 30)) = decide (a ≤ 30) from by simp; omega]
  exact EvTo.now
 refine EvTo.neg c6 ?_
 rw [show (decide (1 ≤ a ∧ a ≤ 30)) = false from decide_eq_false (by omega)]
 exact EvTo.now
theorem F5 (a : Int) : EvTo (fun k => dh.f k a) (wC a) := by
 unfold dh.f
 by_cases h1 : a = 1
 ·subst h1; exact EvTo.pos rfl EvTo.now
 refine EvTo.neg h1 ?_
 by_cases h2 : a = 2
 ·subst h2; exact EvTo.pos rfl EvTo.now
 refine EvTo.neg h2 ?_
 by_cases h3 : a = 3
 ·exact EvTo.pos h3 (wz a _ (by simp [h3]) h1 h2)
 refine EvTo.neg h3 ?_
 by_cases h4 : a = 4
 ·exact EvTo.pos h4 (wz a _ (by simp [h4]) h1 h2)
 refine EvTo.neg h4 ?_
 by_cases h5 : a = 6
 ·exact EvTo.pos h5 (wz a _ (by simp [h5]) h1 h2)
 refine EvTo.neg h5 ?_
 by_cases h6 : a = 7
 ·exact EvTo.pos h6 (wz a _ (by simp [h6]) h1 h2)
 refine EvTo.neg h6 (wz a _ ?_ h1 h2)
 rw [Bool.eq_iff_iff, beq_iff_eq, decide_eq_true_eq]; omega
def qh (b m : Int) : Bool := Go.bits .and .i64 b m != 0
def textS (b : Int) (s : ByteArray) : Bool :=
 if Go.bits .and .i64 b 2 = 0 then if Go.bits .and .i64 b 8 = 0 then if Go.bits .and .i64 b 16 = 0 then if Go.bits .and .i64 b 32 = 0 then (L s).isEmpty else decide (s.size ≤ 1024) else UNS.contains (L s) else OPS.contains (L s) else jq (L s)
theorem Ec (b : Int) (s : ByteArray) (hs : s.size ≤ 3000) : EvTo (fun k => dZ.f k b s) (textS b s) := by
 unfold dZ.f textS
 refine EvTo.both (fun _ => EvTo.both (fun _ => EvTo.both (fun _ => EvTo.both (fun _ => EvTo.jL fun k => ?_) (fun _ => EvTo.jL fun k => ?_)) (fun _ => ?_)) (fun _ => ?_)) (fun _ => ?_)
 ·rw [iK]
  cases L s <;> rfl
 ·congr 1
  rw [decide_eq_decide]; omega
 ·have := yH UB s hs (by decide) (by rw [vk]; decide)
  rw [vk] at this
  exact EvTo.bind (G := fun _ t => some t) this EvTo.now
 ·have := yH OB s hs (by decide) (by rw [vw]; decide)
  rw [vw] at this
  exact EvTo.bind (G := fun _ t => some t) this EvTo.now
 exact EvTo.bind (G := fun _ t => some t) (xH s (by omega)) EvTo.now
/-- A node has just what it may. -/
def yu (b : Int) (ok : Bool) (lo hi : Int) (x : S41) : Bool :=
 ok && (textS b x.f4 && ((qh b 1 == jq (L x.f2)) && ((qh b 1 || (L x.f2).isEmpty) && (if Go.bits .and .i64 b 4 = 0 then x.f3 == 0 else decide (lo ≤ x.f3 ∧ x.f3 ≤ hi)))))
def ng (x : S41) : Bool := yu (wC x.f0).1 (wC x.f0).2 (rangeS x.f0).1 (rangeS x.f0).2 x
theorem BZ (a : Int) : fQ.f a = some (rangeS a) := by
 unfold fQ.f rangeS
 split
 ·rfl
 split <;> rfl
theorem oP (x : S41) (b lo hi : Int) (c : Bool) : EvTo (fun k => bf.j1 k b lo hi c x.f0 x.f1 x.f2 x.f3 x.f4) (!c && (if Go.bits .and .i64 b 4 = 0 then x.f3 == 0 else decide (lo ≤ x.f3 ∧ x.f3 ≤ hi))) := by
 refine EvTo.step (fun k => by rw [bf.j1]) ?_
 cases c with
 | true => exact EvTo.pos rfl EvTo.now
 | false =>
  refine EvTo.neg (by simp) ?_
  rw [Bool.not_false, Bool.true_and]
  refine EvTo.both (fun _ => EvTo.now) (fun c4 => ?_)
  by_cases c5 : x.f3 ≥ lo
  ·refine EvTo.pos c5 ?_
   rw [show decide (lo ≤ x.f3 ∧ x.f3 ≤ hi) = decide (x.f3 ≤ hi) from by rw [decide_eq_decide]; omega]
   exact EvTo.now
  refine EvTo.neg c5 ?_
  rw [show decide (lo ≤ x.f3 ∧ x.f3 ≤ hi) = false from decide_eq_false (by omega)]
  exact EvTo.now
theorem tH (x : S41) (h2 : x.f2.size ≤ 3000) (b lo hi : Int) (c : Bool) : EvTo (fun k => bf.j0 k b lo hi c x.f0 x.f1 x.f2 x.f3 x.f4)
 (!c && ((qh b 1 == jq (L x.f2)) && ((qh b 1 || (L x.f2).isEmpty) && (if Go.bits .and .i64 b 4 = 0 then x.f3 == 0 else decide (lo ≤ x.f3 ∧ x.f3 ≤ hi))))) := by
 refine EvTo.step (fun k => by rw [bf.j0]) ?_
 cases c with
 | true => exact EvTo.pos rfl EvTo.now
 | false =>
  refine EvTo.neg (by simp) (EvTo.bind (xH x.f2 (by omega)) ?_)
  rw [Bool.not_false, Bool.true_and]
  by_cases c1 : qh b 1 = jq (L x.f2)
  ·rw [beq_iff_eq.2 c1, Bool.true_and]
   refine EvTo.neg (by unfold qh at c1; rw [c1]; simp) ?_
   by_cases c2 : Go.bits .and .i64 b 1 = 0
   ·refine EvTo.pos c2 ?_
    have hb : qh b 1 = false := by unfold qh; rw [c2]; rfl
    rw [hb, Bool.false_or]
    have := oP x b lo hi (x.f2.toList != ([] : List UInt8))
    rwa [show (!(x.f2.toList != ([] : List UInt8))) = (L x.f2).isEmpty from by rw [iK]; cases L x.f2 <;> rfl] at this
   refine EvTo.neg c2 ?_
   have hb : qh b 1 = true := by unfold qh; simpa using c2
   rw [hb, Bool.true_or, Bool.true_and]
   have := oP x b lo hi false
   rwa [Bool.not_false, Bool.true_and] at this
  rw [show (qh b 1 == jq (L x.f2)) = false from beq_eq_false_iff_ne.2 c1, Bool.false_and]
  exact EvTo.pos (by unfold qh at c1; simpa using c1) (oP x b lo hi true)
theorem AO (x : S41) (h2 : x.f2.size ≤ 3000) (h4 : x.f4.size ≤ 3000) : EvTo (fun k => bf.f k x.f0 x.f1 x.f2 x.f3 x.f4) (ng x) := by
 unfold bf.f ng yu
 refine EvTo.bind (F5 x.f0) ?_
 simp only [BZ, Option.bind_some]
 cases hok : (wC x.f0).2 with
 | false =>
  rw [Bool.false_and]
  exact EvTo.neg (by simp) (tH x h2 _ _ _ true)
 | true =>
  rw [Bool.true_and]
  refine EvTo.pos rfl (EvTo.bind (Ec _ _ h4) ?_)
  have := tH x h2 (wC x.f0).1 (rangeS x.f0).1 (rangeS x.f0).2 (!textS (wC x.f0).1 x.f4)
  rwa [Bool.not_not] at this
/-! Kids. -/
def exS (l : List Int) (lo hi : Nat) : Bool := decide (lo ≤ l.length ∧ l.length ≤ hi) && l.all jS
def ifS (hi : Nat) (l : List Int) : Bool := decide (2 ≤ l.length ∧ l.length ≤ hi) && (jS (rd l 0) && (l.drop 1).all (· == 5))
def Di (l : List Int) : Bool := decide (1 ≤ l.length ∧ l.length ≤ 9) && (rd l ((l.length - 1 : Nat) : Int) == 5 && (l.take (l.length - 1)).all (· == 4))
def uy (l : List Int) : Bool := (l.dropWhile (· == 2)).all (· == 3)
def iT (a : Int) (l : List Int) : Bool :=
 if a = 1 then uy l else if a = 3 ∨ a = 24 then Di l else if a = 5 then l.all jJ else if a = 9 then ifS 3 l else if a = 10 then ifS 2 l else if a = 8 then exS l 3 3
 else if a = 6 ∨ a = 7 ∨ a = 13 ∨ a = 14 ∨ a = 15 ∨ a = 17 ∨ a = 28 ∨ a = 30 then exS l 1 1 else if a = 22 then exS l 1 9 else if a = 23 then exS l 0 8 else if a = 26 ∨ a = 27 then exS l 2 2 else decide (l.length = 0)
theorem ni (l : List Int) (lo hi : Nat) : dM.f l (lo : Int) (hi : Int) = some (exS l lo hi) := by
 unfold dM.f exS lZ.f
 by_cases c : lo ≤ l.length
 ·rw [if_pos (by omega)]
  by_cases c2 : l.length ≤ hi
  ·rw [if_pos (by omega), decide_eq_true ⟨c, c2⟩]; rfl
  rw [if_neg (by omega), decide_eq_false (by omega)]; rfl
 rw [if_neg (by omega), decide_eq_false (by omega)]; rfl
theorem EY (a : Int) : eQ.f a = some (jS a) := by
 unfold eQ.f jS
 by_cases c : a ≥ 18
 ·rw [if_pos c]; congr 1; rw [decide_eq_decide]; omega
 rw [if_neg c]; congr 1; symm; exact decide_eq_false (by omega)
theorem xn (l : List Int) (hl : l.length ≤ 200000) : bM.f l = some (Di l) := by
 unfold bM.f Di jf.f
 by_cases c : 1 ≤ l.length
 ·rw [w64 (by omega) (by omega), show (l.length : Int) - 1 = ((l.length - 1 : Nat) : Int) by omega, if_pos (by omega)]
  by_cases c2 : l.length ≤ 9
  ·rw [if_pos (by omega), if_pos (by omega), if_pos (by omega), decide_eq_true ⟨c, c2⟩, Bool.true_and]
   by_cases c3 : rd l ((l.length - 1 : Nat) : Int) = 5
   ·rw [if_pos c3, if_pos (by omega), c3]; rfl
   rw [if_neg c3, show (rd l ((l.length - 1 : Nat) : Int) == 5) = false from beq_eq_false_iff_ne.2 c3]; rfl
  rw [if_neg (by omega), decide_eq_false (by omega)]; rfl
 rw [w64 (by omega) (by omega), if_neg (by omega), decide_eq_false (by omega)]; rfl
theorem Ak (l : List Int) (hl : l.length ≤ 200000) : ∀ (m i : Nat), l.length = m + i → EvTo (fun k => bG.l0 k l (i : Int)) (uy (l.drop i)) := by
 intro m
 induction m with
 | zero =>
  intro i h
  refine EvTo.step (fun k => by rw [bG.l0]) (EvTo.neg (by omega) (EvTo.pos (by omega) (EvTo.pos (by omega) ?_)))
  rw [Int.toNat_natCast, List.drop_eq_nil_of_le (by omega)]
  exact EvTo.now
 | succ m ih =>
  intro i h
  have hi : i < l.length := by omega
  have hrd : rd l (i : Int) = l[i] := by simp [rd, List.getD_eq_getElem?_getD, List.getElem?_eq_getElem hi]
  refine EvTo.step (fun k => by rw [bG.l0]) (EvTo.pos (by omega) (EvTo.pos (by omega) ?_))
  rw [hrd, inc i (by omega)]
  by_cases c : l[i] = 2
  ·refine EvTo.pos c ?_
   rw [show uy (l.drop i) = uy (l.drop (i + 1)) from by unfold uy; rw [List.drop_eq_getElem_cons hi, List.dropWhile_cons, if_pos (by rw [c]; rfl)]]
   exact ih (i + 1) (by omega)
  refine EvTo.neg c (EvTo.pos (by omega) ?_)
  rw [Int.toNat_natCast, show uy (l.drop i) = (l.drop i).all (· == 3) from by unfold uy; rw [List.drop_eq_getElem_cons hi, List.dropWhile_cons, if_neg (by simpa using c)]]
  exact EvTo.now
theorem Aq (l : List Int) (hl : l.length ≤ 200000) : EvTo (fun k => bG.f k l) (uy l) := by
 have := Ak l hl l.length 0 (by omega)
 exact this
theorem pG {α : Type} {F : Nat → Option α} {v : α} (h : EvTo F v) : EvTo (fun k => (F k).bind fun t => some t) v := EvTo.bind h EvTo.now
theorem CW (a : Int) (l : List Int) (hl : l.length ≤ 200000) (b : Bool) (hb : b = decide (a = 6 ∨ a = 7 ∨ a = 13 ∨ a = 14 ∨ a = 15 ∨ a = 17 ∨ a = 28 ∨ a = 30)) (h1 : a ≠ 1) (h2 : ¬ (a = 3 ∨ a = 24)) (h3 : a ≠ 5) (h4 : a ≠ 9) (h5 : a ≠ 10) (h6 : a ≠ 8) :
 EvTo (fun k => aI.j2 k l (l.length : Int) a b) (iT a l) := by
 unfold iT
 rw [if_neg h1, if_neg h2, if_neg h3, if_neg h4, if_neg h5, if_neg h6]
 refine EvTo.step (fun k => by rw [aI.j2]) ?_
 by_cases c : a = 6 ∨ a = 7 ∨ a = 13 ∨ a = 14 ∨ a = 15 ∨ a = 17 ∨ a = 28 ∨ a = 30
 ·rw [if_pos c]
  exact EvTo.pos Z70 (pG (EvTo.jL fun k => ni l 1 1))
 rw [if_neg c]
 refine EvTo.neg (by rw [hb]; simpa using c) ?_
 refine EvTo.both (fun _ => pG (EvTo.jL fun k => ni l 1 9)) (fun _ => EvTo.both (fun _ => pG (EvTo.jL fun k => ni l 0 8)) (fun _ => ?_))
 by_cases c3 : a = 26
 ·rw [if_pos (Or.inl c3)]; exact EvTo.pos c3 (pG (EvTo.jL fun k => ni l 2 2))
 refine EvTo.neg c3 ?_
 by_cases c4 : a = 27
 ·rw [if_pos (Or.inr c4)]; exact EvTo.pos c4 (pG (EvTo.jL fun k => ni l 2 2))
 rw [if_neg (show ¬ (a = 26 ∨ a = 27) by omega)]
 refine EvTo.neg c4 (EvTo.jL fun k => ?_)
 congr 1
 rw [Bool.eq_iff_iff, beq_iff_eq, decide_eq_true_eq]; omega
theorem DJ {F : Nat → Option Bool} (l : List Int) (hi : Nat) (hF : ∀ k, F k = if (l.length : Int) ≥ 2 then (if (l.length : Int) ≤ (hi : Int) then (if 0 < (l.length : Int) then ((eQ.f (rd l 0)).bind fun t153 => (if t153 = true then (if 1 ≤ (l.length : Int) then ((jf.f (l.drop 1) 5).bind fun t155 => (some t155)) else (none)) else (some false))) else (none)) else (some false)) else (some false)) :
 EvTo F (ifS hi l) := by
 refine EvTo.jL fun k => ?_
 rw [hF]
 unfold ifS
 by_cases c : 2 ≤ l.length
 ·rw [if_pos (by omega)]
  by_cases c2 : l.length ≤ hi
  ·rw [if_pos (by omega), if_pos (by omega), EY, decide_eq_true ⟨c, c2⟩, Bool.true_and, Option.bind_some]
   cases jS (rd l 0)
   ·rfl
   rw [if_pos rfl, if_pos (by omega)]; rfl
  rw [if_neg (by omega), decide_eq_false (by omega)]; rfl
 rw [if_neg (by omega), decide_eq_false (by omega)]; rfl
theorem yj (a : Int) (l : List Int) (hl : l.length ≤ 200000) (b : Bool) (hb : b = decide (a = 9 ∨ a = 10)) (h1 : a ≠ 1) (h2 : ¬ (a = 3 ∨ a = 24)) (h3 : a ≠ 5) :
 EvTo (fun k => aI.j1 k a l (l.length : Int) a b) (iT a l) := by
 refine EvTo.step (fun k => by rw [aI.j1]) ?_
 by_cases c1 : a = 9
 ·rw [show iT a l = ifS 3 l from by unfold iT; rw [if_neg h1, if_neg h2, if_neg h3, if_pos c1]]
  exact EvTo.pos (by rw [hb]; exact decide_eq_true (.inl c1)) (EvTo.pos c1 (DJ l 3 (fun k => rfl)))
 by_cases c2 : a = 10
 ·rw [show iT a l = ifS 2 l from by unfold iT; rw [if_neg h1, if_neg h2, if_neg h3, if_neg c1, if_pos c2]]
  exact EvTo.pos (by rw [hb]; exact decide_eq_true (.inr c2)) (EvTo.neg c1 (DJ l 2 (fun k => rfl)))
 refine EvTo.neg (by rw [hb]; simp [c1, c2]) ?_
 by_cases c3 : a = 8
 ·refine EvTo.pos c3 ?_
  rw [show iT a l = exS l 3 3 from by unfold iT; rw [if_neg h1, if_neg h2, if_neg h3, if_neg c1, if_neg c2, if_pos c3]]
  exact pG (EvTo.jL fun k => ni l 3 3)
 refine EvTo.neg c3 ?_
 have go : ∀ b : Bool, b = decide (a = 6 ∨ a = 7 ∨ a = 13 ∨ a = 14 ∨ a = 15 ∨ a = 17 ∨ a = 28 ∨ a = 30) → EvTo (fun k => aI.j2 k l (l.length : Int) a b) (iT a l) := fun b hb => CW a l hl b hb h1 h2 h3 c1 c2 c3
 by_cases d1 : a = 6
 ·exact EvTo.pos d1 (go _ (by simp [d1]))
 refine EvTo.neg d1 ?_
 by_cases d2 : a = 7
 ·exact EvTo.pos d2 (go _ (by simp [d2]))
 refine EvTo.neg d2 ?_
 by_cases d3 : a = 13
 ·exact EvTo.pos d3 (go _ (by simp [d3]))
 refine EvTo.neg d3 ?_
 by_cases d4 : a = 14
 ·exact EvTo.pos d4 (go _ (by simp [d4]))
 refine EvTo.neg d4 ?_
 by_cases d5 : a = 15
 ·exact EvTo.pos d5 (go _ (by simp [d5]))
 refine EvTo.neg d5 ?_
 by_cases d6 : a = 17
 ·exact EvTo.pos d6 (go _ (by simp [d6]))
 refine EvTo.neg d6 ?_
 by_cases d7 : a = 28
 ·exact EvTo.pos d7 (go _ (by simp [d7]))
 exact EvTo.neg d7 (go _ Z72)
theorem yl (a : Int) (l : List Int) (hl : l.length ≤ 200000) (b : Bool) (hb : b = decide (a = 3 ∨ a = 24)) (h1 : a ≠ 1) : EvTo (fun k => aI.j0 k a l (l.length : Int) a b) (iT a l) := by
 refine EvTo.step (fun k => by rw [aI.j0]) ?_
 by_cases c : a = 3 ∨ a = 24
 ·refine EvTo.pos Z70 ?_
  rw [show iT a l = Di l from by unfold iT; rw [if_neg h1, if_pos c]]
  exact pG (EvTo.jL fun k => xn l hl)
 refine EvTo.neg (by rw [hb]; simpa using c) ?_
 by_cases c1 : a = 5
 ·refine EvTo.pos c1 ?_
  rw [show iT a l = l.all jJ from by unfold iT; rw [if_neg h1, if_neg c, if_pos c1]]
  exact EvTo.now
 refine EvTo.neg c1 ?_
 by_cases d1 : a = 9
 ·exact EvTo.pos d1 (yj a l hl _ (by simp [d1]) h1 c c1)
 exact EvTo.neg d1 (yj a l hl _ Z72 h1 c c1)
theorem ED (a : Int) (l : List Int) (hl : l.length ≤ 200000) : EvTo (fun k => aI.f k a l) (iT a l) := by
 unfold aI.f
 by_cases c : a = 1
 ·refine EvTo.pos c ?_
  rw [show iT a l = uy l from by unfold iT; rw [if_pos c]]
  exact pG (Aq l hl)
 refine EvTo.neg c ?_
 by_cases d1 : a = 3
 ·exact EvTo.pos d1 (yl a l hl _ (by simp [d1]) c)
 exact EvTo.neg d1 (yl a l hl _ Z72 c)
end Go.Proofs.Ytendgafpkeadhaa.Tree
end
section
set_option linter.unusedVariables false
set_option linter.unusedSimpArgs false
namespace Go.Proofs.Ytendgafpkeadhaa.Tree
open Go Go.RowKit Go.Proofs.YtendgafpkeadhaaW.PrintWords Go.Proofs.Ytendgafpkeadhaa.Q Go.Proofs.Ytendgafpkeadhaa.Lex
/-- The kinds of a node's kids. -/
def EC (l : List S41) (i : Nat) : List Int := (its l (rd_T41 l (i : Int)).f1.toNat ((i + 1 : Nat) : Int)).map fun p => (rd_T41 l p).f0
def AL (l : List S41) (i : Nat) : Bool := ng (rd_T41 l (i : Int)) && iT (rd_T41 l (i : Int)).f0 (EC l i)
/-- The first node from a place on that is not right; so many are left. -/
def Be (l : List S41) : Nat → Nat → Int × Int
 | 0, _ => (0, 0)
 | m + 1, i => if AL l i then Be l m (i + 1) else (4, (i : Int))
def uj (l : List S41) : Bool := decide (iy l.length l 1 = some l.length)
def checkS (l : List S41) : Int × Int :=
 if 2000 < l.length then (3, 0) else if uj l = false then (2, 0) else if 60 < qg l [] 0 then (3, 0) else if (rd_T41 l 0).f0 ≠ 1 then (4, 0) else Be l l.length 0
/-- Names and texts are short. -/
def short (l : List S41) : Prop := ∀ x ∈ l, x.f2.size ≤ 3000 ∧ x.f4.size ≤ 3000
theorem zO {l : List S41} (h : short l) (i : Nat) (hi : i < l.length) : (rd_T41 l (i : Int)).f2.size ≤ 3000 ∧ (rd_T41 l (i : Int)).f4.size ≤ 3000 := by
 rw [rd36 l i hi]
 exact h _ (List.getElem_mem hi)
theorem BG (l : List S41) (hl : l.length ≤ 100000) (hs : short l) (i : Nat) (hi : i < l.length) (ks : List Int) (hks : ks.length ≤ 100000) (hk : ∀ q ∈ ks, 0 ≤ q ∧ q < (l.length : Int)) (v : Int × Int)
 (hnext : EvTo (fun k => aV.l0 k l l (l.length : Int) ((i + 1 : Nat) : Int)) v) : ∀ (m idx : Nat) (acc : List Int), ks.length = m + idx → acc.length = idx →
 EvTo (fun k => aV.l1 k l (i : Int) acc l (l.length : Int) (i : Int) ks (ks.length : Int) (idx : Int) (rd_T41 l (i : Int)).f0 (rd_T41 l (i : Int)).f1 (rd_T41 l (i : Int)).f2 (rd_T41 l (i : Int)).f3 (rd_T41 l (i : Int)).f4)
  (if ng (rd_T41 l (i : Int)) && iT (rd_T41 l (i : Int)).f0 (acc ++ (ks.drop idx).map fun p => (rd_T41 l p).f0) then v else (4, (i : Int))) := by
 obtain ⟨h2, h4⟩ := zO hs i hi
 intro m
 induction m with
 | zero =>
  intro idx acc h1 ha
  refine EvTo.step (fun k => by rw [aV.l1]) ?_
  refine EvTo.neg (by omega) ?_
  rw [List.drop_eq_nil_of_le (by omega), List.map_nil, List.append_nil]
  refine EvTo.bind (AO _ h2 h4) ?_
  cases ng (rd_T41 l (i : Int)) with
  | false => exact EvTo.neg (by simp) EvTo.now
  | true =>
   refine EvTo.pos rfl (EvTo.bind (ED _ acc (by omega)) ?_)
   rw [Bool.true_and]
   cases iT (rd_T41 l (i : Int)).f0 acc with
   | false => exact EvTo.neg (by simp) EvTo.now
   | true =>
    refine EvTo.pos rfl ?_
    rw [inc i (by omega)]
    exact hnext
 | succ m ih =>
  intro idx acc h1 ha
  have hx : idx < ks.length := by omega
  have hrd : rd ks (idx : Int) = ks[idx] := by simp [rd, List.getD_eq_getElem?_getD, List.getElem?_eq_getElem hx]
  have hq := hk _ (List.getElem_mem hx)
  refine EvTo.step (fun k => by rw [aV.l1]) ?_
  refine EvTo.pos (by omega) (EvTo.pos (by omega) (EvTo.pos (by omega) ?_))
  rw [hrd, inc idx (by omega)]
  refine EvTo.pos hq.1 (EvTo.pos hq.2 (EvTo.pos (by omega) ?_))
  have := ih (idx + 1) (acc ++ [(rd_T41 l ks[idx]).f0]) (by omega) (by simp [ha])
  rw [List.append_assoc] at this
  rw [List.drop_eq_getElem_cons hx, List.map_cons]
  exact this
theorem BH (l : List S41) (hl : l.length ≤ 100000) (hs : short l) (hw : iy l.length l 1 = some l.length) : ∀ (m i : Nat), l.length = m + i → EvTo (fun k => aV.l0 k l l (l.length : Int) (i : Int)) (Be l m i) := by
 intro m
 induction m with
 | zero =>
  intro i h1
  refine EvTo.step (fun k => by rw [aV.l0]) ?_
  exact EvTo.neg (by omega) EvTo.now
 | succ m ih =>
  intro i h1
  have hi : i < l.length := by omega
  obtain ⟨hK, hK1, hK2⟩ := xJ hl hw i hi
  refine EvTo.step (fun k => by rw [aV.l0]) ?_
  refine EvTo.pos (by omega) (EvTo.pos (by omega) (EvTo.pos (by omega) (EvTo.bind hK ?_)))
  have := BG l hl hs i hi _ hK1 (fun q hq => by have := hK2 q hq; omega) _ (ih (i + 1) (by omega)) _ 0 [] rfl rfl
  rw [List.drop_zero, List.nil_append] at this
  exact this
theorem sO {l : List S41} : iV l 0 = (l.length : Int) ∧ l ≠ [] ↔ iy l.length l 1 = some l.length := by
 unfold iV
 rw [if_neg (by omega), Int.toNat_zero, List.drop_zero]
 cases h : iy l.length l 1 with
 | none =>
  simp only [oQ]; constructor; · intro h; omega
  intro h; cases h
 | some m =>
  have := uH _ _ _ _ h
  simp only [oQ, Option.some.injEq]
  constructor
  ·intro h; omega
  intro h; exact ⟨by omega, by rintro rfl; simp at this; omega⟩
theorem DC (l : List S41) (hl : l.length ≤ 100000) (hs : short l) : EvTo (fun k => aV.f k l) (checkS l) := by
 unfold aV.f checkS
 by_cases c : 2000 < l.length
 ·rw [if_pos c]; exact EvTo.pos (by omega) EvTo.now
 rw [if_neg c]
 refine EvTo.neg (by omega) ?_
 by_cases c1 : l = []
 ·subst c1
  refine EvTo.pos rfl (EvTo.step (fun k => by rw [aV.j0]) (EvTo.pos rfl ?_))
  exact EvTo.now
 have hlen : l.length ≠ 0 := fun h => c1 (List.eq_nil_of_length_eq_zero h)
 refine EvTo.neg (by omega) (EvTo.bind (uh l hl 0) ?_)
 by_cases hw : iy l.length l 1 = some l.length
 ·rw [show uj l = true from decide_eq_true hw, if_neg (by simp)]
  refine EvTo.step (fun k => by rw [aV.j0]) ?_
  refine EvTo.neg (by rw [(sO.2 hw).1]; simp) ?_
  have hwb : nS l l.length = true := yO l l.length (Nat.le_refl _) (fun q hq => by
   obtain ⟨m', _, e⟩ := yz _ _ _ _ q hw (Nat.le_refl 1) hq
   rw [e]; rfl)
  have hd := D9 l hl
  rw [hwb, if_pos rfl] at hd
  refine EvTo.bind hd ?_
  by_cases c2 : 60 < qg l [] 0
  ·rw [if_pos c2]; exact EvTo.pos (by omega) EvTo.now
  rw [if_neg c2]
  refine EvTo.neg (by omega) (EvTo.pos (by omega) ?_)
  by_cases c3 : (rd_T41 l 0).f0 = 1
  ·rw [if_neg (fun q => q c3)]
   exact EvTo.pos c3 (BH l hl hs hw l.length 0 (by omega))
  rw [if_pos c3]
  exact EvTo.neg c3 EvTo.now
 rw [show uj l = false from decide_eq_false hw, if_pos rfl]
 refine EvTo.step (fun k => by rw [aV.j0]) ?_
 refine EvTo.pos ?_ EvTo.now
 rw [bne_iff_ne]
 intro e
 exact hw (sO.1 ⟨e, c1⟩)
/-- Of nodes that are right each one is. -/
theorem zu (l : List S41) : ∀ (m i : Nat), (Be l m i).1 = 0 → ∀ j, i ≤ j → j < i + m → AL l j = true := by
 intro m
 induction m with
 | zero => intro i _ j h1 h2; omega
 | succ m ih =>
  intro i h j h1 h2
  simp only [Be] at h
  split at h
  ·rename_i hg
   rcases Nat.eq_or_lt_of_le h1 with rfl | h1
   ·exact hg
   exact ih (i + 1) h j h1 (by omega)
  simp at h
theorem checkS_ok {l : List S41} (h : (checkS l).1 = 0) : l.length ≤ 2000 ∧ iy l.length l 1 = some l.length ∧ qg l [] 0 ≤ 60 ∧ (rd_T41 l 0).f0 = 1 ∧ ∀ i, i < l.length → AL l i = true := by
 unfold checkS at h
 split at h
 ·cases h
 split at h
 ·cases h
 split at h
 ·cases h
 split at h
 ·cases h
 rename_i h1 h2 h3 h4
 refine ⟨by omega, ?_, by omega, by simpa using h4, fun i hi => zu l l.length 0 h i (Nat.zero_le _) (by omega)⟩
 unfold uj at h2
 simpa using h2
end Go.Proofs.Ytendgafpkeadhaa.Tree
end
section
set_option linter.unusedVariables false
set_option linter.unusedSimpArgs false
namespace Go.Proofs.Ytendgafpkeadhaa.Par
open Go Go.RowKit Go.Proofs.YtendgafpkeadhaaW.PrintWords Go.Proofs.Ytendgafpkeadhaa.Q Go.Proofs.Ytendgafpkeadhaa.Lex Go.Proofs.Ytendgafpkeadhaa.Tree
/-- What a reading comes to: a tree with which nothing is wrong; or no tree, a fault and its place. -/
def Reads (M : Nat) (F : Nat → Option (List S41 × Int × Int)) : Prop := ∃ l e a, EvTo F (l, e, a) ∧ (e = 0 → a = 0 ∧ EvTo (fun k => aV.f k l) (0, 0)) ∧ (e ≠ 0 → l = [] ∧ 0 ≤ a ∧ a ≤ (M : Int))
end Go.Proofs.Ytendgafpkeadhaa.Par
end
section
set_option linter.unusedVariables false
set_option linter.unusedSimpArgs false
namespace Go.Proofs.Ytendgafpkeadhaa.Par
open Go Go.RowKit Go.Proofs.YtendgafpkeadhaaW.PrintWords Go.Proofs.Ytendgafpkeadhaa.Q Go.Proofs.Ytendgafpkeadhaa.Lex Go.Proofs.Ytendgafpkeadhaa.Tree
/-- A token without its place. -/
def core (t : S38) : Int × ByteArray × Int := (t.f0, t.f1, t.f2)
abbrev Sim (l l' : List S38) : Prop := l.map core = l'.map core
theorem Sim.len {l l' : List S38} (h : Sim l l') : l.length = l'.length := by have := congrArg List.length h; simpa using this
theorem Sim.nil {l : List S38} (h : Sim [] l) : l = [] := by have := h.len; exact List.length_eq_zero_iff.1 this.symm
theorem Sim.cons {t : S38} {u l : List S38} (h : Sim (t :: u) l) : ∃ t' u', l = t' :: u' ∧ core t = core t' ∧ Sim u u' := by
 cases l with
 | nil => cases h
 | cons t' u' => exact ⟨t', u', rfl, (List.cons.inj h).1, (List.cons.inj h).2⟩
theorem iW {t t' : S38} (h : core t = core t') : t.f0 = t'.f0 ∧ t.f1 = t'.f1 ∧ t.f2 = t'.f2 := by
 unfold core at h
 simp only [Prod.mk.injEq] at h
 exact h
theorem qm {t t' : S38} {u u' : List S38} (h : core t = core t') : wB (t :: u) = wB (t' :: u') := by
 obtain ⟨h1, h2, _⟩ := iW h
 show (if t.f0 = 5 ∨ t.f0 = 4 then t.f1 else E) = (if t'.f0 = 5 ∨ t'.f0 = 4 then t'.f1 else E)
 rw [h1, h2]
theorem sQ {r T b : List S38} (h : r <:+ T ++ b) (hl : b.length ≤ r.length) : ∃ T2, r = T2 ++ b := by
 have := List.suffix_of_suffix_length_le (List.suffix_append T b) h hl
 obtain ⟨s, hs⟩ := this
 exact ⟨s, hs.symm⟩
theorem mV {T b : List S38} (h : T ++ b <:+ b) : T = [] := by
 have := h.length_le
 rw [List.length_append] at this
 exact List.length_eq_zero_iff.1 (by omega)
/-- What is read hangs on what is passed; on what stands behind it only as far as C says. -/
structure Loc {α : Type} (C : List S38 → List S38 → Prop) (P : Ps α) : Prop where
 suf : ∀ l x r, P l = .ok (x, r) → r <:+ l
 sufE : ∀ l r, P l = .error (some r) → r <:+ l
 ok : ∀ T T' b b' x T2, Sim T T' → (T2 = [] → C b b') → P (T ++ b) = .ok (x, T2 ++ b) → ∃ T2', Sim T2 T2' ∧ P (T' ++ b') = .ok (x, T2' ++ b')
 er : ∀ T T' b b' T2, Sim T T' → T2 ≠ [] → P (T ++ b) = .error (some (T2 ++ b)) → ∃ T2', Sim T2 T2' ∧ P (T' ++ b') = .error (some (T2' ++ b'))
/-- Something is passed. -/
def Cns {α : Type} (P : Ps α) : Prop := ∀ l x r, P l = .ok (x, r) → r.length < l.length
structure LC {α : Type} (C : List S38 → List S38 → Prop) (P : Ps α) : Prop where
 loc : Loc C P
 cns : Cns P
abbrev Tr : List S38 → List S38 → Prop := fun _ _ => True
theorem oU {α β : Type} {P : Ps α} {f : α → Ps β} {l : List S38} {y : β} {r : List S38} (h : bnd P f l = .ok (y, r)) : ∃ x s, P l = .ok (x, s) ∧ f x s = .ok (y, r) := by
 unfold bnd at h
 match hp : P l, h with
 | .ok (x, s), h => exact ⟨x, s, rfl, h⟩
 | .error e, h => cases h
theorem rJ {α β : Type} {P : Ps α} {f : α → Ps β} {l : List S38} {r : List S38} (h : bnd P f l = .error (some r)) : P l = .error (some r) ∨ ∃ x s, P l = .ok (x, s) ∧ f x s = .error (some r) := by
 unfold bnd at h
 match hp : P l, h with
 | .ok (x, s), h => exact Or.inr ⟨x, s, rfl, h⟩
 | .error e, h => exact Or.inl (by simpa using h)
theorem uK {α β : Type} {P : Ps α} {f : α → Ps β} {l s : List S38} {x : α} (h : P l = .ok (x, s)) : bnd P f l = f x s := by
 unfold bnd; rw [h]
theorem yC {α β : Type} {P : Ps α} {f : α → Ps β} {l s : List S38} (h : P l = .error (some s)) : bnd P f l = .error (some s) := by
 unfold bnd; rw [h]
theorem Loc.gen {α β : Type} {C1 C2 : List S38 → List S38 → Prop} {P : Ps α} {f : α → Ps β} (hp : Loc C1 P) (hf : ∀ x, Loc C2 (f x)) (hc : (∀ b b', C2 b b' → C1 b b') ∨ ∀ x, Cns (f x)) : Loc C2 (bnd P f) where
 suf l y r h := by
  obtain ⟨x, s, h1, h2⟩ := oU h
  exact ((hf x).suf _ _ _ h2).trans (hp.suf _ _ _ h1)
 sufE l r h := by
  rcases rJ h with h1 | ⟨x, s, h1, h2⟩
  ·exact hp.sufE _ _ h1
  exact ((hf x).sufE _ _ h2).trans (hp.suf _ _ _ h1)
 ok T T' b b' y T3 hs hC h := by
  obtain ⟨x, s, h1, h2⟩ := oU h
  have s1 := hp.suf _ _ _ h1
  have s2 := (hf x).suf _ _ _ h2
  obtain ⟨T2, rfl⟩ := sQ s1 (Nat.le_trans (by simp) s2.length_le)
  have hC1 : T2 = [] → C1 b b' := by
   rintro rfl
   rcases hc with hc | hc
   ·exact hc _ _ (hC (mV s2))
   have := hc x _ _ _ h2
   simp at this
   omega
  obtain ⟨T2', g1, g2⟩ := hp.ok T T' b b' x T2 hs hC1 h1
  obtain ⟨T3', e1, e2⟩ := (hf x).ok T2 T2' b b' y T3 g1 hC h2
  exact ⟨T3', e1, by rw [uK g2]; exact e2⟩
 er T T' b b' T3 hs hT h := by
  rcases rJ h with h1 | ⟨x, s, h1, h2⟩
  ·obtain ⟨T2', g1, g2⟩ := hp.er T T' b b' T3 hs hT h1
   exact ⟨T2', g1, yC g2⟩
  have s1 := hp.suf _ _ _ h1
  have s2 := (hf x).sufE _ _ h2
  obtain ⟨T2, rfl⟩ := sQ s1 (Nat.le_trans (by simp) s2.length_le)
  have hne : T2 ≠ [] := by rintro rfl; exact hT (mV s2)
  obtain ⟨T2', g1, g2⟩ := hp.ok T T' b b' x T2 hs (fun h => absurd h hne) h1
  obtain ⟨T3', e1, e2⟩ := (hf x).er T2 T2' b b' T3 g1 hT h2
  exact ⟨T3', e1, by rw [uK g2]; exact e2⟩
theorem Cns.left {α β : Type} {C : List S38 → List S38 → Prop} {P : Ps α} {f : α → Ps β} (hp : Cns P) (hf : ∀ x, Loc C (f x)) : Cns (bnd P f) := fun l y r h => by
 obtain ⟨x, s, h1, h2⟩ := oU h
 have := hp _ _ _ h1
 have := ((hf x).suf _ _ _ h2).length_le
 omega
variable {α β : Type} {C C1 C2 : List S38 → List S38 → Prop}
/-- Behind what passes something, what passes something. -/
theorem LC.b1 {P : Ps α} {f : α → Ps β} (hp : LC C1 P) (hf : ∀ x, LC C2 (f x)) : LC C2 (bnd P f) := ⟨hp.loc.gen (fun x => (hf x).loc) (Or.inr fun x => (hf x).cns), Cns.left hp.cns fun x => (hf x).loc⟩
theorem LC.b2 {P : Ps α} {f : α → Ps β} (hp : LC C1 P) (hf : ∀ x, Loc C2 (f x)) (hc : ∀ b b', C2 b b' → C1 b b') : LC C2 (bnd P f) := ⟨hp.loc.gen hf (Or.inl hc), Cns.left hp.cns hf⟩
theorem LC.b3 {P : Ps α} {f : α → Ps β} (hp : LC Tr P) (hf : ∀ x, Loc C2 (f x)) : LC C2 (bnd P f) := hp.b2 hf fun _ _ _ => trivial
theorem LC.weak {P : Ps α} (hp : LC Tr P) : LC C P := ⟨⟨hp.loc.suf, hp.loc.sufE, fun T T' b b' x T2 h1 _ h2 => hp.loc.ok T T' b b' x T2 h1 (fun _ => trivial) h2, hp.loc.er⟩, hp.cns⟩
theorem Loc.ret (a : α) : Loc C (ret a) where
 suf l x r h := by cases h; exact List.suffix_refl _
 sufE l r h := by cases h
 ok T T' b b' x T2 hs hC h := by
  unfold Par.ret at h ⊢
  simp only [Except.ok.injEq, Prod.mk.injEq, List.append_cancel_right_eq] at h
  obtain ⟨rfl, rfl⟩ := h
  exact ⟨T', hs, rfl⟩
 er T T' b b' T2 hs hT h := by cases h
theorem LC.out : LC C (out : Ps α) where
 loc := { suf := fun l x r h => (by cases h), sufE := fun l r h => (by cases h), ok := fun T T' b b' x T2 _ _ h => (by cases h), er := fun T T' b b' T2 _ _ h => (by cases h) }
 cns l x r h := by cases h
theorem LC.fail : LC C (fun l => (.error (some l) : R α)) where
 loc := { suf := fun l x r h => (by cases h), sufE := fun l r h => (by cases h; exact List.suffix_refl _), ok := fun T T' b b' x T2 _ _ h => (by cases h), er := fun T T' b b' T2 hs _ h => (by
  simp only [Except.error.injEq, Option.some.injEq, List.append_cancel_right_eq] at h
  subst h
  exact ⟨T', hs, rfl⟩) }
 cns l x r h := by cases h
theorem LC.tk : LC C tk := by
 refine ⟨⟨fun l x r h => ?_, fun l r h => ?_, fun T T' b b' x T2 hs hC h => ?_, fun T T' b b' T2 hs hT h => ?_⟩, fun l x r h => ?_⟩
 ·cases l with
  | nil => cases h
  | cons t u => cases h; exact List.suffix_cons _ _
 ·cases l <;> cases h
 ·cases T with
  | nil =>
   cases b with
   | nil => cases h
   | cons t u =>
    have := congrArg (fun z : R Unit => match z with | .ok (_, r) => r.length | _ => 0) h
    simp [Par.tk] at this
    omega
  | cons t u =>
   obtain ⟨t', u', rfl, h1, h2⟩ := hs.cons
   simp only [Par.tk, List.cons_append, Except.ok.injEq, Prod.mk.injEq, List.append_cancel_right_eq, true_and] at h ⊢
   subst h
   exact ⟨u', h2, rfl⟩
 ·cases hl : T ++ b with
  | nil => rw [hl] at h; cases h
  | cons t u => rw [hl] at h; cases h
 cases l with
 | nil => cases h
 | cons t u => cases h; simp
theorem LC.head {G : ByteArray → Ps α} (h : ∀ w, LC C (G w)) : LC C (fun l => G (wB l) l) := by
 refine ⟨⟨fun l x r => (h _).loc.suf l x r, fun l r => (h _).loc.sufE l r, fun T T' b b' x T2 hs hC e => ?_, fun T T' b b' T2 hs hT e => ?_⟩, fun l x r => (h _).cns l x r⟩
 ·cases T with
  | nil =>
   have := (h _).cns _ _ _ e
   simp at this
   omega
  | cons t u =>
   obtain ⟨t', u', rfl, h1, h2⟩ := hs.cons
   rw [List.cons_append, qm (u' := u' ++ b') h1, ← List.cons_append] at e
   exact (h _).loc.ok _ _ b b' x T2 hs hC e
 cases T with
 | nil => exact absurd (mV ((h _).loc.sufE _ _ e)) hT
 | cons t u =>
  obtain ⟨t', u', rfl, h1, h2⟩ := hs.cons
  rw [List.cons_append, qm (u' := u' ++ b') h1, ← List.cons_append] at e
  exact (h _).loc.er _ _ b b' T2 hs hT e
theorem Loc.head {G : ByteArray → Ps α} (h : ∀ w, Loc C (G w)) (hd : ∀ b b' x, C b b' → G (wB b) b = .ok (x, b) → G (wB b') b' = .ok (x, b')) : Loc C (fun l => G (wB l) l) := by
 refine ⟨fun l x r => (h _).suf l x r, fun l r => (h _).sufE l r, fun T T' b b' x T2 hs hC e => ?_, fun T T' b b' T2 hs hT e => ?_⟩
 ·cases T with
  | nil =>
   obtain rfl := hs.nil
   obtain rfl := mV ((h _).suf _ _ _ e)
   exact ⟨[], rfl, hd b b' x (hC rfl) e⟩
  | cons t u =>
   obtain ⟨t', u', rfl, h1, h2⟩ := hs.cons
   rw [List.cons_append, qm (u' := u' ++ b') h1, ← List.cons_append] at e
   exact (h _).ok _ _ b b' x T2 hs hC e
 cases T with
 | nil => exact absurd (mV ((h _).sufE _ _ e)) hT
 | cons t u =>
  obtain ⟨t', u', rfl, h1, h2⟩ := hs.cons
  rw [List.cons_append, qm (u' := u' ++ b') h1, ← List.cons_append] at e
  exact (h _).er _ _ b b' T2 hs hT e
theorem LC.ite {c : Prop} [Decidable c] {P Q : Ps α} (h1 : c → LC C P) (h2 : ¬c → LC C Q) : LC C (fun l => if c then P l else Q l) := by
 by_cases h : c
 ·simp only [if_pos h]; exact h1 h
 simp only [if_neg h]; exact h2 h
theorem Loc.ite {c : Prop} [Decidable c] {P Q : Ps α} (h1 : c → Loc C P) (h2 : ¬c → Loc C Q) : Loc C (fun l => if c then P l else Q l) := by
 by_cases h : c
 ·simp only [if_pos h]; exact h1 h
 simp only [if_neg h]; exact h2 h
theorem LC.must (w : List UInt8) (hw : w ≠ []) : LC C (must w) := by
 have : LC C (fun l => (fun (v : ByteArray) (l : List S38) => if v.toList = w then bnd Par.tk (fun _ => Par.ret ()) l else (.error (some l) : R Unit)) (wB l) l) := LC.head (G := fun (v : ByteArray) (l : List S38) => if v.toList = w then bnd Par.tk (fun _ => Par.ret ()) l else (.error (some l) : R Unit)) fun v => LC.ite (fun _ => LC.tk.b3 fun _ => Loc.ret ()) (fun _ => LC.fail)
 have e : Par.must w = (fun l => (fun (v : ByteArray) (l : List S38) => if v.toList = w then bnd Par.tk (fun _ => Par.ret ()) l else (.error (some l) : R Unit)) (wB l) l) := by
  funext l
  unfold Par.must
  by_cases c : wd l = w
  ·rw [if_pos c]
   show _ = if wd l = w then _ else _
   rw [if_pos c]
   cases l with
   | nil => exact absurd (lL.symm.trans c).symm hw
   | cons t u => rfl
  rw [if_neg c]
  show _ = if wd l = w then _ else _
  rw [if_neg c]
 rw [e]; exact this
theorem mZ {k : Int} {l : List S38} {t : S38} {r : List S38} (h : need k l = .ok (t, r)) : l = t :: r ∧ t.f0 = k := by
 cases l with
 | nil => cases h
 | cons s u =>
  unfold need at h
  by_cases c : s.f0 = k
  ·simp only [if_pos c, Except.ok.injEq, Prod.mk.injEq] at h
   obtain ⟨rfl, rfl⟩ := h
   exact ⟨rfl, c⟩
  simp only [if_neg c] at h; cases h
theorem yc {k : Int} {t : S38} {r : List S38} (h : t.f0 = k) : need k (t :: r) = .ok (t, r) := by simp [need, h]
theorem uw {k : Int} {l r : List S38} (h : need k l = .error (some r)) : r = l ∧ ∀ t u, l = t :: u → t.f0 ≠ k := by
 cases l with
 | nil => cases h; exact ⟨rfl, fun t u h => by cases h⟩
 | cons s u =>
  unfold need at h
  by_cases c : s.f0 = k
  ·simp only [if_pos c] at h; cases h
  simp only [if_neg c, Except.error.injEq, Option.some.injEq] at h
  exact ⟨h.symm, fun t u e => by obtain ⟨rfl, _⟩ := List.cons.inj e; exact c⟩
/-- A token of a kind, and what hangs on it, but not on its place. -/
theorem LC.need {k : Int} {f : S38 → Ps β} (hf : ∀ t, Loc C (f t)) (hc : ∀ t t', core t = core t' → f t = f t') : LC C (bnd (need k) f) := by
 refine ⟨⟨fun l y r h => ?_, fun l r h => ?_, fun T T' b b' y T2 hs hC h => ?_, fun T T' b b' T2 hs hT h => ?_⟩, fun l y r h => ?_⟩
 ·obtain ⟨t, s, h1, h2⟩ := oU h
  obtain ⟨rfl, _⟩ := mZ h1
  exact ((hf t).suf _ _ _ h2).trans (List.suffix_cons _ _)
 ·rcases rJ h with h1 | ⟨t, s, h1, h2⟩
  ·rw [(uw h1).1]; exact List.suffix_refl _
  obtain ⟨rfl, _⟩ := mZ h1
  exact ((hf t).sufE _ _ h2).trans (List.suffix_cons _ _)
 ·obtain ⟨t, s, h1, h2⟩ := oU h
  obtain ⟨e, hk⟩ := mZ h1
  cases T with
  | nil =>
   rw [List.nil_append] at e
   have := ((hf t).suf _ _ _ h2).length_le
   rw [e] at this
   simp at this
   omega
  | cons a u =>
   obtain ⟨rfl, rfl⟩ := List.cons.inj e
   obtain ⟨t', u', rfl, g1, g2⟩ := hs.cons
   obtain ⟨T2', e1, e2⟩ := (hf _).ok u u' b b' y T2 g2 hC h2
   refine ⟨T2', e1, ?_⟩
   rw [List.cons_append, uK (yc ((iW g1).1 ▸ hk)), ← hc _ _ g1]
   exact e2
 ·cases T with
  | nil =>
   rcases rJ h with h1 | ⟨t, s, h1, h2⟩
   ·exact absurd (by have := (uw h1).1; simpa using this) hT
   obtain ⟨e, _⟩ := mZ h1
   have := ((hf t).sufE _ _ h2).length_le
   rw [List.nil_append] at e
   rw [e] at this
   simp at this
   omega
  | cons a u =>
   obtain ⟨t', u', rfl, g1, g2⟩ := hs.cons
   rcases rJ h with h1 | ⟨t, s, h1, h2⟩
   ·obtain ⟨e, hn⟩ := uw h1
    have e := List.append_cancel_right e
    subst e
    refine ⟨t' :: u', hs, ?_⟩
    refine yC ?_
    have := hn a _ rfl
    rw [(iW g1).1] at this
    simp [Par.need, this]
   obtain ⟨e, hk⟩ := mZ h1
   obtain ⟨rfl, rfl⟩ := List.cons.inj e
   obtain ⟨T2', e1, e2⟩ := (hf _).er u u' b b' T2 g2 hT h2
   refine ⟨T2', e1, ?_⟩
   rw [List.cons_append, uK (yc ((iW g1).1 ▸ hk)), ← hc _ _ g1]
   exact e2
 obtain ⟨t, s, h1, h2⟩ := oU h
 obtain ⟨rfl, _⟩ := mZ h1
 have := ((hf t).suf _ _ _ h2).length_le
 simp
 omega
end Go.Proofs.Ytendgafpkeadhaa.Par
end
section
set_option linter.unusedVariables false
set_option linter.unusedSimpArgs false
namespace Go.Proofs.Ytendgafpkeadhaa.Par
open Go Go.RowKit Go.Proofs.YtendgafpkeadhaaW.PrintWords Go.Proofs.Ytendgafpkeadhaa.Q Go.Proofs.Ytendgafpkeadhaa.Lex Go.Proofs.Ytendgafpkeadhaa.Tree
/-- An expression does not go on with what stands there. -/
def St (l : List S38) : Prop := kD (wd l) = 0 ∧ wd l ≠ [40] ∧ wd l ≠ [91] ∧ wd l ≠ [46]
abbrev SC : List S38 → List S38 → Prop := fun b b' => St b ∧ St b'
abbrev Ce : List S38 → List S38 → Prop := fun b b' => wd b ≠ [101, 108, 115, 101] ∧ wd b' ≠ [101, 108, 115, 101]
structure LF (F : PF) : Prop where
 expr : LC SC F.expr
 block : LC Tr F.block
 bound : ∀ a : Int, 1 ≤ a → LC SC (F.bound a)
 unary : LC SC F.unary
variable {F : PF} {C : List S38 → List S38 → Prop}
theorem gm (w : List UInt8) (hw : w ≠ [] := by simp) : LC C (must w) := LC.must w hw
theorem mi (H : LF F) (k : Int) (nm : ByteArray) : LC C (gG F k nm) := H.expr.b1 fun e => (gm [59]).b3 fun _ => Loc.ret _
theorem xC (k : Int) : LC C (mG k) := (gm [59]).b3 fun _ => Loc.ret _
theorem BO (H : LF F) (e : List S41) : LC C (oK F e) := by
 unfold oK
 split
 ·exact (gm [61]).b1 (C1 := Tr) fun _ => H.expr.b1 fun v => (gm [59]).b3 fun _ => Loc.ret _
 exact LC.out
theorem zY (H : LF F) (e : List S41) : LC C (qQ F e) := by
 cases e with
 | nil => exact LC.head (G := fun w l => if w.toList ≠ [61] then (bnd (must [59]) fun _ => ret (nd 17 E 0 E [[]])) l else (.error none : R (List S41))) fun w => LC.ite (fun _ => (gm [59]).b3 fun _ => Loc.ret _) (fun _ => LC.out)
 | cons x t => exact (LC.head (G := fun w l => if w.toList ≠ [61] then (bnd (must [59]) fun _ => ret (nd 17 E 0 E [x :: t])) l else if x.f0 = 21 then (bnd (must [61]) fun _ => gG F 7 x.f2) l else if x.f0 = 26 then oK F (x :: t) l else (.error (some l) : R (List S41)))
  fun w => LC.ite (fun _ => (gm [59]).b3 fun _ => Loc.ret _) (fun _ => LC.ite (fun _ => (gm [61]).b1 (C1 := Tr) fun _ => mi H _ _) (fun _ => LC.ite (fun _ => BO H _) (fun _ => LC.fail))))
theorem Ci (H : LF F) : LC C (oM F) := H.expr.b1 fun e => zY H e
theorem Ee (H : LF F) : LC Ce (jJ F) :=
 LC.head (G := fun w l =>
  if w.toList = [108, 101, 116] then (bnd tk fun _ => bnd (need 1) fun t => bnd (must [61]) fun _ => gG F 6 t.f1) l
  else if w.toList = [105, 102] then (bnd tk fun _ => bnd F.expr fun e => bnd F.block fun b => fun l2 => if wd l2 = [101, 108, 115, 101] then (bnd tk fun _ => bnd F.block fun c => ret (nd 9 E 0 E [e, b, c])) l2 else .ok (nd 9 E 0 E [e, b], l2)) l
  else if w.toList = [119, 104, 105, 108, 101] then (bnd tk fun _ => bnd F.expr fun e => bnd F.block fun b => ret (nd 10 E 0 E [e, b])) l
  else if w.toList = [98, 114, 101, 97, 107] then (bnd tk fun _ => mG 11) l
  else if w.toList = [99, 111, 110, 116, 105, 110, 117, 101] then (bnd tk fun _ => mG 12) l
  else if w.toList = [121, 105, 101, 108, 100] then (bnd tk fun _ => mG 16) l
  else if w.toList = [114, 101, 116, 117, 114, 110] then (bnd tk fun _ => gG F 13 E) l
  else if w.toList = [112, 117, 116] then (bnd tk fun _ => gG F 14 E) l
  else if w.toList = [101, 109, 105, 116] then (bnd tk fun _ => gG F 15 E) l
  else oM F l) fun w =>
 LC.ite (fun _ => LC.tk.b1 (C1 := Tr) fun _ => LC.need (fun t => ((gm [61]).b1 (C1 := Tr) fun _ => mi H _ _).loc) (by intro t t' h; simp only [(iW h).2.1]))
 fun _ => LC.ite (fun _ => LC.tk.b1 (C1 := Tr) fun _ => H.expr.b1 fun e => H.block.b3 fun b =>
  Loc.head (G := fun w l2 => if w.toList = [101, 108, 115, 101] then (bnd tk fun _ => bnd F.block fun c => ret (nd 9 E 0 E [e, b, c])) l2 else .ok (nd 9 E 0 E [e, b], l2))
   (fun w => Loc.ite (fun _ => (LC.tk.b1 (C1 := Tr) fun _ => H.block.b3 fun c => Loc.ret _).loc) (fun _ => Loc.ret _))
   (fun b1 b2 x hC h => by
    have h' : (if wd b1 = [101, 108, 115, 101] then (bnd tk fun _ => bnd F.block fun c => ret (nd 9 E 0 E [e, b, c])) b1 else .ok (nd 9 E 0 E [e, b], b1)) = .ok (x, b1) := h
    rw [if_neg hC.1] at h'
    cases h'
    exact if_neg hC.2))
 fun _ => LC.ite (fun _ => LC.tk.b1 (C1 := Tr) fun _ => H.expr.b1 fun e => H.block.b3 fun b => Loc.ret _)
 fun _ => LC.ite (fun _ => LC.tk.b1 (C1 := Tr) fun _ => xC _)
 fun _ => LC.ite (fun _ => LC.tk.b1 (C1 := Tr) fun _ => xC _)
 fun _ => LC.ite (fun _ => LC.tk.b1 (C1 := Tr) fun _ => xC _)
 fun _ => LC.ite (fun _ => LC.tk.b1 (C1 := Tr) fun _ => mi H _ _)
 fun _ => LC.ite (fun _ => LC.tk.b1 (C1 := Tr) fun _ => mi H _ _)
 fun _ => LC.ite (fun _ => LC.tk.b1 (C1 := Tr) fun _ => mi H _ _)
 fun _ => Ci H
theorem wH (H : LF F) : ∀ (n : Nat) (acc : List (List S41)), LC Tr (mD F n acc)
 | 0, acc => LC.out
 | n + 1, acc => LC.head (G := fun w l => if w.toList = [125] then (bnd (must [125]) fun _ => ret (nd 5 E 0 E acc)) l else (bnd (jJ F) fun s => mD F n (acc ++ [s])) l)
  fun w => LC.ite (fun _ => (gm [125]).b3 fun _ => Loc.ret _) (fun _ => (Ee H).b1 fun s => wH H n _)
theorem yE (H : LF F) (N : Nat) : LC Tr (oW F N) := (gm [123]).b1 (C1 := Tr) fun _ => wH H N []
theorem uz {one : Ps (List S41)} {Co : List S38 → List S38 → Prop} (ho : LC Co one) : ∀ (n : Nat) (acc : List (List S41)), LC Tr (kV one n acc)
 | 0, acc => LC.out
 | n + 1, acc => LC.head (G := fun w l => if w.toList = [41] then (bnd (must [41]) fun _ => ret acc) l
  else if acc = [] then (bnd one fun x => kV one n (acc ++ [x])) l else (bnd (must [44]) fun _ => bnd one fun x => kV one n (acc ++ [x])) l)
  fun w => LC.ite (fun _ => (gm [41]).b3 fun _ => Loc.ret _) (fun _ => LC.ite (fun _ => ho.b1 fun x => uz ho n _) (fun _ => (gm [44]).b1 (C1 := Tr) fun _ => ho.b1 fun x => uz ho n _))
theorem wV {one : Ps (List S41)} {Co : List S38 → List S38 → Prop} (ho : LC Co one) (N : Nat) : LC Tr (Par.dm one N) := (gm [40]).b1 (C1 := Tr) fun _ => uz ho N []
theorem CB : LC Tr lU := LC.need (fun t => Loc.ret _) (by intro t t' h; simp only [(iW h).2.1])
theorem ru (H : LF F) (N : Nat) (k : Int) (nm : ByteArray) : LC Tr (iL F N k nm) := (wV CB N).b1 fun ps => (yE H N).b3 fun b => Loc.ret _
theorem Ew (H : LF F) (N : Nat) : LC SC (vT F N) :=
 LC.need (f := fun t => fun l => if wd l = [46] then (bnd tk fun _ => bnd (need 1) fun u => bnd (Par.dm F.expr N) fun ks => ret (nd 23 t.f1 0 u.f1 ks)) l else .ok (nd 21 t.f1 0 E [], l))
  (fun t => Loc.head (G := fun w l => if w.toList = [46] then (bnd tk fun _ => bnd (need 1) fun u => bnd (Par.dm F.expr N) fun ks => ret (nd 23 t.f1 0 u.f1 ks)) l else .ok (nd 21 t.f1 0 E [], l))
   (fun w => Loc.ite (fun _ => (LC.tk.b1 (C1 := Tr) fun _ => LC.need (fun u => ((wV H.expr N).b3 fun ks => Loc.ret _).loc) (by intro t t' h; simp only [(iW h).2.1])).loc) (fun _ => Loc.ret _))
   (fun b1 b2 x hC h => by
    have h' : (if wd b1 = [46] then (bnd tk fun _ => bnd (need 1) fun u => bnd (Par.dm F.expr N) fun ks => ret (nd 23 t.f1 0 u.f1 ks)) b1 else .ok (nd 21 t.f1 0 E [], b1)) = .ok (x, b1) := h
    rw [if_neg hC.1.2.2.2] at h'
    cases h'
    exact if_neg hC.2.2.2.2)) (by intro t t' h; simp only [(iW h).2.1])
theorem jY (N : Nat) (t : S38) (r : List S38) : lV F N (t :: r) = if t.f0 = 2 then .ok (nd 19 E t.f2 E [], r) else if t.f0 = 3 then .ok (nd 20 E 0 t.f1 [], r) else vT F N (t :: r) := rfl
theorem Ez (H : LF F) (N : Nat) : LC SC (lV F N) := by
 have hn := Ew H N
 have cns : Cns (lV F N) := fun l x r h => by
  cases l with
  | nil => cases h
  | cons t u =>
   rw [jY] at h
   by_cases c1 : t.f0 = 2
   ·rw [if_pos c1] at h; cases h; simp
   rw [if_neg c1] at h
   by_cases c2 : t.f0 = 3
   ·rw [if_pos c2] at h; cases h; simp
   rw [if_neg c2] at h
   exact hn.cns _ _ _ h
 refine ⟨⟨fun l x r h => ?_, fun l r h => ?_, fun T T' b b' x T2 hs hC h => ?_, fun T T' b b' T2 hs hT h => ?_⟩, cns⟩
 ·cases l with
  | nil => cases h
  | cons t u =>
   rw [jY] at h
   by_cases c1 : t.f0 = 2
   ·rw [if_pos c1] at h; cases h; exact List.suffix_cons _ _
   rw [if_neg c1] at h
   by_cases c2 : t.f0 = 3
   ·rw [if_pos c2] at h; cases h; exact List.suffix_cons _ _
   rw [if_neg c2] at h
   exact hn.loc.suf _ _ _ h
 ·cases l with
  | nil => cases h; exact List.suffix_refl _
  | cons t u =>
   rw [jY] at h
   by_cases c1 : t.f0 = 2
   ·rw [if_pos c1] at h; cases h
   rw [if_neg c1] at h
   by_cases c2 : t.f0 = 3
   ·rw [if_pos c2] at h; cases h
   rw [if_neg c2] at h
   exact hn.loc.sufE _ _ h
 ·cases T with
  | nil =>
   have := cns _ _ _ h
   simp at this
   omega
  | cons t u =>
   obtain ⟨t', u', rfl, h1, h2⟩ := hs.cons
   obtain ⟨g0, g1, g2⟩ := iW h1
   rw [List.cons_append, jY] at h ⊢
   rw [← g0, ← g1, ← g2]
   by_cases c1 : t.f0 = 2
   ·rw [if_pos c1] at h ⊢
    simp only [Except.ok.injEq, Prod.mk.injEq, List.append_cancel_right_eq] at h
    obtain ⟨rfl, rfl⟩ := h
    exact ⟨u', h2, rfl⟩
   rw [if_neg c1] at h ⊢
   by_cases c2 : t.f0 = 3
   ·rw [if_pos c2] at h ⊢
    simp only [Except.ok.injEq, Prod.mk.injEq, List.append_cancel_right_eq] at h
    obtain ⟨rfl, rfl⟩ := h
    exact ⟨u', h2, rfl⟩
   rw [if_neg c2] at h ⊢
   exact hn.loc.ok (t :: u) (t' :: u') b b' x T2 hs hC h
 cases T with
 | nil =>
  cases b with
  | nil =>
   simp only [List.append_nil, lV, Except.error.injEq, Option.some.injEq] at h
   exact absurd h.symm hT
  | cons t u =>
   rw [List.nil_append, jY] at h
   by_cases c1 : t.f0 = 2
   ·rw [if_pos c1] at h; cases h
   rw [if_neg c1] at h
   by_cases c2 : t.f0 = 3
   ·rw [if_pos c2] at h; cases h
   rw [if_neg c2] at h
   exact absurd (mV (hn.loc.sufE _ _ h)) hT
 | cons t u =>
  obtain ⟨t', u', rfl, h1, h2⟩ := hs.cons
  obtain ⟨g0, g1, g2⟩ := iW h1
  rw [List.cons_append, jY] at h ⊢
  rw [← g0, ← g1, ← g2]
  by_cases c1 : t.f0 = 2
  ·rw [if_pos c1] at h; cases h
  rw [if_neg c1] at h ⊢
  by_cases c2 : t.f0 = 3
  ·rw [if_pos c2] at h; cases h
  rw [if_neg c2] at h ⊢
  exact hn.loc.er (t :: u) (t' :: u') b b' T2 hs hT h
theorem Em (H : LF F) (N : Nat) : LC SC (qP F N) :=
 LC.head (G := fun w l =>
  if w.toList = [110, 105, 108] then (bnd tk fun _ => ret (nd 18 E 0 E [])) l
  else if w.toList = [115, 116, 97, 116, 101] then (bnd tk fun _ => ret (nd 29 E 0 E [])) l
  else if w.toList = [123] then (bnd tk fun _ => bnd (must [125]) fun _ => ret (nd 25 E 0 E [])) l
  else if w.toList = [102, 110] then (bnd tk fun _ => iL F N 24 E) l
  else if w.toList = [40] then (bnd tk fun _ => bnd F.expr fun e => bnd (must [41]) fun _ => ret e) l
  else lV F N l) fun w =>
 LC.ite (fun _ => LC.tk.b3 fun _ => Loc.ret _)
 fun _ => LC.ite (fun _ => LC.tk.b3 fun _ => Loc.ret _)
 fun _ => LC.ite (fun _ => LC.tk.b1 (C1 := Tr) fun _ => (gm [125]).b3 fun _ => Loc.ret _)
 fun _ => LC.ite (fun _ => LC.tk.b1 (C1 := Tr) fun _ => (ru H N _ _).weak)
 fun _ => LC.ite (fun _ => LC.tk.b1 (C1 := Tr) fun _ => H.expr.b1 fun e => (gm [41]).b3 fun _ => Loc.ret _)
 fun _ => Ez H N
theorem ut (H : LF F) (N : Nat) : ∀ (n : Nat) (e : List S41), Loc SC (lm F N n e)
 | 0, e => LC.out.loc
 | n + 1, e => Loc.head (G := fun w l => if w.toList = [40] then (bnd (Par.dm F.expr N) fun ks => lm F N n (nd 22 E 0 E ([e] ++ ks))) l
  else if w.toList = [91] then (bnd tk fun _ => bnd F.expr fun i => bnd (must [93]) fun _ => lm F N n (nd 26 E 0 E [e, i])) l
  else .ok (e, l))
  (fun w => Loc.ite (fun _ => ((wV H.expr N).b3 fun ks => ut H N n _).loc) (fun _ => Loc.ite (fun _ => (LC.tk.b1 (C1 := Tr) fun _ => H.expr.b1 fun i => (gm [93]).b3 fun _ => ut H N n _).loc) (fun _ => Loc.ret _)))
  (fun b1 b2 x hC h => by
   have h' : (if wd b1 = [40] then (bnd (Par.dm F.expr N) fun ks => lm F N n (nd 22 E 0 E ([e] ++ ks))) b1 else if wd b1 = [91] then (bnd tk fun _ => bnd F.expr fun i => bnd (must [93]) fun _ => lm F N n (nd 26 E 0 E [e, i])) b1 else .ok (e, b1)) = .ok (x, b1) := h
   rw [if_neg hC.1.2.1, if_neg hC.1.2.2.1] at h'
   cases h'
   exact (if_neg hC.2.2.1).trans (if_neg hC.2.2.2.1))
theorem xP (H : LF F) (N : Nat) : LC SC (lQ F N) :=
 LC.head (G := fun w l =>
  if w.toList = [45] ∨ w.toList = [110, 111, 116] ∨ w.toList = [108, 101, 110] then (bnd tk fun _ => bnd F.unary fun e => ret (nd 28 E 0 w [e])) l
  else if w.toList = [115, 112, 97, 119, 110] then (bnd tk fun _ => bnd F.unary fun e => ret (nd 30 E 0 E [e])) l
  else (bnd (qP F N) fun e => lm F N N e) l) fun w =>
 LC.ite (fun _ => LC.tk.b1 (C1 := Tr) fun _ => H.unary.b2 (fun e => Loc.ret _) fun _ _ h => h)
 fun _ => LC.ite (fun _ => LC.tk.b1 (C1 := Tr) fun _ => H.unary.b2 (fun e => Loc.ret _) fun _ _ h => h)
 fun _ => (Em H N).b2 (fun e => ut H N N e) fun _ _ h => h
theorem wG (H : LF F) (a : Int) (ha : 1 ≤ a) : ∀ (n : Nat) (e : List S41), Loc SC (lF F a n e)
 | 0, e => LC.out.loc
 | n + 1, e => Loc.head (G := fun w l => if kD w.toList = a then (bnd tk fun _ => bnd (F.bound (a + 1)) fun e2 => if a = 3 then ret (nd 27 E 0 w [e, e2]) else lF F a n (nd 27 E 0 w [e, e2])) l else .ok (e, l))
  (fun w => Loc.ite (fun _ => (LC.tk.b1 (C1 := Tr) fun _ => (H.bound (a + 1) (by omega)).b2 (C2 := SC) (fun e2 => by
   by_cases c : a = 3
   ·rw [if_pos c]; exact Loc.ret _
   rw [if_neg c]; exact wG H a ha n _) fun _ _ h => h).loc) (fun _ => Loc.ret _))
  (fun b1 b2 x hC h => by
   have h' : (if kD (wd b1) = a then (bnd tk fun _ => bnd (F.bound (a + 1)) fun e2 => if a = 3 then ret (nd 27 E 0 (wB b1) [e, e2]) else lF F a n (nd 27 E 0 (wB b1) [e, e2])) b1 else .ok (e, b1)) = .ok (x, b1) := h
   have n1 : ¬ kD (wd b1) = a := by rw [hC.1.1]; omega
   have n2 : ¬ kD (wd b2) = a := by rw [hC.2.1]; omega
   rw [if_neg n1] at h'
   cases h'
   exact if_neg n2)
theorem yB (H : LF F) (N : Nat) (a : Int) (ha : 1 ≤ a) : LC SC (kK F N a) := by
 unfold kK
 by_cases c : a = 6
 ·rw [if_pos c]; exact xP H N
 rw [if_neg c]; exact (H.bound (a + 1) (by omega)).b2 (fun e => wG H a ha N e) fun _ _ h => h
theorem pfam_L : ∀ n, LF (pfam n)
 | 0 => ⟨LC.out, LC.out, fun _ _ => LC.out, LC.out⟩
 | n + 1 => ⟨yB (pfam_L n) n 1 (by omega), yE (pfam_L n) n, fun a h => yB (pfam_L n) n a h, xP (pfam_L n) n⟩
theorem Ff : LC Tr wO :=
 LC.need (fun a => ((gm [46]).b1 (C1 := Tr) fun _ => LC.need (fun b => ((gm [47]).b1 (C1 := Tr) fun _ => LC.need (fun c => ((gm [59]).b3 fun _ => Loc.ret _).loc) (by intro t t' h; simp only [(iW h).2.2])).loc) (by intro t t' h; simp only [(iW h).2.1])).loc) (by intro t t' h; simp only [(iW h).2.1])
end Go.Proofs.Ytendgafpkeadhaa.Par
end
section
set_option linter.unusedVariables false
set_option linter.unusedSimpArgs false
namespace Go.Proofs.Ytendgafpkeadhaa.Par
open Go Go.RowKit Go.Proofs.YtendgafpkeadhaaW.PrintWords Go.Proofs.Ytendgafpkeadhaa.Q Go.Proofs.Ytendgafpkeadhaa.Lex Go.Proofs.Ytendgafpkeadhaa.Tree
inductive GF : List S41 → List Int → Nat → Prop
 | nil : GF [] [] 0
 | cons (x : S41) (t v : List S41) (kt kv : List Int) (D1 D2 : Nat) (hx : x.f1 = (kt.length : Int)) (hf : ng x = true) (hk : iT x.f0 kt = true) (ht : GF t kt D1) (hv : GF v kv D2) : GF (x :: (t ++ v)) (x.f0 :: kv) (max (1 + D1) D2)
theorem GF.fo {u : List S41} {K : List Int} {D : Nat} (h : GF u K D) : Fo u K.length D := by
 induction h with
 | nil => exact Fo.nil
 | cons x t v kt kv D1 D2 hx hf hk ht hv ih1 ih2 => exact Fo.cons x t v kv.length D1 D2 (by omega) (by rw [hx, Int.toNat_natCast]; exact ih1) ih2
abbrev kd (l : List S41) (q : Int) : Int := (rd_T41 l q).f0
theorem Fz {l : List S41} {x : S41} {t : List S41} {p : Nat} (hd : l.drop p = x :: t) : rd_T41 l (p : Int) = x ∧ p < l.length := by
 have hp : p < l.length := by
  rcases Nat.lt_or_ge p l.length with h1 | h1
  ·exact h1
  rw [List.drop_eq_nil_of_le h1] at hd; cases hd
 rw [rd36 l p hp]
 rw [List.drop_eq_getElem_cons hp] at hd
 exact ⟨(List.cons.inj hd).1, hp⟩
theorem zn {l u rest : List S41} {p : Nat} (hd : l.drop p = u ++ rest) : l.drop (p + u.length) = rest := by
 rw [← List.drop_drop, hd, List.drop_left]
theorem Fo.its {u : List S41} {w D : Nat} (h : Fo u w D) : True := trivial
theorem GF.its {u : List S41} {K : List Int} {D : Nat} (h : GF u K D) : ∀ (l rest : List S41) (p : Nat), l.drop p = u ++ rest → (∀ y ∈ u, ¬ ((l.length : Int) < y.f1)) → (its l K.length (p : Int)).map (kd l) = K := by
 induction h with
 | nil => intro l rest p hd hn; rfl
 | cons x t v kt kv D1 D2 hx hf hk ht hv ih1 ih2 =>
  intro l rest p hd hn
  have hd' : l.drop p = (x :: t) ++ (v ++ rest) := by rw [hd]; simp
  have hn1 : ∀ y ∈ x :: t, ¬ ((l.length : Int) < y.f1) := fun y hy => hn y (by
   rcases List.mem_cons.1 hy with rfl | hy
   ·exact List.mem_cons_self
   exact List.mem_cons_of_mem _ (List.mem_append.2 (Or.inl hy)))
  have e := oG (p := p) (by omega) (by rw [hx, Int.toNat_natCast]; exact ht.fo) hd' hn1
  obtain ⟨h1, _⟩ := Fz (by rw [hd]; rfl : l.drop p = x :: (t ++ v ++ rest))
  show kd l (p : Int) :: (Tree.its l kv.length (iV l (p : Int))).map (kd l) = x.f0 :: kv
  rw [e, ih2 l rest _ (zn hd') (fun y hy => hn y (List.mem_cons_of_mem _ (List.mem_append.2 (Or.inr hy))))]
  unfold kd
  rw [h1]
def hk (e : List S41) : Int := (rd_T41 e 0).f0
end Go.Proofs.Ytendgafpkeadhaa.Par
end
section
set_option linter.unusedVariables false
set_option linter.unusedSimpArgs false
namespace Go.Proofs.Ytendgafpkeadhaa.Par
open Go Go.RowKit Go.Proofs.YtendgafpkeadhaaW.PrintWords Go.Proofs.Ytendgafpkeadhaa.Q Go.Proofs.Ytendgafpkeadhaa.Lex Go.Proofs.Ytendgafpkeadhaa.Tree
/-- Where the reader stopped. -/
def plS (ts r : List S38) : Int := match r with
 | t :: _ => t.f3
 | [] => match ts.getLast? with
  | some t => t.f3 + 1
  | none => 0
def ansS (ts : List S38) : R (List S41) → List S41 × Int × Int
 | .ok (x, []) => if (checkS x).1 = 0 then (x, 0, 0) else ([], (checkS x).1, 0)
 | .ok (_, t :: r) => ([], 10, plS ts (t :: r))
 | .error (some r) => ([], 10, plS ts r)
 | .error none => ([], 10, 0)
def small (ts : List S38) : Prop := ∀ t ∈ ts, -4611686018427387904 ≤ t.f3 ∧ t.f3 ≤ 4611686018427387904
theorem xY (ts : List S38) (hp : small ts) (hl : ts.length ≤ 40000) (p : Nat) (b : Bool) : dC.f ts (p : Int) b = some (plS ts (ts.drop p), (p : Int), b) := by
 have key : ∀ i (hi : i < ts.length), rd_T38 ts (i : Int) = ts[i] := by
  intro i hi
  obtain ⟨_, h2, _⟩ := rd_tok ts i _ _ (List.drop_eq_getElem_cons hi)
  exact h2
 unfold dC.f plS
 by_cases c : p < ts.length
 ·rw [if_pos (by omega), if_pos (by omega), key p c, List.drop_eq_getElem_cons c]
 rw [if_neg (by omega), List.drop_eq_nil_of_le (by omega)]
 by_cases d : 0 < ts.length
 ·have e : wrap64 ((ts.length : Int) - 1) = ((ts.length - 1 : Nat) : Int) := by rw [Tree.w64 (by omega) (by omega)]; omega
  have h := hp _ (List.getElem_mem (show ts.length - 1 < ts.length by omega))
  rw [if_pos (by omega), e, if_pos (by omega), if_pos (by omega), key _ (by omega), Tree.w64 (by omega) (by omega), List.getLast?_eq_getElem?, List.getElem?_eq_getElem (by omega)]
 rw [if_neg (by omega), List.length_eq_zero_iff.1 (by omega : ts.length = 0)]; rfl
theorem tree_A (ts : List S38) (hts : ts.length ≤ 40000) (hp : small ts) (n : Nat) (hn : Fn KN ts.length (moduleP (pfam n) n ts)) : EvTo (fun k => eU.f k ts) (ansS ts (moduleP (pfam n) n ts)) := by
 have hT := Am hts (F6 n) o8 n
 match hr : moduleP (pfam n) n ts, hn, hT with
 | .ok (x, r), ⟨_, _, h3⟩, ⟨p, _, hp2, hd, hs, hE⟩ =>
  unfold sz at hs
  unfold eU.f
  by_cases c : p < ts.length
  ·have h1 := xY ts hp hts p false
   cases r with
   | nil => rw [List.drop_eq_nil_iff] at hd; omega
   | cons t u =>
    refine EvTo.bind hE (EvTo.neg (by simp) (EvTo.pos (show (p : Int) < (ts.length : Int) by omega) ?_))
    dsimp only
    rw [h1, hd]
    exact EvTo.now
  rw [List.drop_eq_nil_of_le (by omega)] at hd
  subst hd
  have hC := DC x (by omega) h3.1.2
  show EvTo _ (if (checkS x).1 = 0 then (x, 0, 0) else ([], (checkS x).1, 0))
  by_cases d : (checkS x).1 = 0
  ·rw [if_pos d]
   exact EvTo.bind hE (EvTo.neg (by simp) (EvTo.neg (show ¬ (p : Int) < (ts.length : Int) by omega) (EvTo.bind hC (EvTo.pos d EvTo.now))))
  rw [if_neg d]
  exact EvTo.bind hE (EvTo.neg (by simp) (EvTo.neg (show ¬ (p : Int) < (ts.length : Int) by omega) (EvTo.bind hC (EvTo.neg d EvTo.now))))
 | .error (some r), _, ⟨x, p, _, _, hd, _, hE⟩ =>
  have h1 := xY ts hp hts p true
  unfold eU.f
  refine EvTo.bind hE (EvTo.pos rfl ?_)
  dsimp only
  rw [h1, hd]
  exact EvTo.now
/-- The tokens of a text: few, short, at its places. -/
theorem text_toks {s : ByteArray} (hs : s.size ≤ 3000) {us : List Tk} (h : Lex.scan (L s) = .ok us) : (us.map (tkS s.size)).length ≤ 3000 ∧ TB (us.map (tkS s.size)) ∧ small (us.map (tkS s.size)) := by
 obtain ⟨h1, h2⟩ := qM h
 rw [← L_size] at h1
 have h2 : ∀ t ∈ us, 1 ≤ t.rem ∧ t.rem ≤ s.size ∧ t.text.length ≤ s.size := fun t ht => by have := h2 t ht; rw [← L_size] at this; exact this
 refine ⟨by simp; omega, fun t ht => ?_, fun t ht => ?_⟩
 ·obtain ⟨u, hu, rfl⟩ := List.mem_map.1 ht
  have := h2 u hu
  show (S u.text).size ≤ 3000
  rw [kM]; omega
 obtain ⟨u, hu, rfl⟩ := List.mem_map.1 ht
 have := h2 u hu
 show _ ≤ ((s.size - u.rem : Nat) : Int) ∧ ((s.size - u.rem : Nat) : Int) ≤ _
 omega
theorem text_A (s : ByteArray) (hs : s.size ≤ 3000) {us : List Tk} (h : Lex.scan (L s) = .ok us) (n : Nat) (hn : Fn KN (us.map (tkS s.size)).length (moduleP (pfam n) n (us.map (tkS s.size)))) :
 EvTo (fun k => parse_Text.f k s) (ansS (us.map (tkS s.size)) (moduleP (pfam n) n (us.map (tkS s.size)))) := by
 have hS := rO s
 unfold nT at hS
 rw [if_pos (by omega), h] at hS
 obtain ⟨h1, h2, h3⟩ := text_toks hs h
 have := tree_A _ (by omega) h3 n hn
 unfold parse_Text.f
 exact EvTo.bind hS (EvTo.pos rfl (EvTo.bind this EvTo.now))
theorem Ei (s : ByteArray) (hs : s.size ≤ 3000) {us : List Tk} (h : Lex.scan (L s) = .ok us) : EvTo (fun k => lex_Scan.f k s) (us.map (tkS s.size), 0, 0) := by
 have hS := rO s
 unfold nT at hS
 rw [if_pos (by omega), h] at hS
 exact hS
theorem Eb (s : ByteArray) (hs : s.size ≤ 3000) {e : Int} {r : Nat} (h : Lex.scan (L s) = .error (e, r)) : e ≠ 0 ∧ EvTo (fun k => parse_Text.f k s) (([] : List S41), e, ((s.size - r : Nat) : Int)) ∧ EvTo (fun k => lex_Scan.f k s) ([], e, ((s.size - r : Nat) : Int)) := by
 have hS := rO s
 unfold nT at hS
 rw [if_pos (by omega), h] at hS
 obtain ⟨h1, _⟩ := zS h
 refine ⟨h1, ?_, hS⟩
 unfold parse_Text.f
 exact EvTo.bind hS (EvTo.neg h1 EvTo.now)
/-- Rounds enough for all tokens of such a number. -/
theorem rounds (m : Nat) : ∃ n0, ∀ n, n0 ≤ n → Tot (pfam n) m ∧ ∀ l : List S38, l.length ≤ m → TB l → Fn KN l.length (moduleP (pfam n) n l) := by
 obtain ⟨n0, h0⟩ := tot m
 exact ⟨n0 + m, fun n hn => ⟨h0 n (by omega), fun l hl h => Ap (h0 n (by omega)) n l hl (by omega) h⟩⟩
end Go.Proofs.Ytendgafpkeadhaa.Par
end
section
set_option linter.unusedVariables false
set_option linter.unusedSimpArgs false
namespace Go.Proofs.Ytendgafpkeadhaa.Par
open Go Go.RowKit Go.Proofs.YtendgafpkeadhaaW.PrintWords Go.Proofs.Ytendgafpkeadhaa.Q Go.Proofs.Ytendgafpkeadhaa.Lex Go.Proofs.Ytendgafpkeadhaa.Tree
theorem known_E : EvTo (fun k => chrysalislaw10_known.f k) true := EvTo.of_one (fun k r h => chrysalislaw10_known.mono k r h) 300 chrysalislaw10_known.at
theorem known_B : EvTo (fun k => (chrysalislaw10_known.f k).bind fun t => some t) true := EvTo.bind known_E EvTo.now
theorem EM (l : List S41) (hl : l.length ≤ 100000) : ∀ (m i : Nat), l.length = m + i → EvTo (fun k => chrysalisref09_Same.l0 k l l (i : Int)) true := by
 intro m
 induction m with
 | zero =>
  intro i h
  refine EvTo.step (fun k => by rw [chrysalisref09_Same.l0]) ?_
  exact EvTo.neg (by omega) EvTo.now
 | succ m ih =>
  intro i h
  refine EvTo.step (fun k => by rw [chrysalisref09_Same.l0]) ?_
  refine EvTo.pos (by omega) (EvTo.pos (by omega) (EvTo.pos (by omega) (EvTo.neg (by simp) ?_)))
  rw [Tree.inc i (by omega)]
  exact ih (i + 1) (by omega)
theorem Same_self (l : List S41) (hl : l.length ≤ 100000) : EvTo (fun k => chrysalisref09_Same.f k l l) true := by
 unfold chrysalisref09_Same.f
 exact EvTo.pos rfl (EM l hl l.length 0 (by omega))
end Go.Proofs.Ytendgafpkeadhaa.Par
end
section
set_option linter.unusedVariables false
set_option linter.unusedSimpArgs false
namespace Go.Proofs.Ytendgafpkeadhaa.Par
open Go Go.RowKit Go.Proofs.YtendgafpkeadhaaW.PrintWords Go.Proofs.Ytendgafpkeadhaa.Q Go.Proofs.Ytendgafpkeadhaa.Lex Go.Proofs.Ytendgafpkeadhaa.Tree
variable {F : PF} {N m0 : Nat}
abbrev FN : List UInt8 := [102, 110]
abbrev US : List UInt8 := [117, 115, 101]
abbrev Cm : List S38 → List S38 → Prop := fun b b' => (wd b ≠ US ∧ wd b ≠ FN) ∧ wd b' ≠ US ∧ wd b' ≠ FN
theorem xm (H : LF F) (nm : ByteArray) (v : Int) : ∀ (n : Nat) (acc : List (List S41)), Loc Cm (lY F N nm v n acc)
 | 0, acc => LC.out.loc
 | n + 1, acc => Loc.head (G := fun w l => if w.toList = [102, 110] then (bnd tk fun _ => bnd (need 1) fun t => bnd (iL F N 3 t.f1) fun f => lY F N nm v n (acc ++ [f])) l else .ok (nd 1 nm v E acc, l))
  (fun w => Loc.ite (fun _ => (LC.tk.b1 (C1 := Tr) fun _ => LC.need (fun t => ((ru H N 3 t.f1).b3 fun f => xm H nm v n _).loc) (by intro t t' h; simp only [(iW h).2.1])).loc) (fun _ => Loc.ret _))
  (fun b1 b2 x hC h => by
   have h' : (if wd b1 = [102, 110] then (bnd tk fun _ => bnd (need 1) fun t => bnd (iL F N 3 t.f1) fun f => lY F N nm v n (acc ++ [f])) b1 else .ok (nd 1 nm v E acc, b1)) = .ok (x, b1) := h
   rw [if_neg hC.1.2] at h'
   cases h'
   exact if_neg hC.2.2)
theorem zD (H : LF F) (nm : ByteArray) (v : Int) : ∀ (n : Nat) (acc : List (List S41)), Loc Cm (lM F N nm v n acc)
 | 0, acc => LC.out.loc
 | n + 1, acc => Loc.head (G := fun w l => if w.toList = [117, 115, 101] then (bnd tk fun _ => bnd wO fun u => lM F N nm v n (acc ++ [u])) l else lY F N nm v N acc l)
  (fun w => Loc.ite (fun _ => (LC.tk.b1 (C1 := Tr) fun _ => Ff.b3 fun u => zD H nm v n _).loc) (fun _ => xm H nm v N acc))
  (fun b1 b2 x hC h => by
   have h' : (if wd b1 = [117, 115, 101] then (bnd tk fun _ => bnd wO fun u => lM F N nm v n (acc ++ [u])) b1 else lY F N nm v N acc b1) = .ok (x, b1) := h
   rw [if_neg hC.1.1] at h'
   obtain ⟨T2', e1, e2⟩ := (xm H nm v N acc).ok [] [] b1 b2 x [] rfl (fun _ => hC) h'
   cases T2' with
   | nil => exact (if_neg hC.2.1).trans e2
   | cons a b => cases e1)
theorem module_L (H : LF F) : LC Cm (moduleP F N) :=
 (gm [109, 111, 100, 117, 108, 101]).b1 (C1 := Tr) fun _ => LC.need (f := fun t => bnd (need 2) fun u => bnd (must [59]) fun _ => lM F N t.f1 u.f2 N [])
  (fun t => (LC.need (f := fun u => bnd (must [59]) fun _ => lM F N t.f1 u.f2 N []) (fun u => ((gm [59]).b3 fun _ => zD H _ _ N []).loc) (by intro t t' h; simp only [(iW h).2.2])).loc) (by intro t t' h; simp only [(iW h).2.1])
end Go.Proofs.Ytendgafpkeadhaa.Par
end
section
set_option linter.unusedVariables false
set_option linter.unusedSimpArgs false
namespace Go.Proofs.Ytendgafpkeadhaa.Lex
open Go Go.RowKit Go.Proofs.YtendgafpkeadhaaW.PrintWords Go.Proofs.Ytendgafpkeadhaa.Q
theorem E8 {c : UInt8} (h : le c = true) : inn c = true := by simp [inn, h]
theorem Fq {c : UInt8} (h : le c = true) : bl c = false := by
 unfold le at h
 unfold bl
 simp only [decide_eq_true_eq] at h
 rw [Bool.eq_false_iff]
 intro q
 simp only [Bool.or_eq_true, beq_iff_eq] at q
 rcases q with ((rfl | rfl) | rfl) | rfl <;> simp at h
theorem Fv {c : UInt8} (h : le c = true) : c ≠ 35 := by
 rintro rfl
 simp [le] at h
theorem xX (s : List UInt8) : (quo s).length = (s.flatMap jv).length + 2 := by simp [quo]
theorem yJ (a b : List UInt8) : S a ++ S b = S (a ++ b) := wL (by rw [L_append]; rfl)
theorem vz : ∀ (s r : List UInt8), unq false (s.flatMap jv ++ 34 :: r) = some (s, r)
 | [], r => by simp [unq]
 | c :: s, r => by
  rw [List.flatMap_cons, List.append_assoc]
  have ih := vz s r
  by_cases c1 : c = 10
  ·rw [show jv c = [92, 110] by simp [jv, c1], c1]
   simp [unq, esc, ih]
  by_cases c2 : c = 34
  ·rw [show jv c = [92, 34] by simp [jv, c2], c2]
   simp [unq, esc, ih]
  by_cases c3 : c = 92
  ·rw [show jv c = [92, 92] by simp [jv, c3], c3]
   simp [unq, esc, ih]
  rw [show jv c = [c] by simp [jv, c1, c2, c3]]
  simp [unq, c1, c2, c3, ih]
theorem Dj {c x : UInt8} (h : esc c = some x) : (jv x).length = 2 := by
 unfold esc at h
 split at h
 ·cases h; rfl
 split at h
 ·cases h; rfl
 split at h
 ·cases h; rfl
 cases h
theorem mQ : ∀ (t : List UInt8) (b : Bool) (x r : List UInt8), unq b t = some (x, r) → t.length + (if b then 1 else 0) = (x.flatMap jv).length + 1 + r.length
 | [], b, x, r, h => by cases b <;> simp [unq] at h
 | c :: t, true, x, r, h => by
  simp only [unq] at h
  split at h
  ·cases h
  rename_i y he
  simp only [Option.map_eq_some_iff, Prod.mk.injEq] at h
  obtain ⟨⟨u, v⟩, h1, rfl, rfl⟩ := h
  have := mQ t false u v h1
  have e := Dj he
  simp only [List.flatMap_cons, List.length_append, List.length_cons, if_true, Bool.false_eq_true, if_false] at this ⊢
  omega
 | c :: t, false, x, r, h => by
  simp only [unq] at h
  by_cases c1 : c = 34
  ·rw [if_pos c1] at h
   simp only [Option.some.injEq, Prod.mk.injEq] at h
   obtain ⟨rfl, rfl⟩ := h
   simp only [List.flatMap_nil, List.length_nil, List.length_cons, Bool.false_eq_true, if_false]
   omega
  rw [if_neg c1] at h
  by_cases c2 : c = 10
  ·rw [if_pos c2] at h; cases h
  rw [if_neg c2] at h
  by_cases c3 : c = 92
  ·rw [if_pos c3] at h
   have := mQ t true x r h
   simp only [List.length_cons, if_true, Bool.false_eq_true, if_false] at this ⊢
   omega
  rw [if_neg c3] at h
  simp only [Option.map_eq_some_iff, Prod.mk.injEq] at h
  obtain ⟨⟨u, v⟩, h1, rfl, rfl⟩ := h
  have := mQ t false u v h1
  have e : jv c = [c] := by simp [jv, c1, c2, c3]
  simp only [List.flatMap_cons, e, List.length_append, List.length_cons, List.length_nil, Bool.false_eq_true, if_false] at this ⊢
  omega
/-- A token as it is written. -/
def wrt (k : Int) (x : List UInt8) : List UInt8 := if k = 3 then quo x else x
theorem kZ (q : UInt8 → Bool) (r : List UInt8) (hr : ∀ c u, r = c :: u → q c = false) : ∀ w : List UInt8, w.all q = true → (w ++ r).takeWhile q = w
 | [], _ => by
  cases r with
  | nil => rfl
  | cons c u => rw [List.nil_append, List.takeWhile_cons, if_neg (by rw [hr c u rfl]; simp)]
 | a :: w, h => by
  simp only [List.all_cons, Bool.and_eq_true] at h
  rw [List.cons_append, List.takeWhile_cons, if_pos h.1, kZ q r hr w h.2]
/-- A token that is written, with a blank or nothing behind it, is the same token; it has as many bytes as it had; no blank nor remark stands first. -/
theorem yX {v : List UInt8} {k : Int} {x : List UInt8} {n : Int} {m : Nat} (h : Lex.one v = .ok (k, x, n, m)) : (wrt k x).length = m ∧ ∀ r, (∀ c u, r = c :: u → c = 32 ∨ c = 10 ∨ c = 35) → Lex.one (wrt k x ++ r) = .ok (k, x, n, m) ∧ skp false (wrt k x ++ r) = wrt k x ++ r := by
 cases v with
 | nil => cases h
 | cons c t =>
  have hm := ql h
  simp only [Lex.one] at h
  have tw : ∀ q : UInt8 → Bool, q c = true → (c :: t).takeWhile q = c :: t.takeWhile q := fun q hq => by rw [List.takeWhile_cons, if_pos hq]
  have ta : ∀ q : UInt8 → Bool, ((c :: t).takeWhile q).all q = true := fun q => nN q _
  by_cases c1 : le c = true
  ·rw [if_pos c1] at h
   have hi := tw inn (E8 c1)
   have ha := ta inn
   have hs : ∀ u, skp false (c :: u) = c :: u := fun u => by simp only [skp]; rw [if_neg (by rw [Fq c1]; simp), if_neg (Fv c1)]
   have base : ∀ r, (∀ c u, r = c :: u → c = 32 ∨ c = 10 ∨ c = 35) → ((c :: t).takeWhile inn ++ r).takeWhile inn = (c :: t).takeWhile inn := fun r hr =>
    kZ inn r (fun d u e => by rcases hr d u e with h | h | h <;> rw [h] <;> decide) _ ha
   rw [hi] at h base
   split at h
   ·rename_i hk
    simp only [Except.ok.injEq, Prod.mk.injEq] at h
    obtain ⟨rfl, rfl, rfl, rfl⟩ := h
    refine ⟨rfl, fun r hr => ⟨?_, hs _⟩⟩
    have hb := base r hr
    simp only [wrt, show ¬ (5 : Int) = 3 by omega, if_false, List.cons_append, Lex.one] at hb ⊢
    rw [if_pos c1, hb, if_pos hk]
   split at h
   ·rename_i hk hl
    simp only [Except.ok.injEq, Prod.mk.injEq] at h
    obtain ⟨rfl, rfl, rfl, rfl⟩ := h
    refine ⟨rfl, fun r hr => ⟨?_, hs _⟩⟩
    have hb := base r hr
    simp only [wrt, show ¬ (1 : Int) = 3 by omega, if_false, List.cons_append, Lex.one] at hb ⊢
    rw [if_pos c1, hb, if_neg hk, if_pos hl]
   cases h
  rw [if_neg c1] at h
  by_cases c2 : di c = true
  ·rw [if_pos c2] at h
   have hi := tw di c2
   have ha := ta di
   have hs : ∀ u, skp false (c :: u) = c :: u := fun u => by
    have h1 : bl c = false := by
     rw [Bool.eq_false_iff]
     intro q
     simp only [bl, Bool.or_eq_true, beq_iff_eq] at q
     rcases q with ((rfl | rfl) | rfl) | rfl <;> simp [di] at c2
    have h2 : c ≠ 35 := by rintro rfl; simp [di] at c2
    simp only [skp]; rw [if_neg (by rw [h1]; simp), if_neg h2]
   split at h
   ·rename_i hk
    simp only [Except.ok.injEq, Prod.mk.injEq] at h
    obtain ⟨rfl, rfl, rfl, rfl⟩ := h
    refine ⟨rfl, fun r hr => ?_⟩
    have hb := kZ di r (fun d u e => by rcases hr d u e with h | h | h <;> rw [h] <;> decide) _ ha
    rw [hi] at hb hk ⊢
    simp only [wrt, show ¬ (2 : Int) = 3 by omega, if_false, List.cons_append, Lex.one] at hb ⊢
    refine ⟨?_, hs _⟩
    rw [if_neg c1, if_pos c2, hb, if_pos hk]
   cases h
  rw [if_neg c2] at h
  by_cases c3 : c = 34
  ·rw [if_pos c3] at h
   split at h
   ·rename_i y r0 hu
    simp only [Except.ok.injEq, Prod.mk.injEq] at h
    obtain ⟨rfl, rfl, rfl, rfl⟩ := h
    have hc := mQ t false _ _ hu
    simp only [Bool.false_eq_true, if_false] at hc
    have hlen : (wrt 3 y).length = (c :: t).length - r0.length := by
     simp only [wrt, if_true, xX, List.length_cons]
     omega
    refine ⟨hlen, fun r hr => ?_⟩
    have e : wrt 3 y ++ r = 34 :: (y.flatMap jv ++ 34 :: r) := by simp [wrt, quo]
    rw [e]
    refine ⟨?_, by simp only [skp]; rw [if_neg (by decide), if_neg (by decide)]⟩
    simp only [Lex.one]
    rw [if_neg (by decide), if_neg (by decide), if_pos trivial, vz]
    simp only [Except.ok.injEq, Prod.mk.injEq, true_and]
    simp only [List.length_cons, List.length_append]
    omega
   cases h
  rw [if_neg c3] at h
  split at h
  ·cases h
  rename_i hmk
  simp only [Except.ok.injEq, Prod.mk.injEq] at h
  obtain ⟨rfl, rfl, rfl, rfl⟩ := h
  refine ⟨rfl, fun r hr => ?_⟩
  simp only [wrt, show ¬ (4 : Int) = 3 by omega, if_false]
  have key : ∃ u, Lex.mark (c :: t) = c :: u ∧ Lex.mark (c :: u ++ r) = c :: u ∧ bl c = false ∧ c ≠ 35 := by
   have hp : ∀ p ∈ PAIRS, ∀ a b, p = [a, b] → bl a = false ∧ a ≠ 35 := by
    intro p hp a b e
    subst e
    simp only [PAIRS, List.mem_cons, List.cons.injEq, and_true, List.not_mem_nil, or_false] at hp
    rcases hp with ⟨rfl, _⟩ | ⟨rfl, _⟩ | ⟨rfl, _⟩ | ⟨rfl, _⟩ <;> decide
   have hsn : ∀ a ∈ lH, bl a = false ∧ a ≠ 35 := by decide
   by_cases h1 : PAIRS.contains ((c :: t).take 2) = true
   ·have e1 : Lex.mark (c :: t) = (c :: t).take 2 := by unfold Lex.mark; rw [if_pos h1]
    cases t with
    | nil => simp [PAIRS] at h1
    | cons d u =>
     have h2 := hp _ (List.contains_iff_mem.1 h1) c d rfl
     refine ⟨[d], e1, ?_, h2⟩
     unfold Lex.mark
     rw [show (c :: [d] ++ r).take 2 = [c, d] from rfl, if_pos (show PAIRS.contains [c, d] = true from h1)]
   have e1 : Lex.mark (c :: t) = if lH.contains c = true then [c] else [] := by unfold Lex.mark; rw [if_neg h1]; rfl
   by_cases h2 : lH.contains c = true
   ·rw [if_pos h2] at e1
    refine ⟨[], e1, ?_, hsn c (List.contains_iff_mem.1 h2)⟩
    have h3 : PAIRS.contains ((c :: ([] ++ r)).take 2) = false := by
     cases r with
     | nil => simp [PAIRS]
     | cons d u =>
      rcases hr d u rfl with h | h | h <;> rw [h] <;> simp [PAIRS]
    unfold Lex.mark
    rw [List.cons_append, h3]
    show (if lH.contains c = true then [c] else []) = [c]
    rw [if_pos h2]
   rw [if_neg h2] at e1
   exact absurd e1 hmk
  obtain ⟨u, k1, k2, k3, k4⟩ := key
  rw [k1]
  refine ⟨?_, ?_⟩
  ·rw [List.cons_append] at k2 ⊢
   simp only [Lex.one]
   rw [if_neg c1, if_neg c2, if_neg c3, k2, if_neg (by simp)]
  rw [List.cons_append]
  simp only [skp]
  rw [if_neg (by rw [k3]; simp), if_neg k4]
def wt (t : Tk) : List UInt8 := wrt t.kind t.text
def uB (t : Tk) : Int × List UInt8 × Int := (t.kind, t.text, t.n)
/-- One token as text. -/
theorem zI (t : S38) (hb : t.f1.size ≤ 70368744177000) : EvTo (fun k => lex_Text.f k [t]) (S (wrt t.f0 (L t.f1))) := by
 unfold lex_Text.f
 have hrd : rd_T38 [t] 0 = t := rfl
 have hz : (⟨#[]⟩ : ByteArray).size = 0 := rfl
 have hn : ∀ x : List UInt8, (⟨#[]⟩ : ByteArray) ++ S x = S x := fun x => yJ [] x
 have hinc : wrap64 ((0 : Int) + 1) = ((1 : Nat) : Int) := by rw [w64 _ (by omega)]; rfl
 have last : ∀ s : ByteArray, EvTo (fun k => lex_Text.l0 k s [t] ([t].length : Int) ((1 : Nat) : Int)) s := fun s => by
  refine EvTo.step (fun k => by rw [lex_Text.l0]) ?_
  exact EvTo.neg (by simp) EvTo.now
 refine EvTo.step (fun k => by rw [lex_Text.l0]) ?_
 refine EvTo.pos (by simp) (EvTo.pos (by omega) (EvTo.pos (by simp) (EvTo.neg (by omega) ?_)))
 simp only [hrd, hinc]
 by_cases c : t.f0 = 3
 ·have hw : wrt t.f0 (L t.f1) = quo (L t.f1) := by simp [wrt, c]
  rw [hw]
  have hq : (quo (L t.f1)).length ≤ 4611686018427387904 := by
   have h1 : ∀ s : List UInt8, (s.flatMap jv).length ≤ 2 * s.length := by
    intro s
    induction s with
    | nil => simp
    | cons c s ih =>
     rw [List.flatMap_cons, List.length_append, List.length_cons]
     have : (jv c).length ≤ 2 := by
      unfold jv
      repeat' split
      all_goals simp
     omega
   have := h1 (L t.f1)
   rw [xX]
   rw [L_size] at hb
   omega
  refine EvTo.pos c (EvTo.bind (Dz _ hb) (EvTo.pos (by rw [hz, kM]; omega) ?_))
  rw [hn]
  exact last _
 have hw : wrt t.f0 (L t.f1) = L t.f1 := by simp [wrt, c]
 rw [hw, S_L]
 refine EvTo.neg c (EvTo.pos (by rw [hz]; omega) ?_)
 have : (⟨#[]⟩ : ByteArray) ++ t.f1 = t.f1 := by
  have := hn (L t.f1)
  rwa [S_L] at this
 rw [this]
 exact last _
/-- What stands behind a token. -/
def l9 (i : Nat) : List UInt8 := if i % 3 = 0 then [32, 9] else if i % 3 = 1 then [10] else [35, 32, 110, 111, 10]
def dO : Nat → List Tk → List UInt8
 | _, [] => []
 | i, t :: ts => wt t ++ (l9 i ++ dO (i + 1) ts)
theorem BU (i : Nat) : 1 ≤ (l9 i).length ∧ (l9 i).length ≤ 5 := by
 unfold l9
 repeat' split
 all_goals simp
theorem zQ (i : Nat) (r : List UInt8) : ∀ c u, l9 i ++ r = c :: u → c = 32 ∨ c = 10 ∨ c = 35 := by
 intro c u h
 unfold l9 at h
 split at h
 ·exact Or.inl (List.cons.inj h).1.symm
 split at h
 ·exact Or.inr (Or.inl (List.cons.inj h).1.symm)
 exact Or.inr (Or.inr (List.cons.inj h).1.symm)
theorem BR (i : Nat) (r : List UInt8) : skp false (l9 i ++ r) = skp false r := by
 unfold l9
 split
 ·rfl
 split
 ·rfl
 rfl
theorem pF : ∀ (f : Nat) (u : List UInt8) (ts : List Tk) (i : Nat), u.length < f → toks f u = .ok ts →
 ((dO i ts).length ≤ 6 * u.length) ∧ skp false (dO i ts) = dO i ts ∧ ∀ g, (dO i ts).length < g → ∃ us, toks g (dO i ts) = .ok us ∧ us.map uB = ts.map uB
 | 0, u, ts, i, h, _ => by omega
 | f + 1, [], ts, i, _, h => by
  simp only [toks, Except.ok.injEq] at h
  subst h
  refine ⟨by simp [dO], rfl, fun g hg => ⟨[], ?_, rfl⟩⟩
  cases g <;> rfl
 | f + 1, c :: u, ts, i, hf, h => by
  simp only [toks] at h
  split at h
  ·cases h
  rename_i k x n j ho
  split at h
  ·cases h
  rename_i us hu
  simp only [Except.ok.injEq] at h
  subst h
  have hj := ql ho
  have hsl := jG ((c :: u).drop j) false
  rw [List.length_drop] at hsl
  obtain ⟨h1, h2, h3⟩ := pF f _ us (i + 1) (by omega) hu
  obtain ⟨a1, a2⟩ := yX ho
  have a3 := a2 (l9 i ++ dO (i + 1) us) (zQ i _)
  have hl := BU i
  have e : dO i (⟨k, x, n, (c :: u).length⟩ :: us) = wrt k x ++ (l9 i ++ dO (i + 1) us) := rfl
  rw [e]
  refine ⟨by simp only [List.length_append, a1]; simp only [List.length_cons] at *; omega, a3.2, fun g hg => ?_⟩
  obtain ⟨g, rfl⟩ : ∃ i, g = i + 1 := ⟨g - 1, by omega⟩
  rw [List.length_append, List.length_append, a1] at hg
  obtain ⟨vs, v1, v2⟩ := h3 g (by omega)
  have hd : (wrt k x ++ (l9 i ++ dO (i + 1) us)).drop j = l9 i ++ dO (i + 1) us := List.drop_left' a1
  have hs : skp false (l9 i ++ dO (i + 1) us) = dO (i + 1) us := by rw [BR, h2]
  rcases hz : wrt k x ++ (l9 i ++ dO (i + 1) us) with _ | ⟨b, w⟩
  ·have := congrArg List.length hz
   simp only [List.length_append, List.length_nil] at this
   omega
  refine ⟨⟨k, x, n, (b :: w).length⟩ :: vs, ?_, ?_⟩
  ·have a4 := a3.1
   rw [hz] at a4 hd
   simp only [toks, a4, hd, hs, v1]
  simp only [List.map_cons, v2]; rfl
theorem vN {l : List UInt8} {ts : List Tk} (h : Lex.scan l = .ok ts) : (dO 0 ts).length ≤ 6 * l.length ∧ ∃ us, Lex.scan (dO 0 ts) = .ok us ∧ us.map uB = ts.map uB := by
 have hs := jG l false
 obtain ⟨h1, h2, h3⟩ := pF _ _ _ 0 (by omega) h
 refine ⟨by omega, ?_⟩
 unfold Lex.scan
 rw [h2]
 exact h3 _ (by omega)
end Go.Proofs.Ytendgafpkeadhaa.Lex
end
section
set_option linter.unusedVariables false
set_option linter.unusedSimpArgs false
namespace Go.Proofs.Ytendgafpkeadhaa.Par
open Go Go.RowKit Go.Proofs.YtendgafpkeadhaaW.PrintWords Go.Proofs.Ytendgafpkeadhaa.Q Go.Proofs.Ytendgafpkeadhaa.Lex Go.Proofs.Ytendgafpkeadhaa.Tree
/-- Of tokens that are alike but for their places the same is read. -/
theorem xU {n : Nat} {ts ts' : List S38} (h : Sim ts ts') {x : List S41} {r : List S38} (e : moduleP (pfam n) n ts = .ok (x, r)) : ∃ r', r.length = r'.length ∧ moduleP (pfam n) n ts' = .ok (x, r') := by
 have hL := (module_L (F := pfam n) (N := n) (pfam_L n)).loc
 obtain ⟨T2', e1, e2⟩ := hL.ok ts ts' [] [] x r h (fun _ => ⟨⟨by rw [lL]; simp, by rw [lL]; simp⟩, by rw [lL]; simp, by rw [lL]; simp⟩) (by rw [List.append_nil, List.append_nil]; exact e)
 rw [List.append_nil, List.append_nil] at e2
 exact ⟨T2', e1.len, e2⟩
theorem BQ {n : Nat} {ts ts' : List S38} (h : Sim ts ts') (f : Fn KN ts.length (moduleP (pfam n) n ts)) (f' : Fn KN ts'.length (moduleP (pfam n) n ts')) :
 (ansS ts (moduleP (pfam n) n ts)).1 = (ansS ts' (moduleP (pfam n) n ts')).1 ∧ (ansS ts (moduleP (pfam n) n ts)).2.1 = (ansS ts' (moduleP (pfam n) n ts')).2.1 := by
 match e : moduleP (pfam n) n ts, f with
 | .ok (x, r), _ =>
  obtain ⟨r', e1, e2⟩ := xU h e
  rw [e2]
  cases r with
  | nil =>
   obtain rfl : r' = [] := List.length_eq_zero_iff.1 e1.symm
   show (if (checkS x).1 = 0 then (x, (0 : Int), (0 : Int)) else ([], (checkS x).1, 0)).1 = (if (checkS x).1 = 0 then (x, (0 : Int), (0 : Int)) else ([], (checkS x).1, 0)).1 ∧ _
   exact ⟨rfl, rfl⟩
  | cons a b =>
   cases r' with
   | nil => simp at e1
   | cons c d => exact ⟨rfl, rfl⟩
 | .error (some r), _ =>
  match e' : moduleP (pfam n) n ts', f' with
  | .ok (x, r'), _ =>
   obtain ⟨r2, _, e2⟩ := xU (ts := ts') (ts' := ts) h.symm e'
   rw [e] at e2
   cases e2
  | .error (some r'), _ => exact ⟨rfl, rfl⟩
theorem Dv {ts : List S38} {r : R (List S41)} : (ansS ts r).1.length ≤ 2000 := by
 unfold ansS
 split
 ·rename_i x
  by_cases c : (checkS x).1 = 0
  ·rw [if_pos c]; exact (checkS_ok c).1
  rw [if_neg c]; exact Nat.zero_le _
 all_goals exact Nat.zero_le _
/-- What the law asks at its end. -/
theorem vJ (a t : ByteArray) (v v' : List S41 × Int × Int) (h1 : EvTo (fun k => parse_Text.f k a) v) (h2 : EvTo (fun k => parse_Text.f k t) v') (h : t.size ≤ 8192 → v.1 = v'.1 ∧ v.2.1 = v'.2.1 ∧ v.1.length ≤ 2000) (ts : List S38) (i : Nat) (hi : ts.length = i) :
 EvTo (fun k => chrysalislaw10_ParseSpaces.l0 k a ts t (i : Int)) true := by
 refine EvTo.step (fun k => by rw [chrysalislaw10_ParseSpaces.l0]) ?_
 refine EvTo.neg (by omega) (EvTo.bind h1 (EvTo.bind h2 ?_))
 by_cases c : (t.size : Int) > 8192
 ·exact EvTo.pos c known_B
 obtain ⟨e1, e2, e3⟩ := h (by omega)
 refine EvTo.neg c (EvTo.pos e2 ?_)
 rw [← e1]
 exact EvTo.bind (Same_self _ (by omega)) (EvTo.pos rfl known_B)
theorem Fh (i : Nat) : Int.tmod (i : Int) 3 = ((i % 3 : Nat) : Int) := by
 rw [Int.tmod_eq_emod_of_nonneg (by omega)]; omega
theorem vK (i : Nat) (t : Tk) (ts : List Tk) : dO i (t :: ts) = wt t ++ (l9 i ++ dO (i + 1) ts) := rfl
theorem zN (a : ByteArray) (us : List Tk) (tot : Nat) (hq : ∀ t ∈ us, t.text.length ≤ 2000) (hl : us.length ≤ 3000) (full : List UInt8)
 (hz : ∀ k' : Nat, us.length = k' → EvTo (fun k => chrysalislaw10_ParseSpaces.l0 k a (us.map (tkS tot)) (S full) (k' : Int)) true) (hf : full.length ≤ 100000) :
 ∀ (m i : Nat) (acc : List UInt8), us.length = m + i → acc ++ dO i (us.drop i) = full → EvTo (fun k => chrysalislaw10_ParseSpaces.l0 k a (us.map (tkS tot)) (S acc) (i : Int)) true := by
 intro m
 induction m with
 | zero =>
  intro i acc h1 h2
  rw [List.drop_eq_nil_of_le (by omega)] at h2
  have : acc = full := by rw [← h2]; simp [dO]
  rw [this]
  exact hz i (by omega)
 | succ m ih =>
  intro i acc h1 h2
  have hi : i < us.length := by omega
  rw [List.drop_eq_getElem_cons hi, vK] at h2
  have hlen := congrArg List.length h2
  simp only [List.length_append] at hlen
  have ht := hq us[i] (List.getElem_mem hi)
  have hone : ((us.map (tkS tot)).take (i + 1)).drop i = [tkS tot us[i]] := by
   rw [List.drop_take, Nat.add_sub_cancel_left, List.drop_eq_getElem_cons (by simpa using hi)]
   simp
  have hx := zI (tkS tot us[i]) (by show (S us[i].text).size ≤ _; rw [kM]; omega)
  have hwt : wrt (tkS tot us[i]).f0 (L (tkS tot us[i]).f1) = wt us[i] := rfl
  rw [hwt] at hx
  have hw : wrap64 ((i : Int) + 1) = ((i + 1 : Nat) : Int) := Tree.inc i (by omega)
  have hsz : ∀ x : List UInt8, (S x).size = x.length := kM
  refine EvTo.step (fun k => by rw [chrysalislaw10_ParseSpaces.l0]) ?_
  simp only [hw]
  clear hw
  refine EvTo.pos (by simp only [List.length_map]; omega) (EvTo.pos (by omega) (EvTo.pos (by omega) (EvTo.pos (by simp only [List.length_map]; omega) ?_)))
  simp only [Int.toNat_natCast, hone]
  refine EvTo.bind hx (EvTo.pos (by rw [hsz, hsz]; omega) ?_)
  rw [Fh]
  have next : ∀ sp : List UInt8, l9 i = sp → EvTo (fun k => chrysalislaw10_ParseSpaces.l0 k a (us.map (tkS tot)) ((S acc ++ S (wt us[i])) ++ S sp) ((i + 1 : Nat) : Int)) true := by
   intro sp hsp
   rw [yJ, yJ]
   refine ih (i + 1) _ (by omega) ?_
   rw [← h2, hsp]
   simp
  by_cases c0 : i % 3 = 0
  ·refine EvTo.pos (by omega) (EvTo.pos Z73 ?_)
   exact next [32, 9] (by unfold l9; rw [if_pos c0])
  refine EvTo.neg (by omega) ?_
  by_cases c1 : i % 3 = 1
  ·refine EvTo.pos (by omega) (EvTo.pos Z73 ?_)
   exact next [10] (by unfold l9; rw [if_neg c0, if_pos c1])
  refine EvTo.neg (by omega) (EvTo.pos Z73 ?_)
  exact next [35, 32, 110, 111, 10] (by unfold l9; rw [if_neg c0, if_neg c1])
theorem zJ (s : ByteArray) (hs : ¬ s.size ≤ 8192) : EvTo (fun k => parse_Text.f k s) (([] : List S41), (3 : Int), (0 : Int)) := by
 have hS := rO s
 unfold nT at hS
 rw [if_neg hs] at hS
 unfold parse_Text.f
 exact EvTo.bind hS (EvTo.neg (by decide) EvTo.now)
theorem BP {us vs : List Tk} (h : us.map uB = vs.map uB) (p q : Nat) : Sim (us.map (tkS p)) (vs.map (tkS q)) := by
 have e : ∀ (l : List Tk) (p : Nat), (l.map (tkS p)).map core = (l.map uB).map (fun k => ((k.1, S k.2.1, k.2.2) : Int × ByteArray × Int)) := fun l p => by
  rw [List.map_map, List.map_map]; rfl
 unfold Sim
 rw [e, e, h]
theorem spaces : chrysalislaw10_ParseSpaces.Pure := by
 intro a0 h0
 refine EvTo.one (F := fun k => chrysalislaw10_ParseSpaces.f k a0) ?_
 unfold chrysalislaw10_ParseSpaces.f
 by_cases h : (a0.size : Int) > 2000
 ·exact EvTo.pos h known_B
 refine EvTo.neg h ?_
 have hs : a0.size ≤ 2000 := by omega
 cases hsc : Lex.scan (L a0) with
 | error e =>
  obtain ⟨e, r⟩ := e
  obtain ⟨n1, _, n3⟩ := Eb a0 (by omega) hsc
  exact EvTo.bind n3 (EvTo.neg n1 known_B)
 | ok us =>
  refine EvTo.bind (Ei a0 (by omega) hsc) (EvTo.pos rfl ?_)
  obtain ⟨n0, hr⟩ := rounds 3000
  have hr := hr (n0 + 3000) (by omega)
  generalize n0 + 3000 = n at hr
  obtain ⟨t1, t2, t3⟩ := text_toks (show a0.size ≤ 3000 by omega) hsc
  obtain ⟨c1, c2⟩ := qM hsc
  rw [← L_size] at c1
  have c2 : ∀ t ∈ us, 1 ≤ t.rem ∧ t.rem ≤ a0.size ∧ t.text.length ≤ a0.size := fun t ht => by have := c2 t ht; rw [← L_size] at this; exact this
  obtain ⟨g1, vs, g2, g3⟩ := vN hsc
  rw [← L_size] at g1
  have hv := text_A a0 (by omega) hsc n (hr.2 _ t1 t2)
  have lv : vs.length = us.length := by have := congrArg List.length g3; simpa using this
  have fin : ∀ k' : Nat, us.length = k' → EvTo (fun k => chrysalislaw10_ParseSpaces.l0 k a0 (us.map (tkS a0.size)) (S (dO 0 us)) (k' : Int)) true := by
   intro k' hk'
   by_cases big : (S (dO 0 us)).size ≤ 8192
   ·obtain ⟨d1, d2⟩ := qM g2
    have dt : ∀ t ∈ vs, t.text.length ≤ 2000 := fun t ht => by
     have : uB t ∈ us.map uB := by rw [← g3]; exact List.mem_map_of_mem ht
     obtain ⟨u, hu, e⟩ := List.mem_map.1 this
     have e2 : u.text = t.text := congrArg (fun p : Int × List UInt8 × Int => p.2.1) e
     rw [← e2]
     have := c2 u hu
     omega
    have hS := rO (S (dO 0 us))
    unfold nT at hS
    rw [if_pos big, L_S, g2] at hS
    have b1 : (vs.map (tkS (S (dO 0 us)).size)).length ≤ 3000 := by simp; omega
    have b2 : TB (vs.map (tkS (S (dO 0 us)).size)) := fun t ht => by
     obtain ⟨u, hu, rfl⟩ := List.mem_map.1 ht
     have := dt u hu
     show (S u.text).size ≤ 3000
     rw [kM]; omega
    have b3 : small (vs.map (tkS (S (dO 0 us)).size)) := fun t ht => by
     obtain ⟨u, hu, rfl⟩ := List.mem_map.1 ht
     show _ ≤ (((S (dO 0 us)).size - u.rem : Nat) : Int) ∧ (((S (dO 0 us)).size - u.rem : Nat) : Int) ≤ _
     omega
    have hv2 := tree_A _ (by omega) b3 n (hr.2 _ b1 b2)
    have hsim := BQ (n := n) (BP g3.symm a0.size (S (dO 0 us)).size) (hr.2 _ t1 t2) (hr.2 _ b1 b2)
    have hT : EvTo (fun k => parse_Text.f k (S (dO 0 us))) (ansS (vs.map (tkS (S (dO 0 us)).size)) (moduleP (pfam n) n (vs.map (tkS (S (dO 0 us)).size)))) := by
     unfold parse_Text.f
     exact EvTo.bind hS (EvTo.pos rfl (EvTo.bind hv2 EvTo.now))
    exact vJ a0 _ _ _ hv hT (fun _ => ⟨hsim.1, hsim.2, Dv⟩) _ k' (by simpa using hk')
   exact vJ a0 _ _ _ hv (zJ _ big) (fun h => absurd h big) _ k' (by simpa using hk')
  exact zN a0 us a0.size (fun t ht => by have := c2 t ht; omega) (by omega) (dO 0 us) fin (by omega) us.length 0 [] (by omega) (by simp)
end Go.Proofs.Ytendgafpkeadhaa.Par
namespace Go.Proofs.Ytendgafpkeadhaa.Pure
theorem ParseSpaces : Q.chrysalislaw10_ParseSpaces.Pure := Par.spaces
end Go.Proofs.Ytendgafpkeadhaa.Pure
end
