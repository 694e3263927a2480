/- Walks over functions of the program, words for them, and what the functions come to; of each text only what this claim uses; no condition. -/
import Derived.Test.YtendgafpkeadhaaZRO0
import Derived.Test.YtendgafpkeadhaaZRO12
import Derived.Test.YtendgafpkeadhaaZRO13
import Derived.Test.YtendgafpkeadhaaZRO14
import Derived.Test.YtendgafpkeadhaaZRO17
import Derived.Test.YtendgafpkeadhaaZRO18
import Derived.Test.YtendgafpkeadhaaZRO19
section
set_option linter.unusedVariables false
set_option linter.unusedSimpArgs false
namespace Go.Proofs.Ytendgafpkeadhaa.Tree
open Go Go.RowKit Go.Proofs.YtendgafpkeadhaaW.PrintWords Go.Proofs.Ytendgafpkeadhaa.Q Go.Proofs.Ytendgafpkeadhaa.Lex
theorem EvTo.both {α : Type} {F G : Nat → Option α} {v u : α} {c : Prop} [Decidable c] (f : c → EvTo F v) (g : ¬c → EvTo G u) : EvTo (fun k => if c then F k else G k) (if c then v else u) := by
 by_cases h : c
 ·rw [if_pos h]; exact EvTo.pos h (f h)
 rw [if_neg h]; exact EvTo.neg h (g h)
def OPS : List (List UInt8) := [[43], [45], [42], [47], [37], [46, 46], [61, 61], [33, 61], [60], [60, 61], [97, 110, 100], [111, 114]]
def UNS : List (List UInt8) := [[45], [110, 111, 116], [108, 101, 110]]
def OB : ByteArray := (⟨#[32, 43, 32, 45, 32, 42, 32, 47, 32, 37, 32, 46, 46, 32, 61, 61, 32, 33, 61, 32, 60, 32, 60, 61, 32, 97, 110, 100, 32, 111, 114, 32]⟩ : ByteArray)
def UB : ByteArray := (⟨#[32, 45, 32, 110, 111, 116, 32, 108, 101, 110, 32]⟩ : ByteArray)
theorem xG : wordsOf (L OB) = OPS := by decide +kernel
theorem xE : wordsOf (L UB) = UNS := by decide +kernel
theorem ET (w s : ByteArray) (hs : s.size ≤ 3000) (hw : w.size ≤ 1000) (hne : ¬ s.toList = ([] : List UInt8)) : ∀ (m i : Nat), w.size ≤ m + i → i ≤ w.size + 1 →
 EvTo (fun k => bD.l1 k w s ((s.size + 2 : Nat) : Int) (i : Int)) (kC (32 :: (L s ++ [32])) ((L w).drop i)) := by
 have hb : (32 :: (L s ++ [32])).length = s.size + 2 := by rw [L_size]; simp
 have hwL := L_size w
 have h1s : ((⟨#[32]⟩ : ByteArray) ++ s).size = 1 + s.size := by rw [ByteArray.size_append]; rfl
 have hLb : (((⟨#[32]⟩ : ByteArray) ++ s) ++ (⟨#[32]⟩ : ByteArray)).toList = 32 :: (L s ++ [32]) := by
  rw [eP, L_append, L_append]; rfl
 intro m
 induction m with
 | zero =>
  intro i h1 h2
  refine EvTo.step (fun k => by rw [bD.l1]) (EvTo.neg hne ?_)
  refine EvTo.step (fun k => by rw [bD.j2]) (EvTo.neg ?_ ?_)
  ·rw [w64 (by omega) (by omega)]; simp; omega
  rw [l9 _ _ (by rw [List.length_drop, hb]; omega)]
  exact EvTo.now
 | succ m ih =>
  intro i h1 h2
  refine EvTo.step (fun k => by rw [bD.l1]) (EvTo.neg hne ?_)
  have hwr : wrap64 ((i : Int) + ((s.size + 2 : Nat) : Int)) = ((i + (s.size + 2) : Nat) : Int) := by rw [w64 (by omega) (by omega)]; omega
  rw [hwr]
  refine EvTo.step (fun k => by rw [bD.j2]) ?_
  rw [hwr]
  by_cases c : i + (s.size + 2) ≤ w.size
  ·refine EvTo.pos (decide_eq_true (by omega)) (EvTo.pos (by omega) (EvTo.pos (by omega) (EvTo.pos (by omega) (EvTo.pos (by omega) (EvTo.pos (by omega) ?_)))))
   rw [Int.toNat_natCast, Int.toNat_natCast, eP, vV, hLb, inc i (by omega)]
   have hd := fH (L w) i (by omega)
   by_cases e : ((L w).drop i).take (s.size + 2) = 32 :: (L s ++ [32])
   ·refine EvTo.pos e ?_
    have : kC (32 :: (L s ++ [32])) ((L w).drop i) = true := by
     rw [hd] at e ⊢
     rw [kC, Bool.or_eq_true, jk]
     refine Or.inl ⟨?_, by rw [hb]; exact e⟩
     rw [hb, ← hd, List.length_drop]; omega
    rw [this]
    exact EvTo.now
   refine EvTo.neg e ?_
   have : kC (32 :: (L s ++ [32])) ((L w).drop i) = kC (32 :: (L s ++ [32])) ((L w).drop (i + 1)) := by
    rw [hd, kC, ← hd]
    have : List.isPrefixOf (32 :: (L s ++ [32])) ((L w).drop i) = false := by
     rw [Bool.eq_false_iff, ne_eq, jk]
     rintro ⟨_, q⟩
     rw [hb] at q
     exact e q
    rw [this, Bool.false_or]
   rw [this]
   exact ih (i + 1) (by omega) (by omega)
  refine EvTo.neg (by simp; omega) ?_
  rw [l9 _ _ (by rw [List.length_drop, hb]; omega)]
  exact EvTo.now
theorem ut (q : UInt8 → Bool) (l : List UInt8) : (l.takeWhile q).all q = true := by
 induction l with
 | nil => rfl
 | cons a t ih =>
  rw [List.takeWhile_cons]
  split
  ·rename_i h; rw [List.all_cons, h, ih]; rfl
  rfl
theorem pJ : ∀ (l x : List UInt8), x ∈ wordsOf l → x.all nG = true
 | [], x, h => by simp [wordsOf] at h
 | c :: t, x, h => by
  rw [wordsOf] at h
  split at h
  ·rcases List.mem_cons.1 h with rfl | h
   ·exact ut _ _
   exact pJ t x h
  exact pJ t x h
theorem EU (w s : ByteArray) (hs : s.size ≤ 3000) (hw : w.size ≤ 1000) (hn : (wordsOf (L w)).contains [] = false) : ∀ (m i : Nat), s.size = m + i →
 (∀ j, j < i → (L s).getD j 0 ≠ 32) → EvTo (fun k => bD.l0 k w s (s.size : Int) (i : Int)) ((wordsOf (L w)).contains (L s)) := by
 have hL := L_size s
 intro m
 induction m with
 | zero =>
  intro i h1 h2
  refine EvTo.step (fun k => by rw [bD.l0]) (EvTo.neg (by omega) ?_)
  have hall : (L s).all nG = true := by
   rw [List.all_eq_true]
   intro x hx
   obtain ⟨j, hj, rfl⟩ := List.getElem_of_mem hx
   have := h2 j (by omega)
   rw [List.getD_eq_getElem?_getD, List.getElem?_eq_getElem hj] at this
   simpa [nG] using this
  rw [w64 (n := (s.size : Int) + 2) (by omega) (by omega), show (s.size : Int) + 2 = ((s.size + 2 : Nat) : Int) by omega]
  by_cases e : s.toList = ([] : List UInt8)
  ·rw [(isE s).1 e, hn]
   refine EvTo.step (fun k => by rw [bD.l1]) (EvTo.pos e ?_)
   exact EvTo.step (fun k => by rw [bD.j2]) (EvTo.neg (by simp) EvTo.now)
  rw [← pR _ hall]
  have := ET w s hs hw e w.size 0 (by omega) (by omega)
  rw [List.drop_zero] at this
  exact this
 | succ m ih =>
  intro i h1 h2
  refine EvTo.step (fun k => by rw [bD.l0]) (EvTo.pos (by omega) (EvTo.pos (by omega) (EvTo.pos (by omega) ?_)))
  rw [pW, inc i (by omega)]
  have hsplit : ((((L s).getD i 0).toNat : Int) = 32) ↔ (L s).getD i 0 = 32 := fA _ 32
  by_cases c : (L s).getD i 0 = 32
  ·refine EvTo.pos (hsplit.2 c) ?_
   have : (wordsOf (L w)).contains (L s) = false := by
    rw [Bool.eq_false_iff]
    intro h
    have := pJ _ _ (List.contains_iff_mem.1 h)
    rw [List.all_eq_true] at this
    have hi : i < (L s).length := by omega
    have := this _ (List.getElem_mem hi)
    rw [List.getD_eq_getElem?_getD, List.getElem?_eq_getElem hi] at c
    simp at c
    rw [c] at this
    exact absurd this (by decide)
   rw [this]
   exact EvTo.now
  refine EvTo.neg (fun h => c (hsplit.1 h)) (ih (i + 1) (by omega) (fun j hj => ?_))
  rcases Nat.eq_or_lt_of_le (Nat.lt_succ_iff.1 hj) with rfl | hj
  ·exact c
  exact h2 j hj
theorem BB (w s : ByteArray) (hs : s.size ≤ 3000) (hw : w.size ≤ 1000) (hn : (wordsOf (L w)).contains [] = false) : EvTo (fun k => bD.f k w s) ((wordsOf (L w)).contains (L s)) := by
 have := EU w s hs hw hn s.size 0 (by omega) (fun j hj => by omega)
 exact this
/-- What a node of a kind has, and whether there is such a kind; what its number may be. -/
def yE (a : Int) : Int × Bool :=
 if a = 1 then (5, true) else if a = 2 then (7, true) else if a = 3 ∨ a = 4 ∨ a = 6 ∨ a = 7 ∨ a = 21 then (1, true) else if a = 19 then (4, true) else if a = 20 then (32, true)
 else if a = 23 then (3, true) else if a = 27 then (8, true) else if a = 28 then (16, true) else (0, decide (1 ≤ a ∧ a ≤ 30))
def rangeS (a : Int) : Int × Int := if a = 1 then (1, 2147483647) else if a = 2 then (0, 8) else (0, 9223372036854775807)
theorem yD (a : Int) (b : Bool) (h : b = decide (a = 3 ∨ a = 4 ∨ a = 6 ∨ a = 7 ∨ a = 21)) (h1 : a ≠ 1) (h2 : a ≠ 2) : EvTo (fun k => dN.j0 k a a b) (yE a) := by
 refine EvTo.step (fun k => by rw [dN.j0]) ?_
 unfold yE
 rw [if_neg h1, if_neg h2]
 by_cases c : a = 3 ∨ a = 4 ∨ a = 6 ∨ a = 7 ∨ a = 21
 ·rw [if_pos c]
  exact EvTo.pos (by rw [h]; exact decide_eq_true c) EvTo.now
 rw [if_neg c]
 refine EvTo.neg (by rw [h]; simpa using c) ?_
 refine EvTo.both (fun _ => EvTo.now) (fun c1 => EvTo.both (fun _ => EvTo.now) (fun c2 => EvTo.both (fun _ => EvTo.now) (fun c3 => EvTo.both (fun _ => EvTo.now) (fun c4 => EvTo.both (fun _ => EvTo.now) (fun c5 => ?_)))))
 by_cases c6 : a ≥ 1
 ·refine EvTo.pos c6 ?_
  rw [show (decide (1 ≤ a ∧ a ≤ 30)) = decide (a ≤ 30) from by simp; omega]
  exact EvTo.now
 refine EvTo.neg c6 ?_
 rw [show (decide (1 ≤ a ∧ a ≤ 30)) = false from decide_eq_false (by omega)]
 exact EvTo.now
theorem J7 (a : Int) : EvTo (fun k => dN.f k a) (yE a) := by
 unfold dN.f
 by_cases h1 : a = 1
 ·subst h1; exact EvTo.pos rfl EvTo.now
 refine EvTo.neg h1 ?_
 by_cases h2 : a = 2
 ·subst h2; exact EvTo.pos rfl EvTo.now
 refine EvTo.neg h2 ?_
 by_cases h3 : a = 3
 ·exact EvTo.pos h3 (yD a _ (by simp [h3]) h1 h2)
 refine EvTo.neg h3 ?_
 by_cases h4 : a = 4
 ·exact EvTo.pos h4 (yD a _ (by simp [h4]) h1 h2)
 refine EvTo.neg h4 ?_
 by_cases h5 : a = 6
 ·exact EvTo.pos h5 (yD a _ (by simp [h5]) h1 h2)
 refine EvTo.neg h5 ?_
 by_cases h6 : a = 7
 ·exact EvTo.pos h6 (yD a _ (by simp [h6]) h1 h2)
 refine EvTo.neg h6 (yD a _ ?_ h1 h2)
 rw [Bool.eq_iff_iff, beq_iff_eq, decide_eq_true_eq]; omega
def rO (b m : Int) : Bool := Go.bits .and .i64 b m != 0
def textS (b : Int) (s : ByteArray) : Bool :=
 if Go.bits .and .i64 b 2 = 0 then if Go.bits .and .i64 b 8 = 0 then if Go.bits .and .i64 b 16 = 0 then if Go.bits .and .i64 b 32 = 0 then (L s).isEmpty else decide (s.size ≤ 1024) else UNS.contains (L s) else OPS.contains (L s) else jD (L s)
theorem Ic (b : Int) (s : ByteArray) (hs : s.size ≤ 3000) : EvTo (fun k => fM.f k b s) (textS b s) := by
 unfold fM.f textS
 refine EvTo.both (fun _ => EvTo.both (fun _ => EvTo.both (fun _ => EvTo.both (fun _ => EvTo.jv fun k => ?_) (fun _ => EvTo.jv fun k => ?_)) (fun _ => ?_)) (fun _ => ?_)) (fun _ => ?_)
 ·rw [eP]
  cases L s <;> rfl
 ·congr 1
  rw [decide_eq_decide]; omega
 ·have := BB UB s hs (by decide) (by rw [xE]; decide)
  rw [xE] at this
  exact EvTo.bind (G := fun _ t => some t) this EvTo.now
 ·have := BB OB s hs (by decide) (by rw [xG]; decide)
  rw [xG] at this
  exact EvTo.bind (G := fun _ t => some t) this EvTo.now
 exact EvTo.bind (G := fun _ t => some t) (zV s (by omega)) EvTo.now
/-- A node has just what it may. -/
def Bc (b : Int) (ok : Bool) (lo hi : Int) (x : S41) : Bool :=
 ok && (textS b x.f4 && ((rO b 1 == jD (L x.f2)) && ((rO b 1 || (L x.f2).isEmpty) && (if Go.bits .and .i64 b 4 = 0 then x.f3 == 0 else decide (lo ≤ x.f3 ∧ x.f3 ≤ hi)))))
def oK (x : S41) : Bool := Bc (yE x.f0).1 (yE x.f0).2 (rangeS x.f0).1 (rangeS x.f0).2 x
theorem FQ (a : Int) : ik.f a = some (rangeS a) := by
 unfold ik.f rangeS
 split
 ·rfl
 split <;> rfl
theorem qO (x : S41) (b lo hi : Int) (c : Bool) : EvTo (fun k => bH.j1 k b lo hi c x.f0 x.f1 x.f2 x.f3 x.f4) (!c && (if Go.bits .and .i64 b 4 = 0 then x.f3 == 0 else decide (lo ≤ x.f3 ∧ x.f3 ≤ hi))) := by
 refine EvTo.step (fun k => by rw [bH.j1]) ?_
 cases c with
 | true => exact EvTo.pos rfl EvTo.now
 | false =>
  refine EvTo.neg (by simp) ?_
  rw [Bool.not_false, Bool.true_and]
  refine EvTo.both (fun _ => EvTo.now) (fun c4 => ?_)
  by_cases c5 : x.f3 ≥ lo
  ·refine EvTo.pos c5 ?_
   rw [show decide (lo ≤ x.f3 ∧ x.f3 ≤ hi) = decide (x.f3 ≤ hi) from by rw [decide_eq_decide]; omega]
   exact EvTo.now
  refine EvTo.neg c5 ?_
  rw [show decide (lo ≤ x.f3 ∧ x.f3 ≤ hi) = false from decide_eq_false (by omega)]
  exact EvTo.now
theorem vI (x : S41) (h2 : x.f2.size ≤ 3000) (b lo hi : Int) (c : Bool) : EvTo (fun k => bH.j0 k b lo hi c x.f0 x.f1 x.f2 x.f3 x.f4)
 (!c && ((rO b 1 == jD (L x.f2)) && ((rO b 1 || (L x.f2).isEmpty) && (if Go.bits .and .i64 b 4 = 0 then x.f3 == 0 else decide (lo ≤ x.f3 ∧ x.f3 ≤ hi))))) := by
 refine EvTo.step (fun k => by rw [bH.j0]) ?_
 cases c with
 | true => exact EvTo.pos rfl EvTo.now
 | false =>
  refine EvTo.neg (by simp) (EvTo.bind (zV x.f2 (by omega)) ?_)
  rw [Bool.not_false, Bool.true_and]
  by_cases c1 : rO b 1 = jD (L x.f2)
  ·rw [beq_iff_eq.2 c1, Bool.true_and]
   refine EvTo.neg (by unfold rO at c1; rw [c1]; simp) ?_
   by_cases c2 : Go.bits .and .i64 b 1 = 0
   ·refine EvTo.pos c2 ?_
    have hb : rO b 1 = false := by unfold rO; rw [c2]; rfl
    rw [hb, Bool.false_or]
    have := qO x b lo hi (x.f2.toList != ([] : List UInt8))
    rwa [show (!(x.f2.toList != ([] : List UInt8))) = (L x.f2).isEmpty from by rw [eP]; cases L x.f2 <;> rfl] at this
   refine EvTo.neg c2 ?_
   have hb : rO b 1 = true := by unfold rO; simpa using c2
   rw [hb, Bool.true_or, Bool.true_and]
   have := qO x b lo hi false
   rwa [Bool.not_false, Bool.true_and] at this
  rw [show (rO b 1 == jD (L x.f2)) = false from beq_eq_false_iff_ne.2 c1, Bool.false_and]
  exact EvTo.pos (by unfold rO at c1; simpa using c1) (qO x b lo hi true)
theorem EE (x : S41) (h2 : x.f2.size ≤ 3000) (h4 : x.f4.size ≤ 3000) : EvTo (fun k => bH.f k x.f0 x.f1 x.f2 x.f3 x.f4) (oK x) := by
 unfold bH.f oK Bc
 refine EvTo.bind (J7 x.f0) ?_
 simp only [FQ, Option.bind_some]
 cases hok : (yE x.f0).2 with
 | false =>
  rw [Bool.false_and]
  exact EvTo.neg (by simp) (vI x h2 _ _ _ true)
 | true =>
  rw [Bool.true_and]
  refine EvTo.pos rfl (EvTo.bind (Ic _ _ h4) ?_)
  have := vI x h2 (yE x.f0).1 (rangeS x.f0).1 (rangeS x.f0).2 (!textS (yE x.f0).1 x.f4)
  rwa [Bool.not_not] at this
/-! Kids. -/
def exS (l : List Int) (lo hi : Nat) : Bool := decide (lo ≤ l.length ∧ l.length ≤ hi) && l.all kS
def ifS (hi : Nat) (l : List Int) : Bool := decide (2 ≤ l.length ∧ l.length ≤ hi) && (kS (rd l 0) && (l.drop 1).all (· == 5))
def G6 (l : List Int) : Bool := decide (1 ≤ l.length ∧ l.length ≤ 9) && (rd l ((l.length - 1 : Nat) : Int) == 5 && (l.take (l.length - 1)).all (· == 4))
def wM (l : List Int) : Bool := (l.dropWhile (· == 2)).all (· == 3)
def jy (a : Int) (l : List Int) : Bool :=
 if a = 1 then wM l else if a = 3 ∨ a = 24 then G6 l else if a = 5 then l.all jr else if a = 9 then ifS 3 l else if a = 10 then ifS 2 l else if a = 8 then exS l 3 3
 else if a = 6 ∨ a = 7 ∨ a = 13 ∨ a = 14 ∨ a = 15 ∨ a = 17 ∨ a = 28 ∨ a = 30 then exS l 1 1 else if a = 22 then exS l 1 9 else if a = 23 then exS l 0 8 else if a = 26 ∨ a = 27 then exS l 2 2 else decide (l.length = 0)
theorem oL (l : List Int) (lo hi : Nat) : eH.f l (lo : Int) (hi : Int) = some (exS l lo hi) := by
 unfold eH.f exS nN.f
 by_cases c : lo ≤ l.length
 ·rw [if_pos (by omega)]
  by_cases c2 : l.length ≤ hi
  ·rw [if_pos (by omega), decide_eq_true ⟨c, c2⟩]; rfl
  rw [if_neg (by omega), decide_eq_false (by omega)]; rfl
 rw [if_neg (by omega), decide_eq_false (by omega)]; rfl
theorem Js (a : Int) : gm.f a = some (kS a) := by
 unfold gm.f kS
 by_cases c : a ≥ 18
 ·rw [if_pos c]; congr 1; rw [decide_eq_decide]; omega
 rw [if_neg c]; congr 1; symm; exact decide_eq_false (by omega)
theorem zC (l : List Int) (hl : l.length ≤ 200000) : dn.f l = some (G6 l) := by
 unfold dn.f G6 jP.f
 by_cases c : 1 ≤ l.length
 ·rw [w64 (by omega) (by omega), show (l.length : Int) - 1 = ((l.length - 1 : Nat) : Int) by omega, if_pos (by omega)]
  by_cases c2 : l.length ≤ 9
  ·rw [if_pos (by omega), if_pos (by omega), if_pos (by omega), decide_eq_true ⟨c, c2⟩, Bool.true_and]
   by_cases c3 : rd l ((l.length - 1 : Nat) : Int) = 5
   ·rw [if_pos c3, if_pos (by omega), c3]; rfl
   rw [if_neg c3, show (rd l ((l.length - 1 : Nat) : Int) == 5) = false from beq_eq_false_iff_ne.2 c3]; rfl
  rw [if_neg (by omega), decide_eq_false (by omega)]; rfl
 rw [w64 (by omega) (by omega), if_neg (by omega), decide_eq_false (by omega)]; rfl
theorem Eo (l : List Int) (hl : l.length ≤ 200000) : ∀ (m i : Nat), l.length = m + i → EvTo (fun k => cZ.l0 k l (i : Int)) (wM (l.drop i)) := by
 intro m
 induction m with
 | zero =>
  intro i h
  refine EvTo.step (fun k => by rw [cZ.l0]) (EvTo.neg (by omega) (EvTo.pos (by omega) (EvTo.pos (by omega) ?_)))
  rw [Int.toNat_natCast, List.drop_eq_nil_of_le (by omega)]
  exact EvTo.now
 | succ m ih =>
  intro i h
  have hi : i < l.length := by omega
  have hrd : rd l (i : Int) = l[i] := by simp [rd, List.getD_eq_getElem?_getD, List.getElem?_eq_getElem hi]
  refine EvTo.step (fun k => by rw [cZ.l0]) (EvTo.pos (by omega) (EvTo.pos (by omega) ?_))
  rw [hrd, inc i (by omega)]
  by_cases c : l[i] = 2
  ·refine EvTo.pos c ?_
   rw [show wM (l.drop i) = wM (l.drop (i + 1)) from by unfold wM; rw [List.drop_eq_getElem_cons hi, List.dropWhile_cons, if_pos (by rw [c]; rfl)]]
   exact ih (i + 1) (by omega)
  refine EvTo.neg c (EvTo.pos (by omega) ?_)
  rw [Int.toNat_natCast, show wM (l.drop i) = (l.drop i).all (· == 3) from by unfold wM; rw [List.drop_eq_getElem_cons hi, List.dropWhile_cons, if_neg (by simpa using c)]]
  exact EvTo.now
theorem Et (l : List Int) (hl : l.length ≤ 200000) : EvTo (fun k => cZ.f k l) (wM l) := by
 have := Eo l hl l.length 0 (by omega)
 exact this
theorem qY {α : Type} {F : Nat → Option α} {v : α} (h : EvTo F v) : EvTo (fun k => (F k).bind fun t => some t) v := EvTo.bind h EvTo.now
theorem Gu (a : Int) (l : List Int) (hl : l.length ≤ 200000) (b : Bool) (hb : b = decide (a = 6 ∨ a = 7 ∨ a = 13 ∨ a = 14 ∨ a = 15 ∨ a = 17 ∨ a = 28 ∨ a = 30)) (h1 : a ≠ 1) (h2 : ¬ (a = 3 ∨ a = 24)) (h3 : a ≠ 5) (h4 : a ≠ 9) (h5 : a ≠ 10) (h6 : a ≠ 8) :
 EvTo (fun k => aW.j2 k l (l.length : Int) a b) (jy a l) := by
 unfold jy
 rw [if_neg h1, if_neg h2, if_neg h3, if_neg h4, if_neg h5, if_neg h6]
 refine EvTo.step (fun k => by rw [aW.j2]) ?_
 by_cases c : a = 6 ∨ a = 7 ∨ a = 13 ∨ a = 14 ∨ a = 15 ∨ a = 17 ∨ a = 28 ∨ a = 30
 ·rw [if_pos c]
  exact EvTo.pos Z76 (qY (EvTo.jv fun k => oL l 1 1))
 rw [if_neg c]
 refine EvTo.neg (by rw [hb]; simpa using c) ?_
 refine EvTo.both (fun _ => qY (EvTo.jv fun k => oL l 1 9)) (fun _ => EvTo.both (fun _ => qY (EvTo.jv fun k => oL l 0 8)) (fun _ => ?_))
 by_cases c3 : a = 26
 ·rw [if_pos (Or.inl c3)]; exact EvTo.pos c3 (qY (EvTo.jv fun k => oL l 2 2))
 refine EvTo.neg c3 ?_
 by_cases c4 : a = 27
 ·rw [if_pos (Or.inr c4)]; exact EvTo.pos c4 (qY (EvTo.jv fun k => oL l 2 2))
 rw [if_neg (show ¬ (a = 26 ∨ a = 27) by omega)]
 refine EvTo.neg c4 (EvTo.jv fun k => ?_)
 congr 1
 rw [Bool.eq_iff_iff, beq_iff_eq, decide_eq_true_eq]; omega
theorem Hq {F : Nat → Option Bool} (l : List Int) (hi : Nat) (hF : ∀ k, F k = if (l.length : Int) ≥ 2 then (if (l.length : Int) ≤ (hi : Int) then (if 0 < (l.length : Int) then ((gm.f (rd l 0)).bind fun t153 => (if t153 = true then (if 1 ≤ (l.length : Int) then ((jP.f (l.drop 1) 5).bind fun t155 => (some t155)) else (none)) else (some false))) else (none)) else (some false)) else (some false)) :
 EvTo F (ifS hi l) := by
 refine EvTo.jv fun k => ?_
 rw [hF]
 unfold ifS
 by_cases c : 2 ≤ l.length
 ·rw [if_pos (by omega)]
  by_cases c2 : l.length ≤ hi
  ·rw [if_pos (by omega), if_pos (by omega), Js, decide_eq_true ⟨c, c2⟩, Bool.true_and, Option.bind_some]
   cases kS (rd l 0)
   ·rfl
   rw [if_pos rfl, if_pos (by omega)]; rfl
  rw [if_neg (by omega), decide_eq_false (by omega)]; rfl
 rw [if_neg (by omega), decide_eq_false (by omega)]; rfl
theorem AX (a : Int) (l : List Int) (hl : l.length ≤ 200000) (b : Bool) (hb : b = decide (a = 9 ∨ a = 10)) (h1 : a ≠ 1) (h2 : ¬ (a = 3 ∨ a = 24)) (h3 : a ≠ 5) :
 EvTo (fun k => aW.j1 k a l (l.length : Int) a b) (jy a l) := by
 refine EvTo.step (fun k => by rw [aW.j1]) ?_
 by_cases c1 : a = 9
 ·rw [show jy a l = ifS 3 l from by unfold jy; rw [if_neg h1, if_neg h2, if_neg h3, if_pos c1]]
  exact EvTo.pos (by rw [hb]; exact decide_eq_true (.inl c1)) (EvTo.pos c1 (Hq l 3 (fun k => rfl)))
 by_cases c2 : a = 10
 ·rw [show jy a l = ifS 2 l from by unfold jy; rw [if_neg h1, if_neg h2, if_neg h3, if_neg c1, if_pos c2]]
  exact EvTo.pos (by rw [hb]; exact decide_eq_true (.inr c2)) (EvTo.neg c1 (Hq l 2 (fun k => rfl)))
 refine EvTo.neg (by rw [hb]; simp [c1, c2]) ?_
 by_cases c3 : a = 8
 ·refine EvTo.pos c3 ?_
  rw [show jy a l = exS l 3 3 from by unfold jy; rw [if_neg h1, if_neg h2, if_neg h3, if_neg c1, if_neg c2, if_pos c3]]
  exact qY (EvTo.jv fun k => oL l 3 3)
 refine EvTo.neg c3 ?_
 have go : ∀ b : Bool, b = decide (a = 6 ∨ a = 7 ∨ a = 13 ∨ a = 14 ∨ a = 15 ∨ a = 17 ∨ a = 28 ∨ a = 30) → EvTo (fun k => aW.j2 k l (l.length : Int) a b) (jy a l) := fun b hb => Gu a l hl b hb h1 h2 h3 c1 c2 c3
 by_cases d1 : a = 6
 ·exact EvTo.pos d1 (go _ (by simp [d1]))
 refine EvTo.neg d1 ?_
 by_cases d2 : a = 7
 ·exact EvTo.pos d2 (go _ (by simp [d2]))
 refine EvTo.neg d2 ?_
 by_cases d3 : a = 13
 ·exact EvTo.pos d3 (go _ (by simp [d3]))
 refine EvTo.neg d3 ?_
 by_cases d4 : a = 14
 ·exact EvTo.pos d4 (go _ (by simp [d4]))
 refine EvTo.neg d4 ?_
 by_cases d5 : a = 15
 ·exact EvTo.pos d5 (go _ (by simp [d5]))
 refine EvTo.neg d5 ?_
 by_cases d6 : a = 17
 ·exact EvTo.pos d6 (go _ (by simp [d6]))
 refine EvTo.neg d6 ?_
 by_cases d7 : a = 28
 ·exact EvTo.pos d7 (go _ (by simp [d7]))
 exact EvTo.neg d7 (go _ Z77)
theorem AY (a : Int) (l : List Int) (hl : l.length ≤ 200000) (b : Bool) (hb : b = decide (a = 3 ∨ a = 24)) (h1 : a ≠ 1) : EvTo (fun k => aW.j0 k a l (l.length : Int) a b) (jy a l) := by
 refine EvTo.step (fun k => by rw [aW.j0]) ?_
 by_cases c : a = 3 ∨ a = 24
 ·refine EvTo.pos Z76 ?_
  rw [show jy a l = G6 l from by unfold jy; rw [if_neg h1, if_pos c]]
  exact qY (EvTo.jv fun k => zC l hl)
 refine EvTo.neg (by rw [hb]; simpa using c) ?_
 by_cases c1 : a = 5
 ·refine EvTo.pos c1 ?_
  rw [show jy a l = l.all jr from by unfold jy; rw [if_neg h1, if_neg c, if_pos c1]]
  exact EvTo.now
 refine EvTo.neg c1 ?_
 by_cases d1 : a = 9
 ·exact EvTo.pos d1 (AX a l hl _ (by simp [d1]) h1 c c1)
 exact EvTo.neg d1 (AX a l hl _ Z77 h1 c c1)
theorem IX (a : Int) (l : List Int) (hl : l.length ≤ 200000) : EvTo (fun k => aW.f k a l) (jy a l) := by
 unfold aW.f
 by_cases c : a = 1
 ·refine EvTo.pos c ?_
  rw [show jy a l = wM l from by unfold jy; rw [if_pos c]]
  exact qY (Et l hl)
 refine EvTo.neg c ?_
 by_cases d1 : a = 3
 ·exact EvTo.pos d1 (AY a l hl _ (by simp [d1]) c)
 exact EvTo.neg d1 (AY a l hl _ Z77 c)
end Go.Proofs.Ytendgafpkeadhaa.Tree
end
section
set_option linter.unusedVariables false
set_option linter.unusedSimpArgs false
namespace Go.Proofs.Ytendgafpkeadhaa.Tree
open Go Go.RowKit Go.Proofs.YtendgafpkeadhaaW.PrintWords Go.Proofs.Ytendgafpkeadhaa.Q Go.Proofs.Ytendgafpkeadhaa.Lex
/-- The kinds of a node's kids. -/
def IW (l : List S41) (i : Nat) : List Int := (its l (rd_T41 l (i : Int)).f1.toNat ((i + 1 : Nat) : Int)).map fun p => (rd_T41 l p).f0
def ED (l : List S41) (i : Nat) : Bool := oK (rd_T41 l (i : Int)) && jy (rd_T41 l (i : Int)).f0 (IW l i)
/-- The first node from a place on that is not right; so many are left. -/
def ER (l : List S41) : Nat → Nat → Int × Int
 | 0, _ => (0, 0)
 | m + 1, i => if ED l i then ER l m (i + 1) else (4, (i : Int))
def vZ (l : List S41) : Bool := decide (iZ l.length l 1 = some l.length)
def checkS (l : List S41) : Int × Int :=
 if 2000 < l.length then (3, 0) else if vZ l = false then (2, 0) else if 60 < rM l [] 0 then (3, 0) else if (rd_T41 l 0).f0 ≠ 1 then (4, 0) else ER l l.length 0
/-- Names and texts are short. -/
def short (l : List S41) : Prop := ∀ x ∈ l, x.f2.size ≤ 3000 ∧ x.f4.size ≤ 3000
theorem D6 {l : List S41} (h : short l) (i : Nat) (hi : i < l.length) : (rd_T41 l (i : Int)).f2.size ≤ 3000 ∧ (rd_T41 l (i : Int)).f4.size ≤ 3000 := by
 rw [rd36 l i hi]
 exact h _ (List.getElem_mem hi)
theorem Fj (l : List S41) (hl : l.length ≤ 100000) (hs : short l) (i : Nat) (hi : i < l.length) (ks : List Int) (hks : ks.length ≤ 100000) (hk : ∀ q ∈ ks, 0 ≤ q ∧ q < (l.length : Int)) (v : Int × Int)
 (hnext : EvTo (fun k => bz.l0 k l l (l.length : Int) ((i + 1 : Nat) : Int)) v) : ∀ (m idx : Nat) (acc : List Int), ks.length = m + idx → acc.length = idx →
 EvTo (fun k => bz.l1 k l (i : Int) acc l (l.length : Int) (i : Int) ks (ks.length : Int) (idx : Int) (rd_T41 l (i : Int)).f0 (rd_T41 l (i : Int)).f1 (rd_T41 l (i : Int)).f2 (rd_T41 l (i : Int)).f3 (rd_T41 l (i : Int)).f4)
  (if oK (rd_T41 l (i : Int)) && jy (rd_T41 l (i : Int)).f0 (acc ++ (ks.drop idx).map fun p => (rd_T41 l p).f0) then v else (4, (i : Int))) := by
 obtain ⟨h2, h4⟩ := D6 hs i hi
 intro m
 induction m with
 | zero =>
  intro idx acc h1 ha
  refine EvTo.step (fun k => by rw [bz.l1]) ?_
  refine EvTo.neg (by omega) ?_
  rw [List.drop_eq_nil_of_le (by omega), List.map_nil, List.append_nil]
  refine EvTo.bind (EE _ h2 h4) ?_
  cases oK (rd_T41 l (i : Int)) with
  | false => exact EvTo.neg (by simp) EvTo.now
  | true =>
   refine EvTo.pos rfl (EvTo.bind (IX _ acc (by omega)) ?_)
   rw [Bool.true_and]
   cases jy (rd_T41 l (i : Int)).f0 acc with
   | false => exact EvTo.neg (by simp) EvTo.now
   | true =>
    refine EvTo.pos rfl ?_
    rw [inc i (by omega)]
    exact hnext
 | succ m ih =>
  intro idx acc h1 ha
  have hx : idx < ks.length := by omega
  have hrd : rd ks (idx : Int) = ks[idx] := by simp [rd, List.getD_eq_getElem?_getD, List.getElem?_eq_getElem hx]
  have hq := hk _ (List.getElem_mem hx)
  refine EvTo.step (fun k => by rw [bz.l1]) ?_
  refine EvTo.pos (by omega) (EvTo.pos (by omega) (EvTo.pos (by omega) ?_))
  rw [hrd, inc idx (by omega)]
  refine EvTo.pos hq.1 (EvTo.pos hq.2 (EvTo.pos (by omega) ?_))
  have := ih (idx + 1) (acc ++ [(rd_T41 l ks[idx]).f0]) (by omega) (by simp [ha])
  rw [List.append_assoc] at this
  rw [List.drop_eq_getElem_cons hx, List.map_cons]
  exact this
theorem Fp (l : List S41) (hl : l.length ≤ 100000) (hs : short l) (hw : iZ l.length l 1 = some l.length) : ∀ (m i : Nat), l.length = m + i → EvTo (fun k => bz.l0 k l l (l.length : Int) (i : Int)) (ER l m i) := by
 intro m
 induction m with
 | zero =>
  intro i h1
  refine EvTo.step (fun k => by rw [bz.l0]) ?_
  exact EvTo.neg (by omega) EvTo.now
 | succ m ih =>
  intro i h1
  have hi : i < l.length := by omega
  obtain ⟨hK, hK1, hK2⟩ := zX hl hw i hi
  refine EvTo.step (fun k => by rw [bz.l0]) ?_
  refine EvTo.pos (by omega) (EvTo.pos (by omega) (EvTo.pos (by omega) (EvTo.bind hK ?_)))
  have := Fj l hl hs i hi _ hK1 (fun q hq => by have := hK2 q hq; omega) _ (ih (i + 1) (by omega)) _ 0 [] rfl rfl
  rw [List.drop_zero, List.nil_append] at this
  exact this
theorem uP {l : List S41} : jE l 0 = (l.length : Int) ∧ l ≠ [] ↔ iZ l.length l 1 = some l.length := by
 unfold jE
 rw [if_neg (by omega), Int.toNat_zero, List.drop_zero]
 cases h : iZ l.length l 1 with
 | none =>
  simp only [qP]; constructor; · intro h; omega
  intro h; cases h
 | some m =>
  have := wY _ _ _ _ h
  simp only [qP, Option.some.injEq]
  constructor
  ·intro h; omega
  intro h; exact ⟨by omega, by rintro rfl; simp at this; omega⟩
theorem He (l : List S41) (hl : l.length ≤ 100000) (hs : short l) : EvTo (fun k => bz.f k l) (checkS l) := by
 unfold bz.f checkS
 by_cases c : 2000 < l.length
 ·rw [if_pos c]; exact EvTo.pos (by omega) EvTo.now
 rw [if_neg c]
 refine EvTo.neg (by omega) ?_
 by_cases c1 : l = []
 ·subst c1
  refine EvTo.pos rfl (EvTo.step (fun k => by rw [bz.j0]) (EvTo.pos rfl ?_))
  exact EvTo.now
 have hlen : l.length ≠ 0 := fun h => c1 (List.eq_nil_of_length_eq_zero h)
 refine EvTo.neg (by omega) (EvTo.bind (vW l hl 0) ?_)
 by_cases hw : iZ l.length l 1 = some l.length
 ·rw [show vZ l = true from decide_eq_true hw, if_neg (by simp)]
  refine EvTo.step (fun k => by rw [bz.j0]) ?_
  refine EvTo.neg (by rw [(uP.2 hw).1]; simp) ?_
  have hwb : pK l l.length = true := BI l l.length (Nat.le_refl _) (fun q hq => by
   obtain ⟨m', _, e⟩ := Bf _ _ _ _ q hw (Nat.le_refl 1) hq
   rw [e]; rfl)
  have hd := Ha l hl
  rw [hwb, if_pos rfl] at hd
  refine EvTo.bind hd ?_
  by_cases c2 : 60 < rM l [] 0
  ·rw [if_pos c2]; exact EvTo.pos (by omega) EvTo.now
  rw [if_neg c2]
  refine EvTo.neg (by omega) (EvTo.pos (by omega) ?_)
  by_cases c3 : (rd_T41 l 0).f0 = 1
  ·rw [if_neg (fun q => q c3)]
   exact EvTo.pos c3 (Fp l hl hs hw l.length 0 (by omega))
  rw [if_pos c3]
  exact EvTo.neg c3 EvTo.now
 rw [show vZ l = false from decide_eq_false hw, if_pos rfl]
 refine EvTo.step (fun k => by rw [bz.j0]) ?_
 refine EvTo.pos ?_ EvTo.now
 rw [bne_iff_ne]
 intro e
 exact hw (uP.1 ⟨e, c1⟩)
/-- Of nodes that are right each one is. -/
theorem Dc (l : List S41) : ∀ (m i : Nat), (ER l m i).1 = 0 → ∀ j, i ≤ j → j < i + m → ED l j = true := by
 intro m
 induction m with
 | zero => intro i _ j h1 h2; omega
 | succ m ih =>
  intro i h j h1 h2
  simp only [ER] at h
  split at h
  ·rename_i hg
   rcases Nat.eq_or_lt_of_le h1 with rfl | h1
   ·exact hg
   exact ih (i + 1) h j h1 (by omega)
  simp at h
theorem checkS_ok {l : List S41} (h : (checkS l).1 = 0) : l.length ≤ 2000 ∧ iZ l.length l 1 = some l.length ∧ rM l [] 0 ≤ 60 ∧ (rd_T41 l 0).f0 = 1 ∧ ∀ i, i < l.length → ED l i = true := by
 unfold checkS at h
 split at h
 ·cases h
 split at h
 ·cases h
 split at h
 ·cases h
 split at h
 ·cases h
 rename_i h1 h2 h3 h4
 refine ⟨by omega, ?_, by omega, by simpa using h4, fun i hi => Dc l l.length 0 h i (Nat.zero_le _) (by omega)⟩
 unfold vZ at h2
 simpa using h2
end Go.Proofs.Ytendgafpkeadhaa.Tree
end
section
set_option linter.unusedVariables false
set_option linter.unusedSimpArgs false
namespace Go.Proofs.Ytendgafpkeadhaa.Par
open Go Go.RowKit Go.Proofs.YtendgafpkeadhaaW.PrintWords Go.Proofs.Ytendgafpkeadhaa.Q Go.Proofs.Ytendgafpkeadhaa.Lex Go.Proofs.Ytendgafpkeadhaa.Tree
/-- What a reading comes to: a tree with which nothing is wrong; or no tree, a fault and its place. -/
def Reads (M : Nat) (F : Nat → Option (List S41 × Int × Int)) : Prop := ∃ l e a, EvTo F (l, e, a) ∧ (e = 0 → a = 0 ∧ EvTo (fun k => bz.f k l) (0, 0)) ∧ (e ≠ 0 → l = [] ∧ 0 ≤ a ∧ a ≤ (M : Int))
end Go.Proofs.Ytendgafpkeadhaa.Par
end
section
set_option linter.unusedVariables false
set_option linter.unusedSimpArgs false
namespace Go.Proofs.Ytendgafpkeadhaa.Par
open Go Go.RowKit Go.Proofs.YtendgafpkeadhaaW.PrintWords Go.Proofs.Ytendgafpkeadhaa.Q Go.Proofs.Ytendgafpkeadhaa.Lex Go.Proofs.Ytendgafpkeadhaa.Tree
/-- A token without its place. -/
def core (t : S38) : Int × ByteArray × Int := (t.f0, t.f1, t.f2)
abbrev Sim (l l' : List S38) : Prop := l.map core = l'.map core
theorem Sim.len {l l' : List S38} (h : Sim l l') : l.length = l'.length := by have := congrArg List.length h; simpa using this
theorem Sim.nil {l : List S38} (h : Sim [] l) : l = [] := by have := h.len; exact List.length_eq_zero_iff.1 this.symm
theorem Sim.cons {t : S38} {u l : List S38} (h : Sim (t :: u) l) : ∃ t' u', l = t' :: u' ∧ core t = core t' ∧ Sim u u' := by
 cases l with
 | nil => cases h
 | cons t' u' => exact ⟨t', u', rfl, (List.cons.inj h).1, (List.cons.inj h).2⟩
theorem kQ {t t' : S38} (h : core t = core t') : t.f0 = t'.f0 ∧ t.f1 = t'.f1 ∧ t.f2 = t'.f2 := by
 unfold core at h
 simp only [Prod.mk.injEq] at h
 exact h
theorem qF {t t' : S38} {u u' : List S38} (h : core t = core t') : wB (t :: u) = wB (t' :: u') := by
 obtain ⟨h1, h2, _⟩ := kQ h
 show (if t.f0 = 5 ∨ t.f0 = 4 then t.f1 else E) = (if t'.f0 = 5 ∨ t'.f0 = 4 then t'.f1 else E)
 rw [h1, h2]
theorem oz {r T b : List S38} (h : r <:+ T ++ b) (hl : b.length ≤ r.length) : ∃ T2, r = T2 ++ b := by
 have := List.suffix_of_suffix_length_le (List.suffix_append T b) h hl
 obtain ⟨s, hs⟩ := this
 exact ⟨s, hs.symm⟩
theorem oC {T b : List S38} (h : T ++ b <:+ b) : T = [] := by
 have := h.length_le
 rw [List.length_append] at this
 exact List.length_eq_zero_iff.1 (by omega)
/-- What is read hangs on what is passed; on what stands behind it only as far as C says. -/
structure Loc {α : Type} (C : List S38 → List S38 → Prop) (P : Ps α) : Prop where
 suf : ∀ l x r, P l = .ok (x, r) → r <:+ l
 sufE : ∀ l r, P l = .error (some r) → r <:+ l
 ok : ∀ T T' b b' x T2, Sim T T' → (T2 = [] → C b b') → P (T ++ b) = .ok (x, T2 ++ b) → ∃ T2', Sim T2 T2' ∧ P (T' ++ b') = .ok (x, T2' ++ b')
 er : ∀ T T' b b' T2, Sim T T' → T2 ≠ [] → P (T ++ b) = .error (some (T2 ++ b)) → ∃ T2', Sim T2 T2' ∧ P (T' ++ b') = .error (some (T2' ++ b'))
/-- Something is passed. -/
def Cns {α : Type} (P : Ps α) : Prop := ∀ l x r, P l = .ok (x, r) → r.length < l.length
structure LC {α : Type} (C : List S38 → List S38 → Prop) (P : Ps α) : Prop where
 loc : Loc C P
 cns : Cns P
abbrev Tr : List S38 → List S38 → Prop := fun _ _ => True
theorem mg {α β : Type} {P : Ps α} {f : α → Ps β} {l : List S38} {y : β} {r : List S38} (h : bnd P f l = .ok (y, r)) : ∃ x s, P l = .ok (x, s) ∧ f x s = .ok (y, r) := by
 unfold bnd at h
 match hp : P l, h with
 | .ok (x, s), h => exact ⟨x, s, rfl, h⟩
 | .error e, h => cases h
theorem uq {α β : Type} {P : Ps α} {f : α → Ps β} {l : List S38} {r : List S38} (h : bnd P f l = .error (some r)) : P l = .error (some r) ∨ ∃ x s, P l = .ok (x, s) ∧ f x s = .error (some r) := by
 unfold bnd at h
 match hp : P l, h with
 | .ok (x, s), h => exact Or.inr ⟨x, s, rfl, h⟩
 | .error e, h => exact Or.inl (by simpa using h)
theorem gI {α β : Type} {P : Ps α} {f : α → Ps β} {l s : List S38} {x : α} (h : P l = .ok (x, s)) : bnd P f l = f x s := by
 unfold bnd; rw [h]
theorem mZ {α β : Type} {P : Ps α} {f : α → Ps β} {l s : List S38} (h : P l = .error (some s)) : bnd P f l = .error (some s) := by
 unfold bnd; rw [h]
theorem Loc.gen {α β : Type} {C1 C2 : List S38 → List S38 → Prop} {P : Ps α} {f : α → Ps β} (hp : Loc C1 P) (hf : ∀ x, Loc C2 (f x)) (hc : (∀ b b', C2 b b' → C1 b b') ∨ ∀ x, Cns (f x)) : Loc C2 (bnd P f) where
 suf l y r h := by
  obtain ⟨x, s, h1, h2⟩ := mg h
  exact ((hf x).suf _ _ _ h2).trans (hp.suf _ _ _ h1)
 sufE l r h := by
  rcases uq h with h1 | ⟨x, s, h1, h2⟩
  ·exact hp.sufE _ _ h1
  exact ((hf x).sufE _ _ h2).trans (hp.suf _ _ _ h1)
 ok T T' b b' y T3 hs hC h := by
  obtain ⟨x, s, h1, h2⟩ := mg h
  have s1 := hp.suf _ _ _ h1
  have s2 := (hf x).suf _ _ _ h2
  obtain ⟨T2, rfl⟩ := oz s1 (Nat.le_trans (by simp) s2.length_le)
  have hC1 : T2 = [] → C1 b b' := by
   rintro rfl
   rcases hc with hc | hc
   ·exact hc _ _ (hC (oC s2))
   have := hc x _ _ _ h2
   simp at this
   omega
  obtain ⟨T2', g1, g2⟩ := hp.ok T T' b b' x T2 hs hC1 h1
  obtain ⟨T3', e1, e2⟩ := (hf x).ok T2 T2' b b' y T3 g1 hC h2
  exact ⟨T3', e1, by rw [gI g2]; exact e2⟩
 er T T' b b' T3 hs hT h := by
  rcases uq h with h1 | ⟨x, s, h1, h2⟩
  ·obtain ⟨T2', g1, g2⟩ := hp.er T T' b b' T3 hs hT h1
   exact ⟨T2', g1, mZ g2⟩
  have s1 := hp.suf _ _ _ h1
  have s2 := (hf x).sufE _ _ h2
  obtain ⟨T2, rfl⟩ := oz s1 (Nat.le_trans (by simp) s2.length_le)
  have hne : T2 ≠ [] := by rintro rfl; exact hT (oC s2)
  obtain ⟨T2', g1, g2⟩ := hp.ok T T' b b' x T2 hs (fun h => absurd h hne) h1
  obtain ⟨T3', e1, e2⟩ := (hf x).er T2 T2' b b' T3 g1 hT h2
  exact ⟨T3', e1, by rw [gI g2]; exact e2⟩
theorem Cns.left {α β : Type} {C : List S38 → List S38 → Prop} {P : Ps α} {f : α → Ps β} (hp : Cns P) (hf : ∀ x, Loc C (f x)) : Cns (bnd P f) := fun l y r h => by
 obtain ⟨x, s, h1, h2⟩ := mg h
 have := hp _ _ _ h1
 have := ((hf x).suf _ _ _ h2).length_le
 omega
theorem Cns.right {α β : Type} {C : List S38 → List S38 → Prop} {P : Ps α} {f : α → Ps β} (hp : Loc C P) (hf : ∀ x, Cns (f x)) : Cns (bnd P f) := fun l y r h => by
 obtain ⟨x, s, h1, h2⟩ := mg h
 have := hf _ _ _ _ h2
 have := (hp.suf _ _ _ h1).length_le
 omega
variable {α β : Type} {C C1 C2 : List S38 → List S38 → Prop}
/-- Behind what passes something, what passes something. -/
theorem LC.b1 {P : Ps α} {f : α → Ps β} (hp : LC C1 P) (hf : ∀ x, LC C2 (f x)) : LC C2 (bnd P f) := ⟨hp.loc.gen (fun x => (hf x).loc) (Or.inr fun x => (hf x).cns), Cns.left hp.cns fun x => (hf x).loc⟩
theorem LC.b2 {P : Ps α} {f : α → Ps β} (hp : LC C1 P) (hf : ∀ x, Loc C2 (f x)) (hc : ∀ b b', C2 b b' → C1 b b') : LC C2 (bnd P f) := ⟨hp.loc.gen hf (Or.inl hc), Cns.left hp.cns hf⟩
theorem LC.b3 {P : Ps α} {f : α → Ps β} (hp : LC Tr P) (hf : ∀ x, Loc C2 (f x)) : LC C2 (bnd P f) := hp.b2 hf fun _ _ _ => trivial
theorem LC.weak {P : Ps α} (hp : LC Tr P) : LC C P := ⟨⟨hp.loc.suf, hp.loc.sufE, fun T T' b b' x T2 h1 _ h2 => hp.loc.ok T T' b b' x T2 h1 (fun _ => trivial) h2, hp.loc.er⟩, hp.cns⟩
theorem Loc.ret (a : α) : Loc C (ret a) where
 suf l x r h := by cases h; exact List.suffix_refl _
 sufE l r h := by cases h
 ok T T' b b' x T2 hs hC h := by
  unfold Par.ret at h ⊢
  simp only [Except.ok.injEq, Prod.mk.injEq, List.append_cancel_right_eq] at h
  obtain ⟨rfl, rfl⟩ := h
  exact ⟨T', hs, rfl⟩
 er T T' b b' T2 hs hT h := by cases h
theorem LC.out : LC C (out : Ps α) where
 loc := { suf := fun l x r h => (by cases h), sufE := fun l r h => (by cases h), ok := fun T T' b b' x T2 _ _ h => (by cases h), er := fun T T' b b' T2 _ _ h => (by cases h) }
 cns l x r h := by cases h
theorem LC.fail : LC C (fun l => (.error (some l) : R α)) where
 loc := { suf := fun l x r h => (by cases h), sufE := fun l r h => (by cases h; exact List.suffix_refl _), ok := fun T T' b b' x T2 _ _ h => (by cases h), er := fun T T' b b' T2 hs _ h => (by
  simp only [Except.error.injEq, Option.some.injEq, List.append_cancel_right_eq] at h
  subst h
  exact ⟨T', hs, rfl⟩) }
 cns l x r h := by cases h
theorem LC.tk : LC C tk := by
 refine ⟨⟨fun l x r h => ?_, fun l r h => ?_, fun T T' b b' x T2 hs hC h => ?_, fun T T' b b' T2 hs hT h => ?_⟩, fun l x r h => ?_⟩
 ·cases l with
  | nil => cases h
  | cons t u => cases h; exact List.suffix_cons _ _
 ·cases l <;> cases h
 ·cases T with
  | nil =>
   cases b with
   | nil => cases h
   | cons t u =>
    have := congrArg (fun z : R Unit => match z with | .ok (_, r) => r.length | _ => 0) h
    simp [Par.tk] at this
    omega
  | cons t u =>
   obtain ⟨t', u', rfl, h1, h2⟩ := hs.cons
   simp only [Par.tk, List.cons_append, Except.ok.injEq, Prod.mk.injEq, List.append_cancel_right_eq, true_and] at h ⊢
   subst h
   exact ⟨u', h2, rfl⟩
 ·cases hl : T ++ b with
  | nil => rw [hl] at h; cases h
  | cons t u => rw [hl] at h; cases h
 cases l with
 | nil => cases h
 | cons t u => cases h; simp
theorem LC.head {G : ByteArray → Ps α} (h : ∀ w, LC C (G w)) : LC C (fun l => G (wB l) l) := by
 refine ⟨⟨fun l x r => (h _).loc.suf l x r, fun l r => (h _).loc.sufE l r, fun T T' b b' x T2 hs hC e => ?_, fun T T' b b' T2 hs hT e => ?_⟩, fun l x r => (h _).cns l x r⟩
 ·cases T with
  | nil =>
   have := (h _).cns _ _ _ e
   simp at this
   omega
  | cons t u =>
   obtain ⟨t', u', rfl, h1, h2⟩ := hs.cons
   rw [List.cons_append, qF (u' := u' ++ b') h1, ← List.cons_append] at e
   exact (h _).loc.ok _ _ b b' x T2 hs hC e
 cases T with
 | nil => exact absurd (oC ((h _).loc.sufE _ _ e)) hT
 | cons t u =>
  obtain ⟨t', u', rfl, h1, h2⟩ := hs.cons
  rw [List.cons_append, qF (u' := u' ++ b') h1, ← List.cons_append] at e
  exact (h _).loc.er _ _ b b' T2 hs hT e
theorem Loc.head {G : ByteArray → Ps α} (h : ∀ w, Loc C (G w)) (hd : ∀ b b' x, C b b' → G (wB b) b = .ok (x, b) → G (wB b') b' = .ok (x, b')) : Loc C (fun l => G (wB l) l) := by
 refine ⟨fun l x r => (h _).suf l x r, fun l r => (h _).sufE l r, fun T T' b b' x T2 hs hC e => ?_, fun T T' b b' T2 hs hT e => ?_⟩
 ·cases T with
  | nil =>
   obtain rfl := hs.nil
   obtain rfl := oC ((h _).suf _ _ _ e)
   exact ⟨[], rfl, hd b b' x (hC rfl) e⟩
  | cons t u =>
   obtain ⟨t', u', rfl, h1, h2⟩ := hs.cons
   rw [List.cons_append, qF (u' := u' ++ b') h1, ← List.cons_append] at e
   exact (h _).ok _ _ b b' x T2 hs hC e
 cases T with
 | nil => exact absurd (oC ((h _).sufE _ _ e)) hT
 | cons t u =>
  obtain ⟨t', u', rfl, h1, h2⟩ := hs.cons
  rw [List.cons_append, qF (u' := u' ++ b') h1, ← List.cons_append] at e
  exact (h _).er _ _ b b' T2 hs hT e
theorem LC.ite {c : Prop} [Decidable c] {P Q : Ps α} (h1 : c → LC C P) (h2 : ¬c → LC C Q) : LC C (fun l => if c then P l else Q l) := by
 by_cases h : c
 ·simp only [if_pos h]; exact h1 h
 simp only [if_neg h]; exact h2 h
theorem Loc.ite {c : Prop} [Decidable c] {P Q : Ps α} (h1 : c → Loc C P) (h2 : ¬c → Loc C Q) : Loc C (fun l => if c then P l else Q l) := by
 by_cases h : c
 ·simp only [if_pos h]; exact h1 h
 simp only [if_neg h]; exact h2 h
theorem LC.must (w : List UInt8) (hw : w ≠ []) : LC C (must w) := by
 have : LC C (fun l => (fun (v : ByteArray) (l : List S38) => if v.toList = w then bnd Par.tk (fun _ => Par.ret ()) l else (.error (some l) : R Unit)) (wB l) l) := LC.head (G := fun (v : ByteArray) (l : List S38) => if v.toList = w then bnd Par.tk (fun _ => Par.ret ()) l else (.error (some l) : R Unit)) fun v => LC.ite (fun _ => LC.tk.b3 fun _ => Loc.ret ()) (fun _ => LC.fail)
 have e : Par.must w = (fun l => (fun (v : ByteArray) (l : List S38) => if v.toList = w then bnd Par.tk (fun _ => Par.ret ()) l else (.error (some l) : R Unit)) (wB l) l) := by
  funext l
  unfold Par.must
  by_cases c : wd l = w
  ·rw [if_pos c]
   show _ = if wd l = w then _ else _
   rw [if_pos c]
   cases l with
   | nil => exact absurd (sK.symm.trans c).symm hw
   | cons t u => rfl
  rw [if_neg c]
  show _ = if wd l = w then _ else _
  rw [if_neg c]
 rw [e]; exact this
theorem mV {k : Int} {l : List S38} {t : S38} {r : List S38} (h : need k l = .ok (t, r)) : l = t :: r ∧ t.f0 = k := by
 cases l with
 | nil => cases h
 | cons s u =>
  unfold need at h
  by_cases c : s.f0 = k
  ·simp only [if_pos c, Except.ok.injEq, Prod.mk.injEq] at h
   obtain ⟨rfl, rfl⟩ := h
   exact ⟨rfl, c⟩
  simp only [if_neg c] at h; cases h
theorem qp {k : Int} {t : S38} {r : List S38} (h : t.f0 = k) : need k (t :: r) = .ok (t, r) := by simp [need, h]
theorem wK {k : Int} {l r : List S38} (h : need k l = .error (some r)) : r = l ∧ ∀ t u, l = t :: u → t.f0 ≠ k := by
 cases l with
 | nil => cases h; exact ⟨rfl, fun t u h => by cases h⟩
 | cons s u =>
  unfold need at h
  by_cases c : s.f0 = k
  ·simp only [if_pos c] at h; cases h
  simp only [if_neg c, Except.error.injEq, Option.some.injEq] at h
  exact ⟨h.symm, fun t u e => by obtain ⟨rfl, _⟩ := List.cons.inj e; exact c⟩
/-- A token of a kind, and what hangs on it, but not on its place. -/
theorem LC.need {k : Int} {f : S38 → Ps β} (hf : ∀ t, Loc C (f t)) (hc : ∀ t t', core t = core t' → f t = f t') : LC C (bnd (need k) f) := by
 refine ⟨⟨fun l y r h => ?_, fun l r h => ?_, fun T T' b b' y T2 hs hC h => ?_, fun T T' b b' T2 hs hT h => ?_⟩, fun l y r h => ?_⟩
 ·obtain ⟨t, s, h1, h2⟩ := mg h
  obtain ⟨rfl, _⟩ := mV h1
  exact ((hf t).suf _ _ _ h2).trans (List.suffix_cons _ _)
 ·rcases uq h with h1 | ⟨t, s, h1, h2⟩
  ·rw [(wK h1).1]; exact List.suffix_refl _
  obtain ⟨rfl, _⟩ := mV h1
  exact ((hf t).sufE _ _ h2).trans (List.suffix_cons _ _)
 ·obtain ⟨t, s, h1, h2⟩ := mg h
  obtain ⟨e, hk⟩ := mV h1
  cases T with
  | nil =>
   rw [List.nil_append] at e
   have := ((hf t).suf _ _ _ h2).length_le
   rw [e] at this
   simp at this
   omega
  | cons a u =>
   obtain ⟨rfl, rfl⟩ := List.cons.inj e
   obtain ⟨t', u', rfl, g1, g2⟩ := hs.cons
   obtain ⟨T2', e1, e2⟩ := (hf _).ok u u' b b' y T2 g2 hC h2
   refine ⟨T2', e1, ?_⟩
   rw [List.cons_append, gI (qp ((kQ g1).1 ▸ hk)), ← hc _ _ g1]
   exact e2
 ·cases T with
  | nil =>
   rcases uq h with h1 | ⟨t, s, h1, h2⟩
   ·exact absurd (by have := (wK h1).1; simpa using this) hT
   obtain ⟨e, _⟩ := mV h1
   have := ((hf t).sufE _ _ h2).length_le
   rw [List.nil_append] at e
   rw [e] at this
   simp at this
   omega
  | cons a u =>
   obtain ⟨t', u', rfl, g1, g2⟩ := hs.cons
   rcases uq h with h1 | ⟨t, s, h1, h2⟩
   ·obtain ⟨e, hn⟩ := wK h1
    have e := List.append_cancel_right e
    subst e
    refine ⟨t' :: u', hs, ?_⟩
    refine mZ ?_
    have := hn a _ rfl
    rw [(kQ g1).1] at this
    simp [Par.need, this]
   obtain ⟨e, hk⟩ := mV h1
   obtain ⟨rfl, rfl⟩ := List.cons.inj e
   obtain ⟨T2', e1, e2⟩ := (hf _).er u u' b b' T2 g2 hT h2
   refine ⟨T2', e1, ?_⟩
   rw [List.cons_append, gI (qp ((kQ g1).1 ▸ hk)), ← hc _ _ g1]
   exact e2
 obtain ⟨t, s, h1, h2⟩ := mg h
 obtain ⟨rfl, _⟩ := mV h1
 have := ((hf t).suf _ _ _ h2).length_le
 simp
 omega
end Go.Proofs.Ytendgafpkeadhaa.Par
end
section
set_option linter.unusedVariables false
set_option linter.unusedSimpArgs false
namespace Go.Proofs.Ytendgafpkeadhaa.Par
open Go Go.RowKit Go.Proofs.YtendgafpkeadhaaW.PrintWords Go.Proofs.Ytendgafpkeadhaa.Q Go.Proofs.Ytendgafpkeadhaa.Lex Go.Proofs.Ytendgafpkeadhaa.Tree
/-- An expression does not go on with what stands there. -/
def St (l : List S38) : Prop := jM (wd l) = 0 ∧ wd l ≠ [40] ∧ wd l ≠ [91] ∧ wd l ≠ [46]
abbrev SC : List S38 → List S38 → Prop := fun b b' => St b ∧ St b'
abbrev Ce : List S38 → List S38 → Prop := fun b b' => wd b ≠ [101, 108, 115, 101] ∧ wd b' ≠ [101, 108, 115, 101]
structure LF (F : PF) : Prop where
 expr : LC SC F.expr
 block : LC Tr F.block
 bound : ∀ a : Int, 1 ≤ a → LC SC (F.bound a)
 unary : LC SC F.unary
variable {F : PF} {C : List S38 → List S38 → Prop}
theorem jC (w : List UInt8) (hw : w ≠ [] := by simp) : LC C (must w) := LC.must w hw
theorem nS (H : LF F) (k : Int) (nm : ByteArray) : LC C (fC F k nm) := H.expr.b1 fun e => (jC [59]).b3 fun _ => Loc.ret _
theorem zO (k : Int) : LC C (nD k) := (jC [59]).b3 fun _ => Loc.ret _
theorem F9 (H : LF F) (e : List S41) : LC C (lu F e) := by
 unfold lu
 split
 ·exact (jC [61]).b1 (C1 := Tr) fun _ => H.expr.b1 fun v => (jC [59]).b3 fun _ => Loc.ret _
 exact LC.out
theorem DV (H : LF F) (e : List S41) : LC C (lX F e) := by
 cases e with
 | nil => exact LC.head (G := fun w l => if w.toList ≠ [61] then (bnd (must [59]) fun _ => ret (nd 17 E 0 E [[]])) l else (.error none : R (List S41))) fun w => LC.ite (fun _ => (jC [59]).b3 fun _ => Loc.ret _) (fun _ => LC.out)
 | cons x t => exact (LC.head (G := fun w l => if w.toList ≠ [61] then (bnd (must [59]) fun _ => ret (nd 17 E 0 E [x :: t])) l else if x.f0 = 21 then (bnd (must [61]) fun _ => fC F 7 x.f2) l else if x.f0 = 26 then lu F (x :: t) l else (.error (some l) : R (List S41)))
  fun w => LC.ite (fun _ => (jC [59]).b3 fun _ => Loc.ret _) (fun _ => LC.ite (fun _ => (jC [61]).b1 (C1 := Tr) fun _ => nS H _ _) (fun _ => LC.ite (fun _ => F9 H _) (fun _ => LC.fail))))
theorem FW (H : LF F) : LC C (qK F) := H.expr.b1 fun e => DV H e
theorem Ii (H : LF F) : LC Ce (jr F) :=
 LC.head (G := fun w l =>
  if w.toList = [108, 101, 116] then (bnd tk fun _ => bnd (need 1) fun t => bnd (must [61]) fun _ => fC F 6 t.f1) l
  else if w.toList = [105, 102] then (bnd tk fun _ => bnd F.expr fun e => bnd F.block fun b => fun l2 => if wd l2 = [101, 108, 115, 101] then (bnd tk fun _ => bnd F.block fun c => ret (nd 9 E 0 E [e, b, c])) l2 else .ok (nd 9 E 0 E [e, b], l2)) l
  else if w.toList = [119, 104, 105, 108, 101] then (bnd tk fun _ => bnd F.expr fun e => bnd F.block fun b => ret (nd 10 E 0 E [e, b])) l
  else if w.toList = [98, 114, 101, 97, 107] then (bnd tk fun _ => nD 11) l
  else if w.toList = [99, 111, 110, 116, 105, 110, 117, 101] then (bnd tk fun _ => nD 12) l
  else if w.toList = [121, 105, 101, 108, 100] then (bnd tk fun _ => nD 16) l
  else if w.toList = [114, 101, 116, 117, 114, 110] then (bnd tk fun _ => fC F 13 E) l
  else if w.toList = [112, 117, 116] then (bnd tk fun _ => fC F 14 E) l
  else if w.toList = [101, 109, 105, 116] then (bnd tk fun _ => fC F 15 E) l
  else qK F l) fun w =>
 LC.ite (fun _ => LC.tk.b1 (C1 := Tr) fun _ => LC.need (fun t => ((jC [61]).b1 (C1 := Tr) fun _ => nS H _ _).loc) (by intro t t' h; simp only [(kQ h).2.1]))
 fun _ => LC.ite (fun _ => LC.tk.b1 (C1 := Tr) fun _ => H.expr.b1 fun e => H.block.b3 fun b =>
  Loc.head (G := fun w l2 => if w.toList = [101, 108, 115, 101] then (bnd tk fun _ => bnd F.block fun c => ret (nd 9 E 0 E [e, b, c])) l2 else .ok (nd 9 E 0 E [e, b], l2))
   (fun w => Loc.ite (fun _ => (LC.tk.b1 (C1 := Tr) fun _ => H.block.b3 fun c => Loc.ret _).loc) (fun _ => Loc.ret _))
   (fun b1 b2 x hC h => by
    have h' : (if wd b1 = [101, 108, 115, 101] then (bnd tk fun _ => bnd F.block fun c => ret (nd 9 E 0 E [e, b, c])) b1 else .ok (nd 9 E 0 E [e, b], b1)) = .ok (x, b1) := h
    rw [if_neg hC.1] at h'
    cases h'
    exact if_neg hC.2))
 fun _ => LC.ite (fun _ => LC.tk.b1 (C1 := Tr) fun _ => H.expr.b1 fun e => H.block.b3 fun b => Loc.ret _)
 fun _ => LC.ite (fun _ => LC.tk.b1 (C1 := Tr) fun _ => zO _)
 fun _ => LC.ite (fun _ => LC.tk.b1 (C1 := Tr) fun _ => zO _)
 fun _ => LC.ite (fun _ => LC.tk.b1 (C1 := Tr) fun _ => zO _)
 fun _ => LC.ite (fun _ => LC.tk.b1 (C1 := Tr) fun _ => nS H _ _)
 fun _ => LC.ite (fun _ => LC.tk.b1 (C1 := Tr) fun _ => nS H _ _)
 fun _ => LC.ite (fun _ => LC.tk.b1 (C1 := Tr) fun _ => nS H _ _)
 fun _ => FW H
theorem yO (H : LF F) : ∀ (n : Nat) (acc : List (List S41)), LC Tr (jl F n acc)
 | 0, acc => LC.out
 | n + 1, acc => LC.head (G := fun w l => if w.toList = [125] then (bnd (must [125]) fun _ => ret (nd 5 E 0 E acc)) l else (bnd (jr F) fun s => jl F n (acc ++ [s])) l)
  fun w => LC.ite (fun _ => (jC [125]).b3 fun _ => Loc.ret _) (fun _ => (Ii H).b1 fun s => yO H n _)
theorem Bv (H : LF F) (N : Nat) : LC Tr (lD F N) := (jC [123]).b1 (C1 := Tr) fun _ => yO H N []
theorem wP {one : Ps (List S41)} {Co : List S38 → List S38 → Prop} (ho : LC Co one) : ∀ (n : Nat) (acc : List (List S41)), LC Tr (jZ one n acc)
 | 0, acc => LC.out
 | n + 1, acc => LC.head (G := fun w l => if w.toList = [41] then (bnd (must [41]) fun _ => ret acc) l
  else if acc = [] then (bnd one fun x => jZ one n (acc ++ [x])) l else (bnd (must [44]) fun _ => bnd one fun x => jZ one n (acc ++ [x])) l)
  fun w => LC.ite (fun _ => (jC [41]).b3 fun _ => Loc.ret _) (fun _ => LC.ite (fun _ => ho.b1 fun x => wP ho n _) (fun _ => (jC [44]).b1 (C1 := Tr) fun _ => ho.b1 fun x => wP ho n _))
theorem zi {one : Ps (List S41)} {Co : List S38 → List S38 → Prop} (ho : LC Co one) (N : Nat) : LC Tr (Par.dK one N) := (jC [40]).b1 (C1 := Tr) fun _ => wP ho N []
theorem FZ : LC Tr lY := LC.need (fun t => Loc.ret _) (by intro t t' h; simp only [(kQ h).2.1])
theorem zB (H : LF F) (N : Nat) (k : Int) (nm : ByteArray) : LC Tr (ig F N k nm) := (zi FZ N).b1 fun ps => (Bv H N).b3 fun b => Loc.ret _
theorem IK (H : LF F) (N : Nat) : LC SC (ru F N) :=
 LC.need (f := fun t => fun l => if wd l = [46] then (bnd tk fun _ => bnd (need 1) fun u => bnd (Par.dK F.expr N) fun ks => ret (nd 23 t.f1 0 u.f1 ks)) l else .ok (nd 21 t.f1 0 E [], l))
  (fun t => Loc.head (G := fun w l => if w.toList = [46] then (bnd tk fun _ => bnd (need 1) fun u => bnd (Par.dK F.expr N) fun ks => ret (nd 23 t.f1 0 u.f1 ks)) l else .ok (nd 21 t.f1 0 E [], l))
   (fun w => Loc.ite (fun _ => (LC.tk.b1 (C1 := Tr) fun _ => LC.need (fun u => ((zi H.expr N).b3 fun ks => Loc.ret _).loc) (by intro t t' h; simp only [(kQ h).2.1])).loc) (fun _ => Loc.ret _))
   (fun b1 b2 x hC h => by
    have h' : (if wd b1 = [46] then (bnd tk fun _ => bnd (need 1) fun u => bnd (Par.dK F.expr N) fun ks => ret (nd 23 t.f1 0 u.f1 ks)) b1 else .ok (nd 21 t.f1 0 E [], b1)) = .ok (x, b1) := h
    rw [if_neg hC.1.2.2.2] at h'
    cases h'
    exact if_neg hC.2.2.2.2)) (by intro t t' h; simp only [(kQ h).2.1])
theorem jm (N : Nat) (t : S38) (r : List S38) : lT F N (t :: r) = if t.f0 = 2 then .ok (nd 19 E t.f2 E [], r) else if t.f0 = 3 then .ok (nd 20 E 0 t.f1 [], r) else ru F N (t :: r) := rfl
theorem IR (H : LF F) (N : Nat) : LC SC (lT F N) := by
 have hn := IK H N
 have cns : Cns (lT F N) := fun l x r h => by
  cases l with
  | nil => cases h
  | cons t u =>
   rw [jm] at h
   by_cases c1 : t.f0 = 2
   ·rw [if_pos c1] at h; cases h; simp
   rw [if_neg c1] at h
   by_cases c2 : t.f0 = 3
   ·rw [if_pos c2] at h; cases h; simp
   rw [if_neg c2] at h
   exact hn.cns _ _ _ h
 refine ⟨⟨fun l x r h => ?_, fun l r h => ?_, fun T T' b b' x T2 hs hC h => ?_, fun T T' b b' T2 hs hT h => ?_⟩, cns⟩
 ·cases l with
  | nil => cases h
  | cons t u =>
   rw [jm] at h
   by_cases c1 : t.f0 = 2
   ·rw [if_pos c1] at h; cases h; exact List.suffix_cons _ _
   rw [if_neg c1] at h
   by_cases c2 : t.f0 = 3
   ·rw [if_pos c2] at h; cases h; exact List.suffix_cons _ _
   rw [if_neg c2] at h
   exact hn.loc.suf _ _ _ h
 ·cases l with
  | nil => cases h; exact List.suffix_refl _
  | cons t u =>
   rw [jm] at h
   by_cases c1 : t.f0 = 2
   ·rw [if_pos c1] at h; cases h
   rw [if_neg c1] at h
   by_cases c2 : t.f0 = 3
   ·rw [if_pos c2] at h; cases h
   rw [if_neg c2] at h
   exact hn.loc.sufE _ _ h
 ·cases T with
  | nil =>
   have := cns _ _ _ h
   simp at this
   omega
  | cons t u =>
   obtain ⟨t', u', rfl, h1, h2⟩ := hs.cons
   obtain ⟨g0, g1, g2⟩ := kQ h1
   rw [List.cons_append, jm] at h ⊢
   rw [← g0, ← g1, ← g2]
   by_cases c1 : t.f0 = 2
   ·rw [if_pos c1] at h ⊢
    simp only [Except.ok.injEq, Prod.mk.injEq, List.append_cancel_right_eq] at h
    obtain ⟨rfl, rfl⟩ := h
    exact ⟨u', h2, rfl⟩
   rw [if_neg c1] at h ⊢
   by_cases c2 : t.f0 = 3
   ·rw [if_pos c2] at h ⊢
    simp only [Except.ok.injEq, Prod.mk.injEq, List.append_cancel_right_eq] at h
    obtain ⟨rfl, rfl⟩ := h
    exact ⟨u', h2, rfl⟩
   rw [if_neg c2] at h ⊢
   exact hn.loc.ok (t :: u) (t' :: u') b b' x T2 hs hC h
 cases T with
 | nil =>
  cases b with
  | nil =>
   simp only [List.append_nil, lT, Except.error.injEq, Option.some.injEq] at h
   exact absurd h.symm hT
  | cons t u =>
   rw [List.nil_append, jm] at h
   by_cases c1 : t.f0 = 2
   ·rw [if_pos c1] at h; cases h
   rw [if_neg c1] at h
   by_cases c2 : t.f0 = 3
   ·rw [if_pos c2] at h; cases h
   rw [if_neg c2] at h
   exact absurd (oC (hn.loc.sufE _ _ h)) hT
 | cons t u =>
  obtain ⟨t', u', rfl, h1, h2⟩ := hs.cons
  obtain ⟨g0, g1, g2⟩ := kQ h1
  rw [List.cons_append, jm] at h ⊢
  rw [← g0, ← g1, ← g2]
  by_cases c1 : t.f0 = 2
  ·rw [if_pos c1] at h; cases h
  rw [if_neg c1] at h ⊢
  by_cases c2 : t.f0 = 3
  ·rw [if_pos c2] at h; cases h
  rw [if_neg c2] at h ⊢
  exact hn.loc.er (t :: u) (t' :: u') b b' T2 hs hT h
theorem I7 (H : LF F) (N : Nat) : LC SC (mD F N) :=
 LC.head (G := fun w l =>
  if w.toList = [110, 105, 108] then (bnd tk fun _ => ret (nd 18 E 0 E [])) l
  else if w.toList = [115, 116, 97, 116, 101] then (bnd tk fun _ => ret (nd 29 E 0 E [])) l
  else if w.toList = [123] then (bnd tk fun _ => bnd (must [125]) fun _ => ret (nd 25 E 0 E [])) l
  else if w.toList = [102, 110] then (bnd tk fun _ => ig F N 24 E) l
  else if w.toList = [40] then (bnd tk fun _ => bnd F.expr fun e => bnd (must [41]) fun _ => ret e) l
  else lT F N l) fun w =>
 LC.ite (fun _ => LC.tk.b3 fun _ => Loc.ret _)
 fun _ => LC.ite (fun _ => LC.tk.b3 fun _ => Loc.ret _)
 fun _ => LC.ite (fun _ => LC.tk.b1 (C1 := Tr) fun _ => (jC [125]).b3 fun _ => Loc.ret _)
 fun _ => LC.ite (fun _ => LC.tk.b1 (C1 := Tr) fun _ => (zB H N _ _).weak)
 fun _ => LC.ite (fun _ => LC.tk.b1 (C1 := Tr) fun _ => H.expr.b1 fun e => (jC [41]).b3 fun _ => Loc.ret _)
 fun _ => IR H N
theorem wH (H : LF F) (N : Nat) : ∀ (n : Nat) (e : List S41), Loc SC (jR F N n e)
 | 0, e => LC.out.loc
 | n + 1, e => Loc.head (G := fun w l => if w.toList = [40] then (bnd (Par.dK F.expr N) fun ks => jR F N n (nd 22 E 0 E ([e] ++ ks))) l
  else if w.toList = [91] then (bnd tk fun _ => bnd F.expr fun i => bnd (must [93]) fun _ => jR F N n (nd 26 E 0 E [e, i])) l
  else .ok (e, l))
  (fun w => Loc.ite (fun _ => ((zi H.expr N).b3 fun ks => wH H N n _).loc) (fun _ => Loc.ite (fun _ => (LC.tk.b1 (C1 := Tr) fun _ => H.expr.b1 fun i => (jC [93]).b3 fun _ => wH H N n _).loc) (fun _ => Loc.ret _)))
  (fun b1 b2 x hC h => by
   have h' : (if wd b1 = [40] then (bnd (Par.dK F.expr N) fun ks => jR F N n (nd 22 E 0 E ([e] ++ ks))) b1 else if wd b1 = [91] then (bnd tk fun _ => bnd F.expr fun i => bnd (must [93]) fun _ => jR F N n (nd 26 E 0 E [e, i])) b1 else .ok (e, b1)) = .ok (x, b1) := h
   rw [if_neg hC.1.2.1, if_neg hC.1.2.2.1] at h'
   cases h'
   exact (if_neg hC.2.2.1).trans (if_neg hC.2.2.2.1))
theorem Ae (H : LF F) (N : Nat) : LC SC (jA F N) :=
 LC.head (G := fun w l =>
  if w.toList = [45] ∨ w.toList = [110, 111, 116] ∨ w.toList = [108, 101, 110] then (bnd tk fun _ => bnd F.unary fun e => ret (nd 28 E 0 w [e])) l
  else if w.toList = [115, 112, 97, 119, 110] then (bnd tk fun _ => bnd F.unary fun e => ret (nd 30 E 0 E [e])) l
  else (bnd (mD F N) fun e => jR F N N e) l) fun w =>
 LC.ite (fun _ => LC.tk.b1 (C1 := Tr) fun _ => H.unary.b2 (fun e => Loc.ret _) fun _ _ h => h)
 fun _ => LC.ite (fun _ => LC.tk.b1 (C1 := Tr) fun _ => H.unary.b2 (fun e => Loc.ret _) fun _ _ h => h)
 fun _ => (I7 H N).b2 (fun e => wH H N N e) fun _ _ h => h
theorem yK (H : LF F) (a : Int) (ha : 1 ≤ a) : ∀ (n : Nat) (e : List S41), Loc SC (jg F a n e)
 | 0, e => LC.out.loc
 | n + 1, e => Loc.head (G := fun w l => if jM w.toList = a then (bnd tk fun _ => bnd (F.bound (a + 1)) fun e2 => if a = 3 then ret (nd 27 E 0 w [e, e2]) else jg F a n (nd 27 E 0 w [e, e2])) l else .ok (e, l))
  (fun w => Loc.ite (fun _ => (LC.tk.b1 (C1 := Tr) fun _ => (H.bound (a + 1) (by omega)).b2 (C2 := SC) (fun e2 => by
   by_cases c : a = 3
   ·rw [if_pos c]; exact Loc.ret _
   rw [if_neg c]; exact yK H a ha n _) fun _ _ h => h).loc) (fun _ => Loc.ret _))
  (fun b1 b2 x hC h => by
   have h' : (if jM (wd b1) = a then (bnd tk fun _ => bnd (F.bound (a + 1)) fun e2 => if a = 3 then ret (nd 27 E 0 (wB b1) [e, e2]) else jg F a n (nd 27 E 0 (wB b1) [e, e2])) b1 else .ok (e, b1)) = .ok (x, b1) := h
   have n1 : ¬ jM (wd b1) = a := by rw [hC.1.1]; omega
   have n2 : ¬ jM (wd b2) = a := by rw [hC.2.1]; omega
   rw [if_neg n1] at h'
   cases h'
   exact if_neg n2)
theorem Bj (H : LF F) (N : Nat) (a : Int) (ha : 1 ≤ a) : LC SC (iO F N a) := by
 unfold iO
 by_cases c : a = 6
 ·rw [if_pos c]; exact Ae H N
 rw [if_neg c]; exact (H.bound (a + 1) (by omega)).b2 (fun e => yK H a ha N e) fun _ _ h => h
theorem pfam_L : ∀ n, LF (pfam n)
 | 0 => ⟨LC.out, LC.out, fun _ _ => LC.out, LC.out⟩
 | n + 1 => ⟨Bj (pfam_L n) n 1 (by omega), Bv (pfam_L n) n, fun a h => Bj (pfam_L n) n a h, Ae (pfam_L n) n⟩
end Go.Proofs.Ytendgafpkeadhaa.Par
end
section
set_option linter.unusedVariables false
set_option linter.unusedSimpArgs false
namespace Go.Proofs.Ytendgafpkeadhaa.Par
open Go Go.RowKit Go.Proofs.YtendgafpkeadhaaW.PrintWords Go.Proofs.Ytendgafpkeadhaa.Q Go.Proofs.Ytendgafpkeadhaa.Lex Go.Proofs.Ytendgafpkeadhaa.Tree
inductive GF : List S41 → List Int → Nat → Prop
 | nil : GF [] [] 0
 | cons (x : S41) (t v : List S41) (kt kv : List Int) (D1 D2 : Nat) (hx : x.f1 = (kt.length : Int)) (hf : oK x = true) (hk : jy x.f0 kt = true) (ht : GF t kt D1) (hv : GF v kv D2) : GF (x :: (t ++ v)) (x.f0 :: kv) (max (1 + D1) D2)
theorem GF.fo {u : List S41} {K : List Int} {D : Nat} (h : GF u K D) : Fo u K.length D := by
 induction h with
 | nil => exact Fo.nil
 | cons x t v kt kv D1 D2 hx hf hk ht hv ih1 ih2 => exact Fo.cons x t v kv.length D1 D2 (by omega) (by rw [hx, Int.toNat_natCast]; exact ih1) ih2
abbrev kd (l : List S41) (q : Int) : Int := (rd_T41 l q).f0
theorem J6 {l : List S41} {x : S41} {t : List S41} {p : Nat} (hd : l.drop p = x :: t) : rd_T41 l (p : Int) = x ∧ p < l.length := by
 have hp : p < l.length := by
  rcases Nat.lt_or_ge p l.length with h1 | h1
  ·exact h1
  rw [List.drop_eq_nil_of_le h1] at hd; cases hd
 rw [rd36 l p hp]
 rw [List.drop_eq_getElem_cons hp] at hd
 exact ⟨(List.cons.inj hd).1, hp⟩
theorem CO {l u rest : List S41} {p : Nat} (hd : l.drop p = u ++ rest) : l.drop (p + u.length) = rest := by
 rw [← List.drop_drop, hd, List.drop_left]
theorem Fo.its {u : List S41} {w D : Nat} (h : Fo u w D) : True := trivial
theorem GF.its {u : List S41} {K : List Int} {D : Nat} (h : GF u K D) : ∀ (l rest : List S41) (p : Nat), l.drop p = u ++ rest → (∀ y ∈ u, ¬ ((l.length : Int) < y.f1)) → (its l K.length (p : Int)).map (kd l) = K := by
 induction h with
 | nil => intro l rest p hd hn; rfl
 | cons x t v kt kv D1 D2 hx hf hk ht hv ih1 ih2 =>
  intro l rest p hd hn
  have hd' : l.drop p = (x :: t) ++ (v ++ rest) := by rw [hd]; simp
  have hn1 : ∀ y ∈ x :: t, ¬ ((l.length : Int) < y.f1) := fun y hy => hn y (by
   rcases List.mem_cons.1 hy with rfl | hy
   ·exact List.mem_cons_self
   exact List.mem_cons_of_mem _ (List.mem_append.2 (Or.inl hy)))
  have e := qB (p := p) (by omega) (by rw [hx, Int.toNat_natCast]; exact ht.fo) hd' hn1
  obtain ⟨h1, _⟩ := J6 (by rw [hd]; rfl : l.drop p = x :: (t ++ v ++ rest))
  show kd l (p : Int) :: (Tree.its l kv.length (jE l (p : Int))).map (kd l) = x.f0 :: kv
  rw [e, ih2 l rest _ (CO hd') (fun y hy => hn y (List.mem_cons_of_mem _ (List.mem_append.2 (Or.inr hy))))]
  unfold kd
  rw [h1]
def hk (e : List S41) : Int := (rd_T41 e 0).f0
end Go.Proofs.Ytendgafpkeadhaa.Par
end
section
set_option linter.unusedVariables false
set_option linter.unusedSimpArgs false
namespace Go.Proofs.Ytendgafpkeadhaa.Par
open Go Go.RowKit Go.Proofs.YtendgafpkeadhaaW.PrintWords Go.Proofs.Ytendgafpkeadhaa.Q Go.Proofs.Ytendgafpkeadhaa.Lex Go.Proofs.Ytendgafpkeadhaa.Tree
/-- Where the reader stopped. -/
def plS (ts r : List S38) : Int := match r with
 | t :: _ => t.f3
 | [] => match ts.getLast? with
  | some t => t.f3 + 1
  | none => 0
def ansS (ts : List S38) : R (List S41) → List S41 × Int × Int
 | .ok (x, []) => if (checkS x).1 = 0 then (x, 0, 0) else ([], (checkS x).1, 0)
 | .ok (_, t :: r) => ([], 10, plS ts (t :: r))
 | .error (some r) => ([], 10, plS ts r)
 | .error none => ([], 10, 0)
def small (ts : List S38) : Prop := ∀ t ∈ ts, -4611686018427387904 ≤ t.f3 ∧ t.f3 ≤ 4611686018427387904
theorem Aw (ts : List S38) (hp : small ts) (hl : ts.length ≤ 40000) (p : Nat) (b : Bool) : dS.f ts (p : Int) b = some (plS ts (ts.drop p), (p : Int), b) := by
 have key : ∀ i (hi : i < ts.length), rd_T38 ts (i : Int) = ts[i] := by
  intro i hi
  obtain ⟨_, h2, _⟩ := rd_tok ts i _ _ (List.drop_eq_getElem_cons hi)
  exact h2
 unfold dS.f plS
 by_cases c : p < ts.length
 ·rw [if_pos (by omega), if_pos (by omega), key p c, List.drop_eq_getElem_cons c]
 rw [if_neg (by omega), List.drop_eq_nil_of_le (by omega)]
 by_cases d : 0 < ts.length
 ·have e : wrap64 ((ts.length : Int) - 1) = ((ts.length - 1 : Nat) : Int) := by rw [Tree.w64 (by omega) (by omega)]; omega
  have h := hp _ (List.getElem_mem (show ts.length - 1 < ts.length by omega))
  rw [if_pos (by omega), e, if_pos (by omega), if_pos (by omega), key _ (by omega), Tree.w64 (by omega) (by omega), List.getLast?_eq_getElem?, List.getElem?_eq_getElem (by omega)]
 rw [if_neg (by omega), List.length_eq_zero_iff.1 (by omega : ts.length = 0)]; rfl
theorem tree_A (ts : List S38) (hts : ts.length ≤ 40000) (hp : small ts) (n : Nat) (hn : Fn KN ts.length (moduleP (pfam n) n ts)) : EvTo (fun k => gp.f k ts) (ansS ts (moduleP (pfam n) n ts)) := by
 have hT := Ep hts (J8 n) ql n
 match hr : moduleP (pfam n) n ts, hn, hT with
 | .ok (x, r), ⟨_, _, h3⟩, ⟨p, _, hp2, hd, hs, hE⟩ =>
  unfold sz at hs
  unfold gp.f
  by_cases c : p < ts.length
  ·have h1 := Aw ts hp hts p false
   cases r with
   | nil => rw [List.drop_eq_nil_iff] at hd; omega
   | cons t u =>
    refine EvTo.bind hE (EvTo.neg (by simp) (EvTo.pos (show (p : Int) < (ts.length : Int) by omega) ?_))
    dsimp only
    rw [h1, hd]
    exact EvTo.now
  rw [List.drop_eq_nil_of_le (by omega)] at hd
  subst hd
  have hC := He x (by omega) h3.1.2
  show EvTo _ (if (checkS x).1 = 0 then (x, 0, 0) else ([], (checkS x).1, 0))
  by_cases d : (checkS x).1 = 0
  ·rw [if_pos d]
   exact EvTo.bind hE (EvTo.neg (by simp) (EvTo.neg (show ¬ (p : Int) < (ts.length : Int) by omega) (EvTo.bind hC (EvTo.pos d EvTo.now))))
  rw [if_neg d]
  exact EvTo.bind hE (EvTo.neg (by simp) (EvTo.neg (show ¬ (p : Int) < (ts.length : Int) by omega) (EvTo.bind hC (EvTo.neg d EvTo.now))))
 | .error (some r), _, ⟨x, p, _, _, hd, _, hE⟩ =>
  have h1 := Aw ts hp hts p true
  unfold gp.f
  refine EvTo.bind hE (EvTo.pos rfl ?_)
  dsimp only
  rw [h1, hd]
  exact EvTo.now
/-- The tokens of a text: few, short, at its places. -/
theorem text_toks {s : ByteArray} (hs : s.size ≤ 3000) {us : List Tk} (h : Lex.scan (L s) = .ok us) : (us.map (tkS s.size)).length ≤ 3000 ∧ TB (us.map (tkS s.size)) ∧ small (us.map (tkS s.size)) := by
 obtain ⟨h1, h2⟩ := yf h
 rw [← L_size] at h1
 have h2 : ∀ t ∈ us, 1 ≤ t.rem ∧ t.rem ≤ s.size ∧ t.text.length ≤ s.size := fun t ht => by have := h2 t ht; rw [← L_size] at this; exact this
 refine ⟨by simp; omega, fun t ht => ?_, fun t ht => ?_⟩
 ·obtain ⟨u, hu, rfl⟩ := List.mem_map.1 ht
  have := h2 u hu
  show (S u.text).size ≤ 3000
  rw [ni]; omega
 obtain ⟨u, hu, rfl⟩ := List.mem_map.1 ht
 have := h2 u hu
 show _ ≤ ((s.size - u.rem : Nat) : Int) ∧ ((s.size - u.rem : Nat) : Int) ≤ _
 omega
theorem text_A (s : ByteArray) (hs : s.size ≤ 3000) {us : List Tk} (h : Lex.scan (L s) = .ok us) (n : Nat) (hn : Fn KN (us.map (tkS s.size)).length (moduleP (pfam n) n (us.map (tkS s.size)))) :
 EvTo (fun k => parse_Text.f k s) (ansS (us.map (tkS s.size)) (moduleP (pfam n) n (us.map (tkS s.size)))) := by
 have hS := EW s
 unfold pM at hS
 rw [if_pos (by omega), h] at hS
 obtain ⟨h1, h2, h3⟩ := text_toks hs h
 have := tree_A _ (by omega) h3 n hn
 unfold parse_Text.f
 exact EvTo.bind hS (EvTo.pos rfl (EvTo.bind this EvTo.now))
theorem Ib (s : ByteArray) (hs : s.size ≤ 3000) {e : Int} {r : Nat} (h : Lex.scan (L s) = .error (e, r)) : e ≠ 0 ∧ EvTo (fun k => parse_Text.f k s) (([] : List S41), e, ((s.size - r : Nat) : Int)) ∧ EvTo (fun k => lex_Scan.f k s) ([], e, ((s.size - r : Nat) : Int)) := by
 have hS := EW s
 unfold pM at hS
 rw [if_pos (by omega), h] at hS
 obtain ⟨h1, _⟩ := D7 h
 refine ⟨h1, ?_, hS⟩
 unfold parse_Text.f
 exact EvTo.bind hS (EvTo.neg h1 EvTo.now)
/-- Rounds enough for all tokens of such a number. -/
theorem rounds (m : Nat) : ∃ n0, ∀ n, n0 ≤ n → Tot (pfam n) m ∧ ∀ l : List S38, l.length ≤ m → TB l → Fn KN l.length (moduleP (pfam n) n l) := by
 obtain ⟨n0, h0⟩ := tot m
 exact ⟨n0 + m, fun n hn => ⟨h0 n (by omega), fun l hl h => Es (h0 n (by omega)) n l hl (by omega) h⟩⟩
theorem Jg {ts : List S38} {r : R (List S41)} (h : (ansS ts r).2.1 = 0) : ∃ x, r = .ok (x, []) ∧ (checkS x).1 = 0 ∧ ansS ts r = (x, 0, 0) := by
 unfold ansS at h ⊢
 split at h
 ·rename_i x
  by_cases c : (checkS x).1 = 0
  ·rw [if_pos c]; exact ⟨x, rfl, c, rfl⟩
  rw [if_neg c] at h; exact absurd h c
 all_goals cases h
end Go.Proofs.Ytendgafpkeadhaa.Par
end
section
set_option linter.unusedVariables false
set_option linter.unusedSimpArgs false
namespace Go.Proofs.Ytendgafpkeadhaa.Par
open Go Go.RowKit Go.Proofs.YtendgafpkeadhaaW.PrintWords Go.Proofs.Ytendgafpkeadhaa.Q Go.Proofs.Ytendgafpkeadhaa.Lex Go.Proofs.Ytendgafpkeadhaa.Tree
theorem known_E : EvTo (fun k => chrysalislaw10_known.f k) true := EvTo.of_one (fun k r h => chrysalislaw10_known.mono k r h) 300 chrysalislaw10_known.at
theorem known_B : EvTo (fun k => (chrysalislaw10_known.f k).bind fun t => some t) true := EvTo.bind known_E EvTo.now
abbrev Rnd (n : Nat) : Prop := Tot (pfam n) 3000 ∧ ∀ l : List S38, l.length ≤ 3000 → TB l → Fn KN l.length (moduleP (pfam n) n l)
/-- An answer of parse.Text; if it is well, what was read. -/
theorem text_V {n : Nat} (hr : Rnd n) (s : ByteArray) (hs : s.size ≤ 3000) : ∃ v : List S41 × Int × Int, EvTo (fun k => parse_Text.f k s) v ∧ (v.2.1 = 0 → ∃ us, Lex.scan (L s) = .ok us ∧ moduleP (pfam n) n (us.map (tkS s.size)) = .ok (v.1, []) ∧ (checkS v.1).1 = 0) := by
 cases h : Lex.scan (L s) with
 | error e =>
  obtain ⟨e, r⟩ := e
  obtain ⟨n1, n2, _⟩ := Ib s hs h
  exact ⟨_, n2, fun h => absurd h n1⟩
 | ok us =>
  obtain ⟨t1, t2, t3⟩ := text_toks hs h
  refine ⟨_, text_A s hs h n (hr.2 _ t1 t2), fun hc => ?_⟩
  obtain ⟨x, x1, x2, x3⟩ := Jg hc
  exact ⟨us, rfl, by rw [x3]; exact x1, by rw [x3]; exact x2⟩
theorem Jh (l : List S41) (hl : l.length ≤ 100000) : ∀ (m i : Nat), l.length = m + i → EvTo (fun k => chrysalisref09_Same.l0 k l l (i : Int)) true := by
 intro m
 induction m with
 | zero =>
  intro i h
  refine EvTo.step (fun k => by rw [chrysalisref09_Same.l0]) ?_
  exact EvTo.neg (by omega) EvTo.now
 | succ m ih =>
  intro i h
  refine EvTo.step (fun k => by rw [chrysalisref09_Same.l0]) ?_
  refine EvTo.pos (by omega) (EvTo.pos (by omega) (EvTo.pos (by omega) (EvTo.neg (by simp) ?_)))
  rw [Tree.inc i (by omega)]
  exact ih (i + 1) (by omega)
theorem Same_self (l : List S41) (hl : l.length ≤ 100000) : EvTo (fun k => chrysalisref09_Same.f k l l) true := by
 unfold chrysalisref09_Same.f
 exact EvTo.pos rfl (Jh l hl l.length 0 (by omega))
end Go.Proofs.Ytendgafpkeadhaa.Par
end
section
set_option linter.unusedVariables false
set_option linter.unusedSimpArgs false
namespace Go.Proofs.Ytendgafpkeadhaa.Par
open Go Go.RowKit Go.Proofs.YtendgafpkeadhaaW.PrintWords Go.Proofs.Ytendgafpkeadhaa.Q Go.Proofs.Ytendgafpkeadhaa.Lex Go.Proofs.Ytendgafpkeadhaa.Tree
theorem Em {w : List UInt8} {l r : List S38} {u : Unit} (hw : w ≠ []) (h : must w l = .ok (u, r)) : ∃ t, l = t :: r ∧ wd l = w := by
 unfold must at h
 by_cases c : wd l = w
 ·rw [if_pos c] at h
  obtain ⟨t, r', rfl⟩ := rP (l := l) (by rw [c]; exact hw)
  cases h
  exact ⟨t, rfl, c⟩
 rw [if_neg c] at h; cases h
theorem mX {w : List UInt8} {t : S38} {r : List S38} (h : wd (t :: r) = w) : must w (t :: r) = .ok ((), r) := by unfold must; rw [if_pos h]; rfl
theorem zY {t t' : S38} (r r' : List S38) (h : core t = core t') : wd (t :: r) = wd (t' :: r') := by unfold wd; rw [qF h]
variable {F : PF} {N m0 : Nat}
theorem IM {t0 t1 t2 t3 : S38} (T : List S38) (w0 : wd [t0] = [109, 111, 100, 117, 108, 101]) (w1 : t1.f0 = 1) (w2 : t2.f0 = 2) (w3 : wd [t3] = [59]) : moduleP F N (t0 :: t1 :: t2 :: t3 :: T) = qW F N t1.f1 t2.f2 N [] T := by
 unfold moduleP
 rw [gI (mX (t := t0) (r := t1 :: t2 :: t3 :: T) w0), gI (qp (r := t2 :: t3 :: T) w1), gI (qp (r := t3 :: T) w2), gI (mX (t := t3) (r := T) w3)]
end Go.Proofs.Ytendgafpkeadhaa.Par
end
section
set_option linter.unusedVariables false
set_option linter.unusedSimpArgs false
namespace Go.Proofs.Ytendgafpkeadhaa.Par
open Go Go.RowKit Go.Proofs.YtendgafpkeadhaaW.PrintWords Go.Proofs.Ytendgafpkeadhaa.Q Go.Proofs.Ytendgafpkeadhaa.Lex Go.Proofs.Ytendgafpkeadhaa.Tree
def Le {α : Type} (P Q : Ps α) : Prop := ∀ l, P l ≠ .error none → Q l = P l
variable {α β : Type}
theorem Le.refl (P : Ps α) : Le P P := fun _ _ => rfl
theorem Le.out (Q : Ps α) : Le Par.out Q := fun _ h => absurd rfl h
theorem Le.bnd {P P' : Ps α} {f f' : α → Ps β} (hP : Le P P') (hf : ∀ x, Le (f x) (f' x)) : Le (bnd P f) (bnd P' f') := by
 intro l h
 have hPl := hP l
 unfold Par.bnd at h ⊢
 cases e : P l with
 | ok r =>
  obtain ⟨x, r⟩ := r
  rw [e] at h hPl
  rw [hPl (by simp)]
  exact hf x r h
 | error q =>
  rw [e] at h hPl
  rw [hPl (fun c => h (by cases c; rfl))]
theorem Le.ite {c : List S38 → Prop} [∀ l, Decidable (c l)] {A B A' B' : Ps α} (hA : Le A A') (hB : Le B B') : Le (fun l => if c l then A l else B l) (fun l => if c l then A' l else B' l) := by
 intro l h
 by_cases d : c l
 ·simp only [if_pos d] at h ⊢; exact hA l h
 simp only [if_neg d] at h ⊢; exact hB l h
structure FLe (F F' : PF) : Prop where
 expr : Le F.expr F'.expr
 block : Le F.block F'.block
 bound : ∀ a, Le (F.bound a) (F'.bound a)
 unary : Le F.unary F'.unary
variable {F F' : PF}
theorem nR (H : FLe F F') (k : Int) (nm : ByteArray) : Le (fC F k nm) (fC F' k nm) := Le.bnd H.expr fun e => Le.refl _
theorem F8 (H : FLe F F') (e : List S41) : Le (lu F e) (lu F' e) := by
 unfold lu
 split
 ·exact Le.bnd (Le.refl _) fun _ => Le.bnd H.expr fun v => Le.refl _
 exact Le.refl _
theorem DU (H : FLe F F') (e : List S41) : Le (lX F e) (lX F' e) := by
 cases e with
 | nil => exact Le.refl _
 | cons x t =>
  intro l h
  unfold lX at h ⊢
  by_cases c : wd l ≠ [61]
  ·rw [if_pos c, if_pos c]
  rw [if_neg c] at h
  rw [if_neg c, if_neg c]
  by_cases c1 : x.f0 = 21
  ·simp only [if_pos c1] at h ⊢
   exact Le.bnd (Le.refl _) (fun _ => nR H 7 x.f2) l h
  simp only [if_neg c1] at h ⊢
  by_cases c2 : x.f0 = 26
  ·simp only [if_pos c2] at h ⊢
   exact F8 H _ l h
  simp only [if_neg c2]
theorem Ie (H : FLe F F') : Le (jr F) (jr F') :=
 Le.ite (c := fun l => wd l = [108, 101, 116]) (Le.bnd (Le.refl _) fun _ => Le.bnd (Le.refl _) fun t => Le.bnd (Le.refl _) fun _ => nR H _ _)
 (Le.ite (c := fun l => wd l = [105, 102]) (Le.bnd (Le.refl _) fun _ => Le.bnd H.expr fun e => Le.bnd H.block fun b => Le.ite (c := fun l => wd l = [101, 108, 115, 101]) (Le.bnd (Le.refl _) fun _ => Le.bnd H.block fun c => Le.refl _) (Le.refl _))
 (Le.ite (c := fun l => wd l = [119, 104, 105, 108, 101]) (Le.bnd (Le.refl _) fun _ => Le.bnd H.expr fun e => Le.bnd H.block fun b => Le.refl _)
 (Le.ite (c := fun l => wd l = [98, 114, 101, 97, 107]) (Le.refl _)
 (Le.ite (c := fun l => wd l = [99, 111, 110, 116, 105, 110, 117, 101]) (Le.refl _)
 (Le.ite (c := fun l => wd l = [121, 105, 101, 108, 100]) (Le.refl _)
 (Le.ite (c := fun l => wd l = [114, 101, 116, 117, 114, 110]) (Le.bnd (Le.refl _) fun _ => nR H _ _)
 (Le.ite (c := fun l => wd l = [112, 117, 116]) (Le.bnd (Le.refl _) fun _ => nR H _ _)
 (Le.ite (c := fun l => wd l = [101, 109, 105, 116]) (Le.bnd (Le.refl _) fun _ => nR H _ _)
 (Le.bnd H.expr fun e => DU H e)))))))))
theorem yN (H : FLe F F') : ∀ (n m : Nat) (acc : List (List S41)), n ≤ m → Le (jl F n acc) (jl F' m acc)
 | 0, m, acc, _ => Le.out _
 | n + 1, 0, acc, h => by omega
 | n + 1, m + 1, acc, h => Le.ite (c := fun l => wd l = [125]) (Le.refl _) (Le.bnd (Ie H) fun s => yN H n m _ (by omega))
theorem Bo (H : FLe F F') {N M : Nat} (h : N ≤ M) : Le (lD F N) (lD F' M) := Le.bnd (Le.refl _) fun _ => yN H N M [] h
theorem wO {one one' : Ps (List S41)} (ho : Le one one') : ∀ (n m : Nat) (acc : List (List S41)), n ≤ m → Le (jZ one n acc) (jZ one' m acc)
 | 0, m, acc, _ => Le.out _
 | n + 1, 0, acc, h => by omega
 | n + 1, m + 1, acc, h => Le.ite (c := fun l => wd l = [41]) (Le.refl _) (Le.ite (c := fun _ => acc = []) (Le.bnd ho fun x => wO ho n m _ (by omega)) (Le.bnd (Le.refl _) fun _ => Le.bnd ho fun x => wO ho n m _ (by omega)))
theorem zh {one one' : Ps (List S41)} (ho : Le one one') {N M : Nat} (h : N ≤ M) : Le (Par.dK one N) (Par.dK one' M) := Le.bnd (Le.refl _) fun _ => wO ho N M [] h
theorem zA (H : FLe F F') {N M : Nat} (h : N ≤ M) (k : Int) (nm : ByteArray) : Le (ig F N k nm) (ig F' M k nm) := Le.bnd (zh (Le.refl _) h) fun ps => Le.bnd (Bo H h) fun b => Le.refl _
theorem IJ (H : FLe F F') {N M : Nat} (h : N ≤ M) : Le (ru F N) (ru F' M) :=
 Le.bnd (Le.refl _) fun t => Le.ite (c := fun l => wd l = [46]) (Le.bnd (Le.refl _) fun _ => Le.bnd (Le.refl _) fun u => Le.bnd (zh H.expr h) fun ks => Le.refl _) (Le.refl _)
theorem IP (H : FLe F F') {N M : Nat} (h : N ≤ M) : Le (lT F N) (lT F' M) := by
 intro l g
 cases l with
 | nil => rfl
 | cons t r =>
  rw [jm] at g ⊢
  rw [jm]
  by_cases c1 : t.f0 = 2
  ·rw [if_pos c1, if_pos c1]
  rw [if_neg c1] at g
  rw [if_neg c1, if_neg c1]
  by_cases c2 : t.f0 = 3
  ·rw [if_pos c2, if_pos c2]
  rw [if_neg c2] at g
  rw [if_neg c2, if_neg c2]
  exact IJ H h _ g
theorem I4 (H : FLe F F') {N M : Nat} (h : N ≤ M) : Le (mD F N) (mD F' M) :=
 Le.ite (c := fun l => wd l = [110, 105, 108]) (Le.refl _)
 (Le.ite (c := fun l => wd l = [115, 116, 97, 116, 101]) (Le.refl _)
 (Le.ite (c := fun l => wd l = [123]) (Le.refl _)
 (Le.ite (c := fun l => wd l = [102, 110]) (Le.bnd (Le.refl _) fun _ => zA H h _ _)
 (Le.ite (c := fun l => wd l = [40]) (Le.bnd (Le.refl _) fun _ => Le.bnd H.expr fun e => Le.refl _)
 (IP H h)))))
theorem wG (H : FLe F F') {N M : Nat} (h : N ≤ M) : ∀ (n m : Nat) (e : List S41), n ≤ m → Le (jR F N n e) (jR F' M m e)
 | 0, m, e, _ => Le.out _
 | n + 1, 0, e, g => by omega
 | n + 1, m + 1, e, g => Le.ite (c := fun l => wd l = [40]) (Le.bnd (zh H.expr h) fun ks => wG H h n m _ (by omega))
  (Le.ite (c := fun l => wd l = [91]) (Le.bnd (Le.refl _) fun _ => Le.bnd H.expr fun i => Le.bnd (Le.refl _) fun _ => wG H h n m _ (by omega)) (Le.refl _))
theorem Ac (H : FLe F F') {N M : Nat} (h : N ≤ M) : Le (jA F N) (jA F' M) := by
 intro l g
 unfold jA at g ⊢
 by_cases c1 : wd l = [45] ∨ wd l = [110, 111, 116] ∨ wd l = [108, 101, 110]
 ·rw [if_pos c1] at g
  rw [if_pos c1, if_pos c1]
  exact Le.bnd (Le.refl _) (fun _ => Le.bnd H.unary fun e => Le.refl _) l g
 rw [if_neg c1] at g
 rw [if_neg c1, if_neg c1]
 by_cases c2 : wd l = [115, 112, 97, 119, 110]
 ·rw [if_pos c2] at g
  rw [if_pos c2, if_pos c2]
  exact Le.bnd (Le.refl _) (fun _ => Le.bnd H.unary fun e => Le.refl _) l g
 rw [if_neg c2] at g
 rw [if_neg c2, if_neg c2]
 exact Le.bnd (I4 H h) (fun e => wG H h N M e h) l g
theorem yJ (H : FLe F F') (a : Int) : ∀ (n m : Nat) (e : List S41), n ≤ m → Le (jg F a n e) (jg F' a m e)
 | 0, m, e, _ => Le.out _
 | n + 1, 0, e, g => by omega
 | n + 1, m + 1, e, g => by
  intro l h
  rw [jg] at h ⊢
  rw [jg]
  dsimp only at h ⊢
  by_cases c : jM (wd l) = a
  ·rw [if_pos c] at h
   rw [if_pos c, if_pos c]
   refine Le.bnd (Le.refl _) (fun _ => Le.bnd (H.bound (a + 1)) fun e2 => ?_) l h
   by_cases d : a = 3
   ·rw [if_pos d, if_pos d]; exact Le.refl _
   rw [if_neg d, if_neg d]; exact yJ H a n m _ (by omega)
  rw [if_neg c, if_neg c]
theorem Bh (H : FLe F F') {N M : Nat} (h : N ≤ M) (a : Int) : Le (iO F N a) (iO F' M a) := by
 unfold iO
 by_cases c : a = 6
 ·rw [if_pos c, if_pos c]; exact Ac H h
 rw [if_neg c, if_neg c]; exact Le.bnd (H.bound (a + 1)) fun e => yJ H a N M e h
theorem tq : ∀ n m, n ≤ m → FLe (pfam n) (pfam m)
 | 0, m, _ => ⟨Le.out _, Le.out _, fun _ => Le.out _, Le.out _⟩
 | n + 1, 0, h => by omega
 | n + 1, m + 1, h => ⟨Bh (tq n m (by omega)) (by omega) 1, Bo (tq n m (by omega)) (by omega), fun a => Bh (tq n m (by omega)) (by omega) a, Ac (tq n m (by omega)) (by omega)⟩
/-- What is behind brackets. -/
theorem CX {n : Nat} (hn : 1 ≤ n) (a : Int) (ha : 1 ≤ a) (e : List S41) {r : List S38} (hr : St r) : jg (pfam n) a n e r = .ok (e, r) := by
 obtain ⟨k, rfl⟩ : ∃ k, n = k + 1 := ⟨n - 1, by omega⟩
 rw [jg]
 dsimp only
 rw [if_neg (by rw [hr.1]; omega)]
theorem DR {n : Nat} (hn : 1 ≤ n) (e : List S41) {r : List S38} (hr : St r) : jR (pfam n) n n e r = .ok (e, r) := by
 obtain ⟨k, rfl⟩ : ∃ k, n = k + 1 := ⟨n - 1, by omega⟩
 rw [jR]
 dsimp only
 rw [if_neg hr.2.1, if_neg hr.2.2.1]
theorem uS {n : Nat} {t : S38} {l : List S38} (ht : wd (t :: l) = [40]) : jA (pfam n) n (t :: l) = (bnd (bnd (pfam n).expr fun e => bnd (must [41]) fun _ => ret e) fun e => jR (pfam n) n n e) l := by
 have hp : mD (pfam n) n (t :: l) = (bnd (pfam n).expr fun e => bnd (must [41]) fun _ => ret e) l := by
  unfold mD
  rw [ht, if_neg (by decide), if_neg (by decide), if_neg (by decide), if_neg (by decide), if_pos rfl]
  rfl
 unfold jA
 rw [ht, if_neg (by decide), if_neg (by decide)]
 unfold Par.bnd
 unfold Par.bnd at hp
 rw [hp]
theorem tH {n : Nat} {l : List S38} (a : Int) (h1 : 1 ≤ a) (h2 : a ≤ 5) (v : R (List S41)) (h : (pfam n).bound (a + 1) l = v) (hv : (∃ e r, v = .ok (e, r) ∧ St r) ∨ ∃ q, v = .error (some q)) (hn : 1 ≤ n) : (pfam (n + 1)).bound a l = v := by
 show iO (pfam n) n a l = v
 unfold iO
 rw [if_neg (by omega)]
 rcases hv with ⟨e, r, rfl, hr⟩ | ⟨q, rfl⟩
 ·rw [gI h]; exact CX hn a h1 e hr
 exact mZ h
theorem Hm {n : Nat} {t : S38} {l : List S38} (ht : wd (t :: l) = [40]) (v : R (List S41)) (h : jA (pfam n) n (t :: l) = v) (hv : (∃ e r, v = .ok (e, r) ∧ St r) ∨ ∃ q, v = .error (some q)) (hn : 1 ≤ n) : (pfam (n + 6)).expr (t :: l) = v := by
 have b6 : (pfam (n + 1)).bound 6 (t :: l) = v := by
  show iO (pfam n) n 6 (t :: l) = v
  unfold iO
  rw [if_pos rfl]
  exact h
 have b5 := tH 5 (by omega) (by omega) v b6 hv (by omega)
 have b4 := tH 4 (by omega) (by omega) v b5 hv (by omega)
 have b3 := tH 3 (by omega) (by omega) v b4 hv (by omega)
 have b2 := tH 2 (by omega) (by omega) v b3 hv (by omega)
 exact tH 1 (by omega) (by omega) v b2 hv (by omega)
/-- An expression in brackets. -/
theorem IB {n : Nat} {t s : S38} {l r : List S38} {e : List S41} (ht : wd (t :: l) = [40]) (h : (pfam n).expr l = .ok (e, s :: r)) (hs : wd (s :: r) = [41]) (hr : St r) (hn : 1 ≤ n) : (pfam (n + 6)).expr (t :: l) = .ok (e, r) := by
 refine Hm ht _ ?_ (Or.inl ⟨e, r, rfl, hr⟩) hn
 rw [uS ht]
 have h1 : (bnd (pfam n).expr fun e => bnd (must [41]) fun _ => ret e) l = .ok (e, r) := by
  rw [gI h, gI (show must [41] (s :: r) = .ok ((), r) by unfold must; rw [if_pos hs]; rfl)]
  rfl
 rw [gI h1]
 exact DR hn e hr
/-- What is no expression, or none with a bracket behind it, is none in brackets. -/
theorem DX {n : Nat} {t : S38} {l : List S38} (ht : wd (t :: l) = [40]) (h : (∃ q, (pfam n).expr l = .error (some q)) ∨ ∃ e r, (pfam n).expr l = .ok (e, r) ∧ wd r ≠ [41]) (hn : 1 ≤ n) : ∃ q, (pfam (n + 6)).expr (t :: l) = .error (some q) := by
 have h1 : ∃ q, (bnd (pfam n).expr fun e => bnd (must [41]) fun _ => ret e) l = .error (some q) := by
  rcases h with ⟨q, h⟩ | ⟨e, r, h, hr⟩
  ·exact ⟨q, mZ h⟩
  refine ⟨r, ?_⟩
  rw [gI h]
  exact mZ (show must [41] r = .error (some r) by unfold must; rw [if_neg hr])
 obtain ⟨q, h1⟩ := h1
 exact ⟨q, Hm ht _ (by rw [uS ht]; exact mZ h1) (Or.inr ⟨q, rfl⟩) hn⟩
end Go.Proofs.Ytendgafpkeadhaa.Par
end
section
set_option linter.unusedVariables false
set_option linter.unusedSimpArgs false
namespace Go.Proofs.Ytendgafpkeadhaa.Par
open Go Go.RowKit Go.Proofs.YtendgafpkeadhaaW.PrintWords Go.Proofs.Ytendgafpkeadhaa.Q Go.Proofs.Ytendgafpkeadhaa.Lex Go.Proofs.Ytendgafpkeadhaa.Tree
theorem qQ {α β : Type} {P Q : Ps α} {f : α → Ps β} {l l' : List S38} (h : P l = Q l') : bnd P f l = bnd Q f l' := by unfold bnd; rw [h]
theorem CY {α β γ : Type} (P : Ps α) (f : α → Ps β) (g : β → Ps γ) : bnd (bnd P f) g = bnd P fun x => bnd (f x) g := by
 funext l
 unfold bnd
 cases P l with
 | ok r => rfl
 | error e => rfl
theorem FP {α β : Type} (a : α) (f : α → Ps β) : bnd (ret a) f = f a := rfl
/-- The ten tokens ahead of the expression. -/
structure Ten (h : List S38) (t0 t1 t2 t3 t4 t5 t6 t7 t8 t9 : S38) : Prop where
 eq : h = [t0, t1, t2, t3, t4, t5, t6, t7, t8, t9]
 w0 : wd [t0] = [109, 111, 100, 117, 108, 101]
 w1 : t1.f0 = 1
 w2 : t2.f0 = 2
 w3 : wd [t3] = [59]
 w4 : wd [t4] = [102, 110]
 w5 : t5.f0 = 1
 w6 : wd [t6] = [40]
 w7 : wd [t7] = [41]
 w8 : wd [t8] = [123]
 w9 : wd [t9] = [114, 101, 116, 117, 114, 110]
variable {F : PF} {M : Nat}
theorem D5 {t : S38} (l : List S38) (h : wd [t] = [114, 101, 116, 117, 114, 110]) : jr F (t :: l) = fC F 13 E l := by
 have h' : wd (t :: l) = [114, 101, 116, 117, 114, 110] := h
 unfold jr
 rw [h', if_neg (by decide), if_neg (by decide), if_neg (by decide), if_neg (by decide), if_neg (by decide), if_neg (by decide), if_pos rfl]
 rfl
theorem CZ {t8 t9 : S38} (l : List S38) (h8 : wd [t8] = [123]) (h9 : wd [t9] = [114, 101, 116, 117, 114, 110]) : lD F (M + 1) (t8 :: t9 :: l) = (bnd (fC F 13 E) fun s => jl F M [s]) l := by
 unfold lD
 rw [gI (mX (t := t8) (r := t9 :: l) h8), jl]
 dsimp only
 rw [if_neg (by rw [show wd (t9 :: l) = [114, 101, 116, 117, 114, 110] from h9]; decide), qQ (D5 l h9)]
 rfl
theorem Cj {t6 t7 : S38} (l : List S38) (h6 : wd [t6] = [40]) (h7 : wd [t7] = [41]) (one : Ps (List S41)) : Par.dK one (M + 1) (t6 :: t7 :: l) = .ok ([], l) := by
 unfold Par.dK
 rw [gI (mX (t := t6) (r := t7 :: l) h6), jZ]
 dsimp only
 rw [if_pos (show wd (t7 :: l) = [41] from h7), gI (mX (t := t7) (r := l) h7)]
 rfl
abbrev Iu (F : PF) (M : Nat) (nm : ByteArray) (v : Int) (f : ByteArray) (e : List S41) : Ps (List S41) :=
 bnd (must [59]) fun _ => bnd (jl F M [nd 13 E 0 E [e]]) fun b => qy F (M + 1) nm v M [nd 3 f 0 E [b]]
theorem wL {h : List S38} {t0 t1 t2 t3 t4 t5 t6 t7 t8 t9 : S38} (T : Ten h t0 t1 t2 t3 t4 t5 t6 t7 t8 t9) (l : List S38) : moduleP F (M + 1) (h ++ l) = (bnd F.expr (Iu F M t1.f1 t2.f2 t5.f1)) l := by
 rw [T.eq]
 simp only [List.cons_append, List.nil_append]
 rw [IM (t4 :: t5 :: t6 :: t7 :: t8 :: t9 :: l) T.w0 T.w1 T.w2 T.w3, qW]
 dsimp only
 rw [if_neg (by rw [show wd (t4 :: t5 :: t6 :: t7 :: t8 :: t9 :: l) = [102, 110] from T.w4]; decide), qy]
 dsimp only
 rw [if_pos (show wd (t4 :: t5 :: t6 :: t7 :: t8 :: t9 :: l) = [102, 110] from T.w4), gI (show tk (t4 :: t5 :: t6 :: t7 :: t8 :: t9 :: l) = .ok ((), t5 :: t6 :: t7 :: t8 :: t9 :: l) from rfl), gI (qp T.w5)]
 have hf : ig F (M + 1) 3 t5.f1 (t6 :: t7 :: t8 :: t9 :: l) = (bnd (bnd (fC F 13 E) fun s => jl F M [s]) fun b => ret (nd 3 t5.f1 0 E [b])) l := by
  unfold ig
  rw [gI (Cj (t8 :: t9 :: l) T.w6 T.w7 lY), qQ (CZ l T.w8 T.w9)]
  rfl
 rw [qQ hf]
 unfold fC
 simp only [CY, FP]
 rfl
theorem Du {h : List S38} {t0 t1 t2 t3 t4 t5 t6 t7 t8 t9 : S38} (T : Ten h t0 t1 t2 t3 t4 t5 t6 t7 t8 t9) {l : List S38} {e : List S41} {s c : S38} (he : F.expr l = .ok (e, [s, c])) (hs : wd [s] = [59]) (hc : wd [c] = [125]) (hM : 1 ≤ M) :
 moduleP F (M + 1) (h ++ l) = .ok (nd 1 t1.f1 t2.f2 E [nd 3 t5.f1 0 E [nd 5 E 0 E [nd 13 E 0 E [e]]]], []) := by
 obtain ⟨K, rfl⟩ : ∃ K, M = K + 1 := ⟨M - 1, by omega⟩
 rw [wL T, gI he]
 unfold Iu
 rw [gI (mX (t := s) (r := [c]) hs)]
 have hb : jl F (K + 1) [nd 13 E 0 E [e]] [c] = .ok (nd 5 E 0 E [nd 13 E 0 E [e]], []) := by
  rw [jl]
  dsimp only
  rw [if_pos hc, gI (mX (t := c) (r := []) hc)]
  rfl
 rw [gI hb, qy]
 dsimp only
 rw [if_neg (by rw [sK]; simp)]
theorem Ah {h : List S38} {t0 t1 t2 t3 t4 t5 t6 t7 t8 t9 : S38} (T : Ten h t0 t1 t2 t3 t4 t5 t6 t7 t8 t9) {l r : List S38} {x : List S41} (hm : moduleP F (M + 1) (h ++ l) = .ok (x, r)) : ∃ e s q, F.expr l = .ok (e, s :: q) ∧ wd (s :: q) = [59] := by
 rw [wL T] at hm
 obtain ⟨e, r1, h1, h2⟩ := mg hm
 unfold Iu at h2
 obtain ⟨_, r2, h3, _⟩ := mg h2
 obtain ⟨s, rfl, hs⟩ := Em (by simp) h3
 exact ⟨e, s, r2, h1, hs⟩
theorem Dv {h : List S38} {t0 t1 t2 t3 t4 t5 t6 t7 t8 t9 : S38} (T : Ten h t0 t1 t2 t3 t4 t5 t6 t7 t8 t9) {l q : List S38} (he : F.expr l = .error (some q)) : moduleP F (M + 1) (h ++ l) = .error (some q) := by
 rw [wL T]
 exact mZ he
end Go.Proofs.Ytendgafpkeadhaa.Par
end
section
set_option linter.unusedVariables false
set_option linter.unusedSimpArgs false
namespace Go.Proofs.Ytendgafpkeadhaa.Par
open Go Go.RowKit Go.Proofs.YtendgafpkeadhaaW.PrintWords Go.Proofs.Ytendgafpkeadhaa.Q Go.Proofs.Ytendgafpkeadhaa.Lex Go.Proofs.Ytendgafpkeadhaa.Tree
def qE (w : List UInt8) : Int := if w = [40] ∨ w = [123] ∨ w = [91] then 1 else if w = [41] ∨ w = [125] ∨ w = [93] then -1 else 0
def dep (t : S38) : Int := qE (wd [t])
def De (p : List S38) : Int := (p.map dep).sum
theorem Jt (p q : List S38) : De (p ++ q) = De p + De q := by simp [De]
/-- Where such a word stands first: what is passed has such a depth. -/
def bZ {α : Type} (c : List UInt8 → Prop) (z : Int) (P : Ps α) : Prop := ∀ l x r, c (wd l) → P l = .ok (x, r) → ∃ p, l = p ++ r ∧ De p = z
abbrev Net {α : Type} (z : Int) (P : Ps α) : Prop := bZ (fun _ => True) z P
variable {α β : Type} {c : List UInt8 → Prop}
theorem bZ.of {z : Int} {P : Ps α} (h : Net z P) : bZ c z P := fun l x r _ e => h l x r trivial e
theorem bZ.bnd {a b z : Int} {P : Ps α} {f : α → Ps β} (hP : bZ c a P) (hf : ∀ x, Net b (f x)) (hz : z = a + b) : bZ c z (bnd P f) := by
 intro l y r hc h
 obtain ⟨x, s, h1, h2⟩ := mg h
 obtain ⟨p, rfl, e1⟩ := hP l x s hc h1
 obtain ⟨q, rfl, e2⟩ := hf x s y r trivial h2
 exact ⟨p ++ q, by simp, by rw [Jt, e1, e2, hz]⟩
theorem bZ.ret (a : α) : bZ c 0 (ret a) := fun l x r _ h => by cases h; exact ⟨[], rfl, rfl⟩
theorem bZ.out (z : Int) : bZ c z (out : Ps α) := fun l x r _ h => by cases h
theorem bZ.tk {z : Int} (h : ∀ w, c w → qE w = z) : bZ c z tk := fun l x r hc e => by
 cases l with
 | nil => cases e
 | cons t u =>
  cases e
  exact ⟨[t], rfl, by simp [De, dep]; exact h _ hc⟩
theorem bZ.must (w : List UInt8) (hw : w ≠ [] := by simp) : bZ c (qE w) (must w) := fun l x r _ e => by
 unfold Par.must at e
 by_cases d : wd l = w
 ·rw [if_pos d] at e
  obtain ⟨t, u, rfl⟩ := rP (l := l) (by rw [d]; exact hw)
  cases e
  exact ⟨[t], rfl, by simp [De, dep]; rw [show wd [t] = w from d]⟩
 rw [if_neg d] at e; cases e
theorem Fv {t : S38} (h : t.f0 = 1 ∨ t.f0 = 2 ∨ t.f0 = 3) : wd [t] = [] := by
 have : wB [t] = E := if_neg (by omega)
 unfold wd
 rw [this]; exact vX
theorem bZ.need {k : Int} (hk : k = 1 ∨ k = 2 ∨ k = 3) : bZ c 0 (need k) := fun l x r _ e => by
 obtain ⟨rfl, h⟩ := mV e
 exact ⟨[x], rfl, Z80⟩
theorem bZ.ite {c' : List UInt8 → Prop} [∀ w, Decidable (c' w)] {z : Int} {A B : Ps α} (hA : bZ c' z A) (hB : Net z B) : Net z (fun l => if c' (wd l) then A l else B l) := fun l x r _ h => by
 by_cases d : c' (wd l)
 ·simp only [if_pos d] at h; exact hA l x r d h
 simp only [if_neg d] at h; exact hB l x r trivial h
structure NF (F : PF) : Prop where
 expr : Net 0 F.expr
 block : Net 0 F.block
 bound : ∀ a : Int, 1 ≤ a → Net 0 (F.bound a)
 unary : Net 0 F.unary
variable {F : PF}
theorem tk0 {w : List UInt8} (h : qE w = 0 := by decide) : bZ (fun v => v = w) 0 tk := bZ.tk fun v e => by rw [e]; exact h
theorem nU (H : NF F) (k : Int) (nm : ByteArray) : Net 0 (fC F k nm) := bZ.bnd H.expr (fun e => bZ.bnd (bZ.must [59]) (fun _ => bZ.ret _) rfl) rfl
theorem zS (k : Int) : Net 0 (nD k) := bZ.bnd (bZ.must [59]) (fun _ => bZ.ret _) rfl
theorem FB (H : NF F) (e : List S41) : Net 0 (lu F e) := by
 unfold lu
 split
 ·exact bZ.bnd (bZ.must [61]) (fun _ => bZ.bnd H.expr (fun v => bZ.bnd (bZ.must [59]) (fun _ => bZ.ret _) rfl) rfl) rfl
 exact bZ.out 0
theorem DW (H : NF F) (e : List S41) : Net 0 (lX F e) := by
 intro l x r _ h
 unfold lX at h
 by_cases c : wd l ≠ [61]
 ·rw [if_pos c] at h
  exact (bZ.bnd (bZ.must [59]) (fun _ => bZ.ret _) rfl : Net 0 (bnd (must [59]) fun _ => ret (nd 17 E 0 E [e]))) l x r trivial h
 rw [if_neg c] at h
 cases e with
 | nil => cases h
 | cons y t =>
  simp only at h
  by_cases c1 : y.f0 = 21
  ·rw [if_pos c1] at h
   exact (bZ.bnd (bZ.must [61]) (fun _ => nU H 7 y.f2) rfl : Net 0 (bnd (must [61]) fun _ => fC F 7 y.f2)) l x r trivial h
  rw [if_neg c1] at h
  by_cases c2 : y.f0 = 26
  ·rw [if_pos c2] at h; exact FB H _ l x r trivial h
  rw [if_neg c2] at h; cases h
theorem Ik (H : NF F) : Net 0 (jr F) :=
 bZ.ite (c' := fun w => w = [108, 101, 116]) (bZ.bnd tk0 (fun _ => bZ.bnd (bZ.need (Or.inl rfl)) (fun t => bZ.bnd (bZ.must [61]) (fun _ => nU H _ _) rfl) rfl) rfl)
 (bZ.ite (c' := fun w => w = [105, 102]) (bZ.bnd tk0 (fun _ => bZ.bnd H.expr (fun e => bZ.bnd H.block (fun b => bZ.ite (c' := fun w => w = [101, 108, 115, 101]) (bZ.bnd tk0 (fun _ => bZ.bnd H.block (fun c => bZ.ret _) rfl) rfl) (bZ.ret _)) rfl) rfl) rfl)
 (bZ.ite (c' := fun w => w = [119, 104, 105, 108, 101]) (bZ.bnd tk0 (fun _ => bZ.bnd H.expr (fun e => bZ.bnd H.block (fun b => bZ.ret _) rfl) rfl) rfl)
 (bZ.ite (c' := fun w => w = [98, 114, 101, 97, 107]) (bZ.bnd tk0 (fun _ => zS _) rfl)
 (bZ.ite (c' := fun w => w = [99, 111, 110, 116, 105, 110, 117, 101]) (bZ.bnd tk0 (fun _ => zS _) rfl)
 (bZ.ite (c' := fun w => w = [121, 105, 101, 108, 100]) (bZ.bnd tk0 (fun _ => zS _) rfl)
 (bZ.ite (c' := fun w => w = [114, 101, 116, 117, 114, 110]) (bZ.bnd tk0 (fun _ => nU H _ _) rfl)
 (bZ.ite (c' := fun w => w = [112, 117, 116]) (bZ.bnd tk0 (fun _ => nU H _ _) rfl)
 (bZ.ite (c' := fun w => w = [101, 109, 105, 116]) (bZ.bnd tk0 (fun _ => nU H _ _) rfl)
 (bZ.bnd H.expr (fun e => DW H e) rfl)))))))))
theorem yP (H : NF F) : ∀ (n : Nat) (acc : List (List S41)), Net (-1) (jl F n acc)
 | 0, acc => bZ.out _
 | n + 1, acc => bZ.ite (c' := fun w => w = [125]) (bZ.bnd (bZ.must [125]) (fun _ => bZ.ret _) rfl) (bZ.bnd (Ik H) (fun s => yP H n _) rfl)
theorem BA (H : NF F) (N : Nat) : Net 0 (lD F N) := bZ.bnd (bZ.must [123]) (fun _ => yP H N []) rfl
theorem wQ {one : Ps (List S41)} (ho : Net 0 one) : ∀ (n : Nat) (acc : List (List S41)), Net (-1) (jZ one n acc)
 | 0, acc => bZ.out _
 | n + 1, acc => bZ.ite (c' := fun w => w = [41]) (bZ.bnd (bZ.must [41]) (fun _ => bZ.ret _) rfl) (bZ.ite (c' := fun _ => acc = []) (bZ.of (bZ.bnd ho (fun x => wQ ho n _) rfl)) (bZ.bnd (bZ.must [44]) (fun _ => bZ.bnd ho (fun x => wQ ho n _) rfl) rfl))
theorem zk {one : Ps (List S41)} (ho : Net 0 one) (N : Nat) : Net 0 (Par.dK one N) := bZ.bnd (bZ.must [40]) (fun _ => wQ ho N []) rfl
theorem Gg : Net 0 lY := bZ.bnd (bZ.need (Or.inl rfl)) (fun t => bZ.ret _) rfl
theorem zD (H : NF F) (N : Nat) (k : Int) (nm : ByteArray) : Net 0 (ig F N k nm) := bZ.bnd (zk Gg N) (fun ps => bZ.bnd (BA H N) (fun b => bZ.ret _) rfl) rfl
theorem IL (H : NF F) (N : Nat) : Net 0 (ru F N) :=
 bZ.bnd (bZ.need (Or.inl rfl)) (fun t => bZ.ite (c' := fun w => w = [46]) (bZ.bnd tk0 (fun _ => bZ.bnd (bZ.need (Or.inl rfl)) (fun u => bZ.bnd (zk H.expr N) (fun ks => bZ.ret _) rfl) rfl) rfl) (bZ.ret _)) rfl
theorem IV (H : NF F) (N : Nat) : Net 0 (lT F N) := by
 intro l x r _ h
 cases l with
 | nil => cases h
 | cons t u =>
  rw [jm] at h
  by_cases c1 : t.f0 = 2
  ·rw [if_pos c1] at h; cases h; exact ⟨[t], rfl, Z80⟩
  rw [if_neg c1] at h
  by_cases c2 : t.f0 = 3
  ·rw [if_pos c2] at h; cases h; exact ⟨[t], rfl, Z80⟩
  rw [if_neg c2] at h
  exact IL H N _ x r trivial h
theorem I9 (H : NF F) (N : Nat) : Net 0 (mD F N) :=
 bZ.ite (c' := fun w => w = [110, 105, 108]) (bZ.bnd tk0 (fun _ => bZ.ret _) rfl)
 (bZ.ite (c' := fun w => w = [115, 116, 97, 116, 101]) (bZ.bnd tk0 (fun _ => bZ.ret _) rfl)
 (bZ.ite (c' := fun w => w = [123]) (bZ.bnd (a := 1) (bZ.tk fun w e => by rw [e]; rfl) (fun _ => bZ.bnd (bZ.must [125]) (fun _ => bZ.ret _) rfl) rfl)
 (bZ.ite (c' := fun w => w = [102, 110]) (bZ.bnd tk0 (fun _ => zD H N _ _) rfl)
 (bZ.ite (c' := fun w => w = [40]) (bZ.bnd (a := 1) (bZ.tk fun w e => by rw [e]; rfl) (fun _ => bZ.bnd H.expr (fun e => bZ.bnd (bZ.must [41]) (fun _ => bZ.ret _) rfl) rfl) rfl)
 (IV H N)))))
theorem wI (H : NF F) (N : Nat) : ∀ (n : Nat) (e : List S41), Net 0 (jR F N n e)
 | 0, e => bZ.out _
 | n + 1, e => bZ.ite (c' := fun w => w = [40]) (bZ.of (bZ.bnd (zk H.expr N) (fun ks => wI H N n _) rfl))
  (bZ.ite (c' := fun w => w = [91]) (bZ.bnd (a := 1) (bZ.tk fun w e => by rw [e]; rfl) (fun _ => bZ.bnd H.expr (fun i => bZ.bnd (bZ.must [93]) (fun _ => wI H N n _) rfl) rfl) rfl) (bZ.ret _))
theorem Ag (H : NF F) (N : Nat) : Net 0 (jA F N) := by
 intro l x r _ h
 unfold jA at h
 by_cases c1 : wd l = [45] ∨ wd l = [110, 111, 116] ∨ wd l = [108, 101, 110]
 ·rw [if_pos c1] at h
  exact (bZ.bnd (bZ.tk fun w e => by rcases e with e | e | e <;> rw [e] <;> rfl) (fun _ => bZ.bnd H.unary (fun e => bZ.ret _) rfl) rfl : bZ (fun w => w = [45] ∨ w = [110, 111, 116] ∨ w = [108, 101, 110]) 0 (bnd tk fun _ => bnd F.unary fun e => ret (nd 28 E 0 (wB l) [e]))) l x r c1 h
 rw [if_neg c1] at h
 by_cases c2 : wd l = [115, 112, 97, 119, 110]
 ·rw [if_pos c2] at h
  exact (bZ.bnd tk0 (fun _ => bZ.bnd H.unary (fun e => bZ.ret _) rfl) rfl : bZ (fun w => w = [115, 112, 97, 119, 110]) 0 (bnd tk fun _ => bnd F.unary fun e => ret (nd 30 E 0 E [e]))) l x r c2 h
 rw [if_neg c2] at h
 exact (bZ.bnd (I9 H N) (fun e => wI H N N e) rfl : Net 0 (bnd (mD F N) fun e => jR F N N e)) l x r trivial h
theorem BJ {w : List UInt8} {a : Int} (ha : 1 ≤ a) (h : jM w = a) : qE w = 0 := by
 unfold qE
 rw [if_neg, if_neg]
 ·rintro (rfl | rfl | rfl) <;> (have e : a = 0 := (by rw [← h]; decide); omega)
 rintro (rfl | rfl | rfl) <;> (have e : a = 0 := (by rw [← h]; decide); omega)
theorem yM (H : NF F) (a : Int) (ha : 1 ≤ a) : ∀ (n : Nat) (e : List S41), Net 0 (jg F a n e)
 | 0, e => bZ.out _
 | n + 1, e => by
  intro l x r _ h
  rw [jg] at h
  dsimp only at h
  by_cases c : jM (wd l) = a
  ·rw [if_pos c] at h
   refine (bZ.bnd (a := 0) (b := 0) (bZ.tk fun w e => BJ ha e) (fun _ => bZ.bnd (a := 0) (b := 0) (H.bound (a + 1) (by omega)) (fun e2 => ?_) rfl) rfl : bZ (fun w => jM w = a) 0 (bnd tk fun _ => bnd (F.bound (a + 1)) fun e2 => if a = 3 then ret (nd 27 E 0 (wB l) [e, e2]) else jg F a n (nd 27 E 0 (wB l) [e, e2]))) l x r c h
   by_cases d : a = 3
   ·rw [if_pos d]; exact bZ.ret _
   rw [if_neg d]; exact yM H a ha n _
  rw [if_neg c] at h; cases h; exact ⟨[], rfl, rfl⟩
theorem Bl (H : NF F) (N : Nat) (a : Int) (ha : 1 ≤ a) : Net 0 (iO F N a) := by
 unfold iO
 by_cases c : a = 6
 ·rw [if_pos c]; exact Ag H N
 rw [if_neg c]; exact bZ.bnd (H.bound (a + 1) (by omega)) (fun e => yM H a ha N e) rfl
theorem tu : ∀ n, NF (pfam n)
 | 0 => ⟨bZ.out _, bZ.out _, fun _ _ => bZ.out _, bZ.out _⟩
 | n + 1 => ⟨Bl (tu n) n 1 (by omega), BA (tu n) n, fun a h => Bl (tu n) n a h, Ag (tu n) n⟩
end Go.Proofs.Ytendgafpkeadhaa.Par
end
