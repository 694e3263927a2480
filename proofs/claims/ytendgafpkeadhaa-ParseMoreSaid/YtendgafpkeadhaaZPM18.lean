/- Walks over functions of the program, words for them, and what the functions come to; of each text only what this claim uses; no condition. -/
import Derived.Test.YtendgafpkeadhaaZPM0
import Derived.Test.YtendgafpkeadhaaZPM12
import Derived.Test.YtendgafpkeadhaaZPM13
import Derived.Test.YtendgafpkeadhaaZPM14
import Derived.Test.YtendgafpkeadhaaZPM16
import Derived.Test.YtendgafpkeadhaaZPM17
section
set_option linter.unusedVariables false
set_option linter.unusedSimpArgs false
namespace Go.Proofs.Ytendgafpkeadhaa.Tree
open Go Go.RowKit Go.Proofs.YtendgafpkeadhaaW.PrintWords Go.Proofs.Ytendgafpkeadhaa.Q Go.Proofs.Ytendgafpkeadhaa.Lex
theorem EvTo.both {α : Type} {F G : Nat → Option α} {v u : α} {c : Prop} [Decidable c] (f : c → EvTo F v) (g : ¬c → EvTo G u) : EvTo (fun k => if c then F k else G k) (if c then v else u) := by
 by_cases h : c
 ·rw [if_pos h]; exact EvTo.pos h (f h)
 rw [if_neg h]; exact EvTo.neg h (g h)
def OPS : List (List UInt8) := [[43], [45], [42], [47], [37], [46, 46], [61, 61], [33, 61], [60], [60, 61], [97, 110, 100], [111, 114]]
def UNS : List (List UInt8) := [[45], [110, 111, 116], [108, 101, 110]]
def OB : ByteArray := (⟨#[32, 43, 32, 45, 32, 42, 32, 47, 32, 37, 32, 46, 46, 32, 61, 61, 32, 33, 61, 32, 60, 32, 60, 61, 32, 97, 110, 100, 32, 111, 114, 32]⟩ : ByteArray)
def UB : ByteArray := (⟨#[32, 45, 32, 110, 111, 116, 32, 108, 101, 110, 32]⟩ : ByteArray)
theorem vC : wordsOf (L OB) = OPS := by decide +kernel
theorem vz : wordsOf (L UB) = UNS := by decide +kernel
theorem Bj (w s : ByteArray) (hs : s.size ≤ 3000) (hw : w.size ≤ 1000) (hne : ¬ s.toList = ([] : List UInt8)) : ∀ (m i : Nat), w.size ≤ m + i → i ≤ w.size + 1 →
 EvTo (fun k => aX.l1 k w s ((s.size + 2 : Nat) : Int) (i : Int)) (jB (32 :: (L s ++ [32])) ((L w).drop i)) := by
 have hb : (32 :: (L s ++ [32])).length = s.size + 2 := by rw [L_size]; simp
 have hwL := L_size w
 have h1s : ((⟨#[32]⟩ : ByteArray) ++ s).size = 1 + s.size := by rw [ByteArray.size_append]; rfl
 have hLb : (((⟨#[32]⟩ : ByteArray) ++ s) ++ (⟨#[32]⟩ : ByteArray)).toList = 32 :: (L s ++ [32]) := by
  rw [iP, L_append, L_append]; rfl
 intro m
 induction m with
 | zero =>
  intro i h1 h2
  refine EvTo.step (fun k => by rw [aX.l1]) (EvTo.neg hne ?_)
  refine EvTo.step (fun k => by rw [aX.j2]) (EvTo.neg ?_ ?_)
  ·rw [w64 (by omega) (by omega)]; simp; omega
  rw [kN _ _ (by rw [List.length_drop, hb]; omega)]
  exact EvTo.now
 | succ m ih =>
  intro i h1 h2
  refine EvTo.step (fun k => by rw [aX.l1]) (EvTo.neg hne ?_)
  have hwr : wrap64 ((i : Int) + ((s.size + 2 : Nat) : Int)) = ((i + (s.size + 2) : Nat) : Int) := by rw [w64 (by omega) (by omega)]; omega
  rw [hwr]
  refine EvTo.step (fun k => by rw [aX.j2]) ?_
  rw [hwr]
  by_cases c : i + (s.size + 2) ≤ w.size
  ·refine EvTo.pos (decide_eq_true (by omega)) (EvTo.pos (by omega) (EvTo.pos (by omega) (EvTo.pos (by omega) (EvTo.pos (by omega) (EvTo.pos (by omega) ?_)))))
   rw [Int.toNat_natCast, Int.toNat_natCast, iP, BG, hLb, inc i (by omega)]
   have hd := jm (L w) i (by omega)
   by_cases e : ((L w).drop i).take (s.size + 2) = 32 :: (L s ++ [32])
   ·refine EvTo.pos e ?_
    have : jB (32 :: (L s ++ [32])) ((L w).drop i) = true := by
     rw [hd] at e ⊢
     rw [jB, Bool.or_eq_true, jL]
     refine Or.inl ⟨?_, by rw [hb]; exact e⟩
     rw [hb, ← hd, List.length_drop]; omega
    rw [this]
    exact EvTo.now
   refine EvTo.neg e ?_
   have : jB (32 :: (L s ++ [32])) ((L w).drop i) = jB (32 :: (L s ++ [32])) ((L w).drop (i + 1)) := by
    rw [hd, jB, ← hd]
    have : List.isPrefixOf (32 :: (L s ++ [32])) ((L w).drop i) = false := by
     rw [Bool.eq_false_iff, ne_eq, jL]
     rintro ⟨_, q⟩
     rw [hb] at q
     exact e q
    rw [this, Bool.false_or]
   rw [this]
   exact ih (i + 1) (by omega) (by omega)
  refine EvTo.neg (by simp; omega) ?_
  rw [kN _ _ (by rw [List.length_drop, hb]; omega)]
  exact EvTo.now
theorem rQ (q : UInt8 → Bool) (l : List UInt8) : (l.takeWhile q).all q = true := by
 induction l with
 | nil => rfl
 | cons a t ih =>
  rw [List.takeWhile_cons]
  split
  ·rename_i h; rw [List.all_cons, h, ih]; rfl
  rfl
theorem nR : ∀ (l x : List UInt8), x ∈ wordsOf l → x.all lQ = true
 | [], x, h => by simp [wordsOf] at h
 | c :: t, x, h => by
  rw [wordsOf] at h
  split at h
  ·rcases List.mem_cons.1 h with rfl | h
   ·exact rQ _ _
   exact nR t x h
  exact nR t x h
theorem Bl (w s : ByteArray) (hs : s.size ≤ 3000) (hw : w.size ≤ 1000) (hn : (wordsOf (L w)).contains [] = false) : ∀ (m i : Nat), s.size = m + i →
 (∀ j, j < i → (L s).getD j 0 ≠ 32) → EvTo (fun k => aX.l0 k w s (s.size : Int) (i : Int)) ((wordsOf (L w)).contains (L s)) := by
 have hL := L_size s
 intro m
 induction m with
 | zero =>
  intro i h1 h2
  refine EvTo.step (fun k => by rw [aX.l0]) (EvTo.neg (by omega) ?_)
  have hall : (L s).all lQ = true := by
   rw [List.all_eq_true]
   intro x hx
   obtain ⟨j, hj, rfl⟩ := List.getElem_of_mem hx
   have := h2 j (by omega)
   rw [List.getD_eq_getElem?_getD, List.getElem?_eq_getElem hj] at this
   simpa [lQ] using this
  rw [w64 (n := (s.size : Int) + 2) (by omega) (by omega), show (s.size : Int) + 2 = ((s.size + 2 : Nat) : Int) by omega]
  by_cases e : s.toList = ([] : List UInt8)
  ·rw [(isE s).1 e, hn]
   refine EvTo.step (fun k => by rw [aX.l1]) (EvTo.pos e ?_)
   exact EvTo.step (fun k => by rw [aX.j2]) (EvTo.neg (by simp) EvTo.now)
  rw [← nV _ hall]
  have := Bj w s hs hw e w.size 0 (by omega) (by omega)
  rw [List.drop_zero] at this
  exact this
 | succ m ih =>
  intro i h1 h2
  refine EvTo.step (fun k => by rw [aX.l0]) (EvTo.pos (by omega) (EvTo.pos (by omega) (EvTo.pos (by omega) ?_)))
  rw [zB, inc i (by omega)]
  have hsplit : ((((L s).getD i 0).toNat : Int) = 32) ↔ (L s).getD i 0 = 32 := iW _ 32
  by_cases c : (L s).getD i 0 = 32
  ·refine EvTo.pos (hsplit.2 c) ?_
   have : (wordsOf (L w)).contains (L s) = false := by
    rw [Bool.eq_false_iff]
    intro h
    have := nR _ _ (List.contains_iff_mem.1 h)
    rw [List.all_eq_true] at this
    have hi : i < (L s).length := by omega
    have := this _ (List.getElem_mem hi)
    rw [List.getD_eq_getElem?_getD, List.getElem?_eq_getElem hi] at c
    simp at c
    rw [c] at this
    exact absurd this (by decide)
   rw [this]
   exact EvTo.now
  refine EvTo.neg (fun h => c (hsplit.1 h)) (ih (i + 1) (by omega) (fun j hj => ?_))
  rcases Nat.eq_or_lt_of_le (Nat.lt_succ_iff.1 hj) with rfl | hj
  ·exact c
  exact h2 j hj
theorem yM (w s : ByteArray) (hs : s.size ≤ 3000) (hw : w.size ≤ 1000) (hn : (wordsOf (L w)).contains [] = false) : EvTo (fun k => aX.f k w s) ((wordsOf (L w)).contains (L s)) := by
 have := Bl w s hs hw hn s.size 0 (by omega) (fun j hj => by omega)
 exact this
/-- What a node of a kind has, and whether there is such a kind; what its number may be. -/
def wJ (a : Int) : Int × Bool :=
 if a = 1 then (5, true) else if a = 2 then (7, true) else if a = 3 ∨ a = 4 ∨ a = 6 ∨ a = 7 ∨ a = 21 then (1, true) else if a = 19 then (4, true) else if a = 20 then (32, true)
 else if a = 23 then (3, true) else if a = 27 then (8, true) else if a = 28 then (16, true) else (0, decide (1 ≤ a ∧ a ≤ 30))
def rangeS (a : Int) : Int × Int := if a = 1 then (1, 2147483647) else if a = 2 then (0, 8) else (0, 9223372036854775807)
theorem wI (a : Int) (b : Bool) (h : b = decide (a = 3 ∨ a = 4 ∨ a = 6 ∨ a = 7 ∨ a = 21)) (h1 : a ≠ 1) (h2 : a ≠ 2) : EvTo (fun k => dh.j0 k a a b) (wJ a) := by
 refine EvTo.step (fun k => by rw [dh.j0]) ?_
 unfold wJ
 rw [if_neg h1, if_neg h2]
 by_cases c : a = 3 ∨ a = 4 ∨ a = 6 ∨ a = 7 ∨ a = 21
 ·rw [if_pos c]
  exact EvTo.pos (by rw [h]; exact decide_eq_true c) EvTo.now
 rw [if_neg c]
 refine EvTo.neg (by rw [h]; simpa using c) ?_
 refine EvTo.both (fun _ => EvTo.now) (fun c1 => EvTo.both (fun _ => EvTo.now) (fun c2 => EvTo.both (fun _ => EvTo.now) (fun c3 => EvTo.both (fun _ => EvTo.now) (fun c4 => EvTo.both (fun _ => EvTo.now) (fun c5 => ?_)))))
 by_cases c6 : a ≥ 1
 ·refine EvTo.pos c6 ?_
  rw [show (decide (1 ≤ a ∧ a ≤ 30)) = decide (a ≤ 30) from by simp; omega]
  exact EvTo.now
 refine EvTo.neg c6 ?_
 rw [show (decide (1 ≤ a ∧ a ≤ 30)) = false from decide_eq_false (by omega)]
 exact EvTo.now
theorem Fh (a : Int) : EvTo (fun k => dh.f k a) (wJ a) := by
 unfold dh.f
 by_cases h1 : a = 1
 ·subst h1; exact EvTo.pos rfl EvTo.now
 refine EvTo.neg h1 ?_
 by_cases h2 : a = 2
 ·subst h2; exact EvTo.pos rfl EvTo.now
 refine EvTo.neg h2 ?_
 by_cases h3 : a = 3
 ·exact EvTo.pos h3 (wI a _ (by simp [h3]) h1 h2)
 refine EvTo.neg h3 ?_
 by_cases h4 : a = 4
 ·exact EvTo.pos h4 (wI a _ (by simp [h4]) h1 h2)
 refine EvTo.neg h4 ?_
 by_cases h5 : a = 6
 ·exact EvTo.pos h5 (wI a _ (by simp [h5]) h1 h2)
 refine EvTo.neg h5 ?_
 by_cases h6 : a = 7
 ·exact EvTo.pos h6 (wI a _ (by simp [h6]) h1 h2)
 refine EvTo.neg h6 (wI a _ ?_ h1 h2)
 rw [Bool.eq_iff_iff, beq_iff_eq, decide_eq_true_eq]; omega
def qm (b m : Int) : Bool := Go.bits .and .i64 b m != 0
def textS (b : Int) (s : ByteArray) : Bool :=
 if Go.bits .and .i64 b 2 = 0 then if Go.bits .and .i64 b 8 = 0 then if Go.bits .and .i64 b 16 = 0 then if Go.bits .and .i64 b 32 = 0 then (L s).isEmpty else decide (s.size ≤ 1024) else UNS.contains (L s) else OPS.contains (L s) else jv (L s)
theorem Ed (b : Int) (s : ByteArray) (hs : s.size ≤ 3000) : EvTo (fun k => dZ.f k b s) (textS b s) := by
 unfold dZ.f textS
 refine EvTo.both (fun _ => EvTo.both (fun _ => EvTo.both (fun _ => EvTo.both (fun _ => EvTo.jM fun k => ?_) (fun _ => EvTo.jM fun k => ?_)) (fun _ => ?_)) (fun _ => ?_)) (fun _ => ?_)
 ·rw [iP]
  cases L s <;> rfl
 ·congr 1
  rw [decide_eq_decide]; omega
 ·have := yM UB s hs (by decide) (by rw [vz]; decide)
  rw [vz] at this
  exact EvTo.bind (G := fun _ t => some t) this EvTo.now
 ·have := yM OB s hs (by decide) (by rw [vC]; decide)
  rw [vC] at this
  exact EvTo.bind (G := fun _ t => some t) this EvTo.now
 exact EvTo.bind (G := fun _ t => some t) (xP s (by omega)) EvTo.now
/-- A node has just what it may. -/
def yA (b : Int) (ok : Bool) (lo hi : Int) (x : S41) : Bool :=
 ok && (textS b x.f4 && ((qm b 1 == jv (L x.f2)) && ((qm b 1 || (L x.f2).isEmpty) && (if Go.bits .and .i64 b 4 = 0 then x.f3 == 0 else decide (lo ≤ x.f3 ∧ x.f3 ≤ hi)))))
def kw (x : S41) : Bool := yA (wJ x.f0).1 (wJ x.f0).2 (rangeS x.f0).1 (rangeS x.f0).2 x
theorem BU (a : Int) : fP.f a = some (rangeS a) := by
 unfold fP.f rangeS
 split
 ·rfl
 split <;> rfl
theorem oZ (x : S41) (b lo hi : Int) (c : Bool) : EvTo (fun k => bf.j1 k b lo hi c x.f0 x.f1 x.f2 x.f3 x.f4) (!c && (if Go.bits .and .i64 b 4 = 0 then x.f3 == 0 else decide (lo ≤ x.f3 ∧ x.f3 ≤ hi))) := by
 refine EvTo.step (fun k => by rw [bf.j1]) ?_
 cases c with
 | true => exact EvTo.pos rfl EvTo.now
 | false =>
  refine EvTo.neg (by simp) ?_
  rw [Bool.not_false, Bool.true_and]
  refine EvTo.both (fun _ => EvTo.now) (fun c4 => ?_)
  by_cases c5 : x.f3 ≥ lo
  ·refine EvTo.pos c5 ?_
   rw [show decide (lo ≤ x.f3 ∧ x.f3 ≤ hi) = decide (x.f3 ≤ hi) from by rw [decide_eq_decide]; omega]
   exact EvTo.now
  refine EvTo.neg c5 ?_
  rw [show decide (lo ≤ x.f3 ∧ x.f3 ≤ hi) = false from decide_eq_false (by omega)]
  exact EvTo.now
theorem tX (x : S41) (h2 : x.f2.size ≤ 3000) (b lo hi : Int) (c : Bool) : EvTo (fun k => bf.j0 k b lo hi c x.f0 x.f1 x.f2 x.f3 x.f4)
 (!c && ((qm b 1 == jv (L x.f2)) && ((qm b 1 || (L x.f2).isEmpty) && (if Go.bits .and .i64 b 4 = 0 then x.f3 == 0 else decide (lo ≤ x.f3 ∧ x.f3 ≤ hi))))) := by
 refine EvTo.step (fun k => by rw [bf.j0]) ?_
 cases c with
 | true => exact EvTo.pos rfl EvTo.now
 | false =>
  refine EvTo.neg (by simp) (EvTo.bind (xP x.f2 (by omega)) ?_)
  rw [Bool.not_false, Bool.true_and]
  by_cases c1 : qm b 1 = jv (L x.f2)
  ·rw [beq_iff_eq.2 c1, Bool.true_and]
   refine EvTo.neg (by unfold qm at c1; rw [c1]; simp) ?_
   by_cases c2 : Go.bits .and .i64 b 1 = 0
   ·refine EvTo.pos c2 ?_
    have hb : qm b 1 = false := by unfold qm; rw [c2]; rfl
    rw [hb, Bool.false_or]
    have := oZ x b lo hi (x.f2.toList != ([] : List UInt8))
    rwa [show (!(x.f2.toList != ([] : List UInt8))) = (L x.f2).isEmpty from by rw [iP]; cases L x.f2 <;> rfl] at this
   refine EvTo.neg c2 ?_
   have hb : qm b 1 = true := by unfold qm; simpa using c2
   rw [hb, Bool.true_or, Bool.true_and]
   have := oZ x b lo hi false
   rwa [Bool.not_false, Bool.true_and] at this
  rw [show (qm b 1 == jv (L x.f2)) = false from beq_eq_false_iff_ne.2 c1, Bool.false_and]
  exact EvTo.pos (by unfold qm at c1; simpa using c1) (oZ x b lo hi true)
theorem AX (x : S41) (h2 : x.f2.size ≤ 3000) (h4 : x.f4.size ≤ 3000) : EvTo (fun k => bf.f k x.f0 x.f1 x.f2 x.f3 x.f4) (kw x) := by
 unfold bf.f kw yA
 refine EvTo.bind (Fh x.f0) ?_
 simp only [BU, Option.bind_some]
 cases hok : (wJ x.f0).2 with
 | false =>
  rw [Bool.false_and]
  exact EvTo.neg (by simp) (tX x h2 _ _ _ true)
 | true =>
  rw [Bool.true_and]
  refine EvTo.pos rfl (EvTo.bind (Ed _ _ h4) ?_)
  have := tX x h2 (wJ x.f0).1 (rangeS x.f0).1 (rangeS x.f0).2 (!textS (wJ x.f0).1 x.f4)
  rwa [Bool.not_not] at this
/-! Kids. -/
def exS (l : List Int) (lo hi : Nat) : Bool := decide (lo ≤ l.length ∧ l.length ≤ hi) && l.all jX
def ifS (hi : Nat) (l : List Int) : Bool := decide (2 ≤ l.length ∧ l.length ≤ hi) && (jX (rd l 0) && (l.drop 1).all (· == 5))
def Df (l : List Int) : Bool := decide (1 ≤ l.length ∧ l.length ≤ 9) && (rd l ((l.length - 1 : Nat) : Int) == 5 && (l.take (l.length - 1)).all (· == 4))
def oD (l : List Int) : Bool := (l.dropWhile (· == 2)).all (· == 3)
def iO (a : Int) (l : List Int) : Bool :=
 if a = 1 then oD l else if a = 3 ∨ a = 24 then Df l else if a = 5 then l.all jJ else if a = 9 then ifS 3 l else if a = 10 then ifS 2 l else if a = 8 then exS l 3 3
 else if a = 6 ∨ a = 7 ∨ a = 13 ∨ a = 14 ∨ a = 15 ∨ a = 17 ∨ a = 28 ∨ a = 30 then exS l 1 1 else if a = 22 then exS l 1 9 else if a = 23 then exS l 0 8 else if a = 26 ∨ a = 27 then exS l 2 2 else decide (l.length = 0)
theorem ni (l : List Int) (lo hi : Nat) : dL.f l (lo : Int) (hi : Int) = some (exS l lo hi) := by
 unfold dL.f exS lY.f
 by_cases c : lo ≤ l.length
 ·rw [if_pos (by omega)]
  by_cases c2 : l.length ≤ hi
  ·rw [if_pos (by omega), decide_eq_true ⟨c, c2⟩]; rfl
  rw [if_neg (by omega), decide_eq_false (by omega)]; rfl
 rw [if_neg (by omega), decide_eq_false (by omega)]; rfl
theorem EY (a : Int) : eP.f a = some (jX a) := by
 unfold eP.f jX
 by_cases c : a ≥ 18
 ·rw [if_pos c]; congr 1; rw [decide_eq_decide]; omega
 rw [if_neg c]; congr 1; symm; exact decide_eq_false (by omega)
theorem xA (l : List Int) (hl : l.length ≤ 200000) : bK.f l = some (Df l) := by
 unfold bK.f Df jh.f
 by_cases c : 1 ≤ l.length
 ·rw [w64 (by omega) (by omega), show (l.length : Int) - 1 = ((l.length - 1 : Nat) : Int) by omega, if_pos (by omega)]
  by_cases c2 : l.length ≤ 9
  ·rw [if_pos (by omega), if_pos (by omega), if_pos (by omega), decide_eq_true ⟨c, c2⟩, Bool.true_and]
   by_cases c3 : rd l ((l.length - 1 : Nat) : Int) = 5
   ·rw [if_pos c3, if_pos (by omega), c3]; rfl
   rw [if_neg c3, show (rd l ((l.length - 1 : Nat) : Int) == 5) = false from beq_eq_false_iff_ne.2 c3]; rfl
  rw [if_neg (by omega), decide_eq_false (by omega)]; rfl
 rw [w64 (by omega) (by omega), if_neg (by omega), decide_eq_false (by omega)]; rfl
theorem Aq (l : List Int) (hl : l.length ≤ 200000) : ∀ (m i : Nat), l.length = m + i → EvTo (fun k => bD.l0 k l (i : Int)) (oD (l.drop i)) := by
 intro m
 induction m with
 | zero =>
  intro i h
  refine EvTo.step (fun k => by rw [bD.l0]) (EvTo.neg (by omega) (EvTo.pos (by omega) (EvTo.pos (by omega) ?_)))
  rw [Int.toNat_natCast, List.drop_eq_nil_of_le (by omega)]
  exact EvTo.now
 | succ m ih =>
  intro i h
  have hi : i < l.length := by omega
  have hrd : rd l (i : Int) = l[i] := by simp [rd, List.getD_eq_getElem?_getD, List.getElem?_eq_getElem hi]
  refine EvTo.step (fun k => by rw [bD.l0]) (EvTo.pos (by omega) (EvTo.pos (by omega) ?_))
  rw [hrd, inc i (by omega)]
  by_cases c : l[i] = 2
  ·refine EvTo.pos c ?_
   rw [show oD (l.drop i) = oD (l.drop (i + 1)) from by unfold oD; rw [List.drop_eq_getElem_cons hi, List.dropWhile_cons, if_pos (by rw [c]; rfl)]]
   exact ih (i + 1) (by omega)
  refine EvTo.neg c (EvTo.pos (by omega) ?_)
  rw [Int.toNat_natCast, show oD (l.drop i) = (l.drop i).all (· == 3) from by unfold oD; rw [List.drop_eq_getElem_cons hi, List.dropWhile_cons, if_neg (by simpa using c)]]
  exact EvTo.now
theorem Aw (l : List Int) (hl : l.length ≤ 200000) : EvTo (fun k => bD.f k l) (oD l) := by
 have := Aq l hl l.length 0 (by omega)
 exact this
theorem pM {α : Type} {F : Nat → Option α} {v : α} (h : EvTo F v) : EvTo (fun k => (F k).bind fun t => some t) v := EvTo.bind h EvTo.now
theorem CU (a : Int) (l : List Int) (hl : l.length ≤ 200000) (b : Bool) (hb : b = decide (a = 6 ∨ a = 7 ∨ a = 13 ∨ a = 14 ∨ a = 15 ∨ a = 17 ∨ a = 28 ∨ a = 30)) (h1 : a ≠ 1) (h2 : ¬ (a = 3 ∨ a = 24)) (h3 : a ≠ 5) (h4 : a ≠ 9) (h5 : a ≠ 10) (h6 : a ≠ 8) :
 EvTo (fun k => aI.j2 k l (l.length : Int) a b) (iO a l) := by
 unfold iO
 rw [if_neg h1, if_neg h2, if_neg h3, if_neg h4, if_neg h5, if_neg h6]
 refine EvTo.step (fun k => by rw [aI.j2]) ?_
 by_cases c : a = 6 ∨ a = 7 ∨ a = 13 ∨ a = 14 ∨ a = 15 ∨ a = 17 ∨ a = 28 ∨ a = 30
 ·rw [if_pos c]
  exact EvTo.pos Z72 (pM (EvTo.jM fun k => ni l 1 1))
 rw [if_neg c]
 refine EvTo.neg (by rw [hb]; simpa using c) ?_
 refine EvTo.both (fun _ => pM (EvTo.jM fun k => ni l 1 9)) (fun _ => EvTo.both (fun _ => pM (EvTo.jM fun k => ni l 0 8)) (fun _ => ?_))
 by_cases c3 : a = 26
 ·rw [if_pos (Or.inl c3)]; exact EvTo.pos c3 (pM (EvTo.jM fun k => ni l 2 2))
 refine EvTo.neg c3 ?_
 by_cases c4 : a = 27
 ·rw [if_pos (Or.inr c4)]; exact EvTo.pos c4 (pM (EvTo.jM fun k => ni l 2 2))
 rw [if_neg (show ¬ (a = 26 ∨ a = 27) by omega)]
 refine EvTo.neg c4 (EvTo.jM fun k => ?_)
 congr 1
 rw [Bool.eq_iff_iff, beq_iff_eq, decide_eq_true_eq]; omega
theorem DI {F : Nat → Option Bool} (l : List Int) (hi : Nat) (hF : ∀ k, F k = if (l.length : Int) ≥ 2 then (if (l.length : Int) ≤ (hi : Int) then (if 0 < (l.length : Int) then ((eP.f (rd l 0)).bind fun t153 => (if t153 = true then (if 1 ≤ (l.length : Int) then ((jh.f (l.drop 1) 5).bind fun t155 => (some t155)) else (none)) else (some false))) else (none)) else (some false)) else (some false)) :
 EvTo F (ifS hi l) := by
 refine EvTo.jM fun k => ?_
 rw [hF]
 unfold ifS
 by_cases c : 2 ≤ l.length
 ·rw [if_pos (by omega)]
  by_cases c2 : l.length ≤ hi
  ·rw [if_pos (by omega), if_pos (by omega), EY, decide_eq_true ⟨c, c2⟩, Bool.true_and, Option.bind_some]
   cases jX (rd l 0)
   ·rfl
   rw [if_pos rfl, if_pos (by omega)]; rfl
  rw [if_neg (by omega), decide_eq_false (by omega)]; rfl
 rw [if_neg (by omega), decide_eq_false (by omega)]; rfl
theorem yw (a : Int) (l : List Int) (hl : l.length ≤ 200000) (b : Bool) (hb : b = decide (a = 9 ∨ a = 10)) (h1 : a ≠ 1) (h2 : ¬ (a = 3 ∨ a = 24)) (h3 : a ≠ 5) :
 EvTo (fun k => aI.j1 k a l (l.length : Int) a b) (iO a l) := by
 refine EvTo.step (fun k => by rw [aI.j1]) ?_
 by_cases c1 : a = 9
 ·rw [show iO a l = ifS 3 l from by unfold iO; rw [if_neg h1, if_neg h2, if_neg h3, if_pos c1]]
  exact EvTo.pos (by rw [hb]; exact decide_eq_true (.inl c1)) (EvTo.pos c1 (DI l 3 (fun k => rfl)))
 by_cases c2 : a = 10
 ·rw [show iO a l = ifS 2 l from by unfold iO; rw [if_neg h1, if_neg h2, if_neg h3, if_neg c1, if_pos c2]]
  exact EvTo.pos (by rw [hb]; exact decide_eq_true (.inr c2)) (EvTo.neg c1 (DI l 2 (fun k => rfl)))
 refine EvTo.neg (by rw [hb]; simp [c1, c2]) ?_
 by_cases c3 : a = 8
 ·refine EvTo.pos c3 ?_
  rw [show iO a l = exS l 3 3 from by unfold iO; rw [if_neg h1, if_neg h2, if_neg h3, if_neg c1, if_neg c2, if_pos c3]]
  exact pM (EvTo.jM fun k => ni l 3 3)
 refine EvTo.neg c3 ?_
 have go : ∀ b : Bool, b = decide (a = 6 ∨ a = 7 ∨ a = 13 ∨ a = 14 ∨ a = 15 ∨ a = 17 ∨ a = 28 ∨ a = 30) → EvTo (fun k => aI.j2 k l (l.length : Int) a b) (iO a l) := fun b hb => CU a l hl b hb h1 h2 h3 c1 c2 c3
 by_cases d1 : a = 6
 ·exact EvTo.pos d1 (go _ (by simp [d1]))
 refine EvTo.neg d1 ?_
 by_cases d2 : a = 7
 ·exact EvTo.pos d2 (go _ (by simp [d2]))
 refine EvTo.neg d2 ?_
 by_cases d3 : a = 13
 ·exact EvTo.pos d3 (go _ (by simp [d3]))
 refine EvTo.neg d3 ?_
 by_cases d4 : a = 14
 ·exact EvTo.pos d4 (go _ (by simp [d4]))
 refine EvTo.neg d4 ?_
 by_cases d5 : a = 15
 ·exact EvTo.pos d5 (go _ (by simp [d5]))
 refine EvTo.neg d5 ?_
 by_cases d6 : a = 17
 ·exact EvTo.pos d6 (go _ (by simp [d6]))
 refine EvTo.neg d6 ?_
 by_cases d7 : a = 28
 ·exact EvTo.pos d7 (go _ (by simp [d7]))
 exact EvTo.neg d7 (go _ Z73)
theorem yx (a : Int) (l : List Int) (hl : l.length ≤ 200000) (b : Bool) (hb : b = decide (a = 3 ∨ a = 24)) (h1 : a ≠ 1) : EvTo (fun k => aI.j0 k a l (l.length : Int) a b) (iO a l) := by
 refine EvTo.step (fun k => by rw [aI.j0]) ?_
 by_cases c : a = 3 ∨ a = 24
 ·refine EvTo.pos Z72 ?_
  rw [show iO a l = Df l from by unfold iO; rw [if_neg h1, if_pos c]]
  exact pM (EvTo.jM fun k => xA l hl)
 refine EvTo.neg (by rw [hb]; simpa using c) ?_
 by_cases c1 : a = 5
 ·refine EvTo.pos c1 ?_
  rw [show iO a l = l.all jJ from by unfold iO; rw [if_neg h1, if_neg c, if_pos c1]]
  exact EvTo.now
 refine EvTo.neg c1 ?_
 by_cases d1 : a = 9
 ·exact EvTo.pos d1 (yw a l hl _ (by simp [d1]) h1 c c1)
 exact EvTo.neg d1 (yw a l hl _ Z73 h1 c c1)
theorem E8 (a : Int) (l : List Int) (hl : l.length ≤ 200000) : EvTo (fun k => aI.f k a l) (iO a l) := by
 unfold aI.f
 by_cases c : a = 1
 ·refine EvTo.pos c ?_
  rw [show iO a l = oD l from by unfold iO; rw [if_pos c]]
  exact pM (Aw l hl)
 refine EvTo.neg c ?_
 by_cases d1 : a = 3
 ·exact EvTo.pos d1 (yx a l hl _ (by simp [d1]) c)
 exact EvTo.neg d1 (yx a l hl _ Z73 c)
end Go.Proofs.Ytendgafpkeadhaa.Tree
end
section
set_option linter.unusedVariables false
set_option linter.unusedSimpArgs false
namespace Go.Proofs.Ytendgafpkeadhaa.Tree
open Go Go.RowKit Go.Proofs.YtendgafpkeadhaaW.PrintWords Go.Proofs.Ytendgafpkeadhaa.Q Go.Proofs.Ytendgafpkeadhaa.Lex
/-- The kinds of a node's kids. -/
def xm (l : List S41) (i : Nat) : List Int := (its l (rd_T41 l (i : Int)).f1.toNat ((i + 1 : Nat) : Int)).map fun p => (rd_T41 l p).f0
def pY (l : List S41) (i : Nat) : Bool := kw (rd_T41 l (i : Int)) && iO (rd_T41 l (i : Int)).f0 (xm l i)
/-- The first node from a place on that is not right; so many are left. -/
def xM (l : List S41) : Nat → Nat → Int × Int
 | 0, _ => (0, 0)
 | m + 1, i => if pY l i then xM l m (i + 1) else (4, (i : Int))
def qJ (l : List S41) : Bool := decide (gB l.length l 1 = some l.length)
def checkS (l : List S41) : Int × Int :=
 if 2000 < l.length then (3, 0) else if qJ l = false then (2, 0) else if 60 < mg l [] 0 then (3, 0) else if (rd_T41 l 0).f0 ≠ 1 then (4, 0) else xM l l.length 0
/-- Names and texts are short. -/
def short (l : List S41) : Prop := ∀ x ∈ l, x.f2.size ≤ 3000 ∧ x.f4.size ≤ 3000
theorem zS {l : List S41} (h : short l) (i : Nat) (hi : i < l.length) : (rd_T41 l (i : Int)).f2.size ≤ 3000 ∧ (rd_T41 l (i : Int)).f4.size ≤ 3000 := by
 rw [rd36 l i hi]
 exact h _ (List.getElem_mem hi)
theorem BJ (l : List S41) (hl : l.length ≤ 100000) (hs : short l) (i : Nat) (hi : i < l.length) (ks : List Int) (hks : ks.length ≤ 100000) (hk : ∀ q ∈ ks, 0 ≤ q ∧ q < (l.length : Int)) (v : Int × Int)
 (hnext : EvTo (fun k => aV.l0 k l l (l.length : Int) ((i + 1 : Nat) : Int)) v) : ∀ (m idx : Nat) (acc : List Int), ks.length = m + idx → acc.length = idx →
 EvTo (fun k => aV.l1 k l (i : Int) acc l (l.length : Int) (i : Int) ks (ks.length : Int) (idx : Int) (rd_T41 l (i : Int)).f0 (rd_T41 l (i : Int)).f1 (rd_T41 l (i : Int)).f2 (rd_T41 l (i : Int)).f3 (rd_T41 l (i : Int)).f4)
  (if kw (rd_T41 l (i : Int)) && iO (rd_T41 l (i : Int)).f0 (acc ++ (ks.drop idx).map fun p => (rd_T41 l p).f0) then v else (4, (i : Int))) := by
 obtain ⟨h2, h4⟩ := zS hs i hi
 intro m
 induction m with
 | zero =>
  intro idx acc h1 ha
  refine EvTo.step (fun k => by rw [aV.l1]) ?_
  refine EvTo.neg (by omega) ?_
  rw [List.drop_eq_nil_of_le (by omega), List.map_nil, List.append_nil]
  refine EvTo.bind (AX _ h2 h4) ?_
  cases kw (rd_T41 l (i : Int)) with
  | false => exact EvTo.neg (by simp) EvTo.now
  | true =>
   refine EvTo.pos rfl (EvTo.bind (E8 _ acc (by omega)) ?_)
   rw [Bool.true_and]
   cases iO (rd_T41 l (i : Int)).f0 acc with
   | false => exact EvTo.neg (by simp) EvTo.now
   | true =>
    refine EvTo.pos rfl ?_
    rw [inc i (by omega)]
    exact hnext
 | succ m ih =>
  intro idx acc h1 ha
  have hx : idx < ks.length := by omega
  have hrd : rd ks (idx : Int) = ks[idx] := by simp [rd, List.getD_eq_getElem?_getD, List.getElem?_eq_getElem hx]
  have hq := hk _ (List.getElem_mem hx)
  refine EvTo.step (fun k => by rw [aV.l1]) ?_
  refine EvTo.pos (by omega) (EvTo.pos (by omega) (EvTo.pos (by omega) ?_))
  rw [hrd, inc idx (by omega)]
  refine EvTo.pos hq.1 (EvTo.pos hq.2 (EvTo.pos (by omega) ?_))
  have := ih (idx + 1) (acc ++ [(rd_T41 l ks[idx]).f0]) (by omega) (by simp [ha])
  rw [List.append_assoc] at this
  rw [List.drop_eq_getElem_cons hx, List.map_cons]
  exact this
theorem BL (l : List S41) (hl : l.length ≤ 100000) (hs : short l) (hw : gB l.length l 1 = some l.length) : ∀ (m i : Nat), l.length = m + i → EvTo (fun k => aV.l0 k l l (l.length : Int) (i : Int)) (xM l m i) := by
 intro m
 induction m with
 | zero =>
  intro i h1
  refine EvTo.step (fun k => by rw [aV.l0]) ?_
  exact EvTo.neg (by omega) EvTo.now
 | succ m ih =>
  intro i h1
  have hi : i < l.length := by omega
  obtain ⟨hK, hK1, hK2⟩ := xR hl hw i hi
  refine EvTo.step (fun k => by rw [aV.l0]) ?_
  refine EvTo.pos (by omega) (EvTo.pos (by omega) (EvTo.pos (by omega) (EvTo.bind hK ?_)))
  have := BJ l hl hs i hi _ hK1 (fun q hq => by have := hK2 q hq; omega) _ (ih (i + 1) (by omega)) _ 0 [] rfl rfl
  rw [List.drop_zero, List.nil_append] at this
  exact this
theorem sU {l : List S41} : iZ l 0 = (l.length : Int) ∧ l ≠ [] ↔ gB l.length l 1 = some l.length := by
 unfold iZ
 rw [if_neg (by omega), Int.toNat_zero, List.drop_zero]
 cases h : gB l.length l 1 with
 | none =>
  simp only [pg]; constructor; · intro h; omega
  intro h; cases h
 | some m =>
  have := uJ _ _ _ _ h
  simp only [pg, Option.some.injEq]
  constructor
  ·intro h; omega
  intro h; exact ⟨by omega, by rintro rfl; simp at this; omega⟩
theorem D6 (l : List S41) (hl : l.length ≤ 100000) (hs : short l) : EvTo (fun k => aV.f k l) (checkS l) := by
 unfold aV.f checkS
 by_cases c : 2000 < l.length
 ·rw [if_pos c]; exact EvTo.pos (by omega) EvTo.now
 rw [if_neg c]
 refine EvTo.neg (by omega) ?_
 by_cases c1 : l = []
 ·subst c1
  refine EvTo.pos rfl (EvTo.step (fun k => by rw [aV.j0]) (EvTo.pos rfl ?_))
  exact EvTo.now
 have hlen : l.length ≠ 0 := fun h => c1 (List.eq_nil_of_length_eq_zero h)
 refine EvTo.neg (by omega) (EvTo.bind (uk l hl 0) ?_)
 by_cases hw : gB l.length l 1 = some l.length
 ·rw [show qJ l = true from decide_eq_true hw, if_neg (by simp)]
  refine EvTo.step (fun k => by rw [aV.j0]) ?_
  refine EvTo.neg (by rw [(sU.2 hw).1]; simp) ?_
  have hwb : nS l l.length = true := yS l l.length (Nat.le_refl _) (fun q hq => by
   obtain ⟨m', _, e⟩ := yD _ _ _ _ q hw (Nat.le_refl 1) hq
   rw [e]; rfl)
  have hd := D5 l hl
  rw [hwb, if_pos rfl] at hd
  refine EvTo.bind hd ?_
  by_cases c2 : 60 < mg l [] 0
  ·rw [if_pos c2]; exact EvTo.pos (by omega) EvTo.now
  rw [if_neg c2]
  refine EvTo.neg (by omega) (EvTo.pos (by omega) ?_)
  by_cases c3 : (rd_T41 l 0).f0 = 1
  ·rw [if_neg (fun q => q c3)]
   exact EvTo.pos c3 (BL l hl hs hw l.length 0 (by omega))
  rw [if_pos c3]
  exact EvTo.neg c3 EvTo.now
 rw [show qJ l = false from decide_eq_false hw, if_pos rfl]
 refine EvTo.step (fun k => by rw [aV.j0]) ?_
 refine EvTo.pos ?_ EvTo.now
 rw [bne_iff_ne]
 intro e
 exact hw (sU.1 ⟨e, c1⟩)
/-- Of nodes that are right each one is. -/
theorem zC (l : List S41) : ∀ (m i : Nat), (xM l m i).1 = 0 → ∀ j, i ≤ j → j < i + m → pY l j = true := by
 intro m
 induction m with
 | zero => intro i _ j h1 h2; omega
 | succ m ih =>
  intro i h j h1 h2
  simp only [xM] at h
  split at h
  ·rename_i hg
   rcases Nat.eq_or_lt_of_le h1 with rfl | h1
   ·exact hg
   exact ih (i + 1) h j h1 (by omega)
  simp at h
theorem checkS_ok {l : List S41} (h : (checkS l).1 = 0) : l.length ≤ 2000 ∧ gB l.length l 1 = some l.length ∧ mg l [] 0 ≤ 60 ∧ (rd_T41 l 0).f0 = 1 ∧ ∀ i, i < l.length → pY l i = true := by
 unfold checkS at h
 split at h
 ·cases h
 split at h
 ·cases h
 split at h
 ·cases h
 split at h
 ·cases h
 rename_i h1 h2 h3 h4
 refine ⟨by omega, ?_, by omega, by simpa using h4, fun i hi => zC l l.length 0 h i (Nat.zero_le _) (by omega)⟩
 unfold qJ at h2
 simpa using h2
end Go.Proofs.Ytendgafpkeadhaa.Tree
end
section
set_option linter.unusedVariables false
set_option linter.unusedSimpArgs false
namespace Go.Proofs.Ytendgafpkeadhaa.Par
open Go Go.RowKit Go.Proofs.YtendgafpkeadhaaW.PrintWords Go.Proofs.Ytendgafpkeadhaa.Q Go.Proofs.Ytendgafpkeadhaa.Lex Go.Proofs.Ytendgafpkeadhaa.Tree
/-- What a reading comes to: a tree with which nothing is wrong; or no tree, a fault and its place. -/
def Reads (M : Nat) (F : Nat → Option (List S41 × Int × Int)) : Prop := ∃ l e a, EvTo F (l, e, a) ∧ (e = 0 → a = 0 ∧ EvTo (fun k => aV.f k l) (0, 0)) ∧ (e ≠ 0 → l = [] ∧ 0 ≤ a ∧ a ≤ (M : Int))
end Go.Proofs.Ytendgafpkeadhaa.Par
end
section
set_option linter.unusedVariables false
set_option linter.unusedSimpArgs false
namespace Go.Proofs.Ytendgafpkeadhaa.Par
open Go Go.RowKit Go.Proofs.YtendgafpkeadhaaW.PrintWords Go.Proofs.Ytendgafpkeadhaa.Q Go.Proofs.Ytendgafpkeadhaa.Lex Go.Proofs.Ytendgafpkeadhaa.Tree
/-- A token without its place. -/
def core (t : S38) : Int × ByteArray × Int := (t.f0, t.f1, t.f2)
abbrev Sim (l l' : List S38) : Prop := l.map core = l'.map core
theorem Sim.len {l l' : List S38} (h : Sim l l') : l.length = l'.length := by have := congrArg List.length h; simpa using this
theorem Sim.nil {l : List S38} (h : Sim [] l) : l = [] := by have := h.len; exact List.length_eq_zero_iff.1 this.symm
theorem Sim.cons {t : S38} {u l : List S38} (h : Sim (t :: u) l) : ∃ t' u', l = t' :: u' ∧ core t = core t' ∧ Sim u u' := by
 cases l with
 | nil => cases h
 | cons t' u' => exact ⟨t', u', rfl, (List.cons.inj h).1, (List.cons.inj h).2⟩
theorem fM {t t' : S38} (h : core t = core t') : t.f0 = t'.f0 ∧ t.f1 = t'.f1 ∧ t.f2 = t'.f2 := by
 unfold core at h
 simp only [Prod.mk.injEq] at h
 exact h
theorem oL {t t' : S38} {u u' : List S38} (h : core t = core t') : wB (t :: u) = wB (t' :: u') := by
 obtain ⟨h1, h2, _⟩ := fM h
 show (if t.f0 = 5 ∨ t.f0 = 4 then t.f1 else E) = (if t'.f0 = 5 ∨ t'.f0 = 4 then t'.f1 else E)
 rw [h1, h2]
theorem sW {r T b : List S38} (h : r <:+ T ++ b) (hl : b.length ≤ r.length) : ∃ T2, r = T2 ++ b := by
 have := List.suffix_of_suffix_length_le (List.suffix_append T b) h hl
 obtain ⟨s, hs⟩ := this
 exact ⟨s, hs.symm⟩
theorem mX {T b : List S38} (h : T ++ b <:+ b) : T = [] := by
 have := h.length_le
 rw [List.length_append] at this
 exact List.length_eq_zero_iff.1 (by omega)
/-- What is read hangs on what is passed; on what stands behind it only as far as C says. -/
structure Loc {α : Type} (C : List S38 → List S38 → Prop) (P : Ps α) : Prop where
 suf : ∀ l x r, P l = .ok (x, r) → r <:+ l
 sufE : ∀ l r, P l = .error (some r) → r <:+ l
 ok : ∀ T T' b b' x T2, Sim T T' → (T2 = [] → C b b') → P (T ++ b) = .ok (x, T2 ++ b) → ∃ T2', Sim T2 T2' ∧ P (T' ++ b') = .ok (x, T2' ++ b')
 er : ∀ T T' b b' T2, Sim T T' → T2 ≠ [] → P (T ++ b) = .error (some (T2 ++ b)) → ∃ T2', Sim T2 T2' ∧ P (T' ++ b') = .error (some (T2' ++ b'))
/-- Something is passed. -/
def Cns {α : Type} (P : Ps α) : Prop := ∀ l x r, P l = .ok (x, r) → r.length < l.length
structure LC {α : Type} (C : List S38 → List S38 → Prop) (P : Ps α) : Prop where
 loc : Loc C P
 cns : Cns P
abbrev Tr : List S38 → List S38 → Prop := fun _ _ => True
theorem eH {α β : Type} {P : Ps α} {f : α → Ps β} {l : List S38} {y : β} {r : List S38} (h : bnd P f l = .ok (y, r)) : ∃ x s, P l = .ok (x, s) ∧ f x s = .ok (y, r) := by
 unfold bnd at h
 match hp : P l, h with
 | .ok (x, s), h => exact ⟨x, s, rfl, h⟩
 | .error e, h => cases h
theorem rP {α β : Type} {P : Ps α} {f : α → Ps β} {l : List S38} {r : List S38} (h : bnd P f l = .error (some r)) : P l = .error (some r) ∨ ∃ x s, P l = .ok (x, s) ∧ f x s = .error (some r) := by
 unfold bnd at h
 match hp : P l, h with
 | .ok (x, s), h => exact Or.inr ⟨x, s, rfl, h⟩
 | .error e, h => exact Or.inl (by simpa using h)
theorem jE {α β : Type} {P : Ps α} {f : α → Ps β} {l s : List S38} {x : α} (h : P l = .ok (x, s)) : bnd P f l = f x s := by
 unfold bnd; rw [h]
theorem yH {α β : Type} {P : Ps α} {f : α → Ps β} {l s : List S38} (h : P l = .error (some s)) : bnd P f l = .error (some s) := by
 unfold bnd; rw [h]
theorem Loc.gen {α β : Type} {C1 C2 : List S38 → List S38 → Prop} {P : Ps α} {f : α → Ps β} (hp : Loc C1 P) (hf : ∀ x, Loc C2 (f x)) (hc : (∀ b b', C2 b b' → C1 b b') ∨ ∀ x, Cns (f x)) : Loc C2 (bnd P f) where
 suf l y r h := by
  obtain ⟨x, s, h1, h2⟩ := eH h
  exact ((hf x).suf _ _ _ h2).trans (hp.suf _ _ _ h1)
 sufE l r h := by
  rcases rP h with h1 | ⟨x, s, h1, h2⟩
  ·exact hp.sufE _ _ h1
  exact ((hf x).sufE _ _ h2).trans (hp.suf _ _ _ h1)
 ok T T' b b' y T3 hs hC h := by
  obtain ⟨x, s, h1, h2⟩ := eH h
  have s1 := hp.suf _ _ _ h1
  have s2 := (hf x).suf _ _ _ h2
  obtain ⟨T2, rfl⟩ := sW s1 (Nat.le_trans (by simp) s2.length_le)
  have hC1 : T2 = [] → C1 b b' := by
   rintro rfl
   rcases hc with hc | hc
   ·exact hc _ _ (hC (mX s2))
   have := hc x _ _ _ h2
   simp at this
   omega
  obtain ⟨T2', g1, g2⟩ := hp.ok T T' b b' x T2 hs hC1 h1
  obtain ⟨T3', e1, e2⟩ := (hf x).ok T2 T2' b b' y T3 g1 hC h2
  exact ⟨T3', e1, by rw [jE g2]; exact e2⟩
 er T T' b b' T3 hs hT h := by
  rcases rP h with h1 | ⟨x, s, h1, h2⟩
  ·obtain ⟨T2', g1, g2⟩ := hp.er T T' b b' T3 hs hT h1
   exact ⟨T2', g1, yH g2⟩
  have s1 := hp.suf _ _ _ h1
  have s2 := (hf x).sufE _ _ h2
  obtain ⟨T2, rfl⟩ := sW s1 (Nat.le_trans (by simp) s2.length_le)
  have hne : T2 ≠ [] := by rintro rfl; exact hT (mX s2)
  obtain ⟨T2', g1, g2⟩ := hp.ok T T' b b' x T2 hs (fun h => absurd h hne) h1
  obtain ⟨T3', e1, e2⟩ := (hf x).er T2 T2' b b' T3 g1 hT h2
  exact ⟨T3', e1, by rw [jE g2]; exact e2⟩
theorem Cns.left {α β : Type} {C : List S38 → List S38 → Prop} {P : Ps α} {f : α → Ps β} (hp : Cns P) (hf : ∀ x, Loc C (f x)) : Cns (bnd P f) := fun l y r h => by
 obtain ⟨x, s, h1, h2⟩ := eH h
 have := hp _ _ _ h1
 have := ((hf x).suf _ _ _ h2).length_le
 omega
theorem Cns.right {α β : Type} {C : List S38 → List S38 → Prop} {P : Ps α} {f : α → Ps β} (hp : Loc C P) (hf : ∀ x, Cns (f x)) : Cns (bnd P f) := fun l y r h => by
 obtain ⟨x, s, h1, h2⟩ := eH h
 have := hf _ _ _ _ h2
 have := (hp.suf _ _ _ h1).length_le
 omega
variable {α β : Type} {C C1 C2 : List S38 → List S38 → Prop}
/-- Behind what passes something, what passes something. -/
theorem LC.b1 {P : Ps α} {f : α → Ps β} (hp : LC C1 P) (hf : ∀ x, LC C2 (f x)) : LC C2 (bnd P f) := ⟨hp.loc.gen (fun x => (hf x).loc) (Or.inr fun x => (hf x).cns), Cns.left hp.cns fun x => (hf x).loc⟩
theorem LC.b2 {P : Ps α} {f : α → Ps β} (hp : LC C1 P) (hf : ∀ x, Loc C2 (f x)) (hc : ∀ b b', C2 b b' → C1 b b') : LC C2 (bnd P f) := ⟨hp.loc.gen hf (Or.inl hc), Cns.left hp.cns hf⟩
theorem LC.b3 {P : Ps α} {f : α → Ps β} (hp : LC Tr P) (hf : ∀ x, Loc C2 (f x)) : LC C2 (bnd P f) := hp.b2 hf fun _ _ _ => trivial
theorem LC.weak {P : Ps α} (hp : LC Tr P) : LC C P := ⟨⟨hp.loc.suf, hp.loc.sufE, fun T T' b b' x T2 h1 _ h2 => hp.loc.ok T T' b b' x T2 h1 (fun _ => trivial) h2, hp.loc.er⟩, hp.cns⟩
theorem Loc.ret (a : α) : Loc C (ret a) where
 suf l x r h := by cases h; exact List.suffix_refl _
 sufE l r h := by cases h
 ok T T' b b' x T2 hs hC h := by
  unfold Par.ret at h ⊢
  simp only [Except.ok.injEq, Prod.mk.injEq, List.append_cancel_right_eq] at h
  obtain ⟨rfl, rfl⟩ := h
  exact ⟨T', hs, rfl⟩
 er T T' b b' T2 hs hT h := by cases h
theorem LC.out : LC C (out : Ps α) where
 loc := { suf := fun l x r h => (by cases h), sufE := fun l r h => (by cases h), ok := fun T T' b b' x T2 _ _ h => (by cases h), er := fun T T' b b' T2 _ _ h => (by cases h) }
 cns l x r h := by cases h
theorem LC.fail : LC C (fun l => (.error (some l) : R α)) where
 loc := { suf := fun l x r h => (by cases h), sufE := fun l r h => (by cases h; exact List.suffix_refl _), ok := fun T T' b b' x T2 _ _ h => (by cases h), er := fun T T' b b' T2 hs _ h => (by
  simp only [Except.error.injEq, Option.some.injEq, List.append_cancel_right_eq] at h
  subst h
  exact ⟨T', hs, rfl⟩) }
 cns l x r h := by cases h
theorem LC.tk : LC C tk := by
 refine ⟨⟨fun l x r h => ?_, fun l r h => ?_, fun T T' b b' x T2 hs hC h => ?_, fun T T' b b' T2 hs hT h => ?_⟩, fun l x r h => ?_⟩
 ·cases l with
  | nil => cases h
  | cons t u => cases h; exact List.suffix_cons _ _
 ·cases l <;> cases h
 ·cases T with
  | nil =>
   cases b with
   | nil => cases h
   | cons t u =>
    have := congrArg (fun z : R Unit => match z with | .ok (_, r) => r.length | _ => 0) h
    simp [Par.tk] at this
    omega
  | cons t u =>
   obtain ⟨t', u', rfl, h1, h2⟩ := hs.cons
   simp only [Par.tk, List.cons_append, Except.ok.injEq, Prod.mk.injEq, List.append_cancel_right_eq, true_and] at h ⊢
   subst h
   exact ⟨u', h2, rfl⟩
 ·cases hl : T ++ b with
  | nil => rw [hl] at h; cases h
  | cons t u => rw [hl] at h; cases h
 cases l with
 | nil => cases h
 | cons t u => cases h; simp
theorem LC.head {G : ByteArray → Ps α} (h : ∀ w, LC C (G w)) : LC C (fun l => G (wB l) l) := by
 refine ⟨⟨fun l x r => (h _).loc.suf l x r, fun l r => (h _).loc.sufE l r, fun T T' b b' x T2 hs hC e => ?_, fun T T' b b' T2 hs hT e => ?_⟩, fun l x r => (h _).cns l x r⟩
 ·cases T with
  | nil =>
   have := (h _).cns _ _ _ e
   simp at this
   omega
  | cons t u =>
   obtain ⟨t', u', rfl, h1, h2⟩ := hs.cons
   rw [List.cons_append, oL (u' := u' ++ b') h1, ← List.cons_append] at e
   exact (h _).loc.ok _ _ b b' x T2 hs hC e
 cases T with
 | nil => exact absurd (mX ((h _).loc.sufE _ _ e)) hT
 | cons t u =>
  obtain ⟨t', u', rfl, h1, h2⟩ := hs.cons
  rw [List.cons_append, oL (u' := u' ++ b') h1, ← List.cons_append] at e
  exact (h _).loc.er _ _ b b' T2 hs hT e
theorem Loc.head {G : ByteArray → Ps α} (h : ∀ w, Loc C (G w)) (hd : ∀ b b' x, C b b' → G (wB b) b = .ok (x, b) → G (wB b') b' = .ok (x, b')) : Loc C (fun l => G (wB l) l) := by
 refine ⟨fun l x r => (h _).suf l x r, fun l r => (h _).sufE l r, fun T T' b b' x T2 hs hC e => ?_, fun T T' b b' T2 hs hT e => ?_⟩
 ·cases T with
  | nil =>
   obtain rfl := hs.nil
   obtain rfl := mX ((h _).suf _ _ _ e)
   exact ⟨[], rfl, hd b b' x (hC rfl) e⟩
  | cons t u =>
   obtain ⟨t', u', rfl, h1, h2⟩ := hs.cons
   rw [List.cons_append, oL (u' := u' ++ b') h1, ← List.cons_append] at e
   exact (h _).ok _ _ b b' x T2 hs hC e
 cases T with
 | nil => exact absurd (mX ((h _).sufE _ _ e)) hT
 | cons t u =>
  obtain ⟨t', u', rfl, h1, h2⟩ := hs.cons
  rw [List.cons_append, oL (u' := u' ++ b') h1, ← List.cons_append] at e
  exact (h _).er _ _ b b' T2 hs hT e
theorem LC.ite {c : Prop} [Decidable c] {P Q : Ps α} (h1 : c → LC C P) (h2 : ¬c → LC C Q) : LC C (fun l => if c then P l else Q l) := by
 by_cases h : c
 ·simp only [if_pos h]; exact h1 h
 simp only [if_neg h]; exact h2 h
theorem Loc.ite {c : Prop} [Decidable c] {P Q : Ps α} (h1 : c → Loc C P) (h2 : ¬c → Loc C Q) : Loc C (fun l => if c then P l else Q l) := by
 by_cases h : c
 ·simp only [if_pos h]; exact h1 h
 simp only [if_neg h]; exact h2 h
theorem LC.must (w : List UInt8) (hw : w ≠ []) : LC C (must w) := by
 have : LC C (fun l => (fun (v : ByteArray) (l : List S38) => if v.toList = w then bnd Par.tk (fun _ => Par.ret ()) l else (.error (some l) : R Unit)) (wB l) l) := LC.head (G := fun (v : ByteArray) (l : List S38) => if v.toList = w then bnd Par.tk (fun _ => Par.ret ()) l else (.error (some l) : R Unit)) fun v => LC.ite (fun _ => LC.tk.b3 fun _ => Loc.ret ()) (fun _ => LC.fail)
 have e : Par.must w = (fun l => (fun (v : ByteArray) (l : List S38) => if v.toList = w then bnd Par.tk (fun _ => Par.ret ()) l else (.error (some l) : R Unit)) (wB l) l) := by
  funext l
  unfold Par.must
  by_cases c : wd l = w
  ·rw [if_pos c]
   show _ = if wd l = w then _ else _
   rw [if_pos c]
   cases l with
   | nil => exact absurd (qK.symm.trans c).symm hw
   | cons t u => rfl
  rw [if_neg c]
  show _ = if wd l = w then _ else _
  rw [if_neg c]
 rw [e]; exact this
theorem jY {k : Int} {l : List S38} {t : S38} {r : List S38} (h : need k l = .ok (t, r)) : l = t :: r ∧ t.f0 = k := by
 cases l with
 | nil => cases h
 | cons s u =>
  unfold need at h
  by_cases c : s.f0 = k
  ·simp only [if_pos c, Except.ok.injEq, Prod.mk.injEq] at h
   obtain ⟨rfl, rfl⟩ := h
   exact ⟨rfl, c⟩
  simp only [if_neg c] at h; cases h
theorem oC {k : Int} {t : S38} {r : List S38} (h : t.f0 = k) : need k (t :: r) = .ok (t, r) := by simp [need, h]
theorem uB {k : Int} {l r : List S38} (h : need k l = .error (some r)) : r = l ∧ ∀ t u, l = t :: u → t.f0 ≠ k := by
 cases l with
 | nil => cases h; exact ⟨rfl, fun t u h => by cases h⟩
 | cons s u =>
  unfold need at h
  by_cases c : s.f0 = k
  ·simp only [if_pos c] at h; cases h
  simp only [if_neg c, Except.error.injEq, Option.some.injEq] at h
  exact ⟨h.symm, fun t u e => by obtain ⟨rfl, _⟩ := List.cons.inj e; exact c⟩
/-- A token of a kind, and what hangs on it, but not on its place. -/
theorem LC.need {k : Int} {f : S38 → Ps β} (hf : ∀ t, Loc C (f t)) (hc : ∀ t t', core t = core t' → f t = f t') : LC C (bnd (need k) f) := by
 refine ⟨⟨fun l y r h => ?_, fun l r h => ?_, fun T T' b b' y T2 hs hC h => ?_, fun T T' b b' T2 hs hT h => ?_⟩, fun l y r h => ?_⟩
 ·obtain ⟨t, s, h1, h2⟩ := eH h
  obtain ⟨rfl, _⟩ := jY h1
  exact ((hf t).suf _ _ _ h2).trans (List.suffix_cons _ _)
 ·rcases rP h with h1 | ⟨t, s, h1, h2⟩
  ·rw [(uB h1).1]; exact List.suffix_refl _
  obtain ⟨rfl, _⟩ := jY h1
  exact ((hf t).sufE _ _ h2).trans (List.suffix_cons _ _)
 ·obtain ⟨t, s, h1, h2⟩ := eH h
  obtain ⟨e, hk⟩ := jY h1
  cases T with
  | nil =>
   rw [List.nil_append] at e
   have := ((hf t).suf _ _ _ h2).length_le
   rw [e] at this
   simp at this
   omega
  | cons a u =>
   obtain ⟨rfl, rfl⟩ := List.cons.inj e
   obtain ⟨t', u', rfl, g1, g2⟩ := hs.cons
   obtain ⟨T2', e1, e2⟩ := (hf _).ok u u' b b' y T2 g2 hC h2
   refine ⟨T2', e1, ?_⟩
   rw [List.cons_append, jE (oC ((fM g1).1 ▸ hk)), ← hc _ _ g1]
   exact e2
 ·cases T with
  | nil =>
   rcases rP h with h1 | ⟨t, s, h1, h2⟩
   ·exact absurd (by have := (uB h1).1; simpa using this) hT
   obtain ⟨e, _⟩ := jY h1
   have := ((hf t).sufE _ _ h2).length_le
   rw [List.nil_append] at e
   rw [e] at this
   simp at this
   omega
  | cons a u =>
   obtain ⟨t', u', rfl, g1, g2⟩ := hs.cons
   rcases rP h with h1 | ⟨t, s, h1, h2⟩
   ·obtain ⟨e, hn⟩ := uB h1
    have e := List.append_cancel_right e
    subst e
    refine ⟨t' :: u', hs, ?_⟩
    refine yH ?_
    have := hn a _ rfl
    rw [(fM g1).1] at this
    simp [Par.need, this]
   obtain ⟨e, hk⟩ := jY h1
   obtain ⟨rfl, rfl⟩ := List.cons.inj e
   obtain ⟨T2', e1, e2⟩ := (hf _).er u u' b b' T2 g2 hT h2
   refine ⟨T2', e1, ?_⟩
   rw [List.cons_append, jE (oC ((fM g1).1 ▸ hk)), ← hc _ _ g1]
   exact e2
 obtain ⟨t, s, h1, h2⟩ := eH h
 obtain ⟨rfl, _⟩ := jY h1
 have := ((hf t).suf _ _ _ h2).length_le
 simp
 omega
end Go.Proofs.Ytendgafpkeadhaa.Par
end
section
set_option linter.unusedVariables false
set_option linter.unusedSimpArgs false
namespace Go.Proofs.Ytendgafpkeadhaa.Par
open Go Go.RowKit Go.Proofs.YtendgafpkeadhaaW.PrintWords Go.Proofs.Ytendgafpkeadhaa.Q Go.Proofs.Ytendgafpkeadhaa.Lex Go.Proofs.Ytendgafpkeadhaa.Tree
/-- An expression does not go on with what stands there. -/
def St (l : List S38) : Prop := kK (wd l) = 0 ∧ wd l ≠ [40] ∧ wd l ≠ [91] ∧ wd l ≠ [46]
abbrev SC : List S38 → List S38 → Prop := fun b b' => St b ∧ St b'
abbrev Ce : List S38 → List S38 → Prop := fun b b' => wd b ≠ [101, 108, 115, 101] ∧ wd b' ≠ [101, 108, 115, 101]
structure LF (F : PF) : Prop where
 expr : LC SC F.expr
 block : LC Tr F.block
 bound : ∀ a : Int, 1 ≤ a → LC SC (F.bound a)
 unary : LC SC F.unary
variable {F : PF} {C : List S38 → List S38 → Prop}
theorem gZ (w : List UInt8) (hw : w ≠ [] := by simp) : LC C (must w) := LC.must w hw
theorem mi (H : LF F) (k : Int) (nm : ByteArray) : LC C (gJ F k nm) := H.expr.b1 fun e => (gZ [59]).b3 fun _ => Loc.ret _
theorem xJ (k : Int) : LC C (mG k) := (gZ [59]).b3 fun _ => Loc.ret _
theorem BQ (H : LF F) (e : List S41) : LC C (oP F e) := by
 unfold oP
 split
 ·exact (gZ [61]).b1 (C1 := Tr) fun _ => H.expr.b1 fun v => (gZ [59]).b3 fun _ => Loc.ret _
 exact LC.out
theorem Aa (H : LF F) (e : List S41) : LC C (qV F e) := by
 cases e with
 | nil => exact LC.head (G := fun w l => if w.toList ≠ [61] then (bnd (must [59]) fun _ => ret (nd 17 E 0 E [[]])) l else (.error none : R (List S41))) fun w => LC.ite (fun _ => (gZ [59]).b3 fun _ => Loc.ret _) (fun _ => LC.out)
 | cons x t => exact (LC.head (G := fun w l => if w.toList ≠ [61] then (bnd (must [59]) fun _ => ret (nd 17 E 0 E [x :: t])) l else if x.f0 = 21 then (bnd (must [61]) fun _ => gJ F 7 x.f2) l else if x.f0 = 26 then oP F (x :: t) l else (.error (some l) : R (List S41)))
  fun w => LC.ite (fun _ => (gZ [59]).b3 fun _ => Loc.ret _) (fun _ => LC.ite (fun _ => (gZ [61]).b1 (C1 := Tr) fun _ => mi H _ _) (fun _ => LC.ite (fun _ => BQ H _) (fun _ => LC.fail))))
theorem Cb (H : LF F) : LC C (oU F) := H.expr.b1 fun e => Aa H e
theorem Ef (H : LF F) : LC Ce (jJ F) :=
 LC.head (G := fun w l =>
  if w.toList = [108, 101, 116] then (bnd tk fun _ => bnd (need 1) fun t => bnd (must [61]) fun _ => gJ F 6 t.f1) l
  else if w.toList = [105, 102] then (bnd tk fun _ => bnd F.expr fun e => bnd F.block fun b => fun l2 => if wd l2 = [101, 108, 115, 101] then (bnd tk fun _ => bnd F.block fun c => ret (nd 9 E 0 E [e, b, c])) l2 else .ok (nd 9 E 0 E [e, b], l2)) l
  else if w.toList = [119, 104, 105, 108, 101] then (bnd tk fun _ => bnd F.expr fun e => bnd F.block fun b => ret (nd 10 E 0 E [e, b])) l
  else if w.toList = [98, 114, 101, 97, 107] then (bnd tk fun _ => mG 11) l
  else if w.toList = [99, 111, 110, 116, 105, 110, 117, 101] then (bnd tk fun _ => mG 12) l
  else if w.toList = [121, 105, 101, 108, 100] then (bnd tk fun _ => mG 16) l
  else if w.toList = [114, 101, 116, 117, 114, 110] then (bnd tk fun _ => gJ F 13 E) l
  else if w.toList = [112, 117, 116] then (bnd tk fun _ => gJ F 14 E) l
  else if w.toList = [101, 109, 105, 116] then (bnd tk fun _ => gJ F 15 E) l
  else oU F l) fun w =>
 LC.ite (fun _ => LC.tk.b1 (C1 := Tr) fun _ => LC.need (fun t => ((gZ [61]).b1 (C1 := Tr) fun _ => mi H _ _).loc) (by intro t t' h; simp only [(fM h).2.1]))
 fun _ => LC.ite (fun _ => LC.tk.b1 (C1 := Tr) fun _ => H.expr.b1 fun e => H.block.b3 fun b =>
  Loc.head (G := fun w l2 => if w.toList = [101, 108, 115, 101] then (bnd tk fun _ => bnd F.block fun c => ret (nd 9 E 0 E [e, b, c])) l2 else .ok (nd 9 E 0 E [e, b], l2))
   (fun w => Loc.ite (fun _ => (LC.tk.b1 (C1 := Tr) fun _ => H.block.b3 fun c => Loc.ret _).loc) (fun _ => Loc.ret _))
   (fun b1 b2 x hC h => by
    have h' : (if wd b1 = [101, 108, 115, 101] then (bnd tk fun _ => bnd F.block fun c => ret (nd 9 E 0 E [e, b, c])) b1 else .ok (nd 9 E 0 E [e, b], b1)) = .ok (x, b1) := h
    rw [if_neg hC.1] at h'
    cases h'
    exact if_neg hC.2))
 fun _ => LC.ite (fun _ => LC.tk.b1 (C1 := Tr) fun _ => H.expr.b1 fun e => H.block.b3 fun b => Loc.ret _)
 fun _ => LC.ite (fun _ => LC.tk.b1 (C1 := Tr) fun _ => xJ _)
 fun _ => LC.ite (fun _ => LC.tk.b1 (C1 := Tr) fun _ => xJ _)
 fun _ => LC.ite (fun _ => LC.tk.b1 (C1 := Tr) fun _ => xJ _)
 fun _ => LC.ite (fun _ => LC.tk.b1 (C1 := Tr) fun _ => mi H _ _)
 fun _ => LC.ite (fun _ => LC.tk.b1 (C1 := Tr) fun _ => mi H _ _)
 fun _ => LC.ite (fun _ => LC.tk.b1 (C1 := Tr) fun _ => mi H _ _)
 fun _ => Cb H
theorem wP (H : LF F) : ∀ (n : Nat) (acc : List (List S41)), LC Tr (mD F n acc)
 | 0, acc => LC.out
 | n + 1, acc => LC.head (G := fun w l => if w.toList = [125] then (bnd (must [125]) fun _ => ret (nd 5 E 0 E acc)) l else (bnd (jJ F) fun s => mD F n (acc ++ [s])) l)
  fun w => LC.ite (fun _ => (gZ [125]).b3 fun _ => Loc.ret _) (fun _ => (Ef H).b1 fun s => wP H n _)
theorem yJ (H : LF F) (N : Nat) : LC Tr (pG F N) := (gZ [123]).b1 (C1 := Tr) fun _ => wP H N []
theorem uC {one : Ps (List S41)} {Co : List S38 → List S38 → Prop} (ho : LC Co one) : ∀ (n : Nat) (acc : List (List S41)), LC Tr (kY one n acc)
 | 0, acc => LC.out
 | n + 1, acc => LC.head (G := fun w l => if w.toList = [41] then (bnd (must [41]) fun _ => ret acc) l
  else if acc = [] then (bnd one fun x => kY one n (acc ++ [x])) l else (bnd (must [44]) fun _ => bnd one fun x => kY one n (acc ++ [x])) l)
  fun w => LC.ite (fun _ => (gZ [41]).b3 fun _ => Loc.ret _) (fun _ => LC.ite (fun _ => ho.b1 fun x => uC ho n _) (fun _ => (gZ [44]).b1 (C1 := Tr) fun _ => ho.b1 fun x => uC ho n _))
theorem xh {one : Ps (List S41)} {Co : List S38 → List S38 → Prop} (ho : LC Co one) (N : Nat) : LC Tr (Par.dm one N) := (gZ [40]).b1 (C1 := Tr) fun _ => uC ho N []
theorem Ci : LC Tr lU := LC.need (fun t => Loc.ret _) (by intro t t' h; simp only [(fM h).2.1])
theorem rD (H : LF F) (N : Nat) (k : Int) (nm : ByteArray) : LC Tr (gX F N k nm) := (xh Ci N).b1 fun ps => (yJ H N).b3 fun b => Loc.ret _
theorem Eu (H : LF F) (N : Nat) : LC SC (vX F N) :=
 LC.need (f := fun t => fun l => if wd l = [46] then (bnd tk fun _ => bnd (need 1) fun u => bnd (Par.dm F.expr N) fun ks => ret (nd 23 t.f1 0 u.f1 ks)) l else .ok (nd 21 t.f1 0 E [], l))
  (fun t => Loc.head (G := fun w l => if w.toList = [46] then (bnd tk fun _ => bnd (need 1) fun u => bnd (Par.dm F.expr N) fun ks => ret (nd 23 t.f1 0 u.f1 ks)) l else .ok (nd 21 t.f1 0 E [], l))
   (fun w => Loc.ite (fun _ => (LC.tk.b1 (C1 := Tr) fun _ => LC.need (fun u => ((xh H.expr N).b3 fun ks => Loc.ret _).loc) (by intro t t' h; simp only [(fM h).2.1])).loc) (fun _ => Loc.ret _))
   (fun b1 b2 x hC h => by
    have h' : (if wd b1 = [46] then (bnd tk fun _ => bnd (need 1) fun u => bnd (Par.dm F.expr N) fun ks => ret (nd 23 t.f1 0 u.f1 ks)) b1 else .ok (nd 21 t.f1 0 E [], b1)) = .ok (x, b1) := h
    rw [if_neg hC.1.2.2.2] at h'
    cases h'
    exact if_neg hC.2.2.2.2)) (by intro t t' h; simp only [(fM h).2.1])
theorem kD (N : Nat) (t : S38) (r : List S38) : lV F N (t :: r) = if t.f0 = 2 then .ok (nd 19 E t.f2 E [], r) else if t.f0 = 3 then .ok (nd 20 E 0 t.f1 [], r) else vX F N (t :: r) := rfl
theorem Ez (H : LF F) (N : Nat) : LC SC (lV F N) := by
 have hn := Eu H N
 have cns : Cns (lV F N) := fun l x r h => by
  cases l with
  | nil => cases h
  | cons t u =>
   rw [kD] at h
   by_cases c1 : t.f0 = 2
   ·rw [if_pos c1] at h; cases h; simp
   rw [if_neg c1] at h
   by_cases c2 : t.f0 = 3
   ·rw [if_pos c2] at h; cases h; simp
   rw [if_neg c2] at h
   exact hn.cns _ _ _ h
 refine ⟨⟨fun l x r h => ?_, fun l r h => ?_, fun T T' b b' x T2 hs hC h => ?_, fun T T' b b' T2 hs hT h => ?_⟩, cns⟩
 ·cases l with
  | nil => cases h
  | cons t u =>
   rw [kD] at h
   by_cases c1 : t.f0 = 2
   ·rw [if_pos c1] at h; cases h; exact List.suffix_cons _ _
   rw [if_neg c1] at h
   by_cases c2 : t.f0 = 3
   ·rw [if_pos c2] at h; cases h; exact List.suffix_cons _ _
   rw [if_neg c2] at h
   exact hn.loc.suf _ _ _ h
 ·cases l with
  | nil => cases h; exact List.suffix_refl _
  | cons t u =>
   rw [kD] at h
   by_cases c1 : t.f0 = 2
   ·rw [if_pos c1] at h; cases h
   rw [if_neg c1] at h
   by_cases c2 : t.f0 = 3
   ·rw [if_pos c2] at h; cases h
   rw [if_neg c2] at h
   exact hn.loc.sufE _ _ h
 ·cases T with
  | nil =>
   have := cns _ _ _ h
   simp at this
   omega
  | cons t u =>
   obtain ⟨t', u', rfl, h1, h2⟩ := hs.cons
   obtain ⟨g0, g1, g2⟩ := fM h1
   rw [List.cons_append, kD] at h ⊢
   rw [← g0, ← g1, ← g2]
   by_cases c1 : t.f0 = 2
   ·rw [if_pos c1] at h ⊢
    simp only [Except.ok.injEq, Prod.mk.injEq, List.append_cancel_right_eq] at h
    obtain ⟨rfl, rfl⟩ := h
    exact ⟨u', h2, rfl⟩
   rw [if_neg c1] at h ⊢
   by_cases c2 : t.f0 = 3
   ·rw [if_pos c2] at h ⊢
    simp only [Except.ok.injEq, Prod.mk.injEq, List.append_cancel_right_eq] at h
    obtain ⟨rfl, rfl⟩ := h
    exact ⟨u', h2, rfl⟩
   rw [if_neg c2] at h ⊢
   exact hn.loc.ok (t :: u) (t' :: u') b b' x T2 hs hC h
 cases T with
 | nil =>
  cases b with
  | nil =>
   simp only [List.append_nil, lV, Except.error.injEq, Option.some.injEq] at h
   exact absurd h.symm hT
  | cons t u =>
   rw [List.nil_append, kD] at h
   by_cases c1 : t.f0 = 2
   ·rw [if_pos c1] at h; cases h
   rw [if_neg c1] at h
   by_cases c2 : t.f0 = 3
   ·rw [if_pos c2] at h; cases h
   rw [if_neg c2] at h
   exact absurd (mX (hn.loc.sufE _ _ h)) hT
 | cons t u =>
  obtain ⟨t', u', rfl, h1, h2⟩ := hs.cons
  obtain ⟨g0, g1, g2⟩ := fM h1
  rw [List.cons_append, kD] at h ⊢
  rw [← g0, ← g1, ← g2]
  by_cases c1 : t.f0 = 2
  ·rw [if_pos c1] at h; cases h
  rw [if_neg c1] at h ⊢
  by_cases c2 : t.f0 = 3
  ·rw [if_pos c2] at h; cases h
  rw [if_neg c2] at h ⊢
  exact hn.loc.er (t :: u) (t' :: u') b b' T2 hs hT h
theorem Em (H : LF F) (N : Nat) : LC SC (qU F N) :=
 LC.head (G := fun w l =>
  if w.toList = [110, 105, 108] then (bnd tk fun _ => ret (nd 18 E 0 E [])) l
  else if w.toList = [115, 116, 97, 116, 101] then (bnd tk fun _ => ret (nd 29 E 0 E [])) l
  else if w.toList = [123] then (bnd tk fun _ => bnd (must [125]) fun _ => ret (nd 25 E 0 E [])) l
  else if w.toList = [102, 110] then (bnd tk fun _ => gX F N 24 E) l
  else if w.toList = [40] then (bnd tk fun _ => bnd F.expr fun e => bnd (must [41]) fun _ => ret e) l
  else lV F N l) fun w =>
 LC.ite (fun _ => LC.tk.b3 fun _ => Loc.ret _)
 fun _ => LC.ite (fun _ => LC.tk.b3 fun _ => Loc.ret _)
 fun _ => LC.ite (fun _ => LC.tk.b1 (C1 := Tr) fun _ => (gZ [125]).b3 fun _ => Loc.ret _)
 fun _ => LC.ite (fun _ => LC.tk.b1 (C1 := Tr) fun _ => (rD H N _ _).weak)
 fun _ => LC.ite (fun _ => LC.tk.b1 (C1 := Tr) fun _ => H.expr.b1 fun e => (gZ [41]).b3 fun _ => Loc.ret _)
 fun _ => Ez H N
theorem uz (H : LF F) (N : Nat) : ∀ (n : Nat) (e : List S41), Loc SC (lw F N n e)
 | 0, e => LC.out.loc
 | n + 1, e => Loc.head (G := fun w l => if w.toList = [40] then (bnd (Par.dm F.expr N) fun ks => lw F N n (nd 22 E 0 E ([e] ++ ks))) l
  else if w.toList = [91] then (bnd tk fun _ => bnd F.expr fun i => bnd (must [93]) fun _ => lw F N n (nd 26 E 0 E [e, i])) l
  else .ok (e, l))
  (fun w => Loc.ite (fun _ => ((xh H.expr N).b3 fun ks => uz H N n _).loc) (fun _ => Loc.ite (fun _ => (LC.tk.b1 (C1 := Tr) fun _ => H.expr.b1 fun i => (gZ [93]).b3 fun _ => uz H N n _).loc) (fun _ => Loc.ret _)))
  (fun b1 b2 x hC h => by
   have h' : (if wd b1 = [40] then (bnd (Par.dm F.expr N) fun ks => lw F N n (nd 22 E 0 E ([e] ++ ks))) b1 else if wd b1 = [91] then (bnd tk fun _ => bnd F.expr fun i => bnd (must [93]) fun _ => lw F N n (nd 26 E 0 E [e, i])) b1 else .ok (e, b1)) = .ok (x, b1) := h
   rw [if_neg hC.1.2.1, if_neg hC.1.2.2.1] at h'
   cases h'
   exact (if_neg hC.2.2.1).trans (if_neg hC.2.2.2.1))
theorem xY (H : LF F) (N : Nat) : LC SC (lS F N) :=
 LC.head (G := fun w l =>
  if w.toList = [45] ∨ w.toList = [110, 111, 116] ∨ w.toList = [108, 101, 110] then (bnd tk fun _ => bnd F.unary fun e => ret (nd 28 E 0 w [e])) l
  else if w.toList = [115, 112, 97, 119, 110] then (bnd tk fun _ => bnd F.unary fun e => ret (nd 30 E 0 E [e])) l
  else (bnd (qU F N) fun e => lw F N N e) l) fun w =>
 LC.ite (fun _ => LC.tk.b1 (C1 := Tr) fun _ => H.unary.b2 (fun e => Loc.ret _) fun _ _ h => h)
 fun _ => LC.ite (fun _ => LC.tk.b1 (C1 := Tr) fun _ => H.unary.b2 (fun e => Loc.ret _) fun _ _ h => h)
 fun _ => (Em H N).b2 (fun e => uz H N N e) fun _ _ h => h
theorem wO (H : LF F) (a : Int) (ha : 1 ≤ a) : ∀ (n : Nat) (e : List S41), Loc SC (lJ F a n e)
 | 0, e => LC.out.loc
 | n + 1, e => Loc.head (G := fun w l => if kK w.toList = a then (bnd tk fun _ => bnd (F.bound (a + 1)) fun e2 => if a = 3 then ret (nd 27 E 0 w [e, e2]) else lJ F a n (nd 27 E 0 w [e, e2])) l else .ok (e, l))
  (fun w => Loc.ite (fun _ => (LC.tk.b1 (C1 := Tr) fun _ => (H.bound (a + 1) (by omega)).b2 (C2 := SC) (fun e2 => by
   by_cases c : a = 3
   ·rw [if_pos c]; exact Loc.ret _
   rw [if_neg c]; exact wO H a ha n _) fun _ _ h => h).loc) (fun _ => Loc.ret _))
  (fun b1 b2 x hC h => by
   have h' : (if kK (wd b1) = a then (bnd tk fun _ => bnd (F.bound (a + 1)) fun e2 => if a = 3 then ret (nd 27 E 0 (wB b1) [e, e2]) else lJ F a n (nd 27 E 0 (wB b1) [e, e2])) b1 else .ok (e, b1)) = .ok (x, b1) := h
   have n1 : ¬ kK (wd b1) = a := by rw [hC.1.1]; omega
   have n2 : ¬ kK (wd b2) = a := by rw [hC.2.1]; omega
   rw [if_neg n1] at h'
   cases h'
   exact if_neg n2)
theorem yG (H : LF F) (N : Nat) (a : Int) (ha : 1 ≤ a) : LC SC (kP F N a) := by
 unfold kP
 by_cases c : a = 6
 ·rw [if_pos c]; exact xY H N
 rw [if_neg c]; exact (H.bound (a + 1) (by omega)).b2 (fun e => wO H a ha N e) fun _ _ h => h
theorem pfam_L : ∀ n, LF (pfam n)
 | 0 => ⟨LC.out, LC.out, fun _ _ => LC.out, LC.out⟩
 | n + 1 => ⟨yG (pfam_L n) n 1 (by omega), yJ (pfam_L n) n, fun a h => yG (pfam_L n) n a h, xY (pfam_L n) n⟩
theorem Fe : LC Tr vG :=
 LC.need (fun a => ((gZ [46]).b1 (C1 := Tr) fun _ => LC.need (fun b => ((gZ [47]).b1 (C1 := Tr) fun _ => LC.need (fun c => ((gZ [59]).b3 fun _ => Loc.ret _).loc) (by intro t t' h; simp only [(fM h).2.2])).loc) (by intro t t' h; simp only [(fM h).2.1])).loc) (by intro t t' h; simp only [(fM h).2.1])
end Go.Proofs.Ytendgafpkeadhaa.Par
end
section
set_option linter.unusedVariables false
set_option linter.unusedSimpArgs false
namespace Go.Proofs.Ytendgafpkeadhaa.Par
open Go Go.RowKit Go.Proofs.YtendgafpkeadhaaW.PrintWords Go.Proofs.Ytendgafpkeadhaa.Q Go.Proofs.Ytendgafpkeadhaa.Lex Go.Proofs.Ytendgafpkeadhaa.Tree
inductive GF : List S41 → List Int → Nat → Prop
 | nil : GF [] [] 0
 | cons (x : S41) (t v : List S41) (kt kv : List Int) (D1 D2 : Nat) (hx : x.f1 = (kt.length : Int)) (hf : kw x = true) (hk : iO x.f0 kt = true) (ht : GF t kt D1) (hv : GF v kv D2) : GF (x :: (t ++ v)) (x.f0 :: kv) (max (1 + D1) D2)
theorem GF.fo {u : List S41} {K : List Int} {D : Nat} (h : GF u K D) : Fo u K.length D := by
 induction h with
 | nil => exact Fo.nil
 | cons x t v kt kv D1 D2 hx hf hk ht hv ih1 ih2 => exact Fo.cons x t v kv.length D1 D2 (by omega) (by rw [hx, Int.toNat_natCast]; exact ih1) ih2
abbrev kd (l : List S41) (q : Int) : Int := (rd_T41 l q).f0
theorem AL {l : List S41} {x : S41} {t : List S41} {p : Nat} (hd : l.drop p = x :: t) : rd_T41 l (p : Int) = x ∧ p < l.length := by
 have hp : p < l.length := by
  rcases Nat.lt_or_ge p l.length with h1 | h1
  ·exact h1
  rw [List.drop_eq_nil_of_le h1] at hd; cases hd
 rw [rd36 l p hp]
 rw [List.drop_eq_getElem_cons hp] at hd
 exact ⟨(List.cons.inj hd).1, hp⟩
theorem lD {l u rest : List S41} {p : Nat} (hd : l.drop p = u ++ rest) : l.drop (p + u.length) = rest := by
 rw [← List.drop_drop, hd, List.drop_left]
theorem Fo.its {u : List S41} {w D : Nat} (h : Fo u w D) : True := trivial
theorem GF.its {u : List S41} {K : List Int} {D : Nat} (h : GF u K D) : ∀ (l rest : List S41) (p : Nat), l.drop p = u ++ rest → (∀ y ∈ u, ¬ ((l.length : Int) < y.f1)) → (its l K.length (p : Int)).map (kd l) = K := by
 induction h with
 | nil => intro l rest p hd hn; rfl
 | cons x t v kt kv D1 D2 hx hf hk ht hv ih1 ih2 =>
  intro l rest p hd hn
  have hd' : l.drop p = (x :: t) ++ (v ++ rest) := by rw [hd]; simp
  have hn1 : ∀ y ∈ x :: t, ¬ ((l.length : Int) < y.f1) := fun y hy => hn y (by
   rcases List.mem_cons.1 hy with rfl | hy
   ·exact List.mem_cons_self
   exact List.mem_cons_of_mem _ (List.mem_append.2 (Or.inl hy)))
  have e := oJ (p := p) (by omega) (by rw [hx, Int.toNat_natCast]; exact ht.fo) hd' hn1
  obtain ⟨h1, _⟩ := AL (by rw [hd]; rfl : l.drop p = x :: (t ++ v ++ rest))
  show kd l (p : Int) :: (Tree.its l kv.length (iZ l (p : Int))).map (kd l) = x.f0 :: kv
  rw [e, ih2 l rest _ (lD hd') (fun y hy => hn y (List.mem_cons_of_mem _ (List.mem_append.2 (Or.inr hy))))]
  unfold kd
  rw [h1]
theorem GF.good {u : List S41} {K : List Int} {D : Nat} (h : GF u K D) : ∀ (l rest : List S41) (p : Nat), l.drop p = u ++ rest → (∀ y ∈ u, ¬ ((l.length : Int) < y.f1)) → ∀ i, p ≤ i → i < p + u.length → pY l i = true := by
 induction h with
 | nil => intro l rest p hd hn i h1 h2; simp at h2; omega
 | cons x t v kt kv D1 D2 hx hf hk ht hv ih1 ih2 =>
  intro l rest p hd hn i h1 h2
  have hd' : l.drop p = [x] ++ (t ++ (v ++ rest)) := by rw [hd]; simp
  have hd1 : l.drop (p + 1) = t ++ (v ++ rest) := lD hd'
  have hd2 : l.drop (p + 1 + t.length) = v ++ rest := lD hd1
  have hn1 : ∀ y ∈ t, ¬ ((l.length : Int) < y.f1) := fun y hy => hn y (List.mem_cons_of_mem _ (List.mem_append.2 (Or.inl hy)))
  have hn2 : ∀ y ∈ v, ¬ ((l.length : Int) < y.f1) := fun y hy => hn y (List.mem_cons_of_mem _ (List.mem_append.2 (Or.inr hy)))
  simp only [List.length_cons, List.length_append] at h2
  rcases Nat.lt_or_ge i (p + 1) with c | c
  ·obtain rfl : i = p := by omega
   obtain ⟨e, _⟩ := AL (by rw [hd]; rfl : l.drop i = x :: (t ++ v ++ rest))
   unfold pY xm
   rw [e, hx, Int.toNat_natCast]
   have := ht.its l _ (i + 1) hd1 hn1
   unfold kd at this
   rw [this, hf, hk]; rfl
  rcases Nat.lt_or_ge i (p + 1 + t.length) with c2 | c2
  ·exact ih1 l _ (p + 1) hd1 hn1 i c c2
  exact ih2 l _ (p + 1 + t.length) hd2 hn2 i c2 (by omega)
theorem GF.CE {u : List S41} {w D : Nat} (h : Fo u w D) : ∀ (l rest : List S41) (p : Nat), l.drop p = u ++ rest → (∀ y ∈ u, ¬ ((l.length : Int) < y.f1)) → (∀ i, p ≤ i → i < p + u.length → pY l i = true) → ∃ K, K.length = w ∧ GF u K D := by
 induction h with
 | nil => intro l rest p hd hn hg; exact ⟨[], rfl, GF.nil⟩
 | cons x t v w D1 D2 hx ht hv ih1 ih2 =>
  intro l rest p hd hn hg
  have hd' : l.drop p = [x] ++ (t ++ (v ++ rest)) := by rw [hd]; simp
  have hd1 : l.drop (p + 1) = t ++ (v ++ rest) := lD hd'
  have hd2 : l.drop (p + 1 + t.length) = v ++ rest := lD hd1
  have hn1 : ∀ y ∈ t, ¬ ((l.length : Int) < y.f1) := fun y hy => hn y (List.mem_cons_of_mem _ (List.mem_append.2 (Or.inl hy)))
  have hn2 : ∀ y ∈ v, ¬ ((l.length : Int) < y.f1) := fun y hy => hn y (List.mem_cons_of_mem _ (List.mem_append.2 (Or.inr hy)))
  simp only [List.length_cons, List.length_append] at hg
  obtain ⟨kt, l1, g1⟩ := ih1 l _ (p + 1) hd1 hn1 (fun i a b => hg i (by omega) (by omega))
  obtain ⟨kv, l2, g2⟩ := ih2 l _ (p + 1 + t.length) hd2 hn2 (fun i a b => hg i (by omega) (by omega))
  have := hg p (Nat.le_refl _) (by omega)
  obtain ⟨e, _⟩ := AL (by rw [hd]; rfl : l.drop p = x :: (t ++ v ++ rest))
  unfold pY xm at this
  have hi := g1.its l _ (p + 1) hd1 hn1
  unfold kd at hi
  rw [e, ← l1, hi, Bool.and_eq_true] at this
  exact ⟨x.f0 :: kv, by simp [l2], GF.cons x t v kt kv D1 D2 (by omega) this.1 this.2 g1 g2⟩
theorem wR (l : List S41) : ∀ (m i : Nat), (∀ j, i ≤ j → j < i + m → pY l j = true) → xM l m i = (0, 0)
 | 0, _, _ => rfl
 | m + 1, i, h => by
  unfold xM
  rw [if_pos (h i (Nat.le_refl _) (by omega))]
  exact wR l m (i + 1) fun j a b => h j (by omega) (by omega)
/-- A module's tree that is right. -/
structure Mod (l : List S41) (x : S41) (t : List S41) (K : List Int) (D : Nat) : Prop where
 eq : l = x :: t
 len : l.length ≤ 2000
 kind : x.f0 = 1
 cnt : x.f1 = (K.length : Int)
 fld : kw x = true
 kids : oD K = true
 deep : D ≤ 59
 good : GF t K D
theorem zy {l : List S41} (h : (checkS l).1 = 0) : ∃ x t K D, Mod l x t K D := by
 obtain ⟨h1, h2, h3, h4, h5⟩ := checkS_ok h
 obtain ⟨x, t, D1, e, hx, ht, hn, hF⟩ := zJ h2
 have hd := hF.depth
 obtain ⟨K, k1, g⟩ := GF.CE hF l [] 0 (by simp) hn (fun i _ a => h5 i (by omega))
 generalize hD : 1 + D1 = D at g
 cases g with
 | nil => simp at k1
 | cons x' t' v kt kv E1 E2 hx' hf hk ht' hv =>
  simp only [List.length_cons] at k1
  have : kv = [] := List.length_eq_zero_iff.1 (by omega)
  subst this
  cases hv
  simp only [List.append_nil] at e hF ht' hd hn h1 h2 h3 h4 h5 ⊢
  have h4' : x'.f0 = 1 := h4
  refine ⟨x', t', kt, E1, rfl, h1, h4', hx', hf, ?_, by omega, ht'⟩
  rw [h4'] at hk
  exact hk
theorem zi {l : List S41} {x : S41} {t : List S41} {K : List Int} {D : Nat} (h : Mod l x t K D) : checkS l = (0, 0) := by
 have hk1 : iO x.f0 K = true := by rw [h.kind]; exact h.kids
 have g0 := GF.cons x t [] K [] D 0 h.cnt h.fld hk1 h.good GF.nil
 rw [List.append_nil, ← h.eq] at g0
 have hF : Fo l 1 (max (1 + D) 0) := g0.fo
 have hk := hF.kids
 have hn : ∀ y ∈ l, ¬ ((l.length : Int) < y.f1) := fun y hy => by have := hk y hy; omega
 have hw : gB l.length l 1 = some l.length := by
  have := hF.gB (n := l.length) hn [] 0 (by omega)
  simpa using this
 have hd := hF.depth
 unfold checkS
 rw [if_neg (by have := h.len; omega), if_neg (by unfold qJ; rw [decide_eq_true hw]; simp), if_neg (by have := h.deep; omega), if_neg (by rw [h.eq]; exact fun c => c h.kind)]
 exact wR l l.length 0 fun j _ a => g0.good l [] 0 (by simp) hn j (Nat.zero_le _) (by omega)
theorem Fo.uniq {u : List S41} {a D : Nat} (h : Fo u a D) : ∀ (u' r r' : List S41) (D' : Nat), Fo u' a D' → u ++ r = u' ++ r' → u = u' := by
 induction h with
 | nil => intro u' r r' D' h' e; exact (h'.none).1.symm
 | cons x t v w D1 D2 hx ht hv ih1 ih2 =>
  intro u' r r' D' h' e
  generalize hw : w + 1 = w1 at h'
  cases h' with
  | nil => omega
  | cons x' t' v' w' E1 E2 hx' ht' hv' =>
   obtain rfl : w = w' := by omega
   simp only [List.cons_append, List.append_assoc, List.cons.injEq] at e
   obtain ⟨rfl, e⟩ := e
   obtain rfl := ih1 t' _ _ _ ht' e
   obtain rfl := ih2 v' _ _ _ hv' (List.append_cancel_left e)
   rfl
def hk (e : List S41) : Int := (rd_T41 e 0).f0
/-- The trees of a forest, one by one. -/
theorem GF.flat : ∀ (ks : List (List S41)) (K : List Int) (D : Nat), (∀ e ∈ ks, ∃ d, Fo e 1 d) → K.length = ks.length → GF ks.flatten K D → K = ks.map hk ∧ ∀ e ∈ ks, ∃ d, d ≤ D ∧ GF e [hk e] d
 | [], K, D, _, hl, h => ⟨List.length_eq_zero_iff.1 hl, fun e he => by cases he⟩
 | e :: ks, K, D, hF, hl, h => by
  obtain ⟨d, hd⟩ := hF e List.mem_cons_self
  obtain ⟨x, t, d1, rfl, _, hx, ht⟩ := hd.one
  rw [List.flatten_cons] at h
  generalize hu : (x :: t) ++ ks.flatten = u at h
  cases h with
  | nil => simp at hu
  | cons x' t' v kt kv E1 E2 hx' hf hk' ht' hv =>
   simp only [List.cons_append, List.cons.injEq] at hu
   obtain ⟨rfl, hu⟩ := hu
   have ht'' : Fo t' x.f1.toNat E1 := by rw [hx', Int.toNat_natCast]; exact ht'.fo
   obtain rfl := Fo.uniq ht t' _ _ _ ht'' hu
   obtain rfl := List.append_cancel_left hu
   obtain ⟨h1, h2⟩ := GF.flat ks kv E2 (fun e he => hF e (List.mem_cons_of_mem _ he)) (by simpa using hl) hv
   refine ⟨by rw [h1]; rfl, fun e he => ?_⟩
   rcases List.mem_cons.1 he with rfl | he
   ·have := GF.cons x t [] kt [] E1 0 hx' hf hk' ht' GF.nil
    rw [List.append_nil] at this
    exact ⟨max (1 + E1) 0, by omega, this⟩
   obtain ⟨d, g1, g2⟩ := h2 e he
   exact ⟨d, by omega, g2⟩
theorem GF.join : ∀ (ks : List (List S41)) (B : Nat), (∀ e ∈ ks, ∃ d, d ≤ B ∧ GF e [hk e] d) → ∃ D, D ≤ B ∧ GF ks.flatten (ks.map hk) D
 | [], B, _ => ⟨0, by omega, GF.nil⟩
 | e :: ks, B, h => by
  obtain ⟨d, h1, h2⟩ := h e List.mem_cons_self
  obtain ⟨D, h3, h4⟩ := GF.join ks B (fun e he => h e (List.mem_cons_of_mem _ he))
  generalize hK : [hk e] = K at h2
  cases h2 with
  | nil => cases hK
  | cons x t v kt kv E1 E2 hx hf hk' ht hv =>
   obtain ⟨e1, e2⟩ := List.cons.inj hK
   subst e2
   cases hv
   rw [List.append_nil] at e1 ⊢
   have := GF.cons x t _ kt _ E1 D hx hf hk' ht h4
   refine ⟨max (1 + E1) D, by omega, ?_⟩
   rw [List.flatten_cons, List.map_cons]
   exact this
/-- A module of such kids. -/
def KF (ks : List (List S41)) : Prop := ∀ e ∈ ks, ∃ d, Fo e 1 d
theorem mod_kids {nm : ByteArray} {n : Int} {ks : List (List S41)} (hF : KF ks) (h : (checkS (nd 1 nm n E ks)).1 = 0) : (nd 1 nm n E ks).length ≤ 2000 ∧ kw ⟨1, 0, nm, n, E⟩ = true ∧ oD (ks.map hk) = true ∧ ∀ e ∈ ks, ∃ d, d ≤ 59 ∧ GF e [hk e] d := by
 obtain ⟨x, t, K, D, m⟩ := zy h
 obtain ⟨rfl, rfl⟩ := List.cons.inj m.eq
 have hc := m.cnt
 simp only at hc
 obtain ⟨h1, h2⟩ := GF.flat ks K D hF (by omega) m.good
 refine ⟨m.len, m.fld, by rw [← h1]; exact m.kids, fun e he => ?_⟩
 obtain ⟨d, g1, g2⟩ := h2 e he
 exact ⟨d, by have := m.deep; omega, g2⟩
theorem kids_mod {nm : ByteArray} {n : Int} {ks : List (List S41)} (h1 : (nd 1 nm n E ks).length ≤ 2000) (h2 : kw ⟨1, 0, nm, n, E⟩ = true) (h3 : oD (ks.map hk) = true) (h4 : ∀ e ∈ ks, ∃ d, d ≤ 59 ∧ GF e [hk e] d) : checkS (nd 1 nm n E ks) = (0, 0) := by
 obtain ⟨D, h5, h6⟩ := GF.join ks 59 h4
 exact zi ⟨rfl, h1, rfl, by simp, h2, h3, h5, h6⟩
end Go.Proofs.Ytendgafpkeadhaa.Par
end
section
set_option linter.unusedVariables false
set_option linter.unusedSimpArgs false
namespace Go.Proofs.Ytendgafpkeadhaa.Par
open Go Go.RowKit Go.Proofs.YtendgafpkeadhaaW.PrintWords Go.Proofs.Ytendgafpkeadhaa.Q Go.Proofs.Ytendgafpkeadhaa.Lex Go.Proofs.Ytendgafpkeadhaa.Tree
/-- Where the reader stopped. -/
def plS (ts r : List S38) : Int := match r with
 | t :: _ => t.f3
 | [] => match ts.getLast? with
  | some t => t.f3 + 1
  | none => 0
def ansS (ts : List S38) : R (List S41) → List S41 × Int × Int
 | .ok (x, []) => if (checkS x).1 = 0 then (x, 0, 0) else ([], (checkS x).1, 0)
 | .ok (_, t :: r) => ([], 10, plS ts (t :: r))
 | .error (some r) => ([], 10, plS ts r)
 | .error none => ([], 10, 0)
def small (ts : List S38) : Prop := ∀ t ∈ ts, -4611686018427387904 ≤ t.f3 ∧ t.f3 ≤ 4611686018427387904
theorem yg (ts : List S38) (hp : small ts) (hl : ts.length ≤ 40000) (p : Nat) (b : Bool) : dB.f ts (p : Int) b = some (plS ts (ts.drop p), (p : Int), b) := by
 have key : ∀ i (hi : i < ts.length), rd_T38 ts (i : Int) = ts[i] := by
  intro i hi
  obtain ⟨_, h2, _⟩ := rd_tok ts i _ _ (List.drop_eq_getElem_cons hi)
  exact h2
 unfold dB.f plS
 by_cases c : p < ts.length
 ·rw [if_pos (by omega), if_pos (by omega), key p c, List.drop_eq_getElem_cons c]
 rw [if_neg (by omega), List.drop_eq_nil_of_le (by omega)]
 by_cases d : 0 < ts.length
 ·have e : wrap64 ((ts.length : Int) - 1) = ((ts.length - 1 : Nat) : Int) := by rw [Tree.w64 (by omega) (by omega)]; omega
  have h := hp _ (List.getElem_mem (show ts.length - 1 < ts.length by omega))
  rw [if_pos (by omega), e, if_pos (by omega), if_pos (by omega), key _ (by omega), Tree.w64 (by omega) (by omega), List.getLast?_eq_getElem?, List.getElem?_eq_getElem (by omega)]
 rw [if_neg (by omega), List.length_eq_zero_iff.1 (by omega : ts.length = 0)]; rfl
theorem tree_A (ts : List S38) (hts : ts.length ≤ 40000) (hp : small ts) (n : Nat) (hn : Fn KN ts.length (moduleP (pfam n) n ts)) : EvTo (fun k => eQ.f k ts) (ansS ts (moduleP (pfam n) n ts)) := by
 have hT := Ar hts (Fj n) o9 n
 match hr : moduleP (pfam n) n ts, hn, hT with
 | .ok (x, r), ⟨_, _, h3⟩, ⟨p, _, hp2, hd, hs, hE⟩ =>
  unfold sz at hs
  unfold eQ.f
  by_cases c : p < ts.length
  ·have h1 := yg ts hp hts p false
   cases r with
   | nil => rw [List.drop_eq_nil_iff] at hd; omega
   | cons t u =>
    refine EvTo.bind hE (EvTo.neg (by simp) (EvTo.pos (show (p : Int) < (ts.length : Int) by omega) ?_))
    dsimp only
    rw [h1, hd]
    exact EvTo.now
  rw [List.drop_eq_nil_of_le (by omega)] at hd
  subst hd
  have hC := D6 x (by omega) h3.1.2
  show EvTo _ (if (checkS x).1 = 0 then (x, 0, 0) else ([], (checkS x).1, 0))
  by_cases d : (checkS x).1 = 0
  ·rw [if_pos d]
   exact EvTo.bind hE (EvTo.neg (by simp) (EvTo.neg (show ¬ (p : Int) < (ts.length : Int) by omega) (EvTo.bind hC (EvTo.pos d EvTo.now))))
  rw [if_neg d]
  exact EvTo.bind hE (EvTo.neg (by simp) (EvTo.neg (show ¬ (p : Int) < (ts.length : Int) by omega) (EvTo.bind hC (EvTo.neg d EvTo.now))))
 | .error (some r), _, ⟨x, p, _, _, hd, _, hE⟩ =>
  have h1 := yg ts hp hts p true
  unfold eQ.f
  refine EvTo.bind hE (EvTo.pos rfl ?_)
  dsimp only
  rw [h1, hd]
  exact EvTo.now
/-- The tokens of a text: few, short, at its places. -/
theorem text_toks {s : ByteArray} (hs : s.size ≤ 3000) {us : List Tk} (h : Lex.scan (L s) = .ok us) : (us.map (tkS s.size)).length ≤ 3000 ∧ TB (us.map (tkS s.size)) ∧ small (us.map (tkS s.size)) := by
 obtain ⟨h1, h2⟩ := zU h
 rw [← L_size] at h1
 have h2 : ∀ t ∈ us, 1 ≤ t.rem ∧ t.rem ≤ s.size ∧ t.text.length ≤ s.size := fun t ht => by have := h2 t ht; rw [← L_size] at this; exact this
 refine ⟨by simp; omega, fun t ht => ?_, fun t ht => ?_⟩
 ·obtain ⟨u, hu, rfl⟩ := List.mem_map.1 ht
  have := h2 u hu
  show (S u.text).size ≤ 3000
  rw [oh]; omega
 obtain ⟨u, hu, rfl⟩ := List.mem_map.1 ht
 have := h2 u hu
 show _ ≤ ((s.size - u.rem : Nat) : Int) ∧ ((s.size - u.rem : Nat) : Int) ≤ _
 omega
theorem text_A (s : ByteArray) (hs : s.size ≤ 3000) {us : List Tk} (h : Lex.scan (L s) = .ok us) (n : Nat) (hn : Fn KN (us.map (tkS s.size)).length (moduleP (pfam n) n (us.map (tkS s.size)))) :
 EvTo (fun k => parse_Text.f k s) (ansS (us.map (tkS s.size)) (moduleP (pfam n) n (us.map (tkS s.size)))) := by
 have hS := Bo s
 unfold ut at hS
 rw [if_pos (by omega), h] at hS
 obtain ⟨h1, h2, h3⟩ := text_toks hs h
 have := tree_A _ (by omega) h3 n hn
 unfold parse_Text.f
 exact EvTo.bind hS (EvTo.pos rfl (EvTo.bind this EvTo.now))
theorem Ec (s : ByteArray) (hs : s.size ≤ 3000) {e : Int} {r : Nat} (h : Lex.scan (L s) = .error (e, r)) : e ≠ 0 ∧ EvTo (fun k => parse_Text.f k s) (([] : List S41), e, ((s.size - r : Nat) : Int)) ∧ EvTo (fun k => lex_Scan.f k s) ([], e, ((s.size - r : Nat) : Int)) := by
 have hS := Bo s
 unfold ut at hS
 rw [if_pos (by omega), h] at hS
 obtain ⟨h1, _⟩ := zT h
 refine ⟨h1, ?_, hS⟩
 unfold parse_Text.f
 exact EvTo.bind hS (EvTo.neg h1 EvTo.now)
/-- Rounds enough for all tokens of such a number. -/
theorem rounds (m : Nat) : ∃ n0, ∀ n, n0 ≤ n → Tot (pfam n) m ∧ ∀ l : List S38, l.length ≤ m → TB l → Fn KN l.length (moduleP (pfam n) n l) := by
 obtain ⟨n0, h0⟩ := tot m
 exact ⟨n0 + m, fun n hn => ⟨h0 n (by omega), fun l hl h => Au (h0 n (by omega)) n l hl (by omega) h⟩⟩
theorem EK {ts : List S38} {r : R (List S41)} (h : (ansS ts r).2.1 = 0) : ∃ x, r = .ok (x, []) ∧ (checkS x).1 = 0 ∧ ansS ts r = (x, 0, 0) := by
 unfold ansS at h ⊢
 split at h
 ·rename_i x
  by_cases c : (checkS x).1 = 0
  ·rw [if_pos c]; exact ⟨x, rfl, c, rfl⟩
  rw [if_neg c] at h; exact absurd h c
 all_goals cases h
end Go.Proofs.Ytendgafpkeadhaa.Par
end
section
set_option linter.unusedVariables false
set_option linter.unusedSimpArgs false
namespace Go.Proofs.Ytendgafpkeadhaa.Par
open Go Go.RowKit Go.Proofs.YtendgafpkeadhaaW.PrintWords Go.Proofs.Ytendgafpkeadhaa.Q Go.Proofs.Ytendgafpkeadhaa.Lex Go.Proofs.Ytendgafpkeadhaa.Tree
theorem known_E : EvTo (fun k => chrysalislaw10_known.f k) true := EvTo.of_one (fun k r h => chrysalislaw10_known.mono k r h) 300 chrysalislaw10_known.at
theorem known_B : EvTo (fun k => (chrysalislaw10_known.f k).bind fun t => some t) true := EvTo.bind known_E EvTo.now
abbrev Rnd (n : Nat) : Prop := Tot (pfam n) 3000 ∧ ∀ l : List S38, l.length ≤ 3000 → TB l → Fn KN l.length (moduleP (pfam n) n l)
/-- An answer of parse.Text; if it is well, what was read. -/
theorem text_V {n : Nat} (hr : Rnd n) (s : ByteArray) (hs : s.size ≤ 3000) : ∃ v : List S41 × Int × Int, EvTo (fun k => parse_Text.f k s) v ∧ (v.2.1 = 0 → ∃ us, Lex.scan (L s) = .ok us ∧ moduleP (pfam n) n (us.map (tkS s.size)) = .ok (v.1, []) ∧ (checkS v.1).1 = 0) := by
 cases h : Lex.scan (L s) with
 | error e =>
  obtain ⟨e, r⟩ := e
  obtain ⟨n1, n2, _⟩ := Ec s hs h
  exact ⟨_, n2, fun h => absurd h n1⟩
 | ok us =>
  obtain ⟨t1, t2, t3⟩ := text_toks hs h
  refine ⟨_, text_A s hs h n (hr.2 _ t1 t2), fun hc => ?_⟩
  obtain ⟨x, x1, x2, x3⟩ := EK hc
  exact ⟨us, rfl, by rw [x3]; exact x1, by rw [x3]; exact x2⟩
theorem EL (l : List S41) (hl : l.length ≤ 100000) : ∀ (m i : Nat), l.length = m + i → EvTo (fun k => chrysalisref09_Same.l0 k l l (i : Int)) true := by
 intro m
 induction m with
 | zero =>
  intro i h
  refine EvTo.step (fun k => by rw [chrysalisref09_Same.l0]) ?_
  exact EvTo.neg (by omega) EvTo.now
 | succ m ih =>
  intro i h
  refine EvTo.step (fun k => by rw [chrysalisref09_Same.l0]) ?_
  refine EvTo.pos (by omega) (EvTo.pos (by omega) (EvTo.pos (by omega) (EvTo.neg (by simp) ?_)))
  rw [Tree.inc i (by omega)]
  exact ih (i + 1) (by omega)
theorem Same_self (l : List S41) (hl : l.length ≤ 100000) : EvTo (fun k => chrysalisref09_Same.f k l l) true := by
 unfold chrysalisref09_Same.f
 exact EvTo.pos rfl (EL l hl l.length 0 (by omega))
theorem sim_map (us : List Tk) (a b : Nat) : Sim (us.map (tkS a)) (us.map (tkS b)) := by
 unfold Sim
 rw [List.map_map, List.map_map]
 rfl
end Go.Proofs.Ytendgafpkeadhaa.Par
end
section
set_option linter.unusedVariables false
set_option linter.unusedSimpArgs false
namespace Go.Proofs.Ytendgafpkeadhaa.Par
open Go Go.RowKit Go.Proofs.YtendgafpkeadhaaW.PrintWords Go.Proofs.Ytendgafpkeadhaa.Q Go.Proofs.Ytendgafpkeadhaa.Lex Go.Proofs.Ytendgafpkeadhaa.Tree
theorem vY {w : List UInt8} {l r : List S38} {u : Unit} (hw : w ≠ []) (h : must w l = .ok (u, r)) : ∃ t, l = t :: r ∧ wd l = w := by
 unfold must at h
 by_cases c : wd l = w
 ·rw [if_pos c] at h
  obtain ⟨t, r', rfl⟩ := um (l := l) (by rw [c]; exact hw)
  cases h
  exact ⟨t, rfl, c⟩
 rw [if_neg c] at h; cases h
theorem yj {w : List UInt8} {t : S38} {r : List S38} (h : wd (t :: r) = w) : must w (t :: r) = .ok ((), r) := by unfold must; rw [if_pos h]; rfl
theorem lG {t t' : S38} (r r' : List S38) (h : core t = core t') : wd (t :: r) = wd (t' :: r') := by unfold wd; rw [oL h]
theorem D8 {l r : List S38} {u : Unit} (h : tk l = .ok (u, r)) : ∃ t, l = t :: r := by
 cases l with
 | nil => cases h
 | cons t s => cases h; exact ⟨t, rfl⟩
variable {F : PF} {N m0 : Nat}
theorem vZ {l r : List S38} {x : List S41} (h : moduleP F N l = .ok (x, r)) : ∃ t0 t1 t2 t3 T, l = t0 :: t1 :: t2 :: t3 :: T ∧ wd [t0] = [109, 111, 100, 117, 108, 101] ∧ t1.f0 = 1 ∧ t2.f0 = 2 ∧ wd [t3] = [59] ∧ jw F N t1.f1 t2.f2 N [] T = .ok (x, r) := by
 unfold moduleP at h
 obtain ⟨_, s0, h0, g0⟩ := eH h
 obtain ⟨t1, s1, h1, g1⟩ := eH g0
 obtain ⟨t2, s2, h2, g2⟩ := eH g1
 obtain ⟨_, s3, h3, g3⟩ := eH g2
 obtain ⟨t0, e0, w0⟩ := vY (by simp) h0
 obtain ⟨e1, w1⟩ := jY h1
 obtain ⟨e2, w2⟩ := jY h2
 obtain ⟨t3, e3, w3⟩ := vY (by simp) h3
 clear h h0 h1 h2 h3 g0 g1 g2
 subst e3
 subst e2
 subst e1
 subst e0
 exact ⟨t0, t1, t2, t3, s3, rfl, w0, w1, w2, w3, g3⟩
theorem Ew {t0 t1 t2 t3 : S38} (T : List S38) (w0 : wd [t0] = [109, 111, 100, 117, 108, 101]) (w1 : t1.f0 = 1) (w2 : t2.f0 = 2) (w3 : wd [t3] = [59]) : moduleP F N (t0 :: t1 :: t2 :: t3 :: T) = jw F N t1.f1 t2.f2 N [] T := by
 unfold moduleP
 rw [jE (yj (t := t0) (r := t1 :: t2 :: t3 :: T) w0), jE (oC (r := t2 :: t3 :: T) w1), jE (oC (r := t3 :: T) w2), jE (yj (t := t3) (r := T) w3)]
theorem wK {k : Int} {nm : ByteArray} {l r : List S38} {e : List S41} (h : gX F N k nm l = .ok (e, r)) : ∃ ks, e = nd k nm 0 E ks := by
 unfold gX at h
 obtain ⟨ps, s, _, h1⟩ := eH h
 obtain ⟨b, s2, _, h2⟩ := eH h1
 cases h2
 exact ⟨_, rfl⟩
theorem Eb {l r : List S38} {e : List S41} (h : vG l = .ok (e, r)) : ∃ nm n tx, e = nd 2 nm n tx [] := by
 unfold vG at h
 obtain ⟨_, _, _, h1⟩ := eH h
 obtain ⟨_, _, _, h2⟩ := eH h1
 obtain ⟨_, _, _, h3⟩ := eH h2
 obtain ⟨_, _, _, h4⟩ := eH h3
 obtain ⟨_, _, _, h5⟩ := eH h4
 obtain ⟨_, _, _, h6⟩ := eH h5
 cases h6
 exact ⟨_, _, _, rfl⟩
theorem Fn.DD {α : Type} {K : α → Prop} {b : Nat} {x : α} {r : List S38} {P : R α} (h : Fn K b P) (e : P = .ok (x, r)) : r.length < b ∧ TB r ∧ K x := by subst e; exact h
abbrev FN : List UInt8 := [102, 110]
abbrev US : List UInt8 := [117, 115, 101]
theorem AV {nm : ByteArray} {v : Int} {n : Nat} {acc : List (List S41)} {t1 t2 : S38} {l r : List S38} {f : List S41} (w1 : wd [t1] = FN) (w2 : t2.f0 = 1) (h : gX F N 3 t2.f1 l = .ok (f, r)) : jO F N nm v (n + 1) acc (t1 :: t2 :: l) = jO F N nm v n (acc ++ [f]) r := by
 rw [jO]
 dsimp only
 rw [if_pos (show wd (t1 :: t2 :: l) = [102, 110] from w1), jE (show tk (t1 :: t2 :: l) = .ok ((), t2 :: l) from rfl), jE (oC w2), jE h]
/-- Functions up to the end. -/
theorem FA (H : LF F) (Tt : Tot F m0) (nm : ByteArray) (v : Int) (x : List S41) : ∀ (n : Nat) (acc : List (List S41)) (T : List S38), T.length ≤ m0 → T.length ≤ N → TB T → jO F N nm v n acc T = .ok (x, []) →
 ∃ fs, x = nd 1 nm v E (acc ++ fs) ∧ fs.length ≤ T.length ∧ fs.length < n ∧ (fs = [] → T = []) ∧ KF fs ∧ (∀ e ∈ fs, hk e = 3) ∧
  ∀ (nm' : ByteArray) (v' : Int) (T' b' : List S38) (m : Nat) (acc' : List (List S41)), Sim T T' → jO F N nm' v' (m + fs.length) acc' (T' ++ b') = jO F N nm' v' m (acc' ++ fs) b' := by
 intro n
 induction n with
 | zero => intro acc T _ _ _ h; cases h
 | succ n ih =>
  intro acc T h1 h2 h3 h
  rw [jO] at h
  dsimp only at h
  by_cases c : wd T = [102, 110]
  ·rw [if_pos c] at h
   obtain ⟨_, s0, e0, q0⟩ := eH h
   obtain ⟨t2, s1, e1, q1⟩ := eH q0
   obtain ⟨f, s2, e2, q2⟩ := eH q1
   obtain ⟨t1, k1⟩ := D8 e0
   obtain ⟨k2, w2⟩ := jY e1
   clear h e0 e1 q0 q1
   subst k2
   subst k1
   have hF := nX Tt N 3 t2.f1 (by omega) (h3 t2 (by simp)) s1 (by simp at h1; omega) (by simp at h2; omega) h3.tail.tail
   obtain ⟨g1, g2, g3⟩ := hF.DD e2
   simp only [List.length_cons] at h1 h2
   obtain ⟨fs, i1, i2, i3, i4, i5, i6, i7⟩ := ih (acc ++ [f]) s2 (by omega) (by omega) g2 q2
   obtain ⟨ks, rfl⟩ := wK e2
   refine ⟨_ :: fs, by rw [i1, List.append_assoc]; rfl, by simp; omega, by simp; omega, (fun a => by cases a), fun e he => ?_, fun e he => ?_, fun nm' v' T' b' m acc' hs => ?_⟩
   ·rcases List.mem_cons.1 he with rfl | he
    ·exact g3.1.1
    exact i5 e he
   ·rcases List.mem_cons.1 he with rfl | he
    ·rfl
    exact i6 e he
   obtain ⟨t1', u', rfl, c1, hs⟩ := hs.cons
   obtain ⟨t2', u2, rfl, c2, hs⟩ := hs.cons
   have e2' : gX F N 3 t2.f1 (s1 ++ []) = .ok (nd 3 t2.f1 0 E ks, s2 ++ []) := by simpa using e2
   obtain ⟨T2', j1, j2⟩ := (rD H N 3 t2.f1).loc.ok s1 u2 [] b' _ s2 hs (fun _ => trivial) e2'
   rw [List.length_cons, ← Nat.add_assoc, List.cons_append, List.cons_append, AV (by rw [← lG [] [] c1]; exact c) ((fM c2).1 ▸ w2) ((fM c2).2.1 ▸ j2), i7 nm' v' T2' b' m _ j1, List.append_assoc, (fM c2).2.1]
   rfl
  rw [if_neg c] at h
  cases h
  refine ⟨[], by simp, by simp, by simp, fun _ => rfl, (fun e he => by cases he), (fun e he => by cases he), fun nm' v' T' b' m acc' hs => ?_⟩
  rw [hs.nil]; simp
theorem vF {nm : ByteArray} {v : Int} {n : Nat} {acc : List (List S41)} {t1 : S38} {l r : List S38} {f : List S41} (w1 : wd [t1] = US) (h : vG l = .ok (f, r)) : jw F N nm v (n + 1) acc (t1 :: l) = jw F N nm v n (acc ++ [f]) r := by
 rw [jw]
 dsimp only
 rw [if_pos (show wd (t1 :: l) = [117, 115, 101] from w1), jE (show tk (t1 :: l) = .ok ((), l) from rfl), jE h]
/-- Uses and functions up to the end. -/
theorem UA (H : LF F) (Tt : Tot F m0) (nm : ByteArray) (v : Int) (x : List S41) : ∀ (n : Nat) (acc : List (List S41)) (T : List S38), T.length ≤ m0 → T.length ≤ N → TB T → jw F N nm v n acc T = .ok (x, []) →
 ∃ us fs, x = nd 1 nm v E (acc ++ (us ++ fs)) ∧ us.length + fs.length ≤ T.length ∧ us.length < n ∧ fs.length < N ∧ KF (us ++ fs) ∧ (∀ e ∈ us, hk e = 2) ∧ (∀ e ∈ fs, hk e = 3) ∧ (us = [] → wd T ≠ US) ∧
  (fs = [] → ∀ (nm' : ByteArray) (v' : Int) (T' b' : List S38) (m : Nat) (acc' : List (List S41)), Sim T T' → jw F N nm' v' (m + us.length) acc' (T' ++ b') = jw F N nm' v' m (acc' ++ us) b') ∧
  ∀ (nm' : ByteArray) (v' : Int) (T' b' : List S38) (m d : Nat) (acc' : List (List S41)), Sim T T' → (fs = [] → wd b' ≠ US) → N = d + fs.length → jw F N nm' v' (m + 1 + us.length) acc' (T' ++ b') = jO F N nm' v' d (acc' ++ (us ++ fs)) b' := by
 intro n
 induction n with
 | zero => intro acc T _ _ _ h; cases h
 | succ n ih =>
  intro acc T h1 h2 h3 h
  rw [jw] at h
  dsimp only at h
  by_cases c : wd T = [117, 115, 101]
  ·rw [if_pos c] at h
   obtain ⟨_, s0, e0, q0⟩ := eH h
   obtain ⟨f, s2, e2, q1⟩ := eH q0
   obtain ⟨t1, k1⟩ := D8 e0
   clear h e0 q0
   subst k1
   obtain ⟨g1, g2, g3⟩ := (D7 s0 h3.tail).DD e2
   simp only [List.length_cons] at h1 h2
   obtain ⟨us, fs, i1, i2, i3, i4, i5, i6, i6', _, i7, i8⟩ := ih (acc ++ [f]) s2 (by omega) (by omega) g2 q1
   have hloc := fun (u2 b' : List S38) (hs : Sim s0 u2) => Fe.loc.ok s0 u2 [] b' f s2 hs (fun _ => trivial) (by simpa using e2)
   have hk2 : hk f = 2 := by obtain ⟨a, b, d, rfl⟩ := Eb e2; rfl
   refine ⟨f :: us, fs, by rw [i1]; simp, by simp; omega, by simp; omega, i4, fun e he => ?_, fun e he => ?_, i6', (fun a => by cases a), fun hf nm' v' T' b' m acc' hs => ?_, fun nm' v' T' b' m d acc' hs hb hN => ?_⟩
   ·rcases List.mem_cons.1 he with rfl | he
    ·exact g3.1.1
    exact i5 e he
   ·rcases List.mem_cons.1 he with rfl | he
    ·exact hk2
    exact i6 e he
   ·obtain ⟨t1', u', rfl, c1, hs⟩ := hs.cons
    obtain ⟨T2', j1, j2⟩ := hloc u' b' hs
    rw [List.length_cons, ← Nat.add_assoc, List.cons_append, vF (by rw [← lG [] [] c1]; exact c) j2, i7 hf nm' v' T2' b' m _ j1, List.append_assoc]
    rfl
   obtain ⟨t1', u', rfl, c1, hs⟩ := hs.cons
   obtain ⟨T2', j1, j2⟩ := hloc u' b' hs
   rw [List.length_cons, ← Nat.add_assoc, List.cons_append, vF (by rw [← lG [] [] c1]; exact c) j2, i8 nm' v' T2' b' m d _ j1 hb hN, List.append_assoc]
   rfl
  rw [if_neg c] at h
  obtain ⟨fs, i1, i2, i3, i4, i5, i6, i7⟩ := FA H Tt nm v x N acc T h1 h2 h3 h
  refine ⟨[], fs, by rw [i1]; simp, by simpa using i2, by simp, i3, by simpa using i5, (fun e he => by cases he), i6, fun _ => c, fun hf nm' v' T' b' m acc' hs => ?_, fun nm' v' T' b' m d acc' hs hb hN => ?_⟩
  ·have := i4 hf
   subst this
   rw [hs.nil]; simp
  have hw : wd (T' ++ b') ≠ [117, 115, 101] := by
   cases T with
   | nil =>
    rw [hs.nil]
    refine hb ?_
    cases fs with
    | nil => rfl
    | cons a b => simp at i2
   | cons t u =>
    obtain ⟨t', u', rfl, c1, _⟩ := hs.cons
    rw [List.cons_append, ← lG u _ c1]
    exact c
  rw [List.length_nil, Nat.add_zero, jw]
  dsimp only
  rw [if_neg hw]
  conv => lhs; arg 5; rw [hN]
  rw [i7 nm' v' T' b' d acc' hs]
  simp
/-- Two modules of one head, the second one without uses: the tokens of the second one's functions behind the first one's. -/
theorem more_kids (H : LF F) (Tt : Tot F m0) {h1 h2 h3 A B A' B' : List S38} {x y : List S41} (hh1 : ∃ t0 t1 t2 t3, h1 = [t0, t1, t2, t3]) (s2 : Sim h1 h2) (s3 : Sim h1 h3) (sA : Sim A A') (sB : Sim B B')
 (hA : TB (h1 ++ A)) (hB : TB (h2 ++ B)) (lA : A.length + B.length + 4 ≤ m0) (lN : A.length + B.length + 4 ≤ N)
 (hx : moduleP F N (h1 ++ A) = .ok (x, [])) (hy : moduleP F N (h2 ++ B) = .ok (y, [])) (hu : ∀ e ∈ y, e.f0 ≠ 2) :
 ∃ nm v ks ks', x = nd 1 nm v E ks ∧ y = nd 1 nm v E ks' ∧ moduleP F N (h3 ++ (A' ++ B')) = .ok (nd 1 nm v E (ks ++ ks'), []) ∧ KF ks ∧ KF ks' ∧ ∃ us fs, ks = us ++ fs ∧ (∀ e ∈ us, hk e = 2) ∧ (∀ e ∈ fs, hk e = 3) ∧ ∀ e ∈ ks', hk e = 3 := by
 obtain ⟨t0, t1, t2, t3, rfl⟩ := hh1
 obtain ⟨q0, r0, rfl, c0, s2⟩ := s2.cons
 obtain ⟨q1, r1, rfl, c1, s2⟩ := s2.cons
 obtain ⟨q2, r2, rfl, c2, s2⟩ := s2.cons
 obtain ⟨q3, r3, rfl, c3, s2⟩ := s2.cons
 obtain rfl := s2.nil
 obtain ⟨p0, r0, rfl, d0, s3⟩ := s3.cons
 obtain ⟨p1, r1, rfl, d1, s3⟩ := s3.cons
 obtain ⟨p2, r2, rfl, d2, s3⟩ := s3.cons
 obtain ⟨p3, r3, rfl, d3, s3⟩ := s3.cons
 obtain rfl := s3.nil
 obtain ⟨_, _, _, _, _, e, w0, w1, w2, w3, gx⟩ := vZ hx
 simp only [List.cons_append, List.nil_append, List.cons.injEq] at e
 obtain ⟨rfl, rfl, rfl, rfl, rfl⟩ := e
 obtain ⟨_, _, _, _, _, e, _, _, _, _, gy⟩ := vZ hy
 simp only [List.cons_append, List.nil_append, List.cons.injEq] at e
 obtain ⟨rfl, rfl, rfl, rfl, rfl⟩ := e
 have hBA : TB A := hA.tail.tail.tail.tail
 have hBB : TB B := hB.tail.tail.tail.tail
 rw [← (fM c1).2.1, ← (fM c2).2.2] at gy
 obtain ⟨us, fs, i1, i2, i3, i4, i5, i6, i6', _, i7, i8⟩ := UA H Tt t1.f1 t2.f2 x N [] A (by omega) (by omega) hBA gx
 obtain ⟨us2, fs2, j1, j2, j3, j4, j5, j6, j6', j9, j7, j8⟩ := UA H Tt t1.f1 t2.f2 y N [] B (by omega) (by omega) hBB gy
 have hus2 : us2 = [] := by
  cases us2 with
  | nil => rfl
  | cons e us2 =>
   exfalso
   have h2 := j6 e List.mem_cons_self
   obtain ⟨d, hd⟩ := j5 e (by simp)
   obtain ⟨z, t, _, rfl, _⟩ := hd.one
   refine hu z ?_ h2
   rw [j1]
   simp [nd]
 subst hus2
 have hw := j9 rfl
 have gy2 : jO F N t1.f1 t2.f2 N [] B = .ok (y, []) := by
  obtain ⟨M, rfl⟩ : ∃ M, N = M + 1 := ⟨N - 1, by omega⟩
  rw [jw] at gy
  dsimp only at gy
  rw [if_neg hw] at gy
  exact gy
 obtain ⟨fs3, k1, k2, k3, k4, k5, k6, k7⟩ := FA H Tt t1.f1 t2.f2 y N [] B (by omega) (by omega) hBB gy2
 simp only [List.nil_append] at i1 k1
 have hwB' : wd B' ≠ US := by
  cases B with
  | nil => rw [sB.nil]; exact hw
  | cons t u =>
   obtain ⟨t', u', rfl, e1, _⟩ := sB.cons
   rw [← lG u u' e1]; exact hw
 have e := i8 t1.f1 t2.f2 A' B' (N - 1 - us.length) (N - fs.length) [] sA (fun _ => hwB') (by omega)
 rw [show N - 1 - us.length + 1 + us.length = N by omega] at e
 have e2 := k7 t1.f1 t2.f2 B' [] (N - fs.length - fs3.length) ([] ++ (us ++ fs)) sB
 rw [show N - fs.length - fs3.length + fs3.length = N - fs.length by omega, List.append_nil] at e2
 have e3 : jO F N t1.f1 t2.f2 (N - fs.length - fs3.length) ([] ++ (us ++ fs) ++ fs3) [] = .ok (nd 1 t1.f1 t2.f2 E ([] ++ (us ++ fs) ++ fs3), []) := by
  obtain ⟨M, hM⟩ : ∃ M, N - fs.length - fs3.length = M + 1 := ⟨N - fs.length - fs3.length - 1, by omega⟩
  rw [hM, jO]
  dsimp only
  rw [if_neg (by rw [qK]; simp)]
 refine ⟨t1.f1, t2.f2, us ++ fs, fs3, i1, k1, ?_, i5, k5, us, fs, rfl, i6, i6', k6⟩
 simp only [List.cons_append, List.nil_append]
 rw [Ew (A' ++ B') (by rw [← lG [] [] d0]; exact w0) ((fM d1).1 ▸ w1) ((fM d2).1 ▸ w2) (by rw [← lG [] [] d3]; exact w3), ← (fM d1).2.1, ← (fM d2).2.2, e, e2, e3]
 simp
theorem nM {α : Type} (p : α → Bool) : ∀ l : List α, (∀ x ∈ l, p x = true) → l.dropWhile p = []
 | [], _ => rfl
 | a :: l, h => by rw [List.dropWhile_cons, h a List.mem_cons_self]; exact nM p l fun x hx => h x (List.mem_cons_of_mem _ hx)
theorem modS_mk {us fs : List (List S41)} (h1 : ∀ e ∈ us, hk e = 2) (h2 : ∀ e ∈ fs, hk e = 3) : oD ((us ++ fs).map hk) = true := by
 unfold oD
 rw [List.map_append]
 have a : (us.map hk ++ fs.map hk).dropWhile (· == 2) = fs.map hk := by
  rw [List.dropWhile_append]
  have : (us.map hk).dropWhile (· == 2) = [] := by
   refine nM _ _ fun k hkm => ?_
   obtain ⟨e, he, rfl⟩ := List.mem_map.1 hkm
   rw [h1 e he]; rfl
  rw [this]
  simp only [List.isEmpty_nil, if_true]
  cases fs with
  | nil => rfl
  | cons f fs =>
   rw [List.map_cons, List.dropWhile_cons, h2 f List.mem_cons_self]
   rfl
 rw [a, List.all_eq_true]
 intro k hkm
 obtain ⟨e, he, rfl⟩ := List.mem_map.1 hkm
 rw [h2 e he]; rfl
end Go.Proofs.Ytendgafpkeadhaa.Par
end
