/- Walks over functions of the program, words for them, and what the functions come to; of each text only what this claim uses; no condition. -/
import Derived.Test.YtendgafpkeadhaaZPF0
import Derived.Test.YtendgafpkeadhaaZPF12
import Derived.Test.YtendgafpkeadhaaZPF13
import Derived.Test.YtendgafpkeadhaaZPF14
import Derived.Test.YtendgafpkeadhaaZPF15
import Derived.Test.YtendgafpkeadhaaZPF16
section
set_option linter.unusedVariables false
set_option linter.unusedSimpArgs false
namespace Go.Proofs.Ytendgafpkeadhaa.Tree
open Go Go.RowKit Go.Proofs.YtendgafpkeadhaaW.PrintWords Go.Proofs.Ytendgafpkeadhaa.Q Go.Proofs.Ytendgafpkeadhaa.Lex
theorem EvTo.both {α : Type} {F G : Nat → Option α} {v u : α} {c : Prop} [Decidable c] (f : c → EvTo F v) (g : ¬c → EvTo G u) : EvTo (fun k => if c then F k else G k) (if c then v else u) := by
 by_cases h : c
 ·rw [if_pos h]; exact EvTo.pos h (f h)
 rw [if_neg h]; exact EvTo.neg h (g h)
def OPS : List (List UInt8) := [[43], [45], [42], [47], [37], [46, 46], [61, 61], [33, 61], [60], [60, 61], [97, 110, 100], [111, 114]]
def UNS : List (List UInt8) := [[45], [110, 111, 116], [108, 101, 110]]
def OB : ByteArray := (⟨#[32, 43, 32, 45, 32, 42, 32, 47, 32, 37, 32, 46, 46, 32, 61, 61, 32, 33, 61, 32, 60, 32, 60, 61, 32, 97, 110, 100, 32, 111, 114, 32]⟩ : ByteArray)
def UB : ByteArray := (⟨#[32, 45, 32, 110, 111, 116, 32, 108, 101, 110, 32]⟩ : ByteArray)
theorem vw : wordsOf (L OB) = OPS := by decide +kernel
theorem vk : wordsOf (L UB) = UNS := by decide +kernel
theorem BB (w s : ByteArray) (hs : s.size ≤ 3000) (hw : w.size ≤ 1000) (hne : ¬ s.toList = ([] : List UInt8)) : ∀ (m i : Nat), w.size ≤ m + i → i ≤ w.size + 1 →
 EvTo (fun k => aY.l1 k w s ((s.size + 2 : Nat) : Int) (i : Int)) (jE (32 :: (L s ++ [32])) ((L w).drop i)) := by
 have hb : (32 :: (L s ++ [32])).length = s.size + 2 := by rw [cu]; simp
 have hwL := cu w
 have h1s : ((⟨#[32]⟩ : ByteArray) ++ s).size = 1 + s.size := by rw [ByteArray.size_append]; rfl
 have hLb : (((⟨#[32]⟩ : ByteArray) ++ s) ++ (⟨#[32]⟩ : ByteArray)).toList = 32 :: (L s ++ [32]) := by
  rw [iO, ng, ng]; rfl
 intro m
 induction m with
 | zero =>
  intro i h1 h2
  refine EvTo.step (fun k => by rw [aY.l1]) (EvTo.neg hne ?_)
  refine EvTo.step (fun k => by rw [aY.j2]) (EvTo.neg ?_ ?_)
  ·rw [w64 (by omega) (by omega)]; simp; omega
  rw [kR _ _ (by rw [List.length_drop, hb]; omega)]
  exact EvTo.now
 | succ m ih =>
  intro i h1 h2
  refine EvTo.step (fun k => by rw [aY.l1]) (EvTo.neg hne ?_)
  have hwr : wrap64 ((i : Int) + ((s.size + 2 : Nat) : Int)) = ((i + (s.size + 2) : Nat) : Int) := by rw [w64 (by omega) (by omega)]; omega
  rw [hwr]
  refine EvTo.step (fun k => by rw [aY.j2]) ?_
  rw [hwr]
  by_cases c : i + (s.size + 2) ≤ w.size
  ·refine EvTo.pos (decide_eq_true (by omega)) (EvTo.pos (by omega) (EvTo.pos (by omega) (EvTo.pos (by omega) (EvTo.pos (by omega) (EvTo.pos (by omega) ?_)))))
   rw [Int.toNat_natCast, Int.toNat_natCast, iO, BN, hLb, inc i (by omega)]
   have hd := jm (L w) i (by omega)
   by_cases e : ((L w).drop i).take (s.size + 2) = 32 :: (L s ++ [32])
   ·refine EvTo.pos e ?_
    have : jE (32 :: (L s ++ [32])) ((L w).drop i) = true := by
     rw [hd] at e ⊢
     rw [jE, Bool.or_eq_true, jQ]
     refine Or.inl ⟨?_, by rw [hb]; exact e⟩
     rw [hb, ← hd, List.length_drop]; omega
    rw [this]
    exact EvTo.now
   refine EvTo.neg e ?_
   have : jE (32 :: (L s ++ [32])) ((L w).drop i) = jE (32 :: (L s ++ [32])) ((L w).drop (i + 1)) := by
    rw [hd, jE, ← hd]
    have : List.isPrefixOf (32 :: (L s ++ [32])) ((L w).drop i) = false := by
     rw [Bool.eq_false_iff, ne_eq, jQ]
     rintro ⟨_, q⟩
     rw [hb] at q
     exact e q
    rw [this, Bool.false_or]
   rw [this]
   exact ih (i + 1) (by omega) (by omega)
  refine EvTo.neg (by simp; omega) ?_
  rw [kR _ _ (by rw [List.length_drop, hb]; omega)]
  exact EvTo.now
theorem rM (q : UInt8 → Bool) (l : List UInt8) : (l.takeWhile q).all q = true := by
 induction l with
 | nil => rfl
 | cons a t ih =>
  rw [List.takeWhile_cons]
  split
  ·rename_i h; rw [List.all_cons, h, ih]; rfl
  rfl
theorem nT : ∀ (l x : List UInt8), x ∈ wordsOf l → x.all lV = true
 | [], x, h => by simp [wordsOf] at h
 | c :: t, x, h => by
  rw [wordsOf] at h
  split at h
  ·rcases List.mem_cons.1 h with rfl | h
   ·exact rM _ _
   exact nT t x h
  exact nT t x h
theorem BC (w s : ByteArray) (hs : s.size ≤ 3000) (hw : w.size ≤ 1000) (hn : (wordsOf (L w)).contains [] = false) : ∀ (m i : Nat), s.size = m + i →
 (∀ j, j < i → (L s).getD j 0 ≠ 32) → EvTo (fun k => aY.l0 k w s (s.size : Int) (i : Int)) ((wordsOf (L w)).contains (L s)) := by
 have hL := cu s
 intro m
 induction m with
 | zero =>
  intro i h1 h2
  refine EvTo.step (fun k => by rw [aY.l0]) (EvTo.neg (by omega) ?_)
  have hall : (L s).all lV = true := by
   rw [List.all_eq_true]
   intro x hx
   obtain ⟨j, hj, rfl⟩ := List.getElem_of_mem hx
   have := h2 j (by omega)
   rw [List.getD_eq_getElem?_getD, List.getElem?_eq_getElem hj] at this
   simpa [lV] using this
  rw [w64 (n := (s.size : Int) + 2) (by omega) (by omega), show (s.size : Int) + 2 = ((s.size + 2 : Nat) : Int) by omega]
  by_cases e : s.toList = ([] : List UInt8)
  ·rw [(isE s).1 e, hn]
   refine EvTo.step (fun k => by rw [aY.l1]) (EvTo.pos e ?_)
   exact EvTo.step (fun k => by rw [aY.j2]) (EvTo.neg (by simp) EvTo.now)
  rw [← nY _ hall]
  have := BB w s hs hw e w.size 0 (by omega) (by omega)
  rw [List.drop_zero] at this
  exact this
 | succ m ih =>
  intro i h1 h2
  refine EvTo.step (fun k => by rw [aY.l0]) (EvTo.pos (by omega) (EvTo.pos (by omega) (EvTo.pos (by omega) ?_)))
  rw [zG, inc i (by omega)]
  have hsplit : ((((L s).getD i 0).toNat : Int) = 32) ↔ (L s).getD i 0 = 32 := iW _ 32
  by_cases c : (L s).getD i 0 = 32
  ·refine EvTo.pos (hsplit.2 c) ?_
   have : (wordsOf (L w)).contains (L s) = false := by
    rw [Bool.eq_false_iff]
    intro h
    have := nT _ _ (List.contains_iff_mem.1 h)
    rw [List.all_eq_true] at this
    have hi : i < (L s).length := by omega
    have := this _ (List.getElem_mem hi)
    rw [List.getD_eq_getElem?_getD, List.getElem?_eq_getElem hi] at c
    simp at c
    rw [c] at this
    exact absurd this (by decide)
   rw [this]
   exact EvTo.now
  refine EvTo.neg (fun h => c (hsplit.1 h)) (ih (i + 1) (by omega) (fun j hj => ?_))
  rcases Nat.eq_or_lt_of_le (Nat.lt_succ_iff.1 hj) with rfl | hj
  ·exact c
  exact h2 j hj
theorem yN (w s : ByteArray) (hs : s.size ≤ 3000) (hw : w.size ≤ 1000) (hn : (wordsOf (L w)).contains [] = false) : EvTo (fun k => aY.f k w s) ((wordsOf (L w)).contains (L s)) := by
 have := BC w s hs hw hn s.size 0 (by omega) (fun j hj => by omega)
 exact this
/-- What a node of a kind has, and whether there is such a kind; what its number may be. -/
def wE (a : Int) : Int × Bool :=
 if a = 1 then (5, true) else if a = 2 then (7, true) else if a = 3 ∨ a = 4 ∨ a = 6 ∨ a = 7 ∨ a = 21 then (1, true) else if a = 19 then (4, true) else if a = 20 then (32, true)
 else if a = 23 then (3, true) else if a = 27 then (8, true) else if a = 28 then (16, true) else (0, decide (1 ≤ a ∧ a ≤ 30))
def rangeS (a : Int) : Int × Int := if a = 1 then (1, 2147483647) else if a = 2 then (0, 8) else (0, 9223372036854775807)
theorem wC (a : Int) (b : Bool) (h : b = decide (a = 3 ∨ a = 4 ∨ a = 6 ∨ a = 7 ∨ a = 21)) (h1 : a ≠ 1) (h2 : a ≠ 2) : EvTo (fun k => dm.j0 k a a b) (wE a) := by
 refine EvTo.step (fun k => by rw [dm.j0]) ?_
 unfold wE
 rw [if_neg h1, if_neg h2]
 by_cases c : a = 3 ∨ a = 4 ∨ a = 6 ∨ a = 7 ∨ a = 21
 ·rw [if_pos c]
  exact EvTo.pos (by rw [h]; exact decide_eq_true c) EvTo.now
 rw [if_neg c]
 refine EvTo.neg (by rw [h]; simpa using c) ?_
 refine EvTo.both (fun _ => EvTo.now) (fun c1 => EvTo.both (fun _ => EvTo.now) (fun c2 => EvTo.both (fun _ => EvTo.now) (fun c3 => EvTo.both (fun _ => EvTo.now) (fun c4 => EvTo.both (fun _ => EvTo.now) (fun c5 => ?_)))))
 by_cases c6 : a ≥ 1
 ·refine EvTo.pos c6 ?_
  rw [show (decide (1 ≤ a ∧ a ≤ 30)) = decide (a ≤ 30) from by simp; omega]
  exact EvTo.now
 refine EvTo.neg c6 ?_
 rw [show (decide (1 ≤ a ∧ a ≤ 30)) = false from decide_eq_false (by omega)]
 exact EvTo.now
theorem F5 (a : Int) : EvTo (fun k => dm.f k a) (wE a) := by
 unfold dm.f
 by_cases h1 : a = 1
 ·subst h1; exact EvTo.pos rfl EvTo.now
 refine EvTo.neg h1 ?_
 by_cases h2 : a = 2
 ·subst h2; exact EvTo.pos rfl EvTo.now
 refine EvTo.neg h2 ?_
 by_cases h3 : a = 3
 ·exact EvTo.pos h3 (wC a _ (by simp [h3]) h1 h2)
 refine EvTo.neg h3 ?_
 by_cases h4 : a = 4
 ·exact EvTo.pos h4 (wC a _ (by simp [h4]) h1 h2)
 refine EvTo.neg h4 ?_
 by_cases h5 : a = 6
 ·exact EvTo.pos h5 (wC a _ (by simp [h5]) h1 h2)
 refine EvTo.neg h5 ?_
 by_cases h6 : a = 7
 ·exact EvTo.pos h6 (wC a _ (by simp [h6]) h1 h2)
 refine EvTo.neg h6 (wC a _ ?_ h1 h2)
 rw [Bool.eq_iff_iff, beq_iff_eq, decide_eq_true_eq]; omega
def ql (b m : Int) : Bool := Go.bits .and .i64 b m != 0
def textS (b : Int) (s : ByteArray) : Bool :=
 if Go.bits .and .i64 b 2 = 0 then if Go.bits .and .i64 b 8 = 0 then if Go.bits .and .i64 b 16 = 0 then if Go.bits .and .i64 b 32 = 0 then (L s).isEmpty else decide (s.size ≤ 1024) else UNS.contains (L s) else OPS.contains (L s) else jw (L s)
theorem Em (b : Int) (s : ByteArray) (hs : s.size ≤ 3000) : EvTo (fun k => eH.f k b s) (textS b s) := by
 unfold eH.f textS
 refine EvTo.both (fun _ => EvTo.both (fun _ => EvTo.both (fun _ => EvTo.both (fun _ => EvTo.jB fun k => ?_) (fun _ => EvTo.jB fun k => ?_)) (fun _ => ?_)) (fun _ => ?_)) (fun _ => ?_)
 ·rw [iO]
  cases L s <;> rfl
 ·congr 1
  rw [decide_eq_decide]; omega
 ·have := yN UB s hs (by decide) (by rw [vk]; decide)
  rw [vk] at this
  exact EvTo.bind (G := fun _ t => some t) this EvTo.now
 ·have := yN OB s hs (by decide) (by rw [vw]; decide)
  rw [vw] at this
  exact EvTo.bind (G := fun _ t => some t) this EvTo.now
 exact EvTo.bind (G := fun _ t => some t) (xN s (by omega)) EvTo.now
/-- A node has just what it may. -/
def yB (b : Int) (ok : Bool) (lo hi : Int) (x : S41) : Bool :=
 ok && (textS b x.f4 && ((ql b 1 == jw (L x.f2)) && ((ql b 1 || (L x.f2).isEmpty) && (if Go.bits .and .i64 b 4 = 0 then x.f3 == 0 else decide (lo ≤ x.f3 ∧ x.f3 ≤ hi)))))
def kD (x : S41) : Bool := yB (wE x.f0).1 (wE x.f0).2 (rangeS x.f0).1 (rangeS x.f0).2 x
theorem Ci (a : Int) : gm.f a = some (rangeS a) := by
 unfold gm.f rangeS
 split
 ·rfl
 split <;> rfl
theorem oW (x : S41) (b lo hi : Int) (c : Bool) : EvTo (fun k => bg.j1 k b lo hi c x.f0 x.f1 x.f2 x.f3 x.f4) (!c && (if Go.bits .and .i64 b 4 = 0 then x.f3 == 0 else decide (lo ≤ x.f3 ∧ x.f3 ≤ hi))) := by
 refine EvTo.step (fun k => by rw [bg.j1]) ?_
 cases c with
 | true => exact EvTo.pos rfl EvTo.now
 | false =>
  refine EvTo.neg (by simp) ?_
  rw [Bool.not_false, Bool.true_and]
  refine EvTo.both (fun _ => EvTo.now) (fun c4 => ?_)
  by_cases c5 : x.f3 ≥ lo
  ·refine EvTo.pos c5 ?_
   rw [show decide (lo ≤ x.f3 ∧ x.f3 ≤ hi) = decide (x.f3 ≤ hi) from by rw [decide_eq_decide]; omega]
   exact EvTo.now
  refine EvTo.neg c5 ?_
  rw [show decide (lo ≤ x.f3 ∧ x.f3 ≤ hi) = false from decide_eq_false (by omega)]
  exact EvTo.now
theorem tJ (x : S41) (h2 : x.f2.size ≤ 3000) (b lo hi : Int) (c : Bool) : EvTo (fun k => bg.j0 k b lo hi c x.f0 x.f1 x.f2 x.f3 x.f4)
 (!c && ((ql b 1 == jw (L x.f2)) && ((ql b 1 || (L x.f2).isEmpty) && (if Go.bits .and .i64 b 4 = 0 then x.f3 == 0 else decide (lo ≤ x.f3 ∧ x.f3 ≤ hi))))) := by
 refine EvTo.step (fun k => by rw [bg.j0]) ?_
 cases c with
 | true => exact EvTo.pos rfl EvTo.now
 | false =>
  refine EvTo.neg (by simp) (EvTo.bind (xN x.f2 (by omega)) ?_)
  rw [Bool.not_false, Bool.true_and]
  by_cases c1 : ql b 1 = jw (L x.f2)
  ·rw [beq_iff_eq.2 c1, Bool.true_and]
   refine EvTo.neg (by unfold ql at c1; rw [c1]; simp) ?_
   by_cases c2 : Go.bits .and .i64 b 1 = 0
   ·refine EvTo.pos c2 ?_
    have hb : ql b 1 = false := by unfold ql; rw [c2]; rfl
    rw [hb, Bool.false_or]
    have := oW x b lo hi (x.f2.toList != ([] : List UInt8))
    rwa [show (!(x.f2.toList != ([] : List UInt8))) = (L x.f2).isEmpty from by rw [iO]; cases L x.f2 <;> rfl] at this
   refine EvTo.neg c2 ?_
   have hb : ql b 1 = true := by unfold ql; simpa using c2
   rw [hb, Bool.true_or, Bool.true_and]
   have := oW x b lo hi false
   rwa [Bool.not_false, Bool.true_and] at this
  rw [show (ql b 1 == jw (L x.f2)) = false from beq_eq_false_iff_ne.2 c1, Bool.false_and]
  exact EvTo.pos (by unfold ql at c1; simpa using c1) (oW x b lo hi true)
theorem Bg (x : S41) (h2 : x.f2.size ≤ 3000) (h4 : x.f4.size ≤ 3000) : EvTo (fun k => bg.f k x.f0 x.f1 x.f2 x.f3 x.f4) (kD x) := by
 unfold bg.f kD yB
 refine EvTo.bind (F5 x.f0) ?_
 simp only [Ci, Option.bind_some]
 cases hok : (wE x.f0).2 with
 | false =>
  rw [Bool.false_and]
  exact EvTo.neg (by simp) (tJ x h2 _ _ _ true)
 | true =>
  rw [Bool.true_and]
  refine EvTo.pos rfl (EvTo.bind (Em _ _ h4) ?_)
  have := tJ x h2 (wE x.f0).1 (rangeS x.f0).1 (rangeS x.f0).2 (!textS (wE x.f0).1 x.f4)
  rwa [Bool.not_not] at this
/-! Kids. -/
def exS (l : List Int) (lo hi : Nat) : Bool := decide (lo ≤ l.length ∧ l.length ≤ hi) && l.all jY
def ifS (hi : Nat) (l : List Int) : Bool := decide (2 ≤ l.length ∧ l.length ≤ hi) && (jY (rd l 0) && (l.drop 1).all (· == 5))
def Dn (l : List Int) : Bool := decide (1 ≤ l.length ∧ l.length ≤ 9) && (rd l ((l.length - 1 : Nat) : Int) == 5 && (l.take (l.length - 1)).all (· == 4))
def nX (l : List Int) : Bool := (l.dropWhile (· == 2)).all (· == 3)
def iM (a : Int) (l : List Int) : Bool :=
 if a = 1 then nX l else if a = 3 ∨ a = 24 then Dn l else if a = 5 then l.all jP else if a = 9 then ifS 3 l else if a = 10 then ifS 2 l else if a = 8 then exS l 3 3
 else if a = 6 ∨ a = 7 ∨ a = 13 ∨ a = 14 ∨ a = 15 ∨ a = 17 ∨ a = 28 ∨ a = 30 then exS l 1 1 else if a = 22 then exS l 1 9 else if a = 23 then exS l 0 8 else if a = 26 ∨ a = 27 then exS l 2 2 else decide (l.length = 0)
theorem nD (l : List Int) (lo hi : Nat) : dP.f l (lo : Int) (hi : Int) = some (exS l lo hi) := by
 unfold dP.f exS mr.f
 by_cases c : lo ≤ l.length
 ·rw [if_pos (by omega)]
  by_cases c2 : l.length ≤ hi
  ·rw [if_pos (by omega), decide_eq_true ⟨c, c2⟩]; rfl
  rw [if_neg (by omega), decide_eq_false (by omega)]; rfl
 rw [if_neg (by omega), decide_eq_false (by omega)]; rfl
theorem Fh (a : Int) : eY.f a = some (jY a) := by
 unfold eY.f jY
 by_cases c : a ≥ 18
 ·rw [if_pos c]; congr 1; rw [decide_eq_decide]; omega
 rw [if_neg c]; congr 1; symm; exact decide_eq_false (by omega)
theorem xw (l : List Int) (hl : l.length ≤ 200000) : bM.f l = some (Dn l) := by
 unfold bM.f Dn jg.f
 by_cases c : 1 ≤ l.length
 ·rw [w64 (by omega) (by omega), show (l.length : Int) - 1 = ((l.length - 1 : Nat) : Int) by omega, if_pos (by omega)]
  by_cases c2 : l.length ≤ 9
  ·rw [if_pos (by omega), if_pos (by omega), if_pos (by omega), decide_eq_true ⟨c, c2⟩, Bool.true_and]
   by_cases c3 : rd l ((l.length - 1 : Nat) : Int) = 5
   ·rw [if_pos c3, if_pos (by omega), c3]; rfl
   rw [if_neg c3, show (rd l ((l.length - 1 : Nat) : Int) == 5) = false from beq_eq_false_iff_ne.2 c3]; rfl
  rw [if_neg (by omega), decide_eq_false (by omega)]; rfl
 rw [w64 (by omega) (by omega), if_neg (by omega), decide_eq_false (by omega)]; rfl
theorem AA (l : List Int) (hl : l.length ≤ 200000) : ∀ (m i : Nat), l.length = m + i → EvTo (fun k => bF.l0 k l (i : Int)) (nX (l.drop i)) := by
 intro m
 induction m with
 | zero =>
  intro i h
  refine EvTo.step (fun k => by rw [bF.l0]) (EvTo.neg (by omega) (EvTo.pos (by omega) (EvTo.pos (by omega) ?_)))
  rw [Int.toNat_natCast, List.drop_eq_nil_of_le (by omega)]
  exact EvTo.now
 | succ m ih =>
  intro i h
  have hi : i < l.length := by omega
  have hrd : rd l (i : Int) = l[i] := by simp [rd, List.getD_eq_getElem?_getD, List.getElem?_eq_getElem hi]
  refine EvTo.step (fun k => by rw [bF.l0]) (EvTo.pos (by omega) (EvTo.pos (by omega) ?_))
  rw [hrd, inc i (by omega)]
  by_cases c : l[i] = 2
  ·refine EvTo.pos c ?_
   rw [show nX (l.drop i) = nX (l.drop (i + 1)) from by unfold nX; rw [List.drop_eq_getElem_cons hi, List.dropWhile_cons, if_pos (by rw [c]; rfl)]]
   exact ih (i + 1) (by omega)
  refine EvTo.neg c (EvTo.pos (by omega) ?_)
  rw [Int.toNat_natCast, show nX (l.drop i) = (l.drop i).all (· == 3) from by unfold nX; rw [List.drop_eq_getElem_cons hi, List.dropWhile_cons, if_neg (by simpa using c)]]
  exact EvTo.now
theorem AL (l : List Int) (hl : l.length ≤ 200000) : EvTo (fun k => bF.f k l) (nX l) := by
 have := AA l hl l.length 0 (by omega)
 exact this
theorem pK {α : Type} {F : Nat → Option α} {v : α} (h : EvTo F v) : EvTo (fun k => (F k).bind fun t => some t) v := EvTo.bind h EvTo.now
theorem Dc (a : Int) (l : List Int) (hl : l.length ≤ 200000) (b : Bool) (hb : b = decide (a = 6 ∨ a = 7 ∨ a = 13 ∨ a = 14 ∨ a = 15 ∨ a = 17 ∨ a = 28 ∨ a = 30)) (h1 : a ≠ 1) (h2 : ¬ (a = 3 ∨ a = 24)) (h3 : a ≠ 5) (h4 : a ≠ 9) (h5 : a ≠ 10) (h6 : a ≠ 8) :
 EvTo (fun k => aJ.j2 k l (l.length : Int) a b) (iM a l) := by
 unfold iM
 rw [if_neg h1, if_neg h2, if_neg h3, if_neg h4, if_neg h5, if_neg h6]
 refine EvTo.step (fun k => by rw [aJ.j2]) ?_
 by_cases c : a = 6 ∨ a = 7 ∨ a = 13 ∨ a = 14 ∨ a = 15 ∨ a = 17 ∨ a = 28 ∨ a = 30
 ·rw [if_pos c]
  exact EvTo.pos Z68 (pK (EvTo.jB fun k => nD l 1 1))
 rw [if_neg c]
 refine EvTo.neg (by rw [hb]; simpa using c) ?_
 refine EvTo.both (fun _ => pK (EvTo.jB fun k => nD l 1 9)) (fun _ => EvTo.both (fun _ => pK (EvTo.jB fun k => nD l 0 8)) (fun _ => ?_))
 by_cases c3 : a = 26
 ·rw [if_pos (Or.inl c3)]; exact EvTo.pos c3 (pK (EvTo.jB fun k => nD l 2 2))
 refine EvTo.neg c3 ?_
 by_cases c4 : a = 27
 ·rw [if_pos (Or.inr c4)]; exact EvTo.pos c4 (pK (EvTo.jB fun k => nD l 2 2))
 rw [if_neg (show ¬ (a = 26 ∨ a = 27) by omega)]
 refine EvTo.neg c4 (EvTo.jB fun k => ?_)
 congr 1
 rw [Bool.eq_iff_iff, beq_iff_eq, decide_eq_true_eq]; omega
theorem DU {F : Nat → Option Bool} (l : List Int) (hi : Nat) (hF : ∀ k, F k = if (l.length : Int) ≥ 2 then (if (l.length : Int) ≤ (hi : Int) then (if 0 < (l.length : Int) then ((eY.f (rd l 0)).bind fun t153 => (if t153 = true then (if 1 ≤ (l.length : Int) then ((jg.f (l.drop 1) 5).bind fun t155 => (some t155)) else (none)) else (some false))) else (none)) else (some false)) else (some false)) :
 EvTo F (ifS hi l) := by
 refine EvTo.jB fun k => ?_
 rw [hF]
 unfold ifS
 by_cases c : 2 ≤ l.length
 ·rw [if_pos (by omega)]
  by_cases c2 : l.length ≤ hi
  ·rw [if_pos (by omega), if_pos (by omega), Fh, decide_eq_true ⟨c, c2⟩, Bool.true_and, Option.bind_some]
   cases jY (rd l 0)
   ·rfl
   rw [if_pos rfl, if_pos (by omega)]; rfl
  rw [if_neg (by omega), decide_eq_false (by omega)]; rfl
 rw [if_neg (by omega), decide_eq_false (by omega)]; rfl
theorem yw (a : Int) (l : List Int) (hl : l.length ≤ 200000) (b : Bool) (hb : b = decide (a = 9 ∨ a = 10)) (h1 : a ≠ 1) (h2 : ¬ (a = 3 ∨ a = 24)) (h3 : a ≠ 5) :
 EvTo (fun k => aJ.j1 k a l (l.length : Int) a b) (iM a l) := by
 refine EvTo.step (fun k => by rw [aJ.j1]) ?_
 by_cases c1 : a = 9
 ·rw [show iM a l = ifS 3 l from by unfold iM; rw [if_neg h1, if_neg h2, if_neg h3, if_pos c1]]
  exact EvTo.pos (by rw [hb]; exact decide_eq_true (.inl c1)) (EvTo.pos c1 (DU l 3 (fun k => rfl)))
 by_cases c2 : a = 10
 ·rw [show iM a l = ifS 2 l from by unfold iM; rw [if_neg h1, if_neg h2, if_neg h3, if_neg c1, if_pos c2]]
  exact EvTo.pos (by rw [hb]; exact decide_eq_true (.inr c2)) (EvTo.neg c1 (DU l 2 (fun k => rfl)))
 refine EvTo.neg (by rw [hb]; simp [c1, c2]) ?_
 by_cases c3 : a = 8
 ·refine EvTo.pos c3 ?_
  rw [show iM a l = exS l 3 3 from by unfold iM; rw [if_neg h1, if_neg h2, if_neg h3, if_neg c1, if_neg c2, if_pos c3]]
  exact pK (EvTo.jB fun k => nD l 3 3)
 refine EvTo.neg c3 ?_
 have go : ∀ b : Bool, b = decide (a = 6 ∨ a = 7 ∨ a = 13 ∨ a = 14 ∨ a = 15 ∨ a = 17 ∨ a = 28 ∨ a = 30) → EvTo (fun k => aJ.j2 k l (l.length : Int) a b) (iM a l) := fun b hb => Dc a l hl b hb h1 h2 h3 c1 c2 c3
 by_cases d1 : a = 6
 ·exact EvTo.pos d1 (go _ (by simp [d1]))
 refine EvTo.neg d1 ?_
 by_cases d2 : a = 7
 ·exact EvTo.pos d2 (go _ (by simp [d2]))
 refine EvTo.neg d2 ?_
 by_cases d3 : a = 13
 ·exact EvTo.pos d3 (go _ (by simp [d3]))
 refine EvTo.neg d3 ?_
 by_cases d4 : a = 14
 ·exact EvTo.pos d4 (go _ (by simp [d4]))
 refine EvTo.neg d4 ?_
 by_cases d5 : a = 15
 ·exact EvTo.pos d5 (go _ (by simp [d5]))
 refine EvTo.neg d5 ?_
 by_cases d6 : a = 17
 ·exact EvTo.pos d6 (go _ (by simp [d6]))
 refine EvTo.neg d6 ?_
 by_cases d7 : a = 28
 ·exact EvTo.pos d7 (go _ (by simp [d7]))
 exact EvTo.neg d7 (go _ Z69)
theorem yx (a : Int) (l : List Int) (hl : l.length ≤ 200000) (b : Bool) (hb : b = decide (a = 3 ∨ a = 24)) (h1 : a ≠ 1) : EvTo (fun k => aJ.j0 k a l (l.length : Int) a b) (iM a l) := by
 refine EvTo.step (fun k => by rw [aJ.j0]) ?_
 by_cases c : a = 3 ∨ a = 24
 ·refine EvTo.pos Z68 ?_
  rw [show iM a l = Dn l from by unfold iM; rw [if_neg h1, if_pos c]]
  exact pK (EvTo.jB fun k => xw l hl)
 refine EvTo.neg (by rw [hb]; simpa using c) ?_
 by_cases c1 : a = 5
 ·refine EvTo.pos c1 ?_
  rw [show iM a l = l.all jP from by unfold iM; rw [if_neg h1, if_neg c, if_pos c1]]
  exact EvTo.now
 refine EvTo.neg c1 ?_
 by_cases d1 : a = 9
 ·exact EvTo.pos d1 (yw a l hl _ (by simp [d1]) h1 c c1)
 exact EvTo.neg d1 (yw a l hl _ Z69 h1 c c1)
theorem EK (a : Int) (l : List Int) (hl : l.length ≤ 200000) : EvTo (fun k => aJ.f k a l) (iM a l) := by
 unfold aJ.f
 by_cases c : a = 1
 ·refine EvTo.pos c ?_
  rw [show iM a l = nX l from by unfold iM; rw [if_pos c]]
  exact pK (AL l hl)
 refine EvTo.neg c ?_
 by_cases d1 : a = 3
 ·exact EvTo.pos d1 (yx a l hl _ (by simp [d1]) c)
 exact EvTo.neg d1 (yx a l hl _ Z69 c)
end Go.Proofs.Ytendgafpkeadhaa.Tree
end
section
set_option linter.unusedVariables false
set_option linter.unusedSimpArgs false
namespace Go.Proofs.Ytendgafpkeadhaa.Tree
open Go Go.RowKit Go.Proofs.YtendgafpkeadhaaW.PrintWords Go.Proofs.Ytendgafpkeadhaa.Q Go.Proofs.Ytendgafpkeadhaa.Lex
/-- The kinds of a node's kids. -/
def wZ (l : List S41) (i : Nat) : List Int := (its l (aA l (i : Int)).f1.toNat ((i + 1 : Nat) : Int)).map fun p => (aA l p).f0
def pX (l : List S41) (i : Nat) : Bool := kD (aA l (i : Int)) && iM (aA l (i : Int)).f0 (wZ l i)
/-- The first node from a place on that is not right; so many are left. -/
def xI (l : List S41) : Nat → Nat → Int × Int
 | 0, _ => (0, 0)
 | m + 1, i => if pX l i then xI l m (i + 1) else (4, (i : Int))
def qI (l : List S41) : Bool := decide (gK l.length l 1 = some l.length)
def checkS (l : List S41) : Int × Int :=
 if 2000 < l.length then (3, 0) else if qI l = false then (2, 0) else if 60 < mG l [] 0 then (3, 0) else if (aA l 0).f0 ≠ 1 then (4, 0) else xI l l.length 0
/-- Names and texts are short. -/
def short (l : List S41) : Prop := ∀ x ∈ l, x.f2.size ≤ 3000 ∧ x.f4.size ≤ 3000
theorem zX {l : List S41} (h : short l) (i : Nat) (hi : i < l.length) : (aA l (i : Int)).f2.size ≤ 3000 ∧ (aA l (i : Int)).f4.size ≤ 3000 := by
 rw [vN l i hi]
 exact h _ (List.getElem_mem hi)
theorem BQ (l : List S41) (hl : l.length ≤ 100000) (hs : short l) (i : Nat) (hi : i < l.length) (ks : List Int) (hks : ks.length ≤ 100000) (hk : ∀ q ∈ ks, 0 ≤ q ∧ q < (l.length : Int)) (v : Int × Int)
 (hnext : EvTo (fun k => aW.l0 k l l (l.length : Int) ((i + 1 : Nat) : Int)) v) : ∀ (m idx : Nat) (acc : List Int), ks.length = m + idx → acc.length = idx →
 EvTo (fun k => aW.l1 k l (i : Int) acc l (l.length : Int) (i : Int) ks (ks.length : Int) (idx : Int) (aA l (i : Int)).f0 (aA l (i : Int)).f1 (aA l (i : Int)).f2 (aA l (i : Int)).f3 (aA l (i : Int)).f4)
  (if kD (aA l (i : Int)) && iM (aA l (i : Int)).f0 (acc ++ (ks.drop idx).map fun p => (aA l p).f0) then v else (4, (i : Int))) := by
 obtain ⟨h2, h4⟩ := zX hs i hi
 intro m
 induction m with
 | zero =>
  intro idx acc h1 ha
  refine EvTo.step (fun k => by rw [aW.l1]) ?_
  refine EvTo.neg (by omega) ?_
  rw [List.drop_eq_nil_of_le (by omega), List.map_nil, List.append_nil]
  refine EvTo.bind (Bg _ h2 h4) ?_
  cases kD (aA l (i : Int)) with
  | false => exact EvTo.neg (by simp) EvTo.now
  | true =>
   refine EvTo.pos rfl (EvTo.bind (EK _ acc (by omega)) ?_)
   rw [Bool.true_and]
   cases iM (aA l (i : Int)).f0 acc with
   | false => exact EvTo.neg (by simp) EvTo.now
   | true =>
    refine EvTo.pos rfl ?_
    rw [inc i (by omega)]
    exact hnext
 | succ m ih =>
  intro idx acc h1 ha
  have hx : idx < ks.length := by omega
  have hrd : rd ks (idx : Int) = ks[idx] := by simp [rd, List.getD_eq_getElem?_getD, List.getElem?_eq_getElem hx]
  have hq := hk _ (List.getElem_mem hx)
  refine EvTo.step (fun k => by rw [aW.l1]) ?_
  refine EvTo.pos (by omega) (EvTo.pos (by omega) (EvTo.pos (by omega) ?_))
  rw [hrd, inc idx (by omega)]
  refine EvTo.pos hq.1 (EvTo.pos hq.2 (EvTo.pos (by omega) ?_))
  have := ih (idx + 1) (acc ++ [(aA l ks[idx]).f0]) (by omega) (by simp [ha])
  rw [List.append_assoc] at this
  rw [List.drop_eq_getElem_cons hx, List.map_cons]
  exact this
theorem BR (l : List S41) (hl : l.length ≤ 100000) (hs : short l) (hw : gK l.length l 1 = some l.length) : ∀ (m i : Nat), l.length = m + i → EvTo (fun k => aW.l0 k l l (l.length : Int) (i : Int)) (xI l m i) := by
 intro m
 induction m with
 | zero =>
  intro i h1
  refine EvTo.step (fun k => by rw [aW.l0]) ?_
  exact EvTo.neg (by omega) EvTo.now
 | succ m ih =>
  intro i h1
  have hi : i < l.length := by omega
  obtain ⟨hK, hK1, hK2⟩ := xP hl hw i hi
  refine EvTo.step (fun k => by rw [aW.l0]) ?_
  refine EvTo.pos (by omega) (EvTo.pos (by omega) (EvTo.pos (by omega) (EvTo.bind hK ?_)))
  have := BQ l hl hs i hi _ hK1 (fun q hq => by have := hK2 q hq; omega) _ (ih (i + 1) (by omega)) _ 0 [] rfl rfl
  rw [List.drop_zero, List.nil_append] at this
  exact this
theorem sQ {l : List S41} : iZ l 0 = (l.length : Int) ∧ l ≠ [] ↔ gK l.length l 1 = some l.length := by
 unfold iZ
 rw [if_neg (by omega), Int.toNat_zero, List.drop_zero]
 cases h : gK l.length l 1 with
 | none =>
  simp only [oZ]; constructor; · intro h; omega
  intro h; cases h
 | some m =>
  have := uF _ _ _ _ h
  simp only [oZ, Option.some.injEq]
  constructor
  ·intro h; omega
  intro h; exact ⟨by omega, by rintro rfl; simp at this; omega⟩
theorem DF (l : List S41) (hl : l.length ≤ 100000) (hs : short l) : EvTo (fun k => aW.f k l) (checkS l) := by
 unfold aW.f checkS
 by_cases c : 2000 < l.length
 ·rw [if_pos c]; exact EvTo.pos (by omega) EvTo.now
 rw [if_neg c]
 refine EvTo.neg (by omega) ?_
 by_cases c1 : l = []
 ·subst c1
  refine EvTo.pos rfl (EvTo.step (fun k => by rw [aW.j0]) (EvTo.pos rfl ?_))
  exact EvTo.now
 have hlen : l.length ≠ 0 := fun h => c1 (List.eq_nil_of_length_eq_zero h)
 refine EvTo.neg (by omega) (EvTo.bind (ug l hl 0) ?_)
 by_cases hw : gK l.length l 1 = some l.length
 ·rw [show qI l = true from decide_eq_true hw, if_neg (by simp)]
  refine EvTo.step (fun k => by rw [aW.j0]) ?_
  refine EvTo.neg (by rw [(sQ.2 hw).1]; simp) ?_
  have hwb : nU l l.length = true := yU l l.length (Nat.le_refl _) (fun q hq => by
   obtain ⟨m', _, e⟩ := yE _ _ _ _ q hw (Nat.le_refl 1) hq
   rw [e]; rfl)
  have hd := DD l hl
  rw [hwb, if_pos rfl] at hd
  refine EvTo.bind hd ?_
  by_cases c2 : 60 < mG l [] 0
  ·rw [if_pos c2]; exact EvTo.pos (by omega) EvTo.now
  rw [if_neg c2]
  refine EvTo.neg (by omega) (EvTo.pos (by omega) ?_)
  by_cases c3 : (aA l 0).f0 = 1
  ·rw [if_neg (fun q => q c3)]
   exact EvTo.pos c3 (BR l hl hs hw l.length 0 (by omega))
  rw [if_pos c3]
  exact EvTo.neg c3 EvTo.now
 rw [show qI l = false from decide_eq_false hw, if_pos rfl]
 refine EvTo.step (fun k => by rw [aW.j0]) ?_
 refine EvTo.pos ?_ EvTo.now
 rw [bne_iff_ne]
 intro e
 exact hw (sQ.1 ⟨e, c1⟩)
/-- Of nodes that are right each one is. -/
theorem zH (l : List S41) : ∀ (m i : Nat), (xI l m i).1 = 0 → ∀ j, i ≤ j → j < i + m → pX l j = true := by
 intro m
 induction m with
 | zero => intro i _ j h1 h2; omega
 | succ m ih =>
  intro i h j h1 h2
  simp only [xI] at h
  split at h
  ·rename_i hg
   rcases Nat.eq_or_lt_of_le h1 with rfl | h1
   ·exact hg
   exact ih (i + 1) h j h1 (by omega)
  simp at h
theorem zD {l : List S41} (h : (checkS l).1 = 0) : l.length ≤ 2000 ∧ gK l.length l 1 = some l.length ∧ mG l [] 0 ≤ 60 ∧ (aA l 0).f0 = 1 ∧ ∀ i, i < l.length → pX l i = true := by
 unfold checkS at h
 split at h
 ·cases h
 split at h
 ·cases h
 split at h
 ·cases h
 split at h
 ·cases h
 rename_i h1 h2 h3 h4
 refine ⟨by omega, ?_, by omega, by simpa using h4, fun i hi => zH l l.length 0 h i (Nat.zero_le _) (by omega)⟩
 unfold qI at h2
 simpa using h2
end Go.Proofs.Ytendgafpkeadhaa.Tree
end
section
set_option linter.unusedVariables false
set_option linter.unusedSimpArgs false
namespace Go.Proofs.Ytendgafpkeadhaa.Par
open Go Go.RowKit Go.Proofs.YtendgafpkeadhaaW.PrintWords Go.Proofs.Ytendgafpkeadhaa.Q Go.Proofs.Ytendgafpkeadhaa.Lex Go.Proofs.Ytendgafpkeadhaa.Tree
/-- What a reading comes to: a tree with which nothing is wrong; or no tree, a fault and its place. -/
def Reads (M : Nat) (F : Nat → Option (List S41 × Int × Int)) : Prop := ∃ l e a, EvTo F (l, e, a) ∧ (e = 0 → a = 0 ∧ EvTo (fun k => aW.f k l) (0, 0)) ∧ (e ≠ 0 → l = [] ∧ 0 ≤ a ∧ a ≤ (M : Int))
end Go.Proofs.Ytendgafpkeadhaa.Par
end
section
set_option linter.unusedVariables false
set_option linter.unusedSimpArgs false
namespace Go.Proofs.Ytendgafpkeadhaa.Par
open Go Go.RowKit Go.Proofs.YtendgafpkeadhaaW.PrintWords Go.Proofs.Ytendgafpkeadhaa.Q Go.Proofs.Ytendgafpkeadhaa.Lex Go.Proofs.Ytendgafpkeadhaa.Tree
/-- A token without its place. -/
def core (t : S38) : Int × ByteArray × Int := (t.f0, t.f1, t.f2)
abbrev Sim (l l' : List S38) : Prop := l.map core = l'.map core
theorem Sim.len {l l' : List S38} (h : Sim l l') : l.length = l'.length := by have := congrArg List.length h; simpa using this
theorem Sim.nil {l : List S38} (h : Sim [] l) : l = [] := by have := h.len; exact List.length_eq_zero_iff.1 this.symm
theorem Sim.cons {t : S38} {u l : List S38} (h : Sim (t :: u) l) : ∃ t' u', l = t' :: u' ∧ core t = core t' ∧ Sim u u' := by
 cases l with
 | nil => cases h
 | cons t' u' => exact ⟨t', u', rfl, (List.cons.inj h).1, (List.cons.inj h).2⟩
theorem iE {t t' : S38} (h : core t = core t') : t.f0 = t'.f0 ∧ t.f1 = t'.f1 ∧ t.f2 = t'.f2 := by
 unfold core at h
 simp only [Prod.mk.injEq] at h
 exact h
theorem oL {t t' : S38} {u u' : List S38} (h : core t = core t') : wB (t :: u) = wB (t' :: u') := by
 obtain ⟨h1, h2, _⟩ := iE h
 show (if t.f0 = 5 ∨ t.f0 = 4 then t.f1 else E) = (if t'.f0 = 5 ∨ t'.f0 = 4 then t'.f1 else E)
 rw [h1, h2]
theorem sU {r T b : List S38} (h : r <:+ T ++ b) (hl : b.length ≤ r.length) : ∃ T2, r = T2 ++ b := by
 have := List.suffix_of_suffix_length_le (List.suffix_append T b) h hl
 obtain ⟨s, hs⟩ := this
 exact ⟨s, hs.symm⟩
theorem ni {T b : List S38} (h : T ++ b <:+ b) : T = [] := by
 have := h.length_le
 rw [List.length_append] at this
 exact List.length_eq_zero_iff.1 (by omega)
/-- What is read hangs on what is passed; on what stands behind it only as far as C says. -/
structure Loc {α : Type} (C : List S38 → List S38 → Prop) (P : Ps α) : Prop where
 suf : ∀ l x r, P l = .ok (x, r) → r <:+ l
 sufE : ∀ l r, P l = .error (some r) → r <:+ l
 ok : ∀ T T' b b' x T2, Sim T T' → (T2 = [] → C b b') → P (T ++ b) = .ok (x, T2 ++ b) → ∃ T2', Sim T2 T2' ∧ P (T' ++ b') = .ok (x, T2' ++ b')
 er : ∀ T T' b b' T2, Sim T T' → T2 ≠ [] → P (T ++ b) = .error (some (T2 ++ b)) → ∃ T2', Sim T2 T2' ∧ P (T' ++ b') = .error (some (T2' ++ b'))
/-- Something is passed. -/
def Cns {α : Type} (P : Ps α) : Prop := ∀ l x r, P l = .ok (x, r) → r.length < l.length
structure LC {α : Type} (C : List S38 → List S38 → Prop) (P : Ps α) : Prop where
 loc : Loc C P
 cns : Cns P
abbrev Tr : List S38 → List S38 → Prop := fun _ _ => True
theorem fH {α β : Type} {P : Ps α} {f : α → Ps β} {l : List S38} {y : β} {r : List S38} (h : bnd P f l = .ok (y, r)) : ∃ x s, P l = .ok (x, s) ∧ f x s = .ok (y, r) := by
 unfold bnd at h
 match hp : P l, h with
 | .ok (x, s), h => exact ⟨x, s, rfl, h⟩
 | .error e, h => cases h
theorem rJ {α β : Type} {P : Ps α} {f : α → Ps β} {l : List S38} {r : List S38} (h : bnd P f l = .error (some r)) : P l = .error (some r) ∨ ∃ x s, P l = .ok (x, s) ∧ f x s = .error (some r) := by
 unfold bnd at h
 match hp : P l, h with
 | .ok (x, s), h => exact Or.inr ⟨x, s, rfl, h⟩
 | .error e, h => exact Or.inl (by simpa using h)
theorem jI {α β : Type} {P : Ps α} {f : α → Ps β} {l s : List S38} {x : α} (h : P l = .ok (x, s)) : bnd P f l = f x s := by
 unfold bnd; rw [h]
theorem yI {α β : Type} {P : Ps α} {f : α → Ps β} {l s : List S38} (h : P l = .error (some s)) : bnd P f l = .error (some s) := by
 unfold bnd; rw [h]
theorem Loc.gen {α β : Type} {C1 C2 : List S38 → List S38 → Prop} {P : Ps α} {f : α → Ps β} (hp : Loc C1 P) (hf : ∀ x, Loc C2 (f x)) (hc : (∀ b b', C2 b b' → C1 b b') ∨ ∀ x, Cns (f x)) : Loc C2 (bnd P f) where
 suf l y r h := by
  obtain ⟨x, s, h1, h2⟩ := fH h
  exact ((hf x).suf _ _ _ h2).trans (hp.suf _ _ _ h1)
 sufE l r h := by
  rcases rJ h with h1 | ⟨x, s, h1, h2⟩
  ·exact hp.sufE _ _ h1
  exact ((hf x).sufE _ _ h2).trans (hp.suf _ _ _ h1)
 ok T T' b b' y T3 hs hC h := by
  obtain ⟨x, s, h1, h2⟩ := fH h
  have s1 := hp.suf _ _ _ h1
  have s2 := (hf x).suf _ _ _ h2
  obtain ⟨T2, rfl⟩ := sU s1 (Nat.le_trans (by simp) s2.length_le)
  have hC1 : T2 = [] → C1 b b' := by
   rintro rfl
   rcases hc with hc | hc
   ·exact hc _ _ (hC (ni s2))
   have := hc x _ _ _ h2
   simp at this
   omega
  obtain ⟨T2', g1, g2⟩ := hp.ok T T' b b' x T2 hs hC1 h1
  obtain ⟨T3', e1, e2⟩ := (hf x).ok T2 T2' b b' y T3 g1 hC h2
  exact ⟨T3', e1, by rw [jI g2]; exact e2⟩
 er T T' b b' T3 hs hT h := by
  rcases rJ h with h1 | ⟨x, s, h1, h2⟩
  ·obtain ⟨T2', g1, g2⟩ := hp.er T T' b b' T3 hs hT h1
   exact ⟨T2', g1, yI g2⟩
  have s1 := hp.suf _ _ _ h1
  have s2 := (hf x).sufE _ _ h2
  obtain ⟨T2, rfl⟩ := sU s1 (Nat.le_trans (by simp) s2.length_le)
  have hne : T2 ≠ [] := by rintro rfl; exact hT (ni s2)
  obtain ⟨T2', g1, g2⟩ := hp.ok T T' b b' x T2 hs (fun h => absurd h hne) h1
  obtain ⟨T3', e1, e2⟩ := (hf x).er T2 T2' b b' T3 g1 hT h2
  exact ⟨T3', e1, by rw [jI g2]; exact e2⟩
theorem Cns.left {α β : Type} {C : List S38 → List S38 → Prop} {P : Ps α} {f : α → Ps β} (hp : Cns P) (hf : ∀ x, Loc C (f x)) : Cns (bnd P f) := fun l y r h => by
 obtain ⟨x, s, h1, h2⟩ := fH h
 have := hp _ _ _ h1
 have := ((hf x).suf _ _ _ h2).length_le
 omega
variable {α β : Type} {C C1 C2 : List S38 → List S38 → Prop}
/-- Behind what passes something, what passes something. -/
theorem LC.b1 {P : Ps α} {f : α → Ps β} (hp : LC C1 P) (hf : ∀ x, LC C2 (f x)) : LC C2 (bnd P f) := ⟨hp.loc.gen (fun x => (hf x).loc) (Or.inr fun x => (hf x).cns), Cns.left hp.cns fun x => (hf x).loc⟩
theorem LC.b2 {P : Ps α} {f : α → Ps β} (hp : LC C1 P) (hf : ∀ x, Loc C2 (f x)) (hc : ∀ b b', C2 b b' → C1 b b') : LC C2 (bnd P f) := ⟨hp.loc.gen hf (Or.inl hc), Cns.left hp.cns hf⟩
theorem LC.b3 {P : Ps α} {f : α → Ps β} (hp : LC Tr P) (hf : ∀ x, Loc C2 (f x)) : LC C2 (bnd P f) := hp.b2 hf fun _ _ _ => trivial
theorem LC.weak {P : Ps α} (hp : LC Tr P) : LC C P := ⟨⟨hp.loc.suf, hp.loc.sufE, fun T T' b b' x T2 h1 _ h2 => hp.loc.ok T T' b b' x T2 h1 (fun _ => trivial) h2, hp.loc.er⟩, hp.cns⟩
theorem Loc.ret (a : α) : Loc C (ret a) where
 suf l x r h := by cases h; exact List.suffix_refl _
 sufE l r h := by cases h
 ok T T' b b' x T2 hs hC h := by
  unfold Par.ret at h ⊢
  simp only [Except.ok.injEq, Prod.mk.injEq, List.append_cancel_right_eq] at h
  obtain ⟨rfl, rfl⟩ := h
  exact ⟨T', hs, rfl⟩
 er T T' b b' T2 hs hT h := by cases h
theorem LC.out : LC C (out : Ps α) where
 loc := { suf := fun l x r h => (by cases h), sufE := fun l r h => (by cases h), ok := fun T T' b b' x T2 _ _ h => (by cases h), er := fun T T' b b' T2 _ _ h => (by cases h) }
 cns l x r h := by cases h
theorem LC.fail : LC C (fun l => (.error (some l) : R α)) where
 loc := { suf := fun l x r h => (by cases h), sufE := fun l r h => (by cases h; exact List.suffix_refl _), ok := fun T T' b b' x T2 _ _ h => (by cases h), er := fun T T' b b' T2 hs _ h => (by
  simp only [Except.error.injEq, Option.some.injEq, List.append_cancel_right_eq] at h
  subst h
  exact ⟨T', hs, rfl⟩) }
 cns l x r h := by cases h
theorem LC.tk : LC C tk := by
 refine ⟨⟨fun l x r h => ?_, fun l r h => ?_, fun T T' b b' x T2 hs hC h => ?_, fun T T' b b' T2 hs hT h => ?_⟩, fun l x r h => ?_⟩
 ·cases l with
  | nil => cases h
  | cons t u => cases h; exact List.suffix_cons _ _
 ·cases l <;> cases h
 ·cases T with
  | nil =>
   cases b with
   | nil => cases h
   | cons t u =>
    have := congrArg (fun z : R Unit => match z with | .ok (_, r) => r.length | _ => 0) h
    simp [Par.tk] at this
    omega
  | cons t u =>
   obtain ⟨t', u', rfl, h1, h2⟩ := hs.cons
   simp only [Par.tk, List.cons_append, Except.ok.injEq, Prod.mk.injEq, List.append_cancel_right_eq, true_and] at h ⊢
   subst h
   exact ⟨u', h2, rfl⟩
 ·cases hl : T ++ b with
  | nil => rw [hl] at h; cases h
  | cons t u => rw [hl] at h; cases h
 cases l with
 | nil => cases h
 | cons t u => cases h; simp
theorem LC.head {G : ByteArray → Ps α} (h : ∀ w, LC C (G w)) : LC C (fun l => G (wB l) l) := by
 refine ⟨⟨fun l x r => (h _).loc.suf l x r, fun l r => (h _).loc.sufE l r, fun T T' b b' x T2 hs hC e => ?_, fun T T' b b' T2 hs hT e => ?_⟩, fun l x r => (h _).cns l x r⟩
 ·cases T with
  | nil =>
   have := (h _).cns _ _ _ e
   simp at this
   omega
  | cons t u =>
   obtain ⟨t', u', rfl, h1, h2⟩ := hs.cons
   rw [List.cons_append, oL (u' := u' ++ b') h1, ← List.cons_append] at e
   exact (h _).loc.ok _ _ b b' x T2 hs hC e
 cases T with
 | nil => exact absurd (ni ((h _).loc.sufE _ _ e)) hT
 | cons t u =>
  obtain ⟨t', u', rfl, h1, h2⟩ := hs.cons
  rw [List.cons_append, oL (u' := u' ++ b') h1, ← List.cons_append] at e
  exact (h _).loc.er _ _ b b' T2 hs hT e
theorem Loc.head {G : ByteArray → Ps α} (h : ∀ w, Loc C (G w)) (hd : ∀ b b' x, C b b' → G (wB b) b = .ok (x, b) → G (wB b') b' = .ok (x, b')) : Loc C (fun l => G (wB l) l) := by
 refine ⟨fun l x r => (h _).suf l x r, fun l r => (h _).sufE l r, fun T T' b b' x T2 hs hC e => ?_, fun T T' b b' T2 hs hT e => ?_⟩
 ·cases T with
  | nil =>
   obtain rfl := hs.nil
   obtain rfl := ni ((h _).suf _ _ _ e)
   exact ⟨[], rfl, hd b b' x (hC rfl) e⟩
  | cons t u =>
   obtain ⟨t', u', rfl, h1, h2⟩ := hs.cons
   rw [List.cons_append, oL (u' := u' ++ b') h1, ← List.cons_append] at e
   exact (h _).ok _ _ b b' x T2 hs hC e
 cases T with
 | nil => exact absurd (ni ((h _).sufE _ _ e)) hT
 | cons t u =>
  obtain ⟨t', u', rfl, h1, h2⟩ := hs.cons
  rw [List.cons_append, oL (u' := u' ++ b') h1, ← List.cons_append] at e
  exact (h _).er _ _ b b' T2 hs hT e
theorem LC.ite {c : Prop} [Decidable c] {P Q : Ps α} (h1 : c → LC C P) (h2 : ¬c → LC C Q) : LC C (fun l => if c then P l else Q l) := by
 by_cases h : c
 ·simp only [if_pos h]; exact h1 h
 simp only [if_neg h]; exact h2 h
theorem Loc.ite {c : Prop} [Decidable c] {P Q : Ps α} (h1 : c → Loc C P) (h2 : ¬c → Loc C Q) : Loc C (fun l => if c then P l else Q l) := by
 by_cases h : c
 ·simp only [if_pos h]; exact h1 h
 simp only [if_neg h]; exact h2 h
theorem LC.must (w : List UInt8) (hw : w ≠ []) : LC C (must w) := by
 have : LC C (fun l => (fun (v : ByteArray) (l : List S38) => if v.toList = w then bnd Par.tk (fun _ => Par.ret ()) l else (.error (some l) : R Unit)) (wB l) l) := LC.head (G := fun (v : ByteArray) (l : List S38) => if v.toList = w then bnd Par.tk (fun _ => Par.ret ()) l else (.error (some l) : R Unit)) fun v => LC.ite (fun _ => LC.tk.b3 fun _ => Loc.ret ()) (fun _ => LC.fail)
 have e : Par.must w = (fun l => (fun (v : ByteArray) (l : List S38) => if v.toList = w then bnd Par.tk (fun _ => Par.ret ()) l else (.error (some l) : R Unit)) (wB l) l) := by
  funext l
  unfold Par.must
  by_cases c : wd l = w
  ·rw [if_pos c]
   show _ = if wd l = w then _ else _
   rw [if_pos c]
   cases l with
   | nil => exact absurd (ui.symm.trans c).symm hw
   | cons t u => rfl
  rw [if_neg c]
  show _ = if wd l = w then _ else _
  rw [if_neg c]
 rw [e]; exact this
theorem kw {k : Int} {l : List S38} {t : S38} {r : List S38} (h : need k l = .ok (t, r)) : l = t :: r ∧ t.f0 = k := by
 cases l with
 | nil => cases h
 | cons s u =>
  unfold need at h
  by_cases c : s.f0 = k
  ·simp only [if_pos c, Except.ok.injEq, Prod.mk.injEq] at h
   obtain ⟨rfl, rfl⟩ := h
   exact ⟨rfl, c⟩
  simp only [if_neg c] at h; cases h
theorem oG {k : Int} {t : S38} {r : List S38} (h : t.f0 = k) : need k (t :: r) = .ok (t, r) := by simp [need, h]
theorem uw {k : Int} {l r : List S38} (h : need k l = .error (some r)) : r = l ∧ ∀ t u, l = t :: u → t.f0 ≠ k := by
 cases l with
 | nil => cases h; exact ⟨rfl, fun t u h => by cases h⟩
 | cons s u =>
  unfold need at h
  by_cases c : s.f0 = k
  ·simp only [if_pos c] at h; cases h
  simp only [if_neg c, Except.error.injEq, Option.some.injEq] at h
  exact ⟨h.symm, fun t u e => by obtain ⟨rfl, _⟩ := List.cons.inj e; exact c⟩
/-- A token of a kind, and what hangs on it, but not on its place. -/
theorem LC.need {k : Int} {f : S38 → Ps β} (hf : ∀ t, Loc C (f t)) (hc : ∀ t t', core t = core t' → f t = f t') : LC C (bnd (need k) f) := by
 refine ⟨⟨fun l y r h => ?_, fun l r h => ?_, fun T T' b b' y T2 hs hC h => ?_, fun T T' b b' T2 hs hT h => ?_⟩, fun l y r h => ?_⟩
 ·obtain ⟨t, s, h1, h2⟩ := fH h
  obtain ⟨rfl, _⟩ := kw h1
  exact ((hf t).suf _ _ _ h2).trans (List.suffix_cons _ _)
 ·rcases rJ h with h1 | ⟨t, s, h1, h2⟩
  ·rw [(uw h1).1]; exact List.suffix_refl _
  obtain ⟨rfl, _⟩ := kw h1
  exact ((hf t).sufE _ _ h2).trans (List.suffix_cons _ _)
 ·obtain ⟨t, s, h1, h2⟩ := fH h
  obtain ⟨e, hk⟩ := kw h1
  cases T with
  | nil =>
   rw [List.nil_append] at e
   have := ((hf t).suf _ _ _ h2).length_le
   rw [e] at this
   simp at this
   omega
  | cons a u =>
   obtain ⟨rfl, rfl⟩ := List.cons.inj e
   obtain ⟨t', u', rfl, g1, g2⟩ := hs.cons
   obtain ⟨T2', e1, e2⟩ := (hf _).ok u u' b b' y T2 g2 hC h2
   refine ⟨T2', e1, ?_⟩
   rw [List.cons_append, jI (oG ((iE g1).1 ▸ hk)), ← hc _ _ g1]
   exact e2
 ·cases T with
  | nil =>
   rcases rJ h with h1 | ⟨t, s, h1, h2⟩
   ·exact absurd (by have := (uw h1).1; simpa using this) hT
   obtain ⟨e, _⟩ := kw h1
   have := ((hf t).sufE _ _ h2).length_le
   rw [List.nil_append] at e
   rw [e] at this
   simp at this
   omega
  | cons a u =>
   obtain ⟨t', u', rfl, g1, g2⟩ := hs.cons
   rcases rJ h with h1 | ⟨t, s, h1, h2⟩
   ·obtain ⟨e, hn⟩ := uw h1
    have e := List.append_cancel_right e
    subst e
    refine ⟨t' :: u', hs, ?_⟩
    refine yI ?_
    have := hn a _ rfl
    rw [(iE g1).1] at this
    simp [Par.need, this]
   obtain ⟨e, hk⟩ := kw h1
   obtain ⟨rfl, rfl⟩ := List.cons.inj e
   obtain ⟨T2', e1, e2⟩ := (hf _).er u u' b b' T2 g2 hT h2
   refine ⟨T2', e1, ?_⟩
   rw [List.cons_append, jI (oG ((iE g1).1 ▸ hk)), ← hc _ _ g1]
   exact e2
 obtain ⟨t, s, h1, h2⟩ := fH h
 obtain ⟨rfl, _⟩ := kw h1
 have := ((hf t).suf _ _ _ h2).length_le
 simp
 omega
end Go.Proofs.Ytendgafpkeadhaa.Par
end
section
set_option linter.unusedVariables false
set_option linter.unusedSimpArgs false
namespace Go.Proofs.Ytendgafpkeadhaa.Par
open Go Go.RowKit Go.Proofs.YtendgafpkeadhaaW.PrintWords Go.Proofs.Ytendgafpkeadhaa.Q Go.Proofs.Ytendgafpkeadhaa.Lex Go.Proofs.Ytendgafpkeadhaa.Tree
/-- An expression does not go on with what stands there. -/
def St (l : List S38) : Prop := kN (wd l) = 0 ∧ wd l ≠ [40] ∧ wd l ≠ [91] ∧ wd l ≠ [46]
abbrev SC : List S38 → List S38 → Prop := fun b b' => St b ∧ St b'
abbrev Ce : List S38 → List S38 → Prop := fun b b' => wd b ≠ [101, 108, 115, 101] ∧ wd b' ≠ [101, 108, 115, 101]
structure LF (F : PF) : Prop where
 expr : LC SC F.expr
 block : LC Tr F.block
 bound : ∀ a : Int, 1 ≤ a → LC SC (F.bound a)
 unary : LC SC F.unary
variable {F : PF} {C : List S38 → List S38 → Prop}
theorem gy (w : List UInt8) (hw : w ≠ [] := by simp) : LC C (must w) := LC.must w hw
theorem mJ (H : LF F) (k : Int) (nm : ByteArray) : LC C (gU F k nm) := H.expr.b1 fun e => (gy [59]).b3 fun _ => Loc.ret _
theorem xG (k : Int) : LC C (mQ k) := (gy [59]).b3 fun _ => Loc.ret _
theorem Cc (H : LF F) (e : List S41) : LC C (oO F e) := by
 unfold oO
 split
 ·exact (gy [61]).b1 (C1 := Tr) fun _ => H.expr.b1 fun v => (gy [59]).b3 fun _ => Loc.ret _
 exact LC.out
theorem Ag (H : LF F) (e : List S41) : LC C (qU F e) := by
 cases e with
 | nil => exact LC.head (G := fun w l => if w.toList ≠ [61] then (bnd (must [59]) fun _ => ret (nd 17 E 0 E [[]])) l else (.error none : R (List S41))) fun w => LC.ite (fun _ => (gy [59]).b3 fun _ => Loc.ret _) (fun _ => LC.out)
 | cons x t => exact (LC.head (G := fun w l => if w.toList ≠ [61] then (bnd (must [59]) fun _ => ret (nd 17 E 0 E [x :: t])) l else if x.f0 = 21 then (bnd (must [61]) fun _ => gU F 7 x.f2) l else if x.f0 = 26 then oO F (x :: t) l else (.error (some l) : R (List S41)))
  fun w => LC.ite (fun _ => (gy [59]).b3 fun _ => Loc.ret _) (fun _ => LC.ite (fun _ => (gy [61]).b1 (C1 := Tr) fun _ => mJ H _ _) (fun _ => LC.ite (fun _ => Cc H _) (fun _ => LC.fail))))
theorem CB (H : LF F) : LC C (oQ F) := H.expr.b1 fun e => Ag H e
theorem Ep (H : LF F) : LC Ce (jP F) :=
 LC.head (G := fun w l =>
  if w.toList = [108, 101, 116] then (bnd tk fun _ => bnd (need 1) fun t => bnd (must [61]) fun _ => gU F 6 t.f1) l
  else if w.toList = [105, 102] then (bnd tk fun _ => bnd F.expr fun e => bnd F.block fun b => fun l2 => if wd l2 = [101, 108, 115, 101] then (bnd tk fun _ => bnd F.block fun c => ret (nd 9 E 0 E [e, b, c])) l2 else .ok (nd 9 E 0 E [e, b], l2)) l
  else if w.toList = [119, 104, 105, 108, 101] then (bnd tk fun _ => bnd F.expr fun e => bnd F.block fun b => ret (nd 10 E 0 E [e, b])) l
  else if w.toList = [98, 114, 101, 97, 107] then (bnd tk fun _ => mQ 11) l
  else if w.toList = [99, 111, 110, 116, 105, 110, 117, 101] then (bnd tk fun _ => mQ 12) l
  else if w.toList = [121, 105, 101, 108, 100] then (bnd tk fun _ => mQ 16) l
  else if w.toList = [114, 101, 116, 117, 114, 110] then (bnd tk fun _ => gU F 13 E) l
  else if w.toList = [112, 117, 116] then (bnd tk fun _ => gU F 14 E) l
  else if w.toList = [101, 109, 105, 116] then (bnd tk fun _ => gU F 15 E) l
  else oQ F l) fun w =>
 LC.ite (fun _ => LC.tk.b1 (C1 := Tr) fun _ => LC.need (fun t => ((gy [61]).b1 (C1 := Tr) fun _ => mJ H _ _).loc) (by intro t t' h; simp only [(iE h).2.1]))
 fun _ => LC.ite (fun _ => LC.tk.b1 (C1 := Tr) fun _ => H.expr.b1 fun e => H.block.b3 fun b =>
  Loc.head (G := fun w l2 => if w.toList = [101, 108, 115, 101] then (bnd tk fun _ => bnd F.block fun c => ret (nd 9 E 0 E [e, b, c])) l2 else .ok (nd 9 E 0 E [e, b], l2))
   (fun w => Loc.ite (fun _ => (LC.tk.b1 (C1 := Tr) fun _ => H.block.b3 fun c => Loc.ret _).loc) (fun _ => Loc.ret _))
   (fun b1 b2 x hC h => by
    have h' : (if wd b1 = [101, 108, 115, 101] then (bnd tk fun _ => bnd F.block fun c => ret (nd 9 E 0 E [e, b, c])) b1 else .ok (nd 9 E 0 E [e, b], b1)) = .ok (x, b1) := h
    rw [if_neg hC.1] at h'
    cases h'
    exact if_neg hC.2))
 fun _ => LC.ite (fun _ => LC.tk.b1 (C1 := Tr) fun _ => H.expr.b1 fun e => H.block.b3 fun b => Loc.ret _)
 fun _ => LC.ite (fun _ => LC.tk.b1 (C1 := Tr) fun _ => xG _)
 fun _ => LC.ite (fun _ => LC.tk.b1 (C1 := Tr) fun _ => xG _)
 fun _ => LC.ite (fun _ => LC.tk.b1 (C1 := Tr) fun _ => xG _)
 fun _ => LC.ite (fun _ => LC.tk.b1 (C1 := Tr) fun _ => mJ H _ _)
 fun _ => LC.ite (fun _ => LC.tk.b1 (C1 := Tr) fun _ => mJ H _ _)
 fun _ => LC.ite (fun _ => LC.tk.b1 (C1 := Tr) fun _ => mJ H _ _)
 fun _ => CB H
theorem wJ (H : LF F) : ∀ (n : Nat) (acc : List (List S41)), LC Tr (mO F n acc)
 | 0, acc => LC.out
 | n + 1, acc => LC.head (G := fun w l => if w.toList = [125] then (bnd (must [125]) fun _ => ret (nd 5 E 0 E acc)) l else (bnd (jP F) fun s => mO F n (acc ++ [s])) l)
  fun w => LC.ite (fun _ => (gy [125]).b3 fun _ => Loc.ret _) (fun _ => (Ep H).b1 fun s => wJ H n _)
theorem yK (H : LF F) (N : Nat) : LC Tr (pF F N) := (gy [123]).b1 (C1 := Tr) fun _ => wJ H N []
theorem uy {one : Ps (List S41)} {Co : List S38 → List S38 → Prop} (ho : LC Co one) : ∀ (n : Nat) (acc : List (List S41)), LC Tr (lq one n acc)
 | 0, acc => LC.out
 | n + 1, acc => LC.head (G := fun w l => if w.toList = [41] then (bnd (must [41]) fun _ => ret acc) l
  else if acc = [] then (bnd one fun x => lq one n (acc ++ [x])) l else (bnd (must [44]) fun _ => bnd one fun x => lq one n (acc ++ [x])) l)
  fun w => LC.ite (fun _ => (gy [41]).b3 fun _ => Loc.ret _) (fun _ => LC.ite (fun _ => ho.b1 fun x => uy ho n _) (fun _ => (gy [44]).b1 (C1 := Tr) fun _ => ho.b1 fun x => uy ho n _))
theorem wX {one : Ps (List S41)} {Co : List S38 → List S38 → Prop} (ho : LC Co one) (N : Nat) : LC Tr (Par.dn one N) := (gy [40]).b1 (C1 := Tr) fun _ => uy ho N []
theorem CJ : LC Tr lZ := LC.need (fun t => Loc.ret _) (by intro t t' h; simp only [(iE h).2.1])
theorem nZ (H : LF F) (N : Nat) (k : Int) (nm : ByteArray) : LC Tr (fB F N k nm) := (wX CJ N).b1 fun ps => (yK H N).b3 fun b => Loc.ret _
theorem EF (H : LF F) (N : Nat) : LC SC (vT F N) :=
 LC.need (f := fun t => fun l => if wd l = [46] then (bnd tk fun _ => bnd (need 1) fun u => bnd (Par.dn F.expr N) fun ks => ret (nd 23 t.f1 0 u.f1 ks)) l else .ok (nd 21 t.f1 0 E [], l))
  (fun t => Loc.head (G := fun w l => if w.toList = [46] then (bnd tk fun _ => bnd (need 1) fun u => bnd (Par.dn F.expr N) fun ks => ret (nd 23 t.f1 0 u.f1 ks)) l else .ok (nd 21 t.f1 0 E [], l))
   (fun w => Loc.ite (fun _ => (LC.tk.b1 (C1 := Tr) fun _ => LC.need (fun u => ((wX H.expr N).b3 fun ks => Loc.ret _).loc) (by intro t t' h; simp only [(iE h).2.1])).loc) (fun _ => Loc.ret _))
   (fun b1 b2 x hC h => by
    have h' : (if wd b1 = [46] then (bnd tk fun _ => bnd (need 1) fun u => bnd (Par.dn F.expr N) fun ks => ret (nd 23 t.f1 0 u.f1 ks)) b1 else .ok (nd 21 t.f1 0 E [], b1)) = .ok (x, b1) := h
    rw [if_neg hC.1.2.2.2] at h'
    cases h'
    exact if_neg hC.2.2.2.2)) (by intro t t' h; simp only [(iE h).2.1])
theorem kG (N : Nat) (t : S38) (r : List S38) : mf F N (t :: r) = if t.f0 = 2 then .ok (nd 19 E t.f2 E [], r) else if t.f0 = 3 then .ok (nd 20 E 0 t.f1 [], r) else vT F N (t :: r) := rfl
theorem EI (H : LF F) (N : Nat) : LC SC (mf F N) := by
 have hn := EF H N
 have cns : Cns (mf F N) := fun l x r h => by
  cases l with
  | nil => cases h
  | cons t u =>
   rw [kG] at h
   by_cases c1 : t.f0 = 2
   ·rw [if_pos c1] at h; cases h; simp
   rw [if_neg c1] at h
   by_cases c2 : t.f0 = 3
   ·rw [if_pos c2] at h; cases h; simp
   rw [if_neg c2] at h
   exact hn.cns _ _ _ h
 refine ⟨⟨fun l x r h => ?_, fun l r h => ?_, fun T T' b b' x T2 hs hC h => ?_, fun T T' b b' T2 hs hT h => ?_⟩, cns⟩
 ·cases l with
  | nil => cases h
  | cons t u =>
   rw [kG] at h
   by_cases c1 : t.f0 = 2
   ·rw [if_pos c1] at h; cases h; exact List.suffix_cons _ _
   rw [if_neg c1] at h
   by_cases c2 : t.f0 = 3
   ·rw [if_pos c2] at h; cases h; exact List.suffix_cons _ _
   rw [if_neg c2] at h
   exact hn.loc.suf _ _ _ h
 ·cases l with
  | nil => cases h; exact List.suffix_refl _
  | cons t u =>
   rw [kG] at h
   by_cases c1 : t.f0 = 2
   ·rw [if_pos c1] at h; cases h
   rw [if_neg c1] at h
   by_cases c2 : t.f0 = 3
   ·rw [if_pos c2] at h; cases h
   rw [if_neg c2] at h
   exact hn.loc.sufE _ _ h
 ·cases T with
  | nil =>
   have := cns _ _ _ h
   simp at this
   omega
  | cons t u =>
   obtain ⟨t', u', rfl, h1, h2⟩ := hs.cons
   obtain ⟨g0, g1, g2⟩ := iE h1
   rw [List.cons_append, kG] at h ⊢
   rw [← g0, ← g1, ← g2]
   by_cases c1 : t.f0 = 2
   ·rw [if_pos c1] at h ⊢
    simp only [Except.ok.injEq, Prod.mk.injEq, List.append_cancel_right_eq] at h
    obtain ⟨rfl, rfl⟩ := h
    exact ⟨u', h2, rfl⟩
   rw [if_neg c1] at h ⊢
   by_cases c2 : t.f0 = 3
   ·rw [if_pos c2] at h ⊢
    simp only [Except.ok.injEq, Prod.mk.injEq, List.append_cancel_right_eq] at h
    obtain ⟨rfl, rfl⟩ := h
    exact ⟨u', h2, rfl⟩
   rw [if_neg c2] at h ⊢
   exact hn.loc.ok (t :: u) (t' :: u') b b' x T2 hs hC h
 cases T with
 | nil =>
  cases b with
  | nil =>
   simp only [List.append_nil, mf, Except.error.injEq, Option.some.injEq] at h
   exact absurd h.symm hT
  | cons t u =>
   rw [List.nil_append, kG] at h
   by_cases c1 : t.f0 = 2
   ·rw [if_pos c1] at h; cases h
   rw [if_neg c1] at h
   by_cases c2 : t.f0 = 3
   ·rw [if_pos c2] at h; cases h
   rw [if_neg c2] at h
   exact absurd (ni (hn.loc.sufE _ _ h)) hT
 | cons t u =>
  obtain ⟨t', u', rfl, h1, h2⟩ := hs.cons
  obtain ⟨g0, g1, g2⟩ := iE h1
  rw [List.cons_append, kG] at h ⊢
  rw [← g0, ← g1, ← g2]
  by_cases c1 : t.f0 = 2
  ·rw [if_pos c1] at h; cases h
  rw [if_neg c1] at h ⊢
  by_cases c2 : t.f0 = 3
  ·rw [if_pos c2] at h; cases h
  rw [if_neg c2] at h ⊢
  exact hn.loc.er (t :: u) (t' :: u') b b' T2 hs hT h
theorem Ez (H : LF F) (N : Nat) : LC SC (qR F N) :=
 LC.head (G := fun w l =>
  if w.toList = [110, 105, 108] then (bnd tk fun _ => ret (nd 18 E 0 E [])) l
  else if w.toList = [115, 116, 97, 116, 101] then (bnd tk fun _ => ret (nd 29 E 0 E [])) l
  else if w.toList = [123] then (bnd tk fun _ => bnd (must [125]) fun _ => ret (nd 25 E 0 E [])) l
  else if w.toList = [102, 110] then (bnd tk fun _ => fB F N 24 E) l
  else if w.toList = [40] then (bnd tk fun _ => bnd F.expr fun e => bnd (must [41]) fun _ => ret e) l
  else mf F N l) fun w =>
 LC.ite (fun _ => LC.tk.b3 fun _ => Loc.ret _)
 fun _ => LC.ite (fun _ => LC.tk.b3 fun _ => Loc.ret _)
 fun _ => LC.ite (fun _ => LC.tk.b1 (C1 := Tr) fun _ => (gy [125]).b3 fun _ => Loc.ret _)
 fun _ => LC.ite (fun _ => LC.tk.b1 (C1 := Tr) fun _ => (nZ H N _ _).weak)
 fun _ => LC.ite (fun _ => LC.tk.b1 (C1 := Tr) fun _ => H.expr.b1 fun e => (gy [41]).b3 fun _ => Loc.ret _)
 fun _ => EI H N
theorem ut (H : LF F) (N : Nat) : ∀ (n : Nat) (e : List S41), Loc SC (lG F N n e)
 | 0, e => LC.out.loc
 | n + 1, e => Loc.head (G := fun w l => if w.toList = [40] then (bnd (Par.dn F.expr N) fun ks => lG F N n (nd 22 E 0 E ([e] ++ ks))) l
  else if w.toList = [91] then (bnd tk fun _ => bnd F.expr fun i => bnd (must [93]) fun _ => lG F N n (nd 26 E 0 E [e, i])) l
  else .ok (e, l))
  (fun w => Loc.ite (fun _ => ((wX H.expr N).b3 fun ks => ut H N n _).loc) (fun _ => Loc.ite (fun _ => (LC.tk.b1 (C1 := Tr) fun _ => H.expr.b1 fun i => (gy [93]).b3 fun _ => ut H N n _).loc) (fun _ => Loc.ret _)))
  (fun b1 b2 x hC h => by
   have h' : (if wd b1 = [40] then (bnd (Par.dn F.expr N) fun ks => lG F N n (nd 22 E 0 E ([e] ++ ks))) b1 else if wd b1 = [91] then (bnd tk fun _ => bnd F.expr fun i => bnd (must [93]) fun _ => lG F N n (nd 26 E 0 E [e, i])) b1 else .ok (e, b1)) = .ok (x, b1) := h
   rw [if_neg hC.1.2.1, if_neg hC.1.2.2.1] at h'
   cases h'
   exact (if_neg hC.2.2.1).trans (if_neg hC.2.2.2.1))
theorem xX (H : LF F) (N : Nat) : LC SC (lW F N) :=
 LC.head (G := fun w l =>
  if w.toList = [45] ∨ w.toList = [110, 111, 116] ∨ w.toList = [108, 101, 110] then (bnd tk fun _ => bnd F.unary fun e => ret (nd 28 E 0 w [e])) l
  else if w.toList = [115, 112, 97, 119, 110] then (bnd tk fun _ => bnd F.unary fun e => ret (nd 30 E 0 E [e])) l
  else (bnd (qR F N) fun e => lG F N N e) l) fun w =>
 LC.ite (fun _ => LC.tk.b1 (C1 := Tr) fun _ => H.unary.b2 (fun e => Loc.ret _) fun _ _ h => h)
 fun _ => LC.ite (fun _ => LC.tk.b1 (C1 := Tr) fun _ => H.unary.b2 (fun e => Loc.ret _) fun _ _ h => h)
 fun _ => (Ez H N).b2 (fun e => ut H N N e) fun _ _ h => h
theorem wI (H : LF F) (a : Int) (ha : 1 ≤ a) : ∀ (n : Nat) (e : List S41), Loc SC (lQ F a n e)
 | 0, e => LC.out.loc
 | n + 1, e => Loc.head (G := fun w l => if kN w.toList = a then (bnd tk fun _ => bnd (F.bound (a + 1)) fun e2 => if a = 3 then ret (nd 27 E 0 w [e, e2]) else lQ F a n (nd 27 E 0 w [e, e2])) l else .ok (e, l))
  (fun w => Loc.ite (fun _ => (LC.tk.b1 (C1 := Tr) fun _ => (H.bound (a + 1) (by omega)).b2 (C2 := SC) (fun e2 => by
   by_cases c : a = 3
   ·rw [if_pos c]; exact Loc.ret _
   rw [if_neg c]; exact wI H a ha n _) fun _ _ h => h).loc) (fun _ => Loc.ret _))
  (fun b1 b2 x hC h => by
   have h' : (if kN (wd b1) = a then (bnd tk fun _ => bnd (F.bound (a + 1)) fun e2 => if a = 3 then ret (nd 27 E 0 (wB b1) [e, e2]) else lQ F a n (nd 27 E 0 (wB b1) [e, e2])) b1 else .ok (e, b1)) = .ok (x, b1) := h
   have n1 : ¬ kN (wd b1) = a := by rw [hC.1.1]; omega
   have n2 : ¬ kN (wd b2) = a := by rw [hC.2.1]; omega
   rw [if_neg n1] at h'
   cases h'
   exact if_neg n2)
theorem yH (H : LF F) (N : Nat) (a : Int) (ha : 1 ≤ a) : LC SC (kS F N a) := by
 unfold kS
 by_cases c : a = 6
 ·rw [if_pos c]; exact xX H N
 rw [if_neg c]; exact (H.bound (a + 1) (by omega)).b2 (fun e => wI H a ha N e) fun _ _ h => h
theorem pfam_L : ∀ n, LF (pfam n)
 | 0 => ⟨LC.out, LC.out, fun _ _ => LC.out, LC.out⟩
 | n + 1 => ⟨yH (pfam_L n) n 1 (by omega), yK (pfam_L n) n, fun a h => yH (pfam_L n) n a h, xX (pfam_L n) n⟩
theorem DI : LC Tr rZ :=
 LC.need (fun a => ((gy [46]).b1 (C1 := Tr) fun _ => LC.need (fun b => ((gy [47]).b1 (C1 := Tr) fun _ => LC.need (fun c => ((gy [59]).b3 fun _ => Loc.ret _).loc) (by intro t t' h; simp only [(iE h).2.2])).loc) (by intro t t' h; simp only [(iE h).2.1])).loc) (by intro t t' h; simp only [(iE h).2.1])
end Go.Proofs.Ytendgafpkeadhaa.Par
end
section
set_option linter.unusedVariables false
set_option linter.unusedSimpArgs false
namespace Go.Proofs.Ytendgafpkeadhaa.Par
open Go Go.RowKit Go.Proofs.YtendgafpkeadhaaW.PrintWords Go.Proofs.Ytendgafpkeadhaa.Q Go.Proofs.Ytendgafpkeadhaa.Lex Go.Proofs.Ytendgafpkeadhaa.Tree
inductive GF : List S41 → List Int → Nat → Prop
 | nil : GF [] [] 0
 | cons (x : S41) (t v : List S41) (kt kv : List Int) (D1 D2 : Nat) (hx : x.f1 = (kt.length : Int)) (hf : kD x = true) (hk : iM x.f0 kt = true) (ht : GF t kt D1) (hv : GF v kv D2) : GF (x :: (t ++ v)) (x.f0 :: kv) (max (1 + D1) D2)
theorem GF.fo {u : List S41} {K : List Int} {D : Nat} (h : GF u K D) : Fo u K.length D := by
 induction h with
 | nil => exact Fo.nil
 | cons x t v kt kv D1 D2 hx hf hk ht hv ih1 ih2 => exact Fo.cons x t v kv.length D1 D2 (by omega) (by rw [hx, Int.toNat_natCast]; exact ih1) ih2
abbrev kd (l : List S41) (q : Int) : Int := (aA l q).f0
theorem Ba {l : List S41} {x : S41} {t : List S41} {p : Nat} (hd : l.drop p = x :: t) : aA l (p : Int) = x ∧ p < l.length := by
 have hp : p < l.length := by
  rcases Nat.lt_or_ge p l.length with h1 | h1
  ·exact h1
  rw [List.drop_eq_nil_of_le h1] at hd; cases hd
 rw [vN l p hp]
 rw [List.drop_eq_getElem_cons hp] at hd
 exact ⟨(List.cons.inj hd).1, hp⟩
theorem lK {l u rest : List S41} {p : Nat} (hd : l.drop p = u ++ rest) : l.drop (p + u.length) = rest := by
 rw [← List.drop_drop, hd, List.drop_left]
theorem Fo.its {u : List S41} {w D : Nat} (h : Fo u w D) : True := trivial
theorem GF.its {u : List S41} {K : List Int} {D : Nat} (h : GF u K D) : ∀ (l rest : List S41) (p : Nat), l.drop p = u ++ rest → (∀ y ∈ u, ¬ ((l.length : Int) < y.f1)) → (its l K.length (p : Int)).map (kd l) = K := by
 induction h with
 | nil => intro l rest p hd hn; rfl
 | cons x t v kt kv D1 D2 hx hf hk ht hv ih1 ih2 =>
  intro l rest p hd hn
  have hd' : l.drop p = (x :: t) ++ (v ++ rest) := by rw [hd]; simp
  have hn1 : ∀ y ∈ x :: t, ¬ ((l.length : Int) < y.f1) := fun y hy => hn y (by
   rcases List.mem_cons.1 hy with rfl | hy
   ·exact List.mem_cons_self
   exact List.mem_cons_of_mem _ (List.mem_append.2 (Or.inl hy)))
  have e := oJ (p := p) (by omega) (by rw [hx, Int.toNat_natCast]; exact ht.fo) hd' hn1
  obtain ⟨h1, _⟩ := Ba (by rw [hd]; rfl : l.drop p = x :: (t ++ v ++ rest))
  show kd l (p : Int) :: (Tree.its l kv.length (iZ l (p : Int))).map (kd l) = x.f0 :: kv
  rw [e, ih2 l rest _ (lK hd') (fun y hy => hn y (List.mem_cons_of_mem _ (List.mem_append.2 (Or.inr hy))))]
  unfold kd
  rw [h1]
theorem GF.good {u : List S41} {K : List Int} {D : Nat} (h : GF u K D) : ∀ (l rest : List S41) (p : Nat), l.drop p = u ++ rest → (∀ y ∈ u, ¬ ((l.length : Int) < y.f1)) → ∀ i, p ≤ i → i < p + u.length → pX l i = true := by
 induction h with
 | nil => intro l rest p hd hn i h1 h2; simp at h2; omega
 | cons x t v kt kv D1 D2 hx hf hk ht hv ih1 ih2 =>
  intro l rest p hd hn i h1 h2
  have hd' : l.drop p = [x] ++ (t ++ (v ++ rest)) := by rw [hd]; simp
  have hd1 : l.drop (p + 1) = t ++ (v ++ rest) := lK hd'
  have hd2 : l.drop (p + 1 + t.length) = v ++ rest := lK hd1
  have hn1 : ∀ y ∈ t, ¬ ((l.length : Int) < y.f1) := fun y hy => hn y (List.mem_cons_of_mem _ (List.mem_append.2 (Or.inl hy)))
  have hn2 : ∀ y ∈ v, ¬ ((l.length : Int) < y.f1) := fun y hy => hn y (List.mem_cons_of_mem _ (List.mem_append.2 (Or.inr hy)))
  simp only [List.length_cons, List.length_append] at h2
  rcases Nat.lt_or_ge i (p + 1) with c | c
  ·obtain rfl : i = p := by omega
   obtain ⟨e, _⟩ := Ba (by rw [hd]; rfl : l.drop i = x :: (t ++ v ++ rest))
   unfold pX wZ
   rw [e, hx, Int.toNat_natCast]
   have := ht.its l _ (i + 1) hd1 hn1
   unfold kd at this
   rw [this, hf, hk]; rfl
  rcases Nat.lt_or_ge i (p + 1 + t.length) with c2 | c2
  ·exact ih1 l _ (p + 1) hd1 hn1 i c c2
  exact ih2 l _ (p + 1 + t.length) hd2 hn2 i c2 (by omega)
theorem GF.CS {u : List S41} {w D : Nat} (h : Fo u w D) : ∀ (l rest : List S41) (p : Nat), l.drop p = u ++ rest → (∀ y ∈ u, ¬ ((l.length : Int) < y.f1)) → (∀ i, p ≤ i → i < p + u.length → pX l i = true) → ∃ K, K.length = w ∧ GF u K D := by
 induction h with
 | nil => intro l rest p hd hn hg; exact ⟨[], rfl, GF.nil⟩
 | cons x t v w D1 D2 hx ht hv ih1 ih2 =>
  intro l rest p hd hn hg
  have hd' : l.drop p = [x] ++ (t ++ (v ++ rest)) := by rw [hd]; simp
  have hd1 : l.drop (p + 1) = t ++ (v ++ rest) := lK hd'
  have hd2 : l.drop (p + 1 + t.length) = v ++ rest := lK hd1
  have hn1 : ∀ y ∈ t, ¬ ((l.length : Int) < y.f1) := fun y hy => hn y (List.mem_cons_of_mem _ (List.mem_append.2 (Or.inl hy)))
  have hn2 : ∀ y ∈ v, ¬ ((l.length : Int) < y.f1) := fun y hy => hn y (List.mem_cons_of_mem _ (List.mem_append.2 (Or.inr hy)))
  simp only [List.length_cons, List.length_append] at hg
  obtain ⟨kt, l1, g1⟩ := ih1 l _ (p + 1) hd1 hn1 (fun i a b => hg i (by omega) (by omega))
  obtain ⟨kv, l2, g2⟩ := ih2 l _ (p + 1 + t.length) hd2 hn2 (fun i a b => hg i (by omega) (by omega))
  have := hg p (Nat.le_refl _) (by omega)
  obtain ⟨e, _⟩ := Ba (by rw [hd]; rfl : l.drop p = x :: (t ++ v ++ rest))
  unfold pX wZ at this
  have hi := g1.its l _ (p + 1) hd1 hn1
  unfold kd at hi
  rw [e, ← l1, hi, Bool.and_eq_true] at this
  exact ⟨x.f0 :: kv, by simp [l2], GF.cons x t v kt kv D1 D2 (by omega) this.1 this.2 g1 g2⟩
theorem wL (l : List S41) : ∀ (m i : Nat), (∀ j, i ≤ j → j < i + m → pX l j = true) → xI l m i = (0, 0)
 | 0, _, _ => rfl
 | m + 1, i, h => by
  unfold xI
  rw [if_pos (h i (Nat.le_refl _) (by omega))]
  exact wL l m (i + 1) fun j a b => h j (by omega) (by omega)
/-- A module's tree that is right. -/
structure Mod (l : List S41) (x : S41) (t : List S41) (K : List Int) (D : Nat) : Prop where
 eq : l = x :: t
 len : l.length ≤ 2000
 kind : x.f0 = 1
 cnt : x.f1 = (K.length : Int)
 fld : kD x = true
 kids : nX K = true
 deep : D ≤ 59
 good : GF t K D
theorem zC {l : List S41} (h : (checkS l).1 = 0) : ∃ x t K D, Mod l x t K D := by
 obtain ⟨h1, h2, h3, h4, h5⟩ := zD h
 obtain ⟨x, t, D1, e, hx, ht, hn, hF⟩ := zN h2
 have hd := hF.depth
 obtain ⟨K, k1, g⟩ := GF.CS hF l [] 0 (by simp) hn (fun i _ a => h5 i (by omega))
 generalize hD : 1 + D1 = D at g
 cases g with
 | nil => simp at k1
 | cons x' t' v kt kv E1 E2 hx' hf hk ht' hv =>
  simp only [List.length_cons] at k1
  have : kv = [] := List.length_eq_zero_iff.1 (by omega)
  subst this
  cases hv
  simp only [List.append_nil] at e hF ht' hd hn h1 h2 h3 h4 h5 ⊢
  have h4' : x'.f0 = 1 := h4
  refine ⟨x', t', kt, E1, rfl, h1, h4', hx', hf, ?_, by omega, ht'⟩
  rw [h4'] at hk
  exact hk
theorem zk {l : List S41} {x : S41} {t : List S41} {K : List Int} {D : Nat} (h : Mod l x t K D) : checkS l = (0, 0) := by
 have hk1 : iM x.f0 K = true := by rw [h.kind]; exact h.kids
 have g0 := GF.cons x t [] K [] D 0 h.cnt h.fld hk1 h.good GF.nil
 rw [List.append_nil, ← h.eq] at g0
 have hF : Fo l 1 (max (1 + D) 0) := g0.fo
 have hk := hF.kids
 have hn : ∀ y ∈ l, ¬ ((l.length : Int) < y.f1) := fun y hy => by have := hk y hy; omega
 have hw : gK l.length l 1 = some l.length := by
  have := hF.gK (n := l.length) hn [] 0 (by omega)
  simpa using this
 have hd := hF.depth
 unfold checkS
 rw [if_neg (by have := h.len; omega), if_neg (by unfold qI; rw [decide_eq_true hw]; simp), if_neg (by have := h.deep; omega), if_neg (by rw [h.eq]; exact fun c => c h.kind)]
 exact wL l l.length 0 fun j _ a => g0.good l [] 0 (by simp) hn j (Nat.zero_le _) (by omega)
theorem Fo.uniq {u : List S41} {a D : Nat} (h : Fo u a D) : ∀ (u' r r' : List S41) (D' : Nat), Fo u' a D' → u ++ r = u' ++ r' → u = u' := by
 induction h with
 | nil => intro u' r r' D' h' e; exact (h'.none).1.symm
 | cons x t v w D1 D2 hx ht hv ih1 ih2 =>
  intro u' r r' D' h' e
  generalize hw : w + 1 = w1 at h'
  cases h' with
  | nil => omega
  | cons x' t' v' w' E1 E2 hx' ht' hv' =>
   obtain rfl : w = w' := by omega
   simp only [List.cons_append, List.append_assoc, List.cons.injEq] at e
   obtain ⟨rfl, e⟩ := e
   obtain rfl := ih1 t' _ _ _ ht' e
   obtain rfl := ih2 v' _ _ _ hv' (List.append_cancel_left e)
   rfl
def hk (e : List S41) : Int := (aA e 0).f0
/-- The trees of a forest, one by one. -/
theorem GF.flat : ∀ (ks : List (List S41)) (K : List Int) (D : Nat), (∀ e ∈ ks, ∃ d, Fo e 1 d) → K.length = ks.length → GF ks.flatten K D → K = ks.map hk ∧ ∀ e ∈ ks, ∃ d, d ≤ D ∧ GF e [hk e] d
 | [], K, D, _, hl, h => ⟨List.length_eq_zero_iff.1 hl, fun e he => by cases he⟩
 | e :: ks, K, D, hF, hl, h => by
  obtain ⟨d, hd⟩ := hF e List.mem_cons_self
  obtain ⟨x, t, d1, rfl, _, hx, ht⟩ := hd.one
  rw [List.flatten_cons] at h
  generalize hu : (x :: t) ++ ks.flatten = u at h
  cases h with
  | nil => simp at hu
  | cons x' t' v kt kv E1 E2 hx' hf hk' ht' hv =>
   simp only [List.cons_append, List.cons.injEq] at hu
   obtain ⟨rfl, hu⟩ := hu
   have ht'' : Fo t' x.f1.toNat E1 := by rw [hx', Int.toNat_natCast]; exact ht'.fo
   obtain rfl := Fo.uniq ht t' _ _ _ ht'' hu
   obtain rfl := List.append_cancel_left hu
   obtain ⟨h1, h2⟩ := GF.flat ks kv E2 (fun e he => hF e (List.mem_cons_of_mem _ he)) (by simpa using hl) hv
   refine ⟨by rw [h1]; rfl, fun e he => ?_⟩
   rcases List.mem_cons.1 he with rfl | he
   ·have := GF.cons x t [] kt [] E1 0 hx' hf hk' ht' GF.nil
    rw [List.append_nil] at this
    exact ⟨max (1 + E1) 0, by omega, this⟩
   obtain ⟨d, g1, g2⟩ := h2 e he
   exact ⟨d, by omega, g2⟩
theorem GF.join : ∀ (ks : List (List S41)) (B : Nat), (∀ e ∈ ks, ∃ d, d ≤ B ∧ GF e [hk e] d) → ∃ D, D ≤ B ∧ GF ks.flatten (ks.map hk) D
 | [], B, _ => ⟨0, by omega, GF.nil⟩
 | e :: ks, B, h => by
  obtain ⟨d, h1, h2⟩ := h e List.mem_cons_self
  obtain ⟨D, h3, h4⟩ := GF.join ks B (fun e he => h e (List.mem_cons_of_mem _ he))
  generalize hK : [hk e] = K at h2
  cases h2 with
  | nil => cases hK
  | cons x t v kt kv E1 E2 hx hf hk' ht hv =>
   obtain ⟨e1, e2⟩ := List.cons.inj hK
   subst e2
   cases hv
   rw [List.append_nil] at e1 ⊢
   have := GF.cons x t _ kt _ E1 D hx hf hk' ht h4
   refine ⟨max (1 + E1) D, by omega, ?_⟩
   rw [List.flatten_cons, List.map_cons]
   exact this
/-- A module of such kids. -/
def KF (ks : List (List S41)) : Prop := ∀ e ∈ ks, ∃ d, Fo e 1 d
theorem AO {nm : ByteArray} {n : Int} {ks : List (List S41)} (hF : KF ks) (h : (checkS (nd 1 nm n E ks)).1 = 0) : (nd 1 nm n E ks).length ≤ 2000 ∧ kD ⟨1, 0, nm, n, E⟩ = true ∧ nX (ks.map hk) = true ∧ ∀ e ∈ ks, ∃ d, d ≤ 59 ∧ GF e [hk e] d := by
 obtain ⟨x, t, K, D, m⟩ := zC h
 obtain ⟨rfl, rfl⟩ := List.cons.inj m.eq
 have hc := m.cnt
 simp only at hc
 obtain ⟨h1, h2⟩ := GF.flat ks K D hF (by omega) m.good
 refine ⟨m.len, m.fld, by rw [← h1]; exact m.kids, fun e he => ?_⟩
 obtain ⟨d, g1, g2⟩ := h2 e he
 exact ⟨d, by have := m.deep; omega, g2⟩
theorem AX {nm : ByteArray} {n : Int} {ks : List (List S41)} (h1 : (nd 1 nm n E ks).length ≤ 2000) (h2 : kD ⟨1, 0, nm, n, E⟩ = true) (h3 : nX (ks.map hk) = true) (h4 : ∀ e ∈ ks, ∃ d, d ≤ 59 ∧ GF e [hk e] d) : checkS (nd 1 nm n E ks) = (0, 0) := by
 obtain ⟨D, h5, h6⟩ := GF.join ks 59 h4
 exact zk ⟨rfl, h1, rfl, by simp, h2, h3, h5, h6⟩
end Go.Proofs.Ytendgafpkeadhaa.Par
end
section
set_option linter.unusedVariables false
set_option linter.unusedSimpArgs false
namespace Go.Proofs.Ytendgafpkeadhaa.Par
open Go Go.RowKit Go.Proofs.YtendgafpkeadhaaW.PrintWords Go.Proofs.Ytendgafpkeadhaa.Q Go.Proofs.Ytendgafpkeadhaa.Lex Go.Proofs.Ytendgafpkeadhaa.Tree
/-- Where the reader stopped. -/
def plS (ts r : List S38) : Int := match r with
 | t :: _ => t.f3
 | [] => match ts.getLast? with
  | some t => t.f3 + 1
  | none => 0
def xJ (ts : List S38) : R (List S41) → List S41 × Int × Int
 | .ok (x, []) => if (checkS x).1 = 0 then (x, 0, 0) else ([], (checkS x).1, 0)
 | .ok (_, t :: r) => ([], 10, plS ts (t :: r))
 | .error (some r) => ([], 10, plS ts r)
 | .error none => ([], 10, 0)
def small (ts : List S38) : Prop := ∀ t ∈ ts, -4611686018427387904 ≤ t.f3 ∧ t.f3 ≤ 4611686018427387904
theorem yf (ts : List S38) (hp : small ts) (hl : ts.length ≤ 40000) (p : Nat) (b : Bool) : dD.f ts (p : Int) b = some (plS ts (ts.drop p), (p : Int), b) := by
 have key : ∀ i (hi : i < ts.length), rd_T38 ts (i : Int) = ts[i] := by
  intro i hi
  obtain ⟨_, h2, _⟩ := rd_tok ts i _ _ (List.drop_eq_getElem_cons hi)
  exact h2
 unfold dD.f plS
 by_cases c : p < ts.length
 ·rw [if_pos (by omega), if_pos (by omega), key p c, List.drop_eq_getElem_cons c]
 rw [if_neg (by omega), List.drop_eq_nil_of_le (by omega)]
 by_cases d : 0 < ts.length
 ·have e : wrap64 ((ts.length : Int) - 1) = ((ts.length - 1 : Nat) : Int) := by rw [Tree.w64 (by omega) (by omega)]; omega
  have h := hp _ (List.getElem_mem (show ts.length - 1 < ts.length by omega))
  rw [if_pos (by omega), e, if_pos (by omega), if_pos (by omega), key _ (by omega), Tree.w64 (by omega) (by omega), List.getLast?_eq_getElem?, List.getElem?_eq_getElem (by omega)]
 rw [if_neg (by omega), List.length_eq_zero_iff.1 (by omega : ts.length = 0)]; rfl
theorem tree_A (ts : List S38) (hts : ts.length ≤ 40000) (hp : small ts) (n : Nat) (hn : Fn KN ts.length (moduleP (pfam n) n ts)) : EvTo (fun k => dQ.f k ts) (xJ ts (moduleP (pfam n) n ts)) := by
 have hT := AB hts (F6 n) oD n
 match hr : moduleP (pfam n) n ts, hn, hT with
 | .ok (x, r), ⟨_, _, h3⟩, ⟨p, _, hp2, hd, hs, hE⟩ =>
  unfold sz at hs
  unfold dQ.f
  by_cases c : p < ts.length
  ·have h1 := yf ts hp hts p false
   cases r with
   | nil => rw [List.drop_eq_nil_iff] at hd; omega
   | cons t u =>
    refine EvTo.bind hE (EvTo.neg (by simp) (EvTo.pos (show (p : Int) < (ts.length : Int) by omega) ?_))
    dsimp only
    rw [h1, hd]
    exact EvTo.now
  rw [List.drop_eq_nil_of_le (by omega)] at hd
  subst hd
  have hC := DF x (by omega) h3.1.2
  show EvTo _ (if (checkS x).1 = 0 then (x, 0, 0) else ([], (checkS x).1, 0))
  by_cases d : (checkS x).1 = 0
  ·rw [if_pos d]
   exact EvTo.bind hE (EvTo.neg (by simp) (EvTo.neg (show ¬ (p : Int) < (ts.length : Int) by omega) (EvTo.bind hC (EvTo.pos d EvTo.now))))
  rw [if_neg d]
  exact EvTo.bind hE (EvTo.neg (by simp) (EvTo.neg (show ¬ (p : Int) < (ts.length : Int) by omega) (EvTo.bind hC (EvTo.neg d EvTo.now))))
 | .error (some r), _, ⟨x, p, _, _, hd, _, hE⟩ =>
  have h1 := yf ts hp hts p true
  unfold dQ.f
  refine EvTo.bind hE (EvTo.pos rfl ?_)
  dsimp only
  rw [h1, hd]
  exact EvTo.now
/-- The tokens of a text: few, short, at its places. -/
theorem sS {s : ByteArray} (hs : s.size ≤ 3000) {us : List Tk} (h : Lex.scan (L s) = .ok us) : (us.map (tkS s.size)).length ≤ 3000 ∧ TB (us.map (tkS s.size)) ∧ small (us.map (tkS s.size)) := by
 obtain ⟨h1, h2⟩ := zZ h
 rw [← cu] at h1
 have h2 : ∀ t ∈ us, 1 ≤ t.rem ∧ t.rem ≤ s.size ∧ t.text.length ≤ s.size := fun t ht => by have := h2 t ht; rw [← cu] at this; exact this
 refine ⟨by simp; omega, fun t ht => ?_, fun t ht => ?_⟩
 ·obtain ⟨u, hu, rfl⟩ := List.mem_map.1 ht
  have := h2 u hu
  show (S u.text).size ≤ 3000
  rw [oz]; omega
 obtain ⟨u, hu, rfl⟩ := List.mem_map.1 ht
 have := h2 u hu
 show _ ≤ ((s.size - u.rem : Nat) : Int) ∧ ((s.size - u.rem : Nat) : Int) ≤ _
 omega
theorem En (s : ByteArray) (hs : s.size ≤ 3000) {us : List Tk} (h : Lex.scan (L s) = .ok us) (n : Nat) (hn : Fn KN (us.map (tkS s.size)).length (moduleP (pfam n) n (us.map (tkS s.size)))) :
 EvTo (fun k => parse_Text.f k s) (xJ (us.map (tkS s.size)) (moduleP (pfam n) n (us.map (tkS s.size)))) := by
 have hS := xK s
 unfold qO at hS
 rw [if_pos (by omega), h] at hS
 obtain ⟨h1, h2, h3⟩ := sS hs h
 have := tree_A _ (by omega) h3 n hn
 unfold parse_Text.f
 exact EvTo.bind hS (EvTo.pos rfl (EvTo.bind this EvTo.now))
theorem Ew (s : ByteArray) (hs : s.size ≤ 3000) {us : List Tk} (h : Lex.scan (L s) = .ok us) : EvTo (fun k => lex_Scan.f k s) (us.map (tkS s.size), 0, 0) := by
 have hS := xK s
 unfold qO at hS
 rw [if_pos (by omega), h] at hS
 exact hS
theorem Ej (s : ByteArray) (hs : s.size ≤ 3000) {e : Int} {r : Nat} (h : Lex.scan (L s) = .error (e, r)) : e ≠ 0 ∧ EvTo (fun k => parse_Text.f k s) (([] : List S41), e, ((s.size - r : Nat) : Int)) ∧ EvTo (fun k => lex_Scan.f k s) ([], e, ((s.size - r : Nat) : Int)) := by
 have hS := xK s
 unfold qO at hS
 rw [if_pos (by omega), h] at hS
 obtain ⟨h1, _⟩ := zY h
 refine ⟨h1, ?_, hS⟩
 unfold parse_Text.f
 exact EvTo.bind hS (EvTo.neg h1 EvTo.now)
/-- Rounds enough for all tokens of such a number. -/
theorem rounds (m : Nat) : ∃ n0, ∀ n, n0 ≤ n → Tot (pfam n) m ∧ ∀ l : List S38, l.length ≤ m → TB l → Fn KN l.length (moduleP (pfam n) n l) := by
 obtain ⟨n0, h0⟩ := tot m
 exact ⟨n0 + m, fun n hn => ⟨h0 n (by omega), fun l hl h => AC (h0 n (by omega)) n l hl (by omega) h⟩⟩
theorem ES {ts : List S38} {r : R (List S41)} (h : (xJ ts r).2.1 = 0) : ∃ x, r = .ok (x, []) ∧ (checkS x).1 = 0 ∧ xJ ts r = (x, 0, 0) := by
 unfold xJ at h ⊢
 split at h
 ·rename_i x
  by_cases c : (checkS x).1 = 0
  ·rw [if_pos c]; exact ⟨x, rfl, c, rfl⟩
  rw [if_neg c] at h; exact absurd h c
 all_goals cases h
end Go.Proofs.Ytendgafpkeadhaa.Par
end
section
set_option linter.unusedVariables false
set_option linter.unusedSimpArgs false
namespace Go.Proofs.Ytendgafpkeadhaa.Par
open Go Go.RowKit Go.Proofs.YtendgafpkeadhaaW.PrintWords Go.Proofs.Ytendgafpkeadhaa.Q Go.Proofs.Ytendgafpkeadhaa.Lex Go.Proofs.Ytendgafpkeadhaa.Tree
theorem vU {w : List UInt8} {l r : List S38} {u : Unit} (hw : w ≠ []) (h : must w l = .ok (u, r)) : ∃ t, l = t :: r ∧ wd l = w := by
 unfold must at h
 by_cases c : wd l = w
 ·rw [if_pos c] at h
  obtain ⟨t, r', rfl⟩ := uj (l := l) (by rw [c]; exact hw)
  cases h
  exact ⟨t, rfl, c⟩
 rw [if_neg c] at h; cases h
theorem yj {w : List UInt8} {t : S38} {r : List S38} (h : wd (t :: r) = w) : must w (t :: r) = .ok ((), r) := by unfold must; rw [if_pos h]; rfl
theorem qm {t t' : S38} (r r' : List S38) (h : core t = core t') : wd (t :: r) = wd (t' :: r') := by unfold wd; rw [oL h]
theorem DK {l r : List S38} {u : Unit} (h : tk l = .ok (u, r)) : ∃ t, l = t :: r := by
 cases l with
 | nil => cases h
 | cons t s => cases h; exact ⟨t, rfl⟩
variable {F : PF} {N m0 : Nat}
theorem AQ {l r : List S38} {x : List S41} (h : moduleP F N l = .ok (x, r)) : ∃ t0 t1 t2 t3 T, l = t0 :: t1 :: t2 :: t3 :: T ∧ wd [t0] = [109, 111, 100, 117, 108, 101] ∧ t1.f0 = 1 ∧ t2.f0 = 2 ∧ wd [t3] = [59] ∧ iT F N t1.f1 t2.f2 N [] T = .ok (x, r) := by
 unfold moduleP at h
 obtain ⟨_, s0, h0, g0⟩ := fH h
 obtain ⟨t1, s1, h1, g1⟩ := fH g0
 obtain ⟨t2, s2, h2, g2⟩ := fH g1
 obtain ⟨_, s3, h3, g3⟩ := fH g2
 obtain ⟨t0, e0, w0⟩ := vU (by simp) h0
 obtain ⟨e1, w1⟩ := kw h1
 obtain ⟨e2, w2⟩ := kw h2
 obtain ⟨t3, e3, w3⟩ := vU (by simp) h3
 clear h h0 h1 h2 h3 g0 g1 g2
 subst e3
 subst e2
 subst e1
 subst e0
 exact ⟨t0, t1, t2, t3, s3, rfl, w0, w1, w2, w3, g3⟩
theorem EG {t0 t1 t2 t3 : S38} (T : List S38) (w0 : wd [t0] = [109, 111, 100, 117, 108, 101]) (w1 : t1.f0 = 1) (w2 : t2.f0 = 2) (w3 : wd [t3] = [59]) : moduleP F N (t0 :: t1 :: t2 :: t3 :: T) = iT F N t1.f1 t2.f2 N [] T := by
 unfold moduleP
 rw [jI (yj (t := t0) (r := t1 :: t2 :: t3 :: T) w0), jI (oG (r := t2 :: t3 :: T) w1), jI (oG (r := t3 :: T) w2), jI (yj (t := t3) (r := T) w3)]
theorem wF {k : Int} {nm : ByteArray} {l r : List S38} {e : List S41} (h : fB F N k nm l = .ok (e, r)) : ∃ ks, e = nd k nm 0 E ks := by
 unfold fB at h
 obtain ⟨ps, s, _, h1⟩ := fH h
 obtain ⟨b, s2, _, h2⟩ := fH h1
 cases h2
 exact ⟨_, rfl⟩
theorem Ei {l r : List S38} {e : List S41} (h : rZ l = .ok (e, r)) : ∃ nm n tx, e = nd 2 nm n tx [] := by
 unfold rZ at h
 obtain ⟨_, _, _, h1⟩ := fH h
 obtain ⟨_, _, _, h2⟩ := fH h1
 obtain ⟨_, _, _, h3⟩ := fH h2
 obtain ⟨_, _, _, h4⟩ := fH h3
 obtain ⟨_, _, _, h5⟩ := fH h4
 obtain ⟨_, _, _, h6⟩ := fH h5
 cases h6
 exact ⟨_, _, _, rfl⟩
theorem Fn.DR {α : Type} {K : α → Prop} {b : Nat} {x : α} {r : List S38} {P : R α} (h : Fn K b P) (e : P = .ok (x, r)) : r.length < b ∧ TB r ∧ K x := by subst e; exact h
abbrev FN : List UInt8 := [102, 110]
abbrev US : List UInt8 := [117, 115, 101]
theorem Bf {nm : ByteArray} {v : Int} {n : Nat} {acc : List (List S41)} {t1 t2 : S38} {l r : List S38} {f : List S41} (w1 : wd [t1] = FN) (w2 : t2.f0 = 1) (h : fB F N 3 t2.f1 l = .ok (f, r)) : jA F N nm v (n + 1) acc (t1 :: t2 :: l) = jA F N nm v n (acc ++ [f]) r := by
 rw [jA]
 dsimp only
 rw [if_pos (show wd (t1 :: t2 :: l) = [102, 110] from w1), jI (show tk (t1 :: t2 :: l) = .ok ((), t2 :: l) from rfl), jI (oG w2), jI h]
/-- Functions up to the end. -/
theorem FA (H : LF F) (Tt : Tot F m0) (nm : ByteArray) (v : Int) (x : List S41) : ∀ (n : Nat) (acc : List (List S41)) (T : List S38), T.length ≤ m0 → T.length ≤ N → TB T → jA F N nm v n acc T = .ok (x, []) →
 ∃ fs, x = nd 1 nm v E (acc ++ fs) ∧ fs.length ≤ T.length ∧ fs.length < n ∧ (fs = [] → T = []) ∧ KF fs ∧ (∀ e ∈ fs, hk e = 3) ∧
  ∀ (nm' : ByteArray) (v' : Int) (T' b' : List S38) (m : Nat) (acc' : List (List S41)), Sim T T' → jA F N nm' v' (m + fs.length) acc' (T' ++ b') = jA F N nm' v' m (acc' ++ fs) b' := by
 intro n
 induction n with
 | zero => intro acc T _ _ _ h; cases h
 | succ n ih =>
  intro acc T h1 h2 h3 h
  rw [jA] at h
  dsimp only at h
  by_cases c : wd T = [102, 110]
  ·rw [if_pos c] at h
   obtain ⟨_, s0, e0, q0⟩ := fH h
   obtain ⟨t2, s1, e1, q1⟩ := fH q0
   obtain ⟨f, s2, e2, q2⟩ := fH q1
   obtain ⟨t1, k1⟩ := DK e0
   obtain ⟨k2, w2⟩ := kw e1
   clear h e0 e1 q0 q1
   subst k2
   subst k1
   have hF := og Tt N 3 t2.f1 (by omega) (h3 t2 (by simp)) s1 (by simp at h1; omega) (by simp at h2; omega) h3.tail.tail
   obtain ⟨g1, g2, g3⟩ := hF.DR e2
   simp only [List.length_cons] at h1 h2
   obtain ⟨fs, i1, i2, i3, i4, i5, i6, i7⟩ := ih (acc ++ [f]) s2 (by omega) (by omega) g2 q2
   obtain ⟨ks, rfl⟩ := wF e2
   refine ⟨_ :: fs, by rw [i1, List.append_assoc]; rfl, by simp; omega, by simp; omega, (fun a => by cases a), fun e he => ?_, fun e he => ?_, fun nm' v' T' b' m acc' hs => ?_⟩
   ·rcases List.mem_cons.1 he with rfl | he
    ·exact g3.1.1
    exact i5 e he
   ·rcases List.mem_cons.1 he with rfl | he
    ·rfl
    exact i6 e he
   obtain ⟨t1', u', rfl, c1, hs⟩ := hs.cons
   obtain ⟨t2', u2, rfl, c2, hs⟩ := hs.cons
   have e2' : fB F N 3 t2.f1 (s1 ++ []) = .ok (nd 3 t2.f1 0 E ks, s2 ++ []) := by simpa using e2
   obtain ⟨T2', j1, j2⟩ := (nZ H N 3 t2.f1).loc.ok s1 u2 [] b' _ s2 hs (fun _ => trivial) e2'
   rw [List.length_cons, ← Nat.add_assoc, List.cons_append, List.cons_append, Bf (by rw [← qm [] [] c1]; exact c) ((iE c2).1 ▸ w2) ((iE c2).2.1 ▸ j2), i7 nm' v' T2' b' m _ j1, List.append_assoc, (iE c2).2.1]
   rfl
  rw [if_neg c] at h
  cases h
  refine ⟨[], by simp, by simp, by simp, fun _ => rfl, (fun e he => by cases he), (fun e he => by cases he), fun nm' v' T' b' m acc' hs => ?_⟩
  rw [hs.nil]; simp
theorem vz {nm : ByteArray} {v : Int} {n : Nat} {acc : List (List S41)} {t1 : S38} {l r : List S38} {f : List S41} (w1 : wd [t1] = US) (h : rZ l = .ok (f, r)) : iT F N nm v (n + 1) acc (t1 :: l) = iT F N nm v n (acc ++ [f]) r := by
 rw [iT]
 dsimp only
 rw [if_pos (show wd (t1 :: l) = [117, 115, 101] from w1), jI (show tk (t1 :: l) = .ok ((), l) from rfl), jI h]
/-- Uses and functions up to the end. -/
theorem UA (H : LF F) (Tt : Tot F m0) (nm : ByteArray) (v : Int) (x : List S41) : ∀ (n : Nat) (acc : List (List S41)) (T : List S38), T.length ≤ m0 → T.length ≤ N → TB T → iT F N nm v n acc T = .ok (x, []) →
 ∃ us fs, x = nd 1 nm v E (acc ++ (us ++ fs)) ∧ us.length + fs.length ≤ T.length ∧ us.length < n ∧ fs.length < N ∧ KF (us ++ fs) ∧ (∀ e ∈ us, hk e = 2) ∧ (∀ e ∈ fs, hk e = 3) ∧
  (fs = [] → ∀ (nm' : ByteArray) (v' : Int) (T' b' : List S38) (m : Nat) (acc' : List (List S41)), Sim T T' → iT F N nm' v' (m + us.length) acc' (T' ++ b') = iT F N nm' v' m (acc' ++ us) b') ∧
  ∀ (nm' : ByteArray) (v' : Int) (T' b' : List S38) (m d : Nat) (acc' : List (List S41)), Sim T T' → (fs = [] → wd b' ≠ US) → N = d + fs.length → iT F N nm' v' (m + 1 + us.length) acc' (T' ++ b') = jA F N nm' v' d (acc' ++ (us ++ fs)) b' := by
 intro n
 induction n with
 | zero => intro acc T _ _ _ h; cases h
 | succ n ih =>
  intro acc T h1 h2 h3 h
  rw [iT] at h
  dsimp only at h
  by_cases c : wd T = [117, 115, 101]
  ·rw [if_pos c] at h
   obtain ⟨_, s0, e0, q0⟩ := fH h
   obtain ⟨f, s2, e2, q1⟩ := fH q0
   obtain ⟨t1, k1⟩ := DK e0
   clear h e0 q0
   subst k1
   obtain ⟨g1, g2, g3⟩ := (DJ s0 h3.tail).DR e2
   simp only [List.length_cons] at h1 h2
   obtain ⟨us, fs, i1, i2, i3, i4, i5, i6, i6', i7, i8⟩ := ih (acc ++ [f]) s2 (by omega) (by omega) g2 q1
   have hloc := fun (u2 b' : List S38) (hs : Sim s0 u2) => DI.loc.ok s0 u2 [] b' f s2 hs (fun _ => trivial) (by simpa using e2)
   have hk2 : hk f = 2 := by obtain ⟨a, b, d, rfl⟩ := Ei e2; rfl
   refine ⟨f :: us, fs, by rw [i1]; simp, by simp; omega, by simp; omega, i4, fun e he => ?_, fun e he => ?_, i6', fun hf nm' v' T' b' m acc' hs => ?_, fun nm' v' T' b' m d acc' hs hb hN => ?_⟩
   ·rcases List.mem_cons.1 he with rfl | he
    ·exact g3.1.1
    exact i5 e he
   ·rcases List.mem_cons.1 he with rfl | he
    ·exact hk2
    exact i6 e he
   ·obtain ⟨t1', u', rfl, c1, hs⟩ := hs.cons
    obtain ⟨T2', j1, j2⟩ := hloc u' b' hs
    rw [List.length_cons, ← Nat.add_assoc, List.cons_append, vz (by rw [← qm [] [] c1]; exact c) j2, i7 hf nm' v' T2' b' m _ j1, List.append_assoc]
    rfl
   obtain ⟨t1', u', rfl, c1, hs⟩ := hs.cons
   obtain ⟨T2', j1, j2⟩ := hloc u' b' hs
   rw [List.length_cons, ← Nat.add_assoc, List.cons_append, vz (by rw [← qm [] [] c1]; exact c) j2, i8 nm' v' T2' b' m d _ j1 hb hN, List.append_assoc]
   rfl
  rw [if_neg c] at h
  obtain ⟨fs, i1, i2, i3, i4, i5, i6, i7⟩ := FA H Tt nm v x N acc T h1 h2 h3 h
  refine ⟨[], fs, by rw [i1]; simp, by simpa using i2, by simp, i3, by simpa using i5, (fun e he => by cases he), i6, fun hf nm' v' T' b' m acc' hs => ?_, fun nm' v' T' b' m d acc' hs hb hN => ?_⟩
  ·have := i4 hf
   subst this
   rw [hs.nil]; simp
  have hw : wd (T' ++ b') ≠ [117, 115, 101] := by
   cases T with
   | nil =>
    rw [hs.nil]
    refine hb ?_
    cases fs with
    | nil => rfl
    | cons a b => simp at i2
   | cons t u =>
    obtain ⟨t', u', rfl, c1, _⟩ := hs.cons
    rw [List.cons_append, ← qm u _ c1]
    exact c
  rw [List.length_nil, Nat.add_zero, iT]
  dsimp only
  rw [if_neg hw]
  conv => lhs; arg 5; rw [hN]
  rw [i7 nm' v' T' b' d acc' hs]
  simp
/-- Of a module that is cut behind a token and is read to its end, and is read whole, too: its kids are the first ones. -/
theorem Bj (H : LF F) (Tt : Tot F m0) {a b : List S38} {x y : List S41} (hl : (a ++ b).length ≤ m0) (hN : (a ++ b).length ≤ N) (hB : TB (a ++ b)) (hy : moduleP F N a = .ok (y, [])) (hx : moduleP F N (a ++ b) = .ok (x, [])) :
 ∃ nm v ks ks', y = nd 1 nm v E ks ∧ x = nd 1 nm v E (ks ++ ks') ∧ KF (ks ++ ks') := by
 obtain ⟨t0, t1, t2, t3, T, rfl, w0, w1, w2, w3, hy⟩ := AQ hy
 simp only [List.cons_append] at hx hl hN hB
 rw [EG (T ++ b) w0 w1 w2 w3] at hx
 simp only [List.length_cons, List.length_append] at hl hN
 have hB4 : TB (T ++ b) := hB.tail.tail.tail.tail
 have hBT : TB T := fun t ht => hB4 t (List.mem_append.2 (Or.inl ht))
 have hBb : TB b := fun t ht => hB4 t (List.mem_append.2 (Or.inr ht))
 obtain ⟨us, fs, i1, i2, i3, i4, i5, _, _, i7, i8⟩ := UA H Tt t1.f1 t2.f2 y N [] T (by omega) (by omega) hBT hy
 by_cases hc : fs = [] ∧ wd b = US
 ·obtain ⟨rfl, _⟩ := hc
  have e := i7 rfl t1.f1 t2.f2 T b (N - us.length) [] rfl
  rw [show N - us.length + us.length = N by omega, hx] at e
  obtain ⟨us2, fs2, j1, _, _, _, j5, _⟩ := UA H Tt t1.f1 t2.f2 x (N - us.length) ([] ++ us) b (by omega) (by omega) hBb e.symm
  refine ⟨t1.f1, t2.f2, us, us2 ++ fs2, by rw [i1]; simp, by rw [j1]; simp, fun e he => ?_⟩
  rcases List.mem_append.1 he with he | he
  ·exact i5 e (by simpa using he)
  exact j5 e he
 have e := i8 t1.f1 t2.f2 T b (N - 1 - us.length) (N - fs.length) [] rfl (fun h h2 => hc ⟨h, h2⟩) (by omega)
 rw [show N - 1 - us.length + 1 + us.length = N by omega, hx] at e
 obtain ⟨fs2, j1, _, _, _, j5, _⟩ := FA H Tt t1.f1 t2.f2 x (N - fs.length) ([] ++ (us ++ fs)) b (by omega) (by omega) hBb e.symm
 refine ⟨t1.f1, t2.f2, us ++ fs, fs2, by rw [i1]; simp, by rw [j1]; simp, fun e he => ?_⟩
 rcases List.mem_append.1 he with he | he
 ·exact i5 e he
 exact j5 e he
abbrev Cm : List S38 → List S38 → Prop := fun b b' => (wd b ≠ US ∧ wd b ≠ FN) ∧ wd b' ≠ US ∧ wd b' ≠ FN
theorem xu (H : LF F) (nm : ByteArray) (v : Int) : ∀ (n : Nat) (acc : List (List S41)), Loc Cm (jA F N nm v n acc)
 | 0, acc => LC.out.loc
 | n + 1, acc => Loc.head (G := fun w l => if w.toList = [102, 110] then (bnd tk fun _ => bnd (need 1) fun t => bnd (fB F N 3 t.f1) fun f => jA F N nm v n (acc ++ [f])) l else .ok (nd 1 nm v E acc, l))
  (fun w => Loc.ite (fun _ => (LC.tk.b1 (C1 := Tr) fun _ => LC.need (fun t => ((nZ H N 3 t.f1).b3 fun f => xu H nm v n _).loc) (by intro t t' h; simp only [(iE h).2.1])).loc) (fun _ => Loc.ret _))
  (fun b1 b2 x hC h => by
   have h' : (if wd b1 = [102, 110] then (bnd tk fun _ => bnd (need 1) fun t => bnd (fB F N 3 t.f1) fun f => jA F N nm v n (acc ++ [f])) b1 else .ok (nd 1 nm v E acc, b1)) = .ok (x, b1) := h
   rw [if_neg hC.1.2] at h'
   cases h'
   exact if_neg hC.2.2)
theorem zO (H : LF F) (nm : ByteArray) (v : Int) : ∀ (n : Nat) (acc : List (List S41)), Loc Cm (iT F N nm v n acc)
 | 0, acc => LC.out.loc
 | n + 1, acc => Loc.head (G := fun w l => if w.toList = [117, 115, 101] then (bnd tk fun _ => bnd rZ fun u => iT F N nm v n (acc ++ [u])) l else jA F N nm v N acc l)
  (fun w => Loc.ite (fun _ => (LC.tk.b1 (C1 := Tr) fun _ => DI.b3 fun u => zO H nm v n _).loc) (fun _ => xu H nm v N acc))
  (fun b1 b2 x hC h => by
   have h' : (if wd b1 = [117, 115, 101] then (bnd tk fun _ => bnd rZ fun u => iT F N nm v n (acc ++ [u])) b1 else jA F N nm v N acc b1) = .ok (x, b1) := h
   rw [if_neg hC.1.1] at h'
   obtain ⟨T2', e1, e2⟩ := (xu H nm v N acc).ok [] [] b1 b2 x [] rfl (fun _ => hC) h'
   cases T2' with
   | nil => exact (if_neg hC.2.1).trans e2
   | cons a b => cases e1)
theorem module_L (H : LF F) : LC Cm (moduleP F N) :=
 (gy [109, 111, 100, 117, 108, 101]).b1 (C1 := Tr) fun _ => LC.need (f := fun t => bnd (need 2) fun u => bnd (must [59]) fun _ => iT F N t.f1 u.f2 N [])
  (fun t => (LC.need (f := fun u => bnd (must [59]) fun _ => iT F N t.f1 u.f2 N []) (fun u => ((gy [59]).b3 fun _ => zO H _ _ N []).loc) (by intro t t' h; simp only [(iE h).2.2])).loc) (by intro t t' h; simp only [(iE h).2.1])
theorem zl {A B : List Int} (h : nX (A ++ B) = true) : nX A = true := by
 unfold nX at h ⊢
 rw [List.dropWhile_append] at h
 split at h
 ·rename_i c
  rw [List.isEmpty_iff.1 c]; rfl
 rw [List.all_append, Bool.and_eq_true] at h
 exact h.1
end Go.Proofs.Ytendgafpkeadhaa.Par
end
section
set_option linter.unusedVariables false
set_option linter.unusedSimpArgs false
namespace Go.Proofs.Ytendgafpkeadhaa.Par
open Go Go.RowKit Go.Proofs.YtendgafpkeadhaaW.PrintWords Go.Proofs.Ytendgafpkeadhaa.Q Go.Proofs.Ytendgafpkeadhaa.Lex Go.Proofs.Ytendgafpkeadhaa.Tree
theorem known_E : EvTo (fun k => chrysalislaw10_known.f k) true := EvTo.of_one (fun k r h => chrysalislaw10_known.mono k r h) 300 chrysalislaw10_known.at
theorem known_B : EvTo (fun k => (chrysalislaw10_known.f k).bind fun t => some t) true := EvTo.bind known_E EvTo.now
theorem wsub1 (n : Nat) (h1 : 1 ≤ n) (h2 : n ≤ 100000) : wrap64 ((n : Int) - 1) = ((n - 1 : Nat) : Int) := by rw [Tree.w64 (by omega) (by omega)]; omega
theorem wadd1 (c : Nat) (h2 : c ≤ 100000) : wrap64 (1 + (c : Int)) = ((c + 1 : Nat) : Int) := by rw [Tree.w64 (by omega) (by omega)]; omega
theorem wpre1 (c : Nat) (h2 : c ≤ 100000) : wrap64 (((c + 1 : Nat) : Int) - 1) = (c : Int) := by rw [Tree.w64 (by omega) (by omega)]; omega
theorem count_E (a : Int) (ha : (Lit.int .i64 a).wf = true) (n : Nat) (h1 : 1 ≤ n) (h2 : n ≤ 100000) : ∃ c : Nat, c < n ∧ chrysalisref01_Count.f a (n : Int) = some (c : Int) := by
 have hw : -9223372036854775808 ≤ a ∧ a < 9223372036854775808 := by
  simp only [Lit.wf, Bool.and_eq_true, decide_eq_true_eq] at ha
  exact ⟨ha.1, Int.lt_of_le_of_lt ha.2 (by decide)⟩
 unfold chrysalisref01_Count.f
 by_cases c : a < 0
 ·rw [if_pos c, if_neg (by omega), Tree.w64 (n := a + 1) (by omega) (by omega), Tree.w64 (n := -(a + 1)) (by omega) (by omega)]
  have e1 := Int.tmod_nonneg (n : Int) (show 0 ≤ -(a + 1) by omega)
  have e2 := Int.tmod_lt_of_pos (-(a + 1)) (show (0 : Int) < (n : Int) by omega)
  exact ⟨(Int.tmod (-(a + 1)) n).toNat, by omega, by rw [Int.toNat_of_nonneg e1]⟩
 rw [if_neg c, if_neg (by omega)]
 have e1 := Int.tmod_nonneg (n : Int) (show 0 ≤ a by omega)
 have e2 := Int.tmod_lt_of_pos a (show (0 : Int) < (n : Int) by omega)
 exact ⟨(Int.tmod a n).toNat, by omega, by rw [Int.toNat_of_nonneg e1]⟩
theorem first_place (ts : List S38) (hts : ts.length ≤ 3000) (hp : small ts) (c : Nat) (hc : c < ts.length) : plS (ts.take (c + 1)) [] = wrap64 (((rd_T38 ts (c : Int)).f3) + 1) := by
 obtain ⟨_, e2, _⟩ := rd_tok ts c _ _ (List.drop_eq_getElem_cons hc)
 have h := hp _ (List.getElem_mem hc)
 rw [e2, Tree.w64 (by omega) (by omega)]
 have hla : (ts.take (c + 1)).length = c + 1 := by rw [List.length_take]; omega
 unfold plS
 rw [List.getLast?_eq_getElem?, hla]
 simp [List.getElem?_take, List.getElem?_eq_getElem hc]
/-- What the law asks of the cut. -/
def firstQ (k : Nat) (ts : List S38) (c : Int) (t : List S41 × Int × Int) : Option Bool := if t.2.1 = 0 then (if (t.1.length : Int) > 0 then ((chrysalislaw10_known.f k).bind fun t924 => (some t924)) else (some false)) else (if t.2.1 = 10 then (if 0 ≤ c then (if c < (ts.length : Int) then (if t.2.2 = (wrap64 (((rd_T38 ts c).f3) + 1)) then ((chrysalislaw10_known.f k).bind fun t926 => (some t926)) else (some false)) else (none)) else (none)) else (some false))
theorem firstQ_ok (ts : List S38) (c : Int) (x : List S41) (hx : x.length ≠ 0) : EvTo (fun k => firstQ k ts c (x, 0, 0)) true := by
 unfold firstQ
 exact EvTo.pos rfl (EvTo.pos (by simp only; omega) known_B)
theorem firstQ_er (ts : List S38) (c : Nat) (hc : c < ts.length) (a : Int) (ha : a = wrap64 (((rd_T38 ts (c : Int)).f3) + 1)) : EvTo (fun k => firstQ k ts (c : Int) ([], 10, a)) true := by
 unfold firstQ
 exact EvTo.neg (by simp) (EvTo.pos rfl (EvTo.pos (by clear ha; omega) (EvTo.pos (by clear ha; omega) (EvTo.pos ha known_B))))
theorem first_j (ts : List S38) (hts : ts.length ≤ 3000) (hB : TB ts) (hp : small ts) (n : Nat) (hr : Tot (pfam n) 3000 ∧ ∀ l : List S38, l.length ≤ 3000 → TB l → Fn KN l.length (moduleP (pfam n) n l)) (hn : 3000 ≤ n) (x : List S41) (hx : moduleP (pfam n) n ts = .ok (x, [])) (hc : (checkS x).1 = 0)
 (a : Int) (ha : (Lit.int .i64 a).wf = true) (b : Bool) (hb : b = false → 2 ≤ ts.length) : EvTo (fun k => chrysalislaw10_ParseFirst.j0 k a ts b) true := by
 refine EvTo.step (fun k => by rw [chrysalislaw10_ParseFirst.j0]) ?_
 cases b with
 | true => exact EvTo.pos rfl known_B
 | false =>
  have h2 := hb rfl
  obtain ⟨c, c1, c2⟩ := count_E a ha (ts.length - 1) (by omega) (by omega)
  refine EvTo.neg (by simp) ?_
  have hc9 : c ≤ 100000 := by clear c2; omega
  have q := wsub1 ts.length (by clear c2; omega) (by clear c2; omega)
  simp only [q]
  clear q
  refine EvTo.bind (EvTo.jB fun _ => c2) ?_
  clear c2
  simp only [wadd1 c hc9]
  simp only [wpre1 c hc9]
  refine EvTo.pos (by omega) (EvTo.pos (by omega) ?_)
  rw [Int.toNat_natCast]
  have hsub : ∀ t ∈ ts.take (c + 1), t ∈ ts := fun t ht => List.mem_of_mem_take ht
  have hla : (ts.take (c + 1)).length = c + 1 := by rw [List.length_take]; omega
  have hA := tree_A (ts.take (c + 1)) (by omega) (fun t ht => hp t (hsub t ht)) n (hr.2 _ (by omega) (fun t ht => hB t (hsub t ht)))
  refine EvTo.bind (G := fun k t => firstQ k ts (c : Int) t) hA ?_
  have hF := hr.2 (ts.take (c + 1)) (by omega) (fun t ht => hB t (hsub t ht))
  have hne : ts.drop (c + 1) ≠ [] := by
   intro h
   rw [List.drop_eq_nil_iff] at h
   omega
  have happ : ts.take (c + 1) ++ ts.drop (c + 1) = ts := List.take_append_drop _ _
  have hL := (module_L (F := pfam n) (N := n) (pfam_L n)).loc
  have place := first_place ts hts hp c (by omega)
  match hy : moduleP (pfam n) n (ts.take (c + 1)), hF with
  | .ok (y, []), _ =>
   rw [← happ] at hx hts hB
   obtain ⟨nm, v, ks, ks', rfl, rfl, hK⟩ := Bj (pfam_L n) hr.1 hts (by omega) hB hy hx
   obtain ⟨m1, m2, m3, m4⟩ := AO hK hc
   have hck : checkS (nd 1 nm v E ks) = (0, 0) := by
    refine AX ?_ m2 ?_ (fun e he => m4 e (List.mem_append.2 (Or.inl he)))
    ·rw [dN] at m1 ⊢
     rw [List.flatten_append, List.length_append] at m1
     omega
    rw [List.map_append] at m3
    exact zl m3
   have e : xJ (ts.take (c + 1)) (.ok (nd 1 nm v E ks, [])) = (nd 1 nm v E ks, 0, 0) := if_pos (by rw [hck])
   rw [e]
   exact firstQ_ok _ _ _ (by rw [dN]; omega)
  | .ok (y, t :: r), _ =>
   obtain ⟨T2', e1, e2⟩ := hL.ok (ts.take (c + 1)) (ts.take (c + 1)) [] (ts.drop (c + 1)) y (t :: r) rfl (fun h => by cases h) (by rw [List.append_nil, List.append_nil]; exact hy)
   rw [happ, hx] at e2
   simp only [Except.ok.injEq, Prod.mk.injEq] at e2
   exact absurd (List.append_eq_nil_iff.1 e2.2.symm).2 hne
  | .error (some []), _ => exact firstQ_er ts c (by omega) _ place
  | .error (some (t :: r)), _ =>
   obtain ⟨T2', e1, e2⟩ := hL.er (ts.take (c + 1)) (ts.take (c + 1)) [] (ts.drop (c + 1)) (t :: r) rfl (fun h => by cases h) (by rw [List.append_nil, List.append_nil]; exact hy)
   rw [happ, hx] at e2
   cases e2
theorem first : chrysalislaw10_ParseFirst.Pure := by
 intro a0 a1 h0 h1
 refine EvTo.one (F := fun k => chrysalislaw10_ParseFirst.f k a0 a1) ?_
 unfold chrysalislaw10_ParseFirst.f
 by_cases h : (a0.size : Int) > 2000
 ·exact EvTo.pos h known_B
 refine EvTo.neg h ?_
 cases hs : Lex.scan (L a0) with
 | error e =>
  obtain ⟨e, r⟩ := e
  obtain ⟨n1, n2, n3⟩ := Ej a0 (by omega) hs
  refine EvTo.bind n2 (EvTo.bind n3 (EvTo.neg n1 ?_))
  refine EvTo.step (fun k => by rw [chrysalislaw10_ParseFirst.j0]) ?_
  exact EvTo.pos rfl known_B
 | ok us =>
  obtain ⟨t1, t2, t3⟩ := sS (show a0.size ≤ 3000 by omega) hs
  obtain ⟨n0, hr⟩ := rounds 3000
  have hr := hr (n0 + 3000) (by omega)
  refine EvTo.bind (En a0 (by omega) hs (n0 + 3000) (hr.2 _ t1 t2)) (EvTo.bind (Ew a0 (by omega) hs) ?_)
  by_cases c : (xJ (us.map (tkS a0.size)) (moduleP (pfam (n0 + 3000)) (n0 + 3000) (us.map (tkS a0.size)))).2.1 = 0
  ·obtain ⟨x, x1, x2, _⟩ := ES c
   refine EvTo.pos c (EvTo.pos rfl ?_)
   exact first_j _ t1 t2 t3 _ hr (by omega) x x1 x2 a1 h1 _ (fun hb => by have h := of_decide_eq_false hb; dsimp only at h; omega)
  refine EvTo.neg c ?_
  refine EvTo.step (fun k => by rw [chrysalislaw10_ParseFirst.j0]) ?_
  exact EvTo.pos rfl known_B
end Go.Proofs.Ytendgafpkeadhaa.Par
namespace Go.Proofs.Ytendgafpkeadhaa.Pure
theorem ParseFirst : Q.chrysalislaw10_ParseFirst.Pure := Par.first
end Go.Proofs.Ytendgafpkeadhaa.Pure
end
