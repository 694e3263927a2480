/- Walks over functions of the program, words for them, and what the functions come to; of each text only what this claim uses; no condition. -/
import Derived.Test.YtendgafpkeadhaaZPR0
import Derived.Test.YtendgafpkeadhaaZPR4
import Derived.Test.YtendgafpkeadhaaZPR6
import Derived.Test.YtendgafpkeadhaaZPR7
import Derived.Test.YtendgafpkeadhaaZPR17
import Derived.Test.YtendgafpkeadhaaZPR18
import Derived.Test.YtendgafpkeadhaaZPR19
section
set_option linter.unusedVariables false
set_option linter.unusedSimpArgs false
namespace Go.Proofs.Ytendgafpkeadhaa.Tree
open Go Go.RowKit Go.Proofs.YtendgafpkeadhaaW.PrintWords Go.Proofs.Ytendgafpkeadhaa.Q Go.Proofs.Ytendgafpkeadhaa.Lex
theorem ai.both {α : Type} {F G : Nat → Option α} {v u : α} {c : Prop} [Decidable c] (f : c → ai F v) (g : ¬c → ai G u) : ai (fun k => if c then F k else G k) (if c then v else u) := by
 by_cases h : c
 ·rw [if_pos h]; exact ai.pos h (f h)
 rw [if_neg h]; exact ai.neg h (g h)
def OPS : List (List UInt8) := [[43], [45], [42], [47], [37], [46, 46], [61, 61], [33, 61], [60], [60, 61], [97, 110, 100], [111, 114]]
def UNS : List (List UInt8) := [[45], [110, 111, 116], [108, 101, 110]]
def OB : ByteArray := (⟨#[32, 43, 32, 45, 32, 42, 32, 47, 32, 37, 32, 46, 46, 32, 61, 61, 32, 33, 61, 32, 60, 32, 60, 61, 32, 97, 110, 100, 32, 111, 114, 32]⟩ : ByteArray)
def UB : ByteArray := (⟨#[32, 45, 32, 110, 111, 116, 32, 108, 101, 110, 32]⟩ : ByteArray)
theorem uu : wordsOf (L OB) = OPS := by decide +kernel
theorem ut : wordsOf (L UB) = UNS := by decide +kernel
theorem zJ (w s : ByteArray) (hs : s.size ≤ 3000) (hw : w.size ≤ 1000) (hne : ¬ s.toList = ([] : List UInt8)) : ∀ (m i : Nat), w.size ≤ m + i → i ≤ w.size + 1 →
 ai (fun k => bn.l1 k w s ((s.size + 2 : Nat) : Int) (i : Int)) (jw (32 :: (L s ++ [32])) ((L w).drop i)) := by
 have hb : (32 :: (L s ++ [32])).length = s.size + 2 := by rw [dm]; simp
 have hwL := dm w
 have h1s : ((⟨#[32]⟩ : ByteArray) ++ s).size = 1 + s.size := by rw [ByteArray.size_append]; rfl
 have hLb : (((⟨#[32]⟩ : ByteArray) ++ s) ++ (⟨#[32]⟩ : ByteArray)).toList = 32 :: (L s ++ [32]) := by
  rw [iI, lV, lV]; rfl
 intro m
 induction m with
 | zero =>
  intro i h1 h2
  refine ai.step (fun k => by rw [bn.l1]) (ai.neg hne ?_)
  refine ai.step (fun k => by rw [bn.j2]) (ai.neg ?_ ?_)
  ·rw [w64 (by omega) (by omega)]; simp; omega
  rw [kC _ _ (by rw [List.length_drop, hb]; omega)]
  exact ai.now
 | succ m ih =>
  intro i h1 h2
  refine ai.step (fun k => by rw [bn.l1]) (ai.neg hne ?_)
  have hwr : wrap64 ((i : Int) + ((s.size + 2 : Nat) : Int)) = ((i + (s.size + 2) : Nat) : Int) := by rw [w64 (by omega) (by omega)]; omega
  rw [hwr]
  refine ai.step (fun k => by rw [bn.j2]) ?_
  rw [hwr]
  by_cases c : i + (s.size + 2) ≤ w.size
  ·refine ai.pos (decide_eq_true (by omega)) (ai.pos (by omega) (ai.pos (by omega) (ai.pos (by omega) (ai.pos (by omega) (ai.pos (by omega) ?_)))))
   rw [Int.toNat_natCast, Int.toNat_natCast, iI, zV, hLb, inc i (by omega)]
   have hd := jh (L w) i (by omega)
   by_cases e : ((L w).drop i).take (s.size + 2) = 32 :: (L s ++ [32])
   ·refine ai.pos e ?_
    have : jw (32 :: (L s ++ [32])) ((L w).drop i) = true := by
     rw [hd] at e ⊢
     rw [jw, Bool.or_eq_true, jH]
     refine Or.inl ⟨?_, by rw [hb]; exact e⟩
     rw [hb, ← hd, List.length_drop]; omega
    rw [this]
    exact ai.now
   refine ai.neg e ?_
   have : jw (32 :: (L s ++ [32])) ((L w).drop i) = jw (32 :: (L s ++ [32])) ((L w).drop (i + 1)) := by
    rw [hd, jw, ← hd]
    have : List.isPrefixOf (32 :: (L s ++ [32])) ((L w).drop i) = false := by
     rw [Bool.eq_false_iff, ne_eq, jH]
     rintro ⟨_, q⟩
     rw [hb] at q
     exact e q
    rw [this, Bool.false_or]
   rw [this]
   exact ih (i + 1) (by omega) (by omega)
  refine ai.neg (by simp; omega) ?_
  rw [kC _ _ (by rw [List.length_drop, hb]; omega)]
  exact ai.now
theorem qJ (q : UInt8 → Bool) (l : List UInt8) : (l.takeWhile q).all q = true := by
 induction l with
 | nil => rfl
 | cons a t ih =>
  rw [List.takeWhile_cons]
  split
  ·rename_i h; rw [List.all_cons, h, ih]; rfl
  rfl
theorem mQ : ∀ (l x : List UInt8), x ∈ wordsOf l → x.all l9 = true
 | [], x, h => by simp [wordsOf] at h
 | c :: t, x, h => by
  rw [wordsOf] at h
  split at h
  ·rcases List.mem_cons.1 h with rfl | h
   ·exact qJ _ _
   exact mQ t x h
  exact mQ t x h
theorem zK (w s : ByteArray) (hs : s.size ≤ 3000) (hw : w.size ≤ 1000) (hn : (wordsOf (L w)).contains [] = false) : ∀ (m i : Nat), s.size = m + i →
 (∀ j, j < i → (L s).getD j 0 ≠ 32) → ai (fun k => bn.l0 k w s (s.size : Int) (i : Int)) ((wordsOf (L w)).contains (L s)) := by
 have hL := dm s
 intro m
 induction m with
 | zero =>
  intro i h1 h2
  refine ai.step (fun k => by rw [bn.l0]) (ai.neg (by omega) ?_)
  have hall : (L s).all l9 = true := by
   rw [List.all_eq_true]
   intro x hx
   obtain ⟨j, hj, rfl⟩ := List.getElem_of_mem hx
   have := h2 j (by omega)
   rw [List.getD_eq_getElem?_getD, List.getElem?_eq_getElem hj] at this
   simpa [l9] using this
  rw [w64 (n := (s.size : Int) + 2) (by omega) (by omega), show (s.size : Int) + 2 = ((s.size + 2 : Nat) : Int) by omega]
  by_cases e : s.toList = ([] : List UInt8)
  ·rw [(isE s).1 e, hn]
   refine ai.step (fun k => by rw [bn.l1]) (ai.pos e ?_)
   exact ai.step (fun k => by rw [bn.j2]) (ai.neg (by simp) ai.now)
  rw [← mZ _ hall]
  have := zJ w s hs hw e w.size 0 (by omega) (by omega)
  rw [List.drop_zero] at this
  exact this
 | succ m ih =>
  intro i h1 h2
  refine ai.step (fun k => by rw [bn.l0]) (ai.pos (by omega) (ai.pos (by omega) (ai.pos (by omega) ?_)))
  rw [yt, inc i (by omega)]
  have hsplit : ((((L s).getD i 0).toNat : Int) = 32) ↔ (L s).getD i 0 = 32 := iP _ 32
  by_cases c : (L s).getD i 0 = 32
  ·refine ai.pos (hsplit.2 c) ?_
   have : (wordsOf (L w)).contains (L s) = false := by
    rw [Bool.eq_false_iff]
    intro h
    have := mQ _ _ (List.contains_iff_mem.1 h)
    rw [List.all_eq_true] at this
    have hi : i < (L s).length := by omega
    have := this _ (List.getElem_mem hi)
    rw [List.getD_eq_getElem?_getD, List.getElem?_eq_getElem hi] at c
    simp at c
    rw [c] at this
    exact absurd this (by decide)
   rw [this]
   exact ai.now
  refine ai.neg (fun h => c (hsplit.1 h)) (ih (i + 1) (by omega) (fun j hj => ?_))
  rcases Nat.eq_or_lt_of_le (Nat.lt_succ_iff.1 hj) with rfl | hj
  ·exact c
  exact h2 j hj
theorem xC (w s : ByteArray) (hs : s.size ≤ 3000) (hw : w.size ≤ 1000) (hn : (wordsOf (L w)).contains [] = false) : ai (fun k => bn.f k w s) ((wordsOf (L w)).contains (L s)) := by
 have := zK w s hs hw hn s.size 0 (by omega) (fun j hj => by omega)
 exact this
/-- What a node of a kind has, and whether there is such a kind; what its number may be. -/
def uX (a : Int) : Int × Bool :=
 if a = 1 then (5, true) else if a = 2 then (7, true) else if a = 3 ∨ a = 4 ∨ a = 6 ∨ a = 7 ∨ a = 21 then (1, true) else if a = 19 then (4, true) else if a = 20 then (32, true)
 else if a = 23 then (3, true) else if a = 27 then (8, true) else if a = 28 then (16, true) else (0, decide (1 ≤ a ∧ a ≤ 30))
def rangeS (a : Int) : Int × Int := if a = 1 then (1, 2147483647) else if a = 2 then (0, 8) else (0, 9223372036854775807)
theorem uV (a : Int) (b : Bool) (h : b = decide (a = 3 ∨ a = 4 ∨ a = 6 ∨ a = 7 ∨ a = 21)) (h1 : a ≠ 1) (h2 : a ≠ 2) : ai (fun k => bY.j0 k a a b) (uX a) := by
 refine ai.step (fun k => by rw [bY.j0]) ?_
 unfold uX
 rw [if_neg h1, if_neg h2]
 by_cases c : a = 3 ∨ a = 4 ∨ a = 6 ∨ a = 7 ∨ a = 21
 ·rw [if_pos c]
  exact ai.pos (by rw [h]; exact decide_eq_true c) ai.now
 rw [if_neg c]
 refine ai.neg (by rw [h]; simpa using c) ?_
 refine ai.both (fun _ => ai.now) (fun c1 => ai.both (fun _ => ai.now) (fun c2 => ai.both (fun _ => ai.now) (fun c3 => ai.both (fun _ => ai.now) (fun c4 => ai.both (fun _ => ai.now) (fun c5 => ?_)))))
 by_cases c6 : a ≥ 1
 ·refine ai.pos c6 ?_
  rw [show (decide (1 ≤ a ∧ a ≤ 30)) = decide (a ≤ 30) from by simp; omega]
  exact ai.now
 refine ai.neg c6 ?_
 rw [show (decide (1 ≤ a ∧ a ≤ 30)) = false from decide_eq_false (by omega)]
 exact ai.now
theorem DK (a : Int) : ai (fun k => bY.f k a) (uX a) := by
 unfold bY.f
 by_cases h1 : a = 1
 ·subst h1; exact ai.pos rfl ai.now
 refine ai.neg h1 ?_
 by_cases h2 : a = 2
 ·subst h2; exact ai.pos rfl ai.now
 refine ai.neg h2 ?_
 by_cases h3 : a = 3
 ·exact ai.pos h3 (uV a _ (by simp [h3]) h1 h2)
 refine ai.neg h3 ?_
 by_cases h4 : a = 4
 ·exact ai.pos h4 (uV a _ (by simp [h4]) h1 h2)
 refine ai.neg h4 ?_
 by_cases h5 : a = 6
 ·exact ai.pos h5 (uV a _ (by simp [h5]) h1 h2)
 refine ai.neg h5 ?_
 by_cases h6 : a = 7
 ·exact ai.pos h6 (uV a _ (by simp [h6]) h1 h2)
 refine ai.neg h6 (uV a _ ?_ h1 h2)
 rw [Bool.eq_iff_iff, beq_iff_eq, decide_eq_true_eq]; omega
def oU (b m : Int) : Bool := Go.bits .and .i64 b m != 0
def textS (b : Int) (s : ByteArray) : Bool :=
 if Go.bits .and .i64 b 2 = 0 then if Go.bits .and .i64 b 8 = 0 then if Go.bits .and .i64 b 16 = 0 then if Go.bits .and .i64 b 32 = 0 then (L s).isEmpty else decide (s.size ≤ 1024) else UNS.contains (L s) else OPS.contains (L s) else jo (L s)
theorem Cj (b : Int) (s : ByteArray) (hs : s.size ≤ 3000) : ai (fun k => dU.f k b s) (textS b s) := by
 unfold dU.f textS
 refine ai.both (fun _ => ai.both (fun _ => ai.both (fun _ => ai.both (fun _ => ai.jI fun k => ?_) (fun _ => ai.jI fun k => ?_)) (fun _ => ?_)) (fun _ => ?_)) (fun _ => ?_)
 ·rw [iI]
  cases L s <;> rfl
 ·congr 1
  rw [decide_eq_decide]; omega
 ·have := xC UB s hs (by decide) (by rw [ut]; decide)
  rw [ut] at this
  exact ai.bind (G := fun _ t => some t) this ai.now
 ·have := xC OB s hs (by decide) (by rw [uu]; decide)
  rw [uu] at this
  exact ai.bind (G := fun _ t => some t) this ai.now
 exact ai.bind (G := fun _ t => some t) (wL s (by omega)) ai.now
/-- A node has just what it may. -/
def xq (b : Int) (ok : Bool) (lo hi : Int) (x : S41) : Bool :=
 ok && (textS b x.f4 && ((oU b 1 == jo (L x.f2)) && ((oU b 1 || (L x.f2).isEmpty) && (if Go.bits .and .i64 b 4 = 0 then x.f3 == 0 else decide (lo ≤ x.f3 ∧ x.f3 ≤ hi)))))
def nP (x : S41) : Bool := xq (uX x.f0).1 (uX x.f0).2 (rangeS x.f0).1 (rangeS x.f0).2 x
theorem Ah (a : Int) : fZ.f a = some (rangeS a) := by
 unfold fZ.f rangeS
 split
 ·rfl
 split <;> rfl
theorem oh (x : S41) (b lo hi : Int) (c : Bool) : ai (fun k => bg.j1 k b lo hi c x.f0 x.f1 x.f2 x.f3 x.f4) (!c && (if Go.bits .and .i64 b 4 = 0 then x.f3 == 0 else decide (lo ≤ x.f3 ∧ x.f3 ≤ hi))) := by
 refine ai.step (fun k => by rw [bg.j1]) ?_
 cases c with
 | true => exact ai.pos rfl ai.now
 | false =>
  refine ai.neg (by simp) ?_
  rw [Bool.not_false, Bool.true_and]
  refine ai.both (fun _ => ai.now) (fun c4 => ?_)
  by_cases c5 : x.f3 ≥ lo
  ·refine ai.pos c5 ?_
   rw [show decide (lo ≤ x.f3 ∧ x.f3 ≤ hi) = decide (x.f3 ≤ hi) from by rw [decide_eq_decide]; omega]
   exact ai.now
  refine ai.neg c5 ?_
  rw [show decide (lo ≤ x.f3 ∧ x.f3 ≤ hi) = false from decide_eq_false (by omega)]
  exact ai.now
theorem rQ (x : S41) (h2 : x.f2.size ≤ 3000) (b lo hi : Int) (c : Bool) : ai (fun k => bg.j0 k b lo hi c x.f0 x.f1 x.f2 x.f3 x.f4)
 (!c && ((oU b 1 == jo (L x.f2)) && ((oU b 1 || (L x.f2).isEmpty) && (if Go.bits .and .i64 b 4 = 0 then x.f3 == 0 else decide (lo ≤ x.f3 ∧ x.f3 ≤ hi))))) := by
 refine ai.step (fun k => by rw [bg.j0]) ?_
 cases c with
 | true => exact ai.pos rfl ai.now
 | false =>
  refine ai.neg (by simp) (ai.bind (wL x.f2 (by omega)) ?_)
  rw [Bool.not_false, Bool.true_and]
  by_cases c1 : oU b 1 = jo (L x.f2)
  ·rw [beq_iff_eq.2 c1, Bool.true_and]
   refine ai.neg (by unfold oU at c1; rw [c1]; simp) ?_
   by_cases c2 : Go.bits .and .i64 b 1 = 0
   ·refine ai.pos c2 ?_
    have hb : oU b 1 = false := by unfold oU; rw [c2]; rfl
    rw [hb, Bool.false_or]
    have := oh x b lo hi (x.f2.toList != ([] : List UInt8))
    rwa [show (!(x.f2.toList != ([] : List UInt8))) = (L x.f2).isEmpty from by rw [iI]; cases L x.f2 <;> rfl] at this
   refine ai.neg c2 ?_
   have hb : oU b 1 = true := by unfold oU; simpa using c2
   rw [hb, Bool.true_or, Bool.true_and]
   have := oh x b lo hi false
   rwa [Bool.not_false, Bool.true_and] at this
  rw [show (oU b 1 == jo (L x.f2)) = false from beq_eq_false_iff_ne.2 c1, Bool.false_and]
  exact ai.pos (by unfold oU at c1; simpa using c1) (oh x b lo hi true)
theorem zy (x : S41) (h2 : x.f2.size ≤ 3000) (h4 : x.f4.size ≤ 3000) : ai (fun k => bg.f k x.f0 x.f1 x.f2 x.f3 x.f4) (nP x) := by
 unfold bg.f nP xq
 refine ai.bind (DK x.f0) ?_
 simp only [Ah, Option.bind_some]
 cases hok : (uX x.f0).2 with
 | false =>
  rw [Bool.false_and]
  exact ai.neg (by simp) (rQ x h2 _ _ _ true)
 | true =>
  rw [Bool.true_and]
  refine ai.pos rfl (ai.bind (Cj _ _ h4) ?_)
  have := rQ x h2 (uX x.f0).1 (rangeS x.f0).1 (rangeS x.f0).2 (!textS (uX x.f0).1 x.f4)
  rwa [Bool.not_not] at this
/-! Kids. -/
def exS (l : List Int) (lo hi : Nat) : Bool := decide (lo ≤ l.length ∧ l.length ≤ hi) && l.all jP
def ifS (hi : Nat) (l : List Int) : Bool := decide (2 ≤ l.length ∧ l.length ≤ hi) && (jP (rd l 0) && (l.drop 1).all (· == 5))
def Ba (l : List Int) : Bool := decide (1 ≤ l.length ∧ l.length ≤ 9) && (rd l ((l.length - 1 : Nat) : Int) == 5 && (l.take (l.length - 1)).all (· == 4))
def sZ (l : List Int) : Bool := (l.dropWhile (· == 2)).all (· == 3)
def iU (a : Int) (l : List Int) : Bool :=
 if a = 1 then sZ l else if a = 3 ∨ a = 24 then Ba l else if a = 5 then l.all ku else if a = 9 then ifS 3 l else if a = 10 then ifS 2 l else if a = 8 then exS l 3 3
 else if a = 6 ∨ a = 7 ∨ a = 13 ∨ a = 14 ∨ a = 15 ∨ a = 17 ∨ a = 28 ∨ a = 30 then exS l 1 1 else if a = 22 then exS l 1 9 else if a = 23 then exS l 0 8 else if a = 26 ∨ a = 27 then exS l 2 2 else decide (l.length = 0)
theorem mf (l : List Int) (lo hi : Nat) : dR.f l (lo : Int) (hi : Int) = some (exS l lo hi) := by
 unfold dR.f exS kZ.f
 by_cases c : lo ≤ l.length
 ·rw [if_pos (by omega)]
  by_cases c2 : l.length ≤ hi
  ·rw [if_pos (by omega), decide_eq_true ⟨c, c2⟩]; rfl
  rw [if_neg (by omega), decide_eq_false (by omega)]; rfl
 rw [if_neg (by omega), decide_eq_false (by omega)]; rfl
theorem D7 (a : Int) : fV.f a = some (jP a) := by
 unfold fV.f jP
 by_cases c : a ≥ 18
 ·rw [if_pos c]; congr 1; rw [decide_eq_decide]; omega
 rw [if_neg c]; congr 1; symm; exact decide_eq_false (by omega)
theorem ww (l : List Int) (hl : l.length ≤ 200000) : bV.f l = some (Ba l) := by
 unfold bV.f Ba gV.f
 by_cases c : 1 ≤ l.length
 ·rw [w64 (by omega) (by omega), show (l.length : Int) - 1 = ((l.length - 1 : Nat) : Int) by omega, if_pos (by omega)]
  by_cases c2 : l.length ≤ 9
  ·rw [if_pos (by omega), if_pos (by omega), if_pos (by omega), decide_eq_true ⟨c, c2⟩, Bool.true_and]
   by_cases c3 : rd l ((l.length - 1 : Nat) : Int) = 5
   ·rw [if_pos c3, if_pos (by omega), c3]; rfl
   rw [if_neg c3, show (rd l ((l.length - 1 : Nat) : Int) == 5) = false from beq_eq_false_iff_ne.2 c3]; rfl
  rw [if_neg (by omega), decide_eq_false (by omega)]; rfl
 rw [w64 (by omega) (by omega), if_neg (by omega), decide_eq_false (by omega)]; rfl
theorem zg (l : List Int) (hl : l.length ≤ 200000) : ∀ (m i : Nat), l.length = m + i → ai (fun k => bK.l0 k l (i : Int)) (sZ (l.drop i)) := by
 intro m
 induction m with
 | zero =>
  intro i h
  refine ai.step (fun k => by rw [bK.l0]) (ai.neg (by omega) (ai.pos (by omega) (ai.pos (by omega) ?_)))
  rw [Int.toNat_natCast, List.drop_eq_nil_of_le (by omega)]
  exact ai.now
 | succ m ih =>
  intro i h
  have hi : i < l.length := by omega
  have hrd : rd l (i : Int) = l[i] := by simp [rd, List.getD_eq_getElem?_getD, List.getElem?_eq_getElem hi]
  refine ai.step (fun k => by rw [bK.l0]) (ai.pos (by omega) (ai.pos (by omega) ?_))
  rw [hrd, inc i (by omega)]
  by_cases c : l[i] = 2
  ·refine ai.pos c ?_
   rw [show sZ (l.drop i) = sZ (l.drop (i + 1)) from by unfold sZ; rw [List.drop_eq_getElem_cons hi, List.dropWhile_cons, if_pos (by rw [c]; rfl)]]
   exact ih (i + 1) (by omega)
  refine ai.neg c (ai.pos (by omega) ?_)
  rw [Int.toNat_natCast, show sZ (l.drop i) = (l.drop i).all (· == 3) from by unfold sZ; rw [List.drop_eq_getElem_cons hi, List.dropWhile_cons, if_neg (by simpa using c)]]
  exact ai.now
theorem zk (l : List Int) (hl : l.length ≤ 200000) : ai (fun k => bK.f k l) (sZ l) := by
 have := zg l hl l.length 0 (by omega)
 exact this
theorem o9 {α : Type} {F : Nat → Option α} {v : α} (h : ai F v) : ai (fun k => (F k).bind fun t => some t) v := ai.bind h ai.now
theorem AO (a : Int) (l : List Int) (hl : l.length ≤ 200000) (b : Bool) (hb : b = decide (a = 6 ∨ a = 7 ∨ a = 13 ∨ a = 14 ∨ a = 15 ∨ a = 17 ∨ a = 28 ∨ a = 30)) (h1 : a ≠ 1) (h2 : ¬ (a = 3 ∨ a = 24)) (h3 : a ≠ 5) (h4 : a ≠ 9) (h5 : a ≠ 10) (h6 : a ≠ 8) :
 ai (fun k => aW.j2 k l (l.length : Int) a b) (iU a l) := by
 unfold iU
 rw [if_neg h1, if_neg h2, if_neg h3, if_neg h4, if_neg h5, if_neg h6]
 refine ai.step (fun k => by rw [aW.j2]) ?_
 by_cases c : a = 6 ∨ a = 7 ∨ a = 13 ∨ a = 14 ∨ a = 15 ∨ a = 17 ∨ a = 28 ∨ a = 30
 ·rw [if_pos c]
  exact ai.pos Z66 (o9 (ai.jI fun k => mf l 1 1))
 rw [if_neg c]
 refine ai.neg (by rw [hb]; simpa using c) ?_
 refine ai.both (fun _ => o9 (ai.jI fun k => mf l 1 9)) (fun _ => ai.both (fun _ => o9 (ai.jI fun k => mf l 0 8)) (fun _ => ?_))
 by_cases c3 : a = 26
 ·rw [if_pos (Or.inl c3)]; exact ai.pos c3 (o9 (ai.jI fun k => mf l 2 2))
 refine ai.neg c3 ?_
 by_cases c4 : a = 27
 ·rw [if_pos (Or.inr c4)]; exact ai.pos c4 (o9 (ai.jI fun k => mf l 2 2))
 rw [if_neg (show ¬ (a = 26 ∨ a = 27) by omega)]
 refine ai.neg c4 (ai.jI fun k => ?_)
 congr 1
 rw [Bool.eq_iff_iff, beq_iff_eq, decide_eq_true_eq]; omega
theorem BI {F : Nat → Option Bool} (l : List Int) (hi : Nat) (hF : ∀ k, F k = if (l.length : Int) ≥ 2 then (if (l.length : Int) ≤ (hi : Int) then (if 0 < (l.length : Int) then ((fV.f (rd l 0)).bind fun t153 => (if t153 = true then (if 1 ≤ (l.length : Int) then ((gV.f (l.drop 1) 5).bind fun t155 => (some t155)) else (none)) else (some false))) else (none)) else (some false)) else (some false)) :
 ai F (ifS hi l) := by
 refine ai.jI fun k => ?_
 rw [hF]
 unfold ifS
 by_cases c : 2 ≤ l.length
 ·rw [if_pos (by omega)]
  by_cases c2 : l.length ≤ hi
  ·rw [if_pos (by omega), if_pos (by omega), D7, decide_eq_true ⟨c, c2⟩, Bool.true_and, Option.bind_some]
   cases jP (rd l 0)
   ·rfl
   rw [if_pos rfl, if_pos (by omega)]; rfl
  rw [if_neg (by omega), decide_eq_false (by omega)]; rfl
 rw [if_neg (by omega), decide_eq_false (by omega)]; rfl
theorem xk (a : Int) (l : List Int) (hl : l.length ≤ 200000) (b : Bool) (hb : b = decide (a = 9 ∨ a = 10)) (h1 : a ≠ 1) (h2 : ¬ (a = 3 ∨ a = 24)) (h3 : a ≠ 5) :
 ai (fun k => aW.j1 k a l (l.length : Int) a b) (iU a l) := by
 refine ai.step (fun k => by rw [aW.j1]) ?_
 by_cases c1 : a = 9
 ·rw [show iU a l = ifS 3 l from by unfold iU; rw [if_neg h1, if_neg h2, if_neg h3, if_pos c1]]
  exact ai.pos (by rw [hb]; exact decide_eq_true (.inl c1)) (ai.pos c1 (BI l 3 (fun k => rfl)))
 by_cases c2 : a = 10
 ·rw [show iU a l = ifS 2 l from by unfold iU; rw [if_neg h1, if_neg h2, if_neg h3, if_neg c1, if_pos c2]]
  exact ai.pos (by rw [hb]; exact decide_eq_true (.inr c2)) (ai.neg c1 (BI l 2 (fun k => rfl)))
 refine ai.neg (by rw [hb]; simp [c1, c2]) ?_
 by_cases c3 : a = 8
 ·refine ai.pos c3 ?_
  rw [show iU a l = exS l 3 3 from by unfold iU; rw [if_neg h1, if_neg h2, if_neg h3, if_neg c1, if_neg c2, if_pos c3]]
  exact o9 (ai.jI fun k => mf l 3 3)
 refine ai.neg c3 ?_
 have go : ∀ b : Bool, b = decide (a = 6 ∨ a = 7 ∨ a = 13 ∨ a = 14 ∨ a = 15 ∨ a = 17 ∨ a = 28 ∨ a = 30) → ai (fun k => aW.j2 k l (l.length : Int) a b) (iU a l) := fun b hb => AO a l hl b hb h1 h2 h3 c1 c2 c3
 by_cases d1 : a = 6
 ·exact ai.pos d1 (go _ (by simp [d1]))
 refine ai.neg d1 ?_
 by_cases d2 : a = 7
 ·exact ai.pos d2 (go _ (by simp [d2]))
 refine ai.neg d2 ?_
 by_cases d3 : a = 13
 ·exact ai.pos d3 (go _ (by simp [d3]))
 refine ai.neg d3 ?_
 by_cases d4 : a = 14
 ·exact ai.pos d4 (go _ (by simp [d4]))
 refine ai.neg d4 ?_
 by_cases d5 : a = 15
 ·exact ai.pos d5 (go _ (by simp [d5]))
 refine ai.neg d5 ?_
 by_cases d6 : a = 17
 ·exact ai.pos d6 (go _ (by simp [d6]))
 refine ai.neg d6 ?_
 by_cases d7 : a = 28
 ·exact ai.pos d7 (go _ (by simp [d7]))
 exact ai.neg d7 (go _ Z67)
theorem xm (a : Int) (l : List Int) (hl : l.length ≤ 200000) (b : Bool) (hb : b = decide (a = 3 ∨ a = 24)) (h1 : a ≠ 1) : ai (fun k => aW.j0 k a l (l.length : Int) a b) (iU a l) := by
 refine ai.step (fun k => by rw [aW.j0]) ?_
 by_cases c : a = 3 ∨ a = 24
 ·refine ai.pos Z66 ?_
  rw [show iU a l = Ba l from by unfold iU; rw [if_neg h1, if_pos c]]
  exact o9 (ai.jI fun k => ww l hl)
 refine ai.neg (by rw [hb]; simpa using c) ?_
 by_cases c1 : a = 5
 ·refine ai.pos c1 ?_
  rw [show iU a l = l.all ku from by unfold iU; rw [if_neg h1, if_neg c, if_pos c1]]
  exact ai.now
 refine ai.neg c1 ?_
 by_cases d1 : a = 9
 ·exact ai.pos d1 (xk a l hl _ (by simp [d1]) h1 c c1)
 exact ai.neg d1 (xk a l hl _ Z67 h1 c c1)
theorem CZ (a : Int) (l : List Int) (hl : l.length ≤ 200000) : ai (fun k => aW.f k a l) (iU a l) := by
 unfold aW.f
 by_cases c : a = 1
 ·refine ai.pos c ?_
  rw [show iU a l = sZ l from by unfold iU; rw [if_pos c]]
  exact o9 (zk l hl)
 refine ai.neg c ?_
 by_cases d1 : a = 3
 ·exact ai.pos d1 (xm a l hl _ (by simp [d1]) c)
 exact ai.neg d1 (xm a l hl _ Z67 c)
end Go.Proofs.Ytendgafpkeadhaa.Tree
end
section
set_option linter.unusedVariables false
set_option linter.unusedSimpArgs false
namespace Go.Proofs.Ytendgafpkeadhaa.Tree
open Go Go.RowKit Go.Proofs.YtendgafpkeadhaaW.PrintWords Go.Proofs.Ytendgafpkeadhaa.Q Go.Proofs.Ytendgafpkeadhaa.Lex
/-- The kinds of a node's kids. -/
def CY (l : List S41) (i : Nat) : List Int := (its l (ax l (i : Int)).f1.toNat ((i + 1 : Nat) : Int)).map fun p => (ax l p).f0
def BJ (l : List S41) (i : Nat) : Bool := nP (ax l (i : Int)) && iU (ax l (i : Int)).f0 (CY l i)
/-- The first node from a place on that is not right; so many are left. -/
def yu (l : List S41) : Nat → Nat → Int × Int
 | 0, _ => (0, 0)
 | m + 1, i => if BJ l i then yu l m (i + 1) else (4, (i : Int))
def sJ (l : List S41) : Bool := decide (iC l.length l 1 = some l.length)
def ny (l : List S41) : Int × Int :=
 if 2000 < l.length then (3, 0) else if sJ l = false then (2, 0) else if 60 < oQ l [] 0 then (3, 0) else if (ax l 0).f0 ≠ 1 then (4, 0) else yu l l.length 0
/-- Names and texts are short. -/
def short (l : List S41) : Prop := ∀ x ∈ l, x.f2.size ≤ 3000 ∧ x.f4.size ≤ 3000
theorem yH {l : List S41} (h : short l) (i : Nat) (hi : i < l.length) : (ax l (i : Int)).f2.size ≤ 3000 ∧ (ax l (i : Int)).f4.size ≤ 3000 := by
 rw [vN l i hi]
 exact h _ (List.getElem_mem hi)
theorem zY (l : List S41) (hl : l.length ≤ 100000) (hs : short l) (i : Nat) (hi : i < l.length) (ks : List Int) (hks : ks.length ≤ 100000) (hk : ∀ q ∈ ks, 0 ≤ q ∧ q < (l.length : Int)) (v : Int × Int)
 (hnext : ai (fun k => bf.l0 k l l (l.length : Int) ((i + 1 : Nat) : Int)) v) : ∀ (m idx : Nat) (acc : List Int), ks.length = m + idx → acc.length = idx →
 ai (fun k => bf.l1 k l (i : Int) acc l (l.length : Int) (i : Int) ks (ks.length : Int) (idx : Int) (ax l (i : Int)).f0 (ax l (i : Int)).f1 (ax l (i : Int)).f2 (ax l (i : Int)).f3 (ax l (i : Int)).f4)
  (if nP (ax l (i : Int)) && iU (ax l (i : Int)).f0 (acc ++ (ks.drop idx).map fun p => (ax l p).f0) then v else (4, (i : Int))) := by
 obtain ⟨h2, h4⟩ := yH hs i hi
 intro m
 induction m with
 | zero =>
  intro idx acc h1 ha
  refine ai.step (fun k => by rw [bf.l1]) ?_
  refine ai.neg (by omega) ?_
  rw [List.drop_eq_nil_of_le (by omega), List.map_nil, List.append_nil]
  refine ai.bind (zy _ h2 h4) ?_
  cases nP (ax l (i : Int)) with
  | false => exact ai.neg (by simp) ai.now
  | true =>
   refine ai.pos rfl (ai.bind (CZ _ acc (by omega)) ?_)
   rw [Bool.true_and]
   cases iU (ax l (i : Int)).f0 acc with
   | false => exact ai.neg (by simp) ai.now
   | true =>
    refine ai.pos rfl ?_
    rw [inc i (by omega)]
    exact hnext
 | succ m ih =>
  intro idx acc h1 ha
  have hx : idx < ks.length := by omega
  have hrd : rd ks (idx : Int) = ks[idx] := by simp [rd, List.getD_eq_getElem?_getD, List.getElem?_eq_getElem hx]
  have hq := hk _ (List.getElem_mem hx)
  refine ai.step (fun k => by rw [bf.l1]) ?_
  refine ai.pos (by omega) (ai.pos (by omega) (ai.pos (by omega) ?_))
  rw [hrd, inc idx (by omega)]
  refine ai.pos hq.1 (ai.pos hq.2 (ai.pos (by omega) ?_))
  have := ih (idx + 1) (acc ++ [(ax l ks[idx]).f0]) (by omega) (by simp [ha])
  rw [List.append_assoc] at this
  rw [List.drop_eq_getElem_cons hx, List.map_cons]
  exact this
theorem zZ (l : List S41) (hl : l.length ≤ 100000) (hs : short l) (hw : iC l.length l 1 = some l.length) : ∀ (m i : Nat), l.length = m + i → ai (fun k => bf.l0 k l l (l.length : Int) (i : Int)) (yu l m i) := by
 intro m
 induction m with
 | zero =>
  intro i h1
  refine ai.step (fun k => by rw [bf.l0]) ?_
  exact ai.neg (by omega) ai.now
 | succ m ih =>
  intro i h1
  have hi : i < l.length := by omega
  obtain ⟨hK, hK1, hK2⟩ := wO hl hw i hi
  refine ai.step (fun k => by rw [bf.l0]) ?_
  refine ai.pos (by omega) (ai.pos (by omega) (ai.pos (by omega) (ai.bind hK ?_)))
  have := zY l hl hs i hi _ hK1 (fun q hq => by have := hK2 q hq; omega) _ (ih (i + 1) (by omega)) _ 0 [] rfl rfl
  rw [List.drop_zero, List.nil_append] at this
  exact this
theorem ry {l : List S41} : iW l 0 = (l.length : Int) ∧ l ≠ [] ↔ iC l.length l 1 = some l.length := by
 unfold iW
 rw [if_neg (by omega), Int.toNat_zero, List.drop_zero]
 cases h : iC l.length l 1 with
 | none =>
  simp only [oq]; constructor; · intro h; omega
  intro h; cases h
 | some m =>
  have := tK _ _ _ _ h
  simp only [oq, Option.some.injEq]
  constructor
  ·intro h; omega
  intro h; exact ⟨by omega, by rintro rfl; simp at this; omega⟩
theorem BF (l : List S41) (hl : l.length ≤ 100000) (hs : short l) : ai (fun k => bf.f k l) (ny l) := by
 unfold bf.f ny
 by_cases c : 2000 < l.length
 ·rw [if_pos c]; exact ai.pos (by omega) ai.now
 rw [if_neg c]
 refine ai.neg (by omega) ?_
 by_cases c1 : l = []
 ·subst c1
  refine ai.pos rfl (ai.step (fun k => by rw [bf.j0]) (ai.pos rfl ?_))
  exact ai.now
 have hlen : l.length ≠ 0 := fun h => c1 (List.eq_nil_of_length_eq_zero h)
 refine ai.neg (by omega) (ai.bind (sG l hl 0) ?_)
 by_cases hw : iC l.length l 1 = some l.length
 ·rw [show sJ l = true from decide_eq_true hw, if_neg (by simp)]
  refine ai.step (fun k => by rw [bf.j0]) ?_
  refine ai.neg (by rw [(ry.2 hw).1]; simp) ?_
  have hwb : mV l l.length = true := xK l l.length (Nat.le_refl _) (fun q hq => by
   obtain ⟨m', _, e⟩ := xx _ _ _ _ q hw (Nat.le_refl 1) hq
   rw [e]; rfl)
  have hd := BD l hl
  rw [hwb, if_pos rfl] at hd
  refine ai.bind hd ?_
  by_cases c2 : 60 < oQ l [] 0
  ·rw [if_pos c2]; exact ai.pos (by omega) ai.now
  rw [if_neg c2]
  refine ai.neg (by omega) (ai.pos (by omega) ?_)
  by_cases c3 : (ax l 0).f0 = 1
  ·rw [if_neg (fun q => q c3)]
   exact ai.pos c3 (zZ l hl hs hw l.length 0 (by omega))
  rw [if_pos c3]
  exact ai.neg c3 ai.now
 rw [show sJ l = false from decide_eq_false hw, if_pos rfl]
 refine ai.step (fun k => by rw [bf.j0]) ?_
 refine ai.pos ?_ ai.now
 rw [bne_iff_ne]
 intro e
 exact hw (ry.1 ⟨e, c1⟩)
end Go.Proofs.Ytendgafpkeadhaa.Tree
end
section
set_option linter.unusedVariables false
set_option linter.unusedSimpArgs false
namespace Go.Proofs.Ytendgafpkeadhaa.Par
open Go Go.RowKit Go.Proofs.YtendgafpkeadhaaW.PrintWords Go.Proofs.Ytendgafpkeadhaa.Q Go.Proofs.Ytendgafpkeadhaa.Lex Go.Proofs.Ytendgafpkeadhaa.Tree
theorem wX (ts : List S38) (hts : ts.length ≤ 40000) (M : Nat) (hM : M ≤ 10000) (hp : ∀ t ∈ ts, 0 ≤ t.f3 ∧ t.f3 + 1 ≤ (M : Int)) (p : Nat) (b : Bool) : ∃ a : Int, dO.f ts (p : Int) b = some (a, (p : Int), b) ∧ 0 ≤ a ∧ a ≤ (M : Int) := by
 have key : ∀ i (hi : i < ts.length), 0 ≤ (eu ts (i : Int)).f3 ∧ (eu ts (i : Int)).f3 + 1 ≤ (M : Int) := by
  intro i hi
  obtain ⟨_, h2, _⟩ := nX ts i _ _ (List.drop_eq_getElem_cons hi)
  rw [h2]
  exact hp _ (List.getElem_mem hi)
 unfold dO.f
 by_cases c : p < ts.length
 ·have := key p c
  refine ⟨(eu ts (p : Int)).f3, ?_, this.1, by omega⟩
  rw [if_pos (by omega), if_pos (by omega)]
 by_cases d : 0 < ts.length
 ·have := key (ts.length - 1) (by omega)
  have e : wrap64 ((ts.length : Int) - 1) = ((ts.length - 1 : Nat) : Int) := by rw [Tree.w64 (by omega) (by omega)]; omega
  refine ⟨(eu ts ((ts.length - 1 : Nat) : Int)).f3 + 1, ?_, by omega, this.2⟩
  rw [if_neg (by omega), if_pos (by omega), e, if_pos (by omega), if_pos (by omega), Tree.w64 (by omega) (by omega)]
 exact ⟨0, by rw [if_neg (by omega), if_neg (by omega)], by omega, by omega⟩
theorem sF (l : List S41) : ∀ m i, (yu l m i).1 = 0 → yu l m i = (0, 0)
 | 0, _, _ => rfl
 | m + 1, i, h => by
  unfold yu at h ⊢
  by_cases c : BJ l i = true
  ·rw [if_pos c] at h ⊢; exact sF l m (i + 1) h
  rw [if_neg c] at h; exact absurd h (by simp)
theorem vk (l : List S41) (h : (ny l).1 = 0) : ny l = (0, 0) := by
 unfold ny at h ⊢
 by_cases c1 : 2000 < l.length
 ·rw [if_pos c1] at h; exact absurd h (by simp)
 rw [if_neg c1] at h ⊢
 by_cases c2 : sJ l = false
 ·rw [if_pos c2] at h; exact absurd h (by simp)
 rw [if_neg c2] at h ⊢
 by_cases c3 : 60 < oQ l [] 0
 ·rw [if_pos c3] at h; exact absurd h (by simp)
 rw [if_neg c3] at h ⊢
 by_cases c4 : (ax l 0).f0 ≠ 1
 ·rw [if_pos c4] at h; exact absurd h (by simp)
 rw [if_neg c4] at h ⊢
 exact sF l _ _ h
/-- What a reading comes to: a tree with which nothing is wrong; or no tree, a fault and its place. -/
def Reads (M : Nat) (F : Nat → Option (List S41 × Int × Int)) : Prop := ∃ l e a, ai F (l, e, a) ∧ (e = 0 → a = 0 ∧ ai (fun k => bf.f k l) (0, 0)) ∧ (e ≠ 0 → l = [] ∧ 0 ≤ a ∧ a ≤ (M : Int))
theorem Cf (ts : List S38) (hts : ts.length ≤ 40000) (hB : TB ts) (M : Nat) (hM : M ≤ 10000) (hp : ∀ t ∈ ts, 0 ≤ t.f3 ∧ t.f3 + 1 ≤ (M : Int)) : Reads M (fun k => dY.f k ts) := by
 obtain ⟨n, hn⟩ := vT ts hB
 have hT := zh hts (DL n) nM n
 match hr : lZ (nY n) n ts, hn, hT with
 | .ok (x, r), ⟨_, _, h3⟩, ⟨p, _, hp2, _, hs, hE⟩ =>
  unfold sz at hs
  by_cases c : p < ts.length
  ·obtain ⟨a, h1, h2⟩ := wX ts hts M hM hp p false
   refine ⟨[], 10, a, ?_, fun h => absurd h (by decide), fun _ => ⟨rfl, h2⟩⟩
   unfold dY.f
   refine ai.bind hE (ai.neg (by simp) (ai.pos (show (p : Int) < (ts.length : Int) by omega) ?_))
   dsimp only
   rw [h1]
   exact ai.now
  have hC := BF x (by omega) h3.1.2
  by_cases d : (ny x).1 = 0
  ·refine ⟨x, 0, 0, ?_, fun _ => ⟨rfl, by rw [vk x d] at hC; exact hC⟩, fun h => absurd rfl h⟩
   unfold dY.f
   exact ai.bind hE (ai.neg (by simp) (ai.neg (show ¬ (p : Int) < (ts.length : Int) by omega) (ai.bind hC (ai.pos d ai.now))))
  refine ⟨[], (ny x).1, 0, ?_, fun h => absurd h d, fun _ => ⟨rfl, by omega, by omega⟩⟩
  unfold dY.f
  exact ai.bind hE (ai.neg (by simp) (ai.neg (show ¬ (p : Int) < (ts.length : Int) by omega) (ai.bind hC (ai.neg d ai.now))))
 | .error (some r), _, ⟨x, p, _, _, _, _, hE⟩ =>
  obtain ⟨a, h1, h2⟩ := wX ts hts M hM hp p true
  refine ⟨[], 10, a, ?_, fun h => absurd h (by decide), fun _ => ⟨rfl, h2⟩⟩
  unfold dY.f
  refine ai.bind hE (ai.pos rfl ?_)
  dsimp only
  rw [h1]
  exact ai.now
theorem Ci (s : ByteArray) (hs : s.size ≤ 3000) : Reads s.size (fun k => parse_Text.f k s) := by
 have hS := Dn s
 unfold vK at hS
 rw [if_pos (by omega)] at hS
 match hx : Lex.scan (L s) with
 | .ok us =>
  rw [hx] at hS
  obtain ⟨h1, h2⟩ := yJ hx
  rw [← dm] at h1
  have h2 : ∀ t ∈ us, 1 ≤ t.rem ∧ t.rem ≤ s.size ∧ t.text.length ≤ s.size := fun t ht => by have := h2 t ht; rw [← dm] at this; exact this
  obtain ⟨l, e, a, g1, g2, g3⟩ := Cf ([] ++ us.map (tkS s.size)) (by simp; omega) (by
   intro t ht
   obtain ⟨u, hu, rfl⟩ := List.mem_map.1 ((List.nil_append _) ▸ ht)
   have := h2 u hu
   show (S u.text).size ≤ 3000
   rw [nC]; omega) s.size (by omega) (by
   intro t ht
   obtain ⟨u, hu, rfl⟩ := List.mem_map.1 ((List.nil_append _) ▸ ht)
   have := h2 u hu
   show (0 : Int) ≤ ((s.size - u.rem : Nat) : Int) ∧ ((s.size - u.rem : Nat) : Int) + 1 ≤ (s.size : Int)
   omega)
  refine ⟨l, e, a, ?_, g2, g3⟩
  unfold parse_Text.f
  exact ai.bind hS (ai.pos rfl (ai.bind g1 ai.now))
 | .error (e, r) =>
  rw [hx] at hS
  obtain ⟨h1, h2, h3⟩ := yI hx
  refine ⟨[], e, ((s.size - r : Nat) : Int), ?_, fun h => absurd h h1, fun _ => ⟨rfl, by omega, by omega⟩⟩
  unfold parse_Text.f
  exact ai.bind hS (ai.neg h1 ai.now)
end Go.Proofs.Ytendgafpkeadhaa.Par
end
section
set_option linter.unusedVariables false
set_option linter.unusedSimpArgs false
namespace Go.Proofs.Ytendgafpkeadhaa.Par
open Go Go.RowKit Go.Proofs.YtendgafpkeadhaaW.PrintWords Go.Proofs.Ytendgafpkeadhaa.Q Go.Proofs.Ytendgafpkeadhaa.Lex Go.Proofs.Ytendgafpkeadhaa.Tree
theorem AL : ai (fun k => chrysalislaw10_known.f k) true := ai.CQ (fun k r h => chrysalislaw10_known.mono k r h) 300 chrysalislaw10_known.at
theorem tu : ai (fun k => (chrysalislaw10_known.f k).bind fun t => some t) true := ai.bind AL ai.now
theorem right : bD.Pure := by
 intro a0 ha
 refine ai.one (F := fun k => bD.f k a0) ?_
 unfold bD.f
 by_cases h : (a0.size : Int) > 3000
 ·exact ai.pos h tu
 refine ai.neg h ?_
 obtain ⟨l, e, a, h1, h2, h3⟩ := Ci a0 (by omega)
 refine ai.bind h1 ?_
 by_cases c : e = 0
 ·obtain ⟨g1, g2⟩ := h2 c
  exact ai.pos c (ai.bind g2 (ai.pos rfl (ai.pos rfl (ai.pos g1 tu))))
 obtain ⟨rfl, g2, g3⟩ := h3 c
 exact ai.neg c (ai.pos rfl (ai.pos g2 (ai.pos g3 tu)))
end Go.Proofs.Ytendgafpkeadhaa.Par
namespace Go.Proofs.Ytendgafpkeadhaa.Pure
theorem ParseRight : Q.bD.Pure := Par.right
end Go.Proofs.Ytendgafpkeadhaa.Pure
end
