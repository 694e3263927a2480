/- Walks over functions of the program, words for them, and what the functions come to; of each text only what this claim uses; no condition. -/
import Derived.Test.YtkbhkonenkgfoaaGreatZPX0
import Derived.Test.YtkbhkonenkgfoaaGreatZPX2
import Derived.Test.YtkbhkonenkgfoaaGreatZPX3
import Derived.Test.YtkbhkonenkgfoaaGreatZPX5
import Derived.Test.YtkbhkonenkgfoaaGreatZPX6
import Derived.Test.YtkbhkonenkgfoaaGreatZPX7
import Derived.Laws.BytesArg
section
set_option linter.unusedVariables false
set_option linter.unusedSimpArgs false
namespace Go.Proofs.YtkbhkonenkgfoaaGreat.Lex
open Go
/-- A function of a number of rounds comes to a value, and stays there. -/
def af {α : Type} (F : Nat → Option α) (v : α) : Prop := ∃ k, ∀ j, k ≤ j → F j = some v
theorem af.now {α : Type} {v : α} : af (fun _ => some v) v := ⟨0, fun _ _ => rfl⟩
theorem af.jR {α : Type} {F : Nat → Option α} {v : α} (h : ∀ k, F k = some v) : af F v := ⟨0, fun _ _ => h _⟩
theorem af.congr {α : Type} {F G : Nat → Option α} {v : α} (h : ∀ k, F k = G k) (g : af G v) : af F v := by
 obtain ⟨k, hk⟩ := g
 exact ⟨k, fun j hj => (h j).trans (hk j hj)⟩
theorem af.step {α : Type} {F G : Nat → Option α} {v : α} (h : ∀ k, F (k + 1) = G k) (g : af G v) : af F v := by
 obtain ⟨k, hk⟩ := g
 refine ⟨k + 1, fun j hj => ?_⟩
 obtain ⟨i, rfl⟩ : ∃ i, j = i + 1 := ⟨j - 1, by omega⟩
 rw [h]
 exact hk i (by omega)
theorem af.bind {α β : Type} {F : Nat → Option α} {G : Nat → α → Option β} {v : α} {u : β} (f : af F v) (g : af (fun k => G k v) u) : af (fun k => (F k).bind (G k)) u := by
 obtain ⟨k1, h1⟩ := f
 obtain ⟨k2, h2⟩ := g
 refine ⟨k1 + k2, fun j hj => ?_⟩
 show (F j).bind (G j) = some u
 rw [h1 j (by omega)]
 exact h2 j (by omega)
theorem af.pos {α : Type} {F G : Nat → Option α} {v : α} {c : Prop} [Decidable c] (h : c) (f : af F v) : af (fun k => if c then F k else G k) v := af.congr (fun k => if_pos h) f
theorem af.neg {α : Type} {F G : Nat → Option α} {v : α} {c : Prop} [Decidable c] (h : ¬c) (g : af G v) : af (fun k => if c then F k else G k) v := af.congr (fun k => if_neg h) g
theorem af.one {α : Type} {F : Nat → Option α} {v : α} (h : af F v) : ∃ k, F k = some v := by
 obtain ⟨k, hk⟩ := h
 exact ⟨k, hk k (Nat.le_refl k)⟩
theorem af.Ky {α : Type} {F : Nat → Option α} {v : α} (m : ∀ k r, F k = some r → F (k + 1) = some r) (k : Nat) (h : F k = some v) : af F v := by
 refine ⟨k, fun j hj => ?_⟩
 induction hj with
 | refl => exact h
 | step _ ih => exact m _ _ ih
/-! The kinds of bytes. -/
def bl (c : UInt8) : Bool := c == 32 || c == 9 || c == 10 || c == 13
def le (c : UInt8) : Bool := decide (97 ≤ c.toNat ∧ c.toNat ≤ 122)
def di (c : UInt8) : Bool := decide (48 ≤ c.toNat ∧ c.toNat ≤ 57)
def inn (c : UInt8) : Bool := le c || di c || c == 95
/-- What is left behind blanks and remarks; in a remark at first? -/
def skp : Bool → List UInt8 → List UInt8
 | _, [] => []
 | false, c :: t => if bl c then skp false t else if c = 35 then skp true t else c :: t
 | true, c :: t => if c = 10 then skp false t else skp true t
def KEYS : List (List UInt8) := [[109, 111, 100, 117, 108, 101], [117, 115, 101], [102, 110], [108, 101, 116], [105, 102], [101, 108, 115, 101], [119, 104, 105, 108, 101], [98, 114, 101, 97, 107], [99, 111, 110, 116, 105, 110, 117, 101], [114, 101, 116, 117, 114, 110], [112, 117, 116], [101, 109, 105, 116], [121, 105, 101, 108, 100], [110, 105, 108], [115, 116, 97, 116, 101], [115, 112, 97, 119, 110], [108, 101, 110], [110, 111, 116], [97, 110, 100], [111, 114]]
def isKey (s : List UInt8) : Bool := KEYS.contains s
/-- A word: a letter, and then letters, digits and lines. -/
def isWord : List UInt8 → Bool
 | [] => false
 | c :: t => le c && (c :: t).all inn
def gm (s : List UInt8) : Bool := isWord s && decide (s.length ≤ 16) && !isKey s
/-- What a mask makes of a byte. -/
def esc (c : UInt8) : Option UInt8 := if c = 110 then some 10 else if c = 34 then some 34 else if c = 92 then some 92 else none
/-- What a quoted text says, behind its first sign, and what is left behind it; is the next byte masked? -/
def unq : Bool → List UInt8 → Option (List UInt8 × List UInt8)
 | _, [] => none
 | true, c :: t => match esc c with
  | none => none
  | some x => (unq false t).map fun r => (x :: r.1, r.2)
 | false, c :: t => if c = 34 then some ([], t) else if c = 10 then none else if c = 92 then unq true t else (unq false t).map fun r => (c :: r.1, r.2)
def uf (n : Int) (c : UInt8) : Int := IntKind.u64.wrap (IntKind.u64.wrap (10 * n) + (((c.toNat : Int) - 48) % 256))
def num (s : List UInt8) : Int := s.foldl uf 0
def long (s : List UInt8) : Bool := decide (19 < s.length) || (decide (1 < s.length) && s.head? == some 48)
/-- Digits' number, and whether it is one. -/
def numOf (s : List UInt8) : Int × Bool := if long s then (0, false) else (RowKit.wrap64 (num s), decide (num s < 9223372036854775808))
def PAIRS : List (List UInt8) := [[61, 61], [33, 61], [60, 61], [46, 46]]
def nG : List UInt8 := [40, 41, 123, 125, 91, 93, 44, 59, 46, 47, 61, 60, 43, 45, 42, 37]
/-- The mark with which a text begins. -/
def mark (l : List UInt8) : List UInt8 := if PAIRS.contains (l.take 2) then l.take 2 else if (match l with | [] => false | c :: _ => nG.contains c) then l.take 1 else []
/-- A token: its kind, its text, its number, how many bytes are left from its beginning on. -/
structure Tk where
 kind : Int
 text : List UInt8
 n : Int
 rem : Nat
/-- The token with which a text begins (kind, text, number) and how many bytes it has; or the fault. -/
def one (l : List UInt8) : Except Int (Int × List UInt8 × Int × Nat) :=
 match l with
 | [] => .error 0
 | c :: t =>
  if le c then
   let w := (c :: t).takeWhile inn
   if isKey w then .ok (5, w, 0, w.length) else if w.length ≤ 16 then .ok (1, w, 0, w.length) else .error 10
  else if di c then
   let d := (c :: t).takeWhile di
   if (numOf d).2 then .ok (2, d, (numOf d).1, d.length) else .error 10
  else if c = 34 then
   match unq false t with
   | some (x, r) => .ok (3, x, 0, (c :: t).length - r.length)
   | none => .error 10
  else
   let m := mark (c :: t)
   if m = [] then .error 9 else .ok (4, m, 0, m.length)
/-- The tokens of a text of which no blank nor remark stands first; or the fault, and how many bytes are left there. -/
def toks : Nat → List UInt8 → Except (Int × Nat) (List Tk)
 | 0, _ => .ok []
 | f + 1, l =>
  match l with
  | [] => .ok []
  | c :: t =>
   match one (c :: t) with
   | .error e => .error (e, (c :: t).length)
   | .ok (k, x, n, m) =>
    match toks f (skp false ((c :: t).drop m)) with
    | .error e => .error e
    | .ok ts => .ok (⟨k, x, n, (c :: t).length⟩ :: ts)
def scan (l : List UInt8) : Except (Int × Nat) (List Tk) := toks (l.length + 1) (skp false l)
theorem mf : ∀ (l : List UInt8) (b : Bool), (skp b l).length ≤ l.length
 | [], b => by cases b <;> simp [skp]
 | c :: t, b => by
  have h0 := mf t false
  have h1 := mf t true
  cases b <;> simp only [skp] <;> (repeat' split) <;> simp <;> omega
theorem jZ {α : Type} (p : α → Bool) (l : List α) : (l.takeWhile p).length ≤ l.length := by
 induction l with
 | nil => simp
 | cons a t ih => simp only [List.takeWhile_cons]; split <;> simp <;> omega
theorem qW : ∀ (l : List UInt8) (b : Bool) (x r : List UInt8), unq b l = some (x, r) → r.length < l.length
 | [], b, x, r, h => by cases b <;> simp [unq] at h
 | c :: t, true, x, r, h => by
  simp only [unq] at h
  split at h
  ·cases h
  simp only [Option.map_eq_some_iff, Prod.mk.injEq] at h
  obtain ⟨⟨y, s⟩, h1, h2, h3⟩ := h
  have := qW t false y s h1
  subst h3
  simp
  omega
 | c :: t, false, x, r, h => by
  simp only [unq] at h
  split at h
  ·simp only [Option.some.injEq, Prod.mk.injEq] at h
   rw [← h.2]; simp
  split at h
  ·cases h
  split at h
  ·have := qW t true x r h
   simp; omega
  simp only [Option.map_eq_some_iff, Prod.mk.injEq] at h
  obtain ⟨⟨y, s⟩, h1, h2, h3⟩ := h
  have := qW t false y s h1
  subst h3
  simp
  omega
theorem wY (l : List UInt8) : (mark l).length ≤ l.length := by
 unfold mark
 repeat' split
 all_goals simp
 all_goals omega
/-- A token has a byte at least, and no more than there are. -/
theorem zl {l : List UInt8} {k : Int} {x : List UInt8} {n : Int} {m : Nat} (h : one l = .ok (k, x, n, m)) : 1 ≤ m ∧ m ≤ l.length := by
 unfold one at h
 split at h
 ·cases h
 rename_i c t
 split at h
 ·rename_i hc
  have hw := jZ inn (c :: t)
  have hw1 : 1 ≤ ((c :: t).takeWhile inn).length := by
   have : inn c = true := by simp [inn, hc]
   simp [List.takeWhile_cons, this]
  simp only [] at h
  split at h
  ·simp only [Except.ok.injEq, Prod.mk.injEq] at h
   omega
  split at h
  ·simp only [Except.ok.injEq, Prod.mk.injEq] at h
   omega
  cases h
 split at h
 ·rename_i hc
  have hw := jZ di (c :: t)
  have hw1 : 1 ≤ ((c :: t).takeWhile di).length := by simp [List.takeWhile_cons, hc]
  simp only [] at h
  split at h
  ·simp only [Except.ok.injEq, Prod.mk.injEq] at h
   omega
  cases h
 split at h
 ·split at h
  ·rename_i x' r hu
   have := qW t false x' r hu
   simp only [Except.ok.injEq, Prod.mk.injEq] at h
   simp at h ⊢
   omega
  cases h
 simp only [] at h
 split at h
 ·cases h
 rename_i hm
 have := wY (c :: t)
 simp only [Except.ok.injEq, Prod.mk.injEq] at h
 have : 1 ≤ (mark (c :: t)).length := by
  rcases hmm : mark (c :: t) with _ | ⟨a, b⟩
  ·exact absurd hmm hm
  simp
 omega
end Go.Proofs.YtkbhkonenkgfoaaGreat.Lex
end
section
set_option linter.unusedVariables false
set_option linter.unusedSimpArgs false
namespace Go.Proofs.YtkbhkonenkgfoaaGreat.Tree
open Go Go.RowKit Go.Proofs.YtkbhkonenkgfoaaGreatW.PrintWords Go.Proofs.YtkbhkonenkgfoaaGreat.Q Go.Proofs.YtkbhkonenkgfoaaGreat.Lex
theorem inc (i : Nat) (h : i + 1 ≤ 9223372036854775807) : wrap64 ((i : Int) + 1) = ((i + 1 : Nat) : Int) := by unfold wrap64; omega
theorem tJ (l : List S29) (i : Nat) (h : i < l.length) : ax l (i : Int) = l[i] := by
 simp [ax, List.getD_eq_getElem?_getD, List.getElem?_eq_getElem h]
end Go.Proofs.YtkbhkonenkgfoaaGreat.Tree
end
section
set_option linter.unusedVariables false
set_option linter.unusedSimpArgs false
namespace Go.Proofs.YtkbhkonenkgfoaaGreat.Tree
open Go Go.RowKit Go.Proofs.YtkbhkonenkgfoaaGreatW.PrintWords Go.Proofs.YtkbhkonenkgfoaaGreat.Q Go.Proofs.YtkbhkonenkgfoaaGreat.Lex
/-- How many nodes stand there till so many trees are whole; each node's kids are at most so many. -/
def jP (n : Nat) : List S29 → Nat → Option Nat
 | [], _ => none
 | x :: t, w => if x.f1 < 0 ∨ (n : Int) < x.f1 then none else if w - 1 + x.f1.toNat = 0 then some 1 else (jP n t (w - 1 + x.f1.toNat)).map (· + 1)
def qc (i : Nat) : Option Nat → Int
 | none => -1
 | some m => ((i + m : Nat) : Int)
def kC (l : List S29) (i : Int) : Int := if i < 0 then -1 else qc i.toNat (jP l.length (l.drop i.toNat) 1)
theorem Bi (i : Nat) (o : Option Nat) : qc i (o.map (· + 1)) = qc (i + 1) o := by
 cases o with
 | none => rfl
 | some m => simp only [Option.map_some, qc]; omega
theorem w64 {n : Int} (h : -9223372036854775808 ≤ n) (h2 : n ≤ 9223372036854775807) : wrap64 n = n := by unfold wrap64; omega
theorem MI (l : List S29) (hl : l.length ≤ 100000) : ∀ (m i w : Nat), l.length = m + i → 1 ≤ w → w ≤ 1 + i * 100000 →
 af (fun k => dX.l0 k l (i : Int) (w : Int)) (qc i (jP l.length (l.drop i) w)) := by
 intro m
 induction m with
 | zero =>
  intro i w h1 h2 h3
  rw [List.drop_eq_nil_of_le (by omega)]
  refine af.step (fun k => by rw [dX.l0]) ?_
  exact af.neg (by omega) af.now
 | succ m ih =>
  intro i w h1 h2 h3
  have hi : i < l.length := by omega
  rw [List.drop_eq_getElem_cons hi]
  refine af.step (fun k => by rw [dX.l0]) ?_
  refine af.pos (by omega) (af.pos (by omega) ?_)
  rw [tJ l i hi]
  simp only [jP]
  by_cases c1 : l[i].f1 < 0
  ·rw [if_pos (.inl c1)]
   refine af.pos c1 ?_
   refine af.step (fun k => by rw [dX.j1]) ?_
   exact af.pos rfl af.now
  refine af.neg c1 ?_
  refine af.step (fun k => by rw [dX.j1]) ?_
  by_cases c2 : (l.length : Int) < l[i].f1
  ·rw [if_pos (.inr c2)]
   exact af.pos (decide_eq_true c2) af.now
  refine af.neg (by simpa using c2) ?_
  rw [if_neg (by omega)]
  have e2 : wrap64 ((w : Int) + wrap64 (l[i].f1 - 1)) = ((w - 1 + l[i].f1.toNat : Nat) : Int) := by
   rw [w64 (n := l[i].f1 - 1) (by omega) (by omega), w64 (by omega) (by omega)]
   omega
  rw [e2, inc i (by omega)]
  by_cases c3 : w - 1 + l[i].f1.toNat = 0
  ·rw [if_pos c3]
   refine af.pos (by omega) (af.jR fun k => ?_)
   simp only [qc]
  rw [if_neg c3, Bi]
  refine af.neg (by omega) ?_
  exact ih (i + 1) _ (by omega) (by omega) (by omega)
theorem yQ (l : List S29) (hl : l.length ≤ 100000) (i : Int) : af (fun k => dX.f k l i) (kC l i) := by
 unfold dX.f kC
 by_cases c : i < 0
 ·rw [if_pos c]; exact af.pos c af.now
 rw [if_neg c]
 refine af.neg c ?_
 by_cases c2 : i.toNat ≤ l.length
 ·have h := MI l hl (l.length - i.toNat) i.toNat 1 (by omega) (by omega) (by omega)
  rw [show ((i.toNat : Nat) : Int) = i by omega] at h
  exact h
 rw [List.drop_eq_nil_of_le (by omega)]
 refine af.step (fun k => by rw [dX.l0]) ?_
 exact af.neg (by omega) af.now
/-! What an end says. -/
theorem zx (n : Nat) : ∀ (t : List S29) (w m : Nat), jP n t w = some m → 1 ≤ m ∧ m ≤ t.length := by
 intro t
 induction t with
 | nil => intro w m h; cases h
 | cons x t ih =>
  intro w m h
  simp only [jP] at h
  split at h
  ·cases h
  split at h
  ·cases h; simp
  obtain ⟨q, hq, rfl⟩ := Option.map_eq_some_iff.1 h
  have := ih _ _ hq
  simp; omega
/-- Fewer trees are whole no later. -/
theorem EH (n : Nat) : ∀ (t : List S29) (w w' m : Nat), jP n t w = some m → 1 ≤ w' → w' ≤ w → ∃ m', m' ≤ m ∧ jP n t w' = some m' := by
 intro t
 induction t with
 | nil => intro w w' m h; cases h
 | cons x t ih =>
  intro w w' m h h1 h2
  simp only [jP] at h ⊢
  split at h
  ·cases h
  rename_i hc
  rw [if_neg hc]
  split at h
  ·cases h
   exact ⟨1, Nat.le_refl _, by rw [if_pos (by omega)]⟩
  obtain ⟨q, hq, rfl⟩ := Option.map_eq_some_iff.1 h
  by_cases c : w' - 1 + x.f1.toNat = 0
  ·exact ⟨1, by omega, by rw [if_pos c]⟩
  obtain ⟨m', hm, he⟩ := ih _ (w' - 1 + x.f1.toNat) _ hq (by omega) (by omega)
  exact ⟨m' + 1, by omega, by rw [if_neg c, he]; rfl⟩
/-- Each node within begins a tree that is whole. -/
theorem vS (n : Nat) : ∀ (t : List S29) (w m j : Nat), jP n t w = some m → 1 ≤ w → j < m → ∃ m', j + m' ≤ m ∧ jP n (t.drop j) 1 = some m' := by
 intro t
 induction t with
 | nil => intro w m j h; cases h
 | cons x t ih =>
  intro w m j h hw hj
  cases j with
  | zero =>
   obtain ⟨m', h1, h2⟩ := EH n _ w 1 m h (by omega) hw
   exact ⟨m', by omega, h2⟩
  | succ j =>
   simp only [jP] at h
   split at h
   ·cases h
   split at h
   ·cases h; omega
   obtain ⟨q, hq, rfl⟩ := Option.map_eq_some_iff.1 h
   obtain ⟨m', h1, h2⟩ := ih _ _ j hq (by omega) (by omega)
   exact ⟨m', by omega, by rw [List.drop_succ_cons]; exact h2⟩
/-- The kids of a tree's nodes are fewer than its nodes. -/
theorem yG (n : Nat) : ∀ (t : List S29) (w m : Nat), jP n t w = some m → 1 ≤ w → ∀ x ∈ t.take m, 0 ≤ x.f1 ∧ (w : Int) + x.f1 ≤ m := by
 intro t
 induction t with
 | nil => intro w m h; cases h
 | cons x t ih =>
  intro w m h hw y hy
  have hlen : ∀ (t : List S29) (w m : Nat), jP n t w = some m → 1 ≤ w → w ≤ m := by
   intro t
   induction t with
   | nil => intro w m h; cases h
   | cons x t ih =>
    intro w m h hw
    simp only [jP] at h
    split at h
    ·cases h
    split at h
    ·cases h; omega
    obtain ⟨q, hq, rfl⟩ := Option.map_eq_some_iff.1 h
    have := ih _ _ hq (by omega)
    omega
  simp only [jP] at h
  split at h
  ·cases h
  rename_i hc
  split at h
  ·cases h
   simp at hy
   subst hy
   omega
  rename_i h0
  obtain ⟨q, hq, rfl⟩ := Option.map_eq_some_iff.1 h
  rw [List.take_succ_cons] at hy
  have h2 := hlen _ _ _ hq (by omega)
  rcases List.mem_cons.1 hy with rfl | hy
  ·omega
  have := ih _ _ hq (by omega) y hy
  omega
end Go.Proofs.YtkbhkonenkgfoaaGreat.Tree
end
section
set_option linter.unusedVariables false
set_option linter.unusedSimpArgs false
namespace Go.Proofs.YtkbhkonenkgfoaaGreat.Tree
open Go Go.RowKit Go.Proofs.YtkbhkonenkgfoaaGreatW.PrintWords Go.Proofs.YtkbhkonenkgfoaaGreat.Q Go.Proofs.YtkbhkonenkgfoaaGreat.Lex
/-- The nodes around, with the kids that are missing, the innermost first: those that miss none are left. -/
def close : List Nat → List Nat
 | [] => []
 | 0 :: st => close st
 | (n + 1) :: st => n :: st
/-- The deepest, over nodes, from nodes around on. -/
def uu : List S29 → List Nat → Nat → Nat
 | [], _, b => b
 | x :: t, st, b => uu t (close (x.f1.toNat :: st)) (max b (st.length + 1))
/-- Each node begins a tree that is whole. -/
def oq (l : List S29) : Nat → Bool
 | 0 => true
 | m + 1 => (jP l.length (l.drop (l.length - (m + 1))) 1).isSome && oq l m
def ints (st : List Nat) : List Int := (st.map Int.ofNat).reverse
theorem kH (st : List Nat) : (ints st).length = st.length := by simp [ints]
theorem kX (n : Nat) (st : List Nat) : ints (n :: st) = ints st ++ [(n : Int)] := by simp [ints]
theorem yJ : ∀ st : List Nat, (close st).length ≤ st.length
 | [] => Nat.le_refl _
 | 0 :: st => by simp only [close]; have := yJ st; simp; omega
 | (n + 1) :: st => by simp [close]
theorem yI : ∀ (st : List Nat) (B : Nat), (∀ n ∈ st, n ≤ B) → ∀ n ∈ close st, n ≤ B
 | [], _, _, n, h => by cases h
 | 0 :: st, B, hB, n, h => yI st B (fun m hm => hB m (by simp [hm])) n (by simpa [close] using h)
 | (q + 1) :: st, B, hB, n, h => by
  rcases List.mem_cons.1 (show n ∈ q :: st from h) with rfl | h
  ·have := hB (n + 1) (by simp); omega
  exact hB n (by simp [h])
theorem H5 (l : List S29) (hl : l.length ≤ 100000) (b : Int) (i : Nat) (hi : i + 1 ≤ 300000) (v : Int) : ∀ st : List Nat, st ≠ [] → st.length ≤ 300000 → (∀ n ∈ st, n ≤ 100000) →
 af (fun k => dM.l0 k l b (ints (close st)) l (l.length : Int) ((i + 1 : Nat) : Int)) v → af (fun k => dM.l1 k l b (ints st) l (l.length : Int) (i : Int)) v := by
 intro st
 induction st with
 | nil => intro h; exact absurd rfl h
 | cons n st ih =>
  intro _ hs hB h
  simp only [List.length_cons] at hs
  have hlen : ((ints (n :: st)).length : Int) = (st.length : Int) + 1 := by rw [kH]; simp
  refine af.step (fun k => by rw [dM.l1]) ?_
  rw [hlen, show wrap64 ((st.length : Int) + 1 - 1) = (st.length : Int) by unfold wrap64; omega, inc i (by omega)]
  refine af.pos (by omega) (af.pos (by omega) ?_)
  have hrd : rd (ints (n :: st)) (st.length : Int) = (n : Int) := by
   rw [kX]
   simp [rd, List.getD_eq_getElem?_getD, List.getElem?_append_right, kH]
  rw [hrd, Int.toNat_natCast]
  cases n with
  | zero =>
   refine af.neg (by simp) (af.pos (by omega) ?_)
   have ht : (ints (0 :: st)).take st.length = ints st := by
    rw [kX]
    exact List.take_left' (kH st)
   simp only [ht, Option.bind_some]
   simp only [close] at h
   cases st with
   | nil => exact af.pos rfl h
   | cons m st => exact af.neg (by simp; omega) (ih (by simp) (by omega) (fun q hq => hB q (by simp [hq])) h)
  | succ n =>
   have hn := hB (n + 1) (by simp)
   refine af.pos (by omega) ?_
   have hset : (ints ((n + 1) :: st)).set st.length (wrap64 (((n + 1 : Nat) : Int) - 1)) = ints (n :: st) := by
    rw [show wrap64 (((n + 1 : Nat) : Int) - 1) = (n : Int) by unfold wrap64; omega, kX, kX, List.set_append]
    simp [kH]
   rw [hset]
   exact h
theorem Js (l : List S29) (hl : l.length ≤ 100000) : ∀ (m i : Nat) (st : List Nat) (b : Nat), l.length = m + i → st.length ≤ i → b ≤ i → (∀ n ∈ st, n ≤ 100000) →
 af (fun k => dM.l0 k l (b : Int) (ints st) l (l.length : Int) (i : Int)) (if oq l m then (uu (l.drop i) st b : Int) else -1) := by
 intro m
 induction m with
 | zero =>
  intro i st b h1 h2 h3 h4
  rw [List.drop_eq_nil_of_le (by omega)]
  refine af.step (fun k => by rw [dM.l0]) ?_
  exact af.neg (by omega) af.now
 | succ m ih =>
  intro i st b h1 h2 h3 h4
  have hi : i < l.length := by omega
  refine af.step (fun k => by rw [dM.l0]) ?_
  refine af.pos (by omega) (af.pos (by omega) (af.pos (by omega) ?_))
  refine af.bind (yQ l hl (i : Int)) ?_
  have he : kC l (i : Int) = qc i (jP l.length (l.drop i) 1) := by
   unfold kC
   rw [if_neg (by omega), Int.toNat_natCast]
  rw [he]
  simp only [oq, show l.length - (m + 1) = i by omega]
  cases hF : jP l.length (l.drop i) 1 with
  | none => exact af.pos (by simp [qc]) af.now
  | some q =>
   refine af.neg (by simp only [qc]; omega) (af.pos (by rw [kH]; omega) ?_)
   rw [tJ l i hi]
   have hk : 0 ≤ l[i].f1 ∧ l[i].f1 ≤ 100000 := by
    rw [List.drop_eq_getElem_cons hi] at hF
    simp only [jP] at hF
    split at hF
    ·cases hF
    omega
   have hpush : ints st ++ [l[i].f1] = ints (l[i].f1.toNat :: st) := by
    rw [kX, Int.toNat_of_nonneg hk.1]
   simp only [hpush, Option.bind_some, Option.isSome_some, Bool.true_and]
   have hmx : mx (b : Int) ((ints (l[i].f1.toNat :: st)).length : Int) = ((max b (st.length + 1) : Nat) : Int) := by
    rw [kH]; unfold mx; simp only [List.length_cons]; split <;> omega
   rw [hmx]
   have hm : ∀ n ∈ l[i].f1.toNat :: st, n ≤ 100000 := by
    intro n hn
    rcases List.mem_cons.1 hn with rfl | hn
    ·omega
    exact h4 n hn
   refine H5 l hl _ i (by omega) _ _ (by simp) (by simp; omega) hm ?_
   rw [List.drop_eq_getElem_cons hi]
   have hcl := yJ (l[i].f1.toNat :: st)
   exact ih (i + 1) _ _ (by omega) (by simp only [List.length_cons] at hcl; omega) (by omega) (yI _ 100000 hm)
theorem Jt (l : List S29) (hl : l.length ≤ 100000) : af (fun k => dM.f k l) (if oq l l.length then (uu l [] 0 : Int) else -1) := by
 have h := Js l hl l.length 0 [] 0 (by omega) (by simp) (by omega) (by simp)
 exact h
theorem yc (l : List S29) (m : Nat) (hm : m ≤ l.length) (h : ∀ j, j < l.length → (jP l.length (l.drop j) 1).isSome = true) : oq l m = true := by
 induction m with
 | zero => rfl
 | succ m ih =>
  simp only [oq]
  rw [h _ (by omega), ih (by omega)]; rfl
end Go.Proofs.YtkbhkonenkgfoaaGreat.Tree
end
section
set_option linter.unusedVariables false
set_option linter.unusedSimpArgs false
namespace Go.Proofs.YtkbhkonenkgfoaaGreat.Tree
open Go Go.RowKit Go.Proofs.YtkbhkonenkgfoaaGreatW.PrintWords Go.Proofs.YtkbhkonenkgfoaaGreat.Q Go.Proofs.YtkbhkonenkgfoaaGreat.Lex
def pO (l : List S29) (i : Int) : List S29 := if kC l i < 0 then [] else (l.take (kC l i).toNat).drop i.toNat
/-- An end that is there. -/
theorem nX {l : List S29} {i : Int} (h : ¬ kC l i < 0) : ∃ j m : Nat, i = j ∧ jP l.length (l.drop j) 1 = some m ∧ kC l i = ((j + m : Nat) : Int) ∧ 1 ≤ m ∧ j + m ≤ l.length := by
 have hi : ¬ i < 0 := by
  intro c
  unfold kC at h
  rw [if_pos c] at h
  omega
 unfold kC at h ⊢
 rw [if_neg hi] at h
 refine ⟨i.toNat, ?_⟩
 cases he : jP l.length (l.drop i.toNat) 1 with
 | none => rw [he] at h; simp [qc] at h
 | some m =>
  obtain ⟨h1, h2⟩ := zx _ _ _ _ he
  rw [List.length_drop] at h2
  refine ⟨m, by omega, rfl, ?_, h1, by omega⟩
  rw [if_neg hi]
  rfl
theorem EG {l : List S29} {i : Int} (h : kC l i < 0) : kC l i = -1 := by
 unfold kC at h ⊢
 split
 ·rfl
 rename_i c
 rw [if_neg c] at h
 cases he : jP l.length (l.drop i.toNat) 1 with
 | none => rfl
 | some m => rw [he] at h; simp only [qc] at h; omega
theorem EY {l : List S29} {j m : Nat} (h : j + m ≤ l.length) : (l.take (j + m)).drop j = (l.drop j).take m := by
 rw [List.drop_take, Nat.add_sub_cancel_left]
theorem JB (l : List S29) (hl : l.length ≤ 100000) (i : Int) : af (fun k => jy.f k l i) (pO l i) := by
 unfold jy.f
 refine af.bind (yQ l hl i) ?_
 by_cases c : kC l i < 0
 ·have hs : pO l i = [] := by unfold pO; rw [if_pos c]
  rw [hs]
  exact af.pos c af.now
 obtain ⟨j, m, rfl, _, he, h1, h2⟩ := nX c
 have hs : pO l (j : Int) = (l.take (j + m)).drop j := by
  unfold pO
  rw [if_neg c, he, Int.toNat_natCast, Int.toNat_natCast]
 rw [hs, he]
 refine af.neg (by omega) (af.pos (by omega) (af.pos (by omega) (af.pos (by omega) ?_)))
 simp only [Option.bind_some, Int.toNat_natCast]
 refine af.pos ?_ (af.jR fun k => by simp)
 simp only [List.length_nil, List.length_drop, List.length_take]
 omega
end Go.Proofs.YtkbhkonenkgfoaaGreat.Tree
end
section
set_option linter.unusedVariables false
set_option linter.unusedSimpArgs false
namespace Go.Proofs.YtkbhkonenkgfoaaGreat.Tree
open Go Go.RowKit Go.Proofs.YtkbhkonenkgfoaaGreatW.PrintWords Go.Proofs.YtkbhkonenkgfoaaGreat.Q Go.Proofs.YtkbhkonenkgfoaaGreat.Lex
/-- So many trees, one behind the other, the deepest of them so deep. -/
inductive Fo : List S29 → Nat → Nat → Prop
 | nil : Fo [] 0 0
 | cons (x : S29) (t v : List S29) (w D1 D2 : Nat) (hx : 0 ≤ x.f1) (ht : Fo t x.f1.toNat D1) (hv : Fo v w D2) : Fo (x :: (t ++ v)) (w + 1) (max (1 + D1) D2)
theorem Fo.none {u : List S29} {D : Nat} (h : Fo u 0 D) : u = [] ∧ D = 0 := by
 cases h; exact ⟨rfl, rfl⟩
theorem Fo.split : ∀ (a b : Nat) (u : List S29) (D : Nat), Fo u (a + b) D → ∃ u1 u2 D1 D2, u = u1 ++ u2 ∧ Fo u1 a D1 ∧ Fo u2 b D2 ∧ D = max D1 D2 := by
 intro a
 induction a with
 | zero =>
  intro b u D h
  rw [Nat.zero_add] at h
  exact ⟨[], u, 0, D, rfl, Fo.nil, h, by omega⟩
 | succ a ih =>
  intro b u D h
  generalize hn : a + 1 + b = n at h
  cases h with
  | nil => omega
  | cons x t v w D1 D2 hx ht hv =>
   obtain rfl : w = a + b := by omega
   obtain ⟨v1, v2, E1, E2, rfl, h1, h2, rfl⟩ := ih b v D2 hv
   refine ⟨x :: (t ++ v1), v2, max (1 + D1) E1, E2, by simp, Fo.cons x t v1 a D1 E1 hx ht h1, h2, by omega⟩
/-- What is whole is so many trees. -/
theorem Fo.Kz (n : Nat) : ∀ (t : List S29) (w m : Nat), jP n t w = some m → 1 ≤ w → ∃ D, Fo (t.take m) w D := by
 intro t
 induction t with
 | nil => intro w m h; cases h
 | cons x t ih =>
  intro w m h hw
  simp only [jP] at h
  split at h
  ·cases h
  rename_i hc
  have hx : 0 ≤ x.f1 := by omega
  split at h
  ·rename_i h0
   cases h
   obtain rfl : w = 1 := by omega
   have hk : x.f1.toNat = 0 := by omega
   exact ⟨_, Fo.cons x [] [] 0 0 0 hx (by rw [hk]; exact Fo.nil) Fo.nil⟩
  obtain ⟨q, hq, rfl⟩ := Option.map_eq_some_iff.1 h
  obtain ⟨D, hD⟩ := ih _ _ hq (by omega)
  rw [Nat.add_comm] at hD
  obtain ⟨u1, u2, D1, D2, e, h1, h2, rfl⟩ := Fo.split _ _ _ _ hD
  rw [List.take_succ_cons, e]
  obtain ⟨w, rfl⟩ : ∃ v, w = v + 1 := ⟨w - 1, by omega⟩
  exact ⟨_, Fo.cons x u1 u2 w D1 D2 hx h1 h2⟩
/-- The end of so many trees, whatever stands behind. -/
theorem Fo.jP {n : Nat} {u : List S29} {w D : Nat} (h : Fo u w D) (hn : ∀ x ∈ u, ¬ ((n : Int) < x.f1)) : ∀ (rest : List S29) (c : Nat), 1 ≤ w + c →
 Tree.jP n (u ++ rest) (w + c) = if c = 0 then some u.length else (Tree.jP n rest c).map (· + u.length) := by
 induction h with
 | nil =>
  intro rest c hc
  rw [if_neg (by omega)]
  simp
 | cons x t v w D1 D2 hx ht hv ih1 ih2 =>
  intro rest c hc
  have hnx := hn x (by simp)
  simp only [List.cons_append, Tree.jP]
  rw [if_neg (by omega)]
  by_cases h0 : w + 1 + c - 1 + x.f1.toNat = 0
  ·rw [if_pos h0]
   have hk : x.f1.toNat = 0 := by omega
   rw [hk] at ht
   obtain rfl : w = 0 := by omega
   rw [ht.none.1, hv.none.1, if_pos (by omega)]
   rfl
  rw [if_neg h0, List.append_assoc, show w + 1 + c - 1 + x.f1.toNat = x.f1.toNat + (w + c) by omega,
   ih1 (fun y hy => hn y (by simp [hy])) (v ++ rest) (w + c) (by omega)]
  by_cases h1 : w + c = 0
  ·rw [if_pos h1, if_pos (by omega)]
   obtain rfl : w = 0 := by omega
   rw [hv.none.1]; simp
  rw [if_neg h1, ih2 (fun y hy => hn y (by simp [hy])) rest c (by omega)]
  by_cases h2 : c = 0
  ·rw [if_pos h2, if_pos h2]
   simp; omega
  rw [if_neg h2, if_neg h2, Option.map_map, Option.map_map]
  congr 1
  funext q
  simp; omega
/-- How deep: the nodes around count, too. -/
theorem Fo.uu {u : List S29} {w D : Nat} (h : Fo u w D) : ∀ (rest : List S29) (st : List Nat) (b : Nat), 1 ≤ w →
 Tree.uu (u ++ rest) ((w - 1) :: st) b = Tree.uu rest (close st) (max b (st.length + 1 + D)) := by
 induction h with
 | nil => intro rest st b hw; omega
 | cons x t v w D1 D2 hx ht hv ih1 ih2 =>
  intro rest st b _
  rw [Nat.add_sub_cancel]
  simp only [List.cons_append, List.append_assoc, Tree.uu, List.length_cons]
  have last : ∀ b', Tree.uu (v ++ rest) (close (w :: st)) b' = Tree.uu rest (close st) (max b' (if w = 0 then 0 else st.length + 1 + D2)) := by
   intro b'
   cases w with
   | zero => rw [hv.none.1]; simp [close]
   | succ w =>
    rw [if_neg (by omega)]
    exact ih2 rest st b' (by omega)
  cases hk : x.f1.toNat with
  | zero =>
   rw [hk] at ht
   rw [ht.none.1, ht.none.2]
   simp only [List.nil_append, close]
   rw [last]
   congr 1
   split
   ·rename_i q; subst q; rw [hv.none.2]; omega
   omega
  | succ k =>
   rw [hk] at ih1
   have h1 := ih1 (v ++ rest) (w :: st) (max b (st.length + 1 + 1)) (by omega)
   simp only [Nat.add_sub_cancel, List.length_cons] at h1
   simp only [close]
   rw [h1, last]
   congr 1
   split
   ·rename_i q; subst q; rw [hv.none.2]; omega
   omega
end Go.Proofs.YtkbhkonenkgfoaaGreat.Tree
end
section
set_option linter.unusedVariables false
set_option linter.unusedSimpArgs false
namespace Go.Proofs.YtkbhkonenkgfoaaGreat.Tree
open Go Go.RowKit Go.Proofs.YtkbhkonenkgfoaaGreatW.PrintWords Go.Proofs.YtkbhkonenkgfoaaGreat.Q Go.Proofs.YtkbhkonenkgfoaaGreat.Lex
theorem Fo.len {u : List S29} {w D : Nat} (h : Fo u w D) : w ≤ u.length := by
 induction h with
 | nil => exact Nat.le_refl _
 | cons x t v w D1 D2 hx ht hv ih1 ih2 => simp; omega
theorem Fo.kids {u : List S29} {w D : Nat} (h : Fo u w D) : ∀ y ∈ u, y.f1 + (w : Int) ≤ u.length := by
 induction h with
 | nil => intro y hy; cases hy
 | cons x t v w D1 D2 hx ht hv ih1 ih2 =>
  have h1 := ht.len
  have h2 := hv.len
  intro y hy
  simp only [List.length_cons, List.length_append]
  rcases List.mem_cons.1 hy with rfl | hy
  ·omega
  rcases List.mem_append.1 hy with hy | hy
  ·have := ih1 y hy; omega
  have := ih2 y hy; omega
theorem Fo.one {s : List S29} {D : Nat} (h : Fo s 1 D) : ∃ x t D1, s = x :: t ∧ D = 1 + D1 ∧ 0 ≤ x.f1 ∧ Fo t x.f1.toNat D1 := by
 generalize hn : 1 = n at h
 cases h with
 | nil => omega
 | cons x t v w D1 D2 hx ht hv =>
  obtain rfl : w = 0 := by omega
  obtain ⟨rfl, rfl⟩ := hv.none
  exact ⟨x, t, D1, by simp, by omega, hx, ht⟩
/-- The places of so many trees, from one on. -/
def its (l : List S29) : Nat → Int → List Int
 | 0, _ => []
 | d + 1, p => p :: its l d (kC l p)
theorem BA (l : List S29) (hl : l.length ≤ 100000) (i : Nat) (hi : i < l.length) (h0 : 0 ≤ l[i].f1) (h9 : l[i].f1 ≤ 100000) : ∀ (d : Nat) (acc : List Int) (at' : Int), l[i].f1.toNat = d + acc.length →
 af (fun k => fE.l0 k l (i : Int) acc at') (acc ++ its l d at') := by
 intro d
 induction d with
 | zero =>
  intro acc at' h
  refine af.step (fun k => by rw [fE.l0]) ?_
  refine af.pos (by omega) (af.pos (by omega) ?_)
  rw [tJ l i hi, its, List.append_nil]
  exact af.neg (by omega) af.now
 | succ d ih =>
  intro acc at' h
  have h1 := ih (acc ++ [at']) (kC l at') (by simp; omega)
  rw [List.append_assoc] at h1
  refine af.step (fun k => by rw [fE.l0]) ?_
  refine af.pos (by omega) (af.pos (by omega) ?_)
  rw [tJ l i hi]
  exact af.pos (by omega) (af.pos (by omega) (af.bind (yQ l hl at') h1))
theorem D7 (l : List S29) : ∀ (d : Nat) (p : Int), (its l d p).length = d
 | 0, _ => rfl
 | d + 1, p => by rw [its, List.length_cons, D7]
/-- A tree that stands at a place: where it ends. -/
theorem vP {l rest : List S29} {x : S29} {t : List S29} {p D1 : Nat} (hx : 0 ≤ x.f1) (ht : Fo t x.f1.toNat D1) (hd : l.drop p = (x :: t) ++ rest) (hn : ∀ y ∈ x :: t, ¬ ((l.length : Int) < y.f1)) :
 kC l (p : Int) = ((p + (x :: t).length : Nat) : Int) := by
 have hone : Fo (x :: t) 1 (1 + D1) := by
  have := Fo.cons x t [] 0 D1 0 hx ht Fo.nil
  rw [List.append_nil] at this
  rwa [show max (1 + D1) 0 = 1 + D1 by omega] at this
 have hF : Tree.jP l.length (l.drop p) 1 = some (x :: t).length := by
  rw [hd]
  have := hone.jP (n := l.length) hn rest 0 (by omega)
  simpa using this
 unfold kC
 rw [if_neg (by omega), Int.toNat_natCast, hF]; rfl
/-- The places of so many trees lie where the trees do. -/
theorem KP (l : List S29) : ∀ (w : Nat) (u rest : List S29) (D p : Nat), Fo u w D → l.drop p = u ++ rest → (∀ y ∈ u, ¬ ((l.length : Int) < y.f1)) → ∀ q ∈ its l w (p : Int), (p : Int) ≤ q ∧ q < ((p + u.length : Nat) : Int) := by
 intro w
 induction w with
 | zero => intro u rest D p h hd hn q hq; simp [its] at hq
 | succ w ih =>
  intro u rest D p h hd hn q hq
  generalize hw : w + 1 = w1 at h
  cases h with
  | nil => omega
  | cons x t v w' D1 D2 hx ht hv =>
   obtain rfl : w' = w := by omega
   have hd2 : l.drop p = (x :: t) ++ (v ++ rest) := by rw [hd]; simp
   have he := vP hx ht hd2 (fun y hy => hn y (by rcases List.mem_cons.1 hy with rfl | hy; simp; simp [hy]))
   rw [its, he] at hq
   rcases List.mem_cons.1 hq with rfl | hq
   ·constructor
    ·omega
    simp only [List.length_cons, List.length_append]; omega
   have := ih v rest D2 (p + (x :: t).length) hv (by rw [← List.drop_drop, hd2, List.drop_left']; rfl) (fun y hy => hn y (by simp [hy])) q hq
   simp only [List.length_cons, List.length_append] at this ⊢
   omega
/-- Of a whole tree: each node's kids come to their places, all of them within. -/
theorem xP {l : List S29} (hl : l.length ≤ 100000) (h : Tree.jP l.length l 1 = some l.length) (i : Nat) (hi : i < l.length) :
 af (fun k => fE.f k l (i : Int)) (its l (ax l (i : Int)).f1.toNat ((i + 1 : Nat) : Int)) ∧ (its l (ax l (i : Int)).f1.toNat ((i + 1 : Nat) : Int)).length ≤ 100000 ∧
 ∀ q ∈ its l (ax l (i : Int)).f1.toNat ((i + 1 : Nat) : Int), (i : Int) < q ∧ q < (l.length : Int) := by
 obtain ⟨m, hm, hF⟩ := vS _ _ _ _ i h (Nat.le_refl 1) hi
 have hkk := yG _ _ _ _ hF (Nat.le_refl 1)
 obtain ⟨h1, h2⟩ := zx _ _ _ _ hF
 have hin : l[i] ∈ (l.drop i).take m := by
  obtain ⟨q, rfl⟩ : ∃ q, m = q + 1 := ⟨m - 1, by omega⟩
  rw [List.drop_eq_getElem_cons hi, List.take_succ_cons]
  exact List.mem_cons_self
 have hk := hkk _ hin
 have he : kC l (i : Int) = ((i + m : Nat) : Int) := by
  unfold kC
  rw [if_neg (by omega), Int.toNat_natCast, hF]; rfl
 have hr := tJ l i hi
 refine ⟨?_, by rw [D7, hr]; omega, ?_⟩
 ·rw [hr]
  unfold fE.f
  refine af.bind (yQ l hl (i : Int)) ?_
  rw [inc i (by omega), he]
  refine af.neg (by omega) ?_
  have := BA l hl i hi hk.1 (by omega) l[i].f1.toNat [] ((i + 1 : Nat) : Int) (by simp)
  simpa using this
 intro q hq
 obtain ⟨D, hD⟩ := Fo.Kz _ _ _ _ hF (Nat.le_refl 1)
 have hdrop0 : l.drop i = (l.drop i).take m ++ l.drop (i + m) := by rw [← List.drop_drop, List.take_append_drop]
 have hdrop : l[i] :: l.drop (i + 1) = (l.drop i).take m ++ l.drop (i + m) := (List.drop_eq_getElem_cons hi).symm.trans hdrop0
 clear hdrop0
 have hlen : ((l.drop i).take m).length = m := by rw [List.length_take, List.length_drop]; omega
 generalize (l.drop i).take m = s at *
 obtain ⟨x, t, D1, rfl, rfl, hx, ht⟩ := hD.one
 obtain ⟨hxl, hdr⟩ := List.cons.inj hdrop
 have htl : t.length + 1 = m := by simpa using hlen
 rw [hr, hxl] at hq
 have := KP l x.f1.toNat t (l.drop (i + m)) D1 (i + 1) ht hdr (fun y hy => by have := hkk y (by simp [hy]); omega) q hq
 omega
end Go.Proofs.YtkbhkonenkgfoaaGreat.Tree
end
section
set_option linter.unusedVariables false
set_option linter.unusedSimpArgs false
namespace Go.Proofs.YtkbhkonenkgfoaaGreat.Tree
open Go Go.RowKit Go.Proofs.YtkbhkonenkgfoaaGreatW.PrintWords Go.Proofs.YtkbhkonenkgfoaaGreat.Q Go.Proofs.YtkbhkonenkgfoaaGreat.Lex
def qF (l : List S29) (i : Int) : List Int := if kC l i < 0 then [] else its l (ax l i).f1.toNat (i + 1)
theorem D5 {l : List S29} (hl : l.length ≤ 100000) {i : Int} (c : ¬ kC l i < 0) : ∃ j : Nat, i = j ∧ ∃ hj : j < l.length, 0 ≤ l[j].f1 ∧ l[j].f1 ≤ 100000 := by
 obtain ⟨j, m, rfl, hF, he, h1, h2⟩ := nX c
 have hj : j < l.length := by omega
 refine ⟨j, rfl, hj, ?_⟩
 have hkk := yG _ _ _ _ hF (Nat.le_refl 1)
 have hin : l[j] ∈ (l.drop j).take m := by
  obtain ⟨q, rfl⟩ : ∃ q, m = q + 1 := ⟨m - 1, by omega⟩
  rw [List.drop_eq_getElem_cons hj, List.take_succ_cons]
  exact List.mem_cons_self
 have := hkk _ hin
 omega
theorem Lh (l : List S29) (hl : l.length ≤ 100000) (i : Int) : af (fun k => fE.f k l i) (qF l i) := by
 unfold fE.f qF
 refine af.bind (yQ l hl i) ?_
 by_cases c : kC l i < 0
 ·rw [if_pos c]; exact af.pos c af.now
 rw [if_neg c]
 obtain ⟨j, rfl, hj, h0, h9⟩ := D5 hl c
 rw [inc j (by omega), tJ l j hj]
 refine af.neg c ?_
 have := BA l hl j hj h0 h9 l[j].f1.toNat [] ((j + 1 : Nat) : Int) (by simp)
 simpa using this
end Go.Proofs.YtkbhkonenkgfoaaGreat.Tree
end
section
set_option linter.unusedVariables false
set_option linter.unusedSimpArgs false
namespace Go.Proofs.YtkbhkonenkgfoaaGreat.Par
open Go Go.RowKit Go.Proofs.YtkbhkonenkgfoaaGreatW.PrintWords Go.Proofs.YtkbhkonenkgfoaaGreat.Q Go.Proofs.YtkbhkonenkgfoaaGreat.Lex Go.Proofs.YtkbhkonenkgfoaaGreat.Tree
/-- What is read, and the tokens that are left; a fault, and the tokens that are left there; none: the rounds are used up. -/
abbrev R (α : Type) := Except (Option (List S37)) (α × List S37)
abbrev Ps (α : Type) := List S37 → R α
def bnd {α β : Type} (p : Ps α) (f : α → Ps β) : Ps β := fun l => match p l with | .ok (a, r) => f a r | .error e => .error e
def ret {α : Type} (a : α) : Ps α := fun l => .ok (a, l)
def out {α : Type} : Ps α := fun _ => .error none
def E : ByteArray := ⟨#[]⟩
/-- The next token's text, if it is a key or a mark. -/
def wB : List S37 → ByteArray
 | [] => E
 | t :: _ => if t.f0 = 5 ∨ t.f0 = 4 then t.f1 else E
def wd (l : List S37) : List UInt8 := (wB l).toList
def must (w : List UInt8) : Ps Unit := fun l => if wd l = w then .ok ((), l.tail) else .error (some l)
def need (k : Int) : Ps S37
 | [] => .error (some [])
 | t :: r => if t.f0 = k then .ok (t, r) else .error (some (t :: r))
/-- Passes over a token that is there. -/
def tk : Ps Unit
 | [] => .error none
 | _ :: r => .ok ((), r)
def nd (k : Int) (nm : ByteArray) (n : Int) (tx : ByteArray) (kids : List (List S29)) : List S29 := ⟨k, (kids.length : Int), nm, n, tx⟩ :: kids.flatten
structure PF where
 expr : Ps (List S29)
 block : Ps (List S29)
 bound : Int → Ps (List S29)
 unary : Ps (List S29)
def lS (F : PF) (k : Int) (nm : ByteArray) : Ps (List S29) := bnd F.expr fun e => bnd (must [59]) fun _ => ret (nd k nm 0 E [e])
def uz (k : Int) : Ps (List S29) := bnd (must [59]) fun _ => ret (nd k E 0 E [])
def uh (e : List S29) : Option (List S29 × List S29) := match qF e 0 with
 | a :: b :: _ => some (pO e a, pO e b)
 | _ => none
def yX (F : PF) (e : List S29) : Ps (List S29) := match uh e with
 | some (a, b) => bnd (must [61]) fun _ => bnd F.expr fun v => bnd (must [59]) fun _ => ret (nd 8 E 0 E [a, b, v])
 | none => out
def uF (F : PF) (e : List S29) : Ps (List S29) := fun l =>
 if wd l ≠ [61] then (bnd (must [59]) fun _ => ret (nd 17 E 0 E [e])) l
 else match e with
  | [] => .error none
  | x :: _ => if x.f0 = 21 then (bnd (must [61]) fun _ => lS F 7 x.f2) l else if x.f0 = 26 then yX F e l else .error (some l)
def wP (F : PF) : Ps (List S29) := bnd F.expr (uF F)
def lF (F : PF) : Ps (List S29) := fun l =>
 if wd l = [108, 101, 116] then (bnd tk fun _ => bnd (need 1) fun t => bnd (must [61]) fun _ => lS F 6 t.f1) l
 else if wd l = [105, 102] then (bnd tk fun _ => bnd F.expr fun e => bnd F.block fun b => fun l2 => if wd l2 = [101, 108, 115, 101] then (bnd tk fun _ => bnd F.block fun c => ret (nd 9 E 0 E [e, b, c])) l2 else .ok (nd 9 E 0 E [e, b], l2)) l
 else if wd l = [119, 104, 105, 108, 101] then (bnd tk fun _ => bnd F.expr fun e => bnd F.block fun b => ret (nd 10 E 0 E [e, b])) l
 else if wd l = [98, 114, 101, 97, 107] then (bnd tk fun _ => uz 11) l
 else if wd l = [99, 111, 110, 116, 105, 110, 117, 101] then (bnd tk fun _ => uz 12) l
 else if wd l = [121, 105, 101, 108, 100] then (bnd tk fun _ => uz 16) l
 else if wd l = [114, 101, 116, 117, 114, 110] then (bnd tk fun _ => lS F 13 E) l
 else if wd l = [112, 117, 116] then (bnd tk fun _ => lS F 14 E) l
 else if wd l = [101, 109, 105, 116] then (bnd tk fun _ => lS F 15 E) l
 else wP F l
def qM (F : PF) : Nat → List (List S29) → Ps (List S29)
 | 0, _ => out
 | n + 1, acc => fun l => if wd l = [125] then (bnd (must [125]) fun _ => ret (nd 5 E 0 E acc)) l else (bnd (lF F) fun s => qM F n (acc ++ [s])) l
def qg (F : PF) (N : Nat) : Ps (List S29) := bnd (must [123]) fun _ => qM F N []
def nH (one : Ps (List S29)) : Nat → List (List S29) → Ps (List (List S29))
 | 0, _ => out
 | n + 1, acc => fun l => if wd l = [41] then (bnd (must [41]) fun _ => ret acc) l
  else if acc = [] then (bnd one fun x => nH one n (acc ++ [x])) l else (bnd (must [44]) fun _ => bnd one fun x => nH one n (acc ++ [x])) l
def gW (one : Ps (List S29)) (N : Nat) : Ps (List (List S29)) := bnd (must [40]) fun _ => nH one N []
def mD : Ps (List S29) := bnd (need 1) fun t => ret (nd 4 t.f1 0 E [])
def lX (F : PF) (N : Nat) (k : Int) (nm : ByteArray) : Ps (List S29) := bnd (gW mD N) fun ps => bnd (qg F N) fun b => ret (nd k nm 0 E (ps ++ [b]))
def Dq (F : PF) (N : Nat) : Ps (List S29) := bnd (need 1) fun t => fun l =>
 if wd l = [46] then (bnd tk fun _ => bnd (need 1) fun u => bnd (gW F.expr N) fun ks => ret (nd 23 t.f1 0 u.f1 ks)) l else .ok (nd 21 t.f1 0 E [], l)
def ug (F : PF) (N : Nat) : Ps (List S29)
 | [] => .error (some [])
 | t :: r => if t.f0 = 2 then .ok (nd 19 E t.f2 E [], r) else if t.f0 = 3 then .ok (nd 20 E 0 t.f1 [], r) else Dq F N (t :: r)
def wO (F : PF) (N : Nat) : Ps (List S29) := fun l =>
 if wd l = [110, 105, 108] then (bnd tk fun _ => ret (nd 18 E 0 E [])) l
 else if wd l = [115, 116, 97, 116, 101] then (bnd tk fun _ => ret (nd 29 E 0 E [])) l
 else if wd l = [123] then (bnd tk fun _ => bnd (must [125]) fun _ => ret (nd 25 E 0 E [])) l
 else if wd l = [102, 110] then (bnd tk fun _ => lX F N 24 E) l
 else if wd l = [40] then (bnd tk fun _ => bnd F.expr fun e => bnd (must [41]) fun _ => ret e) l
 else ug F N l
def tN (F : PF) (N : Nat) : Nat → List S29 → Ps (List S29)
 | 0, _ => out
 | n + 1, e => fun l => if wd l = [40] then (bnd (gW F.expr N) fun ks => tN F N n (nd 22 E 0 E ([e] ++ ks))) l
  else if wd l = [91] then (bnd tk fun _ => bnd F.expr fun i => bnd (must [93]) fun _ => tN F N n (nd 26 E 0 E [e, i])) l
  else .ok (e, l)
def pM (F : PF) (N : Nat) : Ps (List S29) := fun l =>
 if wd l = [45] ∨ wd l = [110, 111, 116] ∨ wd l = [108, 101, 110] then (bnd tk fun _ => bnd F.unary fun e => ret (nd 28 E 0 (wB l) [e])) l
 else if wd l = [115, 112, 97, 119, 110] then (bnd tk fun _ => bnd F.unary fun e => ret (nd 30 E 0 E [e])) l
 else (bnd (wO F N) fun e => tN F N N e) l
def oU (w : List UInt8) : Int :=
 if w = [111, 114] then 1 else if w = [97, 110, 100] then 2 else if w = [61, 61] ∨ w = [33, 61] ∨ w = [60] ∨ w = [60, 61] then 3
 else if w = [43] ∨ w = [45] ∨ w = [46, 46] then 4 else if w = [42] ∨ w = [47] ∨ w = [37] then 5 else 0
def qf (F : PF) (a : Int) : Nat → List S29 → Ps (List S29)
 | 0, _ => out
 | n + 1, e => fun l => if oU (wd l) = a then (bnd tk fun _ => bnd (F.bound (a + 1)) fun e2 => if a = 3 then ret (nd 27 E 0 (wB l) [e, e2]) else qf F a n (nd 27 E 0 (wB l) [e, e2])) l else .ok (e, l)
def oD (F : PF) (N : Nat) (a : Int) : Ps (List S29) := if a = 6 then pM F N else bnd (F.bound (a + 1)) fun e => qf F a N e
def kQ (F : PF) (N : Nat) : Ps (List S29) := oD F N 1
def oZ : Nat → PF
 | 0 => ⟨out, out, fun _ => out, out⟩
 | n + 1 => ⟨kQ (oZ n) n, qg (oZ n) n, fun a => oD (oZ n) n a, pM (oZ n) n⟩
def DW : Ps (List S29) := bnd (need 1) fun a => bnd (must [46]) fun _ => bnd (need 1) fun b => bnd (must [47]) fun _ => bnd (need 2) fun c => bnd (must [59]) fun _ => ret (nd 2 a.f1 c.f2 b.f1 [])
def vw (F : PF) (N : Nat) (nm : ByteArray) (v : Int) : Nat → List (List S29) → Ps (List S29)
 | 0, _ => out
 | n + 1, acc => fun l => if wd l = [102, 110] then (bnd tk fun _ => bnd (need 1) fun t => bnd (lX F N 3 t.f1) fun f => vw F N nm v n (acc ++ [f])) l else .ok (nd 1 nm v E acc, l)
def uP (F : PF) (N : Nat) (nm : ByteArray) (v : Int) : Nat → List (List S29) → Ps (List S29)
 | 0, _ => out
 | n + 1, acc => fun l => if wd l = [117, 115, 101] then (bnd tk fun _ => bnd DW fun u => uP F N nm v n (acc ++ [u])) l else vw F N nm v N acc l
def kS (F : PF) (N : Nat) : Ps (List S29) := bnd (must [109, 111, 100, 117, 108, 101]) fun _ => bnd (need 1) fun t => bnd (need 2) fun u => bnd (must [59]) fun _ => uP F N t.f1 u.f2 N []
end Go.Proofs.YtkbhkonenkgfoaaGreat.Par
end
section
set_option linter.unusedVariables false
set_option linter.unusedSimpArgs false
namespace Go.Proofs.YtkbhkonenkgfoaaGreat.Lex
open Go Go.RowKit Go.Proofs.YtkbhkonenkgfoaaGreatW.PrintWords
/-- A string's bytes. -/
def L (s : ByteArray) : List UInt8 := s.data.toList
theorem iM (s : ByteArray) : s.toList = L s := ByteArray.toList_eq s
theorem ed (s : ByteArray) : s.size = (L s).length := by cases s; rfl
theorem yO {s t : ByteArray} (h : L s = L t) : s = t := by
 obtain ⟨⟨a⟩⟩ := s
 obtain ⟨⟨b⟩⟩ := t
 have h' : a = b := h
 rw [h']
theorem qU (s t : ByteArray) : L (s ++ t) = L s ++ L t := by simp [L]
theorem oh (s : ByteArray) (a b : Nat) : L (s.extract a b) = ((L s).drop a).take (b - a) := by
 simp [L, List.extract_eq_take_drop]
theorem Hy (xs : List Int) : L (strOfNums xs) = xs.map fun n => UInt8.ofNat n.toNat := rfl
/-- The string of these bytes. -/
def S (l : List UInt8) : ByteArray := ⟨l.toArray⟩
theorem L_S (l : List UInt8) : L (S l) = l := rfl
theorem S_L (s : ByteArray) : S (L s) = s := yO (L_S _)
theorem uy (s : ByteArray) (i : Nat) : bt s (i : Int) = (((L s).getD i 0).toNat : Int) := by
 unfold bt
 simp only [Int.toNat_natCast]
 split
 ·rename_i h
  have h2 : i < (L s).length := by rw [← ed]; exact h
  rw [List.getD_eq_getElem?_getD, List.getElem?_eq_getElem h2]
  rfl
 rename_i h
 have h2 : (L s).length ≤ i := by rw [← ed]; omega
 rw [List.getD_eq_getElem?_getD, List.getElem?_eq_none h2]
 rfl
theorem xH (s : ByteArray) (i : Nat) : byteAt s i = ((L s).getD i 0).toNat := by
 have h := uy s i
 unfold bt at h
 unfold byteAt
 simp only [Int.toNat_natCast] at h
 split at h
 ·rename_i c
  rw [dif_pos c]; omega
 rename_i c
 rw [dif_neg c]; omega
theorem je (c d : UInt8) : ((c.toNat : Int) = (d.toNat : Int)) ↔ c = d := by
 rw [← UInt8.toNat_inj]; omega
theorem jo (l : List UInt8) (i : Nat) (h : i < l.length) : l.drop i = l.getD i 0 :: l.drop (i + 1) := by
 rw [List.getD_eq_getElem?_getD, List.getElem?_eq_getElem h]
 exact List.drop_eq_getElem_cons h
/-! The kinds. -/
theorem yN (c : UInt8) : jg (c.toNat : Int) = bl c := by
 have e1 := je c 32
 have e2 := je c 9
 have e3 := je c 10
 have e4 := je c 13
 simp only [UInt8.reduceToNat] at e1 e2 e3 e4
 unfold jg bl
 rw [Bool.eq_iff_iff]
 simp only [decide_eq_true_eq, Bool.or_eq_true, beq_iff_eq, ← e1, ← e2, ← e3, ← e4]
 omega
theorem BZ (c : UInt8) : jw (c.toNat : Int) = !(c == 10) := by
 have e3 := je c 10
 simp only [UInt8.reduceToNat] at e3
 unfold jw
 rw [Bool.eq_iff_iff]
 simp only [decide_eq_true_eq, Bool.not_eq_true', beq_eq_false_iff_ne, ne_eq, ← e3]
 omega
theorem BU (c : UInt8) : nC (c.toNat : Int) = le c := by
 unfold nC le
 rw [Bool.eq_iff_iff]
 simp only [decide_eq_true_eq]
 omega
theorem yH (c : UInt8) : lU (c.toNat : Int) = di c := by
 unfold lU di
 rw [Bool.eq_iff_iff]
 simp only [decide_eq_true_eq]
 omega
theorem xk (c : UInt8) : mW (c.toNat : Int) = inn c := by
 rw [AU, BU, yH]
 have e := je c 95
 simp only [UInt8.reduceToNat] at e
 unfold inn
 rw [show ((c.toNat : Int) == 95) = (c == 95) by rw [Bool.eq_iff_iff]; simp only [beq_iff_eq, ← e]; omega]
 rw [Bool.or_assoc]
theorem MR (p : Int → Bool) (q : UInt8 → Bool) (pq : ∀ c : UInt8, p (c.toNat : Int) = q c) (s : ByteArray) : ∀ f i, s.size ≤ i + f → i ≤ s.size → hd p s f i = i + (((L s).drop i).takeWhile q).length := by
 intro f
 induction f with
 | zero =>
  intro i h1 h2
  rw [ed] at h1
  simp [hd, List.drop_eq_nil_of_le (show (L s).length ≤ i by omega)]
 | succ f ih =>
  intro i h1 h2
  unfold hd
  by_cases c : i < s.size
  ·rw [if_pos c]
   rw [jo (L s) i (by rw [← ed]; exact c), List.takeWhile_cons, xH, pq]
   by_cases q1 : q ((L s).getD i 0) = true
   ·rw [if_pos q1, if_pos q1, ih (i + 1) (by omega) (by omega)]
    simp; omega
   rw [if_neg q1, if_neg q1]; rfl
  rw [if_neg c, List.drop_eq_nil_of_le (by rw [← ed]; omega)]; rfl
theorem yB (p : Int → Bool) (q : UInt8 → Bool) (pq : ∀ c : UInt8, p (c.toNat : Int) = q c) (s : ByteArray) : headLen p s = ((L s).takeWhile q).length := by
 unfold headLen
 rw [MR p q pq s s.size 0 (by omega) (by omega)]
 simp
theorem ou {α : Type} (q : α → Bool) (l : List α) : l.take (l.takeWhile q).length = l.takeWhile q := by
 induction l with
 | nil => rfl
 | cons a t ih =>
  rw [List.takeWhile_cons]
  split
  ·simp [ih]
  rfl
theorem qJ {α : Type} (q : α → Bool) (l : List α) : l.drop (l.takeWhile q).length = l.dropWhile q := by
 induction l with
 | nil => rfl
 | cons a t ih =>
  rw [List.takeWhile_cons, List.dropWhile_cons]
  split
  ·simp [ih]
  rfl
theorem xm (p : Int → Bool) (q : UInt8 → Bool) (pq : ∀ c : UInt8, p (c.toNat : Int) = q c) (s : ByteArray) : L (jF p s) = (L s).takeWhile q := by
 unfold jF
 rw [oh, yB p q pq]
 simp [ou]
theorem xC (p : Int → Bool) (q : UInt8 → Bool) (pq : ∀ c : UInt8, p (c.toNat : Int) = q c) (s : ByteArray) : L (ku p s) = (L s).dropWhile q := by
 unfold ku
 rw [oh, oP, yB p q pq, qJ, List.take_of_length_le]
 have := congrArg List.length (qJ q (L s))
 rw [List.length_drop] at this
 rw [ed]
 omega
theorem wE : ∀ (l : List UInt8), skp false l = skp false (l.dropWhile bl)
 | [] => rfl
 | c :: t => by
  by_cases h : bl c = true
  ·rw [List.dropWhile_cons, if_pos h, ← wE t]
   simp [skp, h]
  rw [List.dropWhile_cons, if_neg h]
theorem Aa : ∀ (l : List UInt8), skp true l = skp false (l.dropWhile (fun c => !(c == 10)))
 | [] => rfl
 | c :: t => by
  by_cases h : c = 10
  ·subst h
   simp [skp, List.dropWhile_cons, bl]
  rw [List.dropWhile_cons, if_pos (by simp [h]), ← Aa t]
  simp [skp, h]
theorem II : ∀ (f : Nat) (s : ByteArray), s.size < f → L (uZ f s) = skp false (L s) := by
 intro f
 induction f with
 | zero => intro s h; omega
 | succ f ih =>
  intro s h
  rw [wE, ← xC jg bl yN s]
  simp only [uZ]
  have ha : (ku jg s).size ≤ s.size := by rw [qK]; omega
  have hb : ∀ c t, L (ku jg s) = c :: t → bl c = false := by
   intro c t e
   rw [xC jg bl yN s] at e
   have := List.head?_dropWhile_not bl (L s)
   rw [e] at this
   simpa using this
  generalize ku jg s = a at *
  by_cases c : 0 < a.size ∧ byteAt a 0 = 35
  ·rw [if_pos c]
   rw [ih _ (by have := rU a c.1 c.2; omega), xC jw _ BZ]
   rw [← Aa]
   have c1 := c.1
   have c2 := c.2
   rw [xH] at c2
   rw [ed] at c1
   rcases hl : L a with _ | ⟨x, t⟩
   ·rw [hl] at c1; simp at c1
   rw [hl] at c2
   simp only [List.getD_cons_zero] at c2
   have hx : x = 35 := by rw [← UInt8.toNat_inj]; exact c2
   subst hx
   simp [skp, bl]
  rw [if_neg c]
  rcases hl : L a with _ | ⟨x, t⟩
  ·rfl
  have hx : bl x = false := hb x t hl
  have hx2 : x ≠ 35 := by
   intro e
   apply c
   rw [xH, ed, hl]
   subst e
   simp
  simp [skp, hx, hx2]
theorem wQ (s : ByteArray) : L (o6 s) = skp false (L s) := II _ s (by omega)
end Go.Proofs.YtkbhkonenkgfoaaGreat.Lex
end
section
set_option linter.unusedVariables false
set_option linter.unusedSimpArgs false
namespace Go.Proofs.YtkbhkonenkgfoaaGreat.Par
open Go Go.RowKit Go.Proofs.YtkbhkonenkgfoaaGreatW.PrintWords Go.Proofs.YtkbhkonenkgfoaaGreat.Q Go.Proofs.YtkbhkonenkgfoaaGreat.Lex Go.Proofs.YtkbhkonenkgfoaaGreat.Tree
theorem mr (ts : List S37) (q : Nat) (t : S37) (r : List S37) (h : ts.drop q = t :: r) : q < ts.length ∧ fF ts (q : Int) = t ∧ ts.drop (q + 1) = r := by
 have hq : q < ts.length := by
  rcases Nat.lt_or_ge q ts.length with h1 | h1
  ·exact h1
  rw [List.drop_eq_nil_of_le h1] at h; cases h
 rw [List.drop_eq_getElem_cons hq] at h
 obtain ⟨h1, h2⟩ := List.cons.inj h
 exact ⟨hq, by simp [fF, List.getD_eq_getElem?_getD, List.getElem?_eq_getElem hq, h1], h2⟩
theorem FZ (ts : List S37) (q : Int) : kR.f ts q true = some (0, E, 0, 0, false, q, true) := rfl
theorem wX (ts : List S37) (q : Nat) (h : ts.drop q = []) : kR.f ts (q : Int) false = some (0, E, 0, 0, false, (q : Int), false) := by
 unfold kR.f
 have : ts.length ≤ q := List.drop_eq_nil_iff.1 h
 rw [if_neg (by simp), if_pos (by omega)]; rfl
theorem uH (ts : List S37) (q : Nat) (t : S37) (r : List S37) (h : ts.drop q = t :: r) : kR.f ts (q : Int) false = some (t.f0, t.f1, t.f2, t.f3, true, (q : Int), false) := by
 obtain ⟨h1, h2, _⟩ := mr ts q t r h
 unfold kR.f
 rw [if_neg (by simp), if_neg (by omega), if_pos (by omega), h2]
theorem nz (ts : List S37) (q : Nat) : dN.f ts (q : Int) false = some (wB (ts.drop q), (q : Int), false) := by
 unfold dN.f
 cases h : ts.drop q with
 | nil => rw [wX ts q h]; rfl
 | cons t r =>
  rw [uH ts q t r h]
  simp only [Option.bind_some, if_true, wB]
  by_cases c1 : t.f0 = 5
  ·rw [if_pos c1, if_pos (Or.inl c1)]
  rw [if_neg c1]
  by_cases c2 : t.f0 = 4
  ·rw [if_pos c2, if_pos (Or.inr c2)]
  rw [if_neg c2, if_neg (by omega)]; rfl
theorem vX (ts : List S37) (q : Int) : dN.f ts q true = some (E, q, true) := rfl
theorem BD : E.toList = ([] : List UInt8) := by rw [iM]; rfl
theorem yS : wd [] = [] := BD
theorem yU (ts : List S37) (q : Nat) (hq : q ≤ 100000) (w : ByteArray) (hw : w.toList ≠ []) : bn.f ts (q : Int) false w = if wd (ts.drop q) = w.toList then some (true, ((q + 1 : Nat) : Int), false) else some (false, (q : Int), false) := by
 unfold bn.f
 rw [if_neg hw, nz]
 simp only [Option.bind_some]
 rw [inc q (by omega)]; rfl
theorem zX (ts : List S37) (q : Int) (w : ByteArray) (hw : w.toList ≠ []) : bn.f ts q true w = some (false, q, true) := by
 unfold bn.f
 rw [if_neg hw, vX]
 simp only [Option.bind_some]
 rw [if_neg (fun h => hw (by rw [BD] at h; exact h.symm))]
theorem IP (ts : List S37) (q : Nat) (hq : q ≤ 100000) (w : ByteArray) (hw : w.toList ≠ []) : bg.f ts (q : Int) false w = if wd (ts.drop q) = w.toList then some (((q + 1 : Nat) : Int), false) else some ((q : Int), true) := by
 unfold bg.f
 rw [yU ts q hq w hw]
 by_cases c : wd (ts.drop q) = w.toList
 ·rw [if_pos c, if_pos c]; rfl
 rw [if_neg c, if_neg c]; rfl
theorem Gi (ts : List S37) (q : Int) (w : ByteArray) (hw : w.toList ≠ []) : bg.f ts q true w = some (q, true) := by
 unfold bg.f
 rw [zX ts q w hw]; rfl
theorem mF (ts : List S37) (q : Int) (k : Int) : dO.f ts q true k = some (0, E, 0, 0, q, true) := rfl
theorem Gg (ts : List S37) (q : Nat) (k : Int) (h : ts.drop q = []) : dO.f ts (q : Int) false k = some (0, E, 0, 0, (q : Int), true) := by
 unfold dO.f
 rw [wX ts q h]; rfl
theorem Ew (ts : List S37) (q : Nat) (hq : q ≤ 100000) (k : Int) (t : S37) (r : List S37) (h : ts.drop q = t :: r) : dO.f ts (q : Int) false k = if t.f0 = k then some (t.f0, t.f1, t.f2, t.f3, ((q + 1 : Nat) : Int), false) else some (0, E, 0, 0, (q : Int), true) := by
 unfold dO.f
 rw [uH ts q t r h]
 simp only [Option.bind_some, if_true]
 rw [inc q (by omega)]; rfl
theorem sO {l : List S37} (h : wd l ≠ []) : ∃ t r, l = t :: r := by
 cases l with
 | nil => exact absurd yS h
 | cons t r => exact ⟨t, r, rfl⟩
/-! Nodes. -/
theorem KA (a : Int) (kids : List (List S29)) (hk : kids.length ≤ 1000000) : ∀ (m i : Nat) (acc : List S29), kids.length = m + i → acc.length + ((kids.drop i).flatten).length ≤ 1000000000 →
 af (fun k => aZ.l0 k acc kids (kids.length : Int) (i : Int)) (acc ++ (kids.drop i).flatten) := by
 intro m
 induction m with
 | zero =>
  intro i acc h1 h2
  rw [List.drop_eq_nil_of_le (by omega), List.flatten_nil, List.append_nil]
  refine af.step (fun k => by rw [aZ.l0]) ?_
  exact af.neg (by omega) af.now
 | succ m ih =>
  intro i acc h1 h2
  have hi : i < kids.length := by omega
  have hr : nN kids (i : Int) = kids[i] := by simp [nN, List.getD_eq_getElem?_getD, List.getElem?_eq_getElem hi]
  rw [List.drop_eq_getElem_cons hi, List.flatten_cons] at h2 ⊢
  rw [List.length_append] at h2
  refine af.step (fun k => by rw [aZ.l0]) ?_
  rw [hr, inc i (by omega)]
  refine af.pos (by omega) (af.pos (by omega) (af.pos (by omega) (af.pos (by omega) ?_)))
  have := ih (i + 1) (acc ++ kids[i]) (by omega) (by rw [List.length_append]; omega)
  rw [List.append_assoc] at this
  exact this
theorem wW (k0 : Int) (nm : ByteArray) (n : Int) (tx : ByteArray) (z : Int) (kids : List (List S29)) (hk : kids.length ≤ 1000000) (hs : kids.flatten.length ≤ 100000000) : af (fun k => aZ.f k k0 z nm n tx kids) (nd k0 nm n tx kids) := by
 have := KA 0 kids hk kids.length 0 [⟨k0, (kids.length : Int), nm, n, tx⟩] (by omega) (by rw [List.drop_zero]; simp only [List.length_cons, List.length_nil]; omega)
 rw [List.drop_zero] at this
 exact this
/-! What is told. -/
/-- What a function of rounds comes to, from place q on, is the answer; what was made is no more than twice what was passed, and c. -/
def ah {α : Type} (ts : List S37) (q c : Nat) (sz : α → Nat) (F : Nat → Option (α × Int × Bool)) : R α → Prop
 | .ok (x, r) => ∃ p : Nat, q ≤ p ∧ p ≤ ts.length ∧ ts.drop p = r ∧ sz x ≤ 2 * (p - q) ∧ af F (x, (p : Int), false)
 | .error (some r) => ∃ (x : α) (p : Nat), q ≤ p ∧ p ≤ ts.length ∧ ts.drop p = r ∧ sz x ≤ 2 * (p - q) + c ∧ af F (x, (p : Int), true)
 | .error none => True
theorem ah.bind {α β : Type} {ts : List S37} {q q0 c d : Nat} {sA : α → Nat} {sB : β → Nat} {F : Nat → Option (α × Int × Bool)} {G : Nat → α × Int × Bool → Option (β × Int × Bool)} {P : Ps α} {l : List S37} {f : α → Ps β}
 (h : ah ts q c sA F (P l))
 (hok : ∀ (x : α) (p : Nat), q ≤ p → p ≤ ts.length → sA x ≤ 2 * (p - q) → ah ts q0 d sB (fun k => G k (x, (p : Int), false)) (f x (ts.drop p)))
 (hbad : ∀ (x : α) (p : Nat), q ≤ p → p ≤ ts.length → sA x ≤ 2 * (p - q) + c → ∃ y, q0 ≤ p ∧ sB y ≤ 2 * (p - q0) + d ∧ af (fun k => G k (x, (p : Int), true)) (y, (p : Int), true)) :
 ah ts q0 d sB (fun k => (F k).bind (G k)) (bnd P f l) := by
 unfold bnd
 match P l, h with
 | .ok (x, r), ⟨p, h1, h2, h3, h4, h5⟩ =>
  have := hok x p h1 h2 h4
  rw [h3] at this
  revert this
  show ah ts q0 d sB _ (f x r) → ah ts q0 d sB _ (f x r)
  cases f x r with
  | ok y => exact fun ⟨p', a1, a2, a3, a4, a5⟩ => ⟨p', a1, a2, a3, a4, af.bind h5 a5⟩
  | error e =>
   cases e with
   | none => exact fun _ => trivial
   | some e => exact fun ⟨y, p', a1, a2, a3, a4, a5⟩ => ⟨y, p', a1, a2, a3, a4, af.bind h5 a5⟩
 | .error (some r), ⟨x, p, h1, h2, h3, h4, h5⟩ =>
  obtain ⟨y, g0, g1, g2⟩ := hbad x p h1 h2 h4
  exact ⟨y, p, g0, h2, h3, g1, af.bind h5 g2⟩
 | .error none, _ => trivial
theorem ah.congr {α : Type} {ts : List S37} {q c : Nat} {sz : α → Nat} {F G : Nat → Option (α × Int × Bool)} {P : R α} (e : ∀ k, F k = G k) (h : ah ts q c sz G P) : ah ts q c sz F P := by
 have : F = G := funext e
 rw [this]; exact h
theorem ah.step {α : Type} {ts : List S37} {q c : Nat} {sz : α → Nat} {F G : Nat → Option (α × Int × Bool)} {P : R α} (e : ∀ k, F (k + 1) = G k) (h : ah ts q c sz G P) : ah ts q c sz F P := by
 match P, h with
 | .ok (x, r), ⟨p, h1, h2, h3, h4, h5⟩ => exact ⟨p, h1, h2, h3, h4, af.step e h5⟩
 | .error (some r), ⟨x, p, h1, h2, h3, h4, h5⟩ => exact ⟨x, p, h1, h2, h3, h4, af.step e h5⟩
 | .error none, _ => trivial
theorem ah.pos {α : Type} {ts : List S37} {q d : Nat} {sz : α → Nat} {F G : Nat → Option (α × Int × Bool)} {P : R α} {c : Prop} [Decidable c] (hc : c) (h : ah ts q d sz F P) : ah ts q d sz (fun k => if c then F k else G k) P := ah.congr (fun k => if_pos hc) h
theorem ah.neg {α : Type} {ts : List S37} {q d : Nat} {sz : α → Nat} {F G : Nat → Option (α × Int × Bool)} {P : R α} {c : Prop} [Decidable c] (hc : ¬c) (h : ah ts q d sz G P) : ah ts q d sz (fun k => if c then F k else G k) P := ah.congr (fun k => if_neg hc) h
/-- A mark that must stand there. -/
theorem ah.must {β : Type} {ts : List S37} {q p d : Nat} {sB : β → Nat} {G : Nat → Int × Bool → Option (β × Int × Bool)} {f : Unit → Ps β} (w : ByteArray) (wl : List UInt8) (hwl : w.toList = wl) (hw : wl ≠ []) (hp : p ≤ ts.length) (hts : ts.length ≤ 40000) (hq : q ≤ p)
 (hok : p + 1 ≤ ts.length → ah ts q d sB (fun k => G k (((p + 1 : Nat) : Int), false)) (f () (ts.drop (p + 1))))
 (hbad : ∃ y, sB y ≤ 2 * (p - q) + d ∧ af (fun k => G k ((p : Int), true)) (y, (p : Int), true)) :
 ah ts q d sB (fun k => (bg.f ts (p : Int) false w).bind (G k)) (bnd (Par.must wl) f (ts.drop p)) := by
 subst hwl
 rw [IP ts p (by omega) w hw]
 unfold bnd Par.must
 by_cases c : wd (ts.drop p) = w.toList
 ·rw [if_pos c, if_pos c]
  obtain ⟨t, r, e⟩ := sO (l := ts.drop p) (by rw [c]; exact hw)
  obtain ⟨h1, _, h3⟩ := mr ts p t r e
  have := hok (by omega)
  rw [h3] at this
  rw [e]
  exact this
 rw [if_neg c, if_neg c]
 obtain ⟨y, h1, h2⟩ := hbad
 exact ⟨y, p, hq, hp, rfl, h1, h2⟩
/-- A token of a kind that must stand there. -/
theorem ah.need {β : Type} {ts : List S37} {q p d : Nat} {sB : β → Nat} {G : Nat → Int × ByteArray × Int × Int × Int × Bool → Option (β × Int × Bool)} {f : S37 → Ps β} (kd : Int) (hp : p ≤ ts.length) (hts : ts.length ≤ 40000) (hq : q ≤ p)
 (hok : ∀ t : S37, p + 1 ≤ ts.length → t.f0 = kd → ah ts q d sB (fun k => G k (t.f0, t.f1, t.f2, t.f3, ((p + 1 : Nat) : Int), false)) (f t (ts.drop (p + 1))))
 (hbad : ∃ y, sB y ≤ 2 * (p - q) + d ∧ af (fun k => G k (0, E, 0, 0, (p : Int), true)) (y, (p : Int), true)) :
 ah ts q d sB (fun k => (dO.f ts (p : Int) false kd).bind (G k)) (bnd (Par.need kd) f (ts.drop p)) := by
 obtain ⟨y, h1, h2⟩ := hbad
 cases e : ts.drop p with
 | nil =>
  rw [Gg ts p kd e]
  exact ⟨y, p, hq, hp, e, h1, h2⟩
 | cons t r =>
  rw [Ew ts p (by omega) kd t r e]
  unfold bnd Par.need
  by_cases c : t.f0 = kd
  ·simp only [if_pos c]
   obtain ⟨g1, _, g3⟩ := mr ts p t r e
   have := hok t (by omega) c
   rw [g3] at this
   exact this
  simp only [if_neg c]
  exact ⟨y, p, hq, hp, e, h1, h2⟩
theorem fO (w : ByteArray) (wl : List UInt8) (h : L w = wl) : w.toList = wl := by rw [iM]; exact h
/-- A word that was looked at is passed. -/
theorem ah.tk {β : Type} {ts : List S37} {q p d : Nat} {sB : β → Nat} {G : Nat → Bool × Int × Bool → Option (β × Int × Bool)} {f : Unit → Ps β} (w : ByteArray) (hw : w.toList ≠ []) (hwd : wd (ts.drop p) = w.toList) (hts : ts.length ≤ 40000)
 (hok : p + 1 ≤ ts.length → ah ts q d sB (fun k => G k (true, ((p + 1 : Nat) : Int), false)) (f () (ts.drop (p + 1)))) :
 ah ts q d sB (fun k => (bn.f ts (p : Int) false w).bind (G k)) (bnd Par.tk f (ts.drop p)) := by
 obtain ⟨t, r, e⟩ := sO (l := ts.drop p) (by rw [hwd]; exact hw)
 obtain ⟨h1, _, h3⟩ := mr ts p t r e
 rw [yU ts p (by omega) w hw, if_pos hwd]
 have := hok (by omega)
 rw [h3] at this
 rw [e]
 exact this
theorem ah.done {α : Type} {ts : List S37} {q p d : Nat} {sz : α → Nat} {F : Nat → Option (α × Int × Bool)} (x : α) (hq : q ≤ p) (hp : p ≤ ts.length) (hs : sz x ≤ 2 * (p - q)) (h : af F (x, (p : Int), false)) : ah ts q d sz F (.ok (x, ts.drop p)) := ⟨p, hq, hp, rfl, hs, h⟩
end Go.Proofs.YtkbhkonenkgfoaaGreat.Par
end
section
set_option linter.unusedVariables false
set_option linter.unusedSimpArgs false
namespace Go.Proofs.YtkbhkonenkgfoaaGreat.Par
open Go Go.RowKit Go.Proofs.YtkbhkonenkgfoaaGreatW.PrintWords Go.Proofs.YtkbhkonenkgfoaaGreat.Q Go.Proofs.YtkbhkonenkgfoaaGreat.Lex Go.Proofs.YtkbhkonenkgfoaaGreat.Tree
variable {ts : List S37} {q : Int}
theorem jS (w : ByteArray) (wl : List UInt8) (hwl : L w = wl) (hw : wl ≠ []) : bg.f ts q true w = some (q, true) := Gi ts q w (by rw [fO w wl hwl]; exact hw)
theorem noE (w : List UInt8) (hw : w ≠ []) : ¬ E.toList = w := fun h => hw (h.symm.trans BD)
theorem dZ (k : Int) (nm : ByteArray) (n : Int) (tx : ByteArray) (kids : List (List S29)) : (nd k nm n tx kids).length = kids.flatten.length + 1 := by simp [nd]
theorem jJ {α : Type} {k0 : Int} {nm : ByteArray} {n : Int} {tx : ByteArray} {z : Int} {kids : List (List S29)} {G : Nat → List S29 → Option α} {v : α} (hk : kids.length ≤ 1000000) (hs : kids.flatten.length ≤ 100000000) (h : af (fun k => G k (nd k0 nm n tx kids)) v) :
 af (fun k => (aZ.f k k0 z nm n tx kids).bind (G k)) v := af.bind (wW k0 nm n tx z kids hk hs) h
variable {FF : Nat → Fam}
theorem E8 : af (fun k => iJ.f (FF k) k ts q true) (([] : List (List S29)), q, true) := by
 refine af.congr (fun k => by unfold iJ.f; rw [jS _ [40] rfl (by simp)]) ?_
 simp only [Option.bind_some]
 refine af.step (fun k => by rw [iJ.l0]) ?_
 refine af.pos rfl ?_
 refine af.step (fun k => by rw [iJ.j1]) ?_
 refine af.neg (by simp) ?_
 rw [jS _ [41] rfl (by simp)]
 exact af.now
theorem E5 : af (fun k => gW.f k ts q true) (([] : List (List S29)), q, true) := by
 refine af.congr (fun k => by unfold gW.f; rw [jS _ [40] rfl (by simp)]) ?_
 simp only [Option.bind_some]
 refine af.step (fun k => by rw [gW.l0]) ?_
 refine af.pos rfl ?_
 refine af.step (fun k => by rw [gW.j1]) ?_
 refine af.neg (by simp) ?_
 rw [jS _ [41] rfl (by simp)]
 exact af.now
theorem Gs : af (fun k => gq.f (FF k) k ts q true) (([] : List S29), q, true) := by
 refine af.jR fun k => ?_
 unfold gq.f
 rw [FZ]; rfl
theorem uO : af (fun k => bW.f (FF k) k ts q true) (nd 5 E 0 E [], q, true) := by
 refine af.congr (fun k => by unfold bW.f; rw [jS _ [123] rfl (by simp)]) ?_
 simp only [Option.bind_some]
 refine af.step (fun k => by rw [bW.l0]) ?_
 refine af.pos rfl ?_
 rw [jS _ [125] rfl (by simp)]
 exact jJ (by simp) (by simp) af.now
theorem zu (k0 : Int) (nm : ByteArray) : af (fun k => dD.f (FF k) k ts q true k0 0 nm 0 E) (nd k0 nm 0 E [nd 5 E 0 E []], q, true) := by
 unfold dD.f
 refine af.bind E5 (af.bind uO (af.pos (by simp) ?_))
 exact jJ (by simp) (by simp [nd]) af.now
theorem FN : af (fun k => fQ.f (FF k) k ts q true) (([] : List S29), q, true) := by
 refine af.congr (fun k => by unfold fQ.f; rw [vX]) ?_
 simp only [Option.bind_some]
 exact af.neg (noE _ (by simp)) (af.neg (noE _ (by simp)) (af.neg (noE _ (by simp)) (af.neg (noE _ (by simp)) (af.neg (noE _ (by simp)) (af.bind Gs af.now)))))
theorem qA (e : List S29) : af (fun k => aW.l0 (FF k) k e ts q true) (e, q, true) := by
 refine af.step (fun k => by rw [aW.l0]) ?_
 exact af.pos rfl af.now
theorem ww : af (fun k => aW.f (FF k) k ts q true) (([] : List S29), q, true) := by
 refine af.congr (fun k => by unfold aW.f; rw [vX]) ?_
 simp only [Option.bind_some]
 refine af.neg (noE _ (by simp)) (af.neg (noE _ (by simp)) ?_)
 refine af.step (fun k => by rw [aW.j0]) ?_
 refine af.neg (by rw [beq_iff_eq]; exact noE _ (by simp)) (af.neg (noE _ (by simp)) ?_)
 exact af.bind FN (qA [])
/-- What the family's functions come to behind a fault. -/
structure OkB (FF : Nat → Fam) : Prop where
 expr : ∀ (ts : List S37) (q : Int), af (fun k => (FF k).expr ts q true) (([] : List S29), q, true)
 block : ∀ (ts : List S37) (q : Int), af (fun k => (FF k).block ts q true) (nd 5 E 0 E [], q, true)
 bound : ∀ (ts : List S37) (q : Int) (a : Int), 1 ≤ a → a ≤ 6 → af (fun k => (FF k).bound ts q true a) (([] : List S29), q, true)
 unary : ∀ (ts : List S37) (q : Int), af (fun k => (FF k).unary ts q true) (([] : List S29), q, true)
theorem af.shift {α : Type} {F : Nat → Option α} {v : α} (h : af F v) : af (fun k => F (k + 1)) v := by
 obtain ⟨n, hn⟩ := h
 exact ⟨n, fun j hj => hn (j + 1) (by omega)⟩
theorem OkB.shift {FF : Nat → Fam} (h : OkB FF) : OkB (fun k => FF (k + 1)) :=
 ⟨fun ts q => af.shift (h.expr ts q), fun ts q => af.shift (h.block ts q), fun ts q a h1 h2 => af.shift (h.bound ts q a h1 h2), fun ts q => af.shift (h.unary ts q)⟩
theorem sD (a : Int) (e : List S29) : af (fun k => bM.l0 (FF k) k a e ts q true) (e, q, true) := by
 refine af.step (fun k => by rw [bM.l0]) ?_
 exact af.pos rfl af.now
theorem CJ : af (fun k => bM.f (FF k) k ts q true 6) (([] : List S29), q, true) := by
 unfold bM.f
 exact af.pos rfl (af.bind ww af.now)
theorem og (a : Int) (h1 : 1 ≤ a) (h2 : a ≤ 5) (h : af (fun k => (FF k).bound ts q true (a + 1)) (([] : List S29), q, true)) : af (fun k => bM.f (FF k) k ts q true a) (([] : List S29), q, true) := by
 unfold bM.f
 rw [w64 (n := a + 1) (by omega) (by omega)]
 exact af.neg (by omega) (af.bind h (sD a []))
theorem nV (ts : List S37) (q : Int) (a : Int) (b : Bool) (v : List S29 × Int × Bool) (h : af (fun k => bM.f (fam k) k ts q b a) v) : af (fun k => (fam k).bound ts q b a) v := af.step (fun k => rfl) h
theorem tY : OkB fam := by
 have b6 : ∀ ts q, af (fun k => (fam k).bound ts q true 6) (([] : List S29), q, true) := fun ts q => nV ts q 6 true _ CJ
 have b5 : ∀ ts q, af (fun k => (fam k).bound ts q true 5) (([] : List S29), q, true) := fun ts q => nV ts q 5 true _ (og 5 (by omega) (by omega) (b6 ts q))
 have b4 : ∀ ts q, af (fun k => (fam k).bound ts q true 4) (([] : List S29), q, true) := fun ts q => nV ts q 4 true _ (og 4 (by omega) (by omega) (b5 ts q))
 have b3 : ∀ ts q, af (fun k => (fam k).bound ts q true 3) (([] : List S29), q, true) := fun ts q => nV ts q 3 true _ (og 3 (by omega) (by omega) (b4 ts q))
 have b2 : ∀ ts q, af (fun k => (fam k).bound ts q true 2) (([] : List S29), q, true) := fun ts q => nV ts q 2 true _ (og 2 (by omega) (by omega) (b3 ts q))
 refine ⟨fun ts q => af.step (fun k => rfl) ?_, fun ts q => af.step (fun k => rfl) uO, fun ts q a h1 h2 => ?_, fun ts q => af.step (fun k => rfl) ww⟩
 ·show af (fun k => fP.f (fam k) k ts q true) _
  unfold fP.f
  exact af.bind (og 1 (by omega) (by omega) (b2 ts q)) af.now
 rcases (show a = 1 ∨ a = 2 ∨ a = 3 ∨ a = 4 ∨ a = 5 ∨ a = 6 by omega) with rfl | rfl | rfl | rfl | rfl | rfl
 ·exact nV ts q 1 true _ (og 1 (by omega) (by omega) (b2 ts q))
 ·exact b2 ts q
 ·exact b3 ts q
 ·exact b4 ts q
 ·exact b5 ts q
 exact b6 ts q
theorem su (H : OkB FF) (k0 : Int) (nm : ByteArray) : af (fun k => dU.f (FF k) k ts q true k0 0 nm 0 E) (nd k0 nm 0 E [[]], q, true) := by
 unfold dU.f
 refine af.bind (H.expr ts q) ?_
 rw [jS _ [59] rfl (by simp)]
 exact jJ (by simp) (by simp) af.now
theorem Ep : af (fun k => fH.f k ts q true) (nd 4 E 0 E [], q, true) := by
 unfold fH.f
 rw [mF]
 exact jJ (by simp) (by simp) af.now
end Go.Proofs.YtkbhkonenkgfoaaGreat.Par
end
section
set_option linter.unusedVariables false
set_option linter.unusedSimpArgs false
namespace Go.Proofs.YtkbhkonenkgfoaaGreat.Par
open Go Go.RowKit Go.Proofs.YtkbhkonenkgfoaaGreatW.PrintWords Go.Proofs.YtkbhkonenkgfoaaGreat.Q Go.Proofs.YtkbhkonenkgfoaaGreat.Lex Go.Proofs.YtkbhkonenkgfoaaGreat.Tree
def sz (e : List S29) : Nat := e.length + 1
/-- What the family's functions tell. -/
structure Ih (S : PF) (FF : Nat → Fam) : Prop where
 expr : ∀ (ts : List S37) (q : Nat), ts.length ≤ 40000 → q ≤ ts.length → ah ts q 2 sz (fun k => (FF k).expr ts (q : Int) false) (S.expr (ts.drop q))
 block : ∀ (ts : List S37) (q : Nat), ts.length ≤ 40000 → q ≤ ts.length → ah ts q 2 sz (fun k => (FF k).block ts (q : Int) false) (S.block (ts.drop q))
 bound : ∀ (a : Int), 1 ≤ a → a ≤ 6 → ∀ (ts : List S37) (q : Nat), ts.length ≤ 40000 → q ≤ ts.length → ah ts q 2 sz (fun k => (FF k).bound ts (q : Int) false a) (S.bound a (ts.drop q))
 unary : ∀ (ts : List S37) (q : Nat), ts.length ≤ 40000 → q ≤ ts.length → ah ts q 2 sz (fun k => (FF k).unary ts (q : Int) false) (S.unary (ts.drop q))
theorem ah.shift {α : Type} {ts : List S37} {q c : Nat} {sA : α → Nat} {F : Nat → Option (α × Int × Bool)} {P : R α} (h : ah ts q c sA F P) : ah ts q c sA (fun k => F (k + 1)) P := by
 match P, h with
 | .ok (x, r), ⟨p, h1, h2, h3, h4, h5⟩ => exact ⟨p, h1, h2, h3, h4, af.shift h5⟩
 | .error (some r), ⟨x, p, h1, h2, h3, h4, h5⟩ => exact ⟨x, p, h1, h2, h3, h4, af.shift h5⟩
 | .error none, _ => trivial
theorem Ih.shift {S : PF} {FF : Nat → Fam} (h : Ih S FF) : Ih S (fun k => FF (k + 1)) :=
 ⟨fun ts q a b => ah.shift (h.expr ts q a b), fun ts q a b => ah.shift (h.block ts q a b), fun a h1 h2 ts q b c => ah.shift (h.bound a h1 h2 ts q b c), fun ts q a b => ah.shift (h.unary ts q a b)⟩
/-- From a later place on: told from an earlier one. -/
theorem ah.from' {α : Type} {ts : List S37} {q q0 c d : Nat} {sA : α → Nat} {F : Nat → Option (α × Int × Bool)} {P : R α} (h : ah ts q c sA F P) (h1 : q0 ≤ q) (h2 : c ≤ 2 * (q - q0) + d) : ah ts q0 d sA F P := by
 match P, h with
 | .ok (x, r), ⟨p, g1, g2, g3, g4, g5⟩ => exact ⟨p, by omega, g2, g3, by omega, g5⟩
 | .error (some r), ⟨x, p, g1, g2, g3, g4, g5⟩ => exact ⟨x, p, by omega, g2, g3, by omega, g5⟩
 | .error none, _ => trivial
/-- Something is found out first. -/
theorem ah.evB {α β : Type} {ts : List S37} {q c : Nat} {sz : β → Nat} {F : Nat → Option α} {G : Nat → α → Option (β × Int × Bool)} {v : α} {P : R β} (h : af F v) (g : ah ts q c sz (fun k => G k v) P) : ah ts q c sz (fun k => (F k).bind (G k)) P := by
 match P, g with
 | .ok (x, r), ⟨p, h1, h2, h3, h4, h5⟩ => exact ⟨p, h1, h2, h3, h4, af.bind h h5⟩
 | .error (some r), ⟨x, p, h1, h2, h3, h4, h5⟩ => exact ⟨x, p, h1, h2, h3, h4, af.bind h h5⟩
 | .error none, _ => trivial
/-- A node that is made at the end. -/
theorem ah.node {ts : List S37} {q p d : Nat} {k0 : Int} {nm : ByteArray} {n : Int} {tx : ByteArray} {z : Int} {kids : List (List S29)} (hq : q ≤ p) (hp : p ≤ ts.length) (hts : ts.length ≤ 40000) (hk : kids.length ≤ 1000000) (hs : kids.flatten.length + 2 ≤ 2 * (p - q)) :
 ah ts q d sz (fun k => (aZ.f k k0 z nm n tx kids).bind fun t => some (t, (p : Int), false)) (ret (nd k0 nm n tx kids) (ts.drop p)) :=
 ah.done _ hq hp (by unfold sz; rw [dZ]; omega) (jJ hk (by omega) af.now)
/-- A node that is made behind a fault. -/
theorem ah.yu {q p d : Nat} {k0 : Int} {nm : ByteArray} {n : Int} {tx : ByteArray} {z : Int} {kids : List (List S29)} (hk : kids.length ≤ 1000000) (hs : kids.flatten.length + 2 ≤ 2 * (p - q) + d) (hb : p ≤ 100000) (hd : d ≤ 1000) :
 ∃ y, sz y ≤ 2 * (p - q) + d ∧ af (fun k => (aZ.f k k0 z nm n tx kids).bind fun t => some (t, (p : Int), true)) (y, (p : Int), true) :=
 ⟨nd k0 nm n tx kids, by unfold sz; rw [dZ]; omega, jJ hk (by omega) af.now⟩
theorem jG (e : List S29) : ([e] : List (List S29)).flatten.length = e.length := by simp
theorem ji (a b : List S29) : ([a, b] : List (List S29)).flatten.length = a.length + b.length := by simp
theorem flat3 (a b c : List S29) : ([a, b, c] : List (List S29)).flatten.length = a.length + (b.length + c.length) := by simp
theorem iG (l : List (List S29)) (e : List S29) : (l ++ [e]).flatten.length = l.flatten.length + e.length := by simp
variable {ts : List S37} {S : PF} {FF : Nat → Fam}
theorem xE (hts : ts.length ≤ 40000) (I : Ih S FF) (H : OkB FF) (k0 : Int) (nm : ByteArray) (q : Nat) (hq : q ≤ ts.length) :
 ah ts q 3 sz (fun k => dU.f (FF k) k ts (q : Int) false k0 0 nm 0 E) (lS S k0 nm (ts.drop q)) := by
 unfold dU.f lS
 refine ah.bind (I.expr ts q hts hq) (fun e p h1 h2 h3 => ?_) (fun e p h1 h2 h3 => ?_)
 ·unfold sz at h3
  dsimp only
  refine ah.must ⟨#[59]⟩ [59] (fO _ _ rfl) (by simp) h2 hts h1 (fun h4 => ?_) ?_
  ·dsimp only
   exact ah.node (by omega) h4 hts (by simp) (by rw [jG]; omega)
  dsimp only
  exact ah.yu (by simp) (by rw [jG]; omega) (by omega) (by omega)
 unfold sz at h3
 obtain ⟨y, g1, g2⟩ := ah.yu (q := q) (p := p) (d := 3) (k0 := k0) (nm := nm) (n := 0) (tx := E) (z := 0) (kids := [e]) (by simp) (by rw [jG]; omega) (by omega) (by omega)
 refine ⟨y, h1, g1, ?_⟩
 dsimp only
 rw [jS _ [59] rfl (by simp)]
 exact g2
theorem GR (hts : ts.length ≤ 40000) (k0 : Int) (q q0 : Nat) (hq : q ≤ ts.length) (h0 : q0 < q) : ah ts q0 3 sz (fun k => fV.f k ts (q : Int) false k0) (uz k0 (ts.drop q)) := by
 unfold fV.f uz
 refine ah.must ⟨#[59]⟩ [59] (fO _ _ rfl) (by simp) hq hts (by omega) (fun h4 => ?_) ?_
 ·dsimp only
  exact ah.node (by omega) h4 hts (by simp) Z12
 dsimp only
 exact ah.yu (by simp) Z12 (by omega) (by omega)
theorem zZ (e : List S29) (a b : List S29) (h : uh e = some (a, b)) : a.length + b.length + 1 ≤ e.length := by
 unfold uh qF at h
 by_cases c : kC e 0 < 0
 ·rw [if_pos c] at h; cases h
 rw [if_neg c] at h
 have hne : 1 ≤ e.length := by
  obtain ⟨j, m, _, _, _, h1, h2⟩ := nX c
  omega
 have key : ∀ w, (match its e w (0 + 1) with | a :: b :: _ => some (pO e a, pO e b) | _ => none) = some (a, b) → a.length + b.length + 1 ≤ e.length := by
  intro w hw
  match w, hw with
  | 0, hw => cases hw
  | 1, hw => cases hw
  | w + 2, hw =>
   simp only [its] at hw
   obtain ⟨rfl, rfl⟩ := Prod.mk.inj (Option.some.inj hw)
   unfold pO
   by_cases c1 : kC e (0 + 1) < 0
   ·rw [if_pos c1, EG c1, if_pos (show kC e (-1) < 0 by unfold kC; rw [if_pos (by omega)]; omega)]
    simp; omega
   rw [if_neg c1]
   obtain ⟨j, m, hj, _, hE, h1, h2⟩ := nX c1
   rw [hE]
   by_cases c2 : kC e ((j + m : Nat) : Int) < 0
   ·rw [if_pos c2]
    rw [List.length_drop, List.length_take]; simp; omega
   rw [if_neg c2]
   obtain ⟨j2, m2, hj2, _, hE2, g1, g2⟩ := nX c2
   rw [hE2, List.length_drop, List.length_take, List.length_drop, List.length_take]
   omega
 exact key _ h
theorem AQ (e : List S29) (a b : List S29) (h : uh e = some (a, b)) : ∃ x y l, qF e 0 = x :: y :: l ∧ pO e x = a ∧ pO e y = b := by
 unfold uh at h
 match hk : qF e 0, h with
 | x :: y :: l, h =>
  obtain ⟨h1, h2⟩ := Prod.mk.inj (Option.some.inj h)
  exact ⟨x, y, l, rfl, h1, h2⟩
theorem rd0 (x y : Int) (l : List Int) : rd (x :: y :: l) 0 = x := rfl
theorem rd1 (x y : Int) (l : List Int) : rd (x :: y :: l) 1 = y := rfl
theorem FP (hts : ts.length ≤ 40000) (I : Ih S FF) (H : OkB FF) (e : List S29) (b : Bool) (q p : Nat) (h1 : q ≤ p) (hp : p ≤ ts.length) (h3 : e.length + 1 ≤ 2 * (p - q)) (hb : b = decide (wd (ts.drop p) ≠ [61])) :
 ah ts q 3 sz (fun k => dA.j0 (FF k) k e b ts (p : Int) false) (uF S e (ts.drop p)) := by
 unfold uF
 refine ah.step (fun k => by rw [dA.j0]) ?_
 by_cases c : wd (ts.drop p) ≠ [61]
 ·rw [if_pos c]
  refine ah.pos Z32 ?_
  refine ah.must ⟨#[59]⟩ [59] (fO _ _ rfl) (by simp) hp hts h1 (fun h4 => ?_) ?_
  ·dsimp only
   exact ah.node (by omega) h4 hts (by simp) (by rw [jG]; omega)
  dsimp only
  exact ah.yu (by simp) (by rw [jG]; omega) (by omega) (by omega)
 rw [if_neg c]
 refine ah.neg (by rw [hb]; simpa using c) ?_
 cases e with
 | nil => trivial
 | cons x t =>
  have hr : ax (x :: t) 0 = x := rfl
  refine ah.pos Z36 ?_
  simp only [hr]
  simp only [List.length_cons] at h3
  by_cases c1 : x.f0 = 21
  ·simp only [if_pos c1]
   refine ah.must ⟨#[61]⟩ [61] (fO _ _ rfl) (by simp) hp hts h1 (fun h4 => ?_) ?_
   ·refine ah.congr (G := fun k => dU.f (FF (k + 1)) k ts ((p + 1 : Nat) : Int) false 7 0 x.f2 0 E) (fun k => ?_) ?_
    ·show (dU.f _ _ _ _ _ _ _ _ _ E).bind _ = _
     cases dU.f (FF (k + 1)) k ts ((p + 1 : Nat) : Int) false 7 0 x.f2 0 E <;> rfl
    exact ah.from' (xE hts I.shift H.shift 7 x.f2 (p + 1) h4) (by omega) (by omega)
   refine ⟨nd 7 x.f2 0 E [[]], by unfold sz; rw [dZ, jG, List.length_nil]; omega, af.bind (su H.shift 7 x.f2) af.now⟩
  simp only [if_neg c1]
  by_cases c2 : x.f0 = 26
  ·simp only [if_pos c2]
   unfold yX
   match hk : uh (x :: t) with
   | none => trivial
   | some (a, b') =>
    have hs := zZ _ _ _ hk
    obtain ⟨k0, k1, kl, e1, e2, e3⟩ := AQ _ _ _ hk
    simp only [List.length_cons] at hs
    have hlen : (x :: t).length ≤ 100000 := by simp only [List.length_cons]; omega
    have hKK := Lh (x :: t) hlen 0
    rw [e1] at hKK
    have hS0 := JB (x :: t) hlen k0
    have hS1 := JB (x :: t) hlen k1
    rw [e2] at hS0
    rw [e3] at hS1
    have hl0 : (0 : Int) < ((k0 :: k1 :: kl).length : Int) := by simp only [List.length_cons]; omega
    have hl1 : (1 : Int) < ((k0 :: k1 :: kl).length : Int) := by simp only [List.length_cons]; omega
    have tailE : ∀ (v : List S29) (p2 : Nat) (bb : Bool) (z : List S29 × Int × Bool), af (fun k => (aZ.f k 8 0 E 0 E [a, b', v]).bind fun t => some (t, (p2 : Int), bb)) z →
     af (fun k => (if 0 < ((k0 :: k1 :: kl).length : Int) then ((jy.f k (x :: t) (rd (k0 :: k1 :: kl) 0)).bind fun t338 => (if 1 < ((k0 :: k1 :: kl).length : Int) then ((jy.f k (x :: t) (rd (k0 :: k1 :: kl) 1)).bind fun t342 => ((aZ.f k 8 0 E 0 E (([t338, t342, v] : List (List S29)))).bind fun t348 => (some (t348, (p2 : Int), bb)))) else (none))) else (none))) z := by
     intro v p2 bb z hz
     refine af.pos hl0 ?_
     rw [rd0]
     refine af.bind hS0 (af.pos hl1 ?_)
     rw [rd1]
     exact af.bind hS1 hz
    refine ah.must ⟨#[61]⟩ [61] (fO _ _ rfl) (by simp) hp hts h1 (fun h4 => ?_) ?_
    ·dsimp only
     refine ah.evB hKK ?_
     refine ah.bind (I.shift.expr ts (p + 1) hts h4) (fun v p2 g1 g2 g3 => ?_) (fun v p2 g1 g2 g3 => ?_)
     ·unfold sz at g3
      dsimp only
      refine ah.must ⟨#[59]⟩ [59] (fO _ _ rfl) (by simp) g2 hts (by omega) (fun h5 => ?_) ?_
      ·dsimp only
       refine ah.done _ (by omega) h5 ?_ (tailE _ _ _ _ (jJ (by simp) (by rw [flat3]; omega) af.now))
       unfold sz; rw [dZ, flat3]; omega
      dsimp only
      refine ⟨_, ?_, tailE _ _ _ _ (jJ (by simp) (by rw [flat3]; omega) af.now)⟩
      unfold sz; rw [dZ, flat3]; omega
     unfold sz at g3
     dsimp only
     refine ⟨nd 8 E 0 E [a, b', v], by omega, ?_, ?_⟩
     ·unfold sz; rw [dZ, flat3]; omega
     rw [jS _ [59] rfl (by simp)]
     exact tailE _ _ _ _ (jJ (by simp) (by rw [flat3]; omega) af.now)
    dsimp only
    refine ⟨nd 8 E 0 E [a, b', []], ?_, ?_⟩
    ·unfold sz; rw [dZ, flat3, List.length_nil]; omega
    refine af.bind hKK (af.bind (H.shift.expr ts _) ?_)
    dsimp only
    rw [jS _ [59] rfl (by simp)]
    exact tailE _ _ _ _ (jJ (by simp) (by rw [flat3, List.length_nil]; omega) af.now)
  simp only [if_neg c2]
  exact ⟨[], p, h1, hp, rfl, by unfold sz; simp only [List.length_nil]; omega, af.now⟩
end Go.Proofs.YtkbhkonenkgfoaaGreat.Par
end
section
set_option linter.unusedVariables false
set_option linter.unusedSimpArgs false
namespace Go.Proofs.YtkbhkonenkgfoaaGreat.Par
open Go Go.RowKit Go.Proofs.YtkbhkonenkgfoaaGreatW.PrintWords Go.Proofs.YtkbhkonenkgfoaaGreat.Q Go.Proofs.YtkbhkonenkgfoaaGreat.Lex Go.Proofs.YtkbhkonenkgfoaaGreat.Tree
variable {ts : List S37} {S : PF} {FF : Nat → Fam}
theorem Gf (a b : List UInt8) : (a != b) = decide (a ≠ b) := by by_cases h : a = b <;> simp [h]
theorem eqb (a b : List UInt8) : (a == b) = decide (a = b) := by by_cases h : a = b <;> simp [h]
theorem ah.ite {α : Type} {q d : Nat} {sA : α → Nat} {F G : Nat → Option (α × Int × Bool)} {P1 P2 : R α} {c : Prop} [Decidable c] (h1 : c → ah ts q d sA F P1) (h2 : ¬c → ah ts q d sA G P2) :
 ah ts q d sA (fun k => if c then F k else G k) (if c then P1 else P2) := by
 by_cases h : c
 ·rw [if_pos h]; exact ah.pos h (h1 h)
 rw [if_neg h]; exact ah.neg h (h2 h)
theorem ah.idb {α : Type} {q d : Nat} {sA : α → Nat} {F : Nat → Option (α × Int × Bool)} {P : R α} (h : ah ts q d sA F P) : ah ts q d sA (fun k => (F k).bind fun b => some (b.1, b.2.1, b.2.2)) P :=
 ah.congr (fun k => by cases F k <;> rfl) h
theorem ah.tkw {β : Type} {q p d : Nat} {sB : β → Nat} {G : Nat → Bool × Int × Bool → Option (β × Int × Bool)} {f : Unit → Ps β} (wl : List UInt8) (hc : (wB (ts.drop p)).toList = wl) (hw : wl ≠ []) (hts : ts.length ≤ 40000)
 (hok : p + 1 ≤ ts.length → ah ts q d sB (fun k => G k (true, ((p + 1 : Nat) : Int), false)) (f () (ts.drop (p + 1)))) :
 ah ts q d sB (fun k => (bn.f ts (p : Int) false (wB (ts.drop p))).bind (G k)) (bnd Par.tk f (ts.drop p)) := ah.tk (wB (ts.drop p)) (by rw [hc]; exact hw) rfl hts hok
theorem ah.yV {β : Type} {q p d : Nat} {sB : β → Nat} {G : Nat → Bool × Int × Bool → Option (β × Int × Bool)} {f : Unit → Ps β} {P2 : R β} (w : ByteArray) (wl : List UInt8) (hwl : w.toList = wl) (hw : wl ≠ []) (hp : p ≤ ts.length) (hts : ts.length ≤ 40000)
 (hok : p + 1 ≤ ts.length → ah ts q d sB (fun k => G k (true, ((p + 1 : Nat) : Int), false)) (f () (ts.drop (p + 1)))) (hno : wd (ts.drop p) ≠ wl → ah ts q d sB (fun k => G k (false, (p : Int), false)) P2) :
 ah ts q d sB (fun k => (bn.f ts (p : Int) false w).bind (G k)) (if wd (ts.drop p) = wl then (bnd Par.tk f) (ts.drop p) else P2) := by
 by_cases c : wd (ts.drop p) = wl
 ·rw [if_pos c]
  exact ah.tk w (by rw [hwl]; exact hw) (by rw [hwl]; exact c) hts hok
 rw [if_neg c, yU ts p (by omega) w (by rw [hwl]; exact hw), if_neg (by rw [hwl]; exact c)]
 exact hno c
theorem takeB {q : Int} (w : ByteArray) (wl : List UInt8) (hwl : L w = wl) (hw : wl ≠ []) : bn.f ts q true w = some (false, q, true) := zX ts q w (by rw [fO w wl hwl]; exact hw)
theorem IE (hts : ts.length ≤ 40000) (I : Ih S FF) (H : OkB FF) (q : Nat) (hq : q ≤ ts.length) :
 ah ts q 3 sz (fun k => dA.f (FF k) k ts (q : Int) false) (wP S (ts.drop q)) := by
 unfold dA.f wP
 refine ah.bind (I.expr ts q hts hq) (fun e p h1 h2 h3 => ?_) (fun e p h1 h2 h3 => ?_)
 ·unfold sz at h3
  dsimp only
  refine ah.neg (by simp) ?_
  rw [nz]
  simp only [Option.bind_some]
  exact FP hts I H e _ q p h1 h2 h3 (Gf _ _)
 unfold sz at h3
 dsimp only
 refine ⟨nd 17 E 0 E [e], h1, by unfold sz; rw [dZ, jG]; omega, af.pos rfl ?_⟩
 refine af.step (fun k => by rw [dA.j0]) ?_
 refine af.pos rfl ?_
 rw [jS _ [59] rfl (by simp)]
 exact jJ (by simp) (by rw [jG]; omega) af.now
theorem LD (hts : ts.length ≤ 40000) (I : Ih S FF) (H : OkB FF) (q : Nat) (hq : q ≤ ts.length) (hw : (wB (ts.drop q)).toList = [108, 101, 116]) :
 ah ts q 3 sz (fun k => (bn.f ts (q : Int) false (wB (ts.drop q))).bind fun bt354 => ((dO.f ts bt354.2.1 bt354.2.2 1).bind fun bt357 => ((bg.f ts bt357.2.2.2.2.1 bt357.2.2.2.2.2 (⟨#[61]⟩ : ByteArray)).bind fun bt363 => ((dU.f (FF k) k ts bt363.1 bt363.2 6 0 bt357.2.1 0 E).bind fun bt365 => some (bt365.1, bt365.2.1, bt365.2.2)))))
  ((bnd Par.tk fun _ => bnd (Par.need 1) fun t => bnd (Par.must [61]) fun _ => lS S 6 t.f1) (ts.drop q)) := by
 refine ah.tkw _ hw (by simp) hts (fun h1 => ?_)
 refine ah.need 1 h1 hts (by omega) (fun t h2 _ => ?_) ?_
 ·refine ah.must ⟨#[61]⟩ [61] (fO _ _ rfl) (by simp) h2 hts (by omega) (fun h3 => ?_) ?_
  ·exact ah.idb (ah.from' (xE hts I H 6 t.f1 (q + 1 + 1 + 1) h3) (by omega) (by omega))
  dsimp only
  exact ⟨nd 6 t.f1 0 E [[]], by unfold sz; rw [dZ, jG, List.length_nil]; omega, af.bind (su H 6 t.f1) af.now⟩
 dsimp only
 refine ⟨nd 6 E 0 E [[]], by unfold sz; rw [dZ, jG, List.length_nil]; omega, ?_⟩
 rw [jS _ [61] rfl (by simp)]
 simp only [Option.bind_some]
 exact af.bind (su H 6 E) af.now
theorem l9 : (nd 5 E 0 E []).length = 1 := rfl
theorem MQ (hts : ts.length ≤ 40000) (I : Ih S FF) (H : OkB FF) (q : Nat) (hq : q ≤ ts.length) (hw : (wB (ts.drop q)).toList = [105, 102]) :
 ah ts q 3 sz (fun k => (bn.f ts (q : Int) false (wB (ts.drop q))).bind fun bt370 => ((jV.f (FF k) k ts bt370.2.1 bt370.2.2).bind fun bt373 => ((some (([bt373.1] : List (List S29)) : List (List S29))).bind fun y378 => ((mg.f (FF k) k ts bt373.2.1 bt373.2.2).bind fun bt381 => (if y378.length < 5864062014805 then ((some (y378 ++ [bt381.1] : List (List S29))).bind fun y386 => ((bn.f ts bt381.2.1 bt381.2.2 (⟨#[101, 108, 115, 101]⟩ : ByteArray)).bind fun bt389 => (if bt389.1 = true then ((mg.f (FF k) k ts bt389.2.1 bt389.2.2).bind fun bt392 => (if y386.length < 5864062014805 then ((aZ.f k 9 0 E 0 E (y386 ++ [bt392.1])).bind fun t400 => (some (t400, bt392.2.1, bt392.2.2))) else (none))) else ((aZ.f k 9 0 E 0 E y386).bind fun t403 => (some (t403, bt389.2.1, bt389.2.2)))))) else (none))))))
  ((bnd Par.tk fun _ => bnd S.expr fun e => bnd S.block fun b => fun l2 => if wd l2 = [101, 108, 115, 101] then (bnd Par.tk fun _ => bnd S.block fun c => ret (nd 9 E 0 E [e, b, c])) l2 else .ok (nd 9 E 0 E [e, b], l2)) (ts.drop q)) := by
 refine ah.tkw _ hw (by simp) hts (fun h1 => ?_)
 dsimp only
 refine ah.bind (I.expr ts (q + 1) hts h1) (fun e p g1 g2 g3 => ?_) (fun e p g1 g2 g3 => ?_)
 ·unfold sz at g3
  dsimp only
  simp only [Option.bind_some]
  refine ah.bind (I.block ts p hts g2) (fun b p2 f1 f2 f3 => ?_) (fun b p2 f1 f2 f3 => ?_)
  ·unfold sz at f3
   dsimp only
   refine ah.pos (by simp) ?_
   simp only [List.cons_append, List.nil_append]
   refine ah.yV _ _ (fO _ _ rfl) (by simp) f2 hts (fun h3 => ?_) (fun hn => ?_)
   ·refine ah.pos rfl ?_
    dsimp only
    refine ah.bind (I.block ts (p2 + 1) hts h3) (fun c p3 e1 e2 e3 => ?_) (fun c p3 e1 e2 e3 => ?_)
    ·unfold sz at e3
     dsimp only
     refine ah.pos (by simp) ?_
     exact ah.node (kids := [e, b, c]) (by omega) e2 hts (by simp) (by rw [flat3]; omega)
    unfold sz at e3
    dsimp only
    refine ⟨nd 9 E 0 E [e, b, c], by omega, by unfold sz; rw [dZ, flat3]; omega, af.pos (by simp) ?_⟩
    exact jJ (kids := [e, b, c]) (by simp) (by rw [flat3]; omega) af.now
   refine ah.neg (by simp) ?_
   exact ah.node (kids := [e, b]) (by omega) f2 hts (by simp) (by rw [ji]; omega)
  unfold sz at f3
  dsimp only
  refine ⟨nd 9 E 0 E [e, b], by omega, by unfold sz; rw [dZ, ji]; omega, af.pos (by simp) ?_⟩
  rw [takeB _ [101, 108, 115, 101] rfl (by simp)]
  simp only [Option.bind_some, List.cons_append, List.nil_append]
  exact af.neg (by simp) (jJ (by simp) (by rw [ji]; omega) af.now)
 unfold sz at g3
 dsimp only
 simp only [Option.bind_some]
 refine ⟨nd 9 E 0 E [e, nd 5 E 0 E []], by omega, by unfold sz; rw [dZ, ji, l9]; omega, af.bind (H.block ts _) (af.pos (by simp) ?_)⟩
 dsimp only
 rw [takeB _ [101, 108, 115, 101] rfl (by simp)]
 simp only [Option.bind_some, List.cons_append, List.nil_append]
 exact af.neg (by simp) (jJ (by simp) (by rw [ji, l9]; omega) af.now)
theorem H8 (hts : ts.length ≤ 40000) (I : Ih S FF) (H : OkB FF) (q : Nat) (hq : q ≤ ts.length) (hw : (wB (ts.drop q)).toList = [119, 104, 105, 108, 101]) :
 ah ts q 3 sz (fun k => (bn.f ts (q : Int) false (wB (ts.drop q))).bind fun bt406 => ((jV.f (FF k) k ts bt406.2.1 bt406.2.2).bind fun bt409 => ((mg.f (FF k) k ts bt409.2.1 bt409.2.2).bind fun bt414 => ((aZ.f k 10 0 E 0 E (([bt409.1, bt414.1] : List (List S29)))).bind fun t422 => (some (t422, bt414.2.1, bt414.2.2))))))
  ((bnd Par.tk fun _ => bnd S.expr fun e => bnd S.block fun b => ret (nd 10 E 0 E [e, b])) (ts.drop q)) := by
 refine ah.tkw _ hw (by simp) hts (fun h1 => ?_)
 dsimp only
 refine ah.bind (I.expr ts (q + 1) hts h1) (fun e p g1 g2 g3 => ?_) (fun e p g1 g2 g3 => ?_)
 ·unfold sz at g3
  dsimp only
  refine ah.bind (I.block ts p hts g2) (fun b p2 f1 f2 f3 => ?_) (fun b p2 f1 f2 f3 => ?_)
  ·unfold sz at f3
   dsimp only
   exact ah.node (by omega) f2 hts (by simp) (by rw [ji]; omega)
  unfold sz at f3
  dsimp only
  exact ⟨nd 10 E 0 E [e, b], by omega, by unfold sz; rw [dZ, ji]; omega, jJ (by simp) (by rw [ji]; omega) af.now⟩
 unfold sz at g3
 dsimp only
 exact ⟨nd 10 E 0 E [e, nd 5 E 0 E []], by omega, by unfold sz; rw [dZ, ji, l9]; omega, af.bind (H.block ts _) (jJ (by simp) (by rw [ji, l9]; omega) af.now)⟩
theorem KO (hts : ts.length ≤ 40000) (wl : List UInt8) (hwl : wl ≠ []) (a k0 : Int) (ha : k0 = if a = 0 then 16 else a) (q : Nat) (hq : q ≤ ts.length) (hw : (wB (ts.drop q)).toList = wl) :
 ah ts q 3 sz (fun k => aX.j0 (FF k) k (wB (ts.drop q)) a ts (q : Int) false) ((bnd Par.tk fun _ => uz k0) (ts.drop q)) := by
 refine ah.step (fun k => by rw [aX.j0]) ?_
 by_cases c : a = 0
 ·rw [if_pos c] at ha
  subst ha
  exact ah.pos c (ah.tkw _ hw hwl hts (fun h1 => ah.idb (GR hts 16 (q + 1) q h1 (by omega))))
 rw [if_neg c] at ha
 subst ha
 exact ah.neg c (ah.tkw _ hw hwl hts (fun h1 => ah.idb (GR hts k0 (q + 1) q h1 (by omega))))
theorem KJ (hts : ts.length ≤ 40000) (I : Ih S FF) (H : OkB FF) (wl : List UInt8) (hwl : wl ≠ []) (a : Int) (ha : a ≠ 0) (q : Nat) (hq : q ≤ ts.length) (hw : (wB (ts.drop q)).toList = wl) :
 ah ts q 3 sz (fun k => aX.j1 (FF k) k (wB (ts.drop q)) a ts (q : Int) false) ((bnd Par.tk fun _ => lS S a E) (ts.drop q)) := by
 refine ah.step (fun k => by rw [aX.j1]) ?_
 exact ah.neg ha (ah.tkw _ hw hwl hts (fun h1 => ah.idb (ah.from' (xE hts I.shift H.shift a E (q + 1) h1) (by omega) (by omega))))
theorem JM (hts : ts.length ≤ 40000) (I : Ih S FF) (H : OkB FF) (q : Nat) (hq : q ≤ ts.length) :
 ah ts q 3 sz (fun k => aX.f (FF k) k ts (q : Int) false) (lF S (ts.drop q)) := by
 refine ah.congr (fun k => by unfold aX.f; rw [nz]) ?_
 unfold lF
 simp only [Option.bind_some]
 refine ah.ite (LD hts I H q hq) (fun _ => ?_)
 refine ah.ite (MQ hts I H q hq) (fun _ => ?_)
 refine ah.ite (H8 hts I H q hq) (fun _ => ?_)
 refine ah.ite (fun c => ah.neg (by omega) (KO hts _ (by simp) 11 11 rfl q hq c)) (fun _ => ?_)
 refine ah.ite (fun c => ah.pos (by trivial) (KO hts _ (by simp) 12 12 rfl q hq c)) (fun _ => ?_)
 refine ah.ite (fun c => KO hts _ (by simp) 0 16 rfl q hq c) (fun _ => ?_)
 refine ah.ite (fun c => KJ hts I H _ (by simp) 13 (by omega) q hq c) (fun _ => ?_)
 refine ah.ite (fun c => KJ hts I H _ (by simp) 14 (by omega) q hq c) (fun _ => ?_)
 refine ah.ite (fun c => KJ hts I H _ (by simp) 15 (by omega) q hq c) (fun _ => ?_)
 refine ah.step (fun k => by rw [aX.j1]) ?_
 exact ah.pos (by trivial) (ah.idb (IE hts I.shift H.shift q hq))
end Go.Proofs.YtkbhkonenkgfoaaGreat.Par
end
