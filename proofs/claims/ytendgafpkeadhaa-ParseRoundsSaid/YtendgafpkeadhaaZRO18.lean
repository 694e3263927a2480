/- Walks over functions of the program, words for them, and what the functions come to; of each text only what this claim uses; no condition. -/
import Derived.Test.YtendgafpkeadhaaZRO0
import Derived.Test.YtendgafpkeadhaaZRO2
import Derived.Test.YtendgafpkeadhaaZRO3
import Derived.Test.YtendgafpkeadhaaZRO5
import Derived.Test.YtendgafpkeadhaaZRO6
import Derived.Test.YtendgafpkeadhaaZRO11
import Derived.Test.YtendgafpkeadhaaZRO12
import Derived.Laws.BytesArg
section
set_option linter.unusedVariables false
set_option linter.unusedSimpArgs false
namespace Go.Proofs.Ytendgafpkeadhaa.Lex
open Go
/-- A function of a number of rounds comes to a value, and stays there. -/
def EvTo {α : Type} (F : Nat → Option α) (v : α) : Prop := ∃ k, ∀ j, k ≤ j → F j = some v
theorem EvTo.now {α : Type} {v : α} : EvTo (fun _ => some v) v := ⟨0, fun _ _ => rfl⟩
theorem EvTo.jv {α : Type} {F : Nat → Option α} {v : α} (h : ∀ k, F k = some v) : EvTo F v := ⟨0, fun _ _ => h _⟩
theorem EvTo.congr {α : Type} {F G : Nat → Option α} {v : α} (h : ∀ k, F k = G k) (g : EvTo G v) : EvTo F v := by
 obtain ⟨k, hk⟩ := g
 exact ⟨k, fun j hj => (h j).trans (hk j hj)⟩
theorem EvTo.step {α : Type} {F G : Nat → Option α} {v : α} (h : ∀ k, F (k + 1) = G k) (g : EvTo G v) : EvTo F v := by
 obtain ⟨k, hk⟩ := g
 refine ⟨k + 1, fun j hj => ?_⟩
 obtain ⟨i, rfl⟩ : ∃ i, j = i + 1 := ⟨j - 1, by omega⟩
 rw [h]
 exact hk i (by omega)
theorem EvTo.bind {α β : Type} {F : Nat → Option α} {G : Nat → α → Option β} {v : α} {u : β} (f : EvTo F v) (g : EvTo (fun k => G k v) u) : EvTo (fun k => (F k).bind (G k)) u := by
 obtain ⟨k1, h1⟩ := f
 obtain ⟨k2, h2⟩ := g
 refine ⟨k1 + k2, fun j hj => ?_⟩
 show (F j).bind (G j) = some u
 rw [h1 j (by omega)]
 exact h2 j (by omega)
theorem EvTo.pos {α : Type} {F G : Nat → Option α} {v : α} {c : Prop} [Decidable c] (h : c) (f : EvTo F v) : EvTo (fun k => if c then F k else G k) v := EvTo.congr (fun k => if_pos h) f
theorem EvTo.neg {α : Type} {F G : Nat → Option α} {v : α} {c : Prop} [Decidable c] (h : ¬c) (g : EvTo G v) : EvTo (fun k => if c then F k else G k) v := EvTo.congr (fun k => if_neg h) g
theorem EvTo.one {α : Type} {F : Nat → Option α} {v : α} (h : EvTo F v) : ∃ k, F k = some v := by
 obtain ⟨k, hk⟩ := h
 exact ⟨k, hk k (Nat.le_refl k)⟩
theorem EvTo.of_one {α : Type} {F : Nat → Option α} {v : α} (m : ∀ k r, F k = some r → F (k + 1) = some r) (k : Nat) (h : F k = some v) : EvTo F v := by
 refine ⟨k, fun j hj => ?_⟩
 induction hj with
 | refl => exact h
 | step _ ih => exact m _ _ ih
/-! The kinds of bytes. -/
def bl (c : UInt8) : Bool := c == 32 || c == 9 || c == 10 || c == 13
def le (c : UInt8) : Bool := decide (97 ≤ c.toNat ∧ c.toNat ≤ 122)
def di (c : UInt8) : Bool := decide (48 ≤ c.toNat ∧ c.toNat ≤ 57)
def inn (c : UInt8) : Bool := le c || di c || c == 95
/-- What is left behind blanks and remarks; in a remark at first? -/
def skp : Bool → List UInt8 → List UInt8
 | _, [] => []
 | false, c :: t => if bl c then skp false t else if c = 35 then skp true t else c :: t
 | true, c :: t => if c = 10 then skp false t else skp true t
def KEYS : List (List UInt8) := [[109, 111, 100, 117, 108, 101], [117, 115, 101], [102, 110], [108, 101, 116], [105, 102], [101, 108, 115, 101], [119, 104, 105, 108, 101], [98, 114, 101, 97, 107], [99, 111, 110, 116, 105, 110, 117, 101], [114, 101, 116, 117, 114, 110], [112, 117, 116], [101, 109, 105, 116], [121, 105, 101, 108, 100], [110, 105, 108], [115, 116, 97, 116, 101], [115, 112, 97, 119, 110], [108, 101, 110], [110, 111, 116], [97, 110, 100], [111, 114]]
def isKey (s : List UInt8) : Bool := KEYS.contains s
/-- A word: a letter, and then letters, digits and lines. -/
def isWord : List UInt8 → Bool
 | [] => false
 | c :: t => le c && (c :: t).all inn
def jD (s : List UInt8) : Bool := isWord s && decide (s.length ≤ 16) && !isKey s
/-- What a mask makes of a byte. -/
def esc (c : UInt8) : Option UInt8 := if c = 110 then some 10 else if c = 34 then some 34 else if c = 92 then some 92 else none
/-- What a quoted text says, behind its first sign, and what is left behind it; is the next byte masked? -/
def unq : Bool → List UInt8 → Option (List UInt8 × List UInt8)
 | _, [] => none
 | true, c :: t => match esc c with
  | none => none
  | some x => (unq false t).map fun r => (x :: r.1, r.2)
 | false, c :: t => if c = 34 then some ([], t) else if c = 10 then none else if c = 92 then unq true t else (unq false t).map fun r => (c :: r.1, r.2)
def qo (n : Int) (c : UInt8) : Int := IntKind.u64.wrap (IntKind.u64.wrap (10 * n) + (((c.toNat : Int) - 48) % 256))
def num (s : List UInt8) : Int := s.foldl qo 0
def long (s : List UInt8) : Bool := decide (19 < s.length) || (decide (1 < s.length) && s.head? == some 48)
/-- Digits' number, and whether it is one. -/
def numOf (s : List UInt8) : Int × Bool := if long s then (0, false) else (RowKit.wrap64 (num s), decide (num s < 9223372036854775808))
def PAIRS : List (List UInt8) := [[61, 61], [33, 61], [60, 61], [46, 46]]
def kK : List UInt8 := [40, 41, 123, 125, 91, 93, 44, 59, 46, 47, 61, 60, 43, 45, 42, 37]
/-- The mark with which a text begins. -/
def mark (l : List UInt8) : List UInt8 := if PAIRS.contains (l.take 2) then l.take 2 else if (match l with | [] => false | c :: _ => kK.contains c) then l.take 1 else []
/-- A token: its kind, its text, its number, how many bytes are left from its beginning on. -/
structure Tk where
 kind : Int
 text : List UInt8
 n : Int
 rem : Nat
/-- The token with which a text begins (kind, text, number) and how many bytes it has; or the fault. -/
def one (l : List UInt8) : Except Int (Int × List UInt8 × Int × Nat) :=
 match l with
 | [] => .error 0
 | c :: t =>
  if le c then
   let w := (c :: t).takeWhile inn
   if isKey w then .ok (5, w, 0, w.length) else if w.length ≤ 16 then .ok (1, w, 0, w.length) else .error 10
  else if di c then
   let d := (c :: t).takeWhile di
   if (numOf d).2 then .ok (2, d, (numOf d).1, d.length) else .error 10
  else if c = 34 then
   match unq false t with
   | some (x, r) => .ok (3, x, 0, (c :: t).length - r.length)
   | none => .error 10
  else
   let m := mark (c :: t)
   if m = [] then .error 9 else .ok (4, m, 0, m.length)
/-- The tokens of a text of which no blank nor remark stands first; or the fault, and how many bytes are left there. -/
def toks : Nat → List UInt8 → Except (Int × Nat) (List Tk)
 | 0, _ => .ok []
 | f + 1, l =>
  match l with
  | [] => .ok []
  | c :: t =>
   match one (c :: t) with
   | .error e => .error (e, (c :: t).length)
   | .ok (k, x, n, m) =>
    match toks f (skp false ((c :: t).drop m)) with
    | .error e => .error e
    | .ok ts => .ok (⟨k, x, n, (c :: t).length⟩ :: ts)
def scan (l : List UInt8) : Except (Int × Nat) (List Tk) := toks (l.length + 1) (skp false l)
theorem gU : ∀ (l : List UInt8) (b : Bool), (skp b l).length ≤ l.length
 | [], b => by cases b <;> simp [skp]
 | c :: t, b => by
  have h0 := gU t false
  have h1 := gU t true
  cases b <;> simp only [skp] <;> (repeat' split) <;> simp <;> omega
theorem iw {α : Type} (p : α → Bool) (l : List α) : (l.takeWhile p).length ≤ l.length := by
 induction l with
 | nil => simp
 | cons a t ih => simp only [List.takeWhile_cons]; split <;> simp <;> omega
theorem mP : ∀ (l : List UInt8) (b : Bool) (x r : List UInt8), unq b l = some (x, r) → r.length < l.length
 | [], b, x, r, h => by cases b <;> simp [unq] at h
 | c :: t, true, x, r, h => by
  simp only [unq] at h
  split at h
  ·cases h
  simp only [Option.map_eq_some_iff, Prod.mk.injEq] at h
  obtain ⟨⟨y, s⟩, h1, h2, h3⟩ := h
  have := mP t false y s h1
  subst h3
  simp
  omega
 | c :: t, false, x, r, h => by
  simp only [unq] at h
  split at h
  ·simp only [Option.some.injEq, Prod.mk.injEq] at h
   rw [← h.2]; simp
  split at h
  ·cases h
  split at h
  ·have := mP t true x r h
   simp; omega
  simp only [Option.map_eq_some_iff, Prod.mk.injEq] at h
  obtain ⟨⟨y, s⟩, h1, h2, h3⟩ := h
  have := mP t false y s h1
  subst h3
  simp
  omega
theorem tV (l : List UInt8) : (mark l).length ≤ l.length := by
 unfold mark
 repeat' split
 all_goals simp
 all_goals omega
/-- A token has a byte at least, and no more than there are. -/
theorem oI {l : List UInt8} {k : Int} {x : List UInt8} {n : Int} {m : Nat} (h : one l = .ok (k, x, n, m)) : 1 ≤ m ∧ m ≤ l.length := by
 unfold one at h
 split at h
 ·cases h
 rename_i c t
 split at h
 ·rename_i hc
  have hw := iw inn (c :: t)
  have hw1 : 1 ≤ ((c :: t).takeWhile inn).length := by
   have : inn c = true := by simp [inn, hc]
   simp [List.takeWhile_cons, this]
  simp only [] at h
  split at h
  ·simp only [Except.ok.injEq, Prod.mk.injEq] at h
   omega
  split at h
  ·simp only [Except.ok.injEq, Prod.mk.injEq] at h
   omega
  cases h
 split at h
 ·rename_i hc
  have hw := iw di (c :: t)
  have hw1 : 1 ≤ ((c :: t).takeWhile di).length := by simp [List.takeWhile_cons, hc]
  simp only [] at h
  split at h
  ·simp only [Except.ok.injEq, Prod.mk.injEq] at h
   omega
  cases h
 split at h
 ·split at h
  ·rename_i x' r hu
   have := mP t false x' r hu
   simp only [Except.ok.injEq, Prod.mk.injEq] at h
   simp at h ⊢
   omega
  cases h
 simp only [] at h
 split at h
 ·cases h
 rename_i hm
 have := tV (c :: t)
 simp only [Except.ok.injEq, Prod.mk.injEq] at h
 have : 1 ≤ (mark (c :: t)).length := by
  rcases hmm : mark (c :: t) with _ | ⟨a, b⟩
  ·exact absurd hmm hm
  simp
 omega
/-- More rounds than bytes tell nothing more. -/
theorem ou : ∀ (f g : Nat) (l : List UInt8), l.length < f → l.length < g → toks f l = toks g l
 | 0, _, _, h, _ => by omega
 | _, 0, _, _, h => by omega
 | f + 1, g + 1, [], _, _ => rfl
 | f + 1, g + 1, c :: t, hf, hg => by
  simp only [toks]
  split
  ·rfl
  rename_i k x n m h
  have := oI h
  have hl := gU ((c :: t).drop m) false
  simp only [List.length_drop] at hl
  rw [ou f g (skp false ((c :: t).drop m)) (by simp at hl hf ⊢; omega) (by simp at hl hg ⊢; omega)]
end Go.Proofs.Ytendgafpkeadhaa.Lex
end
section
set_option linter.unusedVariables false
set_option linter.unusedSimpArgs false
namespace Go.Proofs.Ytendgafpkeadhaa.Tree
open Go Go.RowKit Go.Proofs.YtendgafpkeadhaaW.PrintWords Go.Proofs.Ytendgafpkeadhaa.Q Go.Proofs.Ytendgafpkeadhaa.Lex
theorem inc (i : Nat) (h : i + 1 ≤ 9223372036854775807) : wrap64 ((i : Int) + 1) = ((i + 1 : Nat) : Int) := by unfold wrap64; omega
theorem rd36 (l : List S41) (i : Nat) (h : i < l.length) : rd_T41 l (i : Int) = l[i] := by
 simp [rd_T41, List.getD_eq_getElem?_getD, List.getElem?_eq_getElem h]
end Go.Proofs.Ytendgafpkeadhaa.Tree
end
section
set_option linter.unusedVariables false
set_option linter.unusedSimpArgs false
namespace Go.Proofs.Ytendgafpkeadhaa.Tree
open Go Go.RowKit Go.Proofs.YtendgafpkeadhaaW.PrintWords Go.Proofs.Ytendgafpkeadhaa.Q Go.Proofs.Ytendgafpkeadhaa.Lex
/-- How many nodes stand there till so many trees are whole; each node's kids are at most so many. -/
def iZ (n : Nat) : List S41 → Nat → Option Nat
 | [], _ => none
 | x :: t, w => if x.f1 < 0 ∨ (n : Int) < x.f1 then none else if w - 1 + x.f1.toNat = 0 then some 1 else (iZ n t (w - 1 + x.f1.toNat)).map (· + 1)
def qP (i : Nat) : Option Nat → Int
 | none => -1
 | some m => ((i + m : Nat) : Int)
def jE (l : List S41) (i : Int) : Int := if i < 0 then -1 else qP i.toNat (iZ l.length (l.drop i.toNat) 1)
theorem EG (i : Nat) (o : Option Nat) : qP i (o.map (· + 1)) = qP (i + 1) o := by
 cases o with
 | none => rfl
 | some m => simp only [Option.map_some, qP]; omega
theorem w64 {n : Int} (h : -9223372036854775808 ≤ n) (h2 : n ≤ 9223372036854775807) : wrap64 n = n := by unfold wrap64; omega
theorem JM (l : List S41) (hl : l.length ≤ 100000) : ∀ (m i w : Nat), l.length = m + i → 1 ≤ w → w ≤ 1 + i * 100000 →
 EvTo (fun k => bM.l0 k l (i : Int) (w : Int)) (qP i (iZ l.length (l.drop i) w)) := by
 intro m
 induction m with
 | zero =>
  intro i w h1 h2 h3
  rw [List.drop_eq_nil_of_le (by omega)]
  refine EvTo.step (fun k => by rw [bM.l0]) ?_
  exact EvTo.neg (by omega) EvTo.now
 | succ m ih =>
  intro i w h1 h2 h3
  have hi : i < l.length := by omega
  rw [List.drop_eq_getElem_cons hi]
  refine EvTo.step (fun k => by rw [bM.l0]) ?_
  refine EvTo.pos (by omega) (EvTo.pos (by omega) ?_)
  rw [rd36 l i hi]
  simp only [iZ]
  by_cases c1 : l[i].f1 < 0
  ·rw [if_pos (.inl c1)]
   refine EvTo.pos c1 ?_
   refine EvTo.step (fun k => by rw [bM.j1]) ?_
   exact EvTo.pos rfl EvTo.now
  refine EvTo.neg c1 ?_
  refine EvTo.step (fun k => by rw [bM.j1]) ?_
  by_cases c2 : (l.length : Int) < l[i].f1
  ·rw [if_pos (.inr c2)]
   exact EvTo.pos (decide_eq_true c2) EvTo.now
  refine EvTo.neg (by simpa using c2) ?_
  rw [if_neg (by omega)]
  have e2 : wrap64 ((w : Int) + wrap64 (l[i].f1 - 1)) = ((w - 1 + l[i].f1.toNat : Nat) : Int) := by
   rw [w64 (n := l[i].f1 - 1) (by omega) (by omega), w64 (by omega) (by omega)]
   omega
  rw [e2, inc i (by omega)]
  by_cases c3 : w - 1 + l[i].f1.toNat = 0
  ·rw [if_pos c3]
   refine EvTo.pos (by omega) (EvTo.jv fun k => ?_)
   simp only [qP]
  rw [if_neg c3, EG]
  refine EvTo.neg (by omega) ?_
  exact ih (i + 1) _ (by omega) (by omega) (by omega)
theorem vW (l : List S41) (hl : l.length ≤ 100000) (i : Int) : EvTo (fun k => bM.f k l i) (jE l i) := by
 unfold bM.f jE
 by_cases c : i < 0
 ·rw [if_pos c]; exact EvTo.pos c EvTo.now
 rw [if_neg c]
 refine EvTo.neg c ?_
 by_cases c2 : i.toNat ≤ l.length
 ·have h := JM l hl (l.length - i.toNat) i.toNat 1 (by omega) (by omega) (by omega)
  rw [show ((i.toNat : Nat) : Int) = i by omega] at h
  exact h
 rw [List.drop_eq_nil_of_le (by omega)]
 refine EvTo.step (fun k => by rw [bM.l0]) ?_
 exact EvTo.neg (by omega) EvTo.now
/-! What an end says. -/
theorem wY (n : Nat) : ∀ (t : List S41) (w m : Nat), iZ n t w = some m → 1 ≤ m ∧ m ≤ t.length := by
 intro t
 induction t with
 | nil => intro w m h; cases h
 | cons x t ih =>
  intro w m h
  simp only [iZ] at h
  split at h
  ·cases h
  split at h
  ·cases h; simp
  obtain ⟨q, hq, rfl⟩ := Option.map_eq_some_iff.1 h
  have := ih _ _ hq
  simp; omega
/-- Fewer trees are whole no later. -/
theorem CJ (n : Nat) : ∀ (t : List S41) (w w' m : Nat), iZ n t w = some m → 1 ≤ w' → w' ≤ w → ∃ m', m' ≤ m ∧ iZ n t w' = some m' := by
 intro t
 induction t with
 | nil => intro w w' m h; cases h
 | cons x t ih =>
  intro w w' m h h1 h2
  simp only [iZ] at h ⊢
  split at h
  ·cases h
  rename_i hc
  rw [if_neg hc]
  split at h
  ·cases h
   exact ⟨1, Nat.le_refl _, by rw [if_pos (by omega)]⟩
  obtain ⟨q, hq, rfl⟩ := Option.map_eq_some_iff.1 h
  by_cases c : w' - 1 + x.f1.toNat = 0
  ·exact ⟨1, by omega, by rw [if_pos c]⟩
  obtain ⟨m', hm, he⟩ := ih _ (w' - 1 + x.f1.toNat) _ hq (by omega) (by omega)
  exact ⟨m' + 1, by omega, by rw [if_neg c, he]; rfl⟩
/-- Each node within begins a tree that is whole. -/
theorem Bf (n : Nat) : ∀ (t : List S41) (w m j : Nat), iZ n t w = some m → 1 ≤ w → j < m → ∃ m', j + m' ≤ m ∧ iZ n (t.drop j) 1 = some m' := by
 intro t
 induction t with
 | nil => intro w m j h; cases h
 | cons x t ih =>
  intro w m j h hw hj
  cases j with
  | zero =>
   obtain ⟨m', h1, h2⟩ := CJ n _ w 1 m h (by omega) hw
   exact ⟨m', by omega, h2⟩
  | succ j =>
   simp only [iZ] at h
   split at h
   ·cases h
   split at h
   ·cases h; omega
   obtain ⟨q, hq, rfl⟩ := Option.map_eq_some_iff.1 h
   obtain ⟨m', h1, h2⟩ := ih _ _ j hq (by omega) (by omega)
   exact ⟨m', by omega, by rw [List.drop_succ_cons]; exact h2⟩
/-- The kids of a tree's nodes are fewer than its nodes. -/
theorem vK (n : Nat) : ∀ (t : List S41) (w m : Nat), iZ n t w = some m → 1 ≤ w → ∀ x ∈ t.take m, 0 ≤ x.f1 ∧ (w : Int) + x.f1 ≤ m := by
 intro t
 induction t with
 | nil => intro w m h; cases h
 | cons x t ih =>
  intro w m h hw y hy
  have hlen : ∀ (t : List S41) (w m : Nat), iZ n t w = some m → 1 ≤ w → w ≤ m := by
   intro t
   induction t with
   | nil => intro w m h; cases h
   | cons x t ih =>
    intro w m h hw
    simp only [iZ] at h
    split at h
    ·cases h
    split at h
    ·cases h; omega
    obtain ⟨q, hq, rfl⟩ := Option.map_eq_some_iff.1 h
    have := ih _ _ hq (by omega)
    omega
  simp only [iZ] at h
  split at h
  ·cases h
  rename_i hc
  split at h
  ·cases h
   simp at hy
   subst hy
   omega
  rename_i h0
  obtain ⟨q, hq, rfl⟩ := Option.map_eq_some_iff.1 h
  rw [List.take_succ_cons] at hy
  have h2 := hlen _ _ _ hq (by omega)
  rcases List.mem_cons.1 hy with rfl | hy
  ·omega
  have := ih _ _ hq (by omega) y hy
  omega
end Go.Proofs.Ytendgafpkeadhaa.Tree
end
section
set_option linter.unusedVariables false
set_option linter.unusedSimpArgs false
namespace Go.Proofs.Ytendgafpkeadhaa.Tree
open Go Go.RowKit Go.Proofs.YtendgafpkeadhaaW.PrintWords Go.Proofs.Ytendgafpkeadhaa.Q Go.Proofs.Ytendgafpkeadhaa.Lex
/-- The nodes around, with the kids that are missing, the innermost first: those that miss none are left. -/
def close : List Nat → List Nat
 | [] => []
 | 0 :: st => close st
 | (n + 1) :: st => n :: st
/-- The deepest, over nodes, from nodes around on. -/
def rM : List S41 → List Nat → Nat → Nat
 | [], _, b => b
 | x :: t, st, b => rM t (close (x.f1.toNat :: st)) (max b (st.length + 1))
/-- Each node begins a tree that is whole. -/
def pK (l : List S41) : Nat → Bool
 | 0 => true
 | m + 1 => (iZ l.length (l.drop (l.length - (m + 1))) 1).isSome && pK l m
def ints (st : List Nat) : List Int := (st.map Int.ofNat).reverse
theorem mG (st : List Nat) : (ints st).length = st.length := by simp [ints]
theorem mJ (n : Nat) (st : List Nat) : ints (n :: st) = ints st ++ [(n : Int)] := by simp [ints]
theorem vO : ∀ st : List Nat, (close st).length ≤ st.length
 | [] => Nat.le_refl _
 | 0 :: st => by simp only [close]; have := vO st; simp; omega
 | (n + 1) :: st => by simp [close]
theorem vN : ∀ (st : List Nat) (B : Nat), (∀ n ∈ st, n ≤ B) → ∀ n ∈ close st, n ≤ B
 | [], _, _, n, h => by cases h
 | 0 :: st, B, hB, n, h => vN st B (fun m hm => hB m (by simp [hm])) n (by simpa [close] using h)
 | (q + 1) :: st, B, hB, n, h => by
  rcases List.mem_cons.1 (show n ∈ q :: st from h) with rfl | h
  ·have := hB (n + 1) (by simp); omega
  exact hB n (by simp [h])
theorem Fh (l : List S41) (hl : l.length ≤ 100000) (b : Int) (i : Nat) (hi : i + 1 ≤ 300000) (v : Int) : ∀ st : List Nat, st ≠ [] → st.length ≤ 300000 → (∀ n ∈ st, n ≤ 100000) →
 EvTo (fun k => bF.l0 k l b (ints (close st)) l (l.length : Int) ((i + 1 : Nat) : Int)) v → EvTo (fun k => bF.l1 k l b (ints st) l (l.length : Int) (i : Int)) v := by
 intro st
 induction st with
 | nil => intro h; exact absurd rfl h
 | cons n st ih =>
  intro _ hs hB h
  simp only [List.length_cons] at hs
  have hlen : ((ints (n :: st)).length : Int) = (st.length : Int) + 1 := by rw [mG]; simp
  refine EvTo.step (fun k => by rw [bF.l1]) ?_
  rw [hlen, show wrap64 ((st.length : Int) + 1 - 1) = (st.length : Int) by unfold wrap64; omega, inc i (by omega)]
  refine EvTo.pos (by omega) (EvTo.pos (by omega) ?_)
  have hrd : rd (ints (n :: st)) (st.length : Int) = (n : Int) := by
   rw [mJ]
   simp [rd, List.getD_eq_getElem?_getD, List.getElem?_append_right, mG]
  rw [hrd, Int.toNat_natCast]
  cases n with
  | zero =>
   refine EvTo.neg (by simp) (EvTo.pos (by omega) ?_)
   have ht : (ints (0 :: st)).take st.length = ints st := by
    rw [mJ]
    exact List.take_left' (mG st)
   simp only [ht, Option.bind_some]
   simp only [close] at h
   cases st with
   | nil => exact EvTo.pos rfl h
   | cons m st => exact EvTo.neg (by simp; omega) (ih (by simp) (by omega) (fun q hq => hB q (by simp [hq])) h)
  | succ n =>
   have hn := hB (n + 1) (by simp)
   refine EvTo.pos (by omega) ?_
   have hset : (ints ((n + 1) :: st)).set st.length (wrap64 (((n + 1 : Nat) : Int) - 1)) = ints (n :: st) := by
    rw [show wrap64 (((n + 1 : Nat) : Int) - 1) = (n : Int) by unfold wrap64; omega, mJ, mJ, List.set_append]
    simp [mG]
   rw [hset]
   exact h
theorem GZ (l : List S41) (hl : l.length ≤ 100000) : ∀ (m i : Nat) (st : List Nat) (b : Nat), l.length = m + i → st.length ≤ i → b ≤ i → (∀ n ∈ st, n ≤ 100000) →
 EvTo (fun k => bF.l0 k l (b : Int) (ints st) l (l.length : Int) (i : Int)) (if pK l m then (rM (l.drop i) st b : Int) else -1) := by
 intro m
 induction m with
 | zero =>
  intro i st b h1 h2 h3 h4
  rw [List.drop_eq_nil_of_le (by omega)]
  refine EvTo.step (fun k => by rw [bF.l0]) ?_
  exact EvTo.neg (by omega) EvTo.now
 | succ m ih =>
  intro i st b h1 h2 h3 h4
  have hi : i < l.length := by omega
  refine EvTo.step (fun k => by rw [bF.l0]) ?_
  refine EvTo.pos (by omega) (EvTo.pos (by omega) (EvTo.pos (by omega) ?_))
  refine EvTo.bind (vW l hl (i : Int)) ?_
  have he : jE l (i : Int) = qP i (iZ l.length (l.drop i) 1) := by
   unfold jE
   rw [if_neg (by omega), Int.toNat_natCast]
  rw [he]
  simp only [pK, show l.length - (m + 1) = i by omega]
  cases hF : iZ l.length (l.drop i) 1 with
  | none => exact EvTo.pos (by simp [qP]) EvTo.now
  | some q =>
   refine EvTo.neg (by simp only [qP]; omega) (EvTo.pos (by rw [mG]; omega) ?_)
   rw [rd36 l i hi]
   have hk : 0 ≤ l[i].f1 ∧ l[i].f1 ≤ 100000 := by
    rw [List.drop_eq_getElem_cons hi] at hF
    simp only [iZ] at hF
    split at hF
    ·cases hF
    omega
   have hpush : ints st ++ [l[i].f1] = ints (l[i].f1.toNat :: st) := by
    rw [mJ, Int.toNat_of_nonneg hk.1]
   simp only [hpush, Option.bind_some, Option.isSome_some, Bool.true_and]
   have hmx : mx (b : Int) ((ints (l[i].f1.toNat :: st)).length : Int) = ((max b (st.length + 1) : Nat) : Int) := by
    rw [mG]; unfold mx; simp only [List.length_cons]; split <;> omega
   rw [hmx]
   have hm : ∀ n ∈ l[i].f1.toNat :: st, n ≤ 100000 := by
    intro n hn
    rcases List.mem_cons.1 hn with rfl | hn
    ·omega
    exact h4 n hn
   refine Fh l hl _ i (by omega) _ _ (by simp) (by simp; omega) hm ?_
   rw [List.drop_eq_getElem_cons hi]
   have hcl := vO (l[i].f1.toNat :: st)
   exact ih (i + 1) _ _ (by omega) (by simp only [List.length_cons] at hcl; omega) (by omega) (vN _ 100000 hm)
theorem Ha (l : List S41) (hl : l.length ≤ 100000) : EvTo (fun k => bF.f k l) (if pK l l.length then (rM l [] 0 : Int) else -1) := by
 have h := GZ l hl l.length 0 [] 0 (by omega) (by simp) (by omega) (by simp)
 exact h
theorem BI (l : List S41) (m : Nat) (hm : m ≤ l.length) (h : ∀ j, j < l.length → (iZ l.length (l.drop j) 1).isSome = true) : pK l m = true := by
 induction m with
 | zero => rfl
 | succ m ih =>
  simp only [pK]
  rw [h _ (by omega), ih (by omega)]; rfl
end Go.Proofs.Ytendgafpkeadhaa.Tree
end
section
set_option linter.unusedVariables false
set_option linter.unusedSimpArgs false
namespace Go.Proofs.Ytendgafpkeadhaa.Tree
open Go Go.RowKit Go.Proofs.YtendgafpkeadhaaW.PrintWords Go.Proofs.Ytendgafpkeadhaa.Q Go.Proofs.Ytendgafpkeadhaa.Lex
def qc (l : List S41) (i : Int) : List S41 := if jE l i < 0 then [] else (l.take (jE l i).toNat).drop i.toNat
/-- An end that is there. -/
theorem mM {l : List S41} {i : Int} (h : ¬ jE l i < 0) : ∃ j m : Nat, i = j ∧ iZ l.length (l.drop j) 1 = some m ∧ jE l i = ((j + m : Nat) : Int) ∧ 1 ≤ m ∧ j + m ≤ l.length := by
 have hi : ¬ i < 0 := by
  intro c
  unfold jE at h
  rw [if_pos c] at h
  omega
 unfold jE at h ⊢
 rw [if_neg hi] at h
 refine ⟨i.toNat, ?_⟩
 cases he : iZ l.length (l.drop i.toNat) 1 with
 | none => rw [he] at h; simp [qP] at h
 | some m =>
  obtain ⟨h1, h2⟩ := wY _ _ _ _ he
  rw [List.length_drop] at h2
  refine ⟨m, by omega, rfl, ?_, h1, by omega⟩
  rw [if_neg hi]
  rfl
theorem CG {l : List S41} {i : Int} (h : jE l i < 0) : jE l i = -1 := by
 unfold jE at h ⊢
 split
 ·rfl
 rename_i c
 rw [if_neg c] at h
 cases he : iZ l.length (l.drop i.toNat) 1 with
 | none => rfl
 | some m => rw [he] at h; simp only [qP] at h; omega
theorem Dz {l : List S41} {j m : Nat} (h : j + m ≤ l.length) : (l.take (j + m)).drop j = (l.drop j).take m := by
 rw [List.drop_take, Nat.add_sub_cancel_left]
theorem Hu (l : List S41) (hl : l.length ≤ 100000) (i : Int) : EvTo (fun k => fJ.f k l i) (qc l i) := by
 unfold fJ.f
 refine EvTo.bind (vW l hl i) ?_
 by_cases c : jE l i < 0
 ·have hs : qc l i = [] := by unfold qc; rw [if_pos c]
  rw [hs]
  exact EvTo.pos c EvTo.now
 obtain ⟨j, m, rfl, _, he, h1, h2⟩ := mM c
 have hs : qc l (j : Int) = (l.take (j + m)).drop j := by
  unfold qc
  rw [if_neg c, he, Int.toNat_natCast, Int.toNat_natCast]
 rw [hs, he]
 refine EvTo.neg (by omega) (EvTo.pos (by omega) (EvTo.pos (by omega) (EvTo.pos (by omega) ?_)))
 simp only [Option.bind_some, Int.toNat_natCast]
 refine EvTo.pos ?_ (EvTo.jv fun k => by simp)
 simp only [List.length_nil, List.length_drop, List.length_take]
 omega
end Go.Proofs.Ytendgafpkeadhaa.Tree
end
section
set_option linter.unusedVariables false
set_option linter.unusedSimpArgs false
namespace Go.Proofs.Ytendgafpkeadhaa.Tree
open Go Go.RowKit Go.Proofs.YtendgafpkeadhaaW.PrintWords Go.Proofs.Ytendgafpkeadhaa.Q Go.Proofs.Ytendgafpkeadhaa.Lex
/-- So many trees, one behind the other, the deepest of them so deep. -/
inductive Fo : List S41 → Nat → Nat → Prop
 | nil : Fo [] 0 0
 | cons (x : S41) (t v : List S41) (w D1 D2 : Nat) (hx : 0 ≤ x.f1) (ht : Fo t x.f1.toNat D1) (hv : Fo v w D2) : Fo (x :: (t ++ v)) (w + 1) (max (1 + D1) D2)
theorem Fo.none {u : List S41} {D : Nat} (h : Fo u 0 D) : u = [] ∧ D = 0 := by
 cases h; exact ⟨rfl, rfl⟩
theorem Fo.split : ∀ (a b : Nat) (u : List S41) (D : Nat), Fo u (a + b) D → ∃ u1 u2 D1 D2, u = u1 ++ u2 ∧ Fo u1 a D1 ∧ Fo u2 b D2 ∧ D = max D1 D2 := by
 intro a
 induction a with
 | zero =>
  intro b u D h
  rw [Nat.zero_add] at h
  exact ⟨[], u, 0, D, rfl, Fo.nil, h, by omega⟩
 | succ a ih =>
  intro b u D h
  generalize hn : a + 1 + b = n at h
  cases h with
  | nil => omega
  | cons x t v w D1 D2 hx ht hv =>
   obtain rfl : w = a + b := by omega
   obtain ⟨v1, v2, E1, E2, rfl, h1, h2, rfl⟩ := ih b v D2 hv
   refine ⟨x :: (t ++ v1), v2, max (1 + D1) E1, E2, by simp, Fo.cons x t v1 a D1 E1 hx ht h1, h2, by omega⟩
/-- What is whole is so many trees. -/
theorem Fo.IE (n : Nat) : ∀ (t : List S41) (w m : Nat), iZ n t w = some m → 1 ≤ w → ∃ D, Fo (t.take m) w D := by
 intro t
 induction t with
 | nil => intro w m h; cases h
 | cons x t ih =>
  intro w m h hw
  simp only [iZ] at h
  split at h
  ·cases h
  rename_i hc
  have hx : 0 ≤ x.f1 := by omega
  split at h
  ·rename_i h0
   cases h
   obtain rfl : w = 1 := by omega
   have hk : x.f1.toNat = 0 := by omega
   exact ⟨_, Fo.cons x [] [] 0 0 0 hx (by rw [hk]; exact Fo.nil) Fo.nil⟩
  obtain ⟨q, hq, rfl⟩ := Option.map_eq_some_iff.1 h
  obtain ⟨D, hD⟩ := ih _ _ hq (by omega)
  rw [Nat.add_comm] at hD
  obtain ⟨u1, u2, D1, D2, e, h1, h2, rfl⟩ := Fo.split _ _ _ _ hD
  rw [List.take_succ_cons, e]
  obtain ⟨w, rfl⟩ : ∃ v, w = v + 1 := ⟨w - 1, by omega⟩
  exact ⟨_, Fo.cons x u1 u2 w D1 D2 hx h1 h2⟩
/-- The end of so many trees, whatever stands behind. -/
theorem Fo.iZ {n : Nat} {u : List S41} {w D : Nat} (h : Fo u w D) (hn : ∀ x ∈ u, ¬ ((n : Int) < x.f1)) : ∀ (rest : List S41) (c : Nat), 1 ≤ w + c →
 Tree.iZ n (u ++ rest) (w + c) = if c = 0 then some u.length else (Tree.iZ n rest c).map (· + u.length) := by
 induction h with
 | nil =>
  intro rest c hc
  rw [if_neg (by omega)]
  simp
 | cons x t v w D1 D2 hx ht hv ih1 ih2 =>
  intro rest c hc
  have hnx := hn x (by simp)
  simp only [List.cons_append, Tree.iZ]
  rw [if_neg (by omega)]
  by_cases h0 : w + 1 + c - 1 + x.f1.toNat = 0
  ·rw [if_pos h0]
   have hk : x.f1.toNat = 0 := by omega
   rw [hk] at ht
   obtain rfl : w = 0 := by omega
   rw [ht.none.1, hv.none.1, if_pos (by omega)]
   rfl
  rw [if_neg h0, List.append_assoc, show w + 1 + c - 1 + x.f1.toNat = x.f1.toNat + (w + c) by omega,
   ih1 (fun y hy => hn y (by simp [hy])) (v ++ rest) (w + c) (by omega)]
  by_cases h1 : w + c = 0
  ·rw [if_pos h1, if_pos (by omega)]
   obtain rfl : w = 0 := by omega
   rw [hv.none.1]; simp
  rw [if_neg h1, ih2 (fun y hy => hn y (by simp [hy])) rest c (by omega)]
  by_cases h2 : c = 0
  ·rw [if_pos h2, if_pos h2]
   simp; omega
  rw [if_neg h2, if_neg h2, Option.map_map, Option.map_map]
  congr 1
  funext q
  simp; omega
/-- How deep: the nodes around count, too. -/
theorem Fo.rM {u : List S41} {w D : Nat} (h : Fo u w D) : ∀ (rest : List S41) (st : List Nat) (b : Nat), 1 ≤ w →
 Tree.rM (u ++ rest) ((w - 1) :: st) b = Tree.rM rest (close st) (max b (st.length + 1 + D)) := by
 induction h with
 | nil => intro rest st b hw; omega
 | cons x t v w D1 D2 hx ht hv ih1 ih2 =>
  intro rest st b _
  rw [Nat.add_sub_cancel]
  simp only [List.cons_append, List.append_assoc, Tree.rM, List.length_cons]
  have last : ∀ b', Tree.rM (v ++ rest) (close (w :: st)) b' = Tree.rM rest (close st) (max b' (if w = 0 then 0 else st.length + 1 + D2)) := by
   intro b'
   cases w with
   | zero => rw [hv.none.1]; simp [close]
   | succ w =>
    rw [if_neg (by omega)]
    exact ih2 rest st b' (by omega)
  cases hk : x.f1.toNat with
  | zero =>
   rw [hk] at ht
   rw [ht.none.1, ht.none.2]
   simp only [List.nil_append, close]
   rw [last]
   congr 1
   split
   ·rename_i q; subst q; rw [hv.none.2]; omega
   omega
  | succ k =>
   rw [hk] at ih1
   have h1 := ih1 (v ++ rest) (w :: st) (max b (st.length + 1 + 1)) (by omega)
   simp only [Nat.add_sub_cancel, List.length_cons] at h1
   simp only [close]
   rw [h1, last]
   congr 1
   split
   ·rename_i q; subst q; rw [hv.none.2]; omega
   omega
end Go.Proofs.Ytendgafpkeadhaa.Tree
end
section
set_option linter.unusedVariables false
set_option linter.unusedSimpArgs false
namespace Go.Proofs.Ytendgafpkeadhaa.Tree
open Go Go.RowKit Go.Proofs.YtendgafpkeadhaaW.PrintWords Go.Proofs.Ytendgafpkeadhaa.Q Go.Proofs.Ytendgafpkeadhaa.Lex
theorem Fo.len {u : List S41} {w D : Nat} (h : Fo u w D) : w ≤ u.length := by
 induction h with
 | nil => exact Nat.le_refl _
 | cons x t v w D1 D2 hx ht hv ih1 ih2 => simp; omega
theorem Fo.kids {u : List S41} {w D : Nat} (h : Fo u w D) : ∀ y ∈ u, y.f1 + (w : Int) ≤ u.length := by
 induction h with
 | nil => intro y hy; cases hy
 | cons x t v w D1 D2 hx ht hv ih1 ih2 =>
  have h1 := ht.len
  have h2 := hv.len
  intro y hy
  simp only [List.length_cons, List.length_append]
  rcases List.mem_cons.1 hy with rfl | hy
  ·omega
  rcases List.mem_append.1 hy with hy | hy
  ·have := ih1 y hy; omega
  have := ih2 y hy; omega
theorem Fo.one {s : List S41} {D : Nat} (h : Fo s 1 D) : ∃ x t D1, s = x :: t ∧ D = 1 + D1 ∧ 0 ≤ x.f1 ∧ Fo t x.f1.toNat D1 := by
 generalize hn : 1 = n at h
 cases h with
 | nil => omega
 | cons x t v w D1 D2 hx ht hv =>
  obtain rfl : w = 0 := by omega
  obtain ⟨rfl, rfl⟩ := hv.none
  exact ⟨x, t, D1, by simp, by omega, hx, ht⟩
/-- The places of so many trees, from one on. -/
def its (l : List S41) : Nat → Int → List Int
 | 0, _ => []
 | d + 1, p => p :: its l d (jE l p)
theorem yS (l : List S41) (hl : l.length ≤ 100000) (i : Nat) (hi : i < l.length) (h0 : 0 ≤ l[i].f1) (h9 : l[i].f1 ≤ 100000) : ∀ (d : Nat) (acc : List Int) (at' : Int), l[i].f1.toNat = d + acc.length →
 EvTo (fun k => df.l0 k l (i : Int) acc at') (acc ++ its l d at') := by
 intro d
 induction d with
 | zero =>
  intro acc at' h
  refine EvTo.step (fun k => by rw [df.l0]) ?_
  refine EvTo.pos (by omega) (EvTo.pos (by omega) ?_)
  rw [rd36 l i hi, its, List.append_nil]
  exact EvTo.neg (by omega) EvTo.now
 | succ d ih =>
  intro acc at' h
  have h1 := ih (acc ++ [at']) (jE l at') (by simp; omega)
  rw [List.append_assoc] at h1
  refine EvTo.step (fun k => by rw [df.l0]) ?_
  refine EvTo.pos (by omega) (EvTo.pos (by omega) ?_)
  rw [rd36 l i hi]
  exact EvTo.pos (by omega) (EvTo.pos (by omega) (EvTo.bind (vW l hl at') h1))
theorem Ba (l : List S41) : ∀ (d : Nat) (p : Int), (its l d p).length = d
 | 0, _ => rfl
 | d + 1, p => by rw [its, List.length_cons, Ba]
/-- A tree that stands at a place: where it ends. -/
theorem qB {l rest : List S41} {x : S41} {t : List S41} {p D1 : Nat} (hx : 0 ≤ x.f1) (ht : Fo t x.f1.toNat D1) (hd : l.drop p = (x :: t) ++ rest) (hn : ∀ y ∈ x :: t, ¬ ((l.length : Int) < y.f1)) :
 jE l (p : Int) = ((p + (x :: t).length : Nat) : Int) := by
 have hone : Fo (x :: t) 1 (1 + D1) := by
  have := Fo.cons x t [] 0 D1 0 hx ht Fo.nil
  rw [List.append_nil] at this
  rwa [show max (1 + D1) 0 = 1 + D1 by omega] at this
 have hF : Tree.iZ l.length (l.drop p) 1 = some (x :: t).length := by
  rw [hd]
  have := hone.iZ (n := l.length) hn rest 0 (by omega)
  simpa using this
 unfold jE
 rw [if_neg (by omega), Int.toNat_natCast, hF]; rfl
/-- The places of so many trees lie where the trees do. -/
theorem Ja (l : List S41) : ∀ (w : Nat) (u rest : List S41) (D p : Nat), Fo u w D → l.drop p = u ++ rest → (∀ y ∈ u, ¬ ((l.length : Int) < y.f1)) → ∀ q ∈ its l w (p : Int), (p : Int) ≤ q ∧ q < ((p + u.length : Nat) : Int) := by
 intro w
 induction w with
 | zero => intro u rest D p h hd hn q hq; simp [its] at hq
 | succ w ih =>
  intro u rest D p h hd hn q hq
  generalize hw : w + 1 = w1 at h
  cases h with
  | nil => omega
  | cons x t v w' D1 D2 hx ht hv =>
   obtain rfl : w' = w := by omega
   have hd2 : l.drop p = (x :: t) ++ (v ++ rest) := by rw [hd]; simp
   have he := qB hx ht hd2 (fun y hy => hn y (by rcases List.mem_cons.1 hy with rfl | hy; simp; simp [hy]))
   rw [its, he] at hq
   rcases List.mem_cons.1 hq with rfl | hq
   ·constructor
    ·omega
    simp only [List.length_cons, List.length_append]; omega
   have := ih v rest D2 (p + (x :: t).length) hv (by rw [← List.drop_drop, hd2, List.drop_left']; rfl) (fun y hy => hn y (by simp [hy])) q hq
   simp only [List.length_cons, List.length_append] at this ⊢
   omega
/-- Of a whole tree: each node's kids come to their places, all of them within. -/
theorem zX {l : List S41} (hl : l.length ≤ 100000) (h : Tree.iZ l.length l 1 = some l.length) (i : Nat) (hi : i < l.length) :
 EvTo (fun k => df.f k l (i : Int)) (its l (rd_T41 l (i : Int)).f1.toNat ((i + 1 : Nat) : Int)) ∧ (its l (rd_T41 l (i : Int)).f1.toNat ((i + 1 : Nat) : Int)).length ≤ 100000 ∧
 ∀ q ∈ its l (rd_T41 l (i : Int)).f1.toNat ((i + 1 : Nat) : Int), (i : Int) < q ∧ q < (l.length : Int) := by
 obtain ⟨m, hm, hF⟩ := Bf _ _ _ _ i h (Nat.le_refl 1) hi
 have hkk := vK _ _ _ _ hF (Nat.le_refl 1)
 obtain ⟨h1, h2⟩ := wY _ _ _ _ hF
 have hin : l[i] ∈ (l.drop i).take m := by
  obtain ⟨q, rfl⟩ : ∃ q, m = q + 1 := ⟨m - 1, by omega⟩
  rw [List.drop_eq_getElem_cons hi, List.take_succ_cons]
  exact List.mem_cons_self
 have hk := hkk _ hin
 have he : jE l (i : Int) = ((i + m : Nat) : Int) := by
  unfold jE
  rw [if_neg (by omega), Int.toNat_natCast, hF]; rfl
 have hr := rd36 l i hi
 refine ⟨?_, by rw [Ba, hr]; omega, ?_⟩
 ·rw [hr]
  unfold df.f
  refine EvTo.bind (vW l hl (i : Int)) ?_
  rw [inc i (by omega), he]
  refine EvTo.neg (by omega) ?_
  have := yS l hl i hi hk.1 (by omega) l[i].f1.toNat [] ((i + 1 : Nat) : Int) (by simp)
  simpa using this
 intro q hq
 obtain ⟨D, hD⟩ := Fo.IE _ _ _ _ hF (Nat.le_refl 1)
 have hdrop0 : l.drop i = (l.drop i).take m ++ l.drop (i + m) := by rw [← List.drop_drop, List.take_append_drop]
 have hdrop : l[i] :: l.drop (i + 1) = (l.drop i).take m ++ l.drop (i + m) := (List.drop_eq_getElem_cons hi).symm.trans hdrop0
 clear hdrop0
 have hlen : ((l.drop i).take m).length = m := by rw [List.length_take, List.length_drop]; omega
 generalize (l.drop i).take m = s at *
 obtain ⟨x, t, D1, rfl, rfl, hx, ht⟩ := hD.one
 obtain ⟨hxl, hdr⟩ := List.cons.inj hdrop
 have htl : t.length + 1 = m := by simpa using hlen
 rw [hr, hxl] at hq
 have := Ja l x.f1.toNat t (l.drop (i + m)) D1 (i + 1) ht hdr (fun y hy => by have := hkk y (by simp [hy]); omega) q hq
 omega
end Go.Proofs.Ytendgafpkeadhaa.Tree
end
section
set_option linter.unusedVariables false
set_option linter.unusedSimpArgs false
namespace Go.Proofs.Ytendgafpkeadhaa.Tree
open Go Go.RowKit Go.Proofs.YtendgafpkeadhaaW.PrintWords Go.Proofs.Ytendgafpkeadhaa.Q Go.Proofs.Ytendgafpkeadhaa.Lex
def ry (l : List S41) (i : Int) : List Int := if jE l i < 0 then [] else its l (rd_T41 l i).f1.toNat (i + 1)
theorem Gv {l : List S41} (hl : l.length ≤ 100000) {i : Int} (c : ¬ jE l i < 0) : ∃ j : Nat, i = j ∧ ∃ hj : j < l.length, 0 ≤ l[j].f1 ∧ l[j].f1 ≤ 100000 := by
 obtain ⟨j, m, rfl, hF, he, h1, h2⟩ := mM c
 have hj : j < l.length := by omega
 refine ⟨j, rfl, hj, ?_⟩
 have hkk := vK _ _ _ _ hF (Nat.le_refl 1)
 have hin : l[j] ∈ (l.drop j).take m := by
  obtain ⟨q, rfl⟩ : ∃ q, m = q + 1 := ⟨m - 1, by omega⟩
  rw [List.drop_eq_getElem_cons hj, List.take_succ_cons]
  exact List.mem_cons_self
 have := hkk _ hin
 omega
theorem Jp (l : List S41) (hl : l.length ≤ 100000) (i : Int) : EvTo (fun k => df.f k l i) (ry l i) := by
 unfold df.f ry
 refine EvTo.bind (vW l hl i) ?_
 by_cases c : jE l i < 0
 ·rw [if_pos c]; exact EvTo.pos c EvTo.now
 rw [if_neg c]
 obtain ⟨j, rfl, hj, h0, h9⟩ := Gv hl c
 rw [inc j (by omega), rd36 l j hj]
 refine EvTo.neg c ?_
 have := yS l hl j hj h0 h9 l[j].f1.toNat [] ((j + 1 : Nat) : Int) (by simp)
 simpa using this
end Go.Proofs.Ytendgafpkeadhaa.Tree
end
section
set_option linter.unusedVariables false
set_option linter.unusedSimpArgs false
namespace Go.Proofs.Ytendgafpkeadhaa.Par
open Go Go.RowKit Go.Proofs.YtendgafpkeadhaaW.PrintWords Go.Proofs.Ytendgafpkeadhaa.Q Go.Proofs.Ytendgafpkeadhaa.Lex Go.Proofs.Ytendgafpkeadhaa.Tree
/-- What is read, and the tokens that are left; a fault, and the tokens that are left there; none: the rounds are used up. -/
abbrev R (α : Type) := Except (Option (List S38)) (α × List S38)
abbrev Ps (α : Type) := List S38 → R α
def bnd {α β : Type} (p : Ps α) (f : α → Ps β) : Ps β := fun l => match p l with | .ok (a, r) => f a r | .error e => .error e
def ret {α : Type} (a : α) : Ps α := fun l => .ok (a, l)
def out {α : Type} : Ps α := fun _ => .error none
def E : ByteArray := ⟨#[]⟩
/-- The next token's text, if it is a key or a mark. -/
def wB : List S38 → ByteArray
 | [] => E
 | t :: _ => if t.f0 = 5 ∨ t.f0 = 4 then t.f1 else E
def wd (l : List S38) : List UInt8 := (wB l).toList
def must (w : List UInt8) : Ps Unit := fun l => if wd l = w then .ok ((), l.tail) else .error (some l)
def need (k : Int) : Ps S38
 | [] => .error (some [])
 | t :: r => if t.f0 = k then .ok (t, r) else .error (some (t :: r))
/-- Passes over a token that is there. -/
def tk : Ps Unit
 | [] => .error none
 | _ :: r => .ok ((), r)
def nd (k : Int) (nm : ByteArray) (n : Int) (tx : ByteArray) (kids : List (List S41)) : List S41 := ⟨k, (kids.length : Int), nm, n, tx⟩ :: kids.flatten
structure PF where
 expr : Ps (List S41)
 block : Ps (List S41)
 bound : Int → Ps (List S41)
 unary : Ps (List S41)
def fC (F : PF) (k : Int) (nm : ByteArray) : Ps (List S41) := bnd F.expr fun e => bnd (must [59]) fun _ => ret (nd k nm 0 E [e])
def nD (k : Int) : Ps (List S41) := bnd (must [59]) fun _ => ret (nd k E 0 E [])
def rC (e : List S41) : Option (List S41 × List S41) := match ry e 0 with
 | a :: b :: _ => some (qc e a, qc e b)
 | _ => none
def lu (F : PF) (e : List S41) : Ps (List S41) := match rC e with
 | some (a, b) => bnd (must [61]) fun _ => bnd F.expr fun v => bnd (must [59]) fun _ => ret (nd 8 E 0 E [a, b, v])
 | none => out
def lX (F : PF) (e : List S41) : Ps (List S41) := fun l =>
 if wd l ≠ [61] then (bnd (must [59]) fun _ => ret (nd 17 E 0 E [e])) l
 else match e with
  | [] => .error none
  | x :: _ => if x.f0 = 21 then (bnd (must [61]) fun _ => fC F 7 x.f2) l else if x.f0 = 26 then lu F e l else .error (some l)
def qK (F : PF) : Ps (List S41) := bnd F.expr (lX F)
def jr (F : PF) : Ps (List S41) := fun l =>
 if wd l = [108, 101, 116] then (bnd tk fun _ => bnd (need 1) fun t => bnd (must [61]) fun _ => fC F 6 t.f1) l
 else if wd l = [105, 102] then (bnd tk fun _ => bnd F.expr fun e => bnd F.block fun b => fun l2 => if wd l2 = [101, 108, 115, 101] then (bnd tk fun _ => bnd F.block fun c => ret (nd 9 E 0 E [e, b, c])) l2 else .ok (nd 9 E 0 E [e, b], l2)) l
 else if wd l = [119, 104, 105, 108, 101] then (bnd tk fun _ => bnd F.expr fun e => bnd F.block fun b => ret (nd 10 E 0 E [e, b])) l
 else if wd l = [98, 114, 101, 97, 107] then (bnd tk fun _ => nD 11) l
 else if wd l = [99, 111, 110, 116, 105, 110, 117, 101] then (bnd tk fun _ => nD 12) l
 else if wd l = [121, 105, 101, 108, 100] then (bnd tk fun _ => nD 16) l
 else if wd l = [114, 101, 116, 117, 114, 110] then (bnd tk fun _ => fC F 13 E) l
 else if wd l = [112, 117, 116] then (bnd tk fun _ => fC F 14 E) l
 else if wd l = [101, 109, 105, 116] then (bnd tk fun _ => fC F 15 E) l
 else qK F l
def jl (F : PF) : Nat → List (List S41) → Ps (List S41)
 | 0, _ => out
 | n + 1, acc => fun l => if wd l = [125] then (bnd (must [125]) fun _ => ret (nd 5 E 0 E acc)) l else (bnd (jr F) fun s => jl F n (acc ++ [s])) l
def lD (F : PF) (N : Nat) : Ps (List S41) := bnd (must [123]) fun _ => jl F N []
def jZ (one : Ps (List S41)) : Nat → List (List S41) → Ps (List (List S41))
 | 0, _ => out
 | n + 1, acc => fun l => if wd l = [41] then (bnd (must [41]) fun _ => ret acc) l
  else if acc = [] then (bnd one fun x => jZ one n (acc ++ [x])) l else (bnd (must [44]) fun _ => bnd one fun x => jZ one n (acc ++ [x])) l
def dK (one : Ps (List S41)) (N : Nat) : Ps (List (List S41)) := bnd (must [40]) fun _ => jZ one N []
def lY : Ps (List S41) := bnd (need 1) fun t => ret (nd 4 t.f1 0 E [])
def ig (F : PF) (N : Nat) (k : Int) (nm : ByteArray) : Ps (List S41) := bnd (dK lY N) fun ps => bnd (lD F N) fun b => ret (nd k nm 0 E (ps ++ [b]))
def ru (F : PF) (N : Nat) : Ps (List S41) := bnd (need 1) fun t => fun l =>
 if wd l = [46] then (bnd tk fun _ => bnd (need 1) fun u => bnd (dK F.expr N) fun ks => ret (nd 23 t.f1 0 u.f1 ks)) l else .ok (nd 21 t.f1 0 E [], l)
def lT (F : PF) (N : Nat) : Ps (List S41)
 | [] => .error (some [])
 | t :: r => if t.f0 = 2 then .ok (nd 19 E t.f2 E [], r) else if t.f0 = 3 then .ok (nd 20 E 0 t.f1 [], r) else ru F N (t :: r)
def mD (F : PF) (N : Nat) : Ps (List S41) := fun l =>
 if wd l = [110, 105, 108] then (bnd tk fun _ => ret (nd 18 E 0 E [])) l
 else if wd l = [115, 116, 97, 116, 101] then (bnd tk fun _ => ret (nd 29 E 0 E [])) l
 else if wd l = [123] then (bnd tk fun _ => bnd (must [125]) fun _ => ret (nd 25 E 0 E [])) l
 else if wd l = [102, 110] then (bnd tk fun _ => ig F N 24 E) l
 else if wd l = [40] then (bnd tk fun _ => bnd F.expr fun e => bnd (must [41]) fun _ => ret e) l
 else lT F N l
def jR (F : PF) (N : Nat) : Nat → List S41 → Ps (List S41)
 | 0, _ => out
 | n + 1, e => fun l => if wd l = [40] then (bnd (dK F.expr N) fun ks => jR F N n (nd 22 E 0 E ([e] ++ ks))) l
  else if wd l = [91] then (bnd tk fun _ => bnd F.expr fun i => bnd (must [93]) fun _ => jR F N n (nd 26 E 0 E [e, i])) l
  else .ok (e, l)
def jA (F : PF) (N : Nat) : Ps (List S41) := fun l =>
 if wd l = [45] ∨ wd l = [110, 111, 116] ∨ wd l = [108, 101, 110] then (bnd tk fun _ => bnd F.unary fun e => ret (nd 28 E 0 (wB l) [e])) l
 else if wd l = [115, 112, 97, 119, 110] then (bnd tk fun _ => bnd F.unary fun e => ret (nd 30 E 0 E [e])) l
 else (bnd (mD F N) fun e => jR F N N e) l
def jM (w : List UInt8) : Int :=
 if w = [111, 114] then 1 else if w = [97, 110, 100] then 2 else if w = [61, 61] ∨ w = [33, 61] ∨ w = [60] ∨ w = [60, 61] then 3
 else if w = [43] ∨ w = [45] ∨ w = [46, 46] then 4 else if w = [42] ∨ w = [47] ∨ w = [37] then 5 else 0
def jg (F : PF) (a : Int) : Nat → List S41 → Ps (List S41)
 | 0, _ => out
 | n + 1, e => fun l => if jM (wd l) = a then (bnd tk fun _ => bnd (F.bound (a + 1)) fun e2 => if a = 3 then ret (nd 27 E 0 (wB l) [e, e2]) else jg F a n (nd 27 E 0 (wB l) [e, e2])) l else .ok (e, l)
def iO (F : PF) (N : Nat) (a : Int) : Ps (List S41) := if a = 6 then jA F N else bnd (F.bound (a + 1)) fun e => jg F a N e
def kS (F : PF) (N : Nat) : Ps (List S41) := iO F N 1
def pfam : Nat → PF
 | 0 => ⟨out, out, fun _ => out, out⟩
 | n + 1 => ⟨kS (pfam n) n, lD (pfam n) n, fun a => iO (pfam n) n a, jA (pfam n) n⟩
def F5 : Ps (List S41) := bnd (need 1) fun a => bnd (must [46]) fun _ => bnd (need 1) fun b => bnd (must [47]) fun _ => bnd (need 2) fun c => bnd (must [59]) fun _ => ret (nd 2 a.f1 c.f2 b.f1 [])
def qy (F : PF) (N : Nat) (nm : ByteArray) (v : Int) : Nat → List (List S41) → Ps (List S41)
 | 0, _ => out
 | n + 1, acc => fun l => if wd l = [102, 110] then (bnd tk fun _ => bnd (need 1) fun t => bnd (ig F N 3 t.f1) fun f => qy F N nm v n (acc ++ [f])) l else .ok (nd 1 nm v E acc, l)
def qW (F : PF) (N : Nat) (nm : ByteArray) (v : Int) : Nat → List (List S41) → Ps (List S41)
 | 0, _ => out
 | n + 1, acc => fun l => if wd l = [117, 115, 101] then (bnd tk fun _ => bnd F5 fun u => qW F N nm v n (acc ++ [u])) l else qy F N nm v N acc l
def moduleP (F : PF) (N : Nat) : Ps (List S41) := bnd (must [109, 111, 100, 117, 108, 101]) fun _ => bnd (need 1) fun t => bnd (need 2) fun u => bnd (must [59]) fun _ => qW F N t.f1 u.f2 N []
end Go.Proofs.Ytendgafpkeadhaa.Par
end
section
set_option linter.unusedVariables false
set_option linter.unusedSimpArgs false
namespace Go.Proofs.Ytendgafpkeadhaa.Lex
open Go Go.RowKit Go.Proofs.YtendgafpkeadhaaW.PrintWords
/-- A string's bytes. -/
def L (s : ByteArray) : List UInt8 := s.data.toList
theorem eP (s : ByteArray) : s.toList = L s := ByteArray.toList_eq s
theorem L_size (s : ByteArray) : s.size = (L s).length := by cases s; rfl
theorem uB {s t : ByteArray} (h : L s = L t) : s = t := by
 obtain ⟨⟨a⟩⟩ := s
 obtain ⟨⟨b⟩⟩ := t
 have h' : a = b := h
 rw [h']
theorem L_append (s t : ByteArray) : L (s ++ t) = L s ++ L t := by simp [L]
theorem lm (s : ByteArray) (a b : Nat) : L (s.extract a b) = ((L s).drop a).take (b - a) := by
 simp [L, List.extract_eq_take_drop]
theorem Fg (xs : List Int) : L (strOfNums xs) = xs.map fun n => UInt8.ofNat n.toNat := rfl
/-- The string of these bytes. -/
def S (l : List UInt8) : ByteArray := ⟨l.toArray⟩
theorem L_S (l : List UInt8) : L (S l) = l := rfl
theorem S_L (s : ByteArray) : S (L s) = s := uB (L_S _)
theorem pW (s : ByteArray) (i : Nat) : bt s (i : Int) = (((L s).getD i 0).toNat : Int) := by
 unfold bt
 simp only [Int.toNat_natCast]
 split
 ·rename_i h
  have h2 : i < (L s).length := by rw [← L_size]; exact h
  rw [List.getD_eq_getElem?_getD, List.getElem?_eq_getElem h2]
  rfl
 rename_i h
 have h2 : (L s).length ≤ i := by rw [← L_size]; omega
 rw [List.getD_eq_getElem?_getD, List.getElem?_eq_none h2]
 rfl
theorem uo (s : ByteArray) (i : Nat) : byteAt s i = ((L s).getD i 0).toNat := by
 have h := pW s i
 unfold bt at h
 unfold byteAt
 simp only [Int.toNat_natCast] at h
 split at h
 ·rename_i c
  rw [dif_pos c]; omega
 rename_i c
 rw [dif_neg c]; omega
theorem fA (c d : UInt8) : ((c.toNat : Int) = (d.toNat : Int)) ↔ c = d := by
 rw [← UInt8.toNat_inj]; omega
theorem fH (l : List UInt8) (i : Nat) (h : i < l.length) : l.drop i = l.getD i 0 :: l.drop (i + 1) := by
 rw [List.getD_eq_getElem?_getD, List.getElem?_eq_getElem h]
 exact List.drop_eq_getElem_cons h
/-! The kinds. -/
theorem vS (c : UInt8) : fD (c.toNat : Int) = bl c := by
 have e1 := fA c 32
 have e2 := fA c 9
 have e3 := fA c 10
 have e4 := fA c 13
 simp only [UInt8.reduceToNat] at e1 e2 e3 e4
 unfold fD bl
 rw [Bool.eq_iff_iff]
 simp only [decide_eq_true_eq, Bool.or_eq_true, beq_iff_eq, ← e1, ← e2, ← e3, ← e4]
 omega
theorem zn (c : UInt8) : fP (c.toNat : Int) = !(c == 10) := by
 have e3 := fA c 10
 simp only [UInt8.reduceToNat] at e3
 unfold fP
 rw [Bool.eq_iff_iff]
 simp only [decide_eq_true_eq, Bool.not_eq_true', beq_eq_false_iff_ne, ne_eq, ← e3]
 omega
theorem zl (c : UInt8) : kJ (c.toNat : Int) = le c := by
 unfold kJ le
 rw [Bool.eq_iff_iff]
 simp only [decide_eq_true_eq]
 omega
theorem vM (c : UInt8) : jQ (c.toNat : Int) = di c := by
 unfold jQ di
 rw [Bool.eq_iff_iff]
 simp only [decide_eq_true_eq]
 omega
theorem tY (c : UInt8) : kz (c.toNat : Int) = inn c := by
 rw [yu, zl, vM]
 have e := fA c 95
 simp only [UInt8.reduceToNat] at e
 unfold inn
 rw [show ((c.toNat : Int) == 95) = (c == 95) by rw [Bool.eq_iff_iff]; simp only [beq_iff_eq, ← e]; omega]
 rw [Bool.or_assoc]
theorem JP (p : Int → Bool) (q : UInt8 → Bool) (pq : ∀ c : UInt8, p (c.toNat : Int) = q c) (s : ByteArray) : ∀ f i, s.size ≤ i + f → i ≤ s.size → hd p s f i = i + (((L s).drop i).takeWhile q).length := by
 intro f
 induction f with
 | zero =>
  intro i h1 h2
  rw [L_size] at h1
  simp [hd, List.drop_eq_nil_of_le (show (L s).length ≤ i by omega)]
 | succ f ih =>
  intro i h1 h2
  unfold hd
  by_cases c : i < s.size
  ·rw [if_pos c]
   rw [fH (L s) i (by rw [← L_size]; exact c), List.takeWhile_cons, uo, pq]
   by_cases q1 : q ((L s).getD i 0) = true
   ·rw [if_pos q1, if_pos q1, ih (i + 1) (by omega) (by omega)]
    simp; omega
   rw [if_neg q1, if_neg q1]; rfl
  rw [if_neg c, List.drop_eq_nil_of_le (by rw [← L_size]; omega)]; rfl
theorem vH (p : Int → Bool) (q : UInt8 → Bool) (pq : ∀ c : UInt8, p (c.toNat : Int) = q c) (s : ByteArray) : headLen p s = ((L s).takeWhile q).length := by
 unfold headLen
 rw [JP p q pq s s.size 0 (by omega) (by omega)]
 simp
theorem lq {α : Type} (q : α → Bool) (l : List α) : l.take (l.takeWhile q).length = l.takeWhile q := by
 induction l with
 | nil => rfl
 | cons a t ih =>
  rw [List.takeWhile_cons]
  split
  ·simp [ih]
  rfl
theorem nO {α : Type} (q : α → Bool) (l : List α) : l.drop (l.takeWhile q).length = l.dropWhile q := by
 induction l with
 | nil => rfl
 | cons a t ih =>
  rw [List.takeWhile_cons, List.dropWhile_cons]
  split
  ·simp [ih]
  rfl
theorem tZ (p : Int → Bool) (q : UInt8 → Bool) (pq : ∀ c : UInt8, p (c.toNat : Int) = q c) (s : ByteArray) : L (fZ p s) = (L s).takeWhile q := by
 unfold fZ
 rw [lm, vH p q pq]
 simp [lq]
theorem ul (p : Int → Bool) (q : UInt8 → Bool) (pq : ∀ c : UInt8, p (c.toNat : Int) = q c) (s : ByteArray) : L (iD p s) = (L s).dropWhile q := by
 unfold iD
 rw [lm, lU, vH p q pq, nO, List.take_of_length_le]
 have := congrArg List.length (nO q (L s))
 rw [List.length_drop] at this
 rw [L_size]
 omega
theorem sU : ∀ (l : List UInt8), skp false l = skp false (l.dropWhile bl)
 | [] => rfl
 | c :: t => by
  by_cases h : bl c = true
  ·rw [List.dropWhile_cons, if_pos h, ← sU t]
   simp [skp, h]
  rw [List.dropWhile_cons, if_neg h]
theorem xY : ∀ (l : List UInt8), skp true l = skp false (l.dropWhile (fun c => !(c == 10)))
 | [] => rfl
 | c :: t => by
  by_cases h : c = 10
  ·subst h
   simp [skp, List.dropWhile_cons, bl]
  rw [List.dropWhile_cons, if_pos (by simp [h]), ← xY t]
  simp [skp, h]
theorem FY : ∀ (f : Nat) (s : ByteArray), s.size < f → L (rq f s) = skp false (L s) := by
 intro f
 induction f with
 | zero => intro s h; omega
 | succ f ih =>
  intro s h
  rw [sU, ← ul fD bl vS s]
  simp only [rq]
  have ha : (iD fD s).size ≤ s.size := by rw [nP]; omega
  have hb : ∀ c t, L (iD fD s) = c :: t → bl c = false := by
   intro c t e
   rw [ul fD bl vS s] at e
   have := List.head?_dropWhile_not bl (L s)
   rw [e] at this
   simpa using this
  generalize iD fD s = a at *
  by_cases c : 0 < a.size ∧ byteAt a 0 = 35
  ·rw [if_pos c]
   rw [ih _ (by have := pF a c.1 c.2; omega), ul fP _ zn]
   rw [← xY]
   have c1 := c.1
   have c2 := c.2
   rw [uo] at c2
   rw [L_size] at c1
   rcases hl : L a with _ | ⟨x, t⟩
   ·rw [hl] at c1; simp at c1
   rw [hl] at c2
   simp only [List.getD_cons_zero] at c2
   have hx : x = 35 := by rw [← UInt8.toNat_inj]; exact c2
   subst hx
   simp [skp, bl]
  rw [if_neg c]
  rcases hl : L a with _ | ⟨x, t⟩
  ·rfl
  have hx : bl x = false := hb x t hl
  have hx2 : x ≠ 35 := by
   intro e
   apply c
   rw [uo, L_size, hl]
   subst e
   simp
  simp [skp, hx, hx2]
theorem tC (s : ByteArray) : L (l7 s) = skp false (L s) := FY _ s (by omega)
end Go.Proofs.Ytendgafpkeadhaa.Lex
end
section
set_option linter.unusedVariables false
set_option linter.unusedSimpArgs false
namespace Go.Proofs.Ytendgafpkeadhaa.Par
open Go Go.RowKit Go.Proofs.YtendgafpkeadhaaW.PrintWords Go.Proofs.Ytendgafpkeadhaa.Q Go.Proofs.Ytendgafpkeadhaa.Lex Go.Proofs.Ytendgafpkeadhaa.Tree
theorem rd_tok (ts : List S38) (q : Nat) (t : S38) (r : List S38) (h : ts.drop q = t :: r) : q < ts.length ∧ rd_T38 ts (q : Int) = t ∧ ts.drop (q + 1) = r := by
 have hq : q < ts.length := by
  rcases Nat.lt_or_ge q ts.length with h1 | h1
  ·exact h1
  rw [List.drop_eq_nil_of_le h1] at h; cases h
 rw [List.drop_eq_getElem_cons hq] at h
 obtain ⟨h1, h2⟩ := List.cons.inj h
 exact ⟨hq, by simp [rd_T38, List.getD_eq_getElem?_getD, List.getElem?_eq_getElem hq, h1], h2⟩
theorem Eg (ts : List S38) (q : Int) : gu.f ts q true = some (0, E, 0, 0, false, q, true) := rfl
theorem tN (ts : List S38) (q : Nat) (h : ts.drop q = []) : gu.f ts (q : Int) false = some (0, E, 0, 0, false, (q : Int), false) := by
 unfold gu.f
 have : ts.length ≤ q := List.drop_eq_nil_iff.1 h
 rw [if_neg (by simp), if_pos (by omega)]; rfl
theorem qM (ts : List S38) (q : Nat) (t : S38) (r : List S38) (h : ts.drop q = t :: r) : gu.f ts (q : Int) false = some (t.f0, t.f1, t.f2, t.f3, true, (q : Int), false) := by
 obtain ⟨h1, h2, _⟩ := rd_tok ts q t r h
 unfold gu.f
 rw [if_neg (by simp), if_neg (by omega), if_pos (by omega), h2]
theorem kG (ts : List S38) (q : Nat) : aZ.f ts (q : Int) false = some (wB (ts.drop q), (q : Int), false) := by
 unfold aZ.f
 cases h : ts.drop q with
 | nil => rw [tN ts q h]; rfl
 | cons t r =>
  rw [qM ts q t r h]
  simp only [Option.bind_some, if_true, wB]
  by_cases c1 : t.f0 = 5
  ·rw [if_pos c1, if_pos (Or.inl c1)]
  rw [if_neg c1]
  by_cases c2 : t.f0 = 4
  ·rw [if_pos c2, if_pos (Or.inr c2)]
  rw [if_neg c2, if_neg (by omega)]; rfl
theorem sH (ts : List S38) (q : Int) : aZ.f ts q true = some (E, q, true) := rfl
theorem vX : E.toList = ([] : List UInt8) := by rw [eP]; rfl
theorem sK : wd [] = [] := vX
theorem ww (ts : List S38) (q : Nat) (hq : q ≤ 100000) (w : ByteArray) (hw : w.toList ≠ []) : ax.f ts (q : Int) false w = if wd (ts.drop q) = w.toList then some (true, ((q + 1 : Nat) : Int), false) else some (false, (q : Int), false) := by
 unfold ax.f
 rw [if_neg hw, kG]
 simp only [Option.bind_some]
 rw [inc q (by omega)]; rfl
theorem xR (ts : List S38) (q : Int) (w : ByteArray) (hw : w.toList ≠ []) : ax.f ts q true w = some (false, q, true) := by
 unfold ax.f
 rw [if_neg hw, sH]
 simp only [Option.bind_some]
 rw [if_neg (fun h => hw (by rw [vX] at h; exact h.symm))]
theorem Gj (ts : List S38) (q : Nat) (hq : q ≤ 100000) (w : ByteArray) (hw : w.toList ≠ []) : aG.f ts (q : Int) false w = if wd (ts.drop q) = w.toList then some (((q + 1 : Nat) : Int), false) else some ((q : Int), true) := by
 unfold aG.f
 rw [ww ts q hq w hw]
 by_cases c : wd (ts.drop q) = w.toList
 ·rw [if_pos c, if_pos c]; rfl
 rw [if_neg c, if_neg c]; rfl
theorem En (ts : List S38) (q : Int) (w : ByteArray) (hw : w.toList ≠ []) : aG.f ts q true w = some (q, true) := by
 unfold aG.f
 rw [xR ts q w hw]; rfl
theorem jW (ts : List S38) (q : Int) (k : Int) : bu.f ts q true k = some (0, E, 0, 0, q, true) := rfl
theorem Ei (ts : List S38) (q : Nat) (k : Int) (h : ts.drop q = []) : bu.f ts (q : Int) false k = some (0, E, 0, 0, (q : Int), true) := by
 unfold bu.f
 rw [tN ts q h]; rfl
theorem Cc (ts : List S38) (q : Nat) (hq : q ≤ 100000) (k : Int) (t : S38) (r : List S38) (h : ts.drop q = t :: r) : bu.f ts (q : Int) false k = if t.f0 = k then some (t.f0, t.f1, t.f2, t.f3, ((q + 1 : Nat) : Int), false) else some (0, E, 0, 0, (q : Int), true) := by
 unfold bu.f
 rw [qM ts q t r h]
 simp only [Option.bind_some, if_true]
 rw [inc q (by omega)]; rfl
theorem rP {l : List S38} (h : wd l ≠ []) : ∃ t r, l = t :: r := by
 cases l with
 | nil => exact absurd sK h
 | cons t r => exact ⟨t, r, rfl⟩
/-! Nodes. -/
theorem IG (a : Int) (kids : List (List S41)) (hk : kids.length ≤ 1000000) : ∀ (m i : Nat) (acc : List S41), kids.length = m + i → acc.length + ((kids.drop i).flatten).length ≤ 1000000000 →
 EvTo (fun k => au.l0 k acc kids (kids.length : Int) (i : Int)) (acc ++ (kids.drop i).flatten) := by
 intro m
 induction m with
 | zero =>
  intro i acc h1 h2
  rw [List.drop_eq_nil_of_le (by omega), List.flatten_nil, List.append_nil]
  refine EvTo.step (fun k => by rw [au.l0]) ?_
  exact EvTo.neg (by omega) EvTo.now
 | succ m ih =>
  intro i acc h1 h2
  have hi : i < kids.length := by omega
  have hr : pg kids (i : Int) = kids[i] := by simp [pg, List.getD_eq_getElem?_getD, List.getElem?_eq_getElem hi]
  rw [List.drop_eq_getElem_cons hi, List.flatten_cons] at h2 ⊢
  rw [List.length_append] at h2
  refine EvTo.step (fun k => by rw [au.l0]) ?_
  rw [hr, inc i (by omega)]
  refine EvTo.pos (by omega) (EvTo.pos (by omega) (EvTo.pos (by omega) (EvTo.pos (by omega) ?_)))
  have := ih (i + 1) (acc ++ kids[i]) (by omega) (by rw [List.length_append]; omega)
  rw [List.append_assoc] at this
  exact this
theorem tK (k0 : Int) (nm : ByteArray) (n : Int) (tx : ByteArray) (z : Int) (kids : List (List S41)) (hk : kids.length ≤ 1000000) (hs : kids.flatten.length ≤ 100000000) : EvTo (fun k => au.f k k0 z nm n tx kids) (nd k0 nm n tx kids) := by
 have := IG 0 kids hk kids.length 0 [⟨k0, (kids.length : Int), nm, n, tx⟩] (by omega) (by rw [List.drop_zero]; simp only [List.length_cons, List.length_nil]; omega)
 rw [List.drop_zero] at this
 exact this
/-! What is told. -/
/-- What a function of rounds comes to, from place q on, is the answer; what was made is no more than twice what was passed, and c. -/
def az {α : Type} (ts : List S38) (q c : Nat) (sz : α → Nat) (F : Nat → Option (α × Int × Bool)) : R α → Prop
 | .ok (x, r) => ∃ p : Nat, q ≤ p ∧ p ≤ ts.length ∧ ts.drop p = r ∧ sz x ≤ 2 * (p - q) ∧ EvTo F (x, (p : Int), false)
 | .error (some r) => ∃ (x : α) (p : Nat), q ≤ p ∧ p ≤ ts.length ∧ ts.drop p = r ∧ sz x ≤ 2 * (p - q) + c ∧ EvTo F (x, (p : Int), true)
 | .error none => True
theorem az.bind {α β : Type} {ts : List S38} {q q0 c d : Nat} {sA : α → Nat} {sB : β → Nat} {F : Nat → Option (α × Int × Bool)} {G : Nat → α × Int × Bool → Option (β × Int × Bool)} {P : Ps α} {l : List S38} {f : α → Ps β}
 (h : az ts q c sA F (P l))
 (hok : ∀ (x : α) (p : Nat), q ≤ p → p ≤ ts.length → sA x ≤ 2 * (p - q) → az ts q0 d sB (fun k => G k (x, (p : Int), false)) (f x (ts.drop p)))
 (hbad : ∀ (x : α) (p : Nat), q ≤ p → p ≤ ts.length → sA x ≤ 2 * (p - q) + c → ∃ y, q0 ≤ p ∧ sB y ≤ 2 * (p - q0) + d ∧ EvTo (fun k => G k (x, (p : Int), true)) (y, (p : Int), true)) :
 az ts q0 d sB (fun k => (F k).bind (G k)) (bnd P f l) := by
 unfold bnd
 match P l, h with
 | .ok (x, r), ⟨p, h1, h2, h3, h4, h5⟩ =>
  have := hok x p h1 h2 h4
  rw [h3] at this
  revert this
  show az ts q0 d sB _ (f x r) → az ts q0 d sB _ (f x r)
  cases f x r with
  | ok y => exact fun ⟨p', a1, a2, a3, a4, a5⟩ => ⟨p', a1, a2, a3, a4, EvTo.bind h5 a5⟩
  | error e =>
   cases e with
   | none => exact fun _ => trivial
   | some e => exact fun ⟨y, p', a1, a2, a3, a4, a5⟩ => ⟨y, p', a1, a2, a3, a4, EvTo.bind h5 a5⟩
 | .error (some r), ⟨x, p, h1, h2, h3, h4, h5⟩ =>
  obtain ⟨y, g0, g1, g2⟩ := hbad x p h1 h2 h4
  exact ⟨y, p, g0, h2, h3, g1, EvTo.bind h5 g2⟩
 | .error none, _ => trivial
theorem az.congr {α : Type} {ts : List S38} {q c : Nat} {sz : α → Nat} {F G : Nat → Option (α × Int × Bool)} {P : R α} (e : ∀ k, F k = G k) (h : az ts q c sz G P) : az ts q c sz F P := by
 have : F = G := funext e
 rw [this]; exact h
theorem az.step {α : Type} {ts : List S38} {q c : Nat} {sz : α → Nat} {F G : Nat → Option (α × Int × Bool)} {P : R α} (e : ∀ k, F (k + 1) = G k) (h : az ts q c sz G P) : az ts q c sz F P := by
 match P, h with
 | .ok (x, r), ⟨p, h1, h2, h3, h4, h5⟩ => exact ⟨p, h1, h2, h3, h4, EvTo.step e h5⟩
 | .error (some r), ⟨x, p, h1, h2, h3, h4, h5⟩ => exact ⟨x, p, h1, h2, h3, h4, EvTo.step e h5⟩
 | .error none, _ => trivial
theorem az.pos {α : Type} {ts : List S38} {q d : Nat} {sz : α → Nat} {F G : Nat → Option (α × Int × Bool)} {P : R α} {c : Prop} [Decidable c] (hc : c) (h : az ts q d sz F P) : az ts q d sz (fun k => if c then F k else G k) P := az.congr (fun k => if_pos hc) h
theorem az.neg {α : Type} {ts : List S38} {q d : Nat} {sz : α → Nat} {F G : Nat → Option (α × Int × Bool)} {P : R α} {c : Prop} [Decidable c] (hc : ¬c) (h : az ts q d sz G P) : az ts q d sz (fun k => if c then F k else G k) P := az.congr (fun k => if_neg hc) h
/-- A mark that must stand there. -/
theorem az.must {β : Type} {ts : List S38} {q p d : Nat} {sB : β → Nat} {G : Nat → Int × Bool → Option (β × Int × Bool)} {f : Unit → Ps β} (w : ByteArray) (wl : List UInt8) (hwl : w.toList = wl) (hw : wl ≠ []) (hp : p ≤ ts.length) (hts : ts.length ≤ 40000) (hq : q ≤ p)
 (hok : p + 1 ≤ ts.length → az ts q d sB (fun k => G k (((p + 1 : Nat) : Int), false)) (f () (ts.drop (p + 1))))
 (hbad : ∃ y, sB y ≤ 2 * (p - q) + d ∧ EvTo (fun k => G k ((p : Int), true)) (y, (p : Int), true)) :
 az ts q d sB (fun k => (aG.f ts (p : Int) false w).bind (G k)) (bnd (Par.must wl) f (ts.drop p)) := by
 subst hwl
 rw [Gj ts p (by omega) w hw]
 unfold bnd Par.must
 by_cases c : wd (ts.drop p) = w.toList
 ·rw [if_pos c, if_pos c]
  obtain ⟨t, r, e⟩ := rP (l := ts.drop p) (by rw [c]; exact hw)
  obtain ⟨h1, _, h3⟩ := rd_tok ts p t r e
  have := hok (by omega)
  rw [h3] at this
  rw [e]
  exact this
 rw [if_neg c, if_neg c]
 obtain ⟨y, h1, h2⟩ := hbad
 exact ⟨y, p, hq, hp, rfl, h1, h2⟩
/-- A token of a kind that must stand there. -/
theorem az.need {β : Type} {ts : List S38} {q p d : Nat} {sB : β → Nat} {G : Nat → Int × ByteArray × Int × Int × Int × Bool → Option (β × Int × Bool)} {f : S38 → Ps β} (kd : Int) (hp : p ≤ ts.length) (hts : ts.length ≤ 40000) (hq : q ≤ p)
 (hok : ∀ t : S38, p + 1 ≤ ts.length → t.f0 = kd → az ts q d sB (fun k => G k (t.f0, t.f1, t.f2, t.f3, ((p + 1 : Nat) : Int), false)) (f t (ts.drop (p + 1))))
 (hbad : ∃ y, sB y ≤ 2 * (p - q) + d ∧ EvTo (fun k => G k (0, E, 0, 0, (p : Int), true)) (y, (p : Int), true)) :
 az ts q d sB (fun k => (bu.f ts (p : Int) false kd).bind (G k)) (bnd (Par.need kd) f (ts.drop p)) := by
 obtain ⟨y, h1, h2⟩ := hbad
 cases e : ts.drop p with
 | nil =>
  rw [Ei ts p kd e]
  exact ⟨y, p, hq, hp, e, h1, h2⟩
 | cons t r =>
  rw [Cc ts p (by omega) kd t r e]
  unfold bnd Par.need
  by_cases c : t.f0 = kd
  ·simp only [if_pos c]
   obtain ⟨g1, _, g3⟩ := rd_tok ts p t r e
   have := hok t (by omega) c
   rw [g3] at this
   exact this
  simp only [if_neg c]
  exact ⟨y, p, hq, hp, e, h1, h2⟩
theorem gy (w : ByteArray) (wl : List UInt8) (h : L w = wl) : w.toList = wl := by rw [eP]; exact h
/-- A word that was looked at is passed. -/
theorem az.tk {β : Type} {ts : List S38} {q p d : Nat} {sB : β → Nat} {G : Nat → Bool × Int × Bool → Option (β × Int × Bool)} {f : Unit → Ps β} (w : ByteArray) (hw : w.toList ≠ []) (hwd : wd (ts.drop p) = w.toList) (hts : ts.length ≤ 40000)
 (hok : p + 1 ≤ ts.length → az ts q d sB (fun k => G k (true, ((p + 1 : Nat) : Int), false)) (f () (ts.drop (p + 1)))) :
 az ts q d sB (fun k => (ax.f ts (p : Int) false w).bind (G k)) (bnd Par.tk f (ts.drop p)) := by
 obtain ⟨t, r, e⟩ := rP (l := ts.drop p) (by rw [hwd]; exact hw)
 obtain ⟨h1, _, h3⟩ := rd_tok ts p t r e
 rw [ww ts p (by omega) w hw, if_pos hwd]
 have := hok (by omega)
 rw [h3] at this
 rw [e]
 exact this
theorem az.done {α : Type} {ts : List S38} {q p d : Nat} {sz : α → Nat} {F : Nat → Option (α × Int × Bool)} (x : α) (hq : q ≤ p) (hp : p ≤ ts.length) (hs : sz x ≤ 2 * (p - q)) (h : EvTo F (x, (p : Int), false)) : az ts q d sz F (.ok (x, ts.drop p)) := ⟨p, hq, hp, rfl, hs, h⟩
end Go.Proofs.Ytendgafpkeadhaa.Par
end
section
set_option linter.unusedVariables false
set_option linter.unusedSimpArgs false
namespace Go.Proofs.Ytendgafpkeadhaa.Par
open Go Go.RowKit Go.Proofs.YtendgafpkeadhaaW.PrintWords Go.Proofs.Ytendgafpkeadhaa.Q Go.Proofs.Ytendgafpkeadhaa.Lex Go.Proofs.Ytendgafpkeadhaa.Tree
variable {ts : List S38} {q : Int}
theorem gY (w : ByteArray) (wl : List UInt8) (hwl : L w = wl) (hw : wl ≠ []) : aG.f ts q true w = some (q, true) := En ts q w (by rw [gy w wl hwl]; exact hw)
theorem noE (w : List UInt8) (hw : w ≠ []) : ¬ E.toList = w := fun h => hw (h.symm.trans vX)
theorem nd_len (k : Int) (nm : ByteArray) (n : Int) (tx : ByteArray) (kids : List (List S41)) : (nd k nm n tx kids).length = kids.flatten.length + 1 := by simp [nd]
theorem gz {α : Type} {k0 : Int} {nm : ByteArray} {n : Int} {tx : ByteArray} {z : Int} {kids : List (List S41)} {G : Nat → List S41 → Option α} {v : α} (hk : kids.length ≤ 1000000) (hs : kids.flatten.length ≤ 100000000) (h : EvTo (fun k => G k (nd k0 nm n tx kids)) v) :
 EvTo (fun k => (au.f k k0 z nm n tx kids).bind (G k)) v := EvTo.bind (tK k0 nm n tx z kids hk hs) h
variable {FF : Nat → Fam}
theorem C9 : EvTo (fun k => dU.f (FF k) k ts q true) (([] : List (List S41)), q, true) := by
 refine EvTo.congr (fun k => by unfold dU.f; rw [gY _ [40] rfl (by simp)]) ?_
 simp only [Option.bind_some]
 refine EvTo.step (fun k => by rw [dU.l0]) ?_
 refine EvTo.pos rfl ?_
 refine EvTo.step (fun k => by rw [dU.j1]) ?_
 refine EvTo.neg (by simp) ?_
 rw [gY _ [41] rfl (by simp)]
 exact EvTo.now
theorem Cm : EvTo (fun k => dK.f k ts q true) (([] : List (List S41)), q, true) := by
 refine EvTo.congr (fun k => by unfold dK.f; rw [gY _ [40] rfl (by simp)]) ?_
 simp only [Option.bind_some]
 refine EvTo.step (fun k => by rw [dK.l0]) ?_
 refine EvTo.pos rfl ?_
 refine EvTo.step (fun k => by rw [dK.j1]) ?_
 refine EvTo.neg (by simp) ?_
 rw [gY _ [41] rfl (by simp)]
 exact EvTo.now
theorem Ew : EvTo (fun k => dC.f (FF k) k ts q true) (([] : List S41), q, true) := by
 refine EvTo.jv fun k => ?_
 unfold dC.f
 rw [Eg]; rfl
theorem qR : EvTo (fun k => aX.f (FF k) k ts q true) (nd 5 E 0 E [], q, true) := by
 refine EvTo.congr (fun k => by unfold aX.f; rw [gY _ [123] rfl (by simp)]) ?_
 simp only [Option.bind_some]
 refine EvTo.step (fun k => by rw [aX.l0]) ?_
 refine EvTo.pos rfl ?_
 rw [gY _ [125] rfl (by simp)]
 exact gz (by simp) (by simp) EvTo.now
theorem wX (k0 : Int) (nm : ByteArray) : EvTo (fun k => bf.f (FF k) k ts q true k0 0 nm 0 E) (nd k0 nm 0 E [nd 5 E 0 E []], q, true) := by
 unfold bf.f
 refine EvTo.bind Cm (EvTo.bind qR (EvTo.pos (by simp) ?_))
 exact gz (by simp) (by simp [nd]) EvTo.now
theorem DL : EvTo (fun k => dh.f (FF k) k ts q true) (([] : List S41), q, true) := by
 refine EvTo.congr (fun k => by unfold dh.f; rw [sH]) ?_
 simp only [Option.bind_some]
 exact EvTo.neg (noE _ (by simp)) (EvTo.neg (noE _ (by simp)) (EvTo.neg (noE _ (by simp)) (EvTo.neg (noE _ (by simp)) (EvTo.neg (noE _ (by simp)) (EvTo.bind Ew EvTo.now)))))
theorem nI (e : List S41) : EvTo (fun k => aH.l0 (FF k) k e ts q true) (e, q, true) := by
 refine EvTo.step (fun k => by rw [aH.l0]) ?_
 exact EvTo.pos rfl EvTo.now
theorem sO : EvTo (fun k => aH.f (FF k) k ts q true) (([] : List S41), q, true) := by
 refine EvTo.congr (fun k => by unfold aH.f; rw [sH]) ?_
 simp only [Option.bind_some]
 refine EvTo.neg (noE _ (by simp)) (EvTo.neg (noE _ (by simp)) ?_)
 refine EvTo.step (fun k => by rw [aH.j0]) ?_
 refine EvTo.neg (by rw [beq_iff_eq]; exact noE _ (by simp)) (EvTo.neg (noE _ (by simp)) ?_)
 exact EvTo.bind DL (nI [])
/-- What the family's functions come to behind a fault. -/
structure OkB (FF : Nat → Fam) : Prop where
 expr : ∀ (ts : List S38) (q : Int), EvTo (fun k => (FF k).expr ts q true) (([] : List S41), q, true)
 block : ∀ (ts : List S38) (q : Int), EvTo (fun k => (FF k).block ts q true) (nd 5 E 0 E [], q, true)
 bound : ∀ (ts : List S38) (q : Int) (a : Int), 1 ≤ a → a ≤ 6 → EvTo (fun k => (FF k).bound ts q true a) (([] : List S41), q, true)
 unary : ∀ (ts : List S38) (q : Int), EvTo (fun k => (FF k).unary ts q true) (([] : List S41), q, true)
theorem EvTo.shift {α : Type} {F : Nat → Option α} {v : α} (h : EvTo F v) : EvTo (fun k => F (k + 1)) v := by
 obtain ⟨n, hn⟩ := h
 exact ⟨n, fun j hj => hn (j + 1) (by omega)⟩
theorem OkB.shift {FF : Nat → Fam} (h : OkB FF) : OkB (fun k => FF (k + 1)) :=
 ⟨fun ts q => EvTo.shift (h.expr ts q), fun ts q => EvTo.shift (h.block ts q), fun ts q a h1 h2 => EvTo.shift (h.bound ts q a h1 h2), fun ts q => EvTo.shift (h.unary ts q)⟩
theorem pX (a : Int) (e : List S41) : EvTo (fun k => aU.l0 (FF k) k a e ts q true) (e, q, true) := by
 refine EvTo.step (fun k => by rw [aU.l0]) ?_
 exact EvTo.pos rfl EvTo.now
theorem zM : EvTo (fun k => aU.f (FF k) k ts q true 6) (([] : List S41), q, true) := by
 unfold aU.f
 exact EvTo.pos rfl (EvTo.bind sO EvTo.now)
theorem lg (a : Int) (h1 : 1 ≤ a) (h2 : a ≤ 5) (h : EvTo (fun k => (FF k).bound ts q true (a + 1)) (([] : List S41), q, true)) : EvTo (fun k => aU.f (FF k) k ts q true a) (([] : List S41), q, true) := by
 unfold aU.f
 rw [w64 (n := a + 1) (by omega) (by omega)]
 exact EvTo.neg (by omega) (EvTo.bind h (pX a []))
theorem kY (ts : List S38) (q : Int) (a : Int) (b : Bool) (v : List S41 × Int × Bool) (h : EvTo (fun k => aU.f (fam k) k ts q b a) v) : EvTo (fun k => (fam k).bound ts q b a) v := EvTo.step (fun k => rfl) h
theorem ql : OkB fam := by
 have b6 : ∀ ts q, EvTo (fun k => (fam k).bound ts q true 6) (([] : List S41), q, true) := fun ts q => kY ts q 6 true _ zM
 have b5 : ∀ ts q, EvTo (fun k => (fam k).bound ts q true 5) (([] : List S41), q, true) := fun ts q => kY ts q 5 true _ (lg 5 (by omega) (by omega) (b6 ts q))
 have b4 : ∀ ts q, EvTo (fun k => (fam k).bound ts q true 4) (([] : List S41), q, true) := fun ts q => kY ts q 4 true _ (lg 4 (by omega) (by omega) (b5 ts q))
 have b3 : ∀ ts q, EvTo (fun k => (fam k).bound ts q true 3) (([] : List S41), q, true) := fun ts q => kY ts q 3 true _ (lg 3 (by omega) (by omega) (b4 ts q))
 have b2 : ∀ ts q, EvTo (fun k => (fam k).bound ts q true 2) (([] : List S41), q, true) := fun ts q => kY ts q 2 true _ (lg 2 (by omega) (by omega) (b3 ts q))
 refine ⟨fun ts q => EvTo.step (fun k => rfl) ?_, fun ts q => EvTo.step (fun k => rfl) qR, fun ts q a h1 h2 => ?_, fun ts q => EvTo.step (fun k => rfl) sO⟩
 ·show EvTo (fun k => dD.f (fam k) k ts q true) _
  unfold dD.f
  exact EvTo.bind (lg 1 (by omega) (by omega) (b2 ts q)) EvTo.now
 rcases (show a = 1 ∨ a = 2 ∨ a = 3 ∨ a = 4 ∨ a = 5 ∨ a = 6 by omega) with rfl | rfl | rfl | rfl | rfl | rfl
 ·exact kY ts q 1 true _ (lg 1 (by omega) (by omega) (b2 ts q))
 ·exact b2 ts q
 ·exact b3 ts q
 ·exact b4 ts q
 ·exact b5 ts q
 exact b6 ts q
theorem pV (H : OkB FF) (k0 : Int) (nm : ByteArray) : EvTo (fun k => bC.f (FF k) k ts q true k0 0 nm 0 E) (nd k0 nm 0 E [[]], q, true) := by
 unfold bC.f
 refine EvTo.bind (H.expr ts q) ?_
 rw [gY _ [59] rfl (by simp)]
 exact gz (by simp) (by simp) EvTo.now
theorem BU : EvTo (fun k => cu.f k ts q true) (nd 4 E 0 E [], q, true) := by
 unfold cu.f
 rw [jW]
 exact gz (by simp) (by simp) EvTo.now
end Go.Proofs.Ytendgafpkeadhaa.Par
end
section
set_option linter.unusedVariables false
set_option linter.unusedSimpArgs false
namespace Go.Proofs.Ytendgafpkeadhaa.Par
open Go Go.RowKit Go.Proofs.YtendgafpkeadhaaW.PrintWords Go.Proofs.Ytendgafpkeadhaa.Q Go.Proofs.Ytendgafpkeadhaa.Lex Go.Proofs.Ytendgafpkeadhaa.Tree
def sz (e : List S41) : Nat := e.length + 1
/-- What the family's functions tell. -/
structure Ih (S : PF) (FF : Nat → Fam) : Prop where
 expr : ∀ (ts : List S38) (q : Nat), ts.length ≤ 40000 → q ≤ ts.length → az ts q 2 sz (fun k => (FF k).expr ts (q : Int) false) (S.expr (ts.drop q))
 block : ∀ (ts : List S38) (q : Nat), ts.length ≤ 40000 → q ≤ ts.length → az ts q 2 sz (fun k => (FF k).block ts (q : Int) false) (S.block (ts.drop q))
 bound : ∀ (a : Int), 1 ≤ a → a ≤ 6 → ∀ (ts : List S38) (q : Nat), ts.length ≤ 40000 → q ≤ ts.length → az ts q 2 sz (fun k => (FF k).bound ts (q : Int) false a) (S.bound a (ts.drop q))
 unary : ∀ (ts : List S38) (q : Nat), ts.length ≤ 40000 → q ≤ ts.length → az ts q 2 sz (fun k => (FF k).unary ts (q : Int) false) (S.unary (ts.drop q))
theorem az.shift {α : Type} {ts : List S38} {q c : Nat} {sA : α → Nat} {F : Nat → Option (α × Int × Bool)} {P : R α} (h : az ts q c sA F P) : az ts q c sA (fun k => F (k + 1)) P := by
 match P, h with
 | .ok (x, r), ⟨p, h1, h2, h3, h4, h5⟩ => exact ⟨p, h1, h2, h3, h4, EvTo.shift h5⟩
 | .error (some r), ⟨x, p, h1, h2, h3, h4, h5⟩ => exact ⟨x, p, h1, h2, h3, h4, EvTo.shift h5⟩
 | .error none, _ => trivial
theorem Ih.shift {S : PF} {FF : Nat → Fam} (h : Ih S FF) : Ih S (fun k => FF (k + 1)) :=
 ⟨fun ts q a b => az.shift (h.expr ts q a b), fun ts q a b => az.shift (h.block ts q a b), fun a h1 h2 ts q b c => az.shift (h.bound a h1 h2 ts q b c), fun ts q a b => az.shift (h.unary ts q a b)⟩
/-- From a later place on: told from an earlier one. -/
theorem az.from' {α : Type} {ts : List S38} {q q0 c d : Nat} {sA : α → Nat} {F : Nat → Option (α × Int × Bool)} {P : R α} (h : az ts q c sA F P) (h1 : q0 ≤ q) (h2 : c ≤ 2 * (q - q0) + d) : az ts q0 d sA F P := by
 match P, h with
 | .ok (x, r), ⟨p, g1, g2, g3, g4, g5⟩ => exact ⟨p, by omega, g2, g3, by omega, g5⟩
 | .error (some r), ⟨x, p, g1, g2, g3, g4, g5⟩ => exact ⟨x, p, by omega, g2, g3, by omega, g5⟩
 | .error none, _ => trivial
/-- Something is found out first. -/
theorem az.evB {α β : Type} {ts : List S38} {q c : Nat} {sz : β → Nat} {F : Nat → Option α} {G : Nat → α → Option (β × Int × Bool)} {v : α} {P : R β} (h : EvTo F v) (g : az ts q c sz (fun k => G k v) P) : az ts q c sz (fun k => (F k).bind (G k)) P := by
 match P, g with
 | .ok (x, r), ⟨p, h1, h2, h3, h4, h5⟩ => exact ⟨p, h1, h2, h3, h4, EvTo.bind h h5⟩
 | .error (some r), ⟨x, p, h1, h2, h3, h4, h5⟩ => exact ⟨x, p, h1, h2, h3, h4, EvTo.bind h h5⟩
 | .error none, _ => trivial
/-- A node that is made at the end. -/
theorem az.node {ts : List S38} {q p d : Nat} {k0 : Int} {nm : ByteArray} {n : Int} {tx : ByteArray} {z : Int} {kids : List (List S41)} (hq : q ≤ p) (hp : p ≤ ts.length) (hts : ts.length ≤ 40000) (hk : kids.length ≤ 1000000) (hs : kids.flatten.length + 2 ≤ 2 * (p - q)) :
 az ts q d sz (fun k => (au.f k k0 z nm n tx kids).bind fun t => some (t, (p : Int), false)) (ret (nd k0 nm n tx kids) (ts.drop p)) :=
 az.done _ hq hp (by unfold sz; rw [nd_len]; omega) (gz hk (by omega) EvTo.now)
/-- A node that is made behind a fault. -/
theorem az.vz {q p d : Nat} {k0 : Int} {nm : ByteArray} {n : Int} {tx : ByteArray} {z : Int} {kids : List (List S41)} (hk : kids.length ≤ 1000000) (hs : kids.flatten.length + 2 ≤ 2 * (p - q) + d) (hb : p ≤ 100000) (hd : d ≤ 1000) :
 ∃ y, sz y ≤ 2 * (p - q) + d ∧ EvTo (fun k => (au.f k k0 z nm n tx kids).bind fun t => some (t, (p : Int), true)) (y, (p : Int), true) :=
 ⟨nd k0 nm n tx kids, by unfold sz; rw [nd_len]; omega, gz hk (by omega) EvTo.now⟩
theorem kR (e : List S41) : ([e] : List (List S41)).flatten.length = e.length := by simp
theorem jS (a b : List S41) : ([a, b] : List (List S41)).flatten.length = a.length + b.length := by simp
theorem flat3 (a b c : List S41) : ([a, b, c] : List (List S41)).flatten.length = a.length + (b.length + c.length) := by simp
theorem iH (l : List (List S41)) (e : List S41) : (l ++ [e]).flatten.length = l.flatten.length + e.length := by simp
variable {ts : List S38} {S : PF} {FF : Nat → Fam}
theorem um (hts : ts.length ≤ 40000) (I : Ih S FF) (H : OkB FF) (k0 : Int) (nm : ByteArray) (q : Nat) (hq : q ≤ ts.length) :
 az ts q 3 sz (fun k => bC.f (FF k) k ts (q : Int) false k0 0 nm 0 E) (fC S k0 nm (ts.drop q)) := by
 unfold bC.f fC
 refine az.bind (I.expr ts q hts hq) (fun e p h1 h2 h3 => ?_) (fun e p h1 h2 h3 => ?_)
 ·unfold sz at h3
  dsimp only
  refine az.must ⟨#[59]⟩ [59] (gy _ _ rfl) (by simp) h2 hts h1 (fun h4 => ?_) ?_
  ·dsimp only
   exact az.node (by omega) h4 hts (by simp) (by rw [kR]; omega)
  dsimp only
  exact az.vz (by simp) (by rw [kR]; omega) (by omega) (by omega)
 unfold sz at h3
 obtain ⟨y, g1, g2⟩ := az.vz (q := q) (p := p) (d := 3) (k0 := k0) (nm := nm) (n := 0) (tx := E) (z := 0) (kids := [e]) (by simp) (by rw [kR]; omega) (by omega) (by omega)
 refine ⟨y, h1, g1, ?_⟩
 dsimp only
 rw [gY _ [59] rfl (by simp)]
 exact g2
theorem EQ (hts : ts.length ≤ 40000) (k0 : Int) (q q0 : Nat) (hq : q ≤ ts.length) (h0 : q0 < q) : az ts q0 3 sz (fun k => dm.f k ts (q : Int) false k0) (nD k0 (ts.drop q)) := by
 unfold dm.f nD
 refine az.must ⟨#[59]⟩ [59] (gy _ _ rfl) (by simp) hq hts (by omega) (fun h4 => ?_) ?_
 ·dsimp only
  exact az.node (by omega) h4 hts (by simp) Z48
 dsimp only
 exact az.vz (by simp) Z48 (by omega) (by omega)
theorem Dy (e : List S41) (a b : List S41) (h : rC e = some (a, b)) : a.length + b.length + 1 ≤ e.length := by
 unfold rC ry at h
 by_cases c : jE e 0 < 0
 ·rw [if_pos c] at h; cases h
 rw [if_neg c] at h
 have hne : 1 ≤ e.length := by
  obtain ⟨j, m, _, _, _, h1, h2⟩ := mM c
  omega
 have key : ∀ w, (match its e w (0 + 1) with | a :: b :: _ => some (qc e a, qc e b) | _ => none) = some (a, b) → a.length + b.length + 1 ≤ e.length := by
  intro w hw
  match w, hw with
  | 0, hw => cases hw
  | 1, hw => cases hw
  | w + 2, hw =>
   simp only [its] at hw
   obtain ⟨rfl, rfl⟩ := Prod.mk.inj (Option.some.inj hw)
   unfold qc
   by_cases c1 : jE e (0 + 1) < 0
   ·rw [if_pos c1, CG c1, if_pos (show jE e (-1) < 0 by unfold jE; rw [if_pos (by omega)]; omega)]
    simp; omega
   rw [if_neg c1]
   obtain ⟨j, m, hj, _, hE, h1, h2⟩ := mM c1
   rw [hE]
   by_cases c2 : jE e ((j + m : Nat) : Int) < 0
   ·rw [if_pos c2]
    rw [List.length_drop, List.length_take]; simp; omega
   rw [if_neg c2]
   obtain ⟨j2, m2, hj2, _, hE2, g1, g2⟩ := mM c2
   rw [hE2, List.length_drop, List.length_take, List.length_drop, List.length_take]
   omega
 exact key _ h
theorem Ey (e : List S41) (a b : List S41) (h : rC e = some (a, b)) : ∃ x y l, ry e 0 = x :: y :: l ∧ qc e x = a ∧ qc e y = b := by
 unfold rC at h
 match hk : ry e 0, h with
 | x :: y :: l, h =>
  obtain ⟨h1, h2⟩ := Prod.mk.inj (Option.some.inj h)
  exact ⟨x, y, l, rfl, h1, h2⟩
theorem rd0 (x y : Int) (l : List Int) : rd (x :: y :: l) 0 = x := rfl
theorem rd1 (x y : Int) (l : List Int) : rd (x :: y :: l) 1 = y := rfl
theorem DT (hts : ts.length ≤ 40000) (I : Ih S FF) (H : OkB FF) (e : List S41) (b : Bool) (q p : Nat) (h1 : q ≤ p) (hp : p ≤ ts.length) (h3 : e.length + 1 ≤ 2 * (p - q)) (hb : b = decide (wd (ts.drop p) ≠ [61])) :
 az ts q 3 sz (fun k => aT.j0 (FF k) k e b ts (p : Int) false) (lX S e (ts.drop p)) := by
 unfold lX
 refine az.step (fun k => by rw [aT.j0]) ?_
 by_cases c : wd (ts.drop p) ≠ [61]
 ·rw [if_pos c]
  refine az.pos Z76 ?_
  refine az.must ⟨#[59]⟩ [59] (gy _ _ rfl) (by simp) hp hts h1 (fun h4 => ?_) ?_
  ·dsimp only
   exact az.node (by omega) h4 hts (by simp) (by rw [kR]; omega)
  dsimp only
  exact az.vz (by simp) (by rw [kR]; omega) (by omega) (by omega)
 rw [if_neg c]
 refine az.neg (by rw [hb]; simpa using c) ?_
 cases e with
 | nil => trivial
 | cons x t =>
  have hr : rd_T41 (x :: t) 0 = x := rfl
  refine az.pos Z75 ?_
  simp only [hr]
  simp only [List.length_cons] at h3
  by_cases c1 : x.f0 = 21
  ·simp only [if_pos c1]
   refine az.must ⟨#[61]⟩ [61] (gy _ _ rfl) (by simp) hp hts h1 (fun h4 => ?_) ?_
   ·refine az.congr (G := fun k => bC.f (FF (k + 1)) k ts ((p + 1 : Nat) : Int) false 7 0 x.f2 0 E) (fun k => ?_) ?_
    ·show (bC.f _ _ _ _ _ _ _ _ _ E).bind _ = _
     cases bC.f (FF (k + 1)) k ts ((p + 1 : Nat) : Int) false 7 0 x.f2 0 E <;> rfl
    exact az.from' (um hts I.shift H.shift 7 x.f2 (p + 1) h4) (by omega) (by omega)
   refine ⟨nd 7 x.f2 0 E [[]], by unfold sz; rw [nd_len, kR, List.length_nil]; omega, EvTo.bind (pV H.shift 7 x.f2) EvTo.now⟩
  simp only [if_neg c1]
  by_cases c2 : x.f0 = 26
  ·simp only [if_pos c2]
   unfold lu
   match hk : rC (x :: t) with
   | none => trivial
   | some (a, b') =>
    have hs := Dy _ _ _ hk
    obtain ⟨k0, k1, kl, e1, e2, e3⟩ := Ey _ _ _ hk
    simp only [List.length_cons] at hs
    have hlen : (x :: t).length ≤ 100000 := by simp only [List.length_cons]; omega
    have hKK := Jp (x :: t) hlen 0
    rw [e1] at hKK
    have hS0 := Hu (x :: t) hlen k0
    have hS1 := Hu (x :: t) hlen k1
    rw [e2] at hS0
    rw [e3] at hS1
    have hl0 : (0 : Int) < ((k0 :: k1 :: kl).length : Int) := by simp only [List.length_cons]; omega
    have hl1 : (1 : Int) < ((k0 :: k1 :: kl).length : Int) := by simp only [List.length_cons]; omega
    have tailE : ∀ (v : List S41) (p2 : Nat) (bb : Bool) (z : List S41 × Int × Bool), EvTo (fun k => (au.f k 8 0 E 0 E [a, b', v]).bind fun t => some (t, (p2 : Int), bb)) z →
     EvTo (fun k => (if 0 < ((k0 :: k1 :: kl).length : Int) then ((fJ.f k (x :: t) (rd (k0 :: k1 :: kl) 0)).bind fun t338 => (if 1 < ((k0 :: k1 :: kl).length : Int) then ((fJ.f k (x :: t) (rd (k0 :: k1 :: kl) 1)).bind fun t342 => ((au.f k 8 0 E 0 E (([t338, t342, v] : List (List S41)))).bind fun t348 => (some (t348, (p2 : Int), bb)))) else (none))) else (none))) z := by
     intro v p2 bb z hz
     refine EvTo.pos hl0 ?_
     rw [rd0]
     refine EvTo.bind hS0 (EvTo.pos hl1 ?_)
     rw [rd1]
     exact EvTo.bind hS1 hz
    refine az.must ⟨#[61]⟩ [61] (gy _ _ rfl) (by simp) hp hts h1 (fun h4 => ?_) ?_
    ·dsimp only
     refine az.evB hKK ?_
     refine az.bind (I.shift.expr ts (p + 1) hts h4) (fun v p2 g1 g2 g3 => ?_) (fun v p2 g1 g2 g3 => ?_)
     ·unfold sz at g3
      dsimp only
      refine az.must ⟨#[59]⟩ [59] (gy _ _ rfl) (by simp) g2 hts (by omega) (fun h5 => ?_) ?_
      ·dsimp only
       refine az.done _ (by omega) h5 ?_ (tailE _ _ _ _ (gz (by simp) (by rw [flat3]; omega) EvTo.now))
       unfold sz; rw [nd_len, flat3]; omega
      dsimp only
      refine ⟨_, ?_, tailE _ _ _ _ (gz (by simp) (by rw [flat3]; omega) EvTo.now)⟩
      unfold sz; rw [nd_len, flat3]; omega
     unfold sz at g3
     dsimp only
     refine ⟨nd 8 E 0 E [a, b', v], by omega, ?_, ?_⟩
     ·unfold sz; rw [nd_len, flat3]; omega
     rw [gY _ [59] rfl (by simp)]
     exact tailE _ _ _ _ (gz (by simp) (by rw [flat3]; omega) EvTo.now)
    dsimp only
    refine ⟨nd 8 E 0 E [a, b', []], ?_, ?_⟩
    ·unfold sz; rw [nd_len, flat3, List.length_nil]; omega
    refine EvTo.bind hKK (EvTo.bind (H.shift.expr ts _) ?_)
    dsimp only
    rw [gY _ [59] rfl (by simp)]
    exact tailE _ _ _ _ (gz (by simp) (by rw [flat3, List.length_nil]; omega) EvTo.now)
  simp only [if_neg c2]
  exact ⟨[], p, h1, hp, rfl, by unfold sz; simp only [List.length_nil]; omega, EvTo.now⟩
end Go.Proofs.Ytendgafpkeadhaa.Par
end
section
set_option linter.unusedVariables false
set_option linter.unusedSimpArgs false
namespace Go.Proofs.Ytendgafpkeadhaa.Par
open Go Go.RowKit Go.Proofs.YtendgafpkeadhaaW.PrintWords Go.Proofs.Ytendgafpkeadhaa.Q Go.Proofs.Ytendgafpkeadhaa.Lex Go.Proofs.Ytendgafpkeadhaa.Tree
variable {ts : List S38} {S : PF} {FF : Nat → Fam}
theorem Eh (a b : List UInt8) : (a != b) = decide (a ≠ b) := by by_cases h : a = b <;> simp [h]
theorem eqb (a b : List UInt8) : (a == b) = decide (a = b) := by by_cases h : a = b <;> simp [h]
theorem az.ite {α : Type} {q d : Nat} {sA : α → Nat} {F G : Nat → Option (α × Int × Bool)} {P1 P2 : R α} {c : Prop} [Decidable c] (h1 : c → az ts q d sA F P1) (h2 : ¬c → az ts q d sA G P2) :
 az ts q d sA (fun k => if c then F k else G k) (if c then P1 else P2) := by
 by_cases h : c
 ·rw [if_pos h]; exact az.pos h (h1 h)
 rw [if_neg h]; exact az.neg h (h2 h)
theorem az.idb {α : Type} {q d : Nat} {sA : α → Nat} {F : Nat → Option (α × Int × Bool)} {P : R α} (h : az ts q d sA F P) : az ts q d sA (fun k => (F k).bind fun b => some (b.1, b.2.1, b.2.2)) P :=
 az.congr (fun k => by cases F k <;> rfl) h
theorem az.tkw {β : Type} {q p d : Nat} {sB : β → Nat} {G : Nat → Bool × Int × Bool → Option (β × Int × Bool)} {f : Unit → Ps β} (wl : List UInt8) (hc : (wB (ts.drop p)).toList = wl) (hw : wl ≠ []) (hts : ts.length ≤ 40000)
 (hok : p + 1 ≤ ts.length → az ts q d sB (fun k => G k (true, ((p + 1 : Nat) : Int), false)) (f () (ts.drop (p + 1)))) :
 az ts q d sB (fun k => (ax.f ts (p : Int) false (wB (ts.drop p))).bind (G k)) (bnd Par.tk f (ts.drop p)) := az.tk (wB (ts.drop p)) (by rw [hc]; exact hw) rfl hts hok
theorem az.wz {β : Type} {q p d : Nat} {sB : β → Nat} {G : Nat → Bool × Int × Bool → Option (β × Int × Bool)} {f : Unit → Ps β} {P2 : R β} (w : ByteArray) (wl : List UInt8) (hwl : w.toList = wl) (hw : wl ≠ []) (hp : p ≤ ts.length) (hts : ts.length ≤ 40000)
 (hok : p + 1 ≤ ts.length → az ts q d sB (fun k => G k (true, ((p + 1 : Nat) : Int), false)) (f () (ts.drop (p + 1)))) (hno : wd (ts.drop p) ≠ wl → az ts q d sB (fun k => G k (false, (p : Int), false)) P2) :
 az ts q d sB (fun k => (ax.f ts (p : Int) false w).bind (G k)) (if wd (ts.drop p) = wl then (bnd Par.tk f) (ts.drop p) else P2) := by
 by_cases c : wd (ts.drop p) = wl
 ·rw [if_pos c]
  exact az.tk w (by rw [hwl]; exact hw) (by rw [hwl]; exact c) hts hok
 rw [if_neg c, ww ts p (by omega) w (by rw [hwl]; exact hw), if_neg (by rw [hwl]; exact c)]
 exact hno c
theorem takeB {q : Int} (w : ByteArray) (wl : List UInt8) (hwl : L w = wl) (hw : wl ≠ []) : ax.f ts q true w = some (false, q, true) := xR ts q w (by rw [gy w wl hwl]; exact hw)
theorem FV (hts : ts.length ≤ 40000) (I : Ih S FF) (H : OkB FF) (q : Nat) (hq : q ≤ ts.length) :
 az ts q 3 sz (fun k => aT.f (FF k) k ts (q : Int) false) (qK S (ts.drop q)) := by
 unfold aT.f qK
 refine az.bind (I.expr ts q hts hq) (fun e p h1 h2 h3 => ?_) (fun e p h1 h2 h3 => ?_)
 ·unfold sz at h3
  dsimp only
  refine az.neg (by simp) ?_
  rw [kG]
  simp only [Option.bind_some]
  exact DT hts I H e _ q p h1 h2 h3 (Eh _ _)
 unfold sz at h3
 dsimp only
 refine ⟨nd 17 E 0 E [e], h1, by unfold sz; rw [nd_len, kR]; omega, EvTo.pos rfl ?_⟩
 refine EvTo.step (fun k => by rw [aT.j0]) ?_
 refine EvTo.pos rfl ?_
 rw [gY _ [59] rfl (by simp)]
 exact gz (by simp) (by rw [kR]; omega) EvTo.now
theorem J5 (hts : ts.length ≤ 40000) (I : Ih S FF) (H : OkB FF) (q : Nat) (hq : q ≤ ts.length) (hw : (wB (ts.drop q)).toList = [108, 101, 116]) :
 az ts q 3 sz (fun k => (ax.f ts (q : Int) false (wB (ts.drop q))).bind fun bt354 => ((bu.f ts bt354.2.1 bt354.2.2 1).bind fun bt357 => ((aG.f ts bt357.2.2.2.2.1 bt357.2.2.2.2.2 (⟨#[61]⟩ : ByteArray)).bind fun bt363 => ((bC.f (FF k) k ts bt363.1 bt363.2 6 0 bt357.2.1 0 E).bind fun bt365 => some (bt365.1, bt365.2.1, bt365.2.2)))))
  ((bnd Par.tk fun _ => bnd (Par.need 1) fun t => bnd (Par.must [61]) fun _ => fC S 6 t.f1) (ts.drop q)) := by
 refine az.tkw _ hw (by simp) hts (fun h1 => ?_)
 refine az.need 1 h1 hts (by omega) (fun t h2 _ => ?_) ?_
 ·refine az.must ⟨#[61]⟩ [61] (gy _ _ rfl) (by simp) h2 hts (by omega) (fun h3 => ?_) ?_
  ·exact az.idb (az.from' (um hts I H 6 t.f1 (q + 1 + 1 + 1) h3) (by omega) (by omega))
  dsimp only
  exact ⟨nd 6 t.f1 0 E [[]], by unfold sz; rw [nd_len, kR, List.length_nil]; omega, EvTo.bind (pV H 6 t.f1) EvTo.now⟩
 dsimp only
 refine ⟨nd 6 E 0 E [[]], by unfold sz; rw [nd_len, kR, List.length_nil]; omega, ?_⟩
 rw [gY _ [61] rfl (by simp)]
 simp only [Option.bind_some]
 exact EvTo.bind (pV H 6 E) EvTo.now
theorem mW : (nd 5 E 0 E []).length = 1 := rfl
theorem JO (hts : ts.length ≤ 40000) (I : Ih S FF) (H : OkB FF) (q : Nat) (hq : q ≤ ts.length) (hw : (wB (ts.drop q)).toList = [105, 102]) :
 az ts q 3 sz (fun k => (ax.f ts (q : Int) false (wB (ts.drop q))).bind fun bt370 => ((fE.f (FF k) k ts bt370.2.1 bt370.2.2).bind fun bt373 => ((some (([bt373.1] : List (List S41)) : List (List S41))).bind fun y378 => ((iy.f (FF k) k ts bt373.2.1 bt373.2.2).bind fun bt381 => (if y378.length < 5864062014805 then ((some (y378 ++ [bt381.1] : List (List S41))).bind fun y386 => ((ax.f ts bt381.2.1 bt381.2.2 (⟨#[101, 108, 115, 101]⟩ : ByteArray)).bind fun bt389 => (if bt389.1 = true then ((iy.f (FF k) k ts bt389.2.1 bt389.2.2).bind fun bt392 => (if y386.length < 5864062014805 then ((au.f k 9 0 E 0 E (y386 ++ [bt392.1])).bind fun t400 => (some (t400, bt392.2.1, bt392.2.2))) else (none))) else ((au.f k 9 0 E 0 E y386).bind fun t403 => (some (t403, bt389.2.1, bt389.2.2)))))) else (none))))))
  ((bnd Par.tk fun _ => bnd S.expr fun e => bnd S.block fun b => fun l2 => if wd l2 = [101, 108, 115, 101] then (bnd Par.tk fun _ => bnd S.block fun c => ret (nd 9 E 0 E [e, b, c])) l2 else .ok (nd 9 E 0 E [e, b], l2)) (ts.drop q)) := by
 refine az.tkw _ hw (by simp) hts (fun h1 => ?_)
 dsimp only
 refine az.bind (I.expr ts (q + 1) hts h1) (fun e p g1 g2 g3 => ?_) (fun e p g1 g2 g3 => ?_)
 ·unfold sz at g3
  dsimp only
  simp only [Option.bind_some]
  refine az.bind (I.block ts p hts g2) (fun b p2 f1 f2 f3 => ?_) (fun b p2 f1 f2 f3 => ?_)
  ·unfold sz at f3
   dsimp only
   refine az.pos (by simp) ?_
   simp only [List.cons_append, List.nil_append]
   refine az.wz _ _ (gy _ _ rfl) (by simp) f2 hts (fun h3 => ?_) (fun hn => ?_)
   ·refine az.pos rfl ?_
    dsimp only
    refine az.bind (I.block ts (p2 + 1) hts h3) (fun c p3 e1 e2 e3 => ?_) (fun c p3 e1 e2 e3 => ?_)
    ·unfold sz at e3
     dsimp only
     refine az.pos (by simp) ?_
     exact az.node (kids := [e, b, c]) (by omega) e2 hts (by simp) (by rw [flat3]; omega)
    unfold sz at e3
    dsimp only
    refine ⟨nd 9 E 0 E [e, b, c], by omega, by unfold sz; rw [nd_len, flat3]; omega, EvTo.pos (by simp) ?_⟩
    exact gz (kids := [e, b, c]) (by simp) (by rw [flat3]; omega) EvTo.now
   refine az.neg (by simp) ?_
   exact az.node (kids := [e, b]) (by omega) f2 hts (by simp) (by rw [jS]; omega)
  unfold sz at f3
  dsimp only
  refine ⟨nd 9 E 0 E [e, b], by omega, by unfold sz; rw [nd_len, jS]; omega, EvTo.pos (by simp) ?_⟩
  rw [takeB _ [101, 108, 115, 101] rfl (by simp)]
  simp only [Option.bind_some, List.cons_append, List.nil_append]
  exact EvTo.neg (by simp) (gz (by simp) (by rw [jS]; omega) EvTo.now)
 unfold sz at g3
 dsimp only
 simp only [Option.bind_some]
 refine ⟨nd 9 E 0 E [e, nd 5 E 0 E []], by omega, by unfold sz; rw [nd_len, jS, mW]; omega, EvTo.bind (H.block ts _) (EvTo.pos (by simp) ?_)⟩
 dsimp only
 rw [takeB _ [101, 108, 115, 101] rfl (by simp)]
 simp only [Option.bind_some, List.cons_append, List.nil_append]
 exact EvTo.neg (by simp) (gz (by simp) (by rw [jS, mW]; omega) EvTo.now)
theorem Fq (hts : ts.length ≤ 40000) (I : Ih S FF) (H : OkB FF) (q : Nat) (hq : q ≤ ts.length) (hw : (wB (ts.drop q)).toList = [119, 104, 105, 108, 101]) :
 az ts q 3 sz (fun k => (ax.f ts (q : Int) false (wB (ts.drop q))).bind fun bt406 => ((fE.f (FF k) k ts bt406.2.1 bt406.2.2).bind fun bt409 => ((iy.f (FF k) k ts bt409.2.1 bt409.2.2).bind fun bt414 => ((au.f k 10 0 E 0 E (([bt409.1, bt414.1] : List (List S41)))).bind fun t422 => (some (t422, bt414.2.1, bt414.2.2))))))
  ((bnd Par.tk fun _ => bnd S.expr fun e => bnd S.block fun b => ret (nd 10 E 0 E [e, b])) (ts.drop q)) := by
 refine az.tkw _ hw (by simp) hts (fun h1 => ?_)
 dsimp only
 refine az.bind (I.expr ts (q + 1) hts h1) (fun e p g1 g2 g3 => ?_) (fun e p g1 g2 g3 => ?_)
 ·unfold sz at g3
  dsimp only
  refine az.bind (I.block ts p hts g2) (fun b p2 f1 f2 f3 => ?_) (fun b p2 f1 f2 f3 => ?_)
  ·unfold sz at f3
   dsimp only
   exact az.node (by omega) f2 hts (by simp) (by rw [jS]; omega)
  unfold sz at f3
  dsimp only
  exact ⟨nd 10 E 0 E [e, b], by omega, by unfold sz; rw [nd_len, jS]; omega, gz (by simp) (by rw [jS]; omega) EvTo.now⟩
 unfold sz at g3
 dsimp only
 exact ⟨nd 10 E 0 E [e, nd 5 E 0 E []], by omega, by unfold sz; rw [nd_len, jS, mW]; omega, EvTo.bind (H.block ts _) (gz (by simp) (by rw [jS, mW]; omega) EvTo.now)⟩
theorem IZ (hts : ts.length ≤ 40000) (wl : List UInt8) (hwl : wl ≠ []) (a k0 : Int) (ha : k0 = if a = 0 then 16 else a) (q : Nat) (hq : q ≤ ts.length) (hw : (wB (ts.drop q)).toList = wl) :
 az ts q 3 sz (fun k => aN.j0 (FF k) k (wB (ts.drop q)) a ts (q : Int) false) ((bnd Par.tk fun _ => nD k0) (ts.drop q)) := by
 refine az.step (fun k => by rw [aN.j0]) ?_
 by_cases c : a = 0
 ·rw [if_pos c] at ha
  subst ha
  exact az.pos c (az.tkw _ hw hwl hts (fun h1 => az.idb (EQ hts 16 (q + 1) q h1 (by omega))))
 rw [if_neg c] at ha
 subst ha
 exact az.neg c (az.tkw _ hw hwl hts (fun h1 => az.idb (EQ hts k0 (q + 1) q h1 (by omega))))
theorem IY (hts : ts.length ≤ 40000) (I : Ih S FF) (H : OkB FF) (wl : List UInt8) (hwl : wl ≠ []) (a : Int) (ha : a ≠ 0) (q : Nat) (hq : q ≤ ts.length) (hw : (wB (ts.drop q)).toList = wl) :
 az ts q 3 sz (fun k => aN.j1 (FF k) k (wB (ts.drop q)) a ts (q : Int) false) ((bnd Par.tk fun _ => fC S a E) (ts.drop q)) := by
 refine az.step (fun k => by rw [aN.j1]) ?_
 exact az.neg ha (az.tkw _ hw hwl hts (fun h1 => az.idb (az.from' (um hts I.shift H.shift a E (q + 1) h1) (by omega) (by omega))))
theorem Ig (hts : ts.length ≤ 40000) (I : Ih S FF) (H : OkB FF) (q : Nat) (hq : q ≤ ts.length) :
 az ts q 3 sz (fun k => aN.f (FF k) k ts (q : Int) false) (jr S (ts.drop q)) := by
 refine az.congr (fun k => by unfold aN.f; rw [kG]) ?_
 unfold jr
 simp only [Option.bind_some]
 refine az.ite (J5 hts I H q hq) (fun _ => ?_)
 refine az.ite (JO hts I H q hq) (fun _ => ?_)
 refine az.ite (Fq hts I H q hq) (fun _ => ?_)
 refine az.ite (fun c => az.neg (by omega) (IZ hts _ (by simp) 11 11 rfl q hq c)) (fun _ => ?_)
 refine az.ite (fun c => az.pos (by trivial) (IZ hts _ (by simp) 12 12 rfl q hq c)) (fun _ => ?_)
 refine az.ite (fun c => IZ hts _ (by simp) 0 16 rfl q hq c) (fun _ => ?_)
 refine az.ite (fun c => IY hts I H _ (by simp) 13 (by omega) q hq c) (fun _ => ?_)
 refine az.ite (fun c => IY hts I H _ (by simp) 14 (by omega) q hq c) (fun _ => ?_)
 refine az.ite (fun c => IY hts I H _ (by simp) 15 (by omega) q hq c) (fun _ => ?_)
 refine az.step (fun k => by rw [aN.j1]) ?_
 exact az.pos (by trivial) (az.idb (FV hts I.shift H.shift q hq))
end Go.Proofs.Ytendgafpkeadhaa.Par
end
