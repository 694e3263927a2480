/- Walks over functions of the program, words for them, and what the functions come to; of each text only what this claim uses; no condition. -/
import Derived.Test.YtlenihbmafkegaaZSA0
import Derived.Test.YtlenihbmafkegaaZSA2
import Derived.Test.YtlenihbmafkegaaZSA3
import Derived.Test.YtlenihbmafkegaaZSA4
import Derived.Test.YtlenihbmafkegaaZSA5
import Derived.Test.YtlenihbmafkegaaZSA6
import Derived.Test.YtlenihbmafkegaaZSA8
import Derived.Test.YtlenihbmafkegaaZSA9
import Derived.Test.YtlenihbmafkegaaZSA11
import Derived.Laws.BytesArg
import Derived.IntWalk
import Derived.Laws.Shifts
section
set_option linter.unusedVariables false
set_option linter.unusedSimpArgs false
namespace Go.Proofs.Ytlenihbmafkegaa.Lex
open Go
/-- A function of a number of rounds comes to a value, and stays there. -/
def ag {α : Type} (F : Nat → Option α) (v : α) : Prop := ∃ k, ∀ j, k ≤ j → F j = some v
theorem ag.now {α : Type} {v : α} : ag (fun _ => some v) v := ⟨0, fun _ _ => rfl⟩
theorem ag.kG {α : Type} {F : Nat → Option α} {v : α} (h : ∀ k, F k = some v) : ag F v := ⟨0, fun _ _ => h _⟩
theorem ag.congr {α : Type} {F G : Nat → Option α} {v : α} (h : ∀ k, F k = G k) (g : ag G v) : ag F v := by
 obtain ⟨k, hk⟩ := g
 exact ⟨k, fun j hj => (h j).trans (hk j hj)⟩
theorem ag.step {α : Type} {F G : Nat → Option α} {v : α} (h : ∀ k, F (k + 1) = G k) (g : ag G v) : ag F v := by
 obtain ⟨k, hk⟩ := g
 refine ⟨k + 1, fun j hj => ?_⟩
 obtain ⟨i, rfl⟩ : ∃ i, j = i + 1 := ⟨j - 1, by omega⟩
 rw [h]
 exact hk i (by omega)
theorem ag.bind {α β : Type} {F : Nat → Option α} {G : Nat → α → Option β} {v : α} {u : β} (f : ag F v) (g : ag (fun k => G k v) u) : ag (fun k => (F k).bind (G k)) u := by
 obtain ⟨k1, h1⟩ := f
 obtain ⟨k2, h2⟩ := g
 refine ⟨k1 + k2, fun j hj => ?_⟩
 show (F j).bind (G j) = some u
 rw [h1 j (by omega)]
 exact h2 j (by omega)
theorem ag.pos {α : Type} {F G : Nat → Option α} {v : α} {c : Prop} [Decidable c] (h : c) (f : ag F v) : ag (fun k => if c then F k else G k) v := ag.congr (fun k => if_pos h) f
theorem ag.neg {α : Type} {F G : Nat → Option α} {v : α} {c : Prop} [Decidable c] (h : ¬c) (g : ag G v) : ag (fun k => if c then F k else G k) v := ag.congr (fun k => if_neg h) g
theorem ag.one {α : Type} {F : Nat → Option α} {v : α} (h : ag F v) : ∃ k, F k = some v := by
 obtain ⟨k, hk⟩ := h
 exact ⟨k, hk k (Nat.le_refl k)⟩
theorem ag.LW {α : Type} {F : Nat → Option α} {v : α} (m : ∀ k r, F k = some r → F (k + 1) = some r) (k : Nat) (h : F k = some v) : ag F v := by
 refine ⟨k, fun j hj => ?_⟩
 induction hj with
 | refl => exact h
 | step _ ih => exact m _ _ ih
theorem ag.uniq {α : Type} {F : Nat → Option α} {v u : α} (h : ag F v) (g : ag F u) : v = u := by
 obtain ⟨k1, h1⟩ := h
 obtain ⟨k2, h2⟩ := g
 have a := h1 (k1 + k2) (by omega)
 rw [h2 (k1 + k2) (by omega)] at a
 exact (Option.some.inj a).symm
/-! The kinds of bytes. -/
def bl (c : UInt8) : Bool := c == 32 || c == 9 || c == 10 || c == 13
def le (c : UInt8) : Bool := decide (97 ≤ c.toNat ∧ c.toNat ≤ 122)
def di (c : UInt8) : Bool := decide (48 ≤ c.toNat ∧ c.toNat ≤ 57)
def inn (c : UInt8) : Bool := le c || di c || c == 95
/-- What is left behind blanks and remarks; in a remark at first? -/
def skp : Bool → List UInt8 → List UInt8
 | _, [] => []
 | false, c :: t => if bl c then skp false t else if c = 35 then skp true t else c :: t
 | true, c :: t => if c = 10 then skp false t else skp true t
def KEYS : List (List UInt8) := [[109, 111, 100, 117, 108, 101], [117, 115, 101], [102, 110], [108, 101, 116], [105, 102], [101, 108, 115, 101], [119, 104, 105, 108, 101], [98, 114, 101, 97, 107], [99, 111, 110, 116, 105, 110, 117, 101], [114, 101, 116, 117, 114, 110], [112, 117, 116], [101, 109, 105, 116], [121, 105, 101, 108, 100], [110, 105, 108], [115, 116, 97, 116, 101], [115, 112, 97, 119, 110], [108, 101, 110], [110, 111, 116], [97, 110, 100], [111, 114]]
def isKey (s : List UInt8) : Bool := KEYS.contains s
/-- A word: a letter, and then letters, digits and lines. -/
def isWord : List UInt8 → Bool
 | [] => false
 | c :: t => le c && (c :: t).all inn
def dS (s : List UInt8) : Bool := isWord s && decide (s.length ≤ 16) && !isKey s
/-- What a mask makes of a byte. -/
def esc (c : UInt8) : Option UInt8 := if c = 110 then some 10 else if c = 34 then some 34 else if c = 92 then some 92 else none
/-- What a quoted text says, behind its first sign, and what is left behind it; is the next byte masked? -/
def unq : Bool → List UInt8 → Option (List UInt8 × List UInt8)
 | _, [] => none
 | true, c :: t => match esc c with
  | none => none
  | some x => (unq false t).map fun r => (x :: r.1, r.2)
 | false, c :: t => if c = 34 then some ([], t) else if c = 10 then none else if c = 92 then unq true t else (unq false t).map fun r => (c :: r.1, r.2)
def kZ (c : UInt8) : List UInt8 := if c = 10 then [92, 110] else if c = 34 then [92, 34] else if c = 92 then [92, 92] else [c]
def quo (s : List UInt8) : List UInt8 := 34 :: (s.flatMap kZ ++ [34])
def qj (n : Int) (c : UInt8) : Int := IntKind.u64.wrap (IntKind.u64.wrap (10 * n) + (((c.toNat : Int) - 48) % 256))
def num (s : List UInt8) : Int := s.foldl qj 0
def long (s : List UInt8) : Bool := decide (19 < s.length) || (decide (1 < s.length) && s.head? == some 48)
/-- Digits' number, and whether it is one. -/
def numOf (s : List UInt8) : Int × Bool := if long s then (0, false) else (RowKit.wrap64 (num s), decide (num s < 9223372036854775808))
def PAIRS : List (List UInt8) := [[61, 61], [33, 61], [60, 61], [46, 46]]
def lU : List UInt8 := [40, 41, 123, 125, 91, 93, 44, 59, 46, 47, 61, 60, 43, 45, 42, 37]
/-- The mark with which a text begins. -/
def mark (l : List UInt8) : List UInt8 := if PAIRS.contains (l.take 2) then l.take 2 else if (match l with | [] => false | c :: _ => lU.contains c) then l.take 1 else []
/-- A token: its kind, its text, its number, how many bytes are left from its beginning on. -/
structure Tk where
 kind : Int
 text : List UInt8
 n : Int
 rem : Nat
/-- The token with which a text begins (kind, text, number) and how many bytes it has; or the fault. -/
def one (l : List UInt8) : Except Int (Int × List UInt8 × Int × Nat) :=
 match l with
 | [] => .error 0
 | c :: t =>
  if le c then
   let w := (c :: t).takeWhile inn
   if isKey w then .ok (5, w, 0, w.length) else if w.length ≤ 16 then .ok (1, w, 0, w.length) else .error 10
  else if di c then
   let d := (c :: t).takeWhile di
   if (numOf d).2 then .ok (2, d, (numOf d).1, d.length) else .error 10
  else if c = 34 then
   match unq false t with
   | some (x, r) => .ok (3, x, 0, (c :: t).length - r.length)
   | none => .error 10
  else
   let m := mark (c :: t)
   if m = [] then .error 9 else .ok (4, m, 0, m.length)
/-- The tokens of a text of which no blank nor remark stands first; or the fault, and how many bytes are left there. -/
def toks : Nat → List UInt8 → Except (Int × Nat) (List Tk)
 | 0, _ => .ok []
 | f + 1, l =>
  match l with
  | [] => .ok []
  | c :: t =>
   match one (c :: t) with
   | .error e => .error (e, (c :: t).length)
   | .ok (k, x, n, m) =>
    match toks f (skp false ((c :: t).drop m)) with
    | .error e => .error e
    | .ok ts => .ok (⟨k, x, n, (c :: t).length⟩ :: ts)
def scan (l : List UInt8) : Except (Int × Nat) (List Tk) := toks (l.length + 1) (skp false l)
theorem nY : ∀ (l : List UInt8) (b : Bool), (skp b l).length ≤ l.length
 | [], b => by cases b <;> simp [skp]
 | c :: t, b => by
  have h0 := nY t false
  have h1 := nY t true
  cases b <;> simp only [skp] <;> (repeat' split) <;> simp <;> omega
theorem jK {α : Type} (p : α → Bool) (l : List α) : (l.takeWhile p).length ≤ l.length := by
 induction l with
 | nil => simp
 | cons a t ih => simp only [List.takeWhile_cons]; split <;> simp <;> omega
theorem sD : ∀ (l : List UInt8) (b : Bool) (x r : List UInt8), unq b l = some (x, r) → r.length < l.length
 | [], b, x, r, h => by cases b <;> simp [unq] at h
 | c :: t, true, x, r, h => by
  simp only [unq] at h
  split at h
  ·cases h
  simp only [Option.map_eq_some_iff, Prod.mk.injEq] at h
  obtain ⟨⟨y, s⟩, h1, h2, h3⟩ := h
  have := sD t false y s h1
  subst h3
  simp
  omega
 | c :: t, false, x, r, h => by
  simp only [unq] at h
  split at h
  ·simp only [Option.some.injEq, Prod.mk.injEq] at h
   rw [← h.2]; simp
  split at h
  ·cases h
  split at h
  ·have := sD t true x r h
   simp; omega
  simp only [Option.map_eq_some_iff, Prod.mk.injEq] at h
  obtain ⟨⟨y, s⟩, h1, h2, h3⟩ := h
  have := sD t false y s h1
  subst h3
  simp
  omega
theorem Ac (l : List UInt8) : (mark l).length ≤ l.length := by
 unfold mark
 repeat' split
 all_goals simp
 all_goals omega
/-- A token has a byte at least, and no more than there are. -/
theorem uY {l : List UInt8} {k : Int} {x : List UInt8} {n : Int} {m : Nat} (h : one l = .ok (k, x, n, m)) : 1 ≤ m ∧ m ≤ l.length := by
 unfold one at h
 split at h
 ·cases h
 rename_i c t
 split at h
 ·rename_i hc
  have hw := jK inn (c :: t)
  have hw1 : 1 ≤ ((c :: t).takeWhile inn).length := by
   have : inn c = true := by simp [inn, hc]
   simp [List.takeWhile_cons, this]
  simp only [] at h
  split at h
  ·simp only [Except.ok.injEq, Prod.mk.injEq] at h
   omega
  split at h
  ·simp only [Except.ok.injEq, Prod.mk.injEq] at h
   omega
  cases h
 split at h
 ·rename_i hc
  have hw := jK di (c :: t)
  have hw1 : 1 ≤ ((c :: t).takeWhile di).length := by simp [List.takeWhile_cons, hc]
  simp only [] at h
  split at h
  ·simp only [Except.ok.injEq, Prod.mk.injEq] at h
   omega
  cases h
 split at h
 ·split at h
  ·rename_i x' r hu
   have := sD t false x' r hu
   simp only [Except.ok.injEq, Prod.mk.injEq] at h
   simp at h ⊢
   omega
  cases h
 simp only [] at h
 split at h
 ·cases h
 rename_i hm
 have := Ac (c :: t)
 simp only [Except.ok.injEq, Prod.mk.injEq] at h
 have : 1 ≤ (mark (c :: t)).length := by
  rcases hmm : mark (c :: t) with _ | ⟨a, b⟩
  ·exact absurd hmm hm
  simp
 omega
end Go.Proofs.Ytlenihbmafkegaa.Lex
end
section
set_option linter.unusedVariables false
set_option linter.unusedSimpArgs false
namespace Go.Proofs.Ytlenihbmafkegaa.Tree
open Go Go.RowKit Go.Proofs.YtlenihbmafkegaaW.PrintWords Go.Proofs.Ytlenihbmafkegaa.Q Go.Proofs.Ytlenihbmafkegaa.Lex
theorem inc (i : Nat) (h : i + 1 ≤ 9223372036854775807) : wrap64 ((i : Int) + 1) = ((i + 1 : Nat) : Int) := by unfold wrap64; omega
theorem zY (l : List S40) (i : Nat) (h : i < l.length) : au l (i : Int) = l[i] := by
 simp [au, List.getD_eq_getElem?_getD, List.getElem?_eq_getElem h]
end Go.Proofs.Ytlenihbmafkegaa.Tree
end
section
set_option linter.unusedVariables false
set_option linter.unusedSimpArgs false
namespace Go.Proofs.Ytlenihbmafkegaa.Tree
open Go Go.RowKit Go.Proofs.YtlenihbmafkegaaW.PrintWords Go.Proofs.Ytlenihbmafkegaa.Q Go.Proofs.Ytlenihbmafkegaa.Lex
/-- How many nodes stand there till so many trees are whole; each node's kids are at most so many. -/
def jv (n : Nat) : List S40 → Nat → Option Nat
 | [], _ => none
 | x :: t, w => if x.f1 < 0 ∨ (n : Int) < x.f1 then none else if w - 1 + x.f1.toNat = 0 then some 1 else (jv n t (w - 1 + x.f1.toNat)).map (· + 1)
def uy (i : Nat) : Option Nat → Int
 | none => -1
 | some m => ((i + m : Nat) : Int)
def jS (l : List S40) (i : Int) : Int := if i < 0 then -1 else uy i.toNat (jv l.length (l.drop i.toNat) 1)
theorem Hu (i : Nat) (o : Option Nat) : uy i (o.map (· + 1)) = uy (i + 1) o := by
 cases o with
 | none => rfl
 | some m => simp only [Option.map_some, uy]; omega
theorem w64 {n : Int} (h : -9223372036854775808 ≤ n) (h2 : n ≤ 9223372036854775807) : wrap64 n = n := by unfold wrap64; omega
theorem O1 (l : List S40) (hl : l.length ≤ 100000) : ∀ (m i w : Nat), l.length = m + i → 1 ≤ w → w ≤ 1 + i * 100000 →
 ag (fun k => bK.l0 k l (i : Int) (w : Int)) (uy i (jv l.length (l.drop i) w)) := by
 intro m
 induction m with
 | zero =>
  intro i w h1 h2 h3
  rw [List.drop_eq_nil_of_le (by omega)]
  refine ag.step (fun k => by rw [bK.l0]) ?_
  exact ag.neg (by omega) ag.now
 | succ m ih =>
  intro i w h1 h2 h3
  have hi : i < l.length := by omega
  rw [List.drop_eq_getElem_cons hi]
  refine ag.step (fun k => by rw [bK.l0]) ?_
  refine ag.pos (by omega) (ag.pos (by omega) ?_)
  rw [zY l i hi]
  simp only [jv]
  by_cases c1 : l[i].f1 < 0
  ·rw [if_pos (.inl c1)]
   refine ag.pos c1 ?_
   refine ag.step (fun k => by rw [bK.j1]) ?_
   exact ag.pos rfl ag.now
  refine ag.neg c1 ?_
  refine ag.step (fun k => by rw [bK.j1]) ?_
  by_cases c2 : (l.length : Int) < l[i].f1
  ·rw [if_pos (.inr c2)]
   exact ag.pos (decide_eq_true c2) ag.now
  refine ag.neg (by simpa using c2) ?_
  rw [if_neg (by omega)]
  have e2 : wrap64 ((w : Int) + wrap64 (l[i].f1 - 1)) = ((w - 1 + l[i].f1.toNat : Nat) : Int) := by
   rw [w64 (n := l[i].f1 - 1) (by omega) (by omega), w64 (by omega) (by omega)]
   omega
  rw [e2, inc i (by omega)]
  by_cases c3 : w - 1 + l[i].f1.toNat = 0
  ·rw [if_pos c3]
   refine ag.pos (by omega) (ag.kG fun k => ?_)
   simp only [uy]
  rw [if_neg c3, Hu]
  refine ag.neg (by omega) ?_
  exact ih (i + 1) _ (by omega) (by omega) (by omega)
theorem yc (l : List S40) (hl : l.length ≤ 100000) (i : Int) : ag (fun k => bK.f k l i) (jS l i) := by
 unfold bK.f jS
 by_cases c : i < 0
 ·rw [if_pos c]; exact ag.pos c ag.now
 rw [if_neg c]
 refine ag.neg c ?_
 by_cases c2 : i.toNat ≤ l.length
 ·have h := O1 l hl (l.length - i.toNat) i.toNat 1 (by omega) (by omega) (by omega)
  rw [show ((i.toNat : Nat) : Int) = i by omega] at h
  exact h
 rw [List.drop_eq_nil_of_le (by omega)]
 refine ag.step (fun k => by rw [bK.l0]) ?_
 exact ag.neg (by omega) ag.now
/-! What an end says. -/
theorem yU (n : Nat) : ∀ (t : List S40) (w m : Nat), jv n t w = some m → 1 ≤ m ∧ m ≤ t.length := by
 intro t
 induction t with
 | nil => intro w m h; cases h
 | cons x t ih =>
  intro w m h
  simp only [jv] at h
  split at h
  ·cases h
  split at h
  ·cases h; simp
  obtain ⟨q, hq, rfl⟩ := Option.map_eq_some_iff.1 h
  have := ih _ _ hq
  simp; omega
/-- Fewer trees are whole no later. -/
theorem EW (n : Nat) : ∀ (t : List S40) (w w' m : Nat), jv n t w = some m → 1 ≤ w' → w' ≤ w → ∃ m', m' ≤ m ∧ jv n t w' = some m' := by
 intro t
 induction t with
 | nil => intro w w' m h; cases h
 | cons x t ih =>
  intro w w' m h h1 h2
  simp only [jv] at h ⊢
  split at h
  ·cases h
  rename_i hc
  rw [if_neg hc]
  split at h
  ·cases h
   exact ⟨1, Nat.le_refl _, by rw [if_pos (by omega)]⟩
  obtain ⟨q, hq, rfl⟩ := Option.map_eq_some_iff.1 h
  by_cases c : w' - 1 + x.f1.toNat = 0
  ·exact ⟨1, by omega, by rw [if_pos c]⟩
  obtain ⟨m', hm, he⟩ := ih _ (w' - 1 + x.f1.toNat) _ hq (by omega) (by omega)
  exact ⟨m' + 1, by omega, by rw [if_neg c, he]; rfl⟩
/-- Each node within begins a tree that is whole. -/
theorem DT (n : Nat) : ∀ (t : List S40) (w m j : Nat), jv n t w = some m → 1 ≤ w → j < m → ∃ m', j + m' ≤ m ∧ jv n (t.drop j) 1 = some m' := by
 intro t
 induction t with
 | nil => intro w m j h; cases h
 | cons x t ih =>
  intro w m j h hw hj
  cases j with
  | zero =>
   obtain ⟨m', h1, h2⟩ := EW n _ w 1 m h (by omega) hw
   exact ⟨m', by omega, h2⟩
  | succ j =>
   simp only [jv] at h
   split at h
   ·cases h
   split at h
   ·cases h; omega
   obtain ⟨q, hq, rfl⟩ := Option.map_eq_some_iff.1 h
   obtain ⟨m', h1, h2⟩ := ih _ _ j hq (by omega) (by omega)
   exact ⟨m', by omega, by rw [List.drop_succ_cons]; exact h2⟩
/-- The kids of a tree's nodes are fewer than its nodes. -/
theorem uz (n : Nat) : ∀ (t : List S40) (w m : Nat), jv n t w = some m → 1 ≤ w → ∀ x ∈ t.take m, 0 ≤ x.f1 ∧ (w : Int) + x.f1 ≤ m := by
 intro t
 induction t with
 | nil => intro w m h; cases h
 | cons x t ih =>
  intro w m h hw y hy
  have hlen : ∀ (t : List S40) (w m : Nat), jv n t w = some m → 1 ≤ w → w ≤ m := by
   intro t
   induction t with
   | nil => intro w m h; cases h
   | cons x t ih =>
    intro w m h hw
    simp only [jv] at h
    split at h
    ·cases h
    split at h
    ·cases h; omega
    obtain ⟨q, hq, rfl⟩ := Option.map_eq_some_iff.1 h
    have := ih _ _ hq (by omega)
    omega
  simp only [jv] at h
  split at h
  ·cases h
  rename_i hc
  split at h
  ·cases h
   simp at hy
   subst hy
   omega
  rename_i h0
  obtain ⟨q, hq, rfl⟩ := Option.map_eq_some_iff.1 h
  rw [List.take_succ_cons] at hy
  have h2 := hlen _ _ _ hq (by omega)
  rcases List.mem_cons.1 hy with rfl | hy
  ·omega
  have := ih _ _ hq (by omega) y hy
  omega
end Go.Proofs.Ytlenihbmafkegaa.Tree
end
section
set_option linter.unusedVariables false
set_option linter.unusedSimpArgs false
namespace Go.Proofs.Ytlenihbmafkegaa.Tree
open Go Go.RowKit Go.Proofs.YtlenihbmafkegaaW.PrintWords Go.Proofs.Ytlenihbmafkegaa.Q Go.Proofs.Ytlenihbmafkegaa.Lex
/-- The nodes around, with the kids that are missing, the innermost first: those that miss none are left. -/
def close : List Nat → List Nat
 | [] => []
 | 0 :: st => close st
 | (n + 1) :: st => n :: st
/-- The deepest, over nodes, from nodes around on. -/
def qy : List S40 → List Nat → Nat → Nat
 | [], _, b => b
 | x :: t, st, b => qy t (close (x.f1.toNat :: st)) (max b (st.length + 1))
/-- Each node begins a tree that is whole. -/
def rF (l : List S40) : Nat → Bool
 | 0 => true
 | m + 1 => (jv l.length (l.drop (l.length - (m + 1))) 1).isSome && rF l m
def ints (st : List Nat) : List Int := (st.map Int.ofNat).reverse
theorem oG (st : List Nat) : (ints st).length = st.length := by simp [ints]
theorem oH (n : Nat) (st : List Nat) : ints (n :: st) = ints st ++ [(n : Int)] := by simp [ints]
theorem xW : ∀ st : List Nat, (close st).length ≤ st.length
 | [] => Nat.le_refl _
 | 0 :: st => by simp only [close]; have := xW st; simp; omega
 | (n + 1) :: st => by simp [close]
theorem xU : ∀ (st : List Nat) (B : Nat), (∀ n ∈ st, n ≤ B) → ∀ n ∈ close st, n ≤ B
 | [], _, _, n, h => by cases h
 | 0 :: st, B, hB, n, h => xU st B (fun m hm => hB m (by simp [hm])) n (by simpa [close] using h)
 | (q + 1) :: st, B, hB, n, h => by
  rcases List.mem_cons.1 (show n ∈ q :: st from h) with rfl | h
  ·have := hB (n + 1) (by simp); omega
  exact hB n (by simp [h])
theorem IC (l : List S40) (hl : l.length ≤ 100000) (b : Int) (i : Nat) (hi : i + 1 ≤ 300000) (v : Int) : ∀ st : List Nat, st ≠ [] → st.length ≤ 300000 → (∀ n ∈ st, n ≤ 100000) →
 ag (fun k => bu.l0 k l b (ints (close st)) l (l.length : Int) ((i + 1 : Nat) : Int)) v → ag (fun k => bu.l1 k l b (ints st) l (l.length : Int) (i : Int)) v := by
 intro st
 induction st with
 | nil => intro h; exact absurd rfl h
 | cons n st ih =>
  intro _ hs hB h
  simp only [List.length_cons] at hs
  have hlen : ((ints (n :: st)).length : Int) = (st.length : Int) + 1 := by rw [oG]; simp
  refine ag.step (fun k => by rw [bu.l1]) ?_
  rw [hlen, show wrap64 ((st.length : Int) + 1 - 1) = (st.length : Int) by unfold wrap64; omega, inc i (by omega)]
  refine ag.pos (by omega) (ag.pos (by omega) ?_)
  have hrd : rd (ints (n :: st)) (st.length : Int) = (n : Int) := by
   rw [oH]
   simp [rd, List.getD_eq_getElem?_getD, List.getElem?_append_right, oG]
  rw [hrd, Int.toNat_natCast]
  cases n with
  | zero =>
   refine ag.neg (by simp) (ag.pos (by omega) ?_)
   have ht : (ints (0 :: st)).take st.length = ints st := by
    rw [oH]
    exact List.take_left' (oG st)
   simp only [ht, Option.bind_some]
   simp only [close] at h
   cases st with
   | nil => exact ag.pos rfl h
   | cons m st => exact ag.neg (by simp; omega) (ih (by simp) (by omega) (fun q hq => hB q (by simp [hq])) h)
  | succ n =>
   have hn := hB (n + 1) (by simp)
   refine ag.pos (by omega) ?_
   have hset : (ints ((n + 1) :: st)).set st.length (wrap64 (((n + 1 : Nat) : Int) - 1)) = ints (n :: st) := by
    rw [show wrap64 (((n + 1 : Nat) : Int) - 1) = (n : Int) by unfold wrap64; omega, oH, oH, List.set_append]
    simp [oG]
   rw [hset]
   exact h
theorem Kv (l : List S40) (hl : l.length ≤ 100000) : ∀ (m i : Nat) (st : List Nat) (b : Nat), l.length = m + i → st.length ≤ i → b ≤ i → (∀ n ∈ st, n ≤ 100000) →
 ag (fun k => bu.l0 k l (b : Int) (ints st) l (l.length : Int) (i : Int)) (if rF l m then (qy (l.drop i) st b : Int) else -1) := by
 intro m
 induction m with
 | zero =>
  intro i st b h1 h2 h3 h4
  rw [List.drop_eq_nil_of_le (by omega)]
  refine ag.step (fun k => by rw [bu.l0]) ?_
  exact ag.neg (by omega) ag.now
 | succ m ih =>
  intro i st b h1 h2 h3 h4
  have hi : i < l.length := by omega
  refine ag.step (fun k => by rw [bu.l0]) ?_
  refine ag.pos (by omega) (ag.pos (by omega) (ag.pos (by omega) ?_))
  refine ag.bind (yc l hl (i : Int)) ?_
  have he : jS l (i : Int) = uy i (jv l.length (l.drop i) 1) := by
   unfold jS
   rw [if_neg (by omega), Int.toNat_natCast]
  rw [he]
  simp only [rF, show l.length - (m + 1) = i by omega]
  cases hF : jv l.length (l.drop i) 1 with
  | none => exact ag.pos (by simp [uy]) ag.now
  | some q =>
   refine ag.neg (by simp only [uy]; omega) (ag.pos (by rw [oG]; omega) ?_)
   rw [zY l i hi]
   have hk : 0 ≤ l[i].f1 ∧ l[i].f1 ≤ 100000 := by
    rw [List.drop_eq_getElem_cons hi] at hF
    simp only [jv] at hF
    split at hF
    ·cases hF
    omega
   have hpush : ints st ++ [l[i].f1] = ints (l[i].f1.toNat :: st) := by
    rw [oH, Int.toNat_of_nonneg hk.1]
   simp only [hpush, Option.bind_some, Option.isSome_some, Bool.true_and]
   have hmx : mx (b : Int) ((ints (l[i].f1.toNat :: st)).length : Int) = ((max b (st.length + 1) : Nat) : Int) := by
    rw [oG]; unfold mx; simp only [List.length_cons]; split <;> omega
   rw [hmx]
   have hm : ∀ n ∈ l[i].f1.toNat :: st, n ≤ 100000 := by
    intro n hn
    rcases List.mem_cons.1 hn with rfl | hn
    ·omega
    exact h4 n hn
   refine IC l hl _ i (by omega) _ _ (by simp) (by simp; omega) hm ?_
   rw [List.drop_eq_getElem_cons hi]
   have hcl := xW (l[i].f1.toNat :: st)
   exact ih (i + 1) _ _ (by omega) (by simp only [List.length_cons] at hcl; omega) (by omega) (xU _ 100000 hm)
theorem Kw (l : List S40) (hl : l.length ≤ 100000) : ag (fun k => bu.f k l) (if rF l l.length then (qy l [] 0 : Int) else -1) := by
 have h := Kv l hl l.length 0 [] 0 (by omega) (by simp) (by omega) (by simp)
 exact h
theorem Es (l : List S40) (m : Nat) (hm : m ≤ l.length) (h : ∀ j, j < l.length → (jv l.length (l.drop j) 1).isSome = true) : rF l m = true := by
 induction m with
 | zero => rfl
 | succ m ih =>
  simp only [rF]
  rw [h _ (by omega), ih (by omega)]; rfl
end Go.Proofs.Ytlenihbmafkegaa.Tree
end
section
set_option linter.unusedVariables false
set_option linter.unusedSimpArgs false
namespace Go.Proofs.Ytlenihbmafkegaa.Tree
open Go Go.RowKit Go.Proofs.YtlenihbmafkegaaW.PrintWords Go.Proofs.Ytlenihbmafkegaa.Q Go.Proofs.Ytlenihbmafkegaa.Lex
def sH (l : List S40) (i : Int) : List S40 := if jS l i < 0 then [] else (l.take (jS l i).toNat).drop i.toNat
/-- An end that is there. -/
theorem oJ {l : List S40} {i : Int} (h : ¬ jS l i < 0) : ∃ j m : Nat, i = j ∧ jv l.length (l.drop j) 1 = some m ∧ jS l i = ((j + m : Nat) : Int) ∧ 1 ≤ m ∧ j + m ≤ l.length := by
 have hi : ¬ i < 0 := by
  intro c
  unfold jS at h
  rw [if_pos c] at h
  omega
 unfold jS at h ⊢
 rw [if_neg hi] at h
 refine ⟨i.toNat, ?_⟩
 cases he : jv l.length (l.drop i.toNat) 1 with
 | none => rw [he] at h; simp [uy] at h
 | some m =>
  obtain ⟨h1, h2⟩ := yU _ _ _ _ he
  rw [List.length_drop] at h2
  refine ⟨m, by omega, rfl, ?_, h1, by omega⟩
  rw [if_neg hi]
  rfl
theorem EU {l : List S40} {i : Int} (h : jS l i < 0) : jS l i = -1 := by
 unfold jS at h ⊢
 split
 ·rfl
 rename_i c
 rw [if_neg c] at h
 cases he : jv l.length (l.drop i.toNat) 1 with
 | none => rfl
 | some m => rw [he] at h; simp only [uy] at h; omega
theorem FO {l : List S40} {j m : Nat} (h : j + m ≤ l.length) : (l.take (j + m)).drop j = (l.drop j).take m := by
 rw [List.drop_take, Nat.add_sub_cancel_left]
theorem KR (l : List S40) (hl : l.length ≤ 100000) (i : Int) : ag (fun k => fM.f k l i) (sH l i) := by
 unfold fM.f
 refine ag.bind (yc l hl i) ?_
 by_cases c : jS l i < 0
 ·have hs : sH l i = [] := by unfold sH; rw [if_pos c]
  rw [hs]
  exact ag.pos c ag.now
 obtain ⟨j, m, rfl, _, he, h1, h2⟩ := oJ c
 have hs : sH l (j : Int) = (l.take (j + m)).drop j := by
  unfold sH
  rw [if_neg c, he, Int.toNat_natCast, Int.toNat_natCast]
 rw [hs, he]
 refine ag.neg (by omega) (ag.pos (by omega) (ag.pos (by omega) (ag.pos (by omega) ?_)))
 simp only [Option.bind_some, Int.toNat_natCast]
 refine ag.pos ?_ (ag.kG fun k => by simp)
 simp only [List.length_nil, List.length_drop, List.length_take]
 omega
end Go.Proofs.Ytlenihbmafkegaa.Tree
end
section
set_option linter.unusedVariables false
set_option linter.unusedSimpArgs false
namespace Go.Proofs.Ytlenihbmafkegaa.Tree
open Go Go.RowKit Go.Proofs.YtlenihbmafkegaaW.PrintWords Go.Proofs.Ytlenihbmafkegaa.Q Go.Proofs.Ytlenihbmafkegaa.Lex
/-- So many trees, one behind the other, the deepest of them so deep. -/
inductive Fo : List S40 → Nat → Nat → Prop
 | nil : Fo [] 0 0
 | cons (x : S40) (t v : List S40) (w D1 D2 : Nat) (hx : 0 ≤ x.f1) (ht : Fo t x.f1.toNat D1) (hv : Fo v w D2) : Fo (x :: (t ++ v)) (w + 1) (max (1 + D1) D2)
theorem Fo.none {u : List S40} {D : Nat} (h : Fo u 0 D) : u = [] ∧ D = 0 := by
 cases h; exact ⟨rfl, rfl⟩
theorem Fo.split : ∀ (a b : Nat) (u : List S40) (D : Nat), Fo u (a + b) D → ∃ u1 u2 D1 D2, u = u1 ++ u2 ∧ Fo u1 a D1 ∧ Fo u2 b D2 ∧ D = max D1 D2 := by
 intro a
 induction a with
 | zero =>
  intro b u D h
  rw [Nat.zero_add] at h
  exact ⟨[], u, 0, D, rfl, Fo.nil, h, by omega⟩
 | succ a ih =>
  intro b u D h
  generalize hn : a + 1 + b = n at h
  cases h with
  | nil => omega
  | cons x t v w D1 D2 hx ht hv =>
   obtain rfl : w = a + b := by omega
   obtain ⟨v1, v2, E1, E2, rfl, h1, h2, rfl⟩ := ih b v D2 hv
   refine ⟨x :: (t ++ v1), v2, max (1 + D1) E1, E2, by simp, Fo.cons x t v1 a D1 E1 hx ht h1, h2, by omega⟩
/-- What is whole is so many trees. -/
theorem Fo.Gt (n : Nat) : ∀ (t : List S40) (w m : Nat), jv n t w = some m → 1 ≤ w → ∃ D, Fo (t.take m) w D := by
 intro t
 induction t with
 | nil => intro w m h; cases h
 | cons x t ih =>
  intro w m h hw
  simp only [jv] at h
  split at h
  ·cases h
  rename_i hc
  have hx : 0 ≤ x.f1 := by omega
  split at h
  ·rename_i h0
   cases h
   obtain rfl : w = 1 := by omega
   have hk : x.f1.toNat = 0 := by omega
   exact ⟨_, Fo.cons x [] [] 0 0 0 hx (by rw [hk]; exact Fo.nil) Fo.nil⟩
  obtain ⟨q, hq, rfl⟩ := Option.map_eq_some_iff.1 h
  obtain ⟨D, hD⟩ := ih _ _ hq (by omega)
  rw [Nat.add_comm] at hD
  obtain ⟨u1, u2, D1, D2, e, h1, h2, rfl⟩ := Fo.split _ _ _ _ hD
  rw [List.take_succ_cons, e]
  obtain ⟨w, rfl⟩ : ∃ v, w = v + 1 := ⟨w - 1, by omega⟩
  exact ⟨_, Fo.cons x u1 u2 w D1 D2 hx h1 h2⟩
/-- The end of so many trees, whatever stands behind. -/
theorem Fo.jv {n : Nat} {u : List S40} {w D : Nat} (h : Fo u w D) (hn : ∀ x ∈ u, ¬ ((n : Int) < x.f1)) : ∀ (rest : List S40) (c : Nat), 1 ≤ w + c →
 Tree.jv n (u ++ rest) (w + c) = if c = 0 then some u.length else (Tree.jv n rest c).map (· + u.length) := by
 induction h with
 | nil =>
  intro rest c hc
  rw [if_neg (by omega)]
  simp
 | cons x t v w D1 D2 hx ht hv ih1 ih2 =>
  intro rest c hc
  have hnx := hn x (by simp)
  simp only [List.cons_append, Tree.jv]
  rw [if_neg (by omega)]
  by_cases h0 : w + 1 + c - 1 + x.f1.toNat = 0
  ·rw [if_pos h0]
   have hk : x.f1.toNat = 0 := by omega
   rw [hk] at ht
   obtain rfl : w = 0 := by omega
   rw [ht.none.1, hv.none.1, if_pos (by omega)]
   rfl
  rw [if_neg h0, List.append_assoc, show w + 1 + c - 1 + x.f1.toNat = x.f1.toNat + (w + c) by omega,
   ih1 (fun y hy => hn y (by simp [hy])) (v ++ rest) (w + c) (by omega)]
  by_cases h1 : w + c = 0
  ·rw [if_pos h1, if_pos (by omega)]
   obtain rfl : w = 0 := by omega
   rw [hv.none.1]; simp
  rw [if_neg h1, ih2 (fun y hy => hn y (by simp [hy])) rest c (by omega)]
  by_cases h2 : c = 0
  ·rw [if_pos h2, if_pos h2]
   simp; omega
  rw [if_neg h2, if_neg h2, Option.map_map, Option.map_map]
  congr 1
  funext q
  simp; omega
/-- How deep: the nodes around count, too. -/
theorem Fo.qy {u : List S40} {w D : Nat} (h : Fo u w D) : ∀ (rest : List S40) (st : List Nat) (b : Nat), 1 ≤ w →
 Tree.qy (u ++ rest) ((w - 1) :: st) b = Tree.qy rest (close st) (max b (st.length + 1 + D)) := by
 induction h with
 | nil => intro rest st b hw; omega
 | cons x t v w D1 D2 hx ht hv ih1 ih2 =>
  intro rest st b _
  rw [Nat.add_sub_cancel]
  simp only [List.cons_append, List.append_assoc, Tree.qy, List.length_cons]
  have last : ∀ b', Tree.qy (v ++ rest) (close (w :: st)) b' = Tree.qy rest (close st) (max b' (if w = 0 then 0 else st.length + 1 + D2)) := by
   intro b'
   cases w with
   | zero => rw [hv.none.1]; simp [close]
   | succ w =>
    rw [if_neg (by omega)]
    exact ih2 rest st b' (by omega)
  cases hk : x.f1.toNat with
  | zero =>
   rw [hk] at ht
   rw [ht.none.1, ht.none.2]
   simp only [List.nil_append, close]
   rw [last]
   congr 1
   split
   ·rename_i q; subst q; rw [hv.none.2]; omega
   omega
  | succ k =>
   rw [hk] at ih1
   have h1 := ih1 (v ++ rest) (w :: st) (max b (st.length + 1 + 1)) (by omega)
   simp only [Nat.add_sub_cancel, List.length_cons] at h1
   simp only [close]
   rw [h1, last]
   congr 1
   split
   ·rename_i q; subst q; rw [hv.none.2]; omega
   omega
theorem Fo.depth {u : List S40} {D : Nat} (h : Fo u 1 D) : Tree.qy u [] 0 = D := by
 generalize hn : 1 = n at h
 cases h with
 | nil => omega
 | cons x t v w D1 D2 hx ht hv =>
  obtain rfl : w = 0 := by omega
  rw [hv.none.1, hv.none.2, List.append_nil]
  simp only [Tree.qy, List.length_nil]
  cases hk : x.f1.toNat with
  | zero =>
   rw [hk] at ht
   rw [ht.none.1, ht.none.2]
   simp [Tree.qy]
  | succ k =>
   rw [hk] at ht
   have h1 := ht.qy [] [] (max 0 (0 + 1)) (by omega)
   simp only [Nat.add_sub_cancel, List.append_nil, List.length_nil] at h1
   simp only [close]
   rw [h1]
   simp only [close, Tree.qy]
   omega
end Go.Proofs.Ytlenihbmafkegaa.Tree
end
section
set_option linter.unusedVariables false
set_option linter.unusedSimpArgs false
namespace Go.Proofs.Ytlenihbmafkegaa.Tree
open Go Go.RowKit Go.Proofs.YtlenihbmafkegaaW.PrintWords Go.Proofs.Ytlenihbmafkegaa.Q Go.Proofs.Ytlenihbmafkegaa.Lex
theorem Fo.len {u : List S40} {w D : Nat} (h : Fo u w D) : w ≤ u.length := by
 induction h with
 | nil => exact Nat.le_refl _
 | cons x t v w D1 D2 hx ht hv ih1 ih2 => simp; omega
theorem Fo.kids {u : List S40} {w D : Nat} (h : Fo u w D) : ∀ y ∈ u, y.f1 + (w : Int) ≤ u.length := by
 induction h with
 | nil => intro y hy; cases hy
 | cons x t v w D1 D2 hx ht hv ih1 ih2 =>
  have h1 := ht.len
  have h2 := hv.len
  intro y hy
  simp only [List.length_cons, List.length_append]
  rcases List.mem_cons.1 hy with rfl | hy
  ·omega
  rcases List.mem_append.1 hy with hy | hy
  ·have := ih1 y hy; omega
  have := ih2 y hy; omega
theorem Fo.deep {u : List S40} {w D : Nat} (h : Fo u w D) : D ≤ u.length := by
 induction h with
 | nil => exact Nat.le_refl _
 | cons x t v w D1 D2 hx ht hv ih1 ih2 => simp; omega
theorem Fo.one {s : List S40} {D : Nat} (h : Fo s 1 D) : ∃ x t D1, s = x :: t ∧ D = 1 + D1 ∧ 0 ≤ x.f1 ∧ Fo t x.f1.toNat D1 := by
 generalize hn : 1 = n at h
 cases h with
 | nil => omega
 | cons x t v w D1 D2 hx ht hv =>
  obtain rfl : w = 0 := by omega
  obtain ⟨rfl, rfl⟩ := hv.none
  exact ⟨x, t, D1, by simp, by omega, hx, ht⟩
/-- The places of so many trees, from one on. -/
def its (l : List S40) : Nat → Int → List Int
 | 0, _ => []
 | d + 1, p => p :: its l d (jS l p)
theorem Bg (l : List S40) (hl : l.length ≤ 100000) (i : Nat) (hi : i < l.length) (h0 : 0 ≤ l[i].f1) (h9 : l[i].f1 ≤ 100000) : ∀ (d : Nat) (acc : List Int) (at' : Int), l[i].f1.toNat = d + acc.length →
 ag (fun k => bU.l0 k l (i : Int) acc at') (acc ++ its l d at') := by
 intro d
 induction d with
 | zero =>
  intro acc at' h
  refine ag.step (fun k => by rw [bU.l0]) ?_
  refine ag.pos (by omega) (ag.pos (by omega) ?_)
  rw [zY l i hi, its, List.append_nil]
  exact ag.neg (by omega) ag.now
 | succ d ih =>
  intro acc at' h
  have h1 := ih (acc ++ [at']) (jS l at') (by simp; omega)
  rw [List.append_assoc] at h1
  refine ag.step (fun k => by rw [bU.l0]) ?_
  refine ag.pos (by omega) (ag.pos (by omega) ?_)
  rw [zY l i hi]
  exact ag.pos (by omega) (ag.pos (by omega) (ag.bind (yc l hl at') h1))
theorem yK (l : List S40) : ∀ (d : Nat) (p : Int), (its l d p).length = d
 | 0, _ => rfl
 | d + 1, p => by rw [its, List.length_cons, yK]
/-- A tree that stands at a place: where it ends. -/
theorem ou {l rest : List S40} {x : S40} {t : List S40} {p D1 : Nat} (hx : 0 ≤ x.f1) (ht : Fo t x.f1.toNat D1) (hd : l.drop p = (x :: t) ++ rest) (hn : ∀ y ∈ x :: t, ¬ ((l.length : Int) < y.f1)) :
 jS l (p : Int) = ((p + (x :: t).length : Nat) : Int) := by
 have hone : Fo (x :: t) 1 (1 + D1) := by
  have := Fo.cons x t [] 0 D1 0 hx ht Fo.nil
  rw [List.append_nil] at this
  rwa [show max (1 + D1) 0 = 1 + D1 by omega] at this
 have hF : Tree.jv l.length (l.drop p) 1 = some (x :: t).length := by
  rw [hd]
  have := hone.jv (n := l.length) hn rest 0 (by omega)
  simpa using this
 unfold jS
 rw [if_neg (by omega), Int.toNat_natCast, hF]; rfl
/-- The places of so many trees lie where the trees do. -/
theorem MN (l : List S40) : ∀ (w : Nat) (u rest : List S40) (D p : Nat), Fo u w D → l.drop p = u ++ rest → (∀ y ∈ u, ¬ ((l.length : Int) < y.f1)) → ∀ q ∈ its l w (p : Int), (p : Int) ≤ q ∧ q < ((p + u.length : Nat) : Int) := by
 intro w
 induction w with
 | zero => intro u rest D p h hd hn q hq; simp [its] at hq
 | succ w ih =>
  intro u rest D p h hd hn q hq
  generalize hw : w + 1 = w1 at h
  cases h with
  | nil => omega
  | cons x t v w' D1 D2 hx ht hv =>
   obtain rfl : w' = w := by omega
   have hd2 : l.drop p = (x :: t) ++ (v ++ rest) := by rw [hd]; simp
   have he := ou hx ht hd2 (fun y hy => hn y (by rcases List.mem_cons.1 hy with rfl | hy; simp; simp [hy]))
   rw [its, he] at hq
   rcases List.mem_cons.1 hq with rfl | hq
   ·constructor
    ·omega
    simp only [List.length_cons, List.length_append]; omega
   have := ih v rest D2 (p + (x :: t).length) hv (by rw [← List.drop_drop, hd2, List.drop_left']; rfl) (fun y hy => hn y (by simp [hy])) q hq
   simp only [List.length_cons, List.length_append] at this ⊢
   omega
/-- A whole tree is one tree of all its nodes. -/
theorem Fq {l : List S40} (h : Tree.jv l.length l 1 = some l.length) : ∃ x t D1, l = x :: t ∧ 0 ≤ x.f1 ∧ Fo t x.f1.toNat D1 ∧ (∀ y ∈ l, ¬ ((l.length : Int) < y.f1)) ∧ Fo l 1 (1 + D1) := by
 obtain ⟨D, hD⟩ := Fo.Gt _ _ _ _ h (Nat.le_refl 1)
 rw [List.take_length] at hD
 have hk := uz _ _ _ _ h (Nat.le_refl 1)
 rw [List.take_length] at hk
 obtain ⟨x, t, D1, e, rfl, hx, ht⟩ := hD.one
 exact ⟨x, t, D1, e, hx, ht, fun y hy => by have := hk y hy; omega, hD⟩
/-- Of a whole tree: each node's kids come to their places, all of them within. -/
theorem CZ {l : List S40} (hl : l.length ≤ 100000) (h : Tree.jv l.length l 1 = some l.length) (i : Nat) (hi : i < l.length) :
 ag (fun k => bU.f k l (i : Int)) (its l (au l (i : Int)).f1.toNat ((i + 1 : Nat) : Int)) ∧ (its l (au l (i : Int)).f1.toNat ((i + 1 : Nat) : Int)).length ≤ 100000 ∧
 ∀ q ∈ its l (au l (i : Int)).f1.toNat ((i + 1 : Nat) : Int), (i : Int) < q ∧ q < (l.length : Int) := by
 obtain ⟨m, hm, hF⟩ := DT _ _ _ _ i h (Nat.le_refl 1) hi
 have hkk := uz _ _ _ _ hF (Nat.le_refl 1)
 obtain ⟨h1, h2⟩ := yU _ _ _ _ hF
 have hin : l[i] ∈ (l.drop i).take m := by
  obtain ⟨q, rfl⟩ : ∃ q, m = q + 1 := ⟨m - 1, by omega⟩
  rw [List.drop_eq_getElem_cons hi, List.take_succ_cons]
  exact List.mem_cons_self
 have hk := hkk _ hin
 have he : jS l (i : Int) = ((i + m : Nat) : Int) := by
  unfold jS
  rw [if_neg (by omega), Int.toNat_natCast, hF]; rfl
 have hr := zY l i hi
 refine ⟨?_, by rw [yK, hr]; omega, ?_⟩
 ·rw [hr]
  unfold bU.f
  refine ag.bind (yc l hl (i : Int)) ?_
  rw [inc i (by omega), he]
  refine ag.neg (by omega) ?_
  have := Bg l hl i hi hk.1 (by omega) l[i].f1.toNat [] ((i + 1 : Nat) : Int) (by simp)
  simpa using this
 intro q hq
 obtain ⟨D, hD⟩ := Fo.Gt _ _ _ _ hF (Nat.le_refl 1)
 have hdrop0 : l.drop i = (l.drop i).take m ++ l.drop (i + m) := by rw [← List.drop_drop, List.take_append_drop]
 have hdrop : l[i] :: l.drop (i + 1) = (l.drop i).take m ++ l.drop (i + m) := (List.drop_eq_getElem_cons hi).symm.trans hdrop0
 clear hdrop0
 have hlen : ((l.drop i).take m).length = m := by rw [List.length_take, List.length_drop]; omega
 generalize (l.drop i).take m = s at *
 obtain ⟨x, t, D1, rfl, rfl, hx, ht⟩ := hD.one
 obtain ⟨hxl, hdr⟩ := List.cons.inj hdrop
 have htl : t.length + 1 = m := by simpa using hlen
 rw [hr, hxl] at hq
 have := MN l x.f1.toNat t (l.drop (i + m)) D1 (i + 1) ht hdr (fun y hy => by have := hkk y (by simp [hy]); omega) q hq
 omega
end Go.Proofs.Ytlenihbmafkegaa.Tree
end
section
set_option linter.unusedVariables false
set_option linter.unusedSimpArgs false
namespace Go.Proofs.Ytlenihbmafkegaa.Tree
open Go Go.RowKit Go.Proofs.YtlenihbmafkegaaW.PrintWords Go.Proofs.Ytlenihbmafkegaa.Q Go.Proofs.Ytlenihbmafkegaa.Lex
def pG (l : List S40) (i : Int) : List Int := if jS l i < 0 then [] else its l (au l i).f1.toNat (i + 1)
theorem J8 {l : List S40} (hl : l.length ≤ 100000) {i : Int} (c : ¬ jS l i < 0) : ∃ j : Nat, i = j ∧ ∃ hj : j < l.length, 0 ≤ l[j].f1 ∧ l[j].f1 ≤ 100000 := by
 obtain ⟨j, m, rfl, hF, he, h1, h2⟩ := oJ c
 have hj : j < l.length := by omega
 refine ⟨j, rfl, hj, ?_⟩
 have hkk := uz _ _ _ _ hF (Nat.le_refl 1)
 have hin : l[j] ∈ (l.drop j).take m := by
  obtain ⟨q, rfl⟩ : ∃ q, m = q + 1 := ⟨m - 1, by omega⟩
  rw [List.drop_eq_getElem_cons hj, List.take_succ_cons]
  exact List.mem_cons_self
 have := hkk _ hin
 omega
theorem I7 (l : List S40) (hl : l.length ≤ 100000) (i : Int) : ag (fun k => bU.f k l i) (pG l i) := by
 unfold bU.f pG
 refine ag.bind (yc l hl i) ?_
 by_cases c : jS l i < 0
 ·rw [if_pos c]; exact ag.pos c ag.now
 rw [if_neg c]
 obtain ⟨j, rfl, hj, h0, h9⟩ := J8 hl c
 rw [inc j (by omega), zY l j hj]
 refine ag.neg c ?_
 have := Bg l hl j hj h0 h9 l[j].f1.toNat [] ((j + 1 : Nat) : Int) (by simp)
 simpa using this
end Go.Proofs.Ytlenihbmafkegaa.Tree
end
section
set_option linter.unusedVariables false
set_option linter.unusedSimpArgs false
namespace Go.Proofs.Ytlenihbmafkegaa.Par
open Go Go.RowKit Go.Proofs.YtlenihbmafkegaaW.PrintWords Go.Proofs.Ytlenihbmafkegaa.Q Go.Proofs.Ytlenihbmafkegaa.Lex Go.Proofs.Ytlenihbmafkegaa.Tree
/-- What is read, and the tokens that are left; a fault, and the tokens that are left there; none: the rounds are used up. -/
abbrev R (α : Type) := Except (Option (List S56)) (α × List S56)
abbrev Ps (α : Type) := List S56 → R α
def bnd {α β : Type} (p : Ps α) (f : α → Ps β) : Ps β := fun l => match p l with | .ok (a, r) => f a r | .error e => .error e
def ret {α : Type} (a : α) : Ps α := fun l => .ok (a, l)
def out {α : Type} : Ps α := fun _ => .error none
def E : ByteArray := ⟨#[]⟩
/-- The next token's text, if it is a key or a mark. -/
def wB : List S56 → ByteArray
 | [] => E
 | t :: _ => if t.f0 = 5 ∨ t.f0 = 4 then t.f1 else E
def wd (l : List S56) : List UInt8 := (wB l).toList
def must (w : List UInt8) : Ps Unit := fun l => if wd l = w then .ok ((), l.tail) else .error (some l)
def need (k : Int) : Ps S56
 | [] => .error (some [])
 | t :: r => if t.f0 = k then .ok (t, r) else .error (some (t :: r))
/-- Passes over a token that is there. -/
def tk : Ps Unit
 | [] => .error none
 | _ :: r => .ok ((), r)
def nd (k : Int) (nm : ByteArray) (n : Int) (tx : ByteArray) (kids : List (List S40)) : List S40 := ⟨k, (kids.length : Int), nm, n, tx⟩ :: kids.flatten
structure PF where
 expr : Ps (List S40)
 block : Ps (List S40)
 bound : Int → Ps (List S40)
 unary : Ps (List S40)
def iM (F : PF) (k : Int) (nm : ByteArray) : Ps (List S40) := bnd F.expr fun e => bnd (must [59]) fun _ => ret (nd k nm 0 E [e])
def pO (k : Int) : Ps (List S40) := bnd (must [59]) fun _ => ret (nd k E 0 E [])
def rq (e : List S40) : Option (List S40 × List S40) := match pG e 0 with
 | a :: b :: _ => some (sH e a, sH e b)
 | _ => none
def pY (F : PF) (e : List S40) : Ps (List S40) := match rq e with
 | some (a, b) => bnd (must [61]) fun _ => bnd F.expr fun v => bnd (must [59]) fun _ => ret (nd 8 E 0 E [a, b, v])
 | none => out
def qg (F : PF) (e : List S40) : Ps (List S40) := fun l =>
 if wd l ≠ [61] then (bnd (must [59]) fun _ => ret (nd 17 E 0 E [e])) l
 else match e with
  | [] => .error none
  | x :: _ => if x.f0 = 21 then (bnd (must [61]) fun _ => iM F 7 x.f2) l else if x.f0 = 26 then pY F e l else .error (some l)
def o7 (F : PF) : Ps (List S40) := bnd F.expr (qg F)
def jc (F : PF) : Ps (List S40) := fun l =>
 if wd l = [108, 101, 116] then (bnd tk fun _ => bnd (need 1) fun t => bnd (must [61]) fun _ => iM F 6 t.f1) l
 else if wd l = [105, 102] then (bnd tk fun _ => bnd F.expr fun e => bnd F.block fun b => fun l2 => if wd l2 = [101, 108, 115, 101] then (bnd tk fun _ => bnd F.block fun c => ret (nd 9 E 0 E [e, b, c])) l2 else .ok (nd 9 E 0 E [e, b], l2)) l
 else if wd l = [119, 104, 105, 108, 101] then (bnd tk fun _ => bnd F.expr fun e => bnd F.block fun b => ret (nd 10 E 0 E [e, b])) l
 else if wd l = [98, 114, 101, 97, 107] then (bnd tk fun _ => pO 11) l
 else if wd l = [99, 111, 110, 116, 105, 110, 117, 101] then (bnd tk fun _ => pO 12) l
 else if wd l = [121, 105, 101, 108, 100] then (bnd tk fun _ => pO 16) l
 else if wd l = [114, 101, 116, 117, 114, 110] then (bnd tk fun _ => iM F 13 E) l
 else if wd l = [112, 117, 116] then (bnd tk fun _ => iM F 14 E) l
 else if wd l = [101, 109, 105, 116] then (bnd tk fun _ => iM F 15 E) l
 else o7 F l
def nU (F : PF) : Nat → List (List S40) → Ps (List S40)
 | 0, _ => out
 | n + 1, acc => fun l => if wd l = [125] then (bnd (must [125]) fun _ => ret (nd 5 E 0 E acc)) l else (bnd (jc F) fun s => nU F n (acc ++ [s])) l
def pz (F : PF) (N : Nat) : Ps (List S40) := bnd (must [123]) fun _ => nU F N []
def lh (one : Ps (List S40)) : Nat → List (List S40) → Ps (List (List S40))
 | 0, _ => out
 | n + 1, acc => fun l => if wd l = [41] then (bnd (must [41]) fun _ => ret acc) l
  else if acc = [] then (bnd one fun x => lh one n (acc ++ [x])) l else (bnd (must [44]) fun _ => bnd one fun x => lh one n (acc ++ [x])) l
def dZ (one : Ps (List S40)) (N : Nat) : Ps (List (List S40)) := bnd (must [40]) fun _ => lh one N []
def nK : Ps (List S40) := bnd (need 1) fun t => ret (nd 4 t.f1 0 E [])
def iR (F : PF) (N : Nat) (k : Int) (nm : ByteArray) : Ps (List S40) := bnd (dZ nK N) fun ps => bnd (pz F N) fun b => ret (nd k nm 0 E (ps ++ [b]))
def uJ (F : PF) (N : Nat) : Ps (List S40) := bnd (need 1) fun t => fun l =>
 if wd l = [46] then (bnd tk fun _ => bnd (need 1) fun u => bnd (dZ F.expr N) fun ks => ret (nd 23 t.f1 0 u.f1 ks)) l else .ok (nd 21 t.f1 0 E [], l)
def nO (F : PF) (N : Nat) : Ps (List S40)
 | [] => .error (some [])
 | t :: r => if t.f0 = 2 then .ok (nd 19 E t.f2 E [], r) else if t.f0 = 3 then .ok (nd 20 E 0 t.f1 [], r) else uJ F N (t :: r)
def lW (F : PF) (N : Nat) : Ps (List S40) := fun l =>
 if wd l = [110, 105, 108] then (bnd tk fun _ => ret (nd 18 E 0 E [])) l
 else if wd l = [115, 116, 97, 116, 101] then (bnd tk fun _ => ret (nd 29 E 0 E [])) l
 else if wd l = [123] then (bnd tk fun _ => bnd (must [125]) fun _ => ret (nd 25 E 0 E [])) l
 else if wd l = [102, 110] then (bnd tk fun _ => iR F N 24 E) l
 else if wd l = [40] then (bnd tk fun _ => bnd F.expr fun e => bnd (must [41]) fun _ => ret e) l
 else nO F N l
def l7 (F : PF) (N : Nat) : Nat → List S40 → Ps (List S40)
 | 0, _ => out
 | n + 1, e => fun l => if wd l = [40] then (bnd (dZ F.expr N) fun ks => l7 F N n (nd 22 E 0 E ([e] ++ ks))) l
  else if wd l = [91] then (bnd tk fun _ => bnd F.expr fun i => bnd (must [93]) fun _ => l7 F N n (nd 26 E 0 E [e, i])) l
  else .ok (e, l)
def kW (F : PF) (N : Nat) : Ps (List S40) := fun l =>
 if wd l = [45] ∨ wd l = [110, 111, 116] ∨ wd l = [108, 101, 110] then (bnd tk fun _ => bnd F.unary fun e => ret (nd 28 E 0 (wB l) [e])) l
 else if wd l = [115, 112, 97, 119, 110] then (bnd tk fun _ => bnd F.unary fun e => ret (nd 30 E 0 E [e])) l
 else (bnd (lW F N) fun e => l7 F N N e) l
def gG (w : List UInt8) : Int :=
 if w = [111, 114] then 1 else if w = [97, 110, 100] then 2 else if w = [61, 61] ∨ w = [33, 61] ∨ w = [60] ∨ w = [60, 61] then 3
 else if w = [43] ∨ w = [45] ∨ w = [46, 46] then 4 else if w = [42] ∨ w = [47] ∨ w = [37] then 5 else 0
def lJ (F : PF) (a : Int) : Nat → List S40 → Ps (List S40)
 | 0, _ => out
 | n + 1, e => fun l => if gG (wd l) = a then (bnd tk fun _ => bnd (F.bound (a + 1)) fun e2 => if a = 3 then ret (nd 27 E 0 (wB l) [e, e2]) else lJ F a n (nd 27 E 0 (wB l) [e, e2])) l else .ok (e, l)
def ja (F : PF) (N : Nat) (a : Int) : Ps (List S40) := if a = 6 then kW F N else bnd (F.bound (a + 1)) fun e => lJ F a N e
def kJ (F : PF) (N : Nat) : Ps (List S40) := ja F N 1
def fU : Nat → PF
 | 0 => ⟨out, out, fun _ => out, out⟩
 | n + 1 => ⟨kJ (fU n) n, pz (fU n) n, fun a => ja (fU n) n a, kW (fU n) n⟩
def yh : Ps (List S40) := bnd (need 1) fun a => bnd (must [46]) fun _ => bnd (need 1) fun b => bnd (must [47]) fun _ => bnd (need 2) fun c => bnd (must [59]) fun _ => ret (nd 2 a.f1 c.f2 b.f1 [])
def oq (F : PF) (N : Nat) (nm : ByteArray) (v : Int) : Nat → List (List S40) → Ps (List S40)
 | 0, _ => out
 | n + 1, acc => fun l => if wd l = [102, 110] then (bnd tk fun _ => bnd (need 1) fun t => bnd (iR F N 3 t.f1) fun f => oq F N nm v n (acc ++ [f])) l else .ok (nd 1 nm v E acc, l)
def mF (F : PF) (N : Nat) (nm : ByteArray) (v : Int) : Nat → List (List S40) → Ps (List S40)
 | 0, _ => out
 | n + 1, acc => fun l => if wd l = [117, 115, 101] then (bnd tk fun _ => bnd yh fun u => mF F N nm v n (acc ++ [u])) l else oq F N nm v N acc l
def jC (F : PF) (N : Nat) : Ps (List S40) := bnd (must [109, 111, 100, 117, 108, 101]) fun _ => bnd (need 1) fun t => bnd (need 2) fun u => bnd (must [59]) fun _ => mF F N t.f1 u.f2 N []
end Go.Proofs.Ytlenihbmafkegaa.Par
end
section
set_option linter.unusedVariables false
set_option linter.unusedSimpArgs false
namespace Go.Proofs.Ytlenihbmafkegaa.Lex
open Go Go.RowKit Go.Proofs.YtlenihbmafkegaaW.PrintWords
/-- A string's bytes. -/
def L (s : ByteArray) : List UInt8 := s.data.toList
theorem iL (s : ByteArray) : s.toList = L s := ByteArray.toList_eq s
theorem dL (s : ByteArray) : s.size = (L s).length := by cases s; rfl
theorem qH {s t : ByteArray} (h : L s = L t) : s = t := by
 obtain ⟨⟨a⟩⟩ := s
 obtain ⟨⟨b⟩⟩ := t
 have h' : a = b := h
 rw [h']
theorem oL (s t : ByteArray) : L (s ++ t) = L s ++ L t := by simp [L]
theorem ny (s : ByteArray) (a b : Nat) : L (s.extract a b) = ((L s).drop a).take (b - a) := by
 simp [L, List.extract_eq_take_drop]
theorem I4 : L (⟨#[]⟩ : ByteArray) = [] := rfl
theorem Iz (xs : List Int) : L (strOfNums xs) = xs.map fun n => UInt8.ofNat n.toNat := rfl
/-- The string of these bytes. -/
def S (l : List UInt8) : ByteArray := ⟨l.toArray⟩
theorem L_S (l : List UInt8) : L (S l) = l := rfl
theorem S_L (s : ByteArray) : S (L s) = s := qH (L_S _)
theorem CQ (s : ByteArray) (i : Nat) : bt s (i : Int) = (((L s).getD i 0).toNat : Int) := by
 unfold bt
 simp only [Int.toNat_natCast]
 split
 ·rename_i h
  have h2 : i < (L s).length := by rw [← dL]; exact h
  rw [List.getD_eq_getElem?_getD, List.getElem?_eq_getElem h2]
  rfl
 rename_i h
 have h2 : (L s).length ≤ i := by rw [← dL]; omega
 rw [List.getD_eq_getElem?_getD, List.getElem?_eq_none h2]
 rfl
theorem wY (s : ByteArray) (i : Nat) : byteAt s i = ((L s).getD i 0).toNat := by
 have h := CQ s i
 unfold bt at h
 unfold byteAt
 simp only [Int.toNat_natCast] at h
 split at h
 ·rename_i c
  rw [dif_pos c]; omega
 rename_i c
 rw [dif_neg c]; omega
theorem jy (c d : UInt8) : ((c.toNat : Int) = (d.toNat : Int)) ↔ c = d := by
 rw [← UInt8.toNat_inj]; omega
theorem ku (l : List UInt8) (i : Nat) (h : i < l.length) : l.drop i = l.getD i 0 :: l.drop (i + 1) := by
 rw [List.getD_eq_getElem?_getD, List.getElem?_eq_getElem h]
 exact List.drop_eq_getElem_cons h
/-! The kinds. -/
theorem xZ (c : UInt8) : gq (c.toNat : Int) = bl c := by
 have e1 := jy c 32
 have e2 := jy c 9
 have e3 := jy c 10
 have e4 := jy c 13
 simp only [UInt8.reduceToNat] at e1 e2 e3 e4
 unfold gq bl
 rw [Bool.eq_iff_iff]
 simp only [decide_eq_true_eq, Bool.or_eq_true, beq_iff_eq, ← e1, ← e2, ← e3, ← e4]
 omega
theorem Cb (c : UInt8) : gV (c.toNat : Int) = !(c == 10) := by
 have e3 := jy c 10
 simp only [UInt8.reduceToNat] at e3
 unfold gV
 rw [Bool.eq_iff_iff]
 simp only [decide_eq_true_eq, Bool.not_eq_true', beq_eq_false_iff_ne, ne_eq, ← e3]
 omega
theorem BP (c : UInt8) : lS (c.toNat : Int) = le c := by
 unfold lS le
 rw [Bool.eq_iff_iff]
 simp only [decide_eq_true_eq]
 omega
theorem xR (c : UInt8) : kP (c.toNat : Int) = di c := by
 unfold kP di
 rw [Bool.eq_iff_iff]
 simp only [decide_eq_true_eq]
 omega
theorem wJ (c : UInt8) : lD (c.toNat : Int) = inn c := by
 rw [Ag, BP, xR]
 have e := jy c 95
 simp only [UInt8.reduceToNat] at e
 unfold inn
 rw [show ((c.toNat : Int) == 95) = (c == 95) by rw [Bool.eq_iff_iff]; simp only [beq_iff_eq, ← e]; omega]
 rw [Bool.or_assoc]
theorem OE (p : Int → Bool) (q : UInt8 → Bool) (pq : ∀ c : UInt8, p (c.toNat : Int) = q c) (s : ByteArray) : ∀ f i, s.size ≤ i + f → i ≤ s.size → hd p s f i = i + (((L s).drop i).takeWhile q).length := by
 intro f
 induction f with
 | zero =>
  intro i h1 h2
  rw [dL] at h1
  simp [hd, List.drop_eq_nil_of_le (show (L s).length ≤ i by omega)]
 | succ f ih =>
  intro i h1 h2
  unfold hd
  by_cases c : i < s.size
  ·rw [if_pos c]
   rw [ku (L s) i (by rw [← dL]; exact c), List.takeWhile_cons, wY, pq]
   by_cases q1 : q ((L s).getD i 0) = true
   ·rw [if_pos q1, if_pos q1, ih (i + 1) (by omega) (by omega)]
    simp; omega
   rw [if_neg q1, if_neg q1]; rfl
  rw [if_neg c, List.drop_eq_nil_of_le (by rw [← dL]; omega)]; rfl
theorem xO (p : Int → Bool) (q : UInt8 → Bool) (pq : ∀ c : UInt8, p (c.toNat : Int) = q c) (s : ByteArray) : headLen p s = ((L s).takeWhile q).length := by
 unfold headLen
 rw [OE p q pq s s.size 0 (by omega) (by omega)]
 simp
theorem vP {α : Type} (q : α → Bool) (l : List α) : l.take (l.takeWhile q).length = l.takeWhile q := by
 induction l with
 | nil => rfl
 | cons a t ih =>
  rw [List.takeWhile_cons]
  split
  ·simp [ih]
  rfl
theorem qw {α : Type} (q : α → Bool) (l : List α) : l.drop (l.takeWhile q).length = l.dropWhile q := by
 induction l with
 | nil => rfl
 | cons a t ih =>
  rw [List.takeWhile_cons, List.dropWhile_cons]
  split
  ·simp [ih]
  rfl
theorem wK (p : Int → Bool) (q : UInt8 → Bool) (pq : ∀ c : UInt8, p (c.toNat : Int) = q c) (s : ByteArray) : L (iy p s) = (L s).takeWhile q := by
 unfold iy
 rw [ny, xO p q pq]
 simp [vP]
theorem wW (p : Int → Bool) (q : UInt8 → Bool) (pq : ∀ c : UInt8, p (c.toNat : Int) = q c) (s : ByteArray) : L (iZ p s) = (L s).dropWhile q := by
 unfold iZ
 rw [ny, oh, xO p q pq, qw, List.take_of_length_le]
 have := congrArg List.length (qw q (L s))
 rw [List.length_drop] at this
 rw [dL]
 omega
theorem vT : ∀ (l : List UInt8), skp false l = skp false (l.dropWhile bl)
 | [] => rfl
 | c :: t => by
  by_cases h : bl c = true
  ·rw [List.dropWhile_cons, if_pos h, ← vT t]
   simp [skp, h]
  rw [List.dropWhile_cons, if_neg h]
theorem zM : ∀ (l : List UInt8), skp true l = skp false (l.dropWhile (fun c => !(c == 10)))
 | [] => rfl
 | c :: t => by
  by_cases h : c = 10
  ·subst h
   simp [skp, List.dropWhile_cons, bl]
  rw [List.dropWhile_cons, if_pos (by simp [h]), ← zM t]
  simp [skp, h]
theorem Jn : ∀ (f : Nat) (s : ByteArray), s.size < f → L (uI f s) = skp false (L s) := by
 intro f
 induction f with
 | zero => intro s h; omega
 | succ f ih =>
  intro s h
  rw [vT, ← wW gq bl xZ s]
  simp only [uI]
  have ha : (iZ gq s).size ≤ s.size := by rw [qx]; omega
  have hb : ∀ c t, L (iZ gq s) = c :: t → bl c = false := by
   intro c t e
   rw [wW gq bl xZ s] at e
   have := List.head?_dropWhile_not bl (L s)
   rw [e] at this
   simpa using this
  generalize iZ gq s = a at *
  by_cases c : 0 < a.size ∧ byteAt a 0 = 35
  ·rw [if_pos c]
   rw [ih _ (by have := ru a c.1 c.2; omega), wW gV _ Cb]
   rw [← zM]
   have c1 := c.1
   have c2 := c.2
   rw [wY] at c2
   rw [dL] at c1
   rcases hl : L a with _ | ⟨x, t⟩
   ·rw [hl] at c1; simp at c1
   rw [hl] at c2
   simp only [List.getD_cons_zero] at c2
   have hx : x = 35 := by rw [← UInt8.toNat_inj]; exact c2
   subst hx
   simp [skp, bl]
  rw [if_neg c]
  rcases hl : L a with _ | ⟨x, t⟩
  ·rfl
  have hx : bl x = false := hb x t hl
  have hx2 : x ≠ 35 := by
   intro e
   apply c
   rw [wY, dL, hl]
   subst e
   simp
  simp [skp, hx, hx2]
theorem vY (s : ByteArray) : L (nJ s) = skp false (L s) := Jn _ s (by omega)
end Go.Proofs.Ytlenihbmafkegaa.Lex
end
section
set_option linter.unusedVariables false
set_option linter.unusedSimpArgs false
namespace Go.Proofs.Ytlenihbmafkegaa.Lex
open Go Go.RowKit Go.Proofs.YtlenihbmafkegaaW.PrintWords Go.Proofs.Ytlenihbmafkegaa.Q
theorem w64 (n : Int) (h : -9223372036854775808 ≤ n ∧ n ≤ 9223372036854775807) : wrap64 n = n := IntWalk.wrap64_in n h
theorem bt0 (s : ByteArray) (c : UInt8) (t : List UInt8) (h : L s = c :: t) : bt s 0 = (c.toNat : Int) := by
 have := CQ s 0
 rw [h] at this
 simpa using this
theorem La (s : ByteArray) (i : Int) : wrap32 (bt s i) = bt s i := by
 have := H7 s i
 exact IntWalk.wrap32_in _ (by omega)
theorem isE (s : ByteArray) : (s.toList = ([] : List UInt8)) ↔ L s = [] := by rw [iL]
theorem Ad (c : UInt8) : iI.f (c.toNat : Int) = some (le c) := by
 unfold iI.f le
 by_cases h : (c.toNat : Int) ≥ 97
 ·rw [if_pos h]
  congr 1
  rw [Bool.eq_iff_iff]
  simp only [decide_eq_true_eq]
  omega
 rw [if_neg h]
 congr 1
 symm
 rw [decide_eq_false_iff_not]
 omega
theorem JL (c : UInt8) : kS.f (c.toNat : Int) = some (di c) := by
 unfold kS.f di
 by_cases h : (c.toNat : Int) ≥ 48
 ·rw [if_pos h]
  congr 1
  rw [Bool.eq_iff_iff]
  simp only [decide_eq_true_eq]
  omega
 rw [if_neg h]
 congr 1
 symm
 rw [decide_eq_false_iff_not]
 omega
theorem xq {α : Type} (q : α → Bool) (l : List α) : ((l.takeWhile q).length = l.length) ↔ l.all q = true := by
 induction l with
 | nil => simp
 | cons a t ih =>
  rw [List.takeWhile_cons, List.all_cons]
  by_cases h : q a = true
  ·rw [if_pos h]
   simp only [List.length_cons, h, Bool.true_and]
   rw [← ih]; omega
  rw [if_neg h]
  simp [h]
theorem Fj (s : ByteArray) : ji.f s = some (isWord (L s)) := by
 unfold ji.f
 rcases hl : L s with _ | ⟨c, t⟩
 ·rw [if_pos ((isE s).2 hl)]; rfl
 rw [if_neg (by rw [isE, hl]; simp), if_pos (by rw [dL, hl]; simp), La, bt0 s c t hl, Ad]
 simp only [Option.bind_some]
 by_cases h : le c = true
 ·rw [if_pos h]
  unfold jZ.f
  simp only [Option.bind_some]
  congr 1
  rw [isWord, h, Bool.true_and, ← hl, Bool.eq_iff_iff]
  rw [beq_iff_eq, dL, dL, wK lD inn wJ, ← xq]
  omega
 rw [if_neg h]
 simp [isWord, h]
/-! within -/
theorem I5 (a : ByteArray) (i n : Nat) : L (a.extract i (i + n)) = ((L a).drop i).take n := by
 rw [ny, Nat.add_sub_cancel_left]
/-- Does a list stand in another one, from a place on? -/
def lF (b : List UInt8) : List UInt8 → Bool
 | [] => b.isPrefixOf []
 | c :: t => b.isPrefixOf (c :: t) || lF b t
theorem lX (b l : List UInt8) : b.isPrefixOf l = true ↔ (b.length ≤ l.length ∧ l.take b.length = b) := by
 rw [List.isPrefixOf_iff_prefix]
 constructor
 ·rintro ⟨r, rfl⟩
  simp
 rintro ⟨h1, h2⟩
 have h3 := List.take_append_drop b.length l
 rw [h2] at h3
 exact ⟨_, h3⟩
theorem nP (b : List UInt8) : ∀ l : List UInt8, l.length < b.length → lF b l = false
 | [], h => by
  cases b with
  | nil => simp at h
  | cons x y => rfl
 | c :: t, h => by
  simp only [lF]
  rw [nP b t (by simp at h; omega), Bool.or_false, Bool.eq_false_iff, ne_eq, lX]
  omega
theorem Fp (a b : ByteArray) (hb : 1 ≤ b.size) (hs : a.size + b.size ≤ 4611686018427387904) : ∀ (m i : Nat), a.size ≤ m + i → i ≤ a.size + 1 → ag (fun k => df.l0 k a b (i : Int)) (lF (L b) ((L a).drop i)) := by
 intro m
 induction m with
 | zero =>
  intro i h1 h2
  refine ag.step (G := fun _ => some false) (fun k => ?_) (by
   rw [nP _ _ (by rw [List.length_drop, ← dL, ← dL]; omega)]
   exact ag.now)
  simp only [df.l0]
  rw [w64 _ (by omega), if_neg (by omega)]
 | succ m ih =>
  intro i h1 h2
  by_cases c : i + b.size ≤ a.size
  ·by_cases e : ((L a).drop i).take b.size = L b
   ·refine ag.step (G := fun _ => some true) (fun k => ?_) ?_
    ·simp only [df.l0]
     rw [w64 _ (by omega), if_pos (by omega), if_pos (by omega), if_pos (by omega)]
     have e1 : ((i : Int)).toNat = i := by omega
     have e2 : ((i : Int) + (b.size : Int)).toNat = i + b.size := by omega
     rw [e1, e2, iL, iL, I5, if_pos e]
    have : lF (L b) ((L a).drop i) = true := by
     rw [ku (L a) i (by rw [← dL]; omega)] at *
     simp only [lF]
     rw [Bool.or_eq_true, lX]
     refine Or.inl ⟨?_, ?_⟩
     ·rw [← ku (L a) i (by rw [← dL]; omega), List.length_drop, ← dL, ← dL]; omega
     rw [← dL]; exact e
    rw [this]
    exact ag.now
   refine ag.step (G := fun k => df.l0 k a b ((i + 1 : Nat) : Int)) (fun k => ?_) ?_
   ·simp only [df.l0]
    rw [w64 _ (by omega), if_pos (by omega), if_pos (by omega), if_pos (by omega)]
    have e1 : ((i : Int)).toNat = i := by omega
    have e2 : ((i : Int) + (b.size : Int)).toNat = i + b.size := by omega
    rw [e1, e2, iL, iL, I5, if_neg e, w64 _ (by omega)]
    rfl
   have : lF (L b) ((L a).drop i) = lF (L b) ((L a).drop (i + 1)) := by
    rw [ku (L a) i (by rw [← dL]; omega)]
    simp only [lF]
    rw [← ku (L a) i (by rw [← dL]; omega)]
    have : List.isPrefixOf (L b) ((L a).drop i) = false := by
     rw [Bool.eq_false_iff, ne_eq, lX]
     rintro ⟨_, q⟩
     rw [← dL] at q
     exact e q
    rw [this, Bool.false_or]
   rw [this]
   exact ih (i + 1) (by omega) (by omega)
  refine ag.step (G := fun _ => some false) (fun k => ?_) (by
   rw [nP _ _ (by rw [List.length_drop, ← dL, ← dL]; omega)]
   exact ag.now)
  simp only [df.l0]
  rw [w64 _ (by omega), if_neg (by omega)]
theorem vJ (a b : ByteArray) (hb : 1 ≤ b.size) (hs : a.size + b.size ≤ 4611686018427387904) : ag (fun k => df.f k a b) (lF (L b) (L a)) := by
 have := Fp a b hb hs a.size 0 (by omega) (by omega)
 simpa [df.f] using this
/-! Key -/
def KT : List UInt8 := [32, 109, 111, 100, 117, 108, 101, 32, 117, 115, 101, 32, 102, 110, 32, 108, 101, 116, 32, 105, 102, 32, 101, 108, 115, 101, 32, 119, 104, 105, 108, 101, 32, 98, 114, 101, 97, 107, 32, 99, 111, 110, 116, 105, 110, 117, 101, 32, 114, 101, 116, 117, 114, 110, 32, 112, 117, 116, 32, 101, 109, 105, 116, 32, 121, 105, 101, 108, 100, 32, 110, 105, 108, 32, 115, 116, 97, 116, 101, 32, 115, 112, 97, 119, 110, 32, 108, 101, 110, 32, 110, 111, 116, 32, 97, 110, 100, 32, 111, 114, 32]
def KB : ByteArray := (⟨#[32, 109, 111, 100, 117, 108, 101, 32, 117, 115, 101, 32, 102, 110, 32, 108, 101, 116, 32, 105, 102, 32, 101, 108, 115, 101, 32, 119, 104, 105, 108, 101, 32, 98, 114, 101, 97, 107, 32, 99, 111, 110, 116, 105, 110, 117, 101, 32, 114, 101, 116, 117, 114, 110, 32, 112, 117, 116, 32, 101, 109, 105, 116, 32, 121, 105, 101, 108, 100, 32, 110, 105, 108, 32, 115, 116, 97, 116, 101, 32, 115, 112, 97, 119, 110, 32, 108, 101, 110, 32, 110, 111, 116, 32, 97, 110, 100, 32, 111, 114, 32]⟩ : ByteArray)
theorem Kt : KB.size = 101 := rfl
def pX (c : UInt8) : Bool := c != 32
/-- The words between blanks. -/
def wordsOf : List UInt8 → List (List UInt8)
 | [] => []
 | c :: t => if c == 32 && !(t.dropWhile pX).isEmpty then t.takeWhile pX :: wordsOf t else wordsOf t
theorem Fh : wordsOf KT = KEYS := by decide +kernel
theorem uH : ∀ (s t : List UInt8), s.all pX = true → (s ++ [32]).isPrefixOf t = (t.takeWhile pX == s && !(t.dropWhile pX).isEmpty)
 | [], [], _ => rfl
 | [], c :: t, _ => by
  by_cases h : c = 32
  ·subst h
   simp [List.takeWhile_cons, List.dropWhile_cons, pX, List.isPrefixOf]
  have h2 : (32 == c) = false := beq_eq_false_iff_ne.2 (fun e => h e.symm)
  simp [List.takeWhile_cons, List.dropWhile_cons, pX, List.isPrefixOf, h, h2]
 | x :: s, [], _ => by simp [List.isPrefixOf]
 | x :: s, c :: t, hs => by
  simp only [List.all_cons, Bool.and_eq_true] at hs
  have ih := uH s t hs.2
  rw [List.cons_append, List.isPrefixOf_cons_cons, ih]
  by_cases h : x = c
  ·subst h
   rw [List.takeWhile_cons, List.dropWhile_cons, if_pos hs.1, if_pos hs.1]
   simp
  have h2 : (x == c) = false := beq_eq_false_iff_ne.2 h
  rw [h2, Bool.false_and]
  symm
  rw [List.takeWhile_cons]
  split
  ·have : (c :: t.takeWhile pX == x :: s) = false := by
    apply beq_eq_false_iff_ne.2
    intro e
    exact h (List.cons.inj e).1.symm
   rw [this, Bool.false_and]
  simp
theorem rQ (s : List UInt8) (hs : s.all pX = true) : ∀ l : List UInt8, lF (32 :: (s ++ [32])) l = (wordsOf l).contains s
 | [] => by simp [lF, wordsOf, List.isPrefixOf]
 | c :: t => by
  rw [lF, rQ s hs t, List.isPrefixOf_cons_cons, uH s t hs, wordsOf]
  by_cases h : c = 32
  ·subst h
   by_cases h2 : (t.dropWhile pX).isEmpty = true
   ·simp [h2]
   have h3 : (t.dropWhile pX).isEmpty = false := by simpa using h2
   rw [h3]
   simp only [Bool.not_false, Bool.and_true, beq_self_eq_true, Bool.true_and, if_true, List.contains_cons]
   rw [show (List.takeWhile pX t == s) = (s == List.takeWhile pX t) from Bool.eq_iff_iff.2 (by simp only [beq_iff_eq]; exact eq_comm)]
  have h2 : (32 == c) = false := beq_eq_false_iff_ne.2 (fun e => h e.symm)
  have h3 : (c == 32) = false := beq_eq_false_iff_ne.2 h
  rw [h2, h3]
  simp
theorem Ep {s : List UInt8} (h : isWord s = true) : s.all pX = true := by
 cases s with
 | nil => cases h
 | cons c t =>
  simp only [isWord, Bool.and_eq_true] at h
  rw [List.all_eq_true] at h ⊢
  intro x hx
  have h1 := h.2 x hx
  simp only [pX, bne_iff_ne, ne_eq]
  rintro rfl
  exact absurd h1 (by decide)
theorem GY {s : List UInt8} (h : isKey s = true) : isWord s = true := by
 have : ∀ x ∈ KEYS, isWord x = true := by decide +kernel
 exact this s (List.contains_iff_mem.1 h)
theorem I8 (s : ByteArray) (hs : s.size ≤ 140737488351232) : ag (fun k => gW.f k s) (isKey (L s)) := by
 unfold gW.f
 rw [Fj]
 simp only [Option.bind_some]
 by_cases h : isWord (L s) = true
 ·rw [h]
  simp only [if_true]
  have e1 : ((⟨#[32]⟩ : ByteArray) ++ s).size = 1 + s.size := by rw [ByteArray.size_append]; rfl
  simp only [e1]
  refine ag.pos (by omega) (ag.pos (by omega) ?_)
  have h0 : ByteArray.size (⟨#[32]⟩ : ByteArray) = 1 := rfl
  have hw := vJ KB (((⟨#[32]⟩ : ByteArray) ++ s) ++ (⟨#[32]⟩ : ByteArray)) (by rw [ByteArray.size_append, e1]; omega) (by rw [ByteArray.size_append, e1, h0, Kt]; omega)
  have e2 : L (((⟨#[32]⟩ : ByteArray) ++ s) ++ (⟨#[32]⟩ : ByteArray)) = 32 :: (L s ++ [32]) := by
   rw [oL, oL]; rfl
  rw [e2] at hw
  rw [show lF (32 :: (L s ++ [32])) (L KB) = isKey (L s) from (rQ _ (Ep h) KT).trans (by rw [Fh]; rfl)] at hw
  exact ag.bind (G := fun _ t => some t) hw ag.now
 have h2 : isWord (L s) = false := by simpa using h
 have h3 : isKey (L s) = false := by
  rw [Bool.eq_false_iff]
  intro e
  exact h (GY e)
 rw [h2, h3]
 simp only [Bool.false_eq_true, if_false]
 exact ag.now
theorem zu (s : ByteArray) (hs : s.size ≤ 140737488351232) : ag (fun k => eP.f k s) (dS (L s)) := by
 unfold eP.f
 rw [Fj]
 simp only [Option.bind_some]
 by_cases h : isWord (L s) = true
 ·rw [h]
  simp only [if_true]
  by_cases h2 : (s.size : Int) ≤ 16
  ·refine ag.pos h2 ?_
   have e : dS (L s) = !isKey (L s) := by
    unfold dS
    rw [h, show decide ((L s).length ≤ 16) = true from decide_eq_true (by rw [← dL]; omega)]
    rfl
   rw [e]
   exact ag.bind (G := fun _ t => some (!t)) (I8 s hs) ag.now
  refine ag.neg h2 ?_
  have e : dS (L s) = false := by
   unfold dS
   rw [show decide ((L s).length ≤ 16) = false from decide_eq_false (by rw [← dL]; omega)]
   simp
  rw [e]
  exact ag.now
 have h2 : isWord (L s) = false := by simpa using h
 rw [h2]
 simp only [Bool.false_eq_true, if_false]
 have e : dS (L s) = false := by
  unfold dS
  rw [h2]; rfl
 rw [e]
 exact ag.now
end Go.Proofs.Ytlenihbmafkegaa.Lex
end
section
set_option linter.unusedVariables false
set_option linter.unusedSimpArgs false
namespace Go.Proofs.Ytlenihbmafkegaa.Tree
open Go Go.RowKit Go.Proofs.YtlenihbmafkegaaW.PrintWords Go.Proofs.Ytlenihbmafkegaa.Q Go.Proofs.Ytlenihbmafkegaa.Lex
theorem ag.both {α : Type} {F G : Nat → Option α} {v u : α} {c : Prop} [Decidable c] (f : c → ag F v) (g : ¬c → ag G u) : ag (fun k => if c then F k else G k) (if c then v else u) := by
 by_cases h : c
 ·rw [if_pos h]; exact ag.pos h (f h)
 rw [if_neg h]; exact ag.neg h (g h)
def OPS : List (List UInt8) := [[43], [45], [42], [47], [37], [46, 46], [61, 61], [33, 61], [60], [60, 61], [97, 110, 100], [111, 114]]
def UNS : List (List UInt8) := [[45], [110, 111, 116], [108, 101, 110]]
def OB : ByteArray := (⟨#[32, 43, 32, 45, 32, 42, 32, 47, 32, 37, 32, 46, 46, 32, 61, 61, 32, 33, 61, 32, 60, 32, 60, 61, 32, 97, 110, 100, 32, 111, 114, 32]⟩ : ByteArray)
def UB : ByteArray := (⟨#[32, 45, 32, 110, 111, 116, 32, 108, 101, 110, 32]⟩ : ByteArray)
theorem zD : wordsOf (L OB) = OPS := by decide +kernel
theorem zC : wordsOf (L UB) = UNS := by decide +kernel
theorem Ii (w s : ByteArray) (hs : s.size ≤ 3000) (hw : w.size ≤ 1000) (hne : ¬ s.toList = ([] : List UInt8)) : ∀ (m i : Nat), w.size ≤ m + i → i ≤ w.size + 1 →
 ag (fun k => bi.l1 k w s ((s.size + 2 : Nat) : Int) (i : Int)) (lF (32 :: (L s ++ [32])) ((L w).drop i)) := by
 have hb : (32 :: (L s ++ [32])).length = s.size + 2 := by rw [dL]; simp
 have hwL := dL w
 have h1s : ((⟨#[32]⟩ : ByteArray) ++ s).size = 1 + s.size := by rw [ByteArray.size_append]; rfl
 have hLb : (((⟨#[32]⟩ : ByteArray) ++ s) ++ (⟨#[32]⟩ : ByteArray)).toList = 32 :: (L s ++ [32]) := by
  rw [iL, oL, oL]; rfl
 intro m
 induction m with
 | zero =>
  intro i h1 h2
  refine ag.step (fun k => by rw [bi.l1]) (ag.neg hne ?_)
  refine ag.step (fun k => by rw [bi.j2]) (ag.neg ?_ ?_)
  ·rw [w64 (by omega) (by omega)]; simp; omega
  rw [nP _ _ (by rw [List.length_drop, hb]; omega)]
  exact ag.now
 | succ m ih =>
  intro i h1 h2
  refine ag.step (fun k => by rw [bi.l1]) (ag.neg hne ?_)
  have hwr : wrap64 ((i : Int) + ((s.size + 2 : Nat) : Int)) = ((i + (s.size + 2) : Nat) : Int) := by rw [w64 (by omega) (by omega)]; omega
  rw [hwr]
  refine ag.step (fun k => by rw [bi.j2]) ?_
  rw [hwr]
  by_cases c : i + (s.size + 2) ≤ w.size
  ·refine ag.pos (decide_eq_true (by omega)) (ag.pos (by omega) (ag.pos (by omega) (ag.pos (by omega) (ag.pos (by omega) (ag.pos (by omega) ?_)))))
   rw [Int.toNat_natCast, Int.toNat_natCast, iL, I5, hLb, inc i (by omega)]
   have hd := ku (L w) i (by omega)
   by_cases e : ((L w).drop i).take (s.size + 2) = 32 :: (L s ++ [32])
   ·refine ag.pos e ?_
    have : lF (32 :: (L s ++ [32])) ((L w).drop i) = true := by
     rw [hd] at e ⊢
     rw [lF, Bool.or_eq_true, lX]
     refine Or.inl ⟨?_, by rw [hb]; exact e⟩
     rw [hb, ← hd, List.length_drop]; omega
    rw [this]
    exact ag.now
   refine ag.neg e ?_
   have : lF (32 :: (L s ++ [32])) ((L w).drop i) = lF (32 :: (L s ++ [32])) ((L w).drop (i + 1)) := by
    rw [hd, lF, ← hd]
    have : List.isPrefixOf (32 :: (L s ++ [32])) ((L w).drop i) = false := by
     rw [Bool.eq_false_iff, ne_eq, lX]
     rintro ⟨_, q⟩
     rw [hb] at q
     exact e q
    rw [this, Bool.false_or]
   rw [this]
   exact ih (i + 1) (by omega) (by omega)
  refine ag.neg (by simp; omega) ?_
  rw [nP _ _ (by rw [List.length_drop, hb]; omega)]
  exact ag.now
theorem xg (q : UInt8 → Bool) (l : List UInt8) : (l.takeWhile q).all q = true := by
 induction l with
 | nil => rfl
 | cons a t ih =>
  rw [List.takeWhile_cons]
  split
  ·rename_i h; rw [List.all_cons, h, ih]; rfl
  rfl
theorem rD : ∀ (l x : List UInt8), x ∈ wordsOf l → x.all pX = true
 | [], x, h => by simp [wordsOf] at h
 | c :: t, x, h => by
  rw [wordsOf] at h
  split at h
  ·rcases List.mem_cons.1 h with rfl | h
   ·exact xg _ _
   exact rD t x h
  exact rD t x h
theorem Ij (w s : ByteArray) (hs : s.size ≤ 3000) (hw : w.size ≤ 1000) (hn : (wordsOf (L w)).contains [] = false) : ∀ (m i : Nat), s.size = m + i →
 (∀ j, j < i → (L s).getD j 0 ≠ 32) → ag (fun k => bi.l0 k w s (s.size : Int) (i : Int)) ((wordsOf (L w)).contains (L s)) := by
 have hL := dL s
 intro m
 induction m with
 | zero =>
  intro i h1 h2
  refine ag.step (fun k => by rw [bi.l0]) (ag.neg (by omega) ?_)
  have hall : (L s).all pX = true := by
   rw [List.all_eq_true]
   intro x hx
   obtain ⟨j, hj, rfl⟩ := List.getElem_of_mem hx
   have := h2 j (by omega)
   rw [List.getD_eq_getElem?_getD, List.getElem?_eq_getElem hj] at this
   simpa [pX] using this
  rw [w64 (n := (s.size : Int) + 2) (by omega) (by omega), show (s.size : Int) + 2 = ((s.size + 2 : Nat) : Int) by omega]
  by_cases e : s.toList = ([] : List UInt8)
  ·rw [(isE s).1 e, hn]
   refine ag.step (fun k => by rw [bi.l1]) (ag.pos e ?_)
   exact ag.step (fun k => by rw [bi.j2]) (ag.neg (by simp) ag.now)
  rw [← rQ _ hall]
  have := Ii w s hs hw e w.size 0 (by omega) (by omega)
  rw [List.drop_zero] at this
  exact this
 | succ m ih =>
  intro i h1 h2
  refine ag.step (fun k => by rw [bi.l0]) (ag.pos (by omega) (ag.pos (by omega) (ag.pos (by omega) ?_)))
  rw [CQ, inc i (by omega)]
  have hsplit : ((((L s).getD i 0).toNat : Int) = 32) ↔ (L s).getD i 0 = 32 := jy _ 32
  by_cases c : (L s).getD i 0 = 32
  ·refine ag.pos (hsplit.2 c) ?_
   have : (wordsOf (L w)).contains (L s) = false := by
    rw [Bool.eq_false_iff]
    intro h
    have := rD _ _ (List.contains_iff_mem.1 h)
    rw [List.all_eq_true] at this
    have hi : i < (L s).length := by omega
    have := this _ (List.getElem_mem hi)
    rw [List.getD_eq_getElem?_getD, List.getElem?_eq_getElem hi] at c
    simp at c
    rw [c] at this
    exact absurd this (by decide)
   rw [this]
   exact ag.now
  refine ag.neg (fun h => c (hsplit.1 h)) (ih (i + 1) (by omega) (fun j hj => ?_))
  rcases Nat.eq_or_lt_of_le (Nat.lt_succ_iff.1 hj) with rfl | hj
  ·exact c
  exact h2 j hj
theorem Eg (w s : ByteArray) (hs : s.size ≤ 3000) (hw : w.size ≤ 1000) (hn : (wordsOf (L w)).contains [] = false) : ag (fun k => bi.f k w s) ((wordsOf (L w)).contains (L s)) := by
 have := Ij w s hs hw hn s.size 0 (by omega) (fun j hj => by omega)
 exact this
/-- What a node of a kind has, and whether there is such a kind; what its number may be. -/
def oW (a : Int) : Int × Bool :=
 if a = 1 then (5, true) else if a = 2 then (7, true) else if a = 3 ∨ a = 4 ∨ a = 6 ∨ a = 7 ∨ a = 21 then (1, true) else if a = 19 then (4, true) else if a = 20 then (32, true)
 else if a = 23 then (3, true) else if a = 27 then (8, true) else if a = 28 then (16, true) else (0, decide (1 ≤ a ∧ a ≤ 30))
def rangeS (a : Int) : Int × Int := if a = 1 then (1, 2147483647) else if a = 2 then (0, 8) else (0, 9223372036854775807)
theorem Ar (a : Int) (b : Bool) (h : b = decide (a = 3 ∨ a = 4 ∨ a = 6 ∨ a = 7 ∨ a = 21)) (h1 : a ≠ 1) (h2 : a ≠ 2) : ag (fun k => dY.j0 k a a b) (oW a) := by
 refine ag.step (fun k => by rw [dY.j0]) ?_
 unfold oW
 rw [if_neg h1, if_neg h2]
 by_cases c : a = 3 ∨ a = 4 ∨ a = 6 ∨ a = 7 ∨ a = 21
 ·rw [if_pos c]
  exact ag.pos (by rw [h]; exact decide_eq_true c) ag.now
 rw [if_neg c]
 refine ag.neg (by rw [h]; simpa using c) ?_
 refine ag.both (fun _ => ag.now) (fun c1 => ag.both (fun _ => ag.now) (fun c2 => ag.both (fun _ => ag.now) (fun c3 => ag.both (fun _ => ag.now) (fun c4 => ag.both (fun _ => ag.now) (fun c5 => ?_)))))
 by_cases c6 : a ≥ 1
 ·refine ag.pos c6 ?_
  rw [show (decide (1 ≤ a ∧ a ≤ 30)) = decide (a ≤ 30) from by simp; omega]
  exact ag.now
 refine ag.neg c6 ?_
 rw [show (decide (1 ≤ a ∧ a ≤ 30)) = false from decide_eq_false (by omega)]
 exact ag.now
theorem NW (a : Int) : ag (fun k => dY.f k a) (oW a) := by
 unfold dY.f
 by_cases h1 : a = 1
 ·subst h1; exact ag.pos rfl ag.now
 refine ag.neg h1 ?_
 by_cases h2 : a = 2
 ·subst h2; exact ag.pos rfl ag.now
 refine ag.neg h2 ?_
 by_cases h3 : a = 3
 ·exact ag.pos h3 (Ar a _ (by simp [h3]) h1 h2)
 refine ag.neg h3 ?_
 by_cases h4 : a = 4
 ·exact ag.pos h4 (Ar a _ (by simp [h4]) h1 h2)
 refine ag.neg h4 ?_
 by_cases h5 : a = 6
 ·exact ag.pos h5 (Ar a _ (by simp [h5]) h1 h2)
 refine ag.neg h5 ?_
 by_cases h6 : a = 7
 ·exact ag.pos h6 (Ar a _ (by simp [h6]) h1 h2)
 refine ag.neg h6 (Ar a _ ?_ h1 h2)
 rw [Bool.eq_iff_iff, beq_iff_eq, decide_eq_true_eq]; omega
def nV (b m : Int) : Bool := Go.bits .and .i64 b m != 0
def textS (b : Int) (s : ByteArray) : Bool :=
 if Go.bits .and .i64 b 2 = 0 then if Go.bits .and .i64 b 8 = 0 then if Go.bits .and .i64 b 16 = 0 then if Go.bits .and .i64 b 32 = 0 then (L s).isEmpty else decide (s.size ≤ 1024) else UNS.contains (L s) else OPS.contains (L s) else dS (L s)
theorem Lh (b : Int) (s : ByteArray) (hs : s.size ≤ 3000) : ag (fun k => gJ.f k b s) (textS b s) := by
 unfold gJ.f textS
 refine ag.both (fun _ => ag.both (fun _ => ag.both (fun _ => ag.both (fun _ => ag.kG fun k => ?_) (fun _ => ag.kG fun k => ?_)) (fun _ => ?_)) (fun _ => ?_)) (fun _ => ?_)
 ·rw [iL]
  cases L s <;> rfl
 ·congr 1
  rw [decide_eq_decide]; omega
 ·have := Eg UB s hs (by decide) (by rw [zC]; decide)
  rw [zC] at this
  exact ag.bind (G := fun _ t => some t) this ag.now
 ·have := Eg OB s hs (by decide) (by rw [zD]; decide)
  rw [zD] at this
  exact ag.bind (G := fun _ t => some t) this ag.now
 exact ag.bind (G := fun _ t => some t) (zu s (by omega)) ag.now
/-- A node has just what it may. -/
def tK (b : Int) (ok : Bool) (lo hi : Int) (x : S40) : Bool :=
 ok && (textS b x.f4 && ((nV b 1 == dS (L x.f2)) && ((nV b 1 || (L x.f2).isEmpty) && (if Go.bits .and .i64 b 4 = 0 then x.f3 == 0 else decide (lo ≤ x.f3 ∧ x.f3 ≤ hi)))))
def eF (x : S40) : Bool := tK (oW x.f0).1 (oW x.f0).2 (rangeS x.f0).1 (rangeS x.f0).2 x
theorem Jg (a : Int) : iU.f a = some (rangeS a) := by
 unfold iU.f rangeS
 split
 ·rfl
 split <;> rfl
theorem uu (x : S40) (b lo hi : Int) (c : Bool) : ag (fun k => bF.j1 k b lo hi c x.f0 x.f1 x.f2 x.f3 x.f4) (!c && (if Go.bits .and .i64 b 4 = 0 then x.f3 == 0 else decide (lo ≤ x.f3 ∧ x.f3 ≤ hi))) := by
 refine ag.step (fun k => by rw [bF.j1]) ?_
 cases c with
 | true => exact ag.pos rfl ag.now
 | false =>
  refine ag.neg (by simp) ?_
  rw [Bool.not_false, Bool.true_and]
  refine ag.both (fun _ => ag.now) (fun c4 => ?_)
  by_cases c5 : x.f3 ≥ lo
  ·refine ag.pos c5 ?_
   rw [show decide (lo ≤ x.f3 ∧ x.f3 ≤ hi) = decide (x.f3 ≤ hi) from by rw [decide_eq_decide]; omega]
   exact ag.now
  refine ag.neg c5 ?_
  rw [show decide (lo ≤ x.f3 ∧ x.f3 ≤ hi) = false from decide_eq_false (by omega)]
  exact ag.now
theorem xQ (x : S40) (h2 : x.f2.size ≤ 3000) (b lo hi : Int) (c : Bool) : ag (fun k => bF.j0 k b lo hi c x.f0 x.f1 x.f2 x.f3 x.f4)
 (!c && ((nV b 1 == dS (L x.f2)) && ((nV b 1 || (L x.f2).isEmpty) && (if Go.bits .and .i64 b 4 = 0 then x.f3 == 0 else decide (lo ≤ x.f3 ∧ x.f3 ≤ hi))))) := by
 refine ag.step (fun k => by rw [bF.j0]) ?_
 cases c with
 | true => exact ag.pos rfl ag.now
 | false =>
  refine ag.neg (by simp) (ag.bind (zu x.f2 (by omega)) ?_)
  rw [Bool.not_false, Bool.true_and]
  by_cases c1 : nV b 1 = dS (L x.f2)
  ·rw [beq_iff_eq.2 c1, Bool.true_and]
   refine ag.neg (by unfold nV at c1; rw [c1]; simp) ?_
   by_cases c2 : Go.bits .and .i64 b 1 = 0
   ·refine ag.pos c2 ?_
    have hb : nV b 1 = false := by unfold nV; rw [c2]; rfl
    rw [hb, Bool.false_or]
    have := uu x b lo hi (x.f2.toList != ([] : List UInt8))
    rwa [show (!(x.f2.toList != ([] : List UInt8))) = (L x.f2).isEmpty from by rw [iL]; cases L x.f2 <;> rfl] at this
   refine ag.neg c2 ?_
   have hb : nV b 1 = true := by unfold nV; simpa using c2
   rw [hb, Bool.true_or, Bool.true_and]
   have := uu x b lo hi false
   rwa [Bool.not_false, Bool.true_and] at this
  rw [show (nV b 1 == dS (L x.f2)) = false from beq_eq_false_iff_ne.2 c1, Bool.false_and]
  exact ag.pos (by unfold nV at c1; simpa using c1) (uu x b lo hi true)
theorem Hl (x : S40) (h2 : x.f2.size ≤ 3000) (h4 : x.f4.size ≤ 3000) : ag (fun k => bF.f k x.f0 x.f1 x.f2 x.f3 x.f4) (eF x) := by
 unfold bF.f eF tK
 refine ag.bind (NW x.f0) ?_
 simp only [Jg, Option.bind_some]
 cases hok : (oW x.f0).2 with
 | false =>
  rw [Bool.false_and]
  exact ag.neg (by simp) (xQ x h2 _ _ _ true)
 | true =>
  rw [Bool.true_and]
  refine ag.pos rfl (ag.bind (Lh _ _ h4) ?_)
  have := xQ x h2 (oW x.f0).1 (rangeS x.f0).1 (rangeS x.f0).2 (!textS (oW x.f0).1 x.f4)
  rwa [Bool.not_not] at this
/-! Kids. -/
def exS (l : List Int) (lo hi : Nat) : Bool := decide (lo ≤ l.length ∧ l.length ≤ hi) && l.all kJ
def ifS (hi : Nat) (l : List Int) : Bool := decide (2 ≤ l.length ∧ l.length ≤ hi) && (kJ (rd l 0) && (l.drop 1).all (· == 5))
def AA (l : List Int) : Bool := decide (1 ≤ l.length ∧ l.length ≤ 9) && (rd l ((l.length - 1 : Nat) : Int) == 5 && (l.take (l.length - 1)).all (· == 4))
def rP (l : List Int) : Bool := (l.dropWhile (· == 2)).all (· == 3)
def gX (a : Int) (l : List Int) : Bool :=
 if a = 1 then rP l else if a = 3 ∨ a = 24 then AA l else if a = 5 then l.all jc else if a = 9 then ifS 3 l else if a = 10 then ifS 2 l else if a = 8 then exS l 3 3
 else if a = 6 ∨ a = 7 ∨ a = 13 ∨ a = 14 ∨ a = 15 ∨ a = 17 ∨ a = 28 ∨ a = 30 then exS l 1 1 else if a = 22 then exS l 1 9 else if a = 23 then exS l 0 8 else if a = 26 ∨ a = 27 then exS l 2 2 else decide (l.length = 0)
theorem qO (l : List Int) (lo hi : Nat) : gK.f l (lo : Int) (hi : Int) = some (exS l lo hi) := by
 unfold gK.f exS qp.f
 by_cases c : lo ≤ l.length
 ·rw [if_pos (by omega)]
  by_cases c2 : l.length ≤ hi
  ·rw [if_pos (by omega), decide_eq_true ⟨c, c2⟩]; rfl
  rw [if_neg (by omega), decide_eq_false (by omega)]; rfl
 rw [if_neg (by omega), decide_eq_false (by omega)]; rfl
theorem Dc (a : Int) : fF.f a = some (kJ a) := by
 unfold fF.f kJ
 by_cases c : a ≥ 18
 ·rw [if_pos c]; congr 1; rw [decide_eq_decide]; omega
 rw [if_neg c]; congr 1; symm; exact decide_eq_false (by omega)
theorem pg (l : List Int) (hl : l.length ≤ 200000) : dH.f l = some (AA l) := by
 unfold dH.f AA lm.f
 by_cases c : 1 ≤ l.length
 ·rw [w64 (by omega) (by omega), show (l.length : Int) - 1 = ((l.length - 1 : Nat) : Int) by omega, if_pos (by omega)]
  by_cases c2 : l.length ≤ 9
  ·rw [if_pos (by omega), if_pos (by omega), if_pos (by omega), decide_eq_true ⟨c, c2⟩, Bool.true_and]
   by_cases c3 : rd l ((l.length - 1 : Nat) : Int) = 5
   ·rw [if_pos c3, if_pos (by omega), c3]; rfl
   rw [if_neg c3, show (rd l ((l.length - 1 : Nat) : Int) == 5) = false from beq_eq_false_iff_ne.2 c3]; rfl
  rw [if_neg (by omega), decide_eq_false (by omega)]; rfl
 rw [w64 (by omega) (by omega), if_neg (by omega), decide_eq_false (by omega)]; rfl
theorem G7 (l : List Int) (hl : l.length ≤ 200000) : ∀ (m i : Nat), l.length = m + i → ag (fun k => dn.l0 k l (i : Int)) (rP (l.drop i)) := by
 intro m
 induction m with
 | zero =>
  intro i h
  refine ag.step (fun k => by rw [dn.l0]) (ag.neg (by omega) (ag.pos (by omega) (ag.pos (by omega) ?_)))
  rw [Int.toNat_natCast, List.drop_eq_nil_of_le (by omega)]
  exact ag.now
 | succ m ih =>
  intro i h
  have hi : i < l.length := by omega
  have hrd : rd l (i : Int) = l[i] := by simp [rd, List.getD_eq_getElem?_getD, List.getElem?_eq_getElem hi]
  refine ag.step (fun k => by rw [dn.l0]) (ag.pos (by omega) (ag.pos (by omega) ?_))
  rw [hrd, inc i (by omega)]
  by_cases c : l[i] = 2
  ·refine ag.pos c ?_
   rw [show rP (l.drop i) = rP (l.drop (i + 1)) from by unfold rP; rw [List.drop_eq_getElem_cons hi, List.dropWhile_cons, if_pos (by rw [c]; rfl)]]
   exact ih (i + 1) (by omega)
  refine ag.neg c (ag.pos (by omega) ?_)
  rw [Int.toNat_natCast, show rP (l.drop i) = (l.drop i).all (· == 3) from by unfold rP; rw [List.drop_eq_getElem_cons hi, List.dropWhile_cons, if_neg (by simpa using c)]]
  exact ag.now
theorem GH (l : List Int) (hl : l.length ≤ 200000) : ag (fun k => dn.f k l) (rP l) := by
 have := G7 l hl l.length 0 (by omega)
 exact this
theorem uC {α : Type} {F : Nat → Option α} {v : α} (h : ag F v) : ag (fun k => (F k).bind fun t => some t) v := ag.bind h ag.now
theorem J7 (a : Int) (l : List Int) (hl : l.length ≤ 200000) (b : Bool) (hb : b = decide (a = 6 ∨ a = 7 ∨ a = 13 ∨ a = 14 ∨ a = 15 ∨ a = 17 ∨ a = 28 ∨ a = 30)) (h1 : a ≠ 1) (h2 : ¬ (a = 3 ∨ a = 24)) (h3 : a ≠ 5) (h4 : a ≠ 9) (h5 : a ≠ 10) (h6 : a ≠ 8) :
 ag (fun k => aY.j2 k l (l.length : Int) a b) (gX a l) := by
 unfold gX
 rw [if_neg h1, if_neg h2, if_neg h3, if_neg h4, if_neg h5, if_neg h6]
 refine ag.step (fun k => by rw [aY.j2]) ?_
 by_cases c : a = 6 ∨ a = 7 ∨ a = 13 ∨ a = 14 ∨ a = 15 ∨ a = 17 ∨ a = 28 ∨ a = 30
 ·rw [if_pos c]
  exact ag.pos Z22 (uC (ag.kG fun k => qO l 1 1))
 rw [if_neg c]
 refine ag.neg (by rw [hb]; simpa using c) ?_
 refine ag.both (fun _ => uC (ag.kG fun k => qO l 1 9)) (fun _ => ag.both (fun _ => uC (ag.kG fun k => qO l 0 8)) (fun _ => ?_))
 by_cases c3 : a = 26
 ·rw [if_pos (Or.inl c3)]; exact ag.pos c3 (uC (ag.kG fun k => qO l 2 2))
 refine ag.neg c3 ?_
 by_cases c4 : a = 27
 ·rw [if_pos (Or.inr c4)]; exact ag.pos c4 (uC (ag.kG fun k => qO l 2 2))
 rw [if_neg (show ¬ (a = 26 ∨ a = 27) by omega)]
 refine ag.neg c4 (ag.kG fun k => ?_)
 congr 1
 rw [Bool.eq_iff_iff, beq_iff_eq, decide_eq_true_eq]; omega
theorem KG {F : Nat → Option Bool} (l : List Int) (hi : Nat) (hF : ∀ k, F k = if (l.length : Int) ≥ 2 then (if (l.length : Int) ≤ (hi : Int) then (if 0 < (l.length : Int) then ((fF.f (rd l 0)).bind fun t153 => (if t153 = true then (if 1 ≤ (l.length : Int) then ((lm.f (l.drop 1) 5).bind fun t155 => (some t155)) else (none)) else (some false))) else (none)) else (some false)) else (some false)) :
 ag F (ifS hi l) := by
 refine ag.kG fun k => ?_
 rw [hF]
 unfold ifS
 by_cases c : 2 ≤ l.length
 ·rw [if_pos (by omega)]
  by_cases c2 : l.length ≤ hi
  ·rw [if_pos (by omega), if_pos (by omega), Dc, decide_eq_true ⟨c, c2⟩, Bool.true_and, Option.bind_some]
   cases kJ (rd l 0)
   ·rfl
   rw [if_pos rfl, if_pos (by omega)]; rfl
  rw [if_neg (by omega), decide_eq_false (by omega)]; rfl
 rw [if_neg (by omega), decide_eq_false (by omega)]; rfl
theorem D9 (a : Int) (l : List Int) (hl : l.length ≤ 200000) (b : Bool) (hb : b = decide (a = 9 ∨ a = 10)) (h1 : a ≠ 1) (h2 : ¬ (a = 3 ∨ a = 24)) (h3 : a ≠ 5) :
 ag (fun k => aY.j1 k a l (l.length : Int) a b) (gX a l) := by
 refine ag.step (fun k => by rw [aY.j1]) ?_
 by_cases c1 : a = 9
 ·rw [show gX a l = ifS 3 l from by unfold gX; rw [if_neg h1, if_neg h2, if_neg h3, if_pos c1]]
  exact ag.pos (by rw [hb]; exact decide_eq_true (.inl c1)) (ag.pos c1 (KG l 3 (fun k => rfl)))
 by_cases c2 : a = 10
 ·rw [show gX a l = ifS 2 l from by unfold gX; rw [if_neg h1, if_neg h2, if_neg h3, if_neg c1, if_pos c2]]
  exact ag.pos (by rw [hb]; exact decide_eq_true (.inr c2)) (ag.neg c1 (KG l 2 (fun k => rfl)))
 refine ag.neg (by rw [hb]; simp [c1, c2]) ?_
 by_cases c3 : a = 8
 ·refine ag.pos c3 ?_
  rw [show gX a l = exS l 3 3 from by unfold gX; rw [if_neg h1, if_neg h2, if_neg h3, if_neg c1, if_neg c2, if_pos c3]]
  exact uC (ag.kG fun k => qO l 3 3)
 refine ag.neg c3 ?_
 have go : ∀ b : Bool, b = decide (a = 6 ∨ a = 7 ∨ a = 13 ∨ a = 14 ∨ a = 15 ∨ a = 17 ∨ a = 28 ∨ a = 30) → ag (fun k => aY.j2 k l (l.length : Int) a b) (gX a l) := fun b hb => J7 a l hl b hb h1 h2 h3 c1 c2 c3
 by_cases d1 : a = 6
 ·exact ag.pos d1 (go _ (by simp [d1]))
 refine ag.neg d1 ?_
 by_cases d2 : a = 7
 ·exact ag.pos d2 (go _ (by simp [d2]))
 refine ag.neg d2 ?_
 by_cases d3 : a = 13
 ·exact ag.pos d3 (go _ (by simp [d3]))
 refine ag.neg d3 ?_
 by_cases d4 : a = 14
 ·exact ag.pos d4 (go _ (by simp [d4]))
 refine ag.neg d4 ?_
 by_cases d5 : a = 15
 ·exact ag.pos d5 (go _ (by simp [d5]))
 refine ag.neg d5 ?_
 by_cases d6 : a = 17
 ·exact ag.pos d6 (go _ (by simp [d6]))
 refine ag.neg d6 ?_
 by_cases d7 : a = 28
 ·exact ag.pos d7 (go _ (by simp [d7]))
 exact ag.neg d7 (go _ Z23)
theorem DC (a : Int) (l : List Int) (hl : l.length ≤ 200000) (b : Bool) (hb : b = decide (a = 3 ∨ a = 24)) (h1 : a ≠ 1) : ag (fun k => aY.j0 k a l (l.length : Int) a b) (gX a l) := by
 refine ag.step (fun k => by rw [aY.j0]) ?_
 by_cases c : a = 3 ∨ a = 24
 ·refine ag.pos Z22 ?_
  rw [show gX a l = AA l from by unfold gX; rw [if_neg h1, if_pos c]]
  exact uC (ag.kG fun k => pg l hl)
 refine ag.neg (by rw [hb]; simpa using c) ?_
 by_cases c1 : a = 5
 ·refine ag.pos c1 ?_
  rw [show gX a l = l.all jc from by unfold gX; rw [if_neg h1, if_neg c, if_pos c1]]
  exact ag.now
 refine ag.neg c1 ?_
 by_cases d1 : a = 9
 ·exact ag.pos d1 (D9 a l hl _ (by simp [d1]) h1 c c1)
 exact ag.neg d1 (D9 a l hl _ Z23 h1 c c1)
theorem MK (a : Int) (l : List Int) (hl : l.length ≤ 200000) : ag (fun k => aY.f k a l) (gX a l) := by
 unfold aY.f
 by_cases c : a = 1
 ·refine ag.pos c ?_
  rw [show gX a l = rP l from by unfold gX; rw [if_pos c]]
  exact uC (GH l hl)
 refine ag.neg c ?_
 by_cases d1 : a = 3
 ·exact ag.pos d1 (DC a l hl _ (by simp [d1]) c)
 exact ag.neg d1 (DC a l hl _ Z23 c)
end Go.Proofs.Ytlenihbmafkegaa.Tree
end
section
set_option linter.unusedVariables false
set_option linter.unusedSimpArgs false
namespace Go.Proofs.Ytlenihbmafkegaa.Show
open Go Go.RowKit Go.Proofs.YtlenihbmafkegaaW.PrintWords Go.Proofs.Ytlenihbmafkegaa.Q Go.Proofs.Ytlenihbmafkegaa.Lex Go.Proofs.Ytlenihbmafkegaa.Tree Go.Proofs.Ytlenihbmafkegaa.Par
/-- A key's, a name's or a mark's token. -/
def ofT (s : ByteArray) : S56 := ⟨if isKey (L s) then 5 else if dS (L s) then 1 else 4, s, 0, 0⟩
def W (l : List UInt8) : S56 := ofT (S l)
/-- A number's digits. -/
def dig (n : Nat) : List UInt8 := if h : n < 10 then [UInt8.ofNat (48 + n)] else dig (n / 10) ++ [UInt8.ofNat (48 + n % 10)]
def oQ (n : Int) : S56 := ⟨2, S (dig n.toNat), n, 0⟩
def yj (s : ByteArray) : S56 := ⟨3, s, 0, 0⟩
/-- Trees with commas between. -/
def pW : List (List S56) → List S56
 | [] => []
 | [a] => a
 | a :: b :: t => a ++ W [44] :: pW (b :: t)
def rowT (ts : List (List S56)) : List S56 := W [40] :: (pW ts ++ [W [41]])
def qU (ts : List (List S56)) : List S56 := rowT ts.dropLast ++ ts.getLastD []
def kT (ts : List (List S56)) (i : Nat) : List S56 := ts.getD i []
def stT (x : S40) (ts : List (List S56)) : List S56 :=
 if x.f0 = 6 then [W [108, 101, 116], ofT x.f2, W [61]] ++ kT ts 0 ++ [W [59]]
 else if x.f0 = 7 then [ofT x.f2, W [61]] ++ kT ts 0 ++ [W [59]]
 else if x.f0 = 8 then kT ts 0 ++ [W [91]] ++ kT ts 1 ++ [W [93], W [61]] ++ kT ts 2 ++ [W [59]]
 else if x.f0 = 9 then W [105, 102] :: (kT ts 0 ++ kT ts 1 ++ (if 2 < ts.length then W [101, 108, 115, 101] :: kT ts 2 else []))
 else if x.f0 = 10 then W [119, 104, 105, 108, 101] :: (kT ts 0 ++ kT ts 1)
 else if x.f0 = 11 then [W [98, 114, 101, 97, 107], W [59]]
 else if x.f0 = 12 then [W [99, 111, 110, 116, 105, 110, 117, 101], W [59]]
 else if x.f0 = 16 then [W [121, 105, 101, 108, 100], W [59]]
 else if x.f0 = 13 then W [114, 101, 116, 117, 114, 110] :: (kT ts 0 ++ [W [59]])
 else if x.f0 = 14 then W [112, 117, 116] :: (kT ts 0 ++ [W [59]])
 else if x.f0 = 15 then W [101, 109, 105, 116] :: (kT ts 0 ++ [W [59]])
 else kT ts 0 ++ [W [59]]
def exT (x : S40) (ts : List (List S56)) : List S56 :=
 if x.f0 = 18 then [W [110, 105, 108]]
 else if x.f0 = 29 then [W [115, 116, 97, 116, 101]]
 else if x.f0 = 19 then [oQ x.f3]
 else if x.f0 = 20 then [yj x.f4]
 else if x.f0 = 21 then [ofT x.f2]
 else if x.f0 = 25 then [W [123], W [125]]
 else if x.f0 = 24 then W [102, 110] :: qU ts
 else if x.f0 = 26 then kT ts 0 ++ [W [91]] ++ kT ts 1 ++ [W [93]]
 else if x.f0 = 22 then kT ts 0 ++ rowT (ts.drop 1)
 else if x.f0 = 23 then [ofT x.f2, W [46], ofT x.f4] ++ rowT ts
 else if x.f0 = 27 then W [40] :: (kT ts 0 ++ ofT x.f4 :: (kT ts 1 ++ [W [41]]))
 else if x.f0 = 28 then W [40] :: ofT x.f4 :: (kT ts 0 ++ [W [41]])
 else W [40] :: W [115, 112, 97, 119, 110] :: (kT ts 0 ++ [W [41]])
def paT (x : S40) (ts : List (List S56)) : List S56 :=
 if x.f0 = 1 then [W [109, 111, 100, 117, 108, 101], ofT x.f2, oQ x.f3, W [59]] ++ ts.flatten
 else if x.f0 = 2 then [W [117, 115, 101], ofT x.f2, W [46], ofT x.f4, W [47], oQ x.f3, W [59]]
 else if x.f0 = 3 then [W [102, 110], ofT x.f2] ++ qU ts
 else if x.f0 = 4 then [ofT x.f2]
 else W [123] :: (ts.flatten ++ [W [125]])
/-- A tree's tokens. -/
def mg (x : S40) (ts : List (List S56)) : List S56 := if 6 ≤ x.f0 ∧ x.f0 ≤ 17 then stT x ts else if 18 ≤ x.f0 then exT x ts else paT x ts
/-- A forest of right nodes, its trees' kinds, and their tokens. -/
inductive GS : List S40 → List Int → List (List S56) → Prop
 | nil : GS [] [] []
 | cons (x : S40) (t v : List S40) (kt kv : List Int) (tt tv : List (List S56)) (hx : x.f1 = (kt.length : Int)) (hf : eF x = true) (hk : gX x.f0 kt = true) (ht : GS t kt tt) (hv : GS v kv tv) : GS (x :: (t ++ v)) (x.f0 :: kv) (mg x tt :: tv)
theorem GS.len {u : List S40} {K : List Int} {ts : List (List S56)} (h : GS u K ts) : ts.length = K.length := by
 induction h with
 | nil => rfl
 | cons x t v kt kv tt tv hx hf hk ht hv ih1 ih2 => simp [ih2]
end Go.Proofs.Ytlenihbmafkegaa.Show
end
