/- Walks over functions of the program, words for them, and what the functions come to; of each text only what this claim uses; no condition. -/
import Derived.Test.YtkbhkonenkgfoaaGreatZPT0
import Derived.Test.YtkbhkonenkgfoaaGreatZPT2
import Derived.Test.YtkbhkonenkgfoaaGreatZPT3
import Derived.Test.YtkbhkonenkgfoaaGreatZPT5
import Derived.Test.YtkbhkonenkgfoaaGreatZPT7
import Derived.Test.YtkbhkonenkgfoaaGreatZPT8
import Derived.Laws.BytesArg
section
set_option linter.unusedVariables false
set_option linter.unusedSimpArgs false
namespace Go.Proofs.YtkbhkonenkgfoaaGreat.Lex
open Go
/-- A function of a number of rounds comes to a value, and stays there. -/
def ah {α : Type} (F : Nat → Option α) (v : α) : Prop := ∃ k, ∀ j, k ≤ j → F j = some v
theorem ah.now {α : Type} {v : α} : ah (fun _ => some v) v := ⟨0, fun _ _ => rfl⟩
theorem ah.lh {α : Type} {F : Nat → Option α} {v : α} (h : ∀ k, F k = some v) : ah F v := ⟨0, fun _ _ => h _⟩
theorem ah.congr {α : Type} {F G : Nat → Option α} {v : α} (h : ∀ k, F k = G k) (g : ah G v) : ah F v := by
 obtain ⟨k, hk⟩ := g
 exact ⟨k, fun j hj => (h j).trans (hk j hj)⟩
theorem ah.step {α : Type} {F G : Nat → Option α} {v : α} (h : ∀ k, F (k + 1) = G k) (g : ah G v) : ah F v := by
 obtain ⟨k, hk⟩ := g
 refine ⟨k + 1, fun j hj => ?_⟩
 obtain ⟨i, rfl⟩ : ∃ i, j = i + 1 := ⟨j - 1, by omega⟩
 rw [h]
 exact hk i (by omega)
theorem ah.bind {α β : Type} {F : Nat → Option α} {G : Nat → α → Option β} {v : α} {u : β} (f : ah F v) (g : ah (fun k => G k v) u) : ah (fun k => (F k).bind (G k)) u := by
 obtain ⟨k1, h1⟩ := f
 obtain ⟨k2, h2⟩ := g
 refine ⟨k1 + k2, fun j hj => ?_⟩
 show (F j).bind (G j) = some u
 rw [h1 j (by omega)]
 exact h2 j (by omega)
theorem ah.pos {α : Type} {F G : Nat → Option α} {v : α} {c : Prop} [Decidable c] (h : c) (f : ah F v) : ah (fun k => if c then F k else G k) v := ah.congr (fun k => if_pos h) f
theorem ah.neg {α : Type} {F G : Nat → Option α} {v : α} {c : Prop} [Decidable c] (h : ¬c) (g : ah G v) : ah (fun k => if c then F k else G k) v := ah.congr (fun k => if_neg h) g
theorem ah.one {α : Type} {F : Nat → Option α} {v : α} (h : ah F v) : ∃ k, F k = some v := by
 obtain ⟨k, hk⟩ := h
 exact ⟨k, hk k (Nat.le_refl k)⟩
theorem ah.I7 {α : Type} {F : Nat → Option α} {v : α} (m : ∀ k r, F k = some r → F (k + 1) = some r) (k : Nat) (h : F k = some v) : ah F v := by
 refine ⟨k, fun j hj => ?_⟩
 induction hj with
 | refl => exact h
 | step _ ih => exact m _ _ ih
/-! The kinds of bytes. -/
def le (c : UInt8) : Bool := decide (97 ≤ c.toNat ∧ c.toNat ≤ 122)
def di (c : UInt8) : Bool := decide (48 ≤ c.toNat ∧ c.toNat ≤ 57)
def inn (c : UInt8) : Bool := le c || di c || c == 95
def KEYS : List (List UInt8) := [[109, 111, 100, 117, 108, 101], [117, 115, 101], [102, 110], [108, 101, 116], [105, 102], [101, 108, 115, 101], [119, 104, 105, 108, 101], [98, 114, 101, 97, 107], [99, 111, 110, 116, 105, 110, 117, 101], [114, 101, 116, 117, 114, 110], [112, 117, 116], [101, 109, 105, 116], [121, 105, 101, 108, 100], [110, 105, 108], [115, 116, 97, 116, 101], [115, 112, 97, 119, 110], [108, 101, 110], [110, 111, 116], [97, 110, 100], [111, 114]]
def isKey (s : List UInt8) : Bool := KEYS.contains s
/-- A word: a letter, and then letters, digits and lines. -/
def isWord : List UInt8 → Bool
 | [] => false
 | c :: t => le c && (c :: t).all inn
def fQ (s : List UInt8) : Bool := isWord s && decide (s.length ≤ 16) && !isKey s
/-- What a mask makes of a byte. -/
def esc (c : UInt8) : Option UInt8 := if c = 110 then some 10 else if c = 34 then some 34 else if c = 92 then some 92 else none
/-- What a quoted text says, behind its first sign, and what is left behind it; is the next byte masked? -/
def unq : Bool → List UInt8 → Option (List UInt8 × List UInt8)
 | _, [] => none
 | true, c :: t => match esc c with
  | none => none
  | some x => (unq false t).map fun r => (x :: r.1, r.2)
 | false, c :: t => if c = 34 then some ([], t) else if c = 10 then none else if c = 92 then unq true t else (unq false t).map fun r => (c :: r.1, r.2)
def Jl (n : Int) (c : UInt8) : Int := IntKind.u64.wrap (IntKind.u64.wrap (10 * n) + (((c.toNat : Int) - 48) % 256))
def num (s : List UInt8) : Int := s.foldl Jl 0
def long (s : List UInt8) : Bool := decide (19 < s.length) || (decide (1 < s.length) && s.head? == some 48)
/-- Digits' number, and whether it is one. -/
def numOf (s : List UInt8) : Int × Bool := if long s then (0, false) else (RowKit.wrap64 (num s), decide (num s < 9223372036854775808))
def PAIRS : List (List UInt8) := [[61, 61], [33, 61], [60, 61], [46, 46]]
def GM : List UInt8 := [40, 41, 123, 125, 91, 93, 44, 59, 46, 47, 61, 60, 43, 45, 42, 37]
/-- The mark with which a text begins. -/
def mark (l : List UInt8) : List UInt8 := if PAIRS.contains (l.take 2) then l.take 2 else if (match l with | [] => false | c :: _ => GM.contains c) then l.take 1 else []
/-- The token with which a text begins (kind, text, number) and how many bytes it has; or the fault. -/
def one (l : List UInt8) : Except Int (Int × List UInt8 × Int × Nat) :=
 match l with
 | [] => .error 0
 | c :: t =>
  if le c then
   let w := (c :: t).takeWhile inn
   if isKey w then .ok (5, w, 0, w.length) else if w.length ≤ 16 then .ok (1, w, 0, w.length) else .error 10
  else if di c then
   let d := (c :: t).takeWhile di
   if (numOf d).2 then .ok (2, d, (numOf d).1, d.length) else .error 10
  else if c = 34 then
   match unq false t with
   | some (x, r) => .ok (3, x, 0, (c :: t).length - r.length)
   | none => .error 10
  else
   let m := mark (c :: t)
   if m = [] then .error 9 else .ok (4, m, 0, m.length)
end Go.Proofs.YtkbhkonenkgfoaaGreat.Lex
end
section
set_option linter.unusedVariables false
set_option linter.unusedSimpArgs false
namespace Go.Proofs.YtkbhkonenkgfoaaGreat.Tree
open Go Go.RowKit Go.Proofs.YtkbhkonenkgfoaaGreatW.PrintWords Go.Proofs.YtkbhkonenkgfoaaGreat.Q Go.Proofs.YtkbhkonenkgfoaaGreat.Lex
theorem inc (i : Nat) (h : i + 1 ≤ 9223372036854775807) : wrap64 ((i : Int) + 1) = ((i + 1 : Nat) : Int) := by unfold wrap64; omega
theorem rE (l : List S29) (i : Nat) (h : i < l.length) : ax l (i : Int) = l[i] := by
 simp [ax, List.getD_eq_getElem?_getD, List.getElem?_eq_getElem h]
end Go.Proofs.YtkbhkonenkgfoaaGreat.Tree
end
section
set_option linter.unusedVariables false
set_option linter.unusedSimpArgs false
namespace Go.Proofs.YtkbhkonenkgfoaaGreat.Tree
open Go Go.RowKit Go.Proofs.YtkbhkonenkgfoaaGreatW.PrintWords Go.Proofs.YtkbhkonenkgfoaaGreat.Q Go.Proofs.YtkbhkonenkgfoaaGreat.Lex
/-- How many nodes stand there till so many trees are whole; each node's kids are at most so many. -/
def jD (n : Nat) : List S29 → Nat → Option Nat
 | [], _ => none
 | x :: t, w => if x.f1 < 0 ∨ (n : Int) < x.f1 then none else if w - 1 + x.f1.toNat = 0 then some 1 else (jD n t (w - 1 + x.f1.toNat)).map (· + 1)
def pG (i : Nat) : Option Nat → Int
 | none => -1
 | some m => ((i + m : Nat) : Int)
def jV (l : List S29) (i : Int) : Int := if i < 0 then -1 else pG i.toNat (jD l.length (l.drop i.toNat) 1)
theorem zq (i : Nat) (o : Option Nat) : pG i (o.map (· + 1)) = pG (i + 1) o := by
 cases o with
 | none => rfl
 | some m => simp only [Option.map_some, pG]; omega
theorem w64 {n : Int} (h : -9223372036854775808 ≤ n) (h2 : n ≤ 9223372036854775807) : wrap64 n = n := by unfold wrap64; omega
theorem JE (l : List S29) (hl : l.length ≤ 100000) : ∀ (m i w : Nat), l.length = m + i → 1 ≤ w → w ≤ 1 + i * 100000 →
 ah (fun k => dP.l0 k l (i : Int) (w : Int)) (pG i (jD l.length (l.drop i) w)) := by
 intro m
 induction m with
 | zero =>
  intro i w h1 h2 h3
  rw [List.drop_eq_nil_of_le (by omega)]
  refine ah.step (fun k => by rw [dP.l0]) ?_
  exact ah.neg (by omega) ah.now
 | succ m ih =>
  intro i w h1 h2 h3
  have hi : i < l.length := by omega
  rw [List.drop_eq_getElem_cons hi]
  refine ah.step (fun k => by rw [dP.l0]) ?_
  refine ah.pos (by omega) (ah.pos (by omega) ?_)
  rw [rE l i hi]
  simp only [jD]
  by_cases c1 : l[i].f1 < 0
  ·rw [if_pos (.inl c1)]
   refine ah.pos c1 ?_
   refine ah.step (fun k => by rw [dP.j1]) ?_
   exact ah.pos rfl ah.now
  refine ah.neg c1 ?_
  refine ah.step (fun k => by rw [dP.j1]) ?_
  by_cases c2 : (l.length : Int) < l[i].f1
  ·rw [if_pos (.inr c2)]
   exact ah.pos (decide_eq_true c2) ah.now
  refine ah.neg (by simpa using c2) ?_
  rw [if_neg (by omega)]
  have e2 : wrap64 ((w : Int) + wrap64 (l[i].f1 - 1)) = ((w - 1 + l[i].f1.toNat : Nat) : Int) := by
   rw [w64 (n := l[i].f1 - 1) (by omega) (by omega), w64 (by omega) (by omega)]
   omega
  rw [e2, inc i (by omega)]
  by_cases c3 : w - 1 + l[i].f1.toNat = 0
  ·rw [if_pos c3]
   refine ah.pos (by omega) (ah.lh fun k => ?_)
   simp only [pG]
  rw [if_neg c3, zq]
  refine ah.neg (by omega) ?_
  exact ih (i + 1) _ (by omega) (by omega) (by omega)
theorem xn (l : List S29) (hl : l.length ≤ 100000) (i : Int) : ah (fun k => dP.f k l i) (jV l i) := by
 unfold dP.f jV
 by_cases c : i < 0
 ·rw [if_pos c]; exact ah.pos c ah.now
 rw [if_neg c]
 refine ah.neg c ?_
 by_cases c2 : i.toNat ≤ l.length
 ·have h := JE l hl (l.length - i.toNat) i.toNat 1 (by omega) (by omega) (by omega)
  rw [show ((i.toNat : Nat) : Int) = i by omega] at h
  exact h
 rw [List.drop_eq_nil_of_le (by omega)]
 refine ah.step (fun k => by rw [dP.l0]) ?_
 exact ah.neg (by omega) ah.now
/-! What an end says. -/
theorem xO (n : Nat) : ∀ (t : List S29) (w m : Nat), jD n t w = some m → 1 ≤ m ∧ m ≤ t.length := by
 intro t
 induction t with
 | nil => intro w m h; cases h
 | cons x t ih =>
  intro w m h
  simp only [jD] at h
  split at h
  ·cases h
  split at h
  ·cases h; simp
  obtain ⟨q, hq, rfl⟩ := Option.map_eq_some_iff.1 h
  have := ih _ _ hq
  simp; omega
/-- Fewer trees are whole no later. -/
theorem Df (n : Nat) : ∀ (t : List S29) (w w' m : Nat), jD n t w = some m → 1 ≤ w' → w' ≤ w → ∃ m', m' ≤ m ∧ jD n t w' = some m' := by
 intro t
 induction t with
 | nil => intro w w' m h; cases h
 | cons x t ih =>
  intro w w' m h h1 h2
  simp only [jD] at h ⊢
  split at h
  ·cases h
  rename_i hc
  rw [if_neg hc]
  split at h
  ·cases h
   exact ⟨1, Nat.le_refl _, by rw [if_pos (by omega)]⟩
  obtain ⟨q, hq, rfl⟩ := Option.map_eq_some_iff.1 h
  by_cases c : w' - 1 + x.f1.toNat = 0
  ·exact ⟨1, by omega, by rw [if_pos c]⟩
  obtain ⟨m', hm, he⟩ := ih _ (w' - 1 + x.f1.toNat) _ hq (by omega) (by omega)
  exact ⟨m' + 1, by omega, by rw [if_neg c, he]; rfl⟩
/-- Each node within begins a tree that is whole. -/
theorem uB (n : Nat) : ∀ (t : List S29) (w m j : Nat), jD n t w = some m → 1 ≤ w → j < m → ∃ m', j + m' ≤ m ∧ jD n (t.drop j) 1 = some m' := by
 intro t
 induction t with
 | nil => intro w m j h; cases h
 | cons x t ih =>
  intro w m j h hw hj
  cases j with
  | zero =>
   obtain ⟨m', h1, h2⟩ := Df n _ w 1 m h (by omega) hw
   exact ⟨m', by omega, h2⟩
  | succ j =>
   simp only [jD] at h
   split at h
   ·cases h
   split at h
   ·cases h; omega
   obtain ⟨q, hq, rfl⟩ := Option.map_eq_some_iff.1 h
   obtain ⟨m', h1, h2⟩ := ih _ _ j hq (by omega) (by omega)
   exact ⟨m', by omega, by rw [List.drop_succ_cons]; exact h2⟩
/-- The kids of a tree's nodes are fewer than its nodes. -/
theorem wZ (n : Nat) : ∀ (t : List S29) (w m : Nat), jD n t w = some m → 1 ≤ w → ∀ x ∈ t.take m, 0 ≤ x.f1 ∧ (w : Int) + x.f1 ≤ m := by
 intro t
 induction t with
 | nil => intro w m h; cases h
 | cons x t ih =>
  intro w m h hw y hy
  have hlen : ∀ (t : List S29) (w m : Nat), jD n t w = some m → 1 ≤ w → w ≤ m := by
   intro t
   induction t with
   | nil => intro w m h; cases h
   | cons x t ih =>
    intro w m h hw
    simp only [jD] at h
    split at h
    ·cases h
    split at h
    ·cases h; omega
    obtain ⟨q, hq, rfl⟩ := Option.map_eq_some_iff.1 h
    have := ih _ _ hq (by omega)
    omega
  simp only [jD] at h
  split at h
  ·cases h
  rename_i hc
  split at h
  ·cases h
   simp at hy
   subst hy
   omega
  rename_i h0
  obtain ⟨q, hq, rfl⟩ := Option.map_eq_some_iff.1 h
  rw [List.take_succ_cons] at hy
  have h2 := hlen _ _ _ hq (by omega)
  rcases List.mem_cons.1 hy with rfl | hy
  ·omega
  have := ih _ _ hq (by omega) y hy
  omega
end Go.Proofs.YtkbhkonenkgfoaaGreat.Tree
end
section
set_option linter.unusedVariables false
set_option linter.unusedSimpArgs false
namespace Go.Proofs.YtkbhkonenkgfoaaGreat.Tree
open Go Go.RowKit Go.Proofs.YtkbhkonenkgfoaaGreatW.PrintWords Go.Proofs.YtkbhkonenkgfoaaGreat.Q Go.Proofs.YtkbhkonenkgfoaaGreat.Lex
/-- The nodes around, with the kids that are missing, the innermost first: those that miss none are left. -/
def close : List Nat → List Nat
 | [] => []
 | 0 :: st => close st
 | (n + 1) :: st => n :: st
/-- The deepest, over nodes, from nodes around on. -/
def rZ : List S29 → List Nat → Nat → Nat
 | [], _, b => b
 | x :: t, st, b => rZ t (close (x.f1.toNat :: st)) (max b (st.length + 1))
/-- Each node begins a tree that is whole. -/
def nH (l : List S29) : Nat → Bool
 | 0 => true
 | m + 1 => (jD l.length (l.drop (l.length - (m + 1))) 1).isSome && nH l m
def ints (st : List Nat) : List Int := (st.map Int.ofNat).reverse
theorem ku (st : List Nat) : (ints st).length = st.length := by simp [ints]
theorem kM (n : Nat) (st : List Nat) : ints (n :: st) = ints st ++ [(n : Int)] := by simp [ints]
theorem xg : ∀ st : List Nat, (close st).length ≤ st.length
 | [] => Nat.le_refl _
 | 0 :: st => by simp only [close]; have := xg st; simp; omega
 | (n + 1) :: st => by simp [close]
theorem xe : ∀ (st : List Nat) (B : Nat), (∀ n ∈ st, n ≤ B) → ∀ n ∈ close st, n ≤ B
 | [], _, _, n, h => by cases h
 | 0 :: st, B, hB, n, h => xe st B (fun m hm => hB m (by simp [hm])) n (by simpa [close] using h)
 | (q + 1) :: st, B, hB, n, h => by
  rcases List.mem_cons.1 (show n ∈ q :: st from h) with rfl | h
  ·have := hB (n + 1) (by simp); omega
  exact hB n (by simp [h])
theorem Fp (l : List S29) (hl : l.length ≤ 100000) (b : Int) (i : Nat) (hi : i + 1 ≤ 300000) (v : Int) : ∀ st : List Nat, st ≠ [] → st.length ≤ 300000 → (∀ n ∈ st, n ≤ 100000) →
 ah (fun k => dD.l0 k l b (ints (close st)) l (l.length : Int) ((i + 1 : Nat) : Int)) v → ah (fun k => dD.l1 k l b (ints st) l (l.length : Int) (i : Int)) v := by
 intro st
 induction st with
 | nil => intro h; exact absurd rfl h
 | cons n st ih =>
  intro _ hs hB h
  simp only [List.length_cons] at hs
  have hlen : ((ints (n :: st)).length : Int) = (st.length : Int) + 1 := by rw [ku]; simp
  refine ah.step (fun k => by rw [dD.l1]) ?_
  rw [hlen, show wrap64 ((st.length : Int) + 1 - 1) = (st.length : Int) by unfold wrap64; omega, inc i (by omega)]
  refine ah.pos (by omega) (ah.pos (by omega) ?_)
  have hrd : rd (ints (n :: st)) (st.length : Int) = (n : Int) := by
   rw [kM]
   simp [rd, List.getD_eq_getElem?_getD, List.getElem?_append_right, ku]
  rw [hrd, Int.toNat_natCast]
  cases n with
  | zero =>
   refine ah.neg (by simp) (ah.pos (by omega) ?_)
   have ht : (ints (0 :: st)).take st.length = ints st := by
    rw [kM]
    exact List.take_left' (ku st)
   simp only [ht, Option.bind_some]
   simp only [close] at h
   cases st with
   | nil => exact ah.pos rfl h
   | cons m st => exact ah.neg (by simp; omega) (ih (by simp) (by omega) (fun q hq => hB q (by simp [hq])) h)
  | succ n =>
   have hn := hB (n + 1) (by simp)
   refine ah.pos (by omega) ?_
   have hset : (ints ((n + 1) :: st)).set st.length (wrap64 (((n + 1 : Nat) : Int) - 1)) = ints (n :: st) := by
    rw [show wrap64 (((n + 1 : Nat) : Int) - 1) = (n : Int) by unfold wrap64; omega, kM, kM, List.set_append]
    simp [ku]
   rw [hset]
   exact h
theorem He (l : List S29) (hl : l.length ≤ 100000) : ∀ (m i : Nat) (st : List Nat) (b : Nat), l.length = m + i → st.length ≤ i → b ≤ i → (∀ n ∈ st, n ≤ 100000) →
 ah (fun k => dD.l0 k l (b : Int) (ints st) l (l.length : Int) (i : Int)) (if nH l m then (rZ (l.drop i) st b : Int) else -1) := by
 intro m
 induction m with
 | zero =>
  intro i st b h1 h2 h3 h4
  rw [List.drop_eq_nil_of_le (by omega)]
  refine ah.step (fun k => by rw [dD.l0]) ?_
  exact ah.neg (by omega) ah.now
 | succ m ih =>
  intro i st b h1 h2 h3 h4
  have hi : i < l.length := by omega
  refine ah.step (fun k => by rw [dD.l0]) ?_
  refine ah.pos (by omega) (ah.pos (by omega) (ah.pos (by omega) ?_))
  refine ah.bind (xn l hl (i : Int)) ?_
  have he : jV l (i : Int) = pG i (jD l.length (l.drop i) 1) := by
   unfold jV
   rw [if_neg (by omega), Int.toNat_natCast]
  rw [he]
  simp only [nH, show l.length - (m + 1) = i by omega]
  cases hF : jD l.length (l.drop i) 1 with
  | none => exact ah.pos (by simp [pG]) ah.now
  | some q =>
   refine ah.neg (by simp only [pG]; omega) (ah.pos (by rw [ku]; omega) ?_)
   rw [rE l i hi]
   have hk : 0 ≤ l[i].f1 ∧ l[i].f1 ≤ 100000 := by
    rw [List.drop_eq_getElem_cons hi] at hF
    simp only [jD] at hF
    split at hF
    ·cases hF
    omega
   have hpush : ints st ++ [l[i].f1] = ints (l[i].f1.toNat :: st) := by
    rw [kM, Int.toNat_of_nonneg hk.1]
   simp only [hpush, Option.bind_some, Option.isSome_some, Bool.true_and]
   have hmx : mx (b : Int) ((ints (l[i].f1.toNat :: st)).length : Int) = ((max b (st.length + 1) : Nat) : Int) := by
    rw [ku]; unfold mx; simp only [List.length_cons]; split <;> omega
   rw [hmx]
   have hm : ∀ n ∈ l[i].f1.toNat :: st, n ≤ 100000 := by
    intro n hn
    rcases List.mem_cons.1 hn with rfl | hn
    ·omega
    exact h4 n hn
   refine Fp l hl _ i (by omega) _ _ (by simp) (by simp; omega) hm ?_
   rw [List.drop_eq_getElem_cons hi]
   have hcl := xg (l[i].f1.toNat :: st)
   exact ih (i + 1) _ _ (by omega) (by simp only [List.length_cons] at hcl; omega) (by omega) (xe _ 100000 hm)
theorem Hf (l : List S29) (hl : l.length ≤ 100000) : ah (fun k => dD.f k l) (if nH l l.length then (rZ l [] 0 : Int) else -1) := by
 have h := He l hl l.length 0 [] 0 (by omega) (by simp) (by omega) (by simp)
 exact h
theorem wI (l : List S29) (m : Nat) (hm : m ≤ l.length) (h : ∀ j, j < l.length → (jD l.length (l.drop j) 1).isSome = true) : nH l m = true := by
 induction m with
 | zero => rfl
 | succ m ih =>
  simp only [nH]
  rw [h _ (by omega), ih (by omega)]; rfl
end Go.Proofs.YtkbhkonenkgfoaaGreat.Tree
end
section
set_option linter.unusedVariables false
set_option linter.unusedSimpArgs false
namespace Go.Proofs.YtkbhkonenkgfoaaGreat.Tree
open Go Go.RowKit Go.Proofs.YtkbhkonenkgfoaaGreatW.PrintWords Go.Proofs.YtkbhkonenkgfoaaGreat.Q Go.Proofs.YtkbhkonenkgfoaaGreat.Lex
def oV (l : List S29) (i : Int) : List S29 := if jV l i < 0 then [] else (l.take (jV l i).toNat).drop i.toNat
/-- An end that is there. -/
theorem nz {l : List S29} {i : Int} (h : ¬ jV l i < 0) : ∃ j m : Nat, i = j ∧ jD l.length (l.drop j) 1 = some m ∧ jV l i = ((j + m : Nat) : Int) ∧ 1 ≤ m ∧ j + m ≤ l.length := by
 have hi : ¬ i < 0 := by
  intro c
  unfold jV at h
  rw [if_pos c] at h
  omega
 unfold jV at h ⊢
 rw [if_neg hi] at h
 refine ⟨i.toNat, ?_⟩
 cases he : jD l.length (l.drop i.toNat) 1 with
 | none => rw [he] at h; simp [pG] at h
 | some m =>
  obtain ⟨h1, h2⟩ := xO _ _ _ _ he
  rw [List.length_drop] at h2
  refine ⟨m, by omega, rfl, ?_, h1, by omega⟩
  rw [if_neg hi]
  rfl
theorem Dc {l : List S29} {i : Int} (h : jV l i < 0) : jV l i = -1 := by
 unfold jV at h ⊢
 split
 ·rfl
 rename_i c
 rw [if_neg c] at h
 cases he : jD l.length (l.drop i.toNat) 1 with
 | none => rfl
 | some m => rw [he] at h; simp only [pG] at h; omega
theorem D6 {l : List S29} {j m : Nat} (h : j + m ≤ l.length) : (l.take (j + m)).drop j = (l.drop j).take m := by
 rw [List.drop_take, Nat.add_sub_cancel_left]
theorem H5 (l : List S29) (hl : l.length ≤ 100000) (i : Int) : ah (fun k => jg.f k l i) (oV l i) := by
 unfold jg.f
 refine ah.bind (xn l hl i) ?_
 by_cases c : jV l i < 0
 ·have hs : oV l i = [] := by unfold oV; rw [if_pos c]
  rw [hs]
  exact ah.pos c ah.now
 obtain ⟨j, m, rfl, _, he, h1, h2⟩ := nz c
 have hs : oV l (j : Int) = (l.take (j + m)).drop j := by
  unfold oV
  rw [if_neg c, he, Int.toNat_natCast, Int.toNat_natCast]
 rw [hs, he]
 refine ah.neg (by omega) (ah.pos (by omega) (ah.pos (by omega) (ah.pos (by omega) ?_)))
 simp only [Option.bind_some, Int.toNat_natCast]
 refine ah.pos ?_ (ah.lh fun k => by simp)
 simp only [List.length_nil, List.length_drop, List.length_take]
 omega
end Go.Proofs.YtkbhkonenkgfoaaGreat.Tree
end
section
set_option linter.unusedVariables false
set_option linter.unusedSimpArgs false
namespace Go.Proofs.YtkbhkonenkgfoaaGreat.Tree
open Go Go.RowKit Go.Proofs.YtkbhkonenkgfoaaGreatW.PrintWords Go.Proofs.YtkbhkonenkgfoaaGreat.Q Go.Proofs.YtkbhkonenkgfoaaGreat.Lex
/-- So many trees, one behind the other, the deepest of them so deep. -/
inductive Fo : List S29 → Nat → Nat → Prop
 | nil : Fo [] 0 0
 | cons (x : S29) (t v : List S29) (w D1 D2 : Nat) (hx : 0 ≤ x.f1) (ht : Fo t x.f1.toNat D1) (hv : Fo v w D2) : Fo (x :: (t ++ v)) (w + 1) (max (1 + D1) D2)
theorem Fo.none {u : List S29} {D : Nat} (h : Fo u 0 D) : u = [] ∧ D = 0 := by
 cases h; exact ⟨rfl, rfl⟩
theorem Fo.split : ∀ (a b : Nat) (u : List S29) (D : Nat), Fo u (a + b) D → ∃ u1 u2 D1 D2, u = u1 ++ u2 ∧ Fo u1 a D1 ∧ Fo u2 b D2 ∧ D = max D1 D2 := by
 intro a
 induction a with
 | zero =>
  intro b u D h
  rw [Nat.zero_add] at h
  exact ⟨[], u, 0, D, rfl, Fo.nil, h, by omega⟩
 | succ a ih =>
  intro b u D h
  generalize hn : a + 1 + b = n at h
  cases h with
  | nil => omega
  | cons x t v w D1 D2 hx ht hv =>
   obtain rfl : w = a + b := by omega
   obtain ⟨v1, v2, E1, E2, rfl, h1, h2, rfl⟩ := ih b v D2 hv
   refine ⟨x :: (t ++ v1), v2, max (1 + D1) E1, E2, by simp, Fo.cons x t v1 a D1 E1 hx ht h1, h2, by omega⟩
/-- What is whole is so many trees. -/
theorem Fo.I8 (n : Nat) : ∀ (t : List S29) (w m : Nat), jD n t w = some m → 1 ≤ w → ∃ D, Fo (t.take m) w D := by
 intro t
 induction t with
 | nil => intro w m h; cases h
 | cons x t ih =>
  intro w m h hw
  simp only [jD] at h
  split at h
  ·cases h
  rename_i hc
  have hx : 0 ≤ x.f1 := by omega
  split at h
  ·rename_i h0
   cases h
   obtain rfl : w = 1 := by omega
   have hk : x.f1.toNat = 0 := by omega
   exact ⟨_, Fo.cons x [] [] 0 0 0 hx (by rw [hk]; exact Fo.nil) Fo.nil⟩
  obtain ⟨q, hq, rfl⟩ := Option.map_eq_some_iff.1 h
  obtain ⟨D, hD⟩ := ih _ _ hq (by omega)
  rw [Nat.add_comm] at hD
  obtain ⟨u1, u2, D1, D2, e, h1, h2, rfl⟩ := Fo.split _ _ _ _ hD
  rw [List.take_succ_cons, e]
  obtain ⟨w, rfl⟩ : ∃ v, w = v + 1 := ⟨w - 1, by omega⟩
  exact ⟨_, Fo.cons x u1 u2 w D1 D2 hx h1 h2⟩
/-- The end of so many trees, whatever stands behind. -/
theorem Fo.jD {n : Nat} {u : List S29} {w D : Nat} (h : Fo u w D) (hn : ∀ x ∈ u, ¬ ((n : Int) < x.f1)) : ∀ (rest : List S29) (c : Nat), 1 ≤ w + c →
 Tree.jD n (u ++ rest) (w + c) = if c = 0 then some u.length else (Tree.jD n rest c).map (· + u.length) := by
 induction h with
 | nil =>
  intro rest c hc
  rw [if_neg (by omega)]
  simp
 | cons x t v w D1 D2 hx ht hv ih1 ih2 =>
  intro rest c hc
  have hnx := hn x (by simp)
  simp only [List.cons_append, Tree.jD]
  rw [if_neg (by omega)]
  by_cases h0 : w + 1 + c - 1 + x.f1.toNat = 0
  ·rw [if_pos h0]
   have hk : x.f1.toNat = 0 := by omega
   rw [hk] at ht
   obtain rfl : w = 0 := by omega
   rw [ht.none.1, hv.none.1, if_pos (by omega)]
   rfl
  rw [if_neg h0, List.append_assoc, show w + 1 + c - 1 + x.f1.toNat = x.f1.toNat + (w + c) by omega,
   ih1 (fun y hy => hn y (by simp [hy])) (v ++ rest) (w + c) (by omega)]
  by_cases h1 : w + c = 0
  ·rw [if_pos h1, if_pos (by omega)]
   obtain rfl : w = 0 := by omega
   rw [hv.none.1]; simp
  rw [if_neg h1, ih2 (fun y hy => hn y (by simp [hy])) rest c (by omega)]
  by_cases h2 : c = 0
  ·rw [if_pos h2, if_pos h2]
   simp; omega
  rw [if_neg h2, if_neg h2, Option.map_map, Option.map_map]
  congr 1
  funext q
  simp; omega
/-- How deep: the nodes around count, too. -/
theorem Fo.rZ {u : List S29} {w D : Nat} (h : Fo u w D) : ∀ (rest : List S29) (st : List Nat) (b : Nat), 1 ≤ w →
 Tree.rZ (u ++ rest) ((w - 1) :: st) b = Tree.rZ rest (close st) (max b (st.length + 1 + D)) := by
 induction h with
 | nil => intro rest st b hw; omega
 | cons x t v w D1 D2 hx ht hv ih1 ih2 =>
  intro rest st b _
  rw [Nat.add_sub_cancel]
  simp only [List.cons_append, List.append_assoc, Tree.rZ, List.length_cons]
  have last : ∀ b', Tree.rZ (v ++ rest) (close (w :: st)) b' = Tree.rZ rest (close st) (max b' (if w = 0 then 0 else st.length + 1 + D2)) := by
   intro b'
   cases w with
   | zero => rw [hv.none.1]; simp [close]
   | succ w =>
    rw [if_neg (by omega)]
    exact ih2 rest st b' (by omega)
  cases hk : x.f1.toNat with
  | zero =>
   rw [hk] at ht
   rw [ht.none.1, ht.none.2]
   simp only [List.nil_append, close]
   rw [last]
   congr 1
   split
   ·rename_i q; subst q; rw [hv.none.2]; omega
   omega
  | succ k =>
   rw [hk] at ih1
   have h1 := ih1 (v ++ rest) (w :: st) (max b (st.length + 1 + 1)) (by omega)
   simp only [Nat.add_sub_cancel, List.length_cons] at h1
   simp only [close]
   rw [h1, last]
   congr 1
   split
   ·rename_i q; subst q; rw [hv.none.2]; omega
   omega
end Go.Proofs.YtkbhkonenkgfoaaGreat.Tree
end
section
set_option linter.unusedVariables false
set_option linter.unusedSimpArgs false
namespace Go.Proofs.YtkbhkonenkgfoaaGreat.Tree
open Go Go.RowKit Go.Proofs.YtkbhkonenkgfoaaGreatW.PrintWords Go.Proofs.YtkbhkonenkgfoaaGreat.Q Go.Proofs.YtkbhkonenkgfoaaGreat.Lex
theorem Fo.len {u : List S29} {w D : Nat} (h : Fo u w D) : w ≤ u.length := by
 induction h with
 | nil => exact Nat.le_refl _
 | cons x t v w D1 D2 hx ht hv ih1 ih2 => simp; omega
theorem Fo.kids {u : List S29} {w D : Nat} (h : Fo u w D) : ∀ y ∈ u, y.f1 + (w : Int) ≤ u.length := by
 induction h with
 | nil => intro y hy; cases hy
 | cons x t v w D1 D2 hx ht hv ih1 ih2 =>
  have h1 := ht.len
  have h2 := hv.len
  intro y hy
  simp only [List.length_cons, List.length_append]
  rcases List.mem_cons.1 hy with rfl | hy
  ·omega
  rcases List.mem_append.1 hy with hy | hy
  ·have := ih1 y hy; omega
  have := ih2 y hy; omega
theorem Fo.one {s : List S29} {D : Nat} (h : Fo s 1 D) : ∃ x t D1, s = x :: t ∧ D = 1 + D1 ∧ 0 ≤ x.f1 ∧ Fo t x.f1.toNat D1 := by
 generalize hn : 1 = n at h
 cases h with
 | nil => omega
 | cons x t v w D1 D2 hx ht hv =>
  obtain rfl : w = 0 := by omega
  obtain ⟨rfl, rfl⟩ := hv.none
  exact ⟨x, t, D1, by simp, by omega, hx, ht⟩
/-- The places of so many trees, from one on. -/
def its (l : List S29) : Nat → Int → List Int
 | 0, _ => []
 | d + 1, p => p :: its l d (jV l p)
theorem zF (l : List S29) (hl : l.length ≤ 100000) (i : Nat) (hi : i < l.length) (h0 : 0 ≤ l[i].f1) (h9 : l[i].f1 ≤ 100000) : ∀ (d : Nat) (acc : List Int) (at' : Int), l[i].f1.toNat = d + acc.length →
 ah (fun k => eX.l0 k l (i : Int) acc at') (acc ++ its l d at') := by
 intro d
 induction d with
 | zero =>
  intro acc at' h
  refine ah.step (fun k => by rw [eX.l0]) ?_
  refine ah.pos (by omega) (ah.pos (by omega) ?_)
  rw [rE l i hi, its, List.append_nil]
  exact ah.neg (by omega) ah.now
 | succ d ih =>
  intro acc at' h
  have h1 := ih (acc ++ [at']) (jV l at') (by simp; omega)
  rw [List.append_assoc] at h1
  refine ah.step (fun k => by rw [eX.l0]) ?_
  refine ah.pos (by omega) (ah.pos (by omega) ?_)
  rw [rE l i hi]
  exact ah.pos (by omega) (ah.pos (by omega) (ah.bind (xn l hl at') h1))
theorem BA (l : List S29) : ∀ (d : Nat) (p : Int), (its l d p).length = d
 | 0, _ => rfl
 | d + 1, p => by rw [its, List.length_cons, BA]
/-- A tree that stands at a place: where it ends. -/
theorem uA {l rest : List S29} {x : S29} {t : List S29} {p D1 : Nat} (hx : 0 ≤ x.f1) (ht : Fo t x.f1.toNat D1) (hd : l.drop p = (x :: t) ++ rest) (hn : ∀ y ∈ x :: t, ¬ ((l.length : Int) < y.f1)) :
 jV l (p : Int) = ((p + (x :: t).length : Nat) : Int) := by
 have hone : Fo (x :: t) 1 (1 + D1) := by
  have := Fo.cons x t [] 0 D1 0 hx ht Fo.nil
  rw [List.append_nil] at this
  rwa [show max (1 + D1) 0 = 1 + D1 by omega] at this
 have hF : Tree.jD l.length (l.drop p) 1 = some (x :: t).length := by
  rw [hd]
  have := hone.jD (n := l.length) hn rest 0 (by omega)
  simpa using this
 unfold jV
 rw [if_neg (by omega), Int.toNat_natCast, hF]; rfl
/-- The places of so many trees lie where the trees do. -/
theorem IL (l : List S29) : ∀ (w : Nat) (u rest : List S29) (D p : Nat), Fo u w D → l.drop p = u ++ rest → (∀ y ∈ u, ¬ ((l.length : Int) < y.f1)) → ∀ q ∈ its l w (p : Int), (p : Int) ≤ q ∧ q < ((p + u.length : Nat) : Int) := by
 intro w
 induction w with
 | zero => intro u rest D p h hd hn q hq; simp [its] at hq
 | succ w ih =>
  intro u rest D p h hd hn q hq
  generalize hw : w + 1 = w1 at h
  cases h with
  | nil => omega
  | cons x t v w' D1 D2 hx ht hv =>
   obtain rfl : w' = w := by omega
   have hd2 : l.drop p = (x :: t) ++ (v ++ rest) := by rw [hd]; simp
   have he := uA hx ht hd2 (fun y hy => hn y (by rcases List.mem_cons.1 hy with rfl | hy; simp; simp [hy]))
   rw [its, he] at hq
   rcases List.mem_cons.1 hq with rfl | hq
   ·constructor
    ·omega
    simp only [List.length_cons, List.length_append]; omega
   have := ih v rest D2 (p + (x :: t).length) hv (by rw [← List.drop_drop, hd2, List.drop_left']; rfl) (fun y hy => hn y (by simp [hy])) q hq
   simp only [List.length_cons, List.length_append] at this ⊢
   omega
/-- Of a whole tree: each node's kids come to their places, all of them within. -/
theorem wu {l : List S29} (hl : l.length ≤ 100000) (h : Tree.jD l.length l 1 = some l.length) (i : Nat) (hi : i < l.length) :
 ah (fun k => eX.f k l (i : Int)) (its l (ax l (i : Int)).f1.toNat ((i + 1 : Nat) : Int)) ∧ (its l (ax l (i : Int)).f1.toNat ((i + 1 : Nat) : Int)).length ≤ 100000 ∧
 ∀ q ∈ its l (ax l (i : Int)).f1.toNat ((i + 1 : Nat) : Int), (i : Int) < q ∧ q < (l.length : Int) := by
 obtain ⟨m, hm, hF⟩ := uB _ _ _ _ i h (Nat.le_refl 1) hi
 have hkk := wZ _ _ _ _ hF (Nat.le_refl 1)
 obtain ⟨h1, h2⟩ := xO _ _ _ _ hF
 have hin : l[i] ∈ (l.drop i).take m := by
  obtain ⟨q, rfl⟩ : ∃ q, m = q + 1 := ⟨m - 1, by omega⟩
  rw [List.drop_eq_getElem_cons hi, List.take_succ_cons]
  exact List.mem_cons_self
 have hk := hkk _ hin
 have he : jV l (i : Int) = ((i + m : Nat) : Int) := by
  unfold jV
  rw [if_neg (by omega), Int.toNat_natCast, hF]; rfl
 have hr := rE l i hi
 refine ⟨?_, by rw [BA, hr]; omega, ?_⟩
 ·rw [hr]
  unfold eX.f
  refine ah.bind (xn l hl (i : Int)) ?_
  rw [inc i (by omega), he]
  refine ah.neg (by omega) ?_
  have := zF l hl i hi hk.1 (by omega) l[i].f1.toNat [] ((i + 1 : Nat) : Int) (by simp)
  simpa using this
 intro q hq
 obtain ⟨D, hD⟩ := Fo.I8 _ _ _ _ hF (Nat.le_refl 1)
 have hdrop0 : l.drop i = (l.drop i).take m ++ l.drop (i + m) := by rw [← List.drop_drop, List.take_append_drop]
 have hdrop : l[i] :: l.drop (i + 1) = (l.drop i).take m ++ l.drop (i + m) := (List.drop_eq_getElem_cons hi).symm.trans hdrop0
 clear hdrop0
 have hlen : ((l.drop i).take m).length = m := by rw [List.length_take, List.length_drop]; omega
 generalize (l.drop i).take m = s at *
 obtain ⟨x, t, D1, rfl, rfl, hx, ht⟩ := hD.one
 obtain ⟨hxl, hdr⟩ := List.cons.inj hdrop
 have htl : t.length + 1 = m := by simpa using hlen
 rw [hr, hxl] at hq
 have := IL l x.f1.toNat t (l.drop (i + m)) D1 (i + 1) ht hdr (fun y hy => by have := hkk y (by simp [hy]); omega) q hq
 omega
end Go.Proofs.YtkbhkonenkgfoaaGreat.Tree
end
section
set_option linter.unusedVariables false
set_option linter.unusedSimpArgs false
namespace Go.Proofs.YtkbhkonenkgfoaaGreat.Tree
open Go Go.RowKit Go.Proofs.YtkbhkonenkgfoaaGreatW.PrintWords Go.Proofs.YtkbhkonenkgfoaaGreat.Q Go.Proofs.YtkbhkonenkgfoaaGreat.Lex
def qf (l : List S29) (i : Int) : List Int := if jV l i < 0 then [] else its l (ax l i).f1.toNat (i + 1)
theorem Bz {l : List S29} (hl : l.length ≤ 100000) {i : Int} (c : ¬ jV l i < 0) : ∃ j : Nat, i = j ∧ ∃ hj : j < l.length, 0 ≤ l[j].f1 ∧ l[j].f1 ≤ 100000 := by
 obtain ⟨j, m, rfl, hF, he, h1, h2⟩ := nz c
 have hj : j < l.length := by omega
 refine ⟨j, rfl, hj, ?_⟩
 have hkk := wZ _ _ _ _ hF (Nat.le_refl 1)
 have hin : l[j] ∈ (l.drop j).take m := by
  obtain ⟨q, rfl⟩ : ∃ q, m = q + 1 := ⟨m - 1, by omega⟩
  rw [List.drop_eq_getElem_cons hj, List.take_succ_cons]
  exact List.mem_cons_self
 have := hkk _ hin
 omega
theorem Jc (l : List S29) (hl : l.length ≤ 100000) (i : Int) : ah (fun k => eX.f k l i) (qf l i) := by
 unfold eX.f qf
 refine ah.bind (xn l hl i) ?_
 by_cases c : jV l i < 0
 ·rw [if_pos c]; exact ah.pos c ah.now
 rw [if_neg c]
 obtain ⟨j, rfl, hj, h0, h9⟩ := Bz hl c
 rw [inc j (by omega), rE l j hj]
 refine ah.neg c ?_
 have := zF l hl j hj h0 h9 l[j].f1.toNat [] ((j + 1 : Nat) : Int) (by simp)
 simpa using this
end Go.Proofs.YtkbhkonenkgfoaaGreat.Tree
end
section
set_option linter.unusedVariables false
set_option linter.unusedSimpArgs false
namespace Go.Proofs.YtkbhkonenkgfoaaGreat.Par
open Go Go.RowKit Go.Proofs.YtkbhkonenkgfoaaGreatW.PrintWords Go.Proofs.YtkbhkonenkgfoaaGreat.Q Go.Proofs.YtkbhkonenkgfoaaGreat.Lex Go.Proofs.YtkbhkonenkgfoaaGreat.Tree
/-- What is read, and the tokens that are left; a fault, and the tokens that are left there; none: the rounds are used up. -/
abbrev R (α : Type) := Except (Option (List S37)) (α × List S37)
abbrev Ps (α : Type) := List S37 → R α
def bnd {α β : Type} (p : Ps α) (f : α → Ps β) : Ps β := fun l => match p l with | .ok (a, r) => f a r | .error e => .error e
def ret {α : Type} (a : α) : Ps α := fun l => .ok (a, l)
def out {α : Type} : Ps α := fun _ => .error none
def E : ByteArray := ⟨#[]⟩
/-- The next token's text, if it is a key or a mark. -/
def wB : List S37 → ByteArray
 | [] => E
 | t :: _ => if t.f0 = 5 ∨ t.f0 = 4 then t.f1 else E
def wd (l : List S37) : List UInt8 := (wB l).toList
def must (w : List UInt8) : Ps Unit := fun l => if wd l = w then .ok ((), l.tail) else .error (some l)
def need (k : Int) : Ps S37
 | [] => .error (some [])
 | t :: r => if t.f0 = k then .ok (t, r) else .error (some (t :: r))
/-- Passes over a token that is there. -/
def tk : Ps Unit
 | [] => .error none
 | _ :: r => .ok ((), r)
def nd (k : Int) (nm : ByteArray) (n : Int) (tx : ByteArray) (kids : List (List S29)) : List S29 := ⟨k, (kids.length : Int), nm, n, tx⟩ :: kids.flatten
structure PF where
 expr : Ps (List S29)
 block : Ps (List S29)
 bound : Int → Ps (List S29)
 unary : Ps (List S29)
def lG (F : PF) (k : Int) (nm : ByteArray) : Ps (List S29) := bnd F.expr fun e => bnd (must [59]) fun _ => ret (nd k nm 0 E [e])
def sD (k : Int) : Ps (List S29) := bnd (must [59]) fun _ => ret (nd k E 0 E [])
def rO (e : List S29) : Option (List S29 × List S29) := match qf e 0 with
 | a :: b :: _ => some (oV e a, oV e b)
 | _ => none
def xy (F : PF) (e : List S29) : Ps (List S29) := match rO e with
 | some (a, b) => bnd (must [61]) fun _ => bnd F.expr fun v => bnd (must [59]) fun _ => ret (nd 8 E 0 E [a, b, v])
 | none => out
def sQ (F : PF) (e : List S29) : Ps (List S29) := fun l =>
 if wd l ≠ [61] then (bnd (must [59]) fun _ => ret (nd 17 E 0 E [e])) l
 else match e with
  | [] => .error none
  | x :: _ => if x.f0 = 21 then (bnd (must [61]) fun _ => lG F 7 x.f2) l else if x.f0 = 26 then xy F e l else .error (some l)
def uX (F : PF) : Ps (List S29) := bnd F.expr (sQ F)
def kZ (F : PF) : Ps (List S29) := fun l =>
 if wd l = [108, 101, 116] then (bnd tk fun _ => bnd (need 1) fun t => bnd (must [61]) fun _ => lG F 6 t.f1) l
 else if wd l = [105, 102] then (bnd tk fun _ => bnd F.expr fun e => bnd F.block fun b => fun l2 => if wd l2 = [101, 108, 115, 101] then (bnd tk fun _ => bnd F.block fun c => ret (nd 9 E 0 E [e, b, c])) l2 else .ok (nd 9 E 0 E [e, b], l2)) l
 else if wd l = [119, 104, 105, 108, 101] then (bnd tk fun _ => bnd F.expr fun e => bnd F.block fun b => ret (nd 10 E 0 E [e, b])) l
 else if wd l = [98, 114, 101, 97, 107] then (bnd tk fun _ => sD 11) l
 else if wd l = [99, 111, 110, 116, 105, 110, 117, 101] then (bnd tk fun _ => sD 12) l
 else if wd l = [121, 105, 101, 108, 100] then (bnd tk fun _ => sD 16) l
 else if wd l = [114, 101, 116, 117, 114, 110] then (bnd tk fun _ => lG F 13 E) l
 else if wd l = [112, 117, 116] then (bnd tk fun _ => lG F 14 E) l
 else if wd l = [101, 109, 105, 116] then (bnd tk fun _ => lG F 15 E) l
 else uX F l
def qp (F : PF) : Nat → List (List S29) → Ps (List S29)
 | 0, _ => out
 | n + 1, acc => fun l => if wd l = [125] then (bnd (must [125]) fun _ => ret (nd 5 E 0 E acc)) l else (bnd (kZ F) fun s => qp F n (acc ++ [s])) l
def pJ (F : PF) (N : Nat) : Ps (List S29) := bnd (must [123]) fun _ => qp F N []
def mQ (one : Ps (List S29)) : Nat → List (List S29) → Ps (List (List S29))
 | 0, _ => out
 | n + 1, acc => fun l => if wd l = [41] then (bnd (must [41]) fun _ => ret acc) l
  else if acc = [] then (bnd one fun x => mQ one n (acc ++ [x])) l else (bnd (must [44]) fun _ => bnd one fun x => mQ one n (acc ++ [x])) l
def gz (one : Ps (List S29)) (N : Nat) : Ps (List (List S29)) := bnd (must [40]) fun _ => mQ one N []
def lV : Ps (List S29) := bnd (need 1) fun t => ret (nd 4 t.f1 0 E [])
def lM (F : PF) (N : Nat) (k : Int) (nm : ByteArray) : Ps (List S29) := bnd (gz lV N) fun ps => bnd (pJ F N) fun b => ret (nd k nm 0 E (ps ++ [b]))
def Bg (F : PF) (N : Nat) : Ps (List S29) := bnd (need 1) fun t => fun l =>
 if wd l = [46] then (bnd tk fun _ => bnd (need 1) fun u => bnd (gz F.expr N) fun ks => ret (nd 23 t.f1 0 u.f1 ks)) l else .ok (nd 21 t.f1 0 E [], l)
def rM (F : PF) (N : Nat) : Ps (List S29)
 | [] => .error (some [])
 | t :: r => if t.f0 = 2 then .ok (nd 19 E t.f2 E [], r) else if t.f0 = 3 then .ok (nd 20 E 0 t.f1 [], r) else Bg F N (t :: r)
def uV (F : PF) (N : Nat) : Ps (List S29) := fun l =>
 if wd l = [110, 105, 108] then (bnd tk fun _ => ret (nd 18 E 0 E [])) l
 else if wd l = [115, 116, 97, 116, 101] then (bnd tk fun _ => ret (nd 29 E 0 E [])) l
 else if wd l = [123] then (bnd tk fun _ => bnd (must [125]) fun _ => ret (nd 25 E 0 E [])) l
 else if wd l = [102, 110] then (bnd tk fun _ => lM F N 24 E) l
 else if wd l = [40] then (bnd tk fun _ => bnd F.expr fun e => bnd (must [41]) fun _ => ret e) l
 else rM F N l
def rF (F : PF) (N : Nat) : Nat → List S29 → Ps (List S29)
 | 0, _ => out
 | n + 1, e => fun l => if wd l = [40] then (bnd (gz F.expr N) fun ks => rF F N n (nd 22 E 0 E ([e] ++ ks))) l
  else if wd l = [91] then (bnd tk fun _ => bnd F.expr fun i => bnd (must [93]) fun _ => rF F N n (nd 26 E 0 E [e, i])) l
  else .ok (e, l)
def oU (F : PF) (N : Nat) : Ps (List S29) := fun l =>
 if wd l = [45] ∨ wd l = [110, 111, 116] ∨ wd l = [108, 101, 110] then (bnd tk fun _ => bnd F.unary fun e => ret (nd 28 E 0 (wB l) [e])) l
 else if wd l = [115, 112, 97, 119, 110] then (bnd tk fun _ => bnd F.unary fun e => ret (nd 30 E 0 E [e])) l
 else (bnd (uV F N) fun e => rF F N N e) l
def o8 (w : List UInt8) : Int :=
 if w = [111, 114] then 1 else if w = [97, 110, 100] then 2 else if w = [61, 61] ∨ w = [33, 61] ∨ w = [60] ∨ w = [60, 61] then 3
 else if w = [43] ∨ w = [45] ∨ w = [46, 46] then 4 else if w = [42] ∨ w = [47] ∨ w = [37] then 5 else 0
def pI (F : PF) (a : Int) : Nat → List S29 → Ps (List S29)
 | 0, _ => out
 | n + 1, e => fun l => if o8 (wd l) = a then (bnd tk fun _ => bnd (F.bound (a + 1)) fun e2 => if a = 3 then ret (nd 27 E 0 (wB l) [e, e2]) else pI F a n (nd 27 E 0 (wB l) [e, e2])) l else .ok (e, l)
def nP (F : PF) (N : Nat) (a : Int) : Ps (List S29) := if a = 6 then oU F N else bnd (F.bound (a + 1)) fun e => pI F a N e
def kE (F : PF) (N : Nat) : Ps (List S29) := nP F N 1
def oC : Nat → PF
 | 0 => ⟨out, out, fun _ => out, out⟩
 | n + 1 => ⟨kE (oC n) n, pJ (oC n) n, fun a => nP (oC n) n a, oU (oC n) n⟩
def BR : Ps (List S29) := bnd (need 1) fun a => bnd (must [46]) fun _ => bnd (need 1) fun b => bnd (must [47]) fun _ => bnd (need 2) fun c => bnd (must [59]) fun _ => ret (nd 2 a.f1 c.f2 b.f1 [])
def uk (F : PF) (N : Nat) (nm : ByteArray) (v : Int) : Nat → List (List S29) → Ps (List S29)
 | 0, _ => out
 | n + 1, acc => fun l => if wd l = [102, 110] then (bnd tk fun _ => bnd (need 1) fun t => bnd (lM F N 3 t.f1) fun f => uk F N nm v n (acc ++ [f])) l else .ok (nd 1 nm v E acc, l)
def tN (F : PF) (N : Nat) (nm : ByteArray) (v : Int) : Nat → List (List S29) → Ps (List S29)
 | 0, _ => out
 | n + 1, acc => fun l => if wd l = [117, 115, 101] then (bnd tk fun _ => bnd BR fun u => tN F N nm v n (acc ++ [u])) l else uk F N nm v N acc l
def kG (F : PF) (N : Nat) : Ps (List S29) := bnd (must [109, 111, 100, 117, 108, 101]) fun _ => bnd (need 1) fun t => bnd (need 2) fun u => bnd (must [59]) fun _ => tN F N t.f1 u.f2 N []
end Go.Proofs.YtkbhkonenkgfoaaGreat.Par
end
section
set_option linter.unusedVariables false
set_option linter.unusedSimpArgs false
namespace Go.Proofs.YtkbhkonenkgfoaaGreat.Lex
open Go Go.RowKit Go.Proofs.YtkbhkonenkgfoaaGreatW.PrintWords
/-- A string's bytes. -/
def L (s : ByteArray) : List UInt8 := s.data.toList
theorem iV (s : ByteArray) : s.toList = L s := ByteArray.toList_eq s
theorem iW (s : ByteArray) : s.size = (L s).length := by cases s; rfl
theorem JA {s t : ByteArray} (h : L s = L t) : s = t := by
 obtain ⟨⟨a⟩⟩ := s
 obtain ⟨⟨b⟩⟩ := t
 have h' : a = b := h
 rw [h']
theorem sH (s t : ByteArray) : L (s ++ t) = L s ++ L t := by simp [L]
theorem xm (s : ByteArray) (a b : Nat) : L (s.extract a b) = ((L s).drop a).take (b - a) := by
 simp [L, List.extract_eq_take_drop]
/-- The string of these bytes. -/
def S (l : List UInt8) : ByteArray := ⟨l.toArray⟩
theorem EI (s : ByteArray) (i : Nat) : bt s (i : Int) = (((L s).getD i 0).toNat : Int) := by
 unfold bt
 simp only [Int.toNat_natCast]
 split
 ·rename_i h
  have h2 : i < (L s).length := by rw [← iW]; exact h
  rw [List.getD_eq_getElem?_getD, List.getElem?_eq_getElem h2]
  rfl
 rename_i h
 have h2 : (L s).length ≤ i := by rw [← iW]; omega
 rw [List.getD_eq_getElem?_getD, List.getElem?_eq_none h2]
 rfl
theorem EG (s : ByteArray) (i : Nat) : byteAt s i = ((L s).getD i 0).toNat := by
 have h := EI s i
 unfold bt at h
 unfold byteAt
 simp only [Int.toNat_natCast] at h
 split at h
 ·rename_i c
  rw [dif_pos c]; omega
 rename_i c
 rw [dif_neg c]; omega
theorem zK (c d : UInt8) : ((c.toNat : Int) = (d.toNat : Int)) ↔ c = d := by
 rw [← UInt8.toNat_inj]; omega
theorem lN (l : List UInt8) (i : Nat) (h : i < l.length) : l.drop i = l.getD i 0 :: l.drop (i + 1) := by
 rw [List.getD_eq_getElem?_getD, List.getElem?_eq_getElem h]
 exact List.drop_eq_getElem_cons h
/-! The kinds. -/
theorem zZ (c : UInt8) : mO (c.toNat : Int) = le c := by
 unfold mO le
 rw [Bool.eq_iff_iff]
 simp only [decide_eq_true_eq]
 omega
theorem Dh (c : UInt8) : lX (c.toNat : Int) = di c := by
 unfold lX di
 rw [Bool.eq_iff_iff]
 simp only [decide_eq_true_eq]
 omega
theorem Ac (c : UInt8) : mY (c.toNat : Int) = inn c := by
 rw [zf, zZ, Dh]
 have e := zK c 95
 simp only [UInt8.reduceToNat] at e
 unfold inn
 rw [show ((c.toNat : Int) == 95) = (c == 95) by rw [Bool.eq_iff_iff]; simp only [beq_iff_eq, ← e]; omega]
 rw [Bool.or_assoc]
theorem JM (p : Int → Bool) (q : UInt8 → Bool) (pq : ∀ c : UInt8, p (c.toNat : Int) = q c) (s : ByteArray) : ∀ f i, s.size ≤ i + f → i ≤ s.size → hd p s f i = i + (((L s).drop i).takeWhile q).length := by
 intro f
 induction f with
 | zero =>
  intro i h1 h2
  rw [iW] at h1
  simp [hd, List.drop_eq_nil_of_le (show (L s).length ≤ i by omega)]
 | succ f ih =>
  intro i h1 h2
  unfold hd
  by_cases c : i < s.size
  ·rw [if_pos c]
   rw [lN (L s) i (by rw [← iW]; exact c), List.takeWhile_cons, EG, pq]
   by_cases q1 : q ((L s).getD i 0) = true
   ·rw [if_pos q1, if_pos q1, ih (i + 1) (by omega) (by omega)]
    simp; omega
   rw [if_neg q1, if_neg q1]; rfl
  rw [if_neg c, List.drop_eq_nil_of_le (by rw [← iW]; omega)]; rfl
theorem CX (p : Int → Bool) (q : UInt8 → Bool) (pq : ∀ c : UInt8, p (c.toNat : Int) = q c) (s : ByteArray) : headLen p s = ((L s).takeWhile q).length := by
 unfold headLen
 rw [JM p q pq s s.size 0 (by omega) (by omega)]
 simp
theorem uN {α : Type} (q : α → Bool) (l : List α) : l.take (l.takeWhile q).length = l.takeWhile q := by
 induction l with
 | nil => rfl
 | cons a t ih =>
  rw [List.takeWhile_cons]
  split
  ·simp [ih]
  rfl
theorem E5 (p : Int → Bool) (q : UInt8 → Bool) (pq : ∀ c : UInt8, p (c.toNat : Int) = q c) (s : ByteArray) : L (jo p s) = (L s).takeWhile q := by
 unfold jo
 rw [xm, CX p q pq]
 simp [uN]
end Go.Proofs.YtkbhkonenkgfoaaGreat.Lex
end
section
set_option linter.unusedVariables false
set_option linter.unusedSimpArgs false
namespace Go.Proofs.YtkbhkonenkgfoaaGreat.Par
open Go Go.RowKit Go.Proofs.YtkbhkonenkgfoaaGreatW.PrintWords Go.Proofs.YtkbhkonenkgfoaaGreat.Q Go.Proofs.YtkbhkonenkgfoaaGreat.Lex Go.Proofs.YtkbhkonenkgfoaaGreat.Tree
theorem lI (ts : List S37) (q : Nat) (t : S37) (r : List S37) (h : ts.drop q = t :: r) : q < ts.length ∧ dY ts (q : Int) = t ∧ ts.drop (q + 1) = r := by
 have hq : q < ts.length := by
  rcases Nat.lt_or_ge q ts.length with h1 | h1
  ·exact h1
  rw [List.drop_eq_nil_of_le h1] at h; cases h
 rw [List.drop_eq_getElem_cons hq] at h
 obtain ⟨h1, h2⟩ := List.cons.inj h
 exact ⟨hq, by simp [dY, List.getD_eq_getElem?_getD, List.getElem?_eq_getElem hq, h1], h2⟩
theorem Ee (ts : List S37) (q : Int) : kF.f ts q true = some (0, E, 0, 0, false, q, true) := rfl
theorem vC (ts : List S37) (q : Nat) (h : ts.drop q = []) : kF.f ts (q : Int) false = some (0, E, 0, 0, false, (q : Int), false) := by
 unfold kF.f
 have : ts.length ≤ q := List.drop_eq_nil_iff.1 h
 rw [if_neg (by simp), if_pos (by omega)]; rfl
theorem tq (ts : List S37) (q : Nat) (t : S37) (r : List S37) (h : ts.drop q = t :: r) : kF.f ts (q : Int) false = some (t.f0, t.f1, t.f2, t.f3, true, (q : Int), false) := by
 obtain ⟨h1, h2, _⟩ := lI ts q t r h
 unfold kF.f
 rw [if_neg (by simp), if_neg (by omega), if_pos (by omega), h2]
theorem mJ (ts : List S37) (q : Nat) : dE.f ts (q : Int) false = some (wB (ts.drop q), (q : Int), false) := by
 unfold dE.f
 cases h : ts.drop q with
 | nil => rw [vC ts q h]; rfl
 | cons t r =>
  rw [tq ts q t r h]
  simp only [Option.bind_some, if_true, wB]
  by_cases c1 : t.f0 = 5
  ·rw [if_pos c1, if_pos (Or.inl c1)]
  rw [if_neg c1]
  by_cases c2 : t.f0 = 4
  ·rw [if_pos c2, if_pos (Or.inr c2)]
  rw [if_neg c2, if_neg (by omega)]; rfl
theorem uH (ts : List S37) (q : Int) : dE.f ts q true = some (E, q, true) := rfl
theorem zI : E.toList = ([] : List UInt8) := by rw [iV]; rfl
theorem xu : wd [] = [] := zI
theorem xw (ts : List S37) (q : Nat) (hq : q ≤ 100000) (w : ByteArray) (hw : w.toList ≠ []) : bn.f ts (q : Int) false w = if wd (ts.drop q) = w.toList then some (true, ((q + 1 : Nat) : Int), false) else some (false, (q : Int), false) := by
 unfold bn.f
 rw [if_neg hw, mJ]
 simp only [Option.bind_some]
 rw [inc q (by omega)]; rfl
theorem yx (ts : List S37) (q : Int) (w : ByteArray) (hw : w.toList ≠ []) : bn.f ts q true w = some (false, q, true) := by
 unfold bn.f
 rw [if_neg hw, uH]
 simp only [Option.bind_some]
 rw [if_neg (fun h => hw (by rw [zI] at h; exact h.symm))]
theorem Gl (ts : List S37) (q : Nat) (hq : q ≤ 100000) (w : ByteArray) (hw : w.toList ≠ []) : aY.f ts (q : Int) false w = if wd (ts.drop q) = w.toList then some (((q + 1 : Nat) : Int), false) else some ((q : Int), true) := by
 unfold aY.f
 rw [xw ts q hq w hw]
 by_cases c : wd (ts.drop q) = w.toList
 ·rw [if_pos c, if_pos c]; rfl
 rw [if_neg c, if_neg c]; rfl
theorem Ei (ts : List S37) (q : Int) (w : ByteArray) (hw : w.toList ≠ []) : aY.f ts q true w = some (q, true) := by
 unfold aY.f
 rw [yx ts q w hw]; rfl
theorem lW (ts : List S37) (q : Int) (k : Int) : dF.f ts q true k = some (0, E, 0, 0, q, true) := rfl
theorem Eg (ts : List S37) (q : Nat) (k : Int) (h : ts.drop q = []) : dF.f ts (q : Int) false k = some (0, E, 0, 0, (q : Int), true) := by
 unfold dF.f
 rw [vC ts q h]; rfl
theorem CQ (ts : List S37) (q : Nat) (hq : q ≤ 100000) (k : Int) (t : S37) (r : List S37) (h : ts.drop q = t :: r) : dF.f ts (q : Int) false k = if t.f0 = k then some (t.f0, t.f1, t.f2, t.f3, ((q + 1 : Nat) : Int), false) else some (0, E, 0, 0, (q : Int), true) := by
 unfold dF.f
 rw [tq ts q t r h]
 simp only [Option.bind_some, if_true]
 rw [inc q (by omega)]; rfl
theorem ru {l : List S37} (h : wd l ≠ []) : ∃ t r, l = t :: r := by
 cases l with
 | nil => exact absurd xu h
 | cons t r => exact ⟨t, r, rfl⟩
/-! Nodes. -/
theorem I9 (a : Int) (kids : List (List S29)) (hk : kids.length ≤ 1000000) : ∀ (m i : Nat) (acc : List S29), kids.length = m + i → acc.length + ((kids.drop i).flatten).length ≤ 1000000000 →
 ah (fun k => aW.l0 k acc kids (kids.length : Int) (i : Int)) (acc ++ (kids.drop i).flatten) := by
 intro m
 induction m with
 | zero =>
  intro i acc h1 h2
  rw [List.drop_eq_nil_of_le (by omega), List.flatten_nil, List.append_nil]
  refine ah.step (fun k => by rw [aW.l0]) ?_
  exact ah.neg (by omega) ah.now
 | succ m ih =>
  intro i acc h1 h2
  have hi : i < kids.length := by omega
  have hr : mZ kids (i : Int) = kids[i] := by simp [mZ, List.getD_eq_getElem?_getD, List.getElem?_eq_getElem hi]
  rw [List.drop_eq_getElem_cons hi, List.flatten_cons] at h2 ⊢
  rw [List.length_append] at h2
  refine ah.step (fun k => by rw [aW.l0]) ?_
  rw [hr, inc i (by omega)]
  refine ah.pos (by omega) (ah.pos (by omega) (ah.pos (by omega) (ah.pos (by omega) ?_)))
  have := ih (i + 1) (acc ++ kids[i]) (by omega) (by rw [List.length_append]; omega)
  rw [List.append_assoc] at this
  exact this
theorem vz (k0 : Int) (nm : ByteArray) (n : Int) (tx : ByteArray) (z : Int) (kids : List (List S29)) (hk : kids.length ≤ 1000000) (hs : kids.flatten.length ≤ 100000000) : ah (fun k => aW.f k k0 z nm n tx kids) (nd k0 nm n tx kids) := by
 have := I9 0 kids hk kids.length 0 [⟨k0, (kids.length : Int), nm, n, tx⟩] (by omega) (by rw [List.drop_zero]; simp only [List.length_cons, List.length_nil]; omega)
 rw [List.drop_zero] at this
 exact this
/-! What is told. -/
/-- What a function of rounds comes to, from place q on, is the answer; what was made is no more than twice what was passed, and c. -/
def aj {α : Type} (ts : List S37) (q c : Nat) (sz : α → Nat) (F : Nat → Option (α × Int × Bool)) : R α → Prop
 | .ok (x, r) => ∃ p : Nat, q ≤ p ∧ p ≤ ts.length ∧ ts.drop p = r ∧ sz x ≤ 2 * (p - q) ∧ ah F (x, (p : Int), false)
 | .error (some r) => ∃ (x : α) (p : Nat), q ≤ p ∧ p ≤ ts.length ∧ ts.drop p = r ∧ sz x ≤ 2 * (p - q) + c ∧ ah F (x, (p : Int), true)
 | .error none => True
theorem aj.bind {α β : Type} {ts : List S37} {q q0 c d : Nat} {sA : α → Nat} {sB : β → Nat} {F : Nat → Option (α × Int × Bool)} {G : Nat → α × Int × Bool → Option (β × Int × Bool)} {P : Ps α} {l : List S37} {f : α → Ps β}
 (h : aj ts q c sA F (P l))
 (hok : ∀ (x : α) (p : Nat), q ≤ p → p ≤ ts.length → sA x ≤ 2 * (p - q) → aj ts q0 d sB (fun k => G k (x, (p : Int), false)) (f x (ts.drop p)))
 (hbad : ∀ (x : α) (p : Nat), q ≤ p → p ≤ ts.length → sA x ≤ 2 * (p - q) + c → ∃ y, q0 ≤ p ∧ sB y ≤ 2 * (p - q0) + d ∧ ah (fun k => G k (x, (p : Int), true)) (y, (p : Int), true)) :
 aj ts q0 d sB (fun k => (F k).bind (G k)) (bnd P f l) := by
 unfold bnd
 match P l, h with
 | .ok (x, r), ⟨p, h1, h2, h3, h4, h5⟩ =>
  have := hok x p h1 h2 h4
  rw [h3] at this
  revert this
  show aj ts q0 d sB _ (f x r) → aj ts q0 d sB _ (f x r)
  cases f x r with
  | ok y => exact fun ⟨p', a1, a2, a3, a4, a5⟩ => ⟨p', a1, a2, a3, a4, ah.bind h5 a5⟩
  | error e =>
   cases e with
   | none => exact fun _ => trivial
   | some e => exact fun ⟨y, p', a1, a2, a3, a4, a5⟩ => ⟨y, p', a1, a2, a3, a4, ah.bind h5 a5⟩
 | .error (some r), ⟨x, p, h1, h2, h3, h4, h5⟩ =>
  obtain ⟨y, g0, g1, g2⟩ := hbad x p h1 h2 h4
  exact ⟨y, p, g0, h2, h3, g1, ah.bind h5 g2⟩
 | .error none, _ => trivial
theorem aj.congr {α : Type} {ts : List S37} {q c : Nat} {sz : α → Nat} {F G : Nat → Option (α × Int × Bool)} {P : R α} (e : ∀ k, F k = G k) (h : aj ts q c sz G P) : aj ts q c sz F P := by
 have : F = G := funext e
 rw [this]; exact h
theorem aj.step {α : Type} {ts : List S37} {q c : Nat} {sz : α → Nat} {F G : Nat → Option (α × Int × Bool)} {P : R α} (e : ∀ k, F (k + 1) = G k) (h : aj ts q c sz G P) : aj ts q c sz F P := by
 match P, h with
 | .ok (x, r), ⟨p, h1, h2, h3, h4, h5⟩ => exact ⟨p, h1, h2, h3, h4, ah.step e h5⟩
 | .error (some r), ⟨x, p, h1, h2, h3, h4, h5⟩ => exact ⟨x, p, h1, h2, h3, h4, ah.step e h5⟩
 | .error none, _ => trivial
theorem aj.pos {α : Type} {ts : List S37} {q d : Nat} {sz : α → Nat} {F G : Nat → Option (α × Int × Bool)} {P : R α} {c : Prop} [Decidable c] (hc : c) (h : aj ts q d sz F P) : aj ts q d sz (fun k => if c then F k else G k) P := aj.congr (fun k => if_pos hc) h
theorem aj.neg {α : Type} {ts : List S37} {q d : Nat} {sz : α → Nat} {F G : Nat → Option (α × Int × Bool)} {P : R α} {c : Prop} [Decidable c] (hc : ¬c) (h : aj ts q d sz G P) : aj ts q d sz (fun k => if c then F k else G k) P := aj.congr (fun k => if_neg hc) h
/-- A mark that must stand there. -/
theorem aj.must {β : Type} {ts : List S37} {q p d : Nat} {sB : β → Nat} {G : Nat → Int × Bool → Option (β × Int × Bool)} {f : Unit → Ps β} (w : ByteArray) (wl : List UInt8) (hwl : w.toList = wl) (hw : wl ≠ []) (hp : p ≤ ts.length) (hts : ts.length ≤ 40000) (hq : q ≤ p)
 (hok : p + 1 ≤ ts.length → aj ts q d sB (fun k => G k (((p + 1 : Nat) : Int), false)) (f () (ts.drop (p + 1))))
 (hbad : ∃ y, sB y ≤ 2 * (p - q) + d ∧ ah (fun k => G k ((p : Int), true)) (y, (p : Int), true)) :
 aj ts q d sB (fun k => (aY.f ts (p : Int) false w).bind (G k)) (bnd (Par.must wl) f (ts.drop p)) := by
 subst hwl
 rw [Gl ts p (by omega) w hw]
 unfold bnd Par.must
 by_cases c : wd (ts.drop p) = w.toList
 ·rw [if_pos c, if_pos c]
  obtain ⟨t, r, e⟩ := ru (l := ts.drop p) (by rw [c]; exact hw)
  obtain ⟨h1, _, h3⟩ := lI ts p t r e
  have := hok (by omega)
  rw [h3] at this
  rw [e]
  exact this
 rw [if_neg c, if_neg c]
 obtain ⟨y, h1, h2⟩ := hbad
 exact ⟨y, p, hq, hp, rfl, h1, h2⟩
/-- A token of a kind that must stand there. -/
theorem aj.need {β : Type} {ts : List S37} {q p d : Nat} {sB : β → Nat} {G : Nat → Int × ByteArray × Int × Int × Int × Bool → Option (β × Int × Bool)} {f : S37 → Ps β} (kd : Int) (hp : p ≤ ts.length) (hts : ts.length ≤ 40000) (hq : q ≤ p)
 (hok : ∀ t : S37, p + 1 ≤ ts.length → t.f0 = kd → aj ts q d sB (fun k => G k (t.f0, t.f1, t.f2, t.f3, ((p + 1 : Nat) : Int), false)) (f t (ts.drop (p + 1))))
 (hbad : ∃ y, sB y ≤ 2 * (p - q) + d ∧ ah (fun k => G k (0, E, 0, 0, (p : Int), true)) (y, (p : Int), true)) :
 aj ts q d sB (fun k => (dF.f ts (p : Int) false kd).bind (G k)) (bnd (Par.need kd) f (ts.drop p)) := by
 obtain ⟨y, h1, h2⟩ := hbad
 cases e : ts.drop p with
 | nil =>
  rw [Eg ts p kd e]
  exact ⟨y, p, hq, hp, e, h1, h2⟩
 | cons t r =>
  rw [CQ ts p (by omega) kd t r e]
  unfold bnd Par.need
  by_cases c : t.f0 = kd
  ·simp only [if_pos c]
   obtain ⟨g1, _, g3⟩ := lI ts p t r e
   have := hok t (by omega) c
   rw [g3] at this
   exact this
  simp only [if_neg c]
  exact ⟨y, p, hq, hp, e, h1, h2⟩
theorem fD (w : ByteArray) (wl : List UInt8) (h : L w = wl) : w.toList = wl := by rw [iV]; exact h
/-- A word that was looked at is passed. -/
theorem aj.tk {β : Type} {ts : List S37} {q p d : Nat} {sB : β → Nat} {G : Nat → Bool × Int × Bool → Option (β × Int × Bool)} {f : Unit → Ps β} (w : ByteArray) (hw : w.toList ≠ []) (hwd : wd (ts.drop p) = w.toList) (hts : ts.length ≤ 40000)
 (hok : p + 1 ≤ ts.length → aj ts q d sB (fun k => G k (true, ((p + 1 : Nat) : Int), false)) (f () (ts.drop (p + 1)))) :
 aj ts q d sB (fun k => (bn.f ts (p : Int) false w).bind (G k)) (bnd Par.tk f (ts.drop p)) := by
 obtain ⟨t, r, e⟩ := ru (l := ts.drop p) (by rw [hwd]; exact hw)
 obtain ⟨h1, _, h3⟩ := lI ts p t r e
 rw [xw ts p (by omega) w hw, if_pos hwd]
 have := hok (by omega)
 rw [h3] at this
 rw [e]
 exact this
theorem aj.done {α : Type} {ts : List S37} {q p d : Nat} {sz : α → Nat} {F : Nat → Option (α × Int × Bool)} (x : α) (hq : q ≤ p) (hp : p ≤ ts.length) (hs : sz x ≤ 2 * (p - q)) (h : ah F (x, (p : Int), false)) : aj ts q d sz F (.ok (x, ts.drop p)) := ⟨p, hq, hp, rfl, hs, h⟩
end Go.Proofs.YtkbhkonenkgfoaaGreat.Par
end
section
set_option linter.unusedVariables false
set_option linter.unusedSimpArgs false
namespace Go.Proofs.YtkbhkonenkgfoaaGreat.Par
open Go Go.RowKit Go.Proofs.YtkbhkonenkgfoaaGreatW.PrintWords Go.Proofs.YtkbhkonenkgfoaaGreat.Q Go.Proofs.YtkbhkonenkgfoaaGreat.Lex Go.Proofs.YtkbhkonenkgfoaaGreat.Tree
variable {ts : List S37} {q : Int}
theorem jI (w : ByteArray) (wl : List UInt8) (hwl : L w = wl) (hw : wl ≠ []) : aY.f ts q true w = some (q, true) := Ei ts q w (by rw [fD w wl hwl]; exact hw)
theorem noE (w : List UInt8) (hw : w ≠ []) : ¬ E.toList = w := fun h => hw (h.symm.trans zI)
theorem dQ (k : Int) (nm : ByteArray) (n : Int) (tx : ByteArray) (kids : List (List S29)) : (nd k nm n tx kids).length = kids.flatten.length + 1 := by simp [nd]
theorem jB {α : Type} {k0 : Int} {nm : ByteArray} {n : Int} {tx : ByteArray} {z : Int} {kids : List (List S29)} {G : Nat → List S29 → Option α} {v : α} (hk : kids.length ≤ 1000000) (hs : kids.flatten.length ≤ 100000000) (h : ah (fun k => G k (nd k0 nm n tx kids)) v) :
 ah (fun k => (aW.f k k0 z nm n tx kids).bind (G k)) v := ah.bind (vz k0 nm n tx z kids hk hs) h
variable {FF : Nat → Fam}
theorem CU : ah (fun k => iD.f (FF k) k ts q true) (([] : List (List S29)), q, true) := by
 refine ah.congr (fun k => by unfold iD.f; rw [jI _ [40] rfl (by simp)]) ?_
 simp only [Option.bind_some]
 refine ah.step (fun k => by rw [iD.l0]) ?_
 refine ah.pos rfl ?_
 refine ah.step (fun k => by rw [iD.j1]) ?_
 refine ah.neg (by simp) ?_
 rw [jI _ [41] rfl (by simp)]
 exact ah.now
theorem CS : ah (fun k => gz.f k ts q true) (([] : List (List S29)), q, true) := by
 refine ah.congr (fun k => by unfold gz.f; rw [jI _ [40] rfl (by simp)]) ?_
 simp only [Option.bind_some]
 refine ah.step (fun k => by rw [gz.l0]) ?_
 refine ah.pos rfl ?_
 refine ah.step (fun k => by rw [gz.j1]) ?_
 refine ah.neg (by simp) ?_
 rw [jI _ [41] rfl (by simp)]
 exact ah.now
theorem Es : ah (fun k => fU.f (FF k) k ts q true) (([] : List S29), q, true) := by
 refine ah.lh fun k => ?_
 unfold fU.f
 rw [Ee]; rfl
theorem tK : ah (fun k => bU.f (FF k) k ts q true) (nd 5 E 0 E [], q, true) := by
 refine ah.congr (fun k => by unfold bU.f; rw [jI _ [123] rfl (by simp)]) ?_
 simp only [Option.bind_some]
 refine ah.step (fun k => by rw [bU.l0]) ?_
 refine ah.pos rfl ?_
 rw [jI _ [125] rfl (by simp)]
 exact jB (by simp) (by simp) ah.now
theorem xN (k0 : Int) (nm : ByteArray) : ah (fun k => dw.f (FF k) k ts q true k0 0 nm 0 E) (nd k0 nm 0 E [nd 5 E 0 E []], q, true) := by
 unfold dw.f
 refine ah.bind CS (ah.bind tK (ah.pos (by simp) ?_))
 exact jB (by simp) (by simp [nd]) ah.now
theorem DX : ah (fun k => fH.f (FF k) k ts q true) (([] : List S29), q, true) := by
 refine ah.congr (fun k => by unfold fH.f; rw [uH]) ?_
 simp only [Option.bind_some]
 exact ah.neg (noE _ (by simp)) (ah.neg (noE _ (by simp)) (ah.neg (noE _ (by simp)) (ah.neg (noE _ (by simp)) (ah.neg (noE _ (by simp)) (ah.bind Es ah.now)))))
theorem pY (e : List S29) : ah (fun k => aQ.l0 (FF k) k e ts q true) (e, q, true) := by
 refine ah.step (fun k => by rw [aQ.l0]) ?_
 exact ah.pos rfl ah.now
theorem uK : ah (fun k => aQ.f (FF k) k ts q true) (([] : List S29), q, true) := by
 refine ah.congr (fun k => by unfold aQ.f; rw [uH]) ?_
 simp only [Option.bind_some]
 refine ah.neg (noE _ (by simp)) (ah.neg (noE _ (by simp)) ?_)
 refine ah.step (fun k => by rw [aQ.j0]) ?_
 refine ah.neg (by rw [beq_iff_eq]; exact noE _ (by simp)) (ah.neg (noE _ (by simp)) ?_)
 exact ah.bind DX (pY [])
/-- What the family's functions come to behind a fault. -/
structure OkB (FF : Nat → Fam) : Prop where
 expr : ∀ (ts : List S37) (q : Int), ah (fun k => (FF k).expr ts q true) (([] : List S29), q, true)
 block : ∀ (ts : List S37) (q : Int), ah (fun k => (FF k).block ts q true) (nd 5 E 0 E [], q, true)
 bound : ∀ (ts : List S37) (q : Int) (a : Int), 1 ≤ a → a ≤ 6 → ah (fun k => (FF k).bound ts q true a) (([] : List S29), q, true)
 unary : ∀ (ts : List S37) (q : Int), ah (fun k => (FF k).unary ts q true) (([] : List S29), q, true)
theorem ah.shift {α : Type} {F : Nat → Option α} {v : α} (h : ah F v) : ah (fun k => F (k + 1)) v := by
 obtain ⟨n, hn⟩ := h
 exact ⟨n, fun j hj => hn (j + 1) (by omega)⟩
theorem OkB.shift {FF : Nat → Fam} (h : OkB FF) : OkB (fun k => FF (k + 1)) :=
 ⟨fun ts q => ah.shift (h.expr ts q), fun ts q => ah.shift (h.block ts q), fun ts q a h1 h2 => ah.shift (h.bound ts q a h1 h2), fun ts q => ah.shift (h.unary ts q)⟩
theorem qZ (a : Int) (e : List S29) : ah (fun k => bJ.l0 (FF k) k a e ts q true) (e, q, true) := by
 refine ah.step (fun k => by rw [bJ.l0]) ?_
 exact ah.pos rfl ah.now
theorem Aw : ah (fun k => bJ.f (FF k) k ts q true 6) (([] : List S29), q, true) := by
 unfold bJ.f
 exact ah.pos rfl (ah.bind uK ah.now)
theorem nG (a : Int) (h1 : 1 ≤ a) (h2 : a ≤ 5) (h : ah (fun k => (FF k).bound ts q true (a + 1)) (([] : List S29), q, true)) : ah (fun k => bJ.f (FF k) k ts q true a) (([] : List S29), q, true) := by
 unfold bJ.f
 rw [w64 (n := a + 1) (by omega) (by omega)]
 exact ah.neg (by omega) (ah.bind h (qZ a []))
theorem ny (ts : List S37) (q : Int) (a : Int) (b : Bool) (v : List S29 × Int × Bool) (h : ah (fun k => bJ.f (fam k) k ts q b a) v) : ah (fun k => (fam k).bound ts q b a) v := ah.step (fun k => rfl) h
theorem rJ : OkB fam := by
 have b6 : ∀ ts q, ah (fun k => (fam k).bound ts q true 6) (([] : List S29), q, true) := fun ts q => ny ts q 6 true _ Aw
 have b5 : ∀ ts q, ah (fun k => (fam k).bound ts q true 5) (([] : List S29), q, true) := fun ts q => ny ts q 5 true _ (nG 5 (by omega) (by omega) (b6 ts q))
 have b4 : ∀ ts q, ah (fun k => (fam k).bound ts q true 4) (([] : List S29), q, true) := fun ts q => ny ts q 4 true _ (nG 4 (by omega) (by omega) (b5 ts q))
 have b3 : ∀ ts q, ah (fun k => (fam k).bound ts q true 3) (([] : List S29), q, true) := fun ts q => ny ts q 3 true _ (nG 3 (by omega) (by omega) (b4 ts q))
 have b2 : ∀ ts q, ah (fun k => (fam k).bound ts q true 2) (([] : List S29), q, true) := fun ts q => ny ts q 2 true _ (nG 2 (by omega) (by omega) (b3 ts q))
 refine ⟨fun ts q => ah.step (fun k => rfl) ?_, fun ts q => ah.step (fun k => rfl) tK, fun ts q a h1 h2 => ?_, fun ts q => ah.step (fun k => rfl) uK⟩
 ·show ah (fun k => fE.f (fam k) k ts q true) _
  unfold fE.f
  exact ah.bind (nG 1 (by omega) (by omega) (b2 ts q)) ah.now
 rcases (show a = 1 ∨ a = 2 ∨ a = 3 ∨ a = 4 ∨ a = 5 ∨ a = 6 by omega) with rfl | rfl | rfl | rfl | rfl | rfl
 ·exact ny ts q 1 true _ (nG 1 (by omega) (by omega) (b2 ts q))
 ·exact b2 ts q
 ·exact b3 ts q
 ·exact b4 ts q
 ·exact b5 ts q
 exact b6 ts q
theorem qY (H : OkB FF) (k0 : Int) (nm : ByteArray) : ah (fun k => dO.f (FF k) k ts q true k0 0 nm 0 E) (nd k0 nm 0 E [[]], q, true) := by
 unfold dO.f
 refine ah.bind (H.expr ts q) ?_
 rw [jI _ [59] rfl (by simp)]
 exact jB (by simp) (by simp) ah.now
theorem CE : ah (fun k => fB.f k ts q true) (nd 4 E 0 E [], q, true) := by
 unfold fB.f
 rw [lW]
 exact jB (by simp) (by simp) ah.now
end Go.Proofs.YtkbhkonenkgfoaaGreat.Par
end
section
set_option linter.unusedVariables false
set_option linter.unusedSimpArgs false
namespace Go.Proofs.YtkbhkonenkgfoaaGreat.Par
open Go Go.RowKit Go.Proofs.YtkbhkonenkgfoaaGreatW.PrintWords Go.Proofs.YtkbhkonenkgfoaaGreat.Q Go.Proofs.YtkbhkonenkgfoaaGreat.Lex Go.Proofs.YtkbhkonenkgfoaaGreat.Tree
def sz (e : List S29) : Nat := e.length + 1
/-- What the family's functions tell. -/
structure Ih (S : PF) (FF : Nat → Fam) : Prop where
 expr : ∀ (ts : List S37) (q : Nat), ts.length ≤ 40000 → q ≤ ts.length → aj ts q 2 sz (fun k => (FF k).expr ts (q : Int) false) (S.expr (ts.drop q))
 block : ∀ (ts : List S37) (q : Nat), ts.length ≤ 40000 → q ≤ ts.length → aj ts q 2 sz (fun k => (FF k).block ts (q : Int) false) (S.block (ts.drop q))
 bound : ∀ (a : Int), 1 ≤ a → a ≤ 6 → ∀ (ts : List S37) (q : Nat), ts.length ≤ 40000 → q ≤ ts.length → aj ts q 2 sz (fun k => (FF k).bound ts (q : Int) false a) (S.bound a (ts.drop q))
 unary : ∀ (ts : List S37) (q : Nat), ts.length ≤ 40000 → q ≤ ts.length → aj ts q 2 sz (fun k => (FF k).unary ts (q : Int) false) (S.unary (ts.drop q))
theorem aj.shift {α : Type} {ts : List S37} {q c : Nat} {sA : α → Nat} {F : Nat → Option (α × Int × Bool)} {P : R α} (h : aj ts q c sA F P) : aj ts q c sA (fun k => F (k + 1)) P := by
 match P, h with
 | .ok (x, r), ⟨p, h1, h2, h3, h4, h5⟩ => exact ⟨p, h1, h2, h3, h4, ah.shift h5⟩
 | .error (some r), ⟨x, p, h1, h2, h3, h4, h5⟩ => exact ⟨x, p, h1, h2, h3, h4, ah.shift h5⟩
 | .error none, _ => trivial
theorem Ih.shift {S : PF} {FF : Nat → Fam} (h : Ih S FF) : Ih S (fun k => FF (k + 1)) :=
 ⟨fun ts q a b => aj.shift (h.expr ts q a b), fun ts q a b => aj.shift (h.block ts q a b), fun a h1 h2 ts q b c => aj.shift (h.bound a h1 h2 ts q b c), fun ts q a b => aj.shift (h.unary ts q a b)⟩
/-- From a later place on: told from an earlier one. -/
theorem aj.from' {α : Type} {ts : List S37} {q q0 c d : Nat} {sA : α → Nat} {F : Nat → Option (α × Int × Bool)} {P : R α} (h : aj ts q c sA F P) (h1 : q0 ≤ q) (h2 : c ≤ 2 * (q - q0) + d) : aj ts q0 d sA F P := by
 match P, h with
 | .ok (x, r), ⟨p, g1, g2, g3, g4, g5⟩ => exact ⟨p, by omega, g2, g3, by omega, g5⟩
 | .error (some r), ⟨x, p, g1, g2, g3, g4, g5⟩ => exact ⟨x, p, by omega, g2, g3, by omega, g5⟩
 | .error none, _ => trivial
/-- Something is found out first. -/
theorem aj.evB {α β : Type} {ts : List S37} {q c : Nat} {sz : β → Nat} {F : Nat → Option α} {G : Nat → α → Option (β × Int × Bool)} {v : α} {P : R β} (h : ah F v) (g : aj ts q c sz (fun k => G k v) P) : aj ts q c sz (fun k => (F k).bind (G k)) P := by
 match P, g with
 | .ok (x, r), ⟨p, h1, h2, h3, h4, h5⟩ => exact ⟨p, h1, h2, h3, h4, ah.bind h h5⟩
 | .error (some r), ⟨x, p, h1, h2, h3, h4, h5⟩ => exact ⟨x, p, h1, h2, h3, h4, ah.bind h h5⟩
 | .error none, _ => trivial
/-- A node that is made at the end. -/
theorem aj.node {ts : List S37} {q p d : Nat} {k0 : Int} {nm : ByteArray} {n : Int} {tx : ByteArray} {z : Int} {kids : List (List S29)} (hq : q ≤ p) (hp : p ≤ ts.length) (hts : ts.length ≤ 40000) (hk : kids.length ≤ 1000000) (hs : kids.flatten.length + 2 ≤ 2 * (p - q)) :
 aj ts q d sz (fun k => (aW.f k k0 z nm n tx kids).bind fun t => some (t, (p : Int), false)) (ret (nd k0 nm n tx kids) (ts.drop p)) :=
 aj.done _ hq hp (by unfold sz; rw [dQ]; omega) (jB hk (by omega) ah.now)
/-- A node that is made behind a fault. -/
theorem aj.wR {q p d : Nat} {k0 : Int} {nm : ByteArray} {n : Int} {tx : ByteArray} {z : Int} {kids : List (List S29)} (hk : kids.length ≤ 1000000) (hs : kids.flatten.length + 2 ≤ 2 * (p - q) + d) (hb : p ≤ 100000) (hd : d ≤ 1000) :
 ∃ y, sz y ≤ 2 * (p - q) + d ∧ ah (fun k => (aW.f k k0 z nm n tx kids).bind fun t => some (t, (p : Int), true)) (y, (p : Int), true) :=
 ⟨nd k0 nm n tx kids, by unfold sz; rw [dQ]; omega, jB hk (by omega) ah.now⟩
theorem jq (e : List S29) : ([e] : List (List S29)).flatten.length = e.length := by simp
theorem iZ (a b : List S29) : ([a, b] : List (List S29)).flatten.length = a.length + b.length := by simp
theorem flat3 (a b c : List S29) : ([a, b, c] : List (List S29)).flatten.length = a.length + (b.length + c.length) := by simp
theorem ik (l : List (List S29)) (e : List S29) : (l ++ [e]).flatten.length = l.flatten.length + e.length := by simp
variable {ts : List S37} {S : PF} {FF : Nat → Fam}
theorem vS (hts : ts.length ≤ 40000) (I : Ih S FF) (H : OkB FF) (k0 : Int) (nm : ByteArray) (q : Nat) (hq : q ≤ ts.length) :
 aj ts q 3 sz (fun k => dO.f (FF k) k ts (q : Int) false k0 0 nm 0 E) (lG S k0 nm (ts.drop q)) := by
 unfold dO.f lG
 refine aj.bind (I.expr ts q hts hq) (fun e p h1 h2 h3 => ?_) (fun e p h1 h2 h3 => ?_)
 ·unfold sz at h3
  dsimp only
  refine aj.must ⟨#[59]⟩ [59] (fD _ _ rfl) (by simp) h2 hts h1 (fun h4 => ?_) ?_
  ·dsimp only
   exact aj.node (by omega) h4 hts (by simp) (by rw [jq]; omega)
  dsimp only
  exact aj.wR (by simp) (by rw [jq]; omega) (by omega) (by omega)
 unfold sz at h3
 obtain ⟨y, g1, g2⟩ := aj.wR (q := q) (p := p) (d := 3) (k0 := k0) (nm := nm) (n := 0) (tx := E) (z := 0) (kids := [e]) (by simp) (by rw [jq]; omega) (by omega) (by omega)
 refine ⟨y, h1, g1, ?_⟩
 dsimp only
 rw [jI _ [59] rfl (by simp)]
 exact g2
theorem EM (hts : ts.length ≤ 40000) (k0 : Int) (q q0 : Nat) (hq : q ≤ ts.length) (h0 : q0 < q) : aj ts q0 3 sz (fun k => fK.f k ts (q : Int) false k0) (sD k0 (ts.drop q)) := by
 unfold fK.f sD
 refine aj.must ⟨#[59]⟩ [59] (fD _ _ rfl) (by simp) hq hts (by omega) (fun h4 => ?_) ?_
 ·dsimp only
  exact aj.node (by omega) h4 hts (by simp) Z14
 dsimp only
 exact aj.wR (by simp) Z14 (by omega) (by omega)
theorem yz (e : List S29) (a b : List S29) (h : rO e = some (a, b)) : a.length + b.length + 1 ≤ e.length := by
 unfold rO qf at h
 by_cases c : jV e 0 < 0
 ·rw [if_pos c] at h; cases h
 rw [if_neg c] at h
 have hne : 1 ≤ e.length := by
  obtain ⟨j, m, _, _, _, h1, h2⟩ := nz c
  omega
 have key : ∀ w, (match its e w (0 + 1) with | a :: b :: _ => some (oV e a, oV e b) | _ => none) = some (a, b) → a.length + b.length + 1 ≤ e.length := by
  intro w hw
  match w, hw with
  | 0, hw => cases hw
  | 1, hw => cases hw
  | w + 2, hw =>
   simp only [its] at hw
   obtain ⟨rfl, rfl⟩ := Prod.mk.inj (Option.some.inj hw)
   unfold oV
   by_cases c1 : jV e (0 + 1) < 0
   ·rw [if_pos c1, Dc c1, if_pos (show jV e (-1) < 0 by unfold jV; rw [if_pos (by omega)]; omega)]
    simp; omega
   rw [if_neg c1]
   obtain ⟨j, m, hj, _, hE, h1, h2⟩ := nz c1
   rw [hE]
   by_cases c2 : jV e ((j + m : Nat) : Int) < 0
   ·rw [if_pos c2]
    rw [List.length_drop, List.length_take]; simp; omega
   rw [if_neg c2]
   obtain ⟨j2, m2, hj2, _, hE2, g1, g2⟩ := nz c2
   rw [hE2, List.length_drop, List.length_take, List.length_drop, List.length_take]
   omega
 exact key _ h
theorem yZ (e : List S29) (a b : List S29) (h : rO e = some (a, b)) : ∃ x y l, qf e 0 = x :: y :: l ∧ oV e x = a ∧ oV e y = b := by
 unfold rO at h
 match hk : qf e 0, h with
 | x :: y :: l, h =>
  obtain ⟨h1, h2⟩ := Prod.mk.inj (Option.some.inj h)
  exact ⟨x, y, l, rfl, h1, h2⟩
theorem rd0 (x y : Int) (l : List Int) : rd (x :: y :: l) 0 = x := rfl
theorem rd1 (x y : Int) (l : List Int) : rd (x :: y :: l) 1 = y := rfl
theorem DY (hts : ts.length ≤ 40000) (I : Ih S FF) (H : OkB FF) (e : List S29) (b : Bool) (q p : Nat) (h1 : q ≤ p) (hp : p ≤ ts.length) (h3 : e.length + 1 ≤ 2 * (p - q)) (hb : b = decide (wd (ts.drop p) ≠ [61])) :
 aj ts q 3 sz (fun k => df.j0 (FF k) k e b ts (p : Int) false) (sQ S e (ts.drop p)) := by
 unfold sQ
 refine aj.step (fun k => by rw [df.j0]) ?_
 by_cases c : wd (ts.drop p) ≠ [61]
 ·rw [if_pos c]
  refine aj.pos Z34 ?_
  refine aj.must ⟨#[59]⟩ [59] (fD _ _ rfl) (by simp) hp hts h1 (fun h4 => ?_) ?_
  ·dsimp only
   exact aj.node (by omega) h4 hts (by simp) (by rw [jq]; omega)
  dsimp only
  exact aj.wR (by simp) (by rw [jq]; omega) (by omega) (by omega)
 rw [if_neg c]
 refine aj.neg (by rw [hb]; simpa using c) ?_
 cases e with
 | nil => trivial
 | cons x t =>
  have hr : ax (x :: t) 0 = x := rfl
  refine aj.pos Z42 ?_
  simp only [hr]
  simp only [List.length_cons] at h3
  by_cases c1 : x.f0 = 21
  ·simp only [if_pos c1]
   refine aj.must ⟨#[61]⟩ [61] (fD _ _ rfl) (by simp) hp hts h1 (fun h4 => ?_) ?_
   ·refine aj.congr (G := fun k => dO.f (FF (k + 1)) k ts ((p + 1 : Nat) : Int) false 7 0 x.f2 0 E) (fun k => ?_) ?_
    ·show (dO.f _ _ _ _ _ _ _ _ _ E).bind _ = _
     cases dO.f (FF (k + 1)) k ts ((p + 1 : Nat) : Int) false 7 0 x.f2 0 E <;> rfl
    exact aj.from' (vS hts I.shift H.shift 7 x.f2 (p + 1) h4) (by omega) (by omega)
   refine ⟨nd 7 x.f2 0 E [[]], by unfold sz; rw [dQ, jq, List.length_nil]; omega, ah.bind (qY H.shift 7 x.f2) ah.now⟩
  simp only [if_neg c1]
  by_cases c2 : x.f0 = 26
  ·simp only [if_pos c2]
   unfold xy
   match hk : rO (x :: t) with
   | none => trivial
   | some (a, b') =>
    have hs := yz _ _ _ hk
    obtain ⟨k0, k1, kl, e1, e2, e3⟩ := yZ _ _ _ hk
    simp only [List.length_cons] at hs
    have hlen : (x :: t).length ≤ 100000 := by simp only [List.length_cons]; omega
    have hKK := Jc (x :: t) hlen 0
    rw [e1] at hKK
    have hS0 := H5 (x :: t) hlen k0
    have hS1 := H5 (x :: t) hlen k1
    rw [e2] at hS0
    rw [e3] at hS1
    have hl0 : (0 : Int) < ((k0 :: k1 :: kl).length : Int) := by simp only [List.length_cons]; omega
    have hl1 : (1 : Int) < ((k0 :: k1 :: kl).length : Int) := by simp only [List.length_cons]; omega
    have tailE : ∀ (v : List S29) (p2 : Nat) (bb : Bool) (z : List S29 × Int × Bool), ah (fun k => (aW.f k 8 0 E 0 E [a, b', v]).bind fun t => some (t, (p2 : Int), bb)) z →
     ah (fun k => (if 0 < ((k0 :: k1 :: kl).length : Int) then ((jg.f k (x :: t) (rd (k0 :: k1 :: kl) 0)).bind fun t338 => (if 1 < ((k0 :: k1 :: kl).length : Int) then ((jg.f k (x :: t) (rd (k0 :: k1 :: kl) 1)).bind fun t342 => ((aW.f k 8 0 E 0 E (([t338, t342, v] : List (List S29)))).bind fun t348 => (some (t348, (p2 : Int), bb)))) else (none))) else (none))) z := by
     intro v p2 bb z hz
     refine ah.pos hl0 ?_
     rw [rd0]
     refine ah.bind hS0 (ah.pos hl1 ?_)
     rw [rd1]
     exact ah.bind hS1 hz
    refine aj.must ⟨#[61]⟩ [61] (fD _ _ rfl) (by simp) hp hts h1 (fun h4 => ?_) ?_
    ·dsimp only
     refine aj.evB hKK ?_
     refine aj.bind (I.shift.expr ts (p + 1) hts h4) (fun v p2 g1 g2 g3 => ?_) (fun v p2 g1 g2 g3 => ?_)
     ·unfold sz at g3
      dsimp only
      refine aj.must ⟨#[59]⟩ [59] (fD _ _ rfl) (by simp) g2 hts (by omega) (fun h5 => ?_) ?_
      ·dsimp only
       refine aj.done _ (by omega) h5 ?_ (tailE _ _ _ _ (jB (by simp) (by rw [flat3]; omega) ah.now))
       unfold sz; rw [dQ, flat3]; omega
      dsimp only
      refine ⟨_, ?_, tailE _ _ _ _ (jB (by simp) (by rw [flat3]; omega) ah.now)⟩
      unfold sz; rw [dQ, flat3]; omega
     unfold sz at g3
     dsimp only
     refine ⟨nd 8 E 0 E [a, b', v], by omega, ?_, ?_⟩
     ·unfold sz; rw [dQ, flat3]; omega
     rw [jI _ [59] rfl (by simp)]
     exact tailE _ _ _ _ (jB (by simp) (by rw [flat3]; omega) ah.now)
    dsimp only
    refine ⟨nd 8 E 0 E [a, b', []], ?_, ?_⟩
    ·unfold sz; rw [dQ, flat3, List.length_nil]; omega
    refine ah.bind hKK (ah.bind (H.shift.expr ts _) ?_)
    dsimp only
    rw [jI _ [59] rfl (by simp)]
    exact tailE _ _ _ _ (jB (by simp) (by rw [flat3, List.length_nil]; omega) ah.now)
  simp only [if_neg c2]
  exact ⟨[], p, h1, hp, rfl, by unfold sz; simp only [List.length_nil]; omega, ah.now⟩
end Go.Proofs.YtkbhkonenkgfoaaGreat.Par
end
section
set_option linter.unusedVariables false
set_option linter.unusedSimpArgs false
namespace Go.Proofs.YtkbhkonenkgfoaaGreat.Par
open Go Go.RowKit Go.Proofs.YtkbhkonenkgfoaaGreatW.PrintWords Go.Proofs.YtkbhkonenkgfoaaGreat.Q Go.Proofs.YtkbhkonenkgfoaaGreat.Lex Go.Proofs.YtkbhkonenkgfoaaGreat.Tree
variable {ts : List S37} {S : PF} {FF : Nat → Fam}
theorem Ef (a b : List UInt8) : (a != b) = decide (a ≠ b) := by by_cases h : a = b <;> simp [h]
theorem eqb (a b : List UInt8) : (a == b) = decide (a = b) := by by_cases h : a = b <;> simp [h]
theorem aj.ite {α : Type} {q d : Nat} {sA : α → Nat} {F G : Nat → Option (α × Int × Bool)} {P1 P2 : R α} {c : Prop} [Decidable c] (h1 : c → aj ts q d sA F P1) (h2 : ¬c → aj ts q d sA G P2) :
 aj ts q d sA (fun k => if c then F k else G k) (if c then P1 else P2) := by
 by_cases h : c
 ·rw [if_pos h]; exact aj.pos h (h1 h)
 rw [if_neg h]; exact aj.neg h (h2 h)
theorem aj.idb {α : Type} {q d : Nat} {sA : α → Nat} {F : Nat → Option (α × Int × Bool)} {P : R α} (h : aj ts q d sA F P) : aj ts q d sA (fun k => (F k).bind fun b => some (b.1, b.2.1, b.2.2)) P :=
 aj.congr (fun k => by cases F k <;> rfl) h
theorem aj.tkw {β : Type} {q p d : Nat} {sB : β → Nat} {G : Nat → Bool × Int × Bool → Option (β × Int × Bool)} {f : Unit → Ps β} (wl : List UInt8) (hc : (wB (ts.drop p)).toList = wl) (hw : wl ≠ []) (hts : ts.length ≤ 40000)
 (hok : p + 1 ≤ ts.length → aj ts q d sB (fun k => G k (true, ((p + 1 : Nat) : Int), false)) (f () (ts.drop (p + 1)))) :
 aj ts q d sB (fun k => (bn.f ts (p : Int) false (wB (ts.drop p))).bind (G k)) (bnd Par.tk f (ts.drop p)) := aj.tk (wB (ts.drop p)) (by rw [hc]; exact hw) rfl hts hok
theorem aj.xx {β : Type} {q p d : Nat} {sB : β → Nat} {G : Nat → Bool × Int × Bool → Option (β × Int × Bool)} {f : Unit → Ps β} {P2 : R β} (w : ByteArray) (wl : List UInt8) (hwl : w.toList = wl) (hw : wl ≠ []) (hp : p ≤ ts.length) (hts : ts.length ≤ 40000)
 (hok : p + 1 ≤ ts.length → aj ts q d sB (fun k => G k (true, ((p + 1 : Nat) : Int), false)) (f () (ts.drop (p + 1)))) (hno : wd (ts.drop p) ≠ wl → aj ts q d sB (fun k => G k (false, (p : Int), false)) P2) :
 aj ts q d sB (fun k => (bn.f ts (p : Int) false w).bind (G k)) (if wd (ts.drop p) = wl then (bnd Par.tk f) (ts.drop p) else P2) := by
 by_cases c : wd (ts.drop p) = wl
 ·rw [if_pos c]
  exact aj.tk w (by rw [hwl]; exact hw) (by rw [hwl]; exact c) hts hok
 rw [if_neg c, xw ts p (by omega) w (by rw [hwl]; exact hw), if_neg (by rw [hwl]; exact c)]
 exact hno c
theorem takeB {q : Int} (w : ByteArray) (wl : List UInt8) (hwl : L w = wl) (hw : wl ≠ []) : bn.f ts q true w = some (false, q, true) := yx ts q w (by rw [fD w wl hwl]; exact hw)
theorem Gf (hts : ts.length ≤ 40000) (I : Ih S FF) (H : OkB FF) (q : Nat) (hq : q ≤ ts.length) :
 aj ts q 3 sz (fun k => df.f (FF k) k ts (q : Int) false) (uX S (ts.drop q)) := by
 unfold df.f uX
 refine aj.bind (I.expr ts q hts hq) (fun e p h1 h2 h3 => ?_) (fun e p h1 h2 h3 => ?_)
 ·unfold sz at h3
  dsimp only
  refine aj.neg (by simp) ?_
  rw [mJ]
  simp only [Option.bind_some]
  exact DY hts I H e _ q p h1 h2 h3 (Ef _ _)
 unfold sz at h3
 dsimp only
 refine ⟨nd 17 E 0 E [e], h1, by unfold sz; rw [dQ, jq]; omega, ah.pos rfl ?_⟩
 refine ah.step (fun k => by rw [df.j0]) ?_
 refine ah.pos rfl ?_
 rw [jI _ [59] rfl (by simp)]
 exact jB (by simp) (by rw [jq]; omega) ah.now
theorem Jn (hts : ts.length ≤ 40000) (I : Ih S FF) (H : OkB FF) (q : Nat) (hq : q ≤ ts.length) (hw : (wB (ts.drop q)).toList = [108, 101, 116]) :
 aj ts q 3 sz (fun k => (bn.f ts (q : Int) false (wB (ts.drop q))).bind fun bt354 => ((dF.f ts bt354.2.1 bt354.2.2 1).bind fun bt357 => ((aY.f ts bt357.2.2.2.2.1 bt357.2.2.2.2.2 (⟨#[61]⟩ : ByteArray)).bind fun bt363 => ((dO.f (FF k) k ts bt363.1 bt363.2 6 0 bt357.2.1 0 E).bind fun bt365 => some (bt365.1, bt365.2.1, bt365.2.2)))))
  ((bnd Par.tk fun _ => bnd (Par.need 1) fun t => bnd (Par.must [61]) fun _ => lG S 6 t.f1) (ts.drop q)) := by
 refine aj.tkw _ hw (by simp) hts (fun h1 => ?_)
 refine aj.need 1 h1 hts (by omega) (fun t h2 _ => ?_) ?_
 ·refine aj.must ⟨#[61]⟩ [61] (fD _ _ rfl) (by simp) h2 hts (by omega) (fun h3 => ?_) ?_
  ·exact aj.idb (aj.from' (vS hts I H 6 t.f1 (q + 1 + 1 + 1) h3) (by omega) (by omega))
  dsimp only
  exact ⟨nd 6 t.f1 0 E [[]], by unfold sz; rw [dQ, jq, List.length_nil]; omega, ah.bind (qY H 6 t.f1) ah.now⟩
 dsimp only
 refine ⟨nd 6 E 0 E [[]], by unfold sz; rw [dQ, jq, List.length_nil]; omega, ?_⟩
 rw [jI _ [61] rfl (by simp)]
 simp only [Option.bind_some]
 exact ah.bind (qY H 6 E) ah.now
theorem kW : (nd 5 E 0 E []).length = 1 := rfl
theorem JL (hts : ts.length ≤ 40000) (I : Ih S FF) (H : OkB FF) (q : Nat) (hq : q ≤ ts.length) (hw : (wB (ts.drop q)).toList = [105, 102]) :
 aj ts q 3 sz (fun k => (bn.f ts (q : Int) false (wB (ts.drop q))).bind fun bt370 => ((jM.f (FF k) k ts bt370.2.1 bt370.2.2).bind fun bt373 => ((some (([bt373.1] : List (List S29)) : List (List S29))).bind fun y378 => ((lT.f (FF k) k ts bt373.2.1 bt373.2.2).bind fun bt381 => (if y378.length < 5864062014805 then ((some (y378 ++ [bt381.1] : List (List S29))).bind fun y386 => ((bn.f ts bt381.2.1 bt381.2.2 (⟨#[101, 108, 115, 101]⟩ : ByteArray)).bind fun bt389 => (if bt389.1 = true then ((lT.f (FF k) k ts bt389.2.1 bt389.2.2).bind fun bt392 => (if y386.length < 5864062014805 then ((aW.f k 9 0 E 0 E (y386 ++ [bt392.1])).bind fun t400 => (some (t400, bt392.2.1, bt392.2.2))) else (none))) else ((aW.f k 9 0 E 0 E y386).bind fun t403 => (some (t403, bt389.2.1, bt389.2.2)))))) else (none))))))
  ((bnd Par.tk fun _ => bnd S.expr fun e => bnd S.block fun b => fun l2 => if wd l2 = [101, 108, 115, 101] then (bnd Par.tk fun _ => bnd S.block fun c => ret (nd 9 E 0 E [e, b, c])) l2 else .ok (nd 9 E 0 E [e, b], l2)) (ts.drop q)) := by
 refine aj.tkw _ hw (by simp) hts (fun h1 => ?_)
 dsimp only
 refine aj.bind (I.expr ts (q + 1) hts h1) (fun e p g1 g2 g3 => ?_) (fun e p g1 g2 g3 => ?_)
 ·unfold sz at g3
  dsimp only
  simp only [Option.bind_some]
  refine aj.bind (I.block ts p hts g2) (fun b p2 f1 f2 f3 => ?_) (fun b p2 f1 f2 f3 => ?_)
  ·unfold sz at f3
   dsimp only
   refine aj.pos (by simp) ?_
   simp only [List.cons_append, List.nil_append]
   refine aj.xx _ _ (fD _ _ rfl) (by simp) f2 hts (fun h3 => ?_) (fun hn => ?_)
   ·refine aj.pos rfl ?_
    dsimp only
    refine aj.bind (I.block ts (p2 + 1) hts h3) (fun c p3 e1 e2 e3 => ?_) (fun c p3 e1 e2 e3 => ?_)
    ·unfold sz at e3
     dsimp only
     refine aj.pos (by simp) ?_
     exact aj.node (kids := [e, b, c]) (by omega) e2 hts (by simp) (by rw [flat3]; omega)
    unfold sz at e3
    dsimp only
    refine ⟨nd 9 E 0 E [e, b, c], by omega, by unfold sz; rw [dQ, flat3]; omega, ah.pos (by simp) ?_⟩
    exact jB (kids := [e, b, c]) (by simp) (by rw [flat3]; omega) ah.now
   refine aj.neg (by simp) ?_
   exact aj.node (kids := [e, b]) (by omega) f2 hts (by simp) (by rw [iZ]; omega)
  unfold sz at f3
  dsimp only
  refine ⟨nd 9 E 0 E [e, b], by omega, by unfold sz; rw [dQ, iZ]; omega, ah.pos (by simp) ?_⟩
  rw [takeB _ [101, 108, 115, 101] rfl (by simp)]
  simp only [Option.bind_some, List.cons_append, List.nil_append]
  exact ah.neg (by simp) (jB (by simp) (by rw [iZ]; omega) ah.now)
 unfold sz at g3
 dsimp only
 simp only [Option.bind_some]
 refine ⟨nd 9 E 0 E [e, nd 5 E 0 E []], by omega, by unfold sz; rw [dQ, iZ, kW]; omega, ah.bind (H.block ts _) (ah.pos (by simp) ?_)⟩
 dsimp only
 rw [takeB _ [101, 108, 115, 101] rfl (by simp)]
 simp only [Option.bind_some, List.cons_append, List.nil_append]
 exact ah.neg (by simp) (jB (by simp) (by rw [iZ, kW]; omega) ah.now)
theorem Fz (hts : ts.length ≤ 40000) (I : Ih S FF) (H : OkB FF) (q : Nat) (hq : q ≤ ts.length) (hw : (wB (ts.drop q)).toList = [119, 104, 105, 108, 101]) :
 aj ts q 3 sz (fun k => (bn.f ts (q : Int) false (wB (ts.drop q))).bind fun bt406 => ((jM.f (FF k) k ts bt406.2.1 bt406.2.2).bind fun bt409 => ((lT.f (FF k) k ts bt409.2.1 bt409.2.2).bind fun bt414 => ((aW.f k 10 0 E 0 E (([bt409.1, bt414.1] : List (List S29)))).bind fun t422 => (some (t422, bt414.2.1, bt414.2.2))))))
  ((bnd Par.tk fun _ => bnd S.expr fun e => bnd S.block fun b => ret (nd 10 E 0 E [e, b])) (ts.drop q)) := by
 refine aj.tkw _ hw (by simp) hts (fun h1 => ?_)
 dsimp only
 refine aj.bind (I.expr ts (q + 1) hts h1) (fun e p g1 g2 g3 => ?_) (fun e p g1 g2 g3 => ?_)
 ·unfold sz at g3
  dsimp only
  refine aj.bind (I.block ts p hts g2) (fun b p2 f1 f2 f3 => ?_) (fun b p2 f1 f2 f3 => ?_)
  ·unfold sz at f3
   dsimp only
   exact aj.node (by omega) f2 hts (by simp) (by rw [iZ]; omega)
  unfold sz at f3
  dsimp only
  exact ⟨nd 10 E 0 E [e, b], by omega, by unfold sz; rw [dQ, iZ]; omega, jB (by simp) (by rw [iZ]; omega) ah.now⟩
 unfold sz at g3
 dsimp only
 exact ⟨nd 10 E 0 E [e, nd 5 E 0 E []], by omega, by unfold sz; rw [dQ, iZ, kW]; omega, ah.bind (H.block ts _) (jB (by simp) (by rw [iZ, kW]; omega) ah.now)⟩
theorem IK (hts : ts.length ≤ 40000) (wl : List UInt8) (hwl : wl ≠ []) (a k0 : Int) (ha : k0 = if a = 0 then 16 else a) (q : Nat) (hq : q ≤ ts.length) (hw : (wB (ts.drop q)).toList = wl) :
 aj ts q 3 sz (fun k => aV.j0 (FF k) k (wB (ts.drop q)) a ts (q : Int) false) ((bnd Par.tk fun _ => sD k0) (ts.drop q)) := by
 refine aj.step (fun k => by rw [aV.j0]) ?_
 by_cases c : a = 0
 ·rw [if_pos c] at ha
  subst ha
  exact aj.pos c (aj.tkw _ hw hwl hts (fun h1 => aj.idb (EM hts 16 (q + 1) q h1 (by omega))))
 rw [if_neg c] at ha
 subst ha
 exact aj.neg c (aj.tkw _ hw hwl hts (fun h1 => aj.idb (EM hts k0 (q + 1) q h1 (by omega))))
theorem IJ (hts : ts.length ≤ 40000) (I : Ih S FF) (H : OkB FF) (wl : List UInt8) (hwl : wl ≠ []) (a : Int) (ha : a ≠ 0) (q : Nat) (hq : q ≤ ts.length) (hw : (wB (ts.drop q)).toList = wl) :
 aj ts q 3 sz (fun k => aV.j1 (FF k) k (wB (ts.drop q)) a ts (q : Int) false) ((bnd Par.tk fun _ => lG S a E) (ts.drop q)) := by
 refine aj.step (fun k => by rw [aV.j1]) ?_
 exact aj.neg ha (aj.tkw _ hw hwl hts (fun h1 => aj.idb (aj.from' (vS hts I.shift H.shift a E (q + 1) h1) (by omega) (by omega))))
theorem Ig (hts : ts.length ≤ 40000) (I : Ih S FF) (H : OkB FF) (q : Nat) (hq : q ≤ ts.length) :
 aj ts q 3 sz (fun k => aV.f (FF k) k ts (q : Int) false) (kZ S (ts.drop q)) := by
 refine aj.congr (fun k => by unfold aV.f; rw [mJ]) ?_
 unfold kZ
 simp only [Option.bind_some]
 refine aj.ite (Jn hts I H q hq) (fun _ => ?_)
 refine aj.ite (JL hts I H q hq) (fun _ => ?_)
 refine aj.ite (Fz hts I H q hq) (fun _ => ?_)
 refine aj.ite (fun c => aj.neg (by omega) (IK hts _ (by simp) 11 11 rfl q hq c)) (fun _ => ?_)
 refine aj.ite (fun c => aj.pos (by trivial) (IK hts _ (by simp) 12 12 rfl q hq c)) (fun _ => ?_)
 refine aj.ite (fun c => IK hts _ (by simp) 0 16 rfl q hq c) (fun _ => ?_)
 refine aj.ite (fun c => IJ hts I H _ (by simp) 13 (by omega) q hq c) (fun _ => ?_)
 refine aj.ite (fun c => IJ hts I H _ (by simp) 14 (by omega) q hq c) (fun _ => ?_)
 refine aj.ite (fun c => IJ hts I H _ (by simp) 15 (by omega) q hq c) (fun _ => ?_)
 refine aj.step (fun k => by rw [aV.j1]) ?_
 exact aj.pos (by trivial) (aj.idb (Gf hts I.shift H.shift q hq))
end Go.Proofs.YtkbhkonenkgfoaaGreat.Par
end
section
set_option linter.unusedVariables false
set_option linter.unusedSimpArgs false
namespace Go.Proofs.YtkbhkonenkgfoaaGreat.Par
open Go Go.RowKit Go.Proofs.YtkbhkonenkgfoaaGreatW.PrintWords Go.Proofs.YtkbhkonenkgfoaaGreat.Q Go.Proofs.YtkbhkonenkgfoaaGreat.Lex Go.Proofs.YtkbhkonenkgfoaaGreat.Tree
theorem wU (ts : List S37) (q : Nat) (w : ByteArray) (hw : w.toList ≠ []) : eU.f ts (q : Int) false w = some (decide (wd (ts.drop q) = w.toList), (q : Int), false) := by
 unfold eU.f
 rw [if_neg (by simp)]
 cases h : ts.drop q with
 | nil =>
  have : ts.length ≤ q := List.drop_eq_nil_iff.1 h
  rw [if_neg (by omega), xu, decide_eq_false (fun e => hw e.symm)]
 | cons t r =>
  obtain ⟨h1, h2, _⟩ := lI ts q t r h
  rw [if_pos (by omega), if_pos (by omega), h2]
  show _ = some (decide ((if t.f0 = 5 ∨ t.f0 = 4 then t.f1 else E).toList = w.toList), (q : Int), false)
  by_cases c1 : t.f0 = 5
  ·rw [if_pos c1, if_pos (Or.inl c1), eqb]
  rw [if_neg c1]
  by_cases c2 : t.f0 = 4
  ·rw [if_pos c2, if_pos (Or.inr c2), eqb]
  rw [if_neg c2, if_neg (by omega), zI, decide_eq_false (fun e => hw e.symm)]
theorem oK (ts : List S37) (q : Nat) (hq : q ≤ 100000) (w : ByteArray) (hw : w.toList ≠ []) : bC.f ts (q : Int) false w = if wd (ts.drop q) = w.toList then some (true, ((q + 1 : Nat) : Int), false) else some (false, (q : Int), false) := by
 unfold bC.f
 rw [wU ts q w hw]
 simp only [Option.bind_some]
 rw [inc q (by omega)]
 by_cases c : wd (ts.drop q) = w.toList
 ·rw [if_pos c, decide_eq_true c, if_pos rfl]
 rw [if_neg c, decide_eq_false c, if_neg (by simp)]
theorem mg (ts : List S37) (q : Int) (w : ByteArray) : bC.f ts q true w = some (false, q, true) := rfl
theorem D9 (ts : List S37) (q : Nat) (hq : q ≤ 100000) (w : ByteArray) (hw : w.toList ≠ []) : bg.f ts (q : Int) false w = if wd (ts.drop q) = w.toList then some (((q + 1 : Nat) : Int), false) else some ((q : Int), true) := by
 unfold bg.f
 rw [oK ts q hq w hw]
 by_cases c : wd (ts.drop q) = w.toList
 ·rw [if_pos c, if_pos c]; rfl
 rw [if_neg c, if_neg c]; rfl
theorem gy (ts : List S37) (q : Int) (w : ByteArray) : bg.f ts q true w = some (q, true) := rfl
theorem lL (ts : List S37) (q : Int) (k : Int) : jJ.f ts q true k = some (0, E, 0, 0, q, true) := rfl
theorem BZ (ts : List S37) (q : Nat) (k : Int) (h : ts.drop q = []) : jJ.f ts (q : Int) false k = some (0, E, 0, 0, (q : Int), true) := by
 unfold jJ.f
 have : ts.length ≤ q := List.drop_eq_nil_iff.1 h
 rw [if_neg (by simp), if_pos (by omega)]; rfl
theorem zS (ts : List S37) (q : Nat) (hq : q ≤ 100000) (k : Int) (t : S37) (r : List S37) (h : ts.drop q = t :: r) : jJ.f ts (q : Int) false k = if t.f0 = k then some (t.f0, t.f1, t.f2, t.f3, ((q + 1 : Nat) : Int), false) else some (0, E, 0, 0, (q : Int), true) := by
 obtain ⟨h1, h2, _⟩ := lI ts q t r h
 unfold jJ.f
 rw [if_neg (by simp), if_neg (by omega), if_pos (by omega), h2, if_pos (show (q : Int) < 9223372036854775807 by omega)]; rfl
theorem II (kids : List (List S29)) (hk : kids.length ≤ 1000000) : ∀ (m i : Nat) (acc : List S29), kids.length = m + i → acc.length + ((kids.drop i).flatten).length ≤ 1000000000 →
 ah (fun k => az.l0 k kids acc (i : Int)) (acc ++ (kids.drop i).flatten) := by
 intro m
 induction m with
 | zero =>
  intro i acc h1 h2
  rw [List.drop_eq_nil_of_le (by omega), List.flatten_nil, List.append_nil]
  refine ah.step (fun k => by rw [az.l0]) ?_
  exact ah.neg (by omega) ah.now
 | succ m ih =>
  intro i acc h1 h2
  have hi : i < kids.length := by omega
  have hr : mZ kids (i : Int) = kids[i] := by simp [mZ, List.getD_eq_getElem?_getD, List.getElem?_eq_getElem hi]
  rw [List.drop_eq_getElem_cons hi, List.flatten_cons] at h2 ⊢
  rw [List.length_append] at h2
  refine ah.step (fun k => by rw [az.l0]) ?_
  rw [hr, inc i (by omega)]
  refine ah.pos (by omega) (ah.pos (by omega) (ah.pos (by omega) ?_))
  have := ih (i + 1) (acc ++ kids[i]) (by omega) (by rw [List.length_append]; omega)
  rw [List.append_assoc] at this
  exact this
theorem tu (k0 : Int) (nm : ByteArray) (n : Int) (tx : ByteArray) (z : Int) (kids : List (List S29)) (hk : kids.length ≤ 1000000) (hs : kids.flatten.length ≤ 100000000) : ah (fun k => az.f k k0 z nm n tx kids) (nd k0 nm n tx kids) := by
 have := II kids hk kids.length 0 [⟨k0, (kids.length : Int), nm, n, tx⟩] (by omega) (by rw [List.drop_zero]; simp only [List.length_cons, List.length_nil]; omega)
 rw [List.drop_zero] at this
 exact this
/-- A mark that must stand there. -/
theorem aj.kU {β : Type} {ts : List S37} {q p d : Nat} {sB : β → Nat} {G : Nat → Int × Bool → Option (β × Int × Bool)} {f : Unit → Ps β} (w : ByteArray) (wl : List UInt8) (hwl : w.toList = wl) (hw : wl ≠ []) (hp : p ≤ ts.length) (hts : ts.length ≤ 40000) (hq : q ≤ p)
 (hok : p + 1 ≤ ts.length → aj ts q d sB (fun k => G k (((p + 1 : Nat) : Int), false)) (f () (ts.drop (p + 1))))
 (hbad : ∃ y, sB y ≤ 2 * (p - q) + d ∧ ah (fun k => G k ((p : Int), true)) (y, (p : Int), true)) :
 aj ts q d sB (fun k => (bg.f ts (p : Int) false w).bind (G k)) (bnd (Par.must wl) f (ts.drop p)) := by
 subst hwl
 rw [D9 ts p (by omega) w hw]
 unfold bnd Par.must
 by_cases c : wd (ts.drop p) = w.toList
 ·rw [if_pos c, if_pos c]
  obtain ⟨t, r, e⟩ := ru (l := ts.drop p) (by rw [c]; exact hw)
  obtain ⟨h1, _, h3⟩ := lI ts p t r e
  have := hok (by omega)
  rw [h3] at this
  rw [e]
  exact this
 rw [if_neg c, if_neg c]
 obtain ⟨y, h1, h2⟩ := hbad
 exact ⟨y, p, hq, hp, rfl, h1, h2⟩
/-- A token of a kind that must stand there. -/
theorem aj.pV {β : Type} {ts : List S37} {q p d : Nat} {sB : β → Nat} {G : Nat → Int × ByteArray × Int × Int × Int × Bool → Option (β × Int × Bool)} {f : S37 → Ps β} (kd : Int) (hp : p ≤ ts.length) (hts : ts.length ≤ 40000) (hq : q ≤ p)
 (hok : ∀ t : S37, p + 1 ≤ ts.length → t.f0 = kd → aj ts q d sB (fun k => G k (t.f0, t.f1, t.f2, t.f3, ((p + 1 : Nat) : Int), false)) (f t (ts.drop (p + 1))))
 (hbad : ∃ y, sB y ≤ 2 * (p - q) + d ∧ ah (fun k => G k (0, E, 0, 0, (p : Int), true)) (y, (p : Int), true)) :
 aj ts q d sB (fun k => (jJ.f ts (p : Int) false kd).bind (G k)) (bnd (Par.need kd) f (ts.drop p)) := by
 obtain ⟨y, h1, h2⟩ := hbad
 cases e : ts.drop p with
 | nil =>
  rw [BZ ts p kd e]
  exact ⟨y, p, hq, hp, e, h1, h2⟩
 | cons t r =>
  rw [zS ts p (by omega) kd t r e]
  unfold bnd Par.need
  by_cases c : t.f0 = kd
  ·simp only [if_pos c]
   obtain ⟨g1, _, g3⟩ := lI ts p t r e
   have := hok t (by omega) c
   rw [g3] at this
   exact this
  simp only [if_neg c]
  exact ⟨y, p, hq, hp, e, h1, h2⟩
/-- A word that was looked at is passed. -/
theorem aj.rtk {β : Type} {ts : List S37} {q p d : Nat} {sB : β → Nat} {G : Nat → Bool × Int × Bool → Option (β × Int × Bool)} {f : Unit → Ps β} (w : ByteArray) (hw : w.toList ≠ []) (hwd : wd (ts.drop p) = w.toList) (hts : ts.length ≤ 40000)
 (hok : p + 1 ≤ ts.length → aj ts q d sB (fun k => G k (true, ((p + 1 : Nat) : Int), false)) (f () (ts.drop (p + 1)))) :
 aj ts q d sB (fun k => (bC.f ts (p : Int) false w).bind (G k)) (bnd Par.tk f (ts.drop p)) := by
 obtain ⟨t, r, e⟩ := ru (l := ts.drop p) (by rw [hwd]; exact hw)
 obtain ⟨h1, _, h3⟩ := lI ts p t r e
 rw [oK ts p (by omega) w hw, if_pos hwd]
 have := hok (by omega)
 rw [h3] at this
 rw [e]
 exact this
variable {ts : List S37} {q : Int}
theorem aj.jh {β : Type} {q p d : Nat} {sB : β → Nat} {G : Nat → Bool × Int × Bool → Option (β × Int × Bool)} {f : Unit → Ps β} {P2 : R β} (w : ByteArray) (wl : List UInt8) (hwl : w.toList = wl) (hw : wl ≠ []) (hp : p ≤ ts.length) (hts : ts.length ≤ 40000)
 (hok : p + 1 ≤ ts.length → aj ts q d sB (fun k => G k (true, ((p + 1 : Nat) : Int), false)) (f () (ts.drop (p + 1)))) (hno : wd (ts.drop p) ≠ wl → aj ts q d sB (fun k => G k (false, (p : Int), false)) P2) :
 aj ts q d sB (fun k => (bC.f ts (p : Int) false w).bind (G k)) (if wd (ts.drop p) = wl then (bnd Par.tk f) (ts.drop p) else P2) := by
 by_cases c : wd (ts.drop p) = wl
 ·rw [if_pos c]
  exact aj.rtk w (by rw [hwl]; exact hw) (by rw [hwl]; exact c) hts hok
 rw [if_neg c, oK ts p (by omega) w (by rw [hwl]; exact hw), if_neg (by rw [hwl]; exact c)]
 exact hno c
theorem kK {α : Type} {k0 : Int} {nm : ByteArray} {n : Int} {tx : ByteArray} {z : Int} {kids : List (List S29)} {G : Nat → List S29 → Option α} {v : α} (hk : kids.length ≤ 1000000) (hs : kids.flatten.length ≤ 100000000) (h : ah (fun k => G k (nd k0 nm n tx kids)) v) :
 ah (fun k => (az.f k k0 z nm n tx kids).bind (G k)) v := ah.bind (tu k0 nm n tx z kids hk hs) h
/-- A node that is made at the end; behind a fault. -/
theorem aj.join {q p d : Nat} {k0 : Int} {nm : ByteArray} {n : Int} {tx : ByteArray} {z : Int} {kids : List (List S29)} (hq : q ≤ p) (hp : p ≤ ts.length) (hts : ts.length ≤ 40000) (hk : kids.length ≤ 1000000) (hs : kids.flatten.length + 2 ≤ 2 * (p - q)) :
 aj ts q d sz (fun k => (az.f k k0 z nm n tx kids).bind fun t => some (t, (p : Int), false)) (ret (nd k0 nm n tx kids) (ts.drop p)) :=
 aj.done _ hq hp (by unfold sz; rw [dQ]; omega) (kK hk (by omega) ah.now)
theorem aj.Ez {q p d : Nat} {k0 : Int} {nm : ByteArray} {n : Int} {tx : ByteArray} {z : Int} {kids : List (List S29)} (hk : kids.length ≤ 1000000) (hs : kids.flatten.length + 2 ≤ 2 * (p - q) + d) (hb : p ≤ 100000) (hd : d ≤ 1000) :
 ∃ y, sz y ≤ 2 * (p - q) + d ∧ ah (fun k => (az.f k k0 z nm n tx kids).bind fun t => some (t, (p : Int), true)) (y, (p : Int), true) :=
 ⟨nd k0 nm n tx kids, by unfold sz; rw [dQ]; omega, kK hk (by omega) ah.now⟩
end Go.Proofs.YtkbhkonenkgfoaaGreat.Par
end
