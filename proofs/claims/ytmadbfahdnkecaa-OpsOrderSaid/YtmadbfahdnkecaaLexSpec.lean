/- What a text's tokens are, over lists of bytes; no program in sight; no condition. -/
import Derived.Test.YtmadbfahdnkecaaWWords
set_option linter.unusedVariables false
set_option linter.unusedSimpArgs false
namespace Go.Proofs.Ytmadbfahdnkecaa.Lex
open Go

/-- A function of a number of rounds comes to a value, and stays there. -/
def EvTo {α : Type} (F : Nat → Option α) (v : α) : Prop := ∃ k, ∀ j, k ≤ j → F j = some v
theorem EvTo.now {α : Type} {v : α} : EvTo (fun _ => some v) v := ⟨0, fun _ _ => rfl⟩
theorem EvTo.of_eq {α : Type} {F : Nat → Option α} {v : α} (h : ∀ k, F k = some v) : EvTo F v := ⟨0, fun _ _ => h _⟩
theorem EvTo.congr {α : Type} {F G : Nat → Option α} {v : α} (h : ∀ k, F k = G k) (g : EvTo G v) : EvTo F v := by
  obtain ⟨k, hk⟩ := g
  exact ⟨k, fun j hj => (h j).trans (hk j hj)⟩
theorem EvTo.step {α : Type} {F G : Nat → Option α} {v : α} (h : ∀ k, F (k + 1) = G k) (g : EvTo G v) : EvTo F v := by
  obtain ⟨k, hk⟩ := g
  refine ⟨k + 1, fun j hj => ?_⟩
  obtain ⟨i, rfl⟩ : ∃ i, j = i + 1 := ⟨j - 1, by omega⟩
  rw [h]
  exact hk i (by omega)
theorem EvTo.bind {α β : Type} {F : Nat → Option α} {G : Nat → α → Option β} {v : α} {u : β} (f : EvTo F v) (g : EvTo (fun k => G k v) u) : EvTo (fun k => (F k).bind (G k)) u := by
  obtain ⟨k1, h1⟩ := f
  obtain ⟨k2, h2⟩ := g
  refine ⟨k1 + k2, fun j hj => ?_⟩
  show (F j).bind (G j) = some u
  rw [h1 j (by omega)]
  exact h2 j (by omega)
theorem EvTo.pos {α : Type} {F G : Nat → Option α} {v : α} {c : Prop} [Decidable c] (h : c) (f : EvTo F v) : EvTo (fun k => if c then F k else G k) v := EvTo.congr (fun k => if_pos h) f
theorem EvTo.neg {α : Type} {F G : Nat → Option α} {v : α} {c : Prop} [Decidable c] (h : ¬c) (g : EvTo G v) : EvTo (fun k => if c then F k else G k) v := EvTo.congr (fun k => if_neg h) g
theorem EvTo.one {α : Type} {F : Nat → Option α} {v : α} (h : EvTo F v) : ∃ k, F k = some v := by
  obtain ⟨k, hk⟩ := h
  exact ⟨k, hk k (Nat.le_refl k)⟩
theorem EvTo.of_one {α : Type} {F : Nat → Option α} {v : α} (m : ∀ k r, F k = some r → F (k + 1) = some r) (k : Nat) (h : F k = some v) : EvTo F v := by
  refine ⟨k, fun j hj => ?_⟩
  induction hj with
  | refl => exact h
  | step _ ih => exact m _ _ ih
theorem EvTo.uniq {α : Type} {F : Nat → Option α} {v u : α} (h : EvTo F v) (g : EvTo F u) : v = u := by
  obtain ⟨k1, h1⟩ := h
  obtain ⟨k2, h2⟩ := g
  have a := h1 (k1 + k2) (by omega)
  rw [h2 (k1 + k2) (by omega)] at a
  exact (Option.some.inj a).symm

/-! The kinds of bytes. -/
def bl (c : UInt8) : Bool := c == 32 || c == 9 || c == 10 || c == 13
def le (c : UInt8) : Bool := decide (97 ≤ c.toNat ∧ c.toNat ≤ 122)
def di (c : UInt8) : Bool := decide (48 ≤ c.toNat ∧ c.toNat ≤ 57)
def inn (c : UInt8) : Bool := le c || di c || c == 95

/-- What is left behind blanks and remarks; in a remark at first? -/
def skp : Bool → List UInt8 → List UInt8
  | _, [] => []
  | false, c :: t => if bl c then skp false t else if c = 35 then skp true t else c :: t
  | true, c :: t => if c = 10 then skp false t else skp true t

def KEYS : List (List UInt8) := [[109, 111, 100, 117, 108, 101], [117, 115, 101], [102, 110], [108, 101, 116], [105, 102], [101, 108, 115, 101], [119, 104, 105, 108, 101], [98, 114, 101, 97, 107], [99, 111, 110, 116, 105, 110, 117, 101], [114, 101, 116, 117, 114, 110], [112, 117, 116], [101, 109, 105, 116], [121, 105, 101, 108, 100], [110, 105, 108], [115, 116, 97, 116, 101], [115, 112, 97, 119, 110], [108, 101, 110], [110, 111, 116], [97, 110, 100], [111, 114]]
def isKey (s : List UInt8) : Bool := KEYS.contains s
/-- A word: a letter, and then letters, digits and lines. -/
def isWord : List UInt8 → Bool
  | [] => false
  | c :: t => le c && (c :: t).all inn
def isName (s : List UInt8) : Bool := isWord s && decide (s.length ≤ 16) && !isKey s

/-- What a mask makes of a byte. -/
def esc (c : UInt8) : Option UInt8 := if c = 110 then some 10 else if c = 34 then some 34 else if c = 92 then some 92 else none
/-- What a quoted text says, behind its first sign, and what is left behind it; is the next byte masked? -/
def unq : Bool → List UInt8 → Option (List UInt8 × List UInt8)
  | _, [] => none
  | true, c :: t => match esc c with
    | none => none
    | some x => (unq false t).map fun r => (x :: r.1, r.2)
  | false, c :: t => if c = 34 then some ([], t) else if c = 10 then none else if c = 92 then unq true t else (unq false t).map fun r => (c :: r.1, r.2)
def quo1 (c : UInt8) : List UInt8 := if c = 10 then [92, 110] else if c = 34 then [92, 34] else if c = 92 then [92, 92] else [c]
def quo (s : List UInt8) : List UInt8 := 34 :: (s.flatMap quo1 ++ [34])

def nstep (n : Int) (c : UInt8) : Int := IntKind.u64.wrap (IntKind.u64.wrap (10 * n) + (((c.toNat : Int) - 48) % 256))
def num (s : List UInt8) : Int := s.foldl nstep 0
def long (s : List UInt8) : Bool := decide (19 < s.length) || (decide (1 < s.length) && s.head? == some 48)
/-- Digits' number, and whether it is one. -/
def numOf (s : List UInt8) : Int × Bool := if long s then (0, false) else (RowKit.wrap64 (num s), decide (num s < 9223372036854775808))

def PAIRS : List (List UInt8) := [[61, 61], [33, 61], [60, 61], [46, 46]]
def SINGLES : List UInt8 := [40, 41, 123, 125, 91, 93, 44, 59, 46, 47, 61, 60, 43, 45, 42, 37]
/-- The mark with which a text begins. -/
def mark (l : List UInt8) : List UInt8 := if PAIRS.contains (l.take 2) then l.take 2 else if (match l with | [] => false | c :: _ => SINGLES.contains c) then l.take 1 else []

/-- A token: its kind, its text, its number, how many bytes are left from its beginning on. -/
structure Tk where
  kind : Int
  text : List UInt8
  n : Int
  rem : Nat

/-- The token with which a text begins (kind, text, number) and how many bytes it has; or the fault. -/
def one (l : List UInt8) : Except Int (Int × List UInt8 × Int × Nat) :=
  match l with
  | [] => .error 0
  | c :: t =>
    if le c then
      let w := (c :: t).takeWhile inn
      if isKey w then .ok (5, w, 0, w.length) else if w.length ≤ 16 then .ok (1, w, 0, w.length) else .error 10
    else if di c then
      let d := (c :: t).takeWhile di
      if (numOf d).2 then .ok (2, d, (numOf d).1, d.length) else .error 10
    else if c = 34 then
      match unq false t with
      | some (x, r) => .ok (3, x, 0, (c :: t).length - r.length)
      | none => .error 10
    else
      let m := mark (c :: t)
      if m = [] then .error 9 else .ok (4, m, 0, m.length)

/-- The tokens of a text of which no blank nor remark stands first; or the fault, and how many bytes are left there. -/
def toks : Nat → List UInt8 → Except (Int × Nat) (List Tk)
  | 0, _ => .ok []
  | f + 1, l =>
    match l with
    | [] => .ok []
    | c :: t =>
      match one (c :: t) with
      | .error e => .error (e, (c :: t).length)
      | .ok (k, x, n, m) =>
        match toks f (skp false ((c :: t).drop m)) with
        | .error e => .error e
        | .ok ts => .ok (⟨k, x, n, (c :: t).length⟩ :: ts)
def scan (l : List UInt8) : Except (Int × Nat) (List Tk) := toks (l.length + 1) (skp false l)

theorem skp_len : ∀ (l : List UInt8) (b : Bool), (skp b l).length ≤ l.length
  | [], b => by cases b <;> simp [skp]
  | c :: t, b => by
    have h0 := skp_len t false
    have h1 := skp_len t true
    cases b <;> simp only [skp] <;> (repeat' split) <;> simp <;> omega
theorem takeWhile_len {α : Type} (p : α → Bool) (l : List α) : (l.takeWhile p).length ≤ l.length := by
  induction l with
  | nil => simp
  | cons a t ih => simp only [List.takeWhile_cons]; split <;> simp <;> omega
theorem unq_len : ∀ (l : List UInt8) (b : Bool) (x r : List UInt8), unq b l = some (x, r) → r.length < l.length
  | [], b, x, r, h => by cases b <;> simp [unq] at h
  | c :: t, true, x, r, h => by
    simp only [unq] at h
    split at h
    · cases h
    · simp only [Option.map_eq_some_iff, Prod.mk.injEq] at h
      obtain ⟨⟨y, s⟩, h1, h2, h3⟩ := h
      have := unq_len t false y s h1
      subst h3
      simp
      omega
  | c :: t, false, x, r, h => by
    simp only [unq] at h
    split at h
    · simp only [Option.some.injEq, Prod.mk.injEq] at h
      rw [← h.2]; simp
    · split at h
      · cases h
      · split at h
        · have := unq_len t true x r h
          simp; omega
        · simp only [Option.map_eq_some_iff, Prod.mk.injEq] at h
          obtain ⟨⟨y, s⟩, h1, h2, h3⟩ := h
          have := unq_len t false y s h1
          subst h3
          simp
          omega
theorem mark_len (l : List UInt8) : (mark l).length ≤ l.length := by
  unfold mark
  repeat' split
  all_goals simp
  all_goals omega
/-- A token has a byte at least, and no more than there are. -/
theorem one_len {l : List UInt8} {k : Int} {x : List UInt8} {n : Int} {m : Nat} (h : one l = .ok (k, x, n, m)) : 1 ≤ m ∧ m ≤ l.length := by
  unfold one at h
  split at h
  · cases h
  · rename_i c t
    split at h
    · rename_i hc
      have hw := takeWhile_len inn (c :: t)
      have hw1 : 1 ≤ ((c :: t).takeWhile inn).length := by
        have : inn c = true := by simp [inn, hc]
        simp [List.takeWhile_cons, this]
      simp only [] at h
      split at h
      · simp only [Except.ok.injEq, Prod.mk.injEq] at h
        omega
      · split at h
        · simp only [Except.ok.injEq, Prod.mk.injEq] at h
          omega
        · cases h
    · split at h
      · rename_i hc
        have hw := takeWhile_len di (c :: t)
        have hw1 : 1 ≤ ((c :: t).takeWhile di).length := by simp [List.takeWhile_cons, hc]
        simp only [] at h
        split at h
        · simp only [Except.ok.injEq, Prod.mk.injEq] at h
          omega
        · cases h
      · split at h
        · split at h
          · rename_i x' r hu
            have := unq_len t false x' r hu
            simp only [Except.ok.injEq, Prod.mk.injEq] at h
            simp at h ⊢
            omega
          · cases h
        · simp only [] at h
          split at h
          · cases h
          · rename_i hm
            have := mark_len (c :: t)
            simp only [Except.ok.injEq, Prod.mk.injEq] at h
            have : 1 ≤ (mark (c :: t)).length := by
              rcases hmm : mark (c :: t) with _ | ⟨a, b⟩
              · exact absurd hmm hm
              · simp
            omega
/-- More rounds than bytes tell nothing more. -/
theorem toks_fuel : ∀ (f g : Nat) (l : List UInt8), l.length < f → l.length < g → toks f l = toks g l
  | 0, _, _, h, _ => by omega
  | _, 0, _, _, h => by omega
  | f + 1, g + 1, [], _, _ => rfl
  | f + 1, g + 1, c :: t, hf, hg => by
    simp only [toks]
    split
    · rfl
    · rename_i k x n m h
      have := one_len h
      have hl := skp_len ((c :: t).drop m) false
      simp only [List.length_drop] at hl
      rw [toks_fuel f g (skp false ((c :: t).drop m)) (by simp at hl hf ⊢; omega) (by simp at hl hg ⊢; omega)]
end Go.Proofs.Ytmadbfahdnkecaa.Lex
