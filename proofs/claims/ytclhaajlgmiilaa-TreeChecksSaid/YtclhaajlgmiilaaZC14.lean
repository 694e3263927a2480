/- Walks over functions of the program, words for them, and what the functions come to; of each text only what this claim uses; no condition. -/
import Derived.Test.YtclhaajlgmiilaaZC0
import Derived.Test.YtclhaajlgmiilaaZC2
import Derived.Test.YtclhaajlgmiilaaZC3
import Derived.Test.YtclhaajlgmiilaaZC4
import Derived.Test.YtclhaajlgmiilaaZC6
import Derived.Test.YtclhaajlgmiilaaZC7
import Derived.Test.YtclhaajlgmiilaaZC8
import Derived.Test.YtclhaajlgmiilaaZC9
import Derived.Test.YtclhaajlgmiilaaZC10
import Derived.Laws.BytesArg
import Derived.IntWalk
import Derived.Laws.Shifts

section
set_option linter.unusedVariables false
set_option linter.unusedSimpArgs false
namespace Go.Proofs.Ytclhaajlgmiilaa.Lex
open Go

/-- A function of a number of rounds comes to a value, and stays there. -/
def EvTo {α : Type} (F : Nat → Option α) (v : α) : Prop := ∃ k, ∀ j, k ≤ j → F j = some v
theorem EvTo.now {α : Type} {v : α} : EvTo (fun _ => some v) v := ⟨0, fun _ _ => rfl⟩
theorem EvTo.of_eq {α : Type} {F : Nat → Option α} {v : α} (h : ∀ k, F k = some v) : EvTo F v := ⟨0, fun _ _ => h _⟩
theorem EvTo.congr {α : Type} {F G : Nat → Option α} {v : α} (h : ∀ k, F k = G k) (g : EvTo G v) : EvTo F v := by
  obtain ⟨k, hk⟩ := g
  exact ⟨k, fun j hj => (h j).trans (hk j hj)⟩
theorem EvTo.step {α : Type} {F G : Nat → Option α} {v : α} (h : ∀ k, F (k + 1) = G k) (g : EvTo G v) : EvTo F v := by
  obtain ⟨k, hk⟩ := g
  refine ⟨k + 1, fun j hj => ?_⟩
  obtain ⟨i, rfl⟩ : ∃ i, j = i + 1 := ⟨j - 1, by omega⟩
  rw [h]
  exact hk i (by omega)
theorem EvTo.bind {α β : Type} {F : Nat → Option α} {G : Nat → α → Option β} {v : α} {u : β} (f : EvTo F v) (g : EvTo (fun k => G k v) u) : EvTo (fun k => (F k).bind (G k)) u := by
  obtain ⟨k1, h1⟩ := f
  obtain ⟨k2, h2⟩ := g
  refine ⟨k1 + k2, fun j hj => ?_⟩
  show (F j).bind (G j) = some u
  rw [h1 j (by omega)]
  exact h2 j (by omega)
theorem EvTo.pos {α : Type} {F G : Nat → Option α} {v : α} {c : Prop} [Decidable c] (h : c) (f : EvTo F v) : EvTo (fun k => if c then F k else G k) v := EvTo.congr (fun k => if_pos h) f
theorem EvTo.neg {α : Type} {F G : Nat → Option α} {v : α} {c : Prop} [Decidable c] (h : ¬c) (g : EvTo G v) : EvTo (fun k => if c then F k else G k) v := EvTo.congr (fun k => if_neg h) g
theorem EvTo.one {α : Type} {F : Nat → Option α} {v : α} (h : EvTo F v) : ∃ k, F k = some v := by
  obtain ⟨k, hk⟩ := h
  exact ⟨k, hk k (Nat.le_refl k)⟩
theorem EvTo.of_one {α : Type} {F : Nat → Option α} {v : α} (m : ∀ k r, F k = some r → F (k + 1) = some r) (k : Nat) (h : F k = some v) : EvTo F v := by
  refine ⟨k, fun j hj => ?_⟩
  induction hj with
  | refl => exact h
  | step _ ih => exact m _ _ ih

/-! The kinds of bytes. -/
def le (c : UInt8) : Bool := decide (97 ≤ c.toNat ∧ c.toNat ≤ 122)
def di (c : UInt8) : Bool := decide (48 ≤ c.toNat ∧ c.toNat ≤ 57)
def inn (c : UInt8) : Bool := le c || di c || c == 95

def KEYS : List (List UInt8) := [[109, 111, 100, 117, 108, 101], [117, 115, 101], [102, 110], [108, 101, 116], [105, 102], [101, 108, 115, 101], [119, 104, 105, 108, 101], [98, 114, 101, 97, 107], [99, 111, 110, 116, 105, 110, 117, 101], [114, 101, 116, 117, 114, 110], [112, 117, 116], [101, 109, 105, 116], [121, 105, 101, 108, 100], [110, 105, 108], [115, 116, 97, 116, 101], [115, 112, 97, 119, 110], [108, 101, 110], [110, 111, 116], [97, 110, 100], [111, 114]]
def isKey (s : List UInt8) : Bool := KEYS.contains s
/-- A word: a letter, and then letters, digits and lines. -/
def isWord : List UInt8 → Bool
  | [] => false
  | c :: t => le c && (c :: t).all inn
def isName (s : List UInt8) : Bool := isWord s && decide (s.length ≤ 16) && !isKey s

/-- What a mask makes of a byte. -/
def esc (c : UInt8) : Option UInt8 := if c = 110 then some 10 else if c = 34 then some 34 else if c = 92 then some 92 else none
/-- What a quoted text says, behind its first sign, and what is left behind it; is the next byte masked? -/
def unq : Bool → List UInt8 → Option (List UInt8 × List UInt8)
  | _, [] => none
  | true, c :: t => match esc c with
    | none => none
    | some x => (unq false t).map fun r => (x :: r.1, r.2)
  | false, c :: t => if c = 34 then some ([], t) else if c = 10 then none else if c = 92 then unq true t else (unq false t).map fun r => (c :: r.1, r.2)

def nstep (n : Int) (c : UInt8) : Int := IntKind.u64.wrap (IntKind.u64.wrap (10 * n) + (((c.toNat : Int) - 48) % 256))
def num (s : List UInt8) : Int := s.foldl nstep 0
def long (s : List UInt8) : Bool := decide (19 < s.length) || (decide (1 < s.length) && s.head? == some 48)
/-- Digits' number, and whether it is one. -/
def numOf (s : List UInt8) : Int × Bool := if long s then (0, false) else (RowKit.wrap64 (num s), decide (num s < 9223372036854775808))

def PAIRS : List (List UInt8) := [[61, 61], [33, 61], [60, 61], [46, 46]]
def SINGLES : List UInt8 := [40, 41, 123, 125, 91, 93, 44, 59, 46, 47, 61, 60, 43, 45, 42, 37]
/-- The mark with which a text begins. -/
def mark (l : List UInt8) : List UInt8 := if PAIRS.contains (l.take 2) then l.take 2 else if (match l with | [] => false | c :: _ => SINGLES.contains c) then l.take 1 else []

/-- The token with which a text begins (kind, text, number) and how many bytes it has; or the fault. -/
def one (l : List UInt8) : Except Int (Int × List UInt8 × Int × Nat) :=
  match l with
  | [] => .error 0
  | c :: t =>
    if le c then
      let w := (c :: t).takeWhile inn
      if isKey w then .ok (5, w, 0, w.length) else if w.length ≤ 16 then .ok (1, w, 0, w.length) else .error 10
    else if di c then
      let d := (c :: t).takeWhile di
      if (numOf d).2 then .ok (2, d, (numOf d).1, d.length) else .error 10
    else if c = 34 then
      match unq false t with
      | some (x, r) => .ok (3, x, 0, (c :: t).length - r.length)
      | none => .error 10
    else
      let m := mark (c :: t)
      if m = [] then .error 9 else .ok (4, m, 0, m.length)

end Go.Proofs.Ytclhaajlgmiilaa.Lex
end
section
set_option linter.unusedVariables false
set_option linter.unusedSimpArgs false
namespace Go.Proofs.Ytclhaajlgmiilaa.Tree
open Go Go.RowKit Go.Proofs.YtclhaajlgmiilaaW.PrintWords Go.Proofs.Ytclhaajlgmiilaa.Q Go.Proofs.Ytclhaajlgmiilaa.Lex

theorem known_E : EvTo (fun k => chrysalislaw09_known.f k) true := EvTo.of_one (fun k r h => chrysalislaw09_known.mono k r h) 120 chrysalislaw09_known.at
theorem known_B : EvTo (fun k => (chrysalislaw09_known.f k).bind fun t => some t) true := EvTo.bind known_E EvTo.now
theorem inc (i : Nat) (h : i + 1 ≤ 9223372036854775807) : wrap64 ((i : Int) + 1) = ((i + 1 : Nat) : Int) := by unfold wrap64; omega
theorem rd36 (l : List S36) (i : Nat) (h : i < l.length) : rd_T36 l (i : Int) = l[i] := by
  simp [rd_T36, List.getD_eq_getElem?_getD, List.getElem?_eq_getElem h]

/-- Nodes are light: few, their names and texts short. -/
def light (l : List S36) : Prop := l.length ≤ 2100 ∧ ∀ x ∈ l, x.f2.size ≤ 2000 ∧ x.f4.size ≤ 2000
theorem Light_l (l : List S36) (hl : l.length ≤ 2100) : ∀ (m i : Nat), l.length = m + i →
    ∃ b, EvTo (fun k => chrysalisref09_Light.l0 k l (i : Int)) b ∧ (b = true → ∀ j, i ≤ j → ∀ h : j < l.length, l[j].f2.size ≤ 2000 ∧ l[j].f4.size ≤ 2000) := by
  intro m
  induction m with
  | zero =>
    intro i h1
    refine ⟨true, EvTo.step (fun k => by rw [chrysalisref09_Light.l0]) (EvTo.neg (by omega) EvTo.now), fun _ j h2 h3 => by omega⟩
  | succ m ih =>
    intro i h1
    have hi : i < l.length := by omega
    by_cases c1 : (l[i].f2.size : Int) > 2000
    · refine ⟨false, EvTo.step (fun k => by rw [chrysalisref09_Light.l0]) (EvTo.pos (by omega) (EvTo.pos (by omega) ?_)), fun h => by cases h⟩
      rw [rd36 l i hi]
      exact EvTo.pos c1 EvTo.now
    by_cases c2 : (l[i].f4.size : Int) > 2000
    · refine ⟨false, EvTo.step (fun k => by rw [chrysalisref09_Light.l0]) (EvTo.pos (by omega) (EvTo.pos (by omega) ?_)), fun h => by cases h⟩
      rw [rd36 l i hi]
      exact EvTo.neg c1 (EvTo.pos c2 EvTo.now)
    obtain ⟨b, hb, hp⟩ := ih (i + 1) (by omega)
    refine ⟨b, EvTo.step (fun k => by rw [chrysalisref09_Light.l0]) (EvTo.pos (by omega) (EvTo.pos (by omega) ?_)), fun h j h2 h3 => ?_⟩
    · rw [rd36 l i hi, inc i (by omega)]
      exact EvTo.neg c1 (EvTo.neg c2 hb)
    · rcases Nat.eq_or_lt_of_le h2 with rfl | h2
      · exact ⟨by omega, by omega⟩
      · exact hp h j h2 h3
theorem Light_E (l : List S36) : ∃ b, EvTo (fun k => chrysalisref09_Light.f k l) b ∧ (b = true → light l) := by
  unfold chrysalisref09_Light.f
  by_cases c : (l.length : Int) > 2100
  · exact ⟨false, EvTo.pos c EvTo.now, fun h => by cases h⟩
  obtain ⟨b, hb, hp⟩ := Light_l l (by omega) l.length 0 (by omega)
  refine ⟨b, EvTo.neg c hb, fun h => ⟨by omega, fun x hx => ?_⟩⟩
  obtain ⟨j, hj, rfl⟩ := List.getElem_of_mem hx
  exact hp h j (Nat.zero_le _) hj

end Go.Proofs.Ytclhaajlgmiilaa.Tree
end
section
set_option linter.unusedVariables false
set_option linter.unusedSimpArgs false
namespace Go.Proofs.Ytclhaajlgmiilaa.Tree
open Go Go.RowKit Go.Proofs.YtclhaajlgmiilaaW.PrintWords Go.Proofs.Ytclhaajlgmiilaa.Q Go.Proofs.Ytclhaajlgmiilaa.Lex

/-- How many nodes stand there till so many trees are whole; each node's kids are at most so many. -/
def endF (n : Nat) : List S36 → Nat → Option Nat
  | [], _ => none
  | x :: t, w => if x.f1 < 0 ∨ (n : Int) < x.f1 then none else if w - 1 + x.f1.toNat = 0 then some 1 else (endF n t (w - 1 + x.f1.toNat)).map (· + 1)
def endV (i : Nat) : Option Nat → Int
  | none => -1
  | some m => ((i + m : Nat) : Int)
def endI (l : List S36) (i : Int) : Int := if i < 0 then -1 else endV i.toNat (endF l.length (l.drop i.toNat) 1)
theorem endV_map (i : Nat) (o : Option Nat) : endV i (o.map (· + 1)) = endV (i + 1) o := by
  cases o with
  | none => rfl
  | some m => simp only [Option.map_some, endV]; omega
theorem w64 {n : Int} (h : -9223372036854775808 ≤ n) (h2 : n ≤ 9223372036854775807) : wrap64 n = n := by unfold wrap64; omega
theorem End_l (l : List S36) (hl : l.length ≤ 2100) : ∀ (m i w : Nat), l.length = m + i → 1 ≤ w → w ≤ 1 + i * 2100 →
    EvTo (fun k => tree_End.l0 k l (i : Int) (w : Int)) (endV i (endF l.length (l.drop i) w)) := by
  intro m
  induction m with
  | zero =>
    intro i w h1 h2 h3
    rw [List.drop_eq_nil_of_le (by omega)]
    refine EvTo.step (fun k => by rw [tree_End.l0]) ?_
    exact EvTo.neg (by omega) EvTo.now
  | succ m ih =>
    intro i w h1 h2 h3
    have hi : i < l.length := by omega
    rw [List.drop_eq_getElem_cons hi]
    refine EvTo.step (fun k => by rw [tree_End.l0]) ?_
    refine EvTo.pos (by omega) (EvTo.pos (by omega) ?_)
    rw [rd36 l i hi]
    simp only [endF]
    by_cases c1 : l[i].f1 < 0
    · rw [if_pos (.inl c1)]
      refine EvTo.pos c1 ?_
      refine EvTo.step (fun k => by rw [tree_End.j1]) ?_
      exact EvTo.pos rfl EvTo.now
    refine EvTo.neg c1 ?_
    refine EvTo.step (fun k => by rw [tree_End.j1]) ?_
    by_cases c2 : (l.length : Int) < l[i].f1
    · rw [if_pos (.inr c2)]
      exact EvTo.pos (decide_eq_true c2) EvTo.now
    refine EvTo.neg (by simpa using c2) ?_
    rw [if_neg (by omega)]
    have e2 : wrap64 ((w : Int) + wrap64 (l[i].f1 - 1)) = ((w - 1 + l[i].f1.toNat : Nat) : Int) := by
      rw [w64 (n := l[i].f1 - 1) (by omega) (by omega), w64 (by omega) (by omega)]
      omega
    rw [e2, inc i (by omega)]
    by_cases c3 : w - 1 + l[i].f1.toNat = 0
    · rw [if_pos c3]
      refine EvTo.pos (by omega) (EvTo.of_eq fun k => ?_)
      simp only [endV]
    · rw [if_neg c3, endV_map]
      refine EvTo.neg (by omega) ?_
      exact ih (i + 1) _ (by omega) (by omega) (by omega)
theorem End_E (l : List S36) (hl : l.length ≤ 2100) (i : Int) : EvTo (fun k => tree_End.f k l i) (endI l i) := by
  unfold tree_End.f endI
  by_cases c : i < 0
  · rw [if_pos c]; exact EvTo.pos c EvTo.now
  rw [if_neg c]
  refine EvTo.neg c ?_
  by_cases c2 : i.toNat ≤ l.length
  · have h := End_l l hl (l.length - i.toNat) i.toNat 1 (by omega) (by omega) (by omega)
    rw [show ((i.toNat : Nat) : Int) = i by omega] at h
    exact h
  · rw [List.drop_eq_nil_of_le (by omega)]
    refine EvTo.step (fun k => by rw [tree_End.l0]) ?_
    exact EvTo.neg (by omega) EvTo.now

/-! What an end says. -/
theorem endF_le (n : Nat) : ∀ (t : List S36) (w m : Nat), endF n t w = some m → 1 ≤ m ∧ m ≤ t.length := by
  intro t
  induction t with
  | nil => intro w m h; cases h
  | cons x t ih =>
    intro w m h
    simp only [endF] at h
    split at h
    · cases h
    · split at h
      · cases h; simp
      · obtain ⟨q, hq, rfl⟩ := Option.map_eq_some_iff.1 h
        have := ih _ _ hq
        simp; omega
/-- Fewer trees are whole no later. -/
theorem endF_less (n : Nat) : ∀ (t : List S36) (w w' m : Nat), endF n t w = some m → 1 ≤ w' → w' ≤ w → ∃ m', m' ≤ m ∧ endF n t w' = some m' := by
  intro t
  induction t with
  | nil => intro w w' m h; cases h
  | cons x t ih =>
    intro w w' m h h1 h2
    simp only [endF] at h ⊢
    split at h
    · cases h
    · rename_i hc
      rw [if_neg hc]
      split at h
      · cases h
        exact ⟨1, Nat.le_refl _, by rw [if_pos (by omega)]⟩
      · obtain ⟨q, hq, rfl⟩ := Option.map_eq_some_iff.1 h
        by_cases c : w' - 1 + x.f1.toNat = 0
        · exact ⟨1, by omega, by rw [if_pos c]⟩
        · obtain ⟨m', hm, he⟩ := ih _ (w' - 1 + x.f1.toNat) _ hq (by omega) (by omega)
          exact ⟨m' + 1, by omega, by rw [if_neg c, he]; rfl⟩
/-- Each node within begins a tree that is whole. -/
theorem endF_in (n : Nat) : ∀ (t : List S36) (w m j : Nat), endF n t w = some m → 1 ≤ w → j < m → ∃ m', j + m' ≤ m ∧ endF n (t.drop j) 1 = some m' := by
  intro t
  induction t with
  | nil => intro w m j h; cases h
  | cons x t ih =>
    intro w m j h hw hj
    cases j with
    | zero =>
      obtain ⟨m', h1, h2⟩ := endF_less n _ w 1 m h (by omega) hw
      exact ⟨m', by omega, h2⟩
    | succ j =>
      simp only [endF] at h
      split at h
      · cases h
      · split at h
        · cases h; omega
        · obtain ⟨q, hq, rfl⟩ := Option.map_eq_some_iff.1 h
          obtain ⟨m', h1, h2⟩ := ih _ _ j hq (by omega) (by omega)
          exact ⟨m', by omega, by rw [List.drop_succ_cons]; exact h2⟩
/-- The kids of a tree's nodes are fewer than its nodes. -/
theorem endF_kids (n : Nat) : ∀ (t : List S36) (w m : Nat), endF n t w = some m → 1 ≤ w → ∀ x ∈ t.take m, 0 ≤ x.f1 ∧ (w : Int) + x.f1 ≤ m := by
  intro t
  induction t with
  | nil => intro w m h; cases h
  | cons x t ih =>
    intro w m h hw y hy
    have hlen : ∀ (t : List S36) (w m : Nat), endF n t w = some m → 1 ≤ w → w ≤ m := by
      intro t
      induction t with
      | nil => intro w m h; cases h
      | cons x t ih =>
        intro w m h hw
        simp only [endF] at h
        split at h
        · cases h
        · split at h
          · cases h; omega
          · obtain ⟨q, hq, rfl⟩ := Option.map_eq_some_iff.1 h
            have := ih _ _ hq (by omega)
            omega
    simp only [endF] at h
    split at h
    · cases h
    · rename_i hc
      split at h
      · cases h
        simp at hy
        subst hy
        omega
      · rename_i h0
        obtain ⟨q, hq, rfl⟩ := Option.map_eq_some_iff.1 h
        rw [List.take_succ_cons] at hy
        have h2 := hlen _ _ _ hq (by omega)
        rcases List.mem_cons.1 hy with rfl | hy
        · omega
        · have := ih _ _ hq (by omega) y hy
          omega
end Go.Proofs.Ytclhaajlgmiilaa.Tree
end
section
set_option linter.unusedVariables false
set_option linter.unusedSimpArgs false
namespace Go.Proofs.Ytclhaajlgmiilaa.Tree
open Go Go.RowKit Go.Proofs.YtclhaajlgmiilaaW.PrintWords Go.Proofs.Ytclhaajlgmiilaa.Q Go.Proofs.Ytclhaajlgmiilaa.Lex

/-- The nodes around, with the kids that are missing, the innermost first: those that miss none are left. -/
def close : List Nat → List Nat
  | [] => []
  | 0 :: st => close st
  | (n + 1) :: st => n :: st
/-- The deepest, over nodes, from nodes around on. -/
def depF : List S36 → List Nat → Nat → Nat
  | [], _, b => b
  | x :: t, st, b => depF t (close (x.f1.toNat :: st)) (max b (st.length + 1))
/-- Each node begins a tree that is whole. -/
def wholeB (l : List S36) : Nat → Bool
  | 0 => true
  | m + 1 => (endF l.length (l.drop (l.length - (m + 1))) 1).isSome && wholeB l m
def ints (st : List Nat) : List Int := (st.map Int.ofNat).reverse
theorem ints_len (st : List Nat) : (ints st).length = st.length := by simp [ints]
theorem ints_cons (n : Nat) (st : List Nat) : ints (n :: st) = ints st ++ [(n : Int)] := by simp [ints]
theorem close_len : ∀ st : List Nat, (close st).length ≤ st.length
  | [] => Nat.le_refl _
  | 0 :: st => by simp only [close]; have := close_len st; simp; omega
  | (n + 1) :: st => by simp [close]
theorem close_mem : ∀ (st : List Nat) (B : Nat), (∀ n ∈ st, n ≤ B) → ∀ n ∈ close st, n ≤ B
  | [], _, _, n, h => by cases h
  | 0 :: st, B, hB, n, h => close_mem st B (fun m hm => hB m (by simp [hm])) n (by simpa [close] using h)
  | (q + 1) :: st, B, hB, n, h => by
    rcases List.mem_cons.1 (show n ∈ q :: st from h) with rfl | h
    · have := hB (n + 1) (by simp); omega
    · exact hB n (by simp [h])
theorem Depth_in (l : List S36) (hl : l.length ≤ 2100) (b : Int) (i : Nat) (hi : i + 1 ≤ 5000) (v : Int) : ∀ st : List Nat, st ≠ [] → st.length ≤ 5000 → (∀ n ∈ st, n ≤ 2100) →
    EvTo (fun k => tree_Depth.l0 k l b (ints (close st)) l (l.length : Int) ((i + 1 : Nat) : Int)) v → EvTo (fun k => tree_Depth.l1 k l b (ints st) l (l.length : Int) (i : Int)) v := by
  intro st
  induction st with
  | nil => intro h; exact absurd rfl h
  | cons n st ih =>
    intro _ hs hB h
    simp only [List.length_cons] at hs
    have hlen : ((ints (n :: st)).length : Int) = (st.length : Int) + 1 := by rw [ints_len]; simp
    refine EvTo.step (fun k => by rw [tree_Depth.l1]) ?_
    rw [hlen, show wrap64 ((st.length : Int) + 1 - 1) = (st.length : Int) by unfold wrap64; omega, inc i (by omega)]
    refine EvTo.pos (by omega) (EvTo.pos (by omega) ?_)
    have hrd : rd (ints (n :: st)) (st.length : Int) = (n : Int) := by
      rw [ints_cons]
      simp [rd, List.getD_eq_getElem?_getD, List.getElem?_append_right, ints_len]
    rw [hrd, Int.toNat_natCast]
    cases n with
    | zero =>
      refine EvTo.neg (by simp) (EvTo.pos (by omega) ?_)
      have ht : (ints (0 :: st)).take st.length = ints st := by
        rw [ints_cons]
        exact List.take_left' (ints_len st)
      simp only [ht, Option.bind_some]
      simp only [close] at h
      cases st with
      | nil => exact EvTo.pos rfl h
      | cons m st => exact EvTo.neg (by simp; omega) (ih (by simp) (by omega) (fun q hq => hB q (by simp [hq])) h)
    | succ n =>
      have hn := hB (n + 1) (by simp)
      refine EvTo.pos (by omega) ?_
      have hset : (ints ((n + 1) :: st)).set st.length (wrap64 (((n + 1 : Nat) : Int) - 1)) = ints (n :: st) := by
        rw [show wrap64 (((n + 1 : Nat) : Int) - 1) = (n : Int) by unfold wrap64; omega, ints_cons, ints_cons, List.set_append]
        simp [ints_len]
      rw [hset]
      exact h
theorem Depth_l (l : List S36) (hl : l.length ≤ 2100) : ∀ (m i : Nat) (st : List Nat) (b : Nat), l.length = m + i → st.length ≤ i → b ≤ i → (∀ n ∈ st, n ≤ 2100) →
    EvTo (fun k => tree_Depth.l0 k l (b : Int) (ints st) l (l.length : Int) (i : Int)) (if wholeB l m then (depF (l.drop i) st b : Int) else -1) := by
  intro m
  induction m with
  | zero =>
    intro i st b h1 h2 h3 h4
    rw [List.drop_eq_nil_of_le (by omega)]
    refine EvTo.step (fun k => by rw [tree_Depth.l0]) ?_
    exact EvTo.neg (by omega) EvTo.now
  | succ m ih =>
    intro i st b h1 h2 h3 h4
    have hi : i < l.length := by omega
    refine EvTo.step (fun k => by rw [tree_Depth.l0]) ?_
    refine EvTo.pos (by omega) (EvTo.pos (by omega) (EvTo.pos (by omega) ?_))
    refine EvTo.bind (End_E l hl (i : Int)) ?_
    have he : endI l (i : Int) = endV i (endF l.length (l.drop i) 1) := by
      unfold endI
      rw [if_neg (by omega), Int.toNat_natCast]
    rw [he]
    simp only [wholeB, show l.length - (m + 1) = i by omega]
    cases hF : endF l.length (l.drop i) 1 with
    | none => exact EvTo.pos (by simp [endV]) EvTo.now
    | some q =>
      refine EvTo.neg (by simp only [endV]; omega) (EvTo.pos (by rw [ints_len]; omega) ?_)
      rw [rd36 l i hi]
      have hk : 0 ≤ l[i].f1 ∧ l[i].f1 ≤ 2100 := by
        rw [List.drop_eq_getElem_cons hi] at hF
        simp only [endF] at hF
        split at hF
        · cases hF
        · omega
      have hpush : ints st ++ [l[i].f1] = ints (l[i].f1.toNat :: st) := by
        rw [ints_cons, Int.toNat_of_nonneg hk.1]
      simp only [hpush, Option.bind_some, Option.isSome_some, Bool.true_and]
      have hmx : mx (b : Int) ((ints (l[i].f1.toNat :: st)).length : Int) = ((max b (st.length + 1) : Nat) : Int) := by
        rw [ints_len]; unfold mx; simp only [List.length_cons]; split <;> omega
      rw [hmx]
      have hm : ∀ n ∈ l[i].f1.toNat :: st, n ≤ 2100 := by
        intro n hn
        rcases List.mem_cons.1 hn with rfl | hn
        · omega
        · exact h4 n hn
      refine Depth_in l hl _ i (by omega) _ _ (by simp) (by simp; omega) hm ?_
      rw [List.drop_eq_getElem_cons hi]
      have hcl := close_len (l[i].f1.toNat :: st)
      exact ih (i + 1) _ _ (by omega) (by simp only [List.length_cons] at hcl; omega) (by omega) (close_mem _ 2100 hm)
theorem Depth_E (l : List S36) (hl : l.length ≤ 2100) : EvTo (fun k => tree_Depth.f k l) (if wholeB l l.length then (depF l [] 0 : Int) else -1) := by
  have h := Depth_l l hl l.length 0 [] 0 (by omega) (by simp) (by omega) (by simp)
  exact h
theorem wholeB_of (l : List S36) (m : Nat) (hm : m ≤ l.length) (h : ∀ j, j < l.length → (endF l.length (l.drop j) 1).isSome = true) : wholeB l m = true := by
  induction m with
  | zero => rfl
  | succ m ih =>
    simp only [wholeB]
    rw [h _ (by omega), ih (by omega)]; rfl
end Go.Proofs.Ytclhaajlgmiilaa.Tree
end
section
set_option linter.unusedVariables false
set_option linter.unusedSimpArgs false
namespace Go.Proofs.Ytclhaajlgmiilaa.Tree
open Go Go.RowKit Go.Proofs.YtclhaajlgmiilaaW.PrintWords Go.Proofs.Ytclhaajlgmiilaa.Q Go.Proofs.Ytclhaajlgmiilaa.Lex

/-- An end that is there. -/
theorem endI_some {l : List S36} {i : Int} (h : ¬ endI l i < 0) : ∃ j m : Nat, i = j ∧ endF l.length (l.drop j) 1 = some m ∧ endI l i = ((j + m : Nat) : Int) ∧ 1 ≤ m ∧ j + m ≤ l.length := by
  have hi : ¬ i < 0 := by
    intro c
    unfold endI at h
    rw [if_pos c] at h
    omega
  unfold endI at h ⊢
  rw [if_neg hi] at h
  refine ⟨i.toNat, ?_⟩
  cases he : endF l.length (l.drop i.toNat) 1 with
  | none => rw [he] at h; simp [endV] at h
  | some m =>
    obtain ⟨h1, h2⟩ := endF_le _ _ _ _ he
    rw [List.length_drop] at h2
    refine ⟨m, by omega, rfl, ?_, h1, by omega⟩
    rw [if_neg hi]
    rfl
end Go.Proofs.Ytclhaajlgmiilaa.Tree
end
section
set_option linter.unusedVariables false
set_option linter.unusedSimpArgs false
namespace Go.Proofs.Ytclhaajlgmiilaa.Tree
open Go Go.RowKit Go.Proofs.YtclhaajlgmiilaaW.PrintWords Go.Proofs.Ytclhaajlgmiilaa.Q Go.Proofs.Ytclhaajlgmiilaa.Lex

/-- So many trees, one behind the other, the deepest of them so deep. -/
inductive Fo : List S36 → Nat → Nat → Prop
  | nil : Fo [] 0 0
  | cons (x : S36) (t v : List S36) (w D1 D2 : Nat) (hx : 0 ≤ x.f1) (ht : Fo t x.f1.toNat D1) (hv : Fo v w D2) : Fo (x :: (t ++ v)) (w + 1) (max (1 + D1) D2)
theorem Fo.none {u : List S36} {D : Nat} (h : Fo u 0 D) : u = [] ∧ D = 0 := by
  cases h; exact ⟨rfl, rfl⟩
theorem Fo.split : ∀ (a b : Nat) (u : List S36) (D : Nat), Fo u (a + b) D → ∃ u1 u2 D1 D2, u = u1 ++ u2 ∧ Fo u1 a D1 ∧ Fo u2 b D2 ∧ D = max D1 D2 := by
  intro a
  induction a with
  | zero =>
    intro b u D h
    rw [Nat.zero_add] at h
    exact ⟨[], u, 0, D, rfl, Fo.nil, h, by omega⟩
  | succ a ih =>
    intro b u D h
    generalize hn : a + 1 + b = n at h
    cases h with
    | nil => omega
    | cons x t v w D1 D2 hx ht hv =>
      obtain rfl : w = a + b := by omega
      obtain ⟨v1, v2, E1, E2, rfl, h1, h2, rfl⟩ := ih b v D2 hv
      refine ⟨x :: (t ++ v1), v2, max (1 + D1) E1, E2, by simp, Fo.cons x t v1 a D1 E1 hx ht h1, h2, by omega⟩
/-- What is whole is so many trees. -/
theorem Fo.of_end (n : Nat) : ∀ (t : List S36) (w m : Nat), endF n t w = some m → 1 ≤ w → ∃ D, Fo (t.take m) w D := by
  intro t
  induction t with
  | nil => intro w m h; cases h
  | cons x t ih =>
    intro w m h hw
    simp only [endF] at h
    split at h
    · cases h
    · rename_i hc
      have hx : 0 ≤ x.f1 := by omega
      split at h
      · rename_i h0
        cases h
        obtain rfl : w = 1 := by omega
        have hk : x.f1.toNat = 0 := by omega
        exact ⟨_, Fo.cons x [] [] 0 0 0 hx (by rw [hk]; exact Fo.nil) Fo.nil⟩
      · obtain ⟨q, hq, rfl⟩ := Option.map_eq_some_iff.1 h
        obtain ⟨D, hD⟩ := ih _ _ hq (by omega)
        rw [Nat.add_comm] at hD
        obtain ⟨u1, u2, D1, D2, e, h1, h2, rfl⟩ := Fo.split _ _ _ _ hD
        rw [List.take_succ_cons, e]
        obtain ⟨w, rfl⟩ : ∃ v, w = v + 1 := ⟨w - 1, by omega⟩
        exact ⟨_, Fo.cons x u1 u2 w D1 D2 hx h1 h2⟩
/-- The end of so many trees, whatever stands behind. -/
theorem Fo.endF {n : Nat} {u : List S36} {w D : Nat} (h : Fo u w D) (hn : ∀ x ∈ u, ¬ ((n : Int) < x.f1)) : ∀ (rest : List S36) (c : Nat), 1 ≤ w + c →
    Tree.endF n (u ++ rest) (w + c) = if c = 0 then some u.length else (Tree.endF n rest c).map (· + u.length) := by
  induction h with
  | nil =>
    intro rest c hc
    rw [if_neg (by omega)]
    simp
  | cons x t v w D1 D2 hx ht hv ih1 ih2 =>
    intro rest c hc
    have hnx := hn x (by simp)
    simp only [List.cons_append, Tree.endF]
    rw [if_neg (by omega)]
    by_cases h0 : w + 1 + c - 1 + x.f1.toNat = 0
    · rw [if_pos h0]
      have hk : x.f1.toNat = 0 := by omega
      rw [hk] at ht
      obtain rfl : w = 0 := by omega
      rw [ht.none.1, hv.none.1, if_pos (by omega)]
      rfl
    · rw [if_neg h0, List.append_assoc, show w + 1 + c - 1 + x.f1.toNat = x.f1.toNat + (w + c) by omega,
        ih1 (fun y hy => hn y (by simp [hy])) (v ++ rest) (w + c) (by omega)]
      by_cases h1 : w + c = 0
      · rw [if_pos h1, if_pos (by omega)]
        obtain rfl : w = 0 := by omega
        rw [hv.none.1]; simp
      · rw [if_neg h1, ih2 (fun y hy => hn y (by simp [hy])) rest c (by omega)]
        by_cases h2 : c = 0
        · rw [if_pos h2, if_pos h2]
          simp; omega
        · rw [if_neg h2, if_neg h2, Option.map_map, Option.map_map]
          congr 1
          funext q
          simp; omega
/-- How deep: the nodes around count, too. -/
theorem Fo.depF {u : List S36} {w D : Nat} (h : Fo u w D) : ∀ (rest : List S36) (st : List Nat) (b : Nat), 1 ≤ w →
    Tree.depF (u ++ rest) ((w - 1) :: st) b = Tree.depF rest (close st) (max b (st.length + 1 + D)) := by
  induction h with
  | nil => intro rest st b hw; omega
  | cons x t v w D1 D2 hx ht hv ih1 ih2 =>
    intro rest st b _
    rw [Nat.add_sub_cancel]
    simp only [List.cons_append, List.append_assoc, Tree.depF, List.length_cons]
    have last : ∀ b', Tree.depF (v ++ rest) (close (w :: st)) b' = Tree.depF rest (close st) (max b' (if w = 0 then 0 else st.length + 1 + D2)) := by
      intro b'
      cases w with
      | zero => rw [hv.none.1]; simp [close]
      | succ w =>
        rw [if_neg (by omega)]
        exact ih2 rest st b' (by omega)
    cases hk : x.f1.toNat with
    | zero =>
      rw [hk] at ht
      rw [ht.none.1, ht.none.2]
      simp only [List.nil_append, close]
      rw [last]
      congr 1
      split
      · rename_i q; subst q; rw [hv.none.2]; omega
      · omega
    | succ k =>
      rw [hk] at ih1
      have h1 := ih1 (v ++ rest) (w :: st) (max b (st.length + 1 + 1)) (by omega)
      simp only [Nat.add_sub_cancel, List.length_cons] at h1
      simp only [close]
      rw [h1, last]
      congr 1
      split
      · rename_i q; subst q; rw [hv.none.2]; omega
      · omega
end Go.Proofs.Ytclhaajlgmiilaa.Tree
end
section
set_option linter.unusedVariables false
set_option linter.unusedSimpArgs false
namespace Go.Proofs.Ytclhaajlgmiilaa.Tree
open Go Go.RowKit Go.Proofs.YtclhaajlgmiilaaW.PrintWords Go.Proofs.Ytclhaajlgmiilaa.Q Go.Proofs.Ytclhaajlgmiilaa.Lex

theorem Fo.len {u : List S36} {w D : Nat} (h : Fo u w D) : w ≤ u.length := by
  induction h with
  | nil => exact Nat.le_refl _
  | cons x t v w D1 D2 hx ht hv ih1 ih2 => simp; omega
theorem Fo.one {s : List S36} {D : Nat} (h : Fo s 1 D) : ∃ x t D1, s = x :: t ∧ D = 1 + D1 ∧ 0 ≤ x.f1 ∧ Fo t x.f1.toNat D1 := by
  generalize hn : 1 = n at h
  cases h with
  | nil => omega
  | cons x t v w D1 D2 hx ht hv =>
    obtain rfl : w = 0 := by omega
    obtain ⟨rfl, rfl⟩ := hv.none
    exact ⟨x, t, D1, by simp, by omega, hx, ht⟩
/-- The places of so many trees, from one on. -/
def its (l : List S36) : Nat → Int → List Int
  | 0, _ => []
  | d + 1, p => p :: its l d (endI l p)
theorem Kids_its (l : List S36) (hl : l.length ≤ 2100) (i : Nat) (hi : i < l.length) (h0 : 0 ≤ l[i].f1) (h9 : l[i].f1 ≤ 2100) : ∀ (d : Nat) (acc : List Int) (at' : Int), l[i].f1.toNat = d + acc.length →
    EvTo (fun k => tree_Kids.l0 k l (i : Int) acc at') (acc ++ its l d at') := by
  intro d
  induction d with
  | zero =>
    intro acc at' h
    refine EvTo.step (fun k => by rw [tree_Kids.l0]) ?_
    refine EvTo.pos (by omega) (EvTo.pos (by omega) ?_)
    rw [rd36 l i hi, its, List.append_nil]
    exact EvTo.neg (by omega) EvTo.now
  | succ d ih =>
    intro acc at' h
    have h1 := ih (acc ++ [at']) (endI l at') (by simp; omega)
    rw [List.append_assoc] at h1
    refine EvTo.step (fun k => by rw [tree_Kids.l0]) ?_
    refine EvTo.pos (by omega) (EvTo.pos (by omega) ?_)
    rw [rd36 l i hi]
    exact EvTo.pos (by omega) (EvTo.pos (by omega) (EvTo.bind (End_E l hl at') h1))
theorem its_len (l : List S36) : ∀ (d : Nat) (p : Int), (its l d p).length = d
  | 0, _ => rfl
  | d + 1, p => by rw [its, List.length_cons, its_len]
/-- A tree that stands at a place: where it ends. -/
theorem endI_Fo {l rest : List S36} {x : S36} {t : List S36} {p D1 : Nat} (hx : 0 ≤ x.f1) (ht : Fo t x.f1.toNat D1) (hd : l.drop p = (x :: t) ++ rest) (hn : ∀ y ∈ x :: t, ¬ ((l.length : Int) < y.f1)) :
    endI l (p : Int) = ((p + (x :: t).length : Nat) : Int) := by
  have hone : Fo (x :: t) 1 (1 + D1) := by
    have := Fo.cons x t [] 0 D1 0 hx ht Fo.nil
    rw [List.append_nil] at this
    rwa [show max (1 + D1) 0 = 1 + D1 by omega] at this
  have hF : Tree.endF l.length (l.drop p) 1 = some (x :: t).length := by
    rw [hd]
    have := hone.endF (n := l.length) hn rest 0 (by omega)
    simpa using this
  unfold endI
  rw [if_neg (by omega), Int.toNat_natCast, hF]; rfl
/-- The places of so many trees lie where the trees do. -/
theorem its_in (l : List S36) : ∀ (w : Nat) (u rest : List S36) (D p : Nat), Fo u w D → l.drop p = u ++ rest → (∀ y ∈ u, ¬ ((l.length : Int) < y.f1)) → ∀ q ∈ its l w (p : Int), (p : Int) ≤ q ∧ q < ((p + u.length : Nat) : Int) := by
  intro w
  induction w with
  | zero => intro u rest D p h hd hn q hq; simp [its] at hq
  | succ w ih =>
    intro u rest D p h hd hn q hq
    generalize hw : w + 1 = w1 at h
    cases h with
    | nil => omega
    | cons x t v w' D1 D2 hx ht hv =>
      obtain rfl : w' = w := by omega
      have hd2 : l.drop p = (x :: t) ++ (v ++ rest) := by rw [hd]; simp
      have he := endI_Fo hx ht hd2 (fun y hy => hn y (by rcases List.mem_cons.1 hy with rfl | hy; simp; simp [hy]))
      rw [its, he] at hq
      rcases List.mem_cons.1 hq with rfl | hq
      · constructor
        · omega
        · simp only [List.length_cons, List.length_append]; omega
      · have := ih v rest D2 (p + (x :: t).length) hv (by rw [← List.drop_drop, hd2, List.drop_left']; rfl) (fun y hy => hn y (by simp [hy])) q hq
        simp only [List.length_cons, List.length_append] at this ⊢
        omega
/-- Of a whole tree: each node's kids come to their places, all of them within. -/
theorem Kids_whole {l : List S36} (hl : l.length ≤ 2100) (h : Tree.endF l.length l 1 = some l.length) (i : Nat) (hi : i < l.length) :
    EvTo (fun k => tree_Kids.f k l (i : Int)) (its l (rd_T36 l (i : Int)).f1.toNat ((i + 1 : Nat) : Int)) ∧ (its l (rd_T36 l (i : Int)).f1.toNat ((i + 1 : Nat) : Int)).length ≤ 2100 ∧
    ∀ q ∈ its l (rd_T36 l (i : Int)).f1.toNat ((i + 1 : Nat) : Int), (i : Int) < q ∧ q < (l.length : Int) := by
  obtain ⟨m, hm, hF⟩ := endF_in _ _ _ _ i h (Nat.le_refl 1) hi
  have hkk := endF_kids _ _ _ _ hF (Nat.le_refl 1)
  obtain ⟨h1, h2⟩ := endF_le _ _ _ _ hF
  have hin : l[i] ∈ (l.drop i).take m := by
    obtain ⟨q, rfl⟩ : ∃ q, m = q + 1 := ⟨m - 1, by omega⟩
    rw [List.drop_eq_getElem_cons hi, List.take_succ_cons]
    exact List.mem_cons_self
  have hk := hkk _ hin
  have he : endI l (i : Int) = ((i + m : Nat) : Int) := by
    unfold endI
    rw [if_neg (by omega), Int.toNat_natCast, hF]; rfl
  have hr := rd36 l i hi
  refine ⟨?_, by rw [its_len, hr]; omega, ?_⟩
  · rw [hr]
    unfold tree_Kids.f
    refine EvTo.bind (End_E l hl (i : Int)) ?_
    rw [inc i (by omega), he]
    refine EvTo.neg (by omega) ?_
    have := Kids_its l hl i hi hk.1 (by omega) l[i].f1.toNat [] ((i + 1 : Nat) : Int) (by simp)
    simpa using this
  · intro q hq
    obtain ⟨D, hD⟩ := Fo.of_end _ _ _ _ hF (Nat.le_refl 1)
    have hdrop0 : l.drop i = (l.drop i).take m ++ l.drop (i + m) := by rw [← List.drop_drop, List.take_append_drop]
    have hdrop : l[i] :: l.drop (i + 1) = (l.drop i).take m ++ l.drop (i + m) := (List.drop_eq_getElem_cons hi).symm.trans hdrop0
    clear hdrop0
    have hlen : ((l.drop i).take m).length = m := by rw [List.length_take, List.length_drop]; omega
    generalize (l.drop i).take m = s at *
    obtain ⟨x, t, D1, rfl, rfl, hx, ht⟩ := hD.one
    obtain ⟨hxl, hdr⟩ := List.cons.inj hdrop
    have htl : t.length + 1 = m := by simpa using hlen
    rw [hr, hxl] at hq
    have := its_in l x.f1.toNat t (l.drop (i + m)) D1 (i + 1) ht hdr (fun y hy => by have := hkk y (by simp [hy]); omega) q hq
    omega
end Go.Proofs.Ytclhaajlgmiilaa.Tree
end
section
set_option linter.unusedVariables false
set_option linter.unusedSimpArgs false
namespace Go.Proofs.Ytclhaajlgmiilaa.Lex
open Go Go.RowKit Go.Proofs.YtclhaajlgmiilaaW.PrintWords

/-- A string's bytes. -/
def L (s : ByteArray) : List UInt8 := s.data.toList
theorem L_toList (s : ByteArray) : s.toList = L s := ByteArray.toList_eq s
theorem L_size (s : ByteArray) : s.size = (L s).length := by cases s; rfl
theorem L_append (s t : ByteArray) : L (s ++ t) = L s ++ L t := by simp [L]
theorem L_extract (s : ByteArray) (a b : Nat) : L (s.extract a b) = ((L s).drop a).take (b - a) := by
  simp [L, List.extract_eq_take_drop]
/-- The string of these bytes. -/
def S (l : List UInt8) : ByteArray := ⟨l.toArray⟩
theorem bt_L (s : ByteArray) (i : Nat) : bt s (i : Int) = (((L s).getD i 0).toNat : Int) := by
  unfold bt
  simp only [Int.toNat_natCast]
  split
  · rename_i h
    have h2 : i < (L s).length := by rw [← L_size]; exact h
    rw [List.getD_eq_getElem?_getD, List.getElem?_eq_getElem h2]
    rfl
  · rename_i h
    have h2 : (L s).length ≤ i := by rw [← L_size]; omega
    rw [List.getD_eq_getElem?_getD, List.getElem?_eq_none h2]
    rfl
theorem byteAt_L (s : ByteArray) (i : Nat) : byteAt s i = ((L s).getD i 0).toNat := by
  have h := bt_L s i
  unfold bt at h
  unfold byteAt
  simp only [Int.toNat_natCast] at h
  split at h
  · rename_i c
    rw [dif_pos c]; omega
  · rename_i c
    rw [dif_neg c]; omega
theorem u8_iff (c d : UInt8) : ((c.toNat : Int) = (d.toNat : Int)) ↔ c = d := by
  rw [← UInt8.toNat_inj]; omega
theorem drop_getD (l : List UInt8) (i : Nat) (h : i < l.length) : l.drop i = l.getD i 0 :: l.drop (i + 1) := by
  rw [List.getD_eq_getElem?_getD, List.getElem?_eq_getElem h]
  exact List.drop_eq_getElem_cons h

/-! The kinds. -/
theorem letterP_le (c : UInt8) : letterP (c.toNat : Int) = le c := by
  unfold letterP le
  rw [Bool.eq_iff_iff]
  simp only [decide_eq_true_eq]
  omega
theorem digitP_di (c : UInt8) : digitP (c.toNat : Int) = di c := by
  unfold digitP di
  rw [Bool.eq_iff_iff]
  simp only [decide_eq_true_eq]
  omega
theorem innerP_inn (c : UInt8) : innerP (c.toNat : Int) = inn c := by
  rw [inner_eq, letterP_le, digitP_di]
  have e := u8_iff c 95
  simp only [UInt8.reduceToNat] at e
  unfold inn
  rw [show ((c.toNat : Int) == 95) = (c == 95) by rw [Bool.eq_iff_iff]; simp only [beq_iff_eq, ← e]; omega]
  rw [Bool.or_assoc]

theorem hd_L (p : Int → Bool) (q : UInt8 → Bool) (pq : ∀ c : UInt8, p (c.toNat : Int) = q c) (s : ByteArray) : ∀ f i, s.size ≤ i + f → i ≤ s.size → hd p s f i = i + (((L s).drop i).takeWhile q).length := by
  intro f
  induction f with
  | zero =>
    intro i h1 h2
    rw [L_size] at h1
    simp [hd, List.drop_eq_nil_of_le (show (L s).length ≤ i by omega)]
  | succ f ih =>
    intro i h1 h2
    unfold hd
    by_cases c : i < s.size
    · rw [if_pos c]
      rw [drop_getD (L s) i (by rw [← L_size]; exact c), List.takeWhile_cons, byteAt_L, pq]
      by_cases q1 : q ((L s).getD i 0) = true
      · rw [if_pos q1, if_pos q1, ih (i + 1) (by omega) (by omega)]
        simp; omega
      · rw [if_neg q1, if_neg q1]; rfl
    · rw [if_neg c, List.drop_eq_nil_of_le (by rw [← L_size]; omega)]; rfl
theorem headLen_L (p : Int → Bool) (q : UInt8 → Bool) (pq : ∀ c : UInt8, p (c.toNat : Int) = q c) (s : ByteArray) : headLen p s = ((L s).takeWhile q).length := by
  unfold headLen
  rw [hd_L p q pq s s.size 0 (by omega) (by omega)]
  simp
theorem take_takeWhile {α : Type} (q : α → Bool) (l : List α) : l.take (l.takeWhile q).length = l.takeWhile q := by
  induction l with
  | nil => rfl
  | cons a t ih =>
    rw [List.takeWhile_cons]
    split
    · simp [ih]
    · rfl
theorem headOf_L (p : Int → Bool) (q : UInt8 → Bool) (pq : ∀ c : UInt8, p (c.toNat : Int) = q c) (s : ByteArray) : L (headOf p s) = (L s).takeWhile q := by
  unfold headOf
  rw [L_extract, headLen_L p q pq]
  simp [take_takeWhile]
end Go.Proofs.Ytclhaajlgmiilaa.Lex
end
section
set_option linter.unusedVariables false
set_option linter.unusedSimpArgs false
namespace Go.Proofs.Ytclhaajlgmiilaa.Lex
open Go Go.RowKit Go.Proofs.YtclhaajlgmiilaaW.PrintWords Go.Proofs.Ytclhaajlgmiilaa.Q

theorem w64 (n : Int) (h : -9223372036854775808 ≤ n ∧ n ≤ 9223372036854775807) : wrap64 n = n := IntWalk.wrap64_in n h
theorem bt0 (s : ByteArray) (c : UInt8) (t : List UInt8) (h : L s = c :: t) : bt s 0 = (c.toNat : Int) := by
  have := bt_L s 0
  rw [h] at this
  simpa using this
theorem w32_bt (s : ByteArray) (i : Int) : wrap32 (bt s i) = bt s i := by
  have := bt_range s i
  exact IntWalk.wrap32_in _ (by omega)
theorem isE (s : ByteArray) : (s.toList = ([] : List UInt8)) ↔ L s = [] := by rw [L_toList]

theorem letter_f (c : UInt8) : lex_letter.f (c.toNat : Int) = some (le c) := by
  unfold lex_letter.f le
  by_cases h : (c.toNat : Int) ≥ 97
  · rw [if_pos h]
    congr 1
    rw [Bool.eq_iff_iff]
    simp only [decide_eq_true_eq]
    omega
  · rw [if_neg h]
    congr 1
    symm
    rw [decide_eq_false_iff_not]
    omega
theorem digit_f (c : UInt8) : lex_digit.f (c.toNat : Int) = some (di c) := by
  unfold lex_digit.f di
  by_cases h : (c.toNat : Int) ≥ 48
  · rw [if_pos h]
    congr 1
    rw [Bool.eq_iff_iff]
    simp only [decide_eq_true_eq]
    omega
  · rw [if_neg h]
    congr 1
    symm
    rw [decide_eq_false_iff_not]
    omega
theorem takeWhile_all {α : Type} (q : α → Bool) (l : List α) : ((l.takeWhile q).length = l.length) ↔ l.all q = true := by
  induction l with
  | nil => simp
  | cons a t ih =>
    rw [List.takeWhile_cons, List.all_cons]
    by_cases h : q a = true
    · rw [if_pos h]
      simp only [List.length_cons, h, Bool.true_and]
      rw [← ih]; omega
    · rw [if_neg h]
      simp [h]
theorem word_f (s : ByteArray) : lex_word.f s = some (isWord (L s)) := by
  unfold lex_word.f
  rcases hl : L s with _ | ⟨c, t⟩
  · rw [if_pos ((isE s).2 hl)]; rfl
  · rw [if_neg (by rw [isE, hl]; simp), if_pos (by rw [L_size, hl]; simp), w32_bt, bt0 s c t hl, letter_f]
    simp only [Option.bind_some]
    by_cases h : le c = true
    · rw [if_pos h]
      unfold headInner.f
      simp only [Option.bind_some]
      congr 1
      rw [isWord, h, Bool.true_and, ← hl, Bool.eq_iff_iff]
      rw [beq_iff_eq, L_size, L_size, headOf_L innerP inn innerP_inn, ← takeWhile_all]
      omega
    · rw [if_neg h]
      simp [isWord, h]

/-! within -/
theorem L_cut (a : ByteArray) (i n : Nat) : L (a.extract i (i + n)) = ((L a).drop i).take n := by
  rw [L_extract, Nat.add_sub_cancel_left]
/-- Does a list stand in another one, from a place on? -/
def inAt (b : List UInt8) : List UInt8 → Bool
  | [] => b.isPrefixOf []
  | c :: t => b.isPrefixOf (c :: t) || inAt b t
theorem prefix_take (b l : List UInt8) : b.isPrefixOf l = true ↔ (b.length ≤ l.length ∧ l.take b.length = b) := by
  rw [List.isPrefixOf_iff_prefix]
  constructor
  · rintro ⟨r, rfl⟩
    simp
  · rintro ⟨h1, h2⟩
    have h3 := List.take_append_drop b.length l
    rw [h2] at h3
    exact ⟨_, h3⟩
theorem inAt_short (b : List UInt8) : ∀ l : List UInt8, l.length < b.length → inAt b l = false
  | [], h => by
    cases b with
    | nil => simp at h
    | cons x y => rfl
  | c :: t, h => by
    simp only [inAt]
    rw [inAt_short b t (by simp at h; omega), Bool.or_false, Bool.eq_false_iff, ne_eq, prefix_take]
    omega
theorem within_l (a b : ByteArray) (hb : 1 ≤ b.size) (hs : a.size + b.size ≤ 4611686018427387904) : ∀ (m i : Nat), a.size ≤ m + i → i ≤ a.size + 1 → EvTo (fun k => lex_within.l0 k a b (i : Int)) (inAt (L b) ((L a).drop i)) := by
  intro m
  induction m with
  | zero =>
    intro i h1 h2
    refine EvTo.step (G := fun _ => some false) (fun k => ?_) (by
      rw [inAt_short _ _ (by rw [List.length_drop, ← L_size, ← L_size]; omega)]
      exact EvTo.now)
    simp only [lex_within.l0]
    rw [w64 _ (by omega), if_neg (by omega)]
  | succ m ih =>
    intro i h1 h2
    by_cases c : i + b.size ≤ a.size
    · by_cases e : ((L a).drop i).take b.size = L b
      · refine EvTo.step (G := fun _ => some true) (fun k => ?_) ?_
        · simp only [lex_within.l0]
          rw [w64 _ (by omega), if_pos (by omega), if_pos (by omega), if_pos (by omega)]
          have e1 : ((i : Int)).toNat = i := by omega
          have e2 : ((i : Int) + (b.size : Int)).toNat = i + b.size := by omega
          rw [e1, e2, L_toList, L_toList, L_cut, if_pos e]
        · have : inAt (L b) ((L a).drop i) = true := by
            rw [drop_getD (L a) i (by rw [← L_size]; omega)] at *
            simp only [inAt]
            rw [Bool.or_eq_true, prefix_take]
            refine Or.inl ⟨?_, ?_⟩
            · rw [← drop_getD (L a) i (by rw [← L_size]; omega), List.length_drop, ← L_size, ← L_size]; omega
            · rw [← L_size]; exact e
          rw [this]
          exact EvTo.now
      · refine EvTo.step (G := fun k => lex_within.l0 k a b ((i + 1 : Nat) : Int)) (fun k => ?_) ?_
        · simp only [lex_within.l0]
          rw [w64 _ (by omega), if_pos (by omega), if_pos (by omega), if_pos (by omega)]
          have e1 : ((i : Int)).toNat = i := by omega
          have e2 : ((i : Int) + (b.size : Int)).toNat = i + b.size := by omega
          rw [e1, e2, L_toList, L_toList, L_cut, if_neg e, w64 _ (by omega)]
          rfl
        · have : inAt (L b) ((L a).drop i) = inAt (L b) ((L a).drop (i + 1)) := by
            rw [drop_getD (L a) i (by rw [← L_size]; omega)]
            simp only [inAt]
            rw [← drop_getD (L a) i (by rw [← L_size]; omega)]
            have : List.isPrefixOf (L b) ((L a).drop i) = false := by
              rw [Bool.eq_false_iff, ne_eq, prefix_take]
              rintro ⟨_, q⟩
              rw [← L_size] at q
              exact e q
            rw [this, Bool.false_or]
          rw [this]
          exact ih (i + 1) (by omega) (by omega)
    · refine EvTo.step (G := fun _ => some false) (fun k => ?_) (by
        rw [inAt_short _ _ (by rw [List.length_drop, ← L_size, ← L_size]; omega)]
        exact EvTo.now)
      simp only [lex_within.l0]
      rw [w64 _ (by omega), if_neg (by omega)]
theorem within_f (a b : ByteArray) (hb : 1 ≤ b.size) (hs : a.size + b.size ≤ 4611686018427387904) : EvTo (fun k => lex_within.f k a b) (inAt (L b) (L a)) := by
  have := within_l a b hb hs a.size 0 (by omega) (by omega)
  simpa [lex_within.f] using this

/-! Key -/
def KT : List UInt8 := [32, 109, 111, 100, 117, 108, 101, 32, 117, 115, 101, 32, 102, 110, 32, 108, 101, 116, 32, 105, 102, 32, 101, 108, 115, 101, 32, 119, 104, 105, 108, 101, 32, 98, 114, 101, 97, 107, 32, 99, 111, 110, 116, 105, 110, 117, 101, 32, 114, 101, 116, 117, 114, 110, 32, 112, 117, 116, 32, 101, 109, 105, 116, 32, 121, 105, 101, 108, 100, 32, 110, 105, 108, 32, 115, 116, 97, 116, 101, 32, 115, 112, 97, 119, 110, 32, 108, 101, 110, 32, 110, 111, 116, 32, 97, 110, 100, 32, 111, 114, 32]
def KB : ByteArray := (⟨#[32, 109, 111, 100, 117, 108, 101, 32, 117, 115, 101, 32, 102, 110, 32, 108, 101, 116, 32, 105, 102, 32, 101, 108, 115, 101, 32, 119, 104, 105, 108, 101, 32, 98, 114, 101, 97, 107, 32, 99, 111, 110, 116, 105, 110, 117, 101, 32, 114, 101, 116, 117, 114, 110, 32, 112, 117, 116, 32, 101, 109, 105, 116, 32, 121, 105, 101, 108, 100, 32, 110, 105, 108, 32, 115, 116, 97, 116, 101, 32, 115, 112, 97, 119, 110, 32, 108, 101, 110, 32, 110, 111, 116, 32, 97, 110, 100, 32, 111, 114, 32]⟩ : ByteArray)
theorem KB_size : KB.size = 101 := rfl
def no32 (c : UInt8) : Bool := c != 32
/-- The words between blanks. -/
def wordsOf : List UInt8 → List (List UInt8)
  | [] => []
  | c :: t => if c == 32 && !(t.dropWhile no32).isEmpty then t.takeWhile no32 :: wordsOf t else wordsOf t
theorem words_KT : wordsOf KT = KEYS := by decide +kernel
theorem prefix_word : ∀ (s t : List UInt8), s.all no32 = true → (s ++ [32]).isPrefixOf t = (t.takeWhile no32 == s && !(t.dropWhile no32).isEmpty)
  | [], [], _ => rfl
  | [], c :: t, _ => by
    by_cases h : c = 32
    · subst h
      simp [List.takeWhile_cons, List.dropWhile_cons, no32, List.isPrefixOf]
    · have h2 : (32 == c) = false := beq_eq_false_iff_ne.2 (fun e => h e.symm)
      simp [List.takeWhile_cons, List.dropWhile_cons, no32, List.isPrefixOf, h, h2]
  | x :: s, [], _ => by simp [List.isPrefixOf]
  | x :: s, c :: t, hs => by
    simp only [List.all_cons, Bool.and_eq_true] at hs
    have ih := prefix_word s t hs.2
    rw [List.cons_append, List.isPrefixOf_cons_cons, ih]
    by_cases h : x = c
    · subst h
      rw [List.takeWhile_cons, List.dropWhile_cons, if_pos hs.1, if_pos hs.1]
      simp
    · have h2 : (x == c) = false := beq_eq_false_iff_ne.2 h
      rw [h2, Bool.false_and]
      symm
      rw [List.takeWhile_cons]
      split
      · have : (c :: t.takeWhile no32 == x :: s) = false := by
          apply beq_eq_false_iff_ne.2
          intro e
          exact h (List.cons.inj e).1.symm
        rw [this, Bool.false_and]
      · simp
theorem inAt_words (s : List UInt8) (hs : s.all no32 = true) : ∀ l : List UInt8, inAt (32 :: (s ++ [32])) l = (wordsOf l).contains s
  | [] => by simp [inAt, wordsOf, List.isPrefixOf]
  | c :: t => by
    rw [inAt, inAt_words s hs t, List.isPrefixOf_cons_cons, prefix_word s t hs, wordsOf]
    by_cases h : c = 32
    · subst h
      by_cases h2 : (t.dropWhile no32).isEmpty = true
      · simp [h2]
      · have h3 : (t.dropWhile no32).isEmpty = false := by simpa using h2
        rw [h3]
        simp only [Bool.not_false, Bool.and_true, beq_self_eq_true, Bool.true_and, if_true, List.contains_cons]
        rw [show (List.takeWhile no32 t == s) = (s == List.takeWhile no32 t) from Bool.eq_iff_iff.2 (by simp only [beq_iff_eq]; exact eq_comm)]
    · have h2 : (32 == c) = false := beq_eq_false_iff_ne.2 (fun e => h e.symm)
      have h3 : (c == 32) = false := beq_eq_false_iff_ne.2 h
      rw [h2, h3]
      simp
theorem word_no32 {s : List UInt8} (h : isWord s = true) : s.all no32 = true := by
  cases s with
  | nil => cases h
  | cons c t =>
    simp only [isWord, Bool.and_eq_true] at h
    rw [List.all_eq_true] at h ⊢
    intro x hx
    have h1 := h.2 x hx
    simp only [no32, bne_iff_ne, ne_eq]
    rintro rfl
    exact absurd h1 (by decide)
theorem key_word {s : List UInt8} (h : isKey s = true) : isWord s = true := by
  have : ∀ x ∈ KEYS, isWord x = true := by decide +kernel
  exact this s (List.contains_iff_mem.1 h)
theorem Key_f (s : ByteArray) (hs : s.size ≤ 140737488351232) : EvTo (fun k => lex_Key.f k s) (isKey (L s)) := by
  unfold lex_Key.f
  rw [word_f]
  simp only [Option.bind_some]
  by_cases h : isWord (L s) = true
  · rw [h]
    simp only [if_true]
    have e1 : ((⟨#[32]⟩ : ByteArray) ++ s).size = 1 + s.size := by rw [ByteArray.size_append]; rfl
    simp only [e1]
    refine EvTo.pos (by omega) (EvTo.pos (by omega) ?_)
    have h0 : ByteArray.size (⟨#[32]⟩ : ByteArray) = 1 := rfl
    have hw := within_f KB (((⟨#[32]⟩ : ByteArray) ++ s) ++ (⟨#[32]⟩ : ByteArray)) (by rw [ByteArray.size_append, e1]; omega) (by rw [ByteArray.size_append, e1, h0, KB_size]; omega)
    have e2 : L (((⟨#[32]⟩ : ByteArray) ++ s) ++ (⟨#[32]⟩ : ByteArray)) = 32 :: (L s ++ [32]) := by
      rw [L_append, L_append]; rfl
    rw [e2] at hw
    rw [show inAt (32 :: (L s ++ [32])) (L KB) = isKey (L s) from (inAt_words _ (word_no32 h) KT).trans (by rw [words_KT]; rfl)] at hw
    exact EvTo.bind (G := fun _ t => some t) hw EvTo.now
  · have h2 : isWord (L s) = false := by simpa using h
    have h3 : isKey (L s) = false := by
      rw [Bool.eq_false_iff]
      intro e
      exact h (key_word e)
    rw [h2, h3]
    simp only [Bool.false_eq_true, if_false]
    exact EvTo.now
theorem Name_f (s : ByteArray) (hs : s.size ≤ 140737488351232) : EvTo (fun k => lex_Name.f k s) (isName (L s)) := by
  unfold lex_Name.f
  rw [word_f]
  simp only [Option.bind_some]
  by_cases h : isWord (L s) = true
  · rw [h]
    simp only [if_true]
    by_cases h2 : (s.size : Int) ≤ 16
    · refine EvTo.pos h2 ?_
      have e : isName (L s) = !isKey (L s) := by
        unfold isName
        rw [h, show decide ((L s).length ≤ 16) = true from decide_eq_true (by rw [← L_size]; omega)]
        rfl
      rw [e]
      exact EvTo.bind (G := fun _ t => some (!t)) (Key_f s hs) EvTo.now
    · refine EvTo.neg h2 ?_
      have e : isName (L s) = false := by
        unfold isName
        rw [show decide ((L s).length ≤ 16) = false from decide_eq_false (by rw [← L_size]; omega)]
        simp
      rw [e]
      exact EvTo.now
  · have h2 : isWord (L s) = false := by simpa using h
    rw [h2]
    simp only [Bool.false_eq_true, if_false]
    have e : isName (L s) = false := by
      unfold isName
      rw [h2]; rfl
    rw [e]
    exact EvTo.now
end Go.Proofs.Ytclhaajlgmiilaa.Lex
end
section
set_option linter.unusedVariables false
set_option linter.unusedSimpArgs false
namespace Go.Proofs.Ytclhaajlgmiilaa.Tree
open Go Go.RowKit Go.Proofs.YtclhaajlgmiilaaW.PrintWords Go.Proofs.Ytclhaajlgmiilaa.Q Go.Proofs.Ytclhaajlgmiilaa.Lex

theorem EvTo.both {α : Type} {F G : Nat → Option α} {v u : α} {c : Prop} [Decidable c] (f : c → EvTo F v) (g : ¬c → EvTo G u) : EvTo (fun k => if c then F k else G k) (if c then v else u) := by
  by_cases h : c
  · rw [if_pos h]; exact EvTo.pos h (f h)
  · rw [if_neg h]; exact EvTo.neg h (g h)
def OPS : List (List UInt8) := [[43], [45], [42], [47], [37], [46, 46], [61, 61], [33, 61], [60], [60, 61], [97, 110, 100], [111, 114]]
def UNS : List (List UInt8) := [[45], [110, 111, 116], [108, 101, 110]]
def OB : ByteArray := (⟨#[32, 43, 32, 45, 32, 42, 32, 47, 32, 37, 32, 46, 46, 32, 61, 61, 32, 33, 61, 32, 60, 32, 60, 61, 32, 97, 110, 100, 32, 111, 114, 32]⟩ : ByteArray)
def UB : ByteArray := (⟨#[32, 45, 32, 110, 111, 116, 32, 108, 101, 110, 32]⟩ : ByteArray)
theorem words_OB : wordsOf (L OB) = OPS := by decide +kernel
theorem words_UB : wordsOf (L UB) = UNS := by decide +kernel
theorem among_l1 (w s : ByteArray) (hs : s.size ≤ 2000) (hw : w.size ≤ 1000) (hne : ¬ s.toList = ([] : List UInt8)) : ∀ (m i : Nat), w.size ≤ m + i → i ≤ w.size + 1 →
    EvTo (fun k => tree_among.l1 k w s ((s.size + 2 : Nat) : Int) (i : Int)) (inAt (32 :: (L s ++ [32])) ((L w).drop i)) := by
  have hb : (32 :: (L s ++ [32])).length = s.size + 2 := by rw [L_size]; simp
  have hwL := L_size w
  have h1s : ((⟨#[32]⟩ : ByteArray) ++ s).size = 1 + s.size := by rw [ByteArray.size_append]; rfl
  have hLb : (((⟨#[32]⟩ : ByteArray) ++ s) ++ (⟨#[32]⟩ : ByteArray)).toList = 32 :: (L s ++ [32]) := by
    rw [L_toList, L_append, L_append]; rfl
  intro m
  induction m with
  | zero =>
    intro i h1 h2
    refine EvTo.step (fun k => by rw [tree_among.l1]) (EvTo.neg hne ?_)
    refine EvTo.step (fun k => by rw [tree_among.j2]) (EvTo.neg ?_ ?_)
    · rw [w64 (by omega) (by omega)]; simp; omega
    · rw [inAt_short _ _ (by rw [List.length_drop, hb]; omega)]
      exact EvTo.now
  | succ m ih =>
    intro i h1 h2
    refine EvTo.step (fun k => by rw [tree_among.l1]) (EvTo.neg hne ?_)
    have hwr : wrap64 ((i : Int) + ((s.size + 2 : Nat) : Int)) = ((i + (s.size + 2) : Nat) : Int) := by rw [w64 (by omega) (by omega)]; omega
    rw [hwr]
    refine EvTo.step (fun k => by rw [tree_among.j2]) ?_
    rw [hwr]
    by_cases c : i + (s.size + 2) ≤ w.size
    · refine EvTo.pos (decide_eq_true (by omega)) (EvTo.pos (by omega) (EvTo.pos (by omega) (EvTo.pos (by omega) (EvTo.pos (by omega) (EvTo.pos (by omega) ?_)))))
      rw [Int.toNat_natCast, Int.toNat_natCast, L_toList, L_cut, hLb, inc i (by omega)]
      have hd := drop_getD (L w) i (by omega)
      by_cases e : ((L w).drop i).take (s.size + 2) = 32 :: (L s ++ [32])
      · refine EvTo.pos e ?_
        have : inAt (32 :: (L s ++ [32])) ((L w).drop i) = true := by
          rw [hd] at e ⊢
          rw [inAt, Bool.or_eq_true, prefix_take]
          refine Or.inl ⟨?_, by rw [hb]; exact e⟩
          rw [hb, ← hd, List.length_drop]; omega
        rw [this]
        exact EvTo.now
      · refine EvTo.neg e ?_
        have : inAt (32 :: (L s ++ [32])) ((L w).drop i) = inAt (32 :: (L s ++ [32])) ((L w).drop (i + 1)) := by
          rw [hd, inAt, ← hd]
          have : List.isPrefixOf (32 :: (L s ++ [32])) ((L w).drop i) = false := by
            rw [Bool.eq_false_iff, ne_eq, prefix_take]
            rintro ⟨_, q⟩
            rw [hb] at q
            exact e q
          rw [this, Bool.false_or]
        rw [this]
        exact ih (i + 1) (by omega) (by omega)
    · refine EvTo.neg (by simp; omega) ?_
      rw [inAt_short _ _ (by rw [List.length_drop, hb]; omega)]
      exact EvTo.now
theorem all_takeWhile' (q : UInt8 → Bool) (l : List UInt8) : (l.takeWhile q).all q = true := by
  induction l with
  | nil => rfl
  | cons a t ih =>
    rw [List.takeWhile_cons]
    split
    · rename_i h; rw [List.all_cons, h, ih]; rfl
    · rfl
theorem words_no32 : ∀ (l x : List UInt8), x ∈ wordsOf l → x.all no32 = true
  | [], x, h => by simp [wordsOf] at h
  | c :: t, x, h => by
    rw [wordsOf] at h
    split at h
    · rcases List.mem_cons.1 h with rfl | h
      · exact all_takeWhile' _ _
      · exact words_no32 t x h
    · exact words_no32 t x h
theorem among_l0 (w s : ByteArray) (hs : s.size ≤ 2000) (hw : w.size ≤ 1000) (hn : (wordsOf (L w)).contains [] = false) : ∀ (m i : Nat), s.size = m + i →
    (∀ j, j < i → (L s).getD j 0 ≠ 32) → EvTo (fun k => tree_among.l0 k w s (s.size : Int) (i : Int)) ((wordsOf (L w)).contains (L s)) := by
  have hL := L_size s
  intro m
  induction m with
  | zero =>
    intro i h1 h2
    refine EvTo.step (fun k => by rw [tree_among.l0]) (EvTo.neg (by omega) ?_)
    have hall : (L s).all no32 = true := by
      rw [List.all_eq_true]
      intro x hx
      obtain ⟨j, hj, rfl⟩ := List.getElem_of_mem hx
      have := h2 j (by omega)
      rw [List.getD_eq_getElem?_getD, List.getElem?_eq_getElem hj] at this
      simpa [no32] using this
    rw [w64 (n := (s.size : Int) + 2) (by omega) (by omega), show (s.size : Int) + 2 = ((s.size + 2 : Nat) : Int) by omega]
    by_cases e : s.toList = ([] : List UInt8)
    · rw [(isE s).1 e, hn]
      refine EvTo.step (fun k => by rw [tree_among.l1]) (EvTo.pos e ?_)
      exact EvTo.step (fun k => by rw [tree_among.j2]) (EvTo.neg (by simp) EvTo.now)
    · rw [← inAt_words _ hall]
      have := among_l1 w s hs hw e w.size 0 (by omega) (by omega)
      rw [List.drop_zero] at this
      exact this
  | succ m ih =>
    intro i h1 h2
    refine EvTo.step (fun k => by rw [tree_among.l0]) (EvTo.pos (by omega) (EvTo.pos (by omega) (EvTo.pos (by omega) ?_)))
    rw [bt_L, inc i (by omega)]
    have hsplit : ((((L s).getD i 0).toNat : Int) = 32) ↔ (L s).getD i 0 = 32 := u8_iff _ 32
    by_cases c : (L s).getD i 0 = 32
    · refine EvTo.pos (hsplit.2 c) ?_
      have : (wordsOf (L w)).contains (L s) = false := by
        rw [Bool.eq_false_iff]
        intro h
        have := words_no32 _ _ (List.contains_iff_mem.1 h)
        rw [List.all_eq_true] at this
        have hi : i < (L s).length := by omega
        have := this _ (List.getElem_mem hi)
        rw [List.getD_eq_getElem?_getD, List.getElem?_eq_getElem hi] at c
        simp at c
        rw [c] at this
        exact absurd this (by decide)
      rw [this]
      exact EvTo.now
    · refine EvTo.neg (fun h => c (hsplit.1 h)) (ih (i + 1) (by omega) (fun j hj => ?_))
      rcases Nat.eq_or_lt_of_le (Nat.lt_succ_iff.1 hj) with rfl | hj
      · exact c
      · exact h2 j hj
theorem among_E (w s : ByteArray) (hs : s.size ≤ 2000) (hw : w.size ≤ 1000) (hn : (wordsOf (L w)).contains [] = false) : EvTo (fun k => tree_among.f k w s) ((wordsOf (L w)).contains (L s)) := by
  have := among_l0 w s hs hw hn s.size 0 (by omega) (fun j hj => by omega)
  exact this

/-- What a node of a kind has, and whether there is such a kind; what its number may be. -/
def hasS (a : Int) : Int × Bool :=
  if a = 1 then (5, true) else if a = 2 then (7, true) else if a = 3 ∨ a = 4 ∨ a = 6 ∨ a = 7 ∨ a = 21 then (1, true) else if a = 19 then (4, true) else if a = 20 then (32, true)
  else if a = 23 then (3, true) else if a = 27 then (8, true) else if a = 28 then (16, true) else (0, decide (1 ≤ a ∧ a ≤ 30))
def rangeS (a : Int) : Int × Int := if a = 1 then (1, 2147483647) else if a = 2 then (0, 8) else (0, 9223372036854775807)
theorem has_j (a : Int) (b : Bool) (h : b = decide (a = 3 ∨ a = 4 ∨ a = 6 ∨ a = 7 ∨ a = 21)) (h1 : a ≠ 1) (h2 : a ≠ 2) : EvTo (fun k => tree_has.j0 k a a b) (hasS a) := by
  refine EvTo.step (fun k => by rw [tree_has.j0]) ?_
  unfold hasS
  rw [if_neg h1, if_neg h2]
  by_cases c : a = 3 ∨ a = 4 ∨ a = 6 ∨ a = 7 ∨ a = 21
  · rw [if_pos c]
    exact EvTo.pos (by rw [h]; exact decide_eq_true c) EvTo.now
  rw [if_neg c]
  refine EvTo.neg (by rw [h]; simpa using c) ?_
  refine EvTo.both (fun _ => EvTo.now) (fun c1 => EvTo.both (fun _ => EvTo.now) (fun c2 => EvTo.both (fun _ => EvTo.now) (fun c3 => EvTo.both (fun _ => EvTo.now) (fun c4 => EvTo.both (fun _ => EvTo.now) (fun c5 => ?_)))))
  by_cases c6 : a ≥ 1
  · refine EvTo.pos c6 ?_
    rw [show (decide (1 ≤ a ∧ a ≤ 30)) = decide (a ≤ 30) from by simp; omega]
    exact EvTo.now
  · refine EvTo.neg c6 ?_
    rw [show (decide (1 ≤ a ∧ a ≤ 30)) = false from decide_eq_false (by omega)]
    exact EvTo.now
theorem has_E (a : Int) : EvTo (fun k => tree_has.f k a) (hasS a) := by
  unfold tree_has.f
  by_cases h1 : a = 1
  · subst h1; exact EvTo.pos rfl EvTo.now
  refine EvTo.neg h1 ?_
  by_cases h2 : a = 2
  · subst h2; exact EvTo.pos rfl EvTo.now
  refine EvTo.neg h2 ?_
  by_cases h3 : a = 3
  · exact EvTo.pos h3 (has_j a _ (by simp [h3]) h1 h2)
  refine EvTo.neg h3 ?_
  by_cases h4 : a = 4
  · exact EvTo.pos h4 (has_j a _ (by simp [h4]) h1 h2)
  refine EvTo.neg h4 ?_
  by_cases h5 : a = 6
  · exact EvTo.pos h5 (has_j a _ (by simp [h5]) h1 h2)
  refine EvTo.neg h5 ?_
  by_cases h6 : a = 7
  · exact EvTo.pos h6 (has_j a _ (by simp [h6]) h1 h2)
  refine EvTo.neg h6 (has_j a _ ?_ h1 h2)
  rw [Bool.eq_iff_iff, beq_iff_eq, decide_eq_true_eq]; omega
def bitS (b m : Int) : Bool := Go.bits .and .i64 b m != 0
def textS (b : Int) (s : ByteArray) : Bool :=
  if Go.bits .and .i64 b 2 = 0 then if Go.bits .and .i64 b 8 = 0 then if Go.bits .and .i64 b 16 = 0 then if Go.bits .and .i64 b 32 = 0 then (L s).isEmpty else decide (s.size ≤ 1024) else UNS.contains (L s) else OPS.contains (L s) else isName (L s)
theorem text_E (b : Int) (s : ByteArray) (hs : s.size ≤ 2000) : EvTo (fun k => tree_text.f k b s) (textS b s) := by
  unfold tree_text.f textS
  refine EvTo.both (fun _ => EvTo.both (fun _ => EvTo.both (fun _ => EvTo.both (fun _ => EvTo.of_eq fun k => ?_) (fun _ => EvTo.of_eq fun k => ?_)) (fun _ => ?_)) (fun _ => ?_)) (fun _ => ?_)
  · rw [L_toList]
    cases L s <;> rfl
  · congr 1
    rw [decide_eq_decide]; omega
  · have := among_E UB s hs (by decide) (by rw [words_UB]; decide)
    rw [words_UB] at this
    exact EvTo.bind (G := fun _ t => some t) this EvTo.now
  · have := among_E OB s hs (by decide) (by rw [words_OB]; decide)
    rw [words_OB] at this
    exact EvTo.bind (G := fun _ t => some t) this EvTo.now
  · exact EvTo.bind (G := fun _ t => some t) (Name_f s (by omega)) EvTo.now
/-- A node has just what it may. -/
def fieldsV (b : Int) (ok : Bool) (lo hi : Int) (x : S36) : Bool :=
  ok && (textS b x.f4 && ((bitS b 1 == isName (L x.f2)) && ((bitS b 1 || (L x.f2).isEmpty) && (if Go.bits .and .i64 b 4 = 0 then x.f3 == 0 else decide (lo ≤ x.f3 ∧ x.f3 ≤ hi)))))
def fieldsS (x : S36) : Bool := fieldsV (hasS x.f0).1 (hasS x.f0).2 (rangeS x.f0).1 (rangeS x.f0).2 x
theorem range_E (a : Int) : tree_range64.f a = some (rangeS a) := by
  unfold tree_range64.f rangeS
  split
  · rfl
  · split <;> rfl
theorem fields_j1 (x : S36) (b lo hi : Int) (c : Bool) : EvTo (fun k => tree_fields.j1 k b lo hi c x.f0 x.f1 x.f2 x.f3 x.f4) (!c && (if Go.bits .and .i64 b 4 = 0 then x.f3 == 0 else decide (lo ≤ x.f3 ∧ x.f3 ≤ hi))) := by
  refine EvTo.step (fun k => by rw [tree_fields.j1]) ?_
  cases c with
  | true => exact EvTo.pos rfl EvTo.now
  | false =>
    refine EvTo.neg (by simp) ?_
    rw [Bool.not_false, Bool.true_and]
    refine EvTo.both (fun _ => EvTo.now) (fun c4 => ?_)
    by_cases c5 : x.f3 ≥ lo
    · refine EvTo.pos c5 ?_
      rw [show decide (lo ≤ x.f3 ∧ x.f3 ≤ hi) = decide (x.f3 ≤ hi) from by rw [decide_eq_decide]; omega]
      exact EvTo.now
    · refine EvTo.neg c5 ?_
      rw [show decide (lo ≤ x.f3 ∧ x.f3 ≤ hi) = false from decide_eq_false (by omega)]
      exact EvTo.now
theorem fields_j0 (x : S36) (h2 : x.f2.size ≤ 2000) (b lo hi : Int) (c : Bool) : EvTo (fun k => tree_fields.j0 k b lo hi c x.f0 x.f1 x.f2 x.f3 x.f4)
    (!c && ((bitS b 1 == isName (L x.f2)) && ((bitS b 1 || (L x.f2).isEmpty) && (if Go.bits .and .i64 b 4 = 0 then x.f3 == 0 else decide (lo ≤ x.f3 ∧ x.f3 ≤ hi))))) := by
  refine EvTo.step (fun k => by rw [tree_fields.j0]) ?_
  cases c with
  | true => exact EvTo.pos rfl EvTo.now
  | false =>
    refine EvTo.neg (by simp) (EvTo.bind (Name_f x.f2 (by omega)) ?_)
    rw [Bool.not_false, Bool.true_and]
    by_cases c1 : bitS b 1 = isName (L x.f2)
    · rw [beq_iff_eq.2 c1, Bool.true_and]
      refine EvTo.neg (by unfold bitS at c1; rw [c1]; simp) ?_
      by_cases c2 : Go.bits .and .i64 b 1 = 0
      · refine EvTo.pos c2 ?_
        have hb : bitS b 1 = false := by unfold bitS; rw [c2]; rfl
        rw [hb, Bool.false_or]
        have := fields_j1 x b lo hi (x.f2.toList != ([] : List UInt8))
        rwa [show (!(x.f2.toList != ([] : List UInt8))) = (L x.f2).isEmpty from by rw [L_toList]; cases L x.f2 <;> rfl] at this
      · refine EvTo.neg c2 ?_
        have hb : bitS b 1 = true := by unfold bitS; simpa using c2
        rw [hb, Bool.true_or, Bool.true_and]
        have := fields_j1 x b lo hi false
        rwa [Bool.not_false, Bool.true_and] at this
    · rw [show (bitS b 1 == isName (L x.f2)) = false from beq_eq_false_iff_ne.2 c1, Bool.false_and]
      exact EvTo.pos (by unfold bitS at c1; simpa using c1) (fields_j1 x b lo hi true)
theorem fields_E (x : S36) (h2 : x.f2.size ≤ 2000) (h4 : x.f4.size ≤ 2000) : EvTo (fun k => tree_fields.f k x.f0 x.f1 x.f2 x.f3 x.f4) (fieldsS x) := by
  unfold tree_fields.f fieldsS fieldsV
  refine EvTo.bind (has_E x.f0) ?_
  simp only [range_E, Option.bind_some]
  cases hok : (hasS x.f0).2 with
  | false =>
    rw [Bool.false_and]
    exact EvTo.neg (by simp) (fields_j0 x h2 _ _ _ true)
  | true =>
    rw [Bool.true_and]
    refine EvTo.pos rfl (EvTo.bind (text_E _ _ h4) ?_)
    have := fields_j0 x h2 (hasS x.f0).1 (rangeS x.f0).1 (rangeS x.f0).2 (!textS (hasS x.f0).1 x.f4)
    rwa [Bool.not_not] at this

/-! Kids. -/
def exS (l : List Int) (lo hi : Nat) : Bool := decide (lo ≤ l.length ∧ l.length ≤ hi) && l.all exprP
def ifS (hi : Nat) (l : List Int) : Bool := decide (2 ≤ l.length ∧ l.length ≤ hi) && (exprP (rd l 0) && (l.drop 1).all (· == 5))
def funS (l : List Int) : Bool := decide (1 ≤ l.length ∧ l.length ≤ 9) && (rd l ((l.length - 1 : Nat) : Int) == 5 && (l.take (l.length - 1)).all (· == 4))
def modS (l : List Int) : Bool := (l.dropWhile (· == 2)).all (· == 3)
def kidsS (a : Int) (l : List Int) : Bool :=
  if a = 1 then modS l else if a = 3 ∨ a = 24 then funS l else if a = 5 then l.all stmtP else if a = 9 then ifS 3 l else if a = 10 then ifS 2 l else if a = 8 then exS l 3 3
  else if a = 6 ∨ a = 7 ∨ a = 13 ∨ a = 14 ∨ a = 15 ∨ a = 17 ∨ a = 28 ∨ a = 30 then exS l 1 1 else if a = 22 then exS l 1 9 else if a = 23 then exS l 0 8 else if a = 26 ∨ a = 27 then exS l 2 2 else decide (l.length = 0)
theorem exprs_E (l : List Int) (lo hi : Nat) : tree_exprs.f l (lo : Int) (hi : Int) = some (exS l lo hi) := by
  unfold tree_exprs.f exS eachExpr.f
  by_cases c : lo ≤ l.length
  · rw [if_pos (by omega)]
    by_cases c2 : l.length ≤ hi
    · rw [if_pos (by omega), decide_eq_true ⟨c, c2⟩]; rfl
    · rw [if_neg (by omega), decide_eq_false (by omega)]; rfl
  · rw [if_neg (by omega), decide_eq_false (by omega)]; rfl
theorem Expr_E (a : Int) : tree_Expr.f a = some (exprP a) := by
  unfold tree_Expr.f exprP
  by_cases c : a ≥ 18
  · rw [if_pos c]; congr 1; rw [decide_eq_decide]; omega
  · rw [if_neg c]; congr 1; symm; exact decide_eq_false (by omega)
theorem function_E (l : List Int) (hl : l.length ≤ 4000) : tree_function.f l = some (funS l) := by
  unfold tree_function.f funS eachIs.f
  by_cases c : 1 ≤ l.length
  · rw [w64 (by omega) (by omega), show (l.length : Int) - 1 = ((l.length - 1 : Nat) : Int) by omega, if_pos (by omega)]
    by_cases c2 : l.length ≤ 9
    · rw [if_pos (by omega), if_pos (by omega), if_pos (by omega), decide_eq_true ⟨c, c2⟩, Bool.true_and]
      by_cases c3 : rd l ((l.length - 1 : Nat) : Int) = 5
      · rw [if_pos c3, if_pos (by omega), c3]; rfl
      · rw [if_neg c3, show (rd l ((l.length - 1 : Nat) : Int) == 5) = false from beq_eq_false_iff_ne.2 c3]; rfl
    · rw [if_neg (by omega), decide_eq_false (by omega)]; rfl
  · rw [w64 (by omega) (by omega), if_neg (by omega), decide_eq_false (by omega)]; rfl
theorem module_l (l : List Int) (hl : l.length ≤ 4000) : ∀ (m i : Nat), l.length = m + i → EvTo (fun k => tree_module.l0 k l (i : Int)) (modS (l.drop i)) := by
  intro m
  induction m with
  | zero =>
    intro i h
    refine EvTo.step (fun k => by rw [tree_module.l0]) (EvTo.neg (by omega) (EvTo.pos (by omega) (EvTo.pos (by omega) ?_)))
    rw [Int.toNat_natCast, List.drop_eq_nil_of_le (by omega)]
    exact EvTo.now
  | succ m ih =>
    intro i h
    have hi : i < l.length := by omega
    have hrd : rd l (i : Int) = l[i] := by simp [rd, List.getD_eq_getElem?_getD, List.getElem?_eq_getElem hi]
    refine EvTo.step (fun k => by rw [tree_module.l0]) (EvTo.pos (by omega) (EvTo.pos (by omega) ?_))
    rw [hrd, inc i (by omega)]
    by_cases c : l[i] = 2
    · refine EvTo.pos c ?_
      rw [show modS (l.drop i) = modS (l.drop (i + 1)) from by unfold modS; rw [List.drop_eq_getElem_cons hi, List.dropWhile_cons, if_pos (by rw [c]; rfl)]]
      exact ih (i + 1) (by omega)
    · refine EvTo.neg c (EvTo.pos (by omega) ?_)
      rw [Int.toNat_natCast, show modS (l.drop i) = (l.drop i).all (· == 3) from by unfold modS; rw [List.drop_eq_getElem_cons hi, List.dropWhile_cons, if_neg (by simpa using c)]]
      exact EvTo.now
theorem module_E (l : List Int) (hl : l.length ≤ 4000) : EvTo (fun k => tree_module.f k l) (modS l) := by
  have := module_l l hl l.length 0 (by omega)
  exact this
theorem ret_E {α : Type} {F : Nat → Option α} {v : α} (h : EvTo F v) : EvTo (fun k => (F k).bind fun t => some t) v := EvTo.bind h EvTo.now
theorem kids_j2 (a : Int) (l : List Int) (hl : l.length ≤ 4000) (b : Bool) (hb : b = decide (a = 6 ∨ a = 7 ∨ a = 13 ∨ a = 14 ∨ a = 15 ∨ a = 17 ∨ a = 28 ∨ a = 30)) (h1 : a ≠ 1) (h2 : ¬ (a = 3 ∨ a = 24)) (h3 : a ≠ 5) (h4 : a ≠ 9) (h5 : a ≠ 10) (h6 : a ≠ 8) :
    EvTo (fun k => tree_kids.j2 k l (l.length : Int) a b) (kidsS a l) := by
  unfold kidsS
  rw [if_neg h1, if_neg h2, if_neg h3, if_neg h4, if_neg h5, if_neg h6]
  refine EvTo.step (fun k => by rw [tree_kids.j2]) ?_
  by_cases c : a = 6 ∨ a = 7 ∨ a = 13 ∨ a = 14 ∨ a = 15 ∨ a = 17 ∨ a = 28 ∨ a = 30
  · rw [if_pos c]
    exact EvTo.pos (by rw [hb]; exact decide_eq_true c) (ret_E (EvTo.of_eq fun k => exprs_E l 1 1))
  rw [if_neg c]
  refine EvTo.neg (by rw [hb]; simpa using c) ?_
  refine EvTo.both (fun _ => ret_E (EvTo.of_eq fun k => exprs_E l 1 9)) (fun _ => EvTo.both (fun _ => ret_E (EvTo.of_eq fun k => exprs_E l 0 8)) (fun _ => ?_))
  by_cases c3 : a = 26
  · rw [if_pos (Or.inl c3)]; exact EvTo.pos c3 (ret_E (EvTo.of_eq fun k => exprs_E l 2 2))
  refine EvTo.neg c3 ?_
  by_cases c4 : a = 27
  · rw [if_pos (Or.inr c4)]; exact EvTo.pos c4 (ret_E (EvTo.of_eq fun k => exprs_E l 2 2))
  rw [if_neg (show ¬ (a = 26 ∨ a = 27) by omega)]
  refine EvTo.neg c4 (EvTo.of_eq fun k => ?_)
  congr 1
  rw [Bool.eq_iff_iff, beq_iff_eq, decide_eq_true_eq]; omega
theorem ifs_E {F : Nat → Option Bool} (l : List Int) (hi : Nat) (hF : ∀ k, F k = if (l.length : Int) ≥ 2 then (if (l.length : Int) ≤ (hi : Int) then (if 0 < (l.length : Int) then ((tree_Expr.f (rd l 0)).bind fun t153 => (if t153 = true then (if 1 ≤ (l.length : Int) then ((eachIs.f (l.drop 1) 5).bind fun t155 => (some t155)) else (none)) else (some false))) else (none)) else (some false)) else (some false)) :
    EvTo F (ifS hi l) := by
  refine EvTo.of_eq fun k => ?_
  rw [hF]
  unfold ifS
  by_cases c : 2 ≤ l.length
  · rw [if_pos (by omega)]
    by_cases c2 : l.length ≤ hi
    · rw [if_pos (by omega), if_pos (by omega), Expr_E, decide_eq_true ⟨c, c2⟩, Bool.true_and, Option.bind_some]
      cases exprP (rd l 0)
      · rfl
      · rw [if_pos rfl, if_pos (by omega)]; rfl
    · rw [if_neg (by omega), decide_eq_false (by omega)]; rfl
  · rw [if_neg (by omega), decide_eq_false (by omega)]; rfl
theorem kids_j1 (a : Int) (l : List Int) (hl : l.length ≤ 4000) (b : Bool) (hb : b = decide (a = 9 ∨ a = 10)) (h1 : a ≠ 1) (h2 : ¬ (a = 3 ∨ a = 24)) (h3 : a ≠ 5) :
    EvTo (fun k => tree_kids.j1 k a l (l.length : Int) a b) (kidsS a l) := by
  refine EvTo.step (fun k => by rw [tree_kids.j1]) ?_
  by_cases c1 : a = 9
  · rw [show kidsS a l = ifS 3 l from by unfold kidsS; rw [if_neg h1, if_neg h2, if_neg h3, if_pos c1]]
    exact EvTo.pos (by rw [hb]; exact decide_eq_true (.inl c1)) (EvTo.pos c1 (ifs_E l 3 (fun k => rfl)))
  by_cases c2 : a = 10
  · rw [show kidsS a l = ifS 2 l from by unfold kidsS; rw [if_neg h1, if_neg h2, if_neg h3, if_neg c1, if_pos c2]]
    exact EvTo.pos (by rw [hb]; exact decide_eq_true (.inr c2)) (EvTo.neg c1 (ifs_E l 2 (fun k => rfl)))
  refine EvTo.neg (by rw [hb]; simp [c1, c2]) ?_
  by_cases c3 : a = 8
  · refine EvTo.pos c3 ?_
    rw [show kidsS a l = exS l 3 3 from by unfold kidsS; rw [if_neg h1, if_neg h2, if_neg h3, if_neg c1, if_neg c2, if_pos c3]]
    exact ret_E (EvTo.of_eq fun k => exprs_E l 3 3)
  refine EvTo.neg c3 ?_
  have go : ∀ b : Bool, b = decide (a = 6 ∨ a = 7 ∨ a = 13 ∨ a = 14 ∨ a = 15 ∨ a = 17 ∨ a = 28 ∨ a = 30) → EvTo (fun k => tree_kids.j2 k l (l.length : Int) a b) (kidsS a l) := fun b hb => kids_j2 a l hl b hb h1 h2 h3 c1 c2 c3
  by_cases d1 : a = 6
  · exact EvTo.pos d1 (go _ (by simp [d1]))
  refine EvTo.neg d1 ?_
  by_cases d2 : a = 7
  · exact EvTo.pos d2 (go _ (by simp [d2]))
  refine EvTo.neg d2 ?_
  by_cases d3 : a = 13
  · exact EvTo.pos d3 (go _ (by simp [d3]))
  refine EvTo.neg d3 ?_
  by_cases d4 : a = 14
  · exact EvTo.pos d4 (go _ (by simp [d4]))
  refine EvTo.neg d4 ?_
  by_cases d5 : a = 15
  · exact EvTo.pos d5 (go _ (by simp [d5]))
  refine EvTo.neg d5 ?_
  by_cases d6 : a = 17
  · exact EvTo.pos d6 (go _ (by simp [d6]))
  refine EvTo.neg d6 ?_
  by_cases d7 : a = 28
  · exact EvTo.pos d7 (go _ (by simp [d7]))
  exact EvTo.neg d7 (go _ (by rw [Bool.eq_iff_iff, beq_iff_eq, decide_eq_true_eq]; omega))
theorem kids_j0 (a : Int) (l : List Int) (hl : l.length ≤ 4000) (b : Bool) (hb : b = decide (a = 3 ∨ a = 24)) (h1 : a ≠ 1) : EvTo (fun k => tree_kids.j0 k a l (l.length : Int) a b) (kidsS a l) := by
  refine EvTo.step (fun k => by rw [tree_kids.j0]) ?_
  by_cases c : a = 3 ∨ a = 24
  · refine EvTo.pos (by rw [hb]; exact decide_eq_true c) ?_
    rw [show kidsS a l = funS l from by unfold kidsS; rw [if_neg h1, if_pos c]]
    exact ret_E (EvTo.of_eq fun k => function_E l hl)
  refine EvTo.neg (by rw [hb]; simpa using c) ?_
  by_cases c1 : a = 5
  · refine EvTo.pos c1 ?_
    rw [show kidsS a l = l.all stmtP from by unfold kidsS; rw [if_neg h1, if_neg c, if_pos c1]]
    exact EvTo.now
  refine EvTo.neg c1 ?_
  by_cases d1 : a = 9
  · exact EvTo.pos d1 (kids_j1 a l hl _ (by simp [d1]) h1 c c1)
  exact EvTo.neg d1 (kids_j1 a l hl _ (by rw [Bool.eq_iff_iff, beq_iff_eq, decide_eq_true_eq]; omega) h1 c c1)
theorem kids_E (a : Int) (l : List Int) (hl : l.length ≤ 4000) : EvTo (fun k => tree_kids.f k a l) (kidsS a l) := by
  unfold tree_kids.f
  by_cases c : a = 1
  · refine EvTo.pos c ?_
    rw [show kidsS a l = modS l from by unfold kidsS; rw [if_pos c]]
    exact ret_E (module_E l hl)
  refine EvTo.neg c ?_
  by_cases d1 : a = 3
  · exact EvTo.pos d1 (kids_j0 a l hl _ (by simp [d1]) c)
  exact EvTo.neg d1 (kids_j0 a l hl _ (by rw [Bool.eq_iff_iff, beq_iff_eq, decide_eq_true_eq]; omega) c)
end Go.Proofs.Ytclhaajlgmiilaa.Tree
end
section
set_option linter.unusedVariables false
set_option linter.unusedSimpArgs false
namespace Go.Proofs.Ytclhaajlgmiilaa.Tree
open Go Go.RowKit Go.Proofs.YtclhaajlgmiilaaW.PrintWords Go.Proofs.Ytclhaajlgmiilaa.Q Go.Proofs.Ytclhaajlgmiilaa.Lex

/-- The kinds of a node's kids. -/
def kindsS (l : List S36) (i : Nat) : List Int := (its l (rd_T36 l (i : Int)).f1.toNat ((i + 1 : Nat) : Int)).map fun p => (rd_T36 l p).f0
def goodS (l : List S36) (i : Nat) : Bool := fieldsS (rd_T36 l (i : Int)) && kidsS (rd_T36 l (i : Int)).f0 (kindsS l i)
/-- The first node from a place on that is not right; so many are left. -/
def badS (l : List S36) : Nat → Nat → Int × Int
  | 0, _ => (0, 0)
  | m + 1, i => if goodS l i then badS l m (i + 1) else (4, (i : Int))
def wholeS (l : List S36) : Bool := decide (endF l.length l 1 = some l.length)
def checkS (l : List S36) : Int × Int :=
  if 2000 < l.length then (3, 0) else if wholeS l = false then (2, 0) else if 60 < depF l [] 0 then (3, 0) else if (rd_T36 l 0).f0 ≠ 1 then (4, 0) else badS l l.length 0
/-- Names and texts are short. -/
def short (l : List S36) : Prop := ∀ x ∈ l, x.f2.size ≤ 2000 ∧ x.f4.size ≤ 2000
theorem short_rd {l : List S36} (h : short l) (i : Nat) (hi : i < l.length) : (rd_T36 l (i : Int)).f2.size ≤ 2000 ∧ (rd_T36 l (i : Int)).f4.size ≤ 2000 := by
  rw [rd36 l i hi]
  exact h _ (List.getElem_mem hi)
theorem Check_l1 (l : List S36) (hl : l.length ≤ 2100) (hs : short l) (i : Nat) (hi : i < l.length) (ks : List Int) (hks : ks.length ≤ 2100) (hk : ∀ q ∈ ks, 0 ≤ q ∧ q < (l.length : Int)) (v : Int × Int)
    (hnext : EvTo (fun k => tree_Check.l0 k l l (l.length : Int) ((i + 1 : Nat) : Int)) v) : ∀ (m idx : Nat) (acc : List Int), ks.length = m + idx → acc.length = idx →
    EvTo (fun k => tree_Check.l1 k l (i : Int) acc l (l.length : Int) (i : Int) ks (ks.length : Int) (idx : Int) (rd_T36 l (i : Int)).f0 (rd_T36 l (i : Int)).f1 (rd_T36 l (i : Int)).f2 (rd_T36 l (i : Int)).f3 (rd_T36 l (i : Int)).f4)
      (if fieldsS (rd_T36 l (i : Int)) && kidsS (rd_T36 l (i : Int)).f0 (acc ++ (ks.drop idx).map fun p => (rd_T36 l p).f0) then v else (4, (i : Int))) := by
  obtain ⟨h2, h4⟩ := short_rd hs i hi
  intro m
  induction m with
  | zero =>
    intro idx acc h1 ha
    refine EvTo.step (fun k => by rw [tree_Check.l1]) ?_
    refine EvTo.neg (by omega) ?_
    rw [List.drop_eq_nil_of_le (by omega), List.map_nil, List.append_nil]
    refine EvTo.bind (fields_E _ h2 h4) ?_
    cases fieldsS (rd_T36 l (i : Int)) with
    | false => exact EvTo.neg (by simp) EvTo.now
    | true =>
      refine EvTo.pos rfl (EvTo.bind (kids_E _ acc (by omega)) ?_)
      rw [Bool.true_and]
      cases kidsS (rd_T36 l (i : Int)).f0 acc with
      | false => exact EvTo.neg (by simp) EvTo.now
      | true =>
        refine EvTo.pos rfl ?_
        rw [inc i (by omega)]
        exact hnext
  | succ m ih =>
    intro idx acc h1 ha
    have hx : idx < ks.length := by omega
    have hrd : rd ks (idx : Int) = ks[idx] := by simp [rd, List.getD_eq_getElem?_getD, List.getElem?_eq_getElem hx]
    have hq := hk _ (List.getElem_mem hx)
    refine EvTo.step (fun k => by rw [tree_Check.l1]) ?_
    refine EvTo.pos (by omega) (EvTo.pos (by omega) (EvTo.pos (by omega) ?_))
    rw [hrd, inc idx (by omega)]
    refine EvTo.pos hq.1 (EvTo.pos hq.2 (EvTo.pos (by omega) ?_))
    have := ih (idx + 1) (acc ++ [(rd_T36 l ks[idx]).f0]) (by omega) (by simp [ha])
    rw [List.append_assoc] at this
    rw [List.drop_eq_getElem_cons hx, List.map_cons]
    exact this
theorem Check_l0 (l : List S36) (hl : l.length ≤ 2100) (hs : short l) (hw : endF l.length l 1 = some l.length) : ∀ (m i : Nat), l.length = m + i → EvTo (fun k => tree_Check.l0 k l l (l.length : Int) (i : Int)) (badS l m i) := by
  intro m
  induction m with
  | zero =>
    intro i h1
    refine EvTo.step (fun k => by rw [tree_Check.l0]) ?_
    exact EvTo.neg (by omega) EvTo.now
  | succ m ih =>
    intro i h1
    have hi : i < l.length := by omega
    obtain ⟨hK, hK1, hK2⟩ := Kids_whole hl hw i hi
    refine EvTo.step (fun k => by rw [tree_Check.l0]) ?_
    refine EvTo.pos (by omega) (EvTo.pos (by omega) (EvTo.pos (by omega) (EvTo.bind hK ?_)))
    have := Check_l1 l hl hs i hi _ hK1 (fun q hq => by have := hK2 q hq; omega) _ (ih (i + 1) (by omega)) _ 0 [] rfl rfl
    rw [List.drop_zero, List.nil_append] at this
    exact this
theorem whole_end {l : List S36} : endI l 0 = (l.length : Int) ∧ l ≠ [] ↔ endF l.length l 1 = some l.length := by
  unfold endI
  rw [if_neg (by omega), Int.toNat_zero, List.drop_zero]
  cases h : endF l.length l 1 with
  | none => simp only [endV]; constructor; · intro h; omega
            · intro h; cases h
  | some m =>
    have := endF_le _ _ _ _ h
    simp only [endV, Option.some.injEq]
    constructor
    · intro h; omega
    · intro h; exact ⟨by omega, by rintro rfl; simp at this; omega⟩
theorem Check_E (l : List S36) (hl : l.length ≤ 2100) (hs : short l) : EvTo (fun k => tree_Check.f k l) (checkS l) := by
  unfold tree_Check.f checkS
  by_cases c : 2000 < l.length
  · rw [if_pos c]; exact EvTo.pos (by omega) EvTo.now
  rw [if_neg c]
  refine EvTo.neg (by omega) ?_
  by_cases c1 : l = []
  · subst c1
    refine EvTo.pos rfl (EvTo.step (fun k => by rw [tree_Check.j0]) (EvTo.pos rfl ?_))
    exact EvTo.now
  have hlen : l.length ≠ 0 := fun h => c1 (List.eq_nil_of_length_eq_zero h)
  refine EvTo.neg (by omega) (EvTo.bind (End_E l hl 0) ?_)
  by_cases hw : endF l.length l 1 = some l.length
  · rw [show wholeS l = true from decide_eq_true hw, if_neg (by simp)]
    refine EvTo.step (fun k => by rw [tree_Check.j0]) ?_
    refine EvTo.neg (by rw [(whole_end.2 hw).1]; simp) ?_
    have hwb : wholeB l l.length = true := wholeB_of l l.length (Nat.le_refl _) (fun q hq => by
      obtain ⟨m', _, e⟩ := endF_in _ _ _ _ q hw (Nat.le_refl 1) hq
      rw [e]; rfl)
    have hd := Depth_E l hl
    rw [hwb, if_pos rfl] at hd
    refine EvTo.bind hd ?_
    by_cases c2 : 60 < depF l [] 0
    · rw [if_pos c2]; exact EvTo.pos (by omega) EvTo.now
    rw [if_neg c2]
    refine EvTo.neg (by omega) (EvTo.pos (by omega) ?_)
    by_cases c3 : (rd_T36 l 0).f0 = 1
    · rw [if_neg (fun q => q c3)]
      exact EvTo.pos c3 (Check_l0 l hl hs hw l.length 0 (by omega))
    · rw [if_pos c3]
      exact EvTo.neg c3 EvTo.now
  · rw [show wholeS l = false from decide_eq_false hw, if_pos rfl]
    refine EvTo.step (fun k => by rw [tree_Check.j0]) ?_
    refine EvTo.pos ?_ EvTo.now
    rw [bne_iff_ne]
    intro e
    exact hw (whole_end.1 ⟨e, c1⟩)
end Go.Proofs.Ytclhaajlgmiilaa.Tree
end
section
set_option linter.unusedVariables false
set_option linter.unusedSimpArgs false
namespace Go.Proofs.Ytclhaajlgmiilaa.Tree
open Go Go.RowKit Go.Proofs.YtclhaajlgmiilaaW.PrintWords Go.Proofs.Ytclhaajlgmiilaa.Q Go.Proofs.Ytclhaajlgmiilaa.Lex

theorem rEnd_l (l : List S36) (hl : l.length ≤ 2100) : ∀ (m i w : Nat), l.length = m + i → 1 ≤ w → w ≤ 1 + i * 2100 →
    EvTo (fun k => chrysalisref09_End.l0 k l (w : Int) (i : Int)) (endV i (endF l.length (l.drop i) w)) := by
  intro m
  induction m with
  | zero =>
    intro i w h1 h2 h3
    rw [List.drop_eq_nil_of_le (by omega)]
    refine EvTo.step (fun k => by rw [chrysalisref09_End.l0]) ?_
    exact EvTo.neg (by omega) EvTo.now
  | succ m ih =>
    intro i w h1 h2 h3
    have hi : i < l.length := by omega
    rw [List.drop_eq_getElem_cons hi]
    refine EvTo.step (fun k => by rw [chrysalisref09_End.l0]) ?_
    refine EvTo.pos (by omega) (EvTo.pos (by omega) ?_)
    rw [rd36 l i hi]
    simp only [endF]
    by_cases c1 : l[i].f1 < 0
    · rw [if_pos (Or.inl c1)]
      refine EvTo.pos c1 ?_
      refine EvTo.step (fun k => by rw [chrysalisref09_End.j1]) ?_
      exact EvTo.pos rfl EvTo.now
    refine EvTo.neg c1 ?_
    refine EvTo.step (fun k => by rw [chrysalisref09_End.j1]) ?_
    by_cases c2 : (l.length : Int) < l[i].f1
    · rw [if_pos (Or.inr c2)]
      exact EvTo.pos (decide_eq_true c2) EvTo.now
    refine EvTo.neg (by simpa using c2) (EvTo.pos (by omega) (EvTo.pos (by omega) ?_))
    rw [rd36 l i hi, if_neg (show ¬ (l[i].f1 < 0 ∨ (l.length : Int) < l[i].f1) by omega)]
    have e2 : wrap64 (wrap64 ((w : Int) - 1) + l[i].f1) = ((w - 1 + l[i].f1.toNat : Nat) : Int) := by
      rw [w64 (n := (w : Int) - 1) (by omega) (by omega), w64 (by omega) (by omega)]
      omega
    rw [e2, inc i (by omega)]
    by_cases c3 : w - 1 + l[i].f1.toNat = 0
    · rw [if_pos c3]
      refine EvTo.pos (by omega) (EvTo.of_eq fun k => ?_)
      simp only [endV]
    · rw [if_neg c3, endV_map]
      refine EvTo.neg (by omega) ?_
      exact ih (i + 1) _ (by omega) (by omega) (by omega)
theorem rEnd_E (l : List S36) (hl : l.length ≤ 2100) (i : Int) : EvTo (fun k => chrysalisref09_End.f k l i) (endI l i) := by
  unfold chrysalisref09_End.f endI
  by_cases c : i < 0
  · rw [if_pos c]; exact EvTo.pos c EvTo.now
  rw [if_neg c]
  refine EvTo.neg c ?_
  by_cases c2 : i.toNat ≤ l.length
  · have h := rEnd_l l hl (l.length - i.toNat) i.toNat 1 (by omega) (by omega) (by omega)
    rw [show ((i.toNat : Nat) : Int) = i by omega] at h
    exact h
  · rw [List.drop_eq_nil_of_le (by omega)]
    refine EvTo.step (fun k => by rw [chrysalisref09_End.l0]) ?_
    exact EvTo.neg (by omega) EvTo.now
theorem rKids_its (l : List S36) (hl : l.length ≤ 2100) (i : Nat) (hi : i < l.length) (h0 : 0 ≤ l[i].f1) (h9 : l[i].f1 ≤ 2100) : ∀ (d : Nat) (acc : List Int) (at' : Int), l[i].f1.toNat = d + acc.length →
    EvTo (fun k => chrysalisref09_Kids.l0 k l (i : Int) acc at' (acc.length : Int)) (acc ++ its l d at') := by
  intro d
  induction d with
  | zero =>
    intro acc at' h
    refine EvTo.step (fun k => by rw [chrysalisref09_Kids.l0]) ?_
    refine EvTo.pos (by omega) (EvTo.pos (by omega) ?_)
    rw [rd36 l i hi, its, List.append_nil]
    exact EvTo.neg (by omega) EvTo.now
  | succ d ih =>
    intro acc at' h
    have h1 := ih (acc ++ [at']) (endI l at') (by simp; omega)
    rw [List.append_assoc, List.length_append] at h1
    refine EvTo.step (fun k => by rw [chrysalisref09_Kids.l0]) ?_
    refine EvTo.pos (by omega) (EvTo.pos (by omega) ?_)
    rw [rd36 l i hi, inc acc.length (by omega)]
    exact EvTo.pos (by omega) (EvTo.pos (by omega) (EvTo.bind (rEnd_E l hl at') h1))
/-- A node's kids' places. -/
def kidsI (l : List S36) (i : Int) : List Int := if endI l i < 0 then [] else its l (rd_T36 l i).f1.toNat (i + 1)
theorem kids_at {l : List S36} (hl : l.length ≤ 2100) {i : Int} (c : ¬ endI l i < 0) : ∃ j : Nat, i = j ∧ ∃ hj : j < l.length, 0 ≤ l[j].f1 ∧ l[j].f1 ≤ 2100 := by
  obtain ⟨j, m, rfl, hF, he, h1, h2⟩ := endI_some c
  have hj : j < l.length := by omega
  refine ⟨j, rfl, hj, ?_⟩
  have hkk := endF_kids _ _ _ _ hF (Nat.le_refl 1)
  have hin : l[j] ∈ (l.drop j).take m := by
    obtain ⟨q, rfl⟩ : ∃ q, m = q + 1 := ⟨m - 1, by omega⟩
    rw [List.drop_eq_getElem_cons hj, List.take_succ_cons]
    exact List.mem_cons_self
  have := hkk _ hin
  omega
theorem rKids_E (l : List S36) (hl : l.length ≤ 2100) (i : Int) : EvTo (fun k => chrysalisref09_Kids.f k l i) (kidsI l i) := by
  unfold chrysalisref09_Kids.f kidsI
  refine EvTo.bind (rEnd_E l hl i) ?_
  by_cases c : endI l i < 0
  · rw [if_pos c]; exact EvTo.pos c EvTo.now
  rw [if_neg c]
  obtain ⟨j, rfl, hj, h0, h9⟩ := kids_at hl c
  rw [inc j (by omega), rd36 l j hj]
  refine EvTo.neg c ?_
  have := rKids_its l hl j hj h0 h9 l[j].f1.toNat [] ((j + 1 : Nat) : Int) (by simp)
  simpa using this

/-! How deep: the document takes one off the innermost node around as the next node comes. -/
def popz : List Nat → List Nat
  | [] => []
  | 0 :: st => popz st
  | (n + 1) :: st => (n + 1) :: st
def less1 : List Nat → List Nat
  | [] => []
  | n :: st => (n - 1) :: st
theorem close_popz : ∀ st : List Nat, close st = less1 (popz st)
  | [] => rfl
  | 0 :: st => by rw [close, popz]; exact close_popz st
  | (n + 1) :: st => by rw [close, popz]; rfl
theorem popz_len : ∀ st : List Nat, (popz st).length ≤ st.length
  | [] => Nat.le_refl _
  | 0 :: st => by simp only [popz]; have := popz_len st; simp; omega
  | (n + 1) :: st => by simp [popz]
theorem popz_mem : ∀ (st : List Nat) (B : Nat), (∀ n ∈ st, n ≤ B) → ∀ n ∈ popz st, n ≤ B
  | [], _, _, n, h => by cases h
  | 0 :: st, B, hB, n, h => popz_mem st B (fun m hm => hB m (by simp [hm])) n (by simpa [popz] using h)
  | (q + 1) :: st, B, hB, n, h => hB n h
theorem popz_pos : ∀ st : List Nat, popz st = [] ∨ ∃ n t, popz st = (n + 1) :: t
  | [] => .inl rfl
  | 0 :: st => by rw [popz]; exact popz_pos st
  | (n + 1) :: st => .inr ⟨n, st, rfl⟩
theorem rd_top (n : Nat) (st : List Nat) : rd (ints (n :: st)) (st.length : Int) = (n : Int) := by
  rw [ints_cons]
  simp [rd, List.getD_eq_getElem?_getD, List.getElem?_append_right, ints_len]
theorem rDepth_in (l : List S36) (hl : l.length ≤ 2100) (b : Int) (i : Nat) (hi : i + 1 ≤ 5000) (v : Int) : ∀ st : List Nat, st.length ≤ 5000 → (∀ n ∈ st, n ≤ 2100) →
    EvTo (fun k => chrysalisref09_Depth.l0 k l (ints (popz st)) b ((i + 1 : Nat) : Int)) v → EvTo (fun k => chrysalisref09_Depth.l1 k l (ints st) b (i : Int)) v := by
  intro st
  induction st with
  | nil =>
    intro hs hB h
    refine EvTo.step (fun k => by rw [chrysalisref09_Depth.l1]) ?_
    rw [inc i (by omega)]
    exact EvTo.neg (by simp [ints]) h
  | cons n st ih =>
    intro hs hB h
    simp only [List.length_cons] at hs
    have hlen : ((ints (n :: st)).length : Int) = (st.length : Int) + 1 := by rw [ints_len]; simp
    refine EvTo.step (fun k => by rw [chrysalisref09_Depth.l1]) ?_
    rw [hlen, show wrap64 ((st.length : Int) + 1 - 1) = (st.length : Int) by unfold wrap64; omega, inc i (by omega), rd_top]
    refine EvTo.pos (by omega) (EvTo.pos (by omega) (EvTo.pos (by omega) ?_))
    rw [Int.toNat_natCast]
    cases n with
    | zero =>
      refine EvTo.pos rfl (EvTo.pos (by omega) ?_)
      have ht : (ints (0 :: st)).take st.length = ints st := by
        rw [ints_cons]
        exact List.take_left' (ints_len st)
      rw [ht]
      rw [popz] at h
      exact ih (by omega) (fun q hq => hB q (by simp [hq])) h
    | succ n =>
      exact EvTo.neg (by omega) h
theorem rDepth_j (l : List S36) (hl : l.length ≤ 2100) (i : Nat) (hi : i < l.length) (h0 : 0 ≤ l[i].f1) (h9 : l[i].f1 ≤ 2100) (b : Nat) (hb : b ≤ i) (st : List Nat) (hs : st.length ≤ i) (hB : ∀ n ∈ st, n ≤ 2100) (v : Int)
    (h : EvTo (fun k => chrysalisref09_Depth.l0 k l (ints (popz (l[i].f1.toNat :: st))) ((max b (st.length + 1) : Nat) : Int) ((i + 1 : Nat) : Int)) v) :
    EvTo (fun k => chrysalisref09_Depth.j1 k l (ints st) (b : Int) (i : Int)) v := by
  refine EvTo.step (fun k => by rw [chrysalisref09_Depth.j1]) ?_
  refine EvTo.pos (by omega) (EvTo.pos (by omega) (EvTo.pos (by rw [ints_len]; omega) ?_))
  have hpush : ints st ++ [(rd_T36 l (i : Int)).f1] = ints (l[i].f1.toNat :: st) := by
    rw [ints_cons, Int.toNat_of_nonneg h0, rd36 l i hi]
  simp only [hpush, Option.bind_some]
  have hln : ((ints (l[i].f1.toNat :: st)).length : Int) = ((st.length + 1 : Nat) : Int) := by rw [ints_len]; simp
  have go : ∀ c : Nat, c = max b (st.length + 1) → EvTo (fun k => chrysalisref09_Depth.j2 k l (ints (l[i].f1.toNat :: st)) (c : Int) (i : Int)) v := by
    rintro c rfl
    refine EvTo.step (fun k => by rw [chrysalisref09_Depth.j2]) ?_
    refine rDepth_in l hl _ i (by omega) v _ (by simp; omega) ?_ h
    intro n hn
    rcases List.mem_cons.1 hn with rfl | hn
    · omega
    · exact hB n hn
  rw [hln]
  by_cases c : ((st.length + 1 : Nat) : Int) > (b : Int)
  · exact EvTo.pos c (go (st.length + 1) (by omega))
  · exact EvTo.neg c (go b (by omega))
theorem rDepth_l (l : List S36) (hl : l.length ≤ 2100) : ∀ (m i : Nat) (st : List Nat) (b : Nat), l.length = m + i → st.length ≤ i → b ≤ i → (∀ n ∈ st, n ≤ 2100) → (st = [] ∨ ∃ n t, st = (n + 1) :: t) →
    EvTo (fun k => chrysalisref09_Depth.l0 k l (ints st) (b : Int) (i : Int)) (if wholeB l m then (depF (l.drop i) (less1 st) b : Int) else -1) := by
  intro m
  induction m with
  | zero =>
    intro i st b h1 h2 h3 h4 h5
    rw [List.drop_eq_nil_of_le (by omega)]
    refine EvTo.step (fun k => by rw [chrysalisref09_Depth.l0]) ?_
    exact EvTo.neg (by omega) EvTo.now
  | succ m ih =>
    intro i st b h1 h2 h3 h4 h5
    have hi : i < l.length := by omega
    refine EvTo.step (fun k => by rw [chrysalisref09_Depth.l0]) ?_
    refine EvTo.pos (by omega) (EvTo.bind (rEnd_E l hl (i : Int)) ?_)
    have he : endI l (i : Int) = endV i (endF l.length (l.drop i) 1) := by
      unfold endI
      rw [if_neg (by omega), Int.toNat_natCast]
    rw [he]
    simp only [wholeB, show l.length - (m + 1) = i by omega]
    cases hF : endF l.length (l.drop i) 1 with
    | none => exact EvTo.pos (by simp [endV]) EvTo.now
    | some q =>
      refine EvTo.neg (by simp only [endV]; omega) ?_
      have hk : 0 ≤ l[i].f1 ∧ l[i].f1 ≤ 2100 := by
        rw [List.drop_eq_getElem_cons hi] at hF
        simp only [endF] at hF
        split at hF
        · cases hF
        · omega
      simp only [Option.isSome_some, Bool.true_and]
      have hl1 : (less1 st).length = st.length := by cases st <;> rfl
      have hB1 : ∀ n ∈ less1 st, n ≤ 2100 := by
        intro n hn
        cases st with
        | nil => cases hn
        | cons x t =>
          rcases List.mem_cons.1 hn with rfl | hn
          · have := h4 x (by simp); omega
          · exact h4 n (by simp [hn])
      have hm : ∀ n ∈ l[i].f1.toNat :: less1 st, n ≤ 2100 := by
        intro n hn
        rcases List.mem_cons.1 hn with rfl | hn
        · omega
        · exact hB1 n hn
      have hcl := popz_len (l[i].f1.toNat :: less1 st)
      simp only [List.length_cons] at hcl
      have hnext := ih (i + 1) (popz (l[i].f1.toNat :: less1 st)) (max b ((less1 st).length + 1)) (by omega) (by omega) (by omega) (popz_mem _ 2100 hm) (popz_pos _)
      rw [← close_popz] at hnext
      rw [List.drop_eq_getElem_cons hi]
      have hj := rDepth_j l hl i hi hk.1 hk.2 b h3 (less1 st) (by omega) hB1 _ hnext
      rcases h5 with rfl | ⟨n, t, rfl⟩
      · exact EvTo.neg (by simp [ints]) hj
      · have hlen : ((ints ((n + 1) :: t)).length : Int) = (t.length : Int) + 1 := by rw [ints_len]; simp
        simp only [List.length_cons] at h2
        have hn := h4 (n + 1) (by simp)
        rw [hlen, show wrap64 ((t.length : Int) + 1 - 1) = (t.length : Int) by unfold wrap64; omega, rd_top]
        refine EvTo.pos (by omega) (EvTo.pos (by omega) (EvTo.pos (by omega) ?_))
        rw [Int.toNat_natCast]
        have hset : (ints ((n + 1) :: t)).set t.length (wrap64 (((n + 1 : Nat) : Int) - 1)) = ints (less1 ((n + 1) :: t)) := by
          rw [show wrap64 (((n + 1 : Nat) : Int) - 1) = (n : Int) by unfold wrap64; omega, less1, Nat.add_sub_cancel, ints_cons, ints_cons, List.set_append]
          simp [ints_len]
        rw [hset]
        exact hj
theorem rDepth_E (l : List S36) (hl : l.length ≤ 2100) : EvTo (fun k => chrysalisref09_Depth.f k l) (if wholeB l l.length then (depF l [] 0 : Int) else -1) := by
  have h := rDepth_l l hl l.length 0 [] 0 (by omega) (by simp) (by omega) (by simp) (.inl rfl)
  exact h
end Go.Proofs.Ytclhaajlgmiilaa.Tree
end
section
set_option linter.unusedVariables false
set_option linter.unusedSimpArgs false
namespace Go.Proofs.Ytclhaajlgmiilaa.Lex
open Go Go.RowKit Go.Proofs.YtclhaajlgmiilaaW.PrintWords Go.Proofs.Ytclhaajlgmiilaa.Q

theorem inc (i n : Nat) (h : i + 1 ≤ 9223372036854775807) : wrap64 ((i : Int) + 1) = ((i + 1 : Nat) : Int) := by
  unfold wrap64; omega
theorem le_inn {c : UInt8} (h : le c = true) : inn c = true := by simp [inn, h]
theorem rletter_f (c : UInt8) : chrysalisref08_letter.f (c.toNat : Int) = some (le c) := letter_f c
theorem rdigit_f (c : UInt8) : chrysalisref08_digit.f (c.toNat : Int) = some (di c) := digit_f c
def wordN (l : List UInt8) : Nat := match l with | [] => 0 | c :: _ => if le c then (l.takeWhile inn).length else 0
theorem rword_l (s : ByteArray) (hs : s.size ≤ 140737488351232) (at' : Nat) : ∀ (m n : Nat), s.size = m + (at' + n) → 0 < n →
    EvTo (fun k => chrysalisref08_word.l0 k s (at' : Int) (n : Int)) ((n + (((L s).drop (at' + n)).takeWhile inn).length : Nat) : Int) := by
  intro m
  induction m with
  | zero =>
    intro n h1 h2
    rw [List.drop_eq_nil_of_le (by rw [← L_size]; omega)]
    have hw : wrap64 ((at' : Int) + (n : Int)) = ((at' + n : Nat) : Int) := by rw [w64 _ (by omega)]; omega
    refine EvTo.step (fun k => by rw [chrysalisref08_word.l0]) ?_
    simp only [hw]
    exact EvTo.neg (by omega) EvTo.now
  | succ m ih =>
    intro n h1 h2
    have hd := drop_getD (L s) (at' + n) (by rw [← L_size]; omega)
    have hb := bt_L s (at' + n)
    generalize (L s).getD (at' + n) 0 = c at hd hb
    have hw : wrap64 ((at' : Int) + (n : Int)) = ((at' + n : Nat) : Int) := by rw [w64 _ (by omega)]; omega
    have hinc : wrap64 ((n : Int) + 1) = ((n + 1 : Nat) : Int) := inc n 0 (by omega)
    have e1 : ((c.toNat : Int) = 95) ↔ c = 95 := u8_iff c 95
    have hnext : inn c = true → EvTo (fun k => chrysalisref08_word.l0 k s (at' : Int) ((n + 1 : Nat) : Int)) ((n + (((L s).drop (at' + n)).takeWhile inn).length : Nat) : Int) := by
      intro hi
      have := ih (n + 1) (by omega) (by omega)
      rw [hd, List.takeWhile_cons, if_pos hi, List.length_cons]
      have e : n + ((((L s).drop (at' + n + 1)).takeWhile inn).length + 1) = n + 1 + (((L s).drop (at' + (n + 1))).takeWhile inn).length := by
        rw [show at' + n + 1 = at' + (n + 1) by omega]; omega
      rw [e]
      exact this
    have hstop : inn c = false → (n + (((L s).drop (at' + n)).takeWhile inn).length) = n := by
      intro hi
      rw [hd, List.takeWhile_cons, if_neg (by rw [hi]; simp)]; rfl
    refine EvTo.step (fun k => by rw [chrysalisref08_word.l0]) ?_
    simp only [hw, hb, hinc, rletter_f, rdigit_f, Option.bind_some]
    refine EvTo.pos (by omega) (EvTo.pos (by omega) ?_)
    by_cases c1 : le c = true
    · exact EvTo.pos c1 (hnext (le_inn c1))
    · refine EvTo.neg c1 (EvTo.pos (by omega) ?_)
      by_cases c2 : di c = true
      · exact EvTo.pos c2 (hnext (by simp [inn, c2]))
      · refine EvTo.neg c2 ?_
        by_cases c3 : c = 95
        · exact EvTo.pos (e1.2 c3) (hnext (by simp [inn, c3]))
        · refine EvTo.neg (fun h => c3 (e1.1 h)) ?_
          rw [hstop (by simp [inn, c1, c2, c3])]
          exact EvTo.now
theorem rword_f (s : ByteArray) (hs : s.size ≤ 140737488351232) (at' : Nat) (ha : at' ≤ s.size) : EvTo (fun k => chrysalisref08_word.f k s (at' : Int)) ((wordN ((L s).drop at') : Nat) : Int) := by
  unfold chrysalisref08_word.f
  have hw : wrap64 ((at' : Int) + 0) = ((at' : Nat) : Int) := by rw [w64 _ (by omega)]; omega
  have hinc : wrap64 ((0 : Int) + 1) = ((1 : Nat) : Int) := by rw [w64 _ (by omega)]; rfl
  refine EvTo.step (fun k => by rw [chrysalisref08_word.l0]) ?_
  simp only [hw, hinc]
  by_cases h : at' < s.size
  · have hd := drop_getD (L s) at' (by rw [← L_size]; omega)
    have hb := bt_L s at'
    generalize (L s).getD at' 0 = c at hd hb
    simp only [hb, rletter_f, rdigit_f, Option.bind_some]
    refine EvTo.pos (by omega) (EvTo.pos (by omega) ?_)
    by_cases c1 : le c = true
    · refine EvTo.pos c1 ?_
      have := rword_l s hs at' (s.size - at' - 1) 1 (by omega) (by omega)
      rw [hd]
      simp only [wordN, c1, if_true, List.takeWhile_cons, le_inn c1, List.length_cons]
      rw [show (List.takeWhile inn (List.drop (at' + 1) (L s))).length + 1 = 1 + (List.takeWhile inn (List.drop (at' + 1) (L s))).length by omega]
      exact this
    · refine EvTo.neg c1 (EvTo.neg (by omega) ?_)
      rw [hd]
      simp only [wordN, c1]
      exact EvTo.now
  · refine EvTo.neg (by omega) ?_
    rw [List.drop_eq_nil_of_le (by rw [← L_size]; omega)]
    exact EvTo.now
theorem rd_list (l : List ByteArray) (i : Nat) (h : i < l.length) : rdOf ByteArray.empty l (i : Int) = l[i] := by
  simp [rdOf, List.getD_eq_getElem?_getD, List.getElem?_eq_getElem h]
theorem rKey_l (s : ByteArray) (l : List ByteArray) (hl : l.length ≤ 1000) : ∀ (m i : Nat), l.length = m + i →
    EvTo (fun k => chrysalisref08_Key.l0 k s l (i : Int)) (((l.drop i).map L).contains (L s)) := by
  intro m
  induction m with
  | zero =>
    intro i h1
    rw [List.drop_eq_nil_of_le (by omega)]
    refine EvTo.step (fun k => by rw [chrysalisref08_Key.l0]) ?_
    exact EvTo.neg (by omega) EvTo.now
  | succ m ih =>
    intro i h1
    have hi : i < l.length := by omega
    refine EvTo.step (fun k => by rw [chrysalisref08_Key.l0]) ?_
    refine EvTo.pos (by omega) (EvTo.pos (by omega) ?_)
    simp only [rd_list l i hi]
    rw [List.drop_eq_getElem_cons hi, List.map_cons, List.contains_cons]
    by_cases c : L l[i] = L s
    · refine EvTo.pos (by rw [L_toList, L_toList]; exact c) ?_
      rw [show (L s == L l[i]) = true from beq_iff_eq.2 c.symm]
      exact EvTo.now
    · refine EvTo.neg (by rw [L_toList, L_toList]; exact c) ?_
      rw [show (L s == L l[i]) = false from beq_eq_false_iff_ne.2 (fun e => c e.symm), Bool.false_or, inc i 0 (by omega)]
      exact ih (i + 1) (by omega)
theorem rKey_f (s : ByteArray) : EvTo (fun k => chrysalisref08_Key.f k s) (isKey (L s)) := by
  unfold chrysalisref08_Key.f
  exact rKey_l s _ (by simp) 20 0 (by simp)
theorem rName_f (s : ByteArray) (hs : s.size ≤ 140737488351232) : EvTo (fun k => chrysalisref08_Name.f k s) (isName (L s)) := by
  unfold chrysalisref08_Name.f
  have hL := L_size s
  by_cases h : (s.size : Int) > 0
  · refine EvTo.pos h ?_
    by_cases h2 : (s.size : Int) ≤ 16
    · refine EvTo.pos h2 ?_
      have hw := rword_f s hs 0 (by omega)
      rw [List.drop_zero] at hw
      refine EvTo.bind hw ?_
      have hiff : (wordN (L s) = (L s).length) ↔ isWord (L s) = true := by
        rcases hl : L s with _ | ⟨c, t⟩
        · rw [hl, List.length_nil] at hL; omega
        · simp only [wordN, isWord, Bool.and_eq_true]
          by_cases c1 : le c = true
          · rw [if_pos c1, takeWhile_all]
            exact ⟨fun q => ⟨c1, q⟩, fun q => q.2⟩
          · rw [if_neg c1]
            constructor
            · intro q; simp at q
            · intro q; exact absurd q.1 c1
      by_cases h3 : isWord (L s) = true
      · refine EvTo.pos (by rw [hiff.2 h3, ← hL]) ?_
        have e : isName (L s) = !isKey (L s) := by
          unfold isName
          rw [h3, show decide ((L s).length ≤ 16) = true from decide_eq_true (by omega)]
          rfl
        rw [e]
        exact EvTo.bind (rKey_f s) EvTo.now
      · refine EvTo.neg (fun q => h3 (hiff.1 (by omega))) ?_
        have e : isName (L s) = false := by
          unfold isName
          rw [show isWord (L s) = false by simpa using h3]
          rfl
        rw [e]
        exact EvTo.now
    · refine EvTo.neg h2 ?_
      have e : isName (L s) = false := by
        unfold isName
        rw [show decide ((L s).length ≤ 16) = false from decide_eq_false (by omega)]
        simp
      rw [e]
      exact EvTo.now
  · refine EvTo.neg h ?_
    have e : L s = [] := List.eq_nil_of_length_eq_zero (by omega)
    rw [e]
    exact EvTo.now
end Go.Proofs.Ytclhaajlgmiilaa.Lex
end
