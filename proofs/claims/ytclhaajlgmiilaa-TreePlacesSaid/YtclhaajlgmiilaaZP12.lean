/- Walks over functions of the program, words for them, and what the functions come to; of each text only what this claim uses; no condition. -/
import Derived.Test.YtclhaajlgmiilaaZP0
import Derived.Test.YtclhaajlgmiilaaZP3
import Derived.Test.YtclhaajlgmiilaaZP8
import Derived.Test.YtclhaajlgmiilaaZP9
import Derived.Test.YtclhaajlgmiilaaZP10
import Derived.Test.YtclhaajlgmiilaaZP11
import Derived.ProofKit
import Derived.Deep.Slices

section
set_option linter.unusedVariables false
set_option linter.unusedSimpArgs false
namespace Go.Proofs.Ytclhaajlgmiilaa.Lex
open Go

/-- A function of a number of rounds comes to a value, and stays there. -/
def EvTo {α : Type} (F : Nat → Option α) (v : α) : Prop := ∃ k, ∀ j, k ≤ j → F j = some v
theorem EvTo.now {α : Type} {v : α} : EvTo (fun _ => some v) v := ⟨0, fun _ _ => rfl⟩
theorem EvTo.of_eq {α : Type} {F : Nat → Option α} {v : α} (h : ∀ k, F k = some v) : EvTo F v := ⟨0, fun _ _ => h _⟩
theorem EvTo.congr {α : Type} {F G : Nat → Option α} {v : α} (h : ∀ k, F k = G k) (g : EvTo G v) : EvTo F v := by
  obtain ⟨k, hk⟩ := g
  exact ⟨k, fun j hj => (h j).trans (hk j hj)⟩
theorem EvTo.step {α : Type} {F G : Nat → Option α} {v : α} (h : ∀ k, F (k + 1) = G k) (g : EvTo G v) : EvTo F v := by
  obtain ⟨k, hk⟩ := g
  refine ⟨k + 1, fun j hj => ?_⟩
  obtain ⟨i, rfl⟩ : ∃ i, j = i + 1 := ⟨j - 1, by omega⟩
  rw [h]
  exact hk i (by omega)
theorem EvTo.bind {α β : Type} {F : Nat → Option α} {G : Nat → α → Option β} {v : α} {u : β} (f : EvTo F v) (g : EvTo (fun k => G k v) u) : EvTo (fun k => (F k).bind (G k)) u := by
  obtain ⟨k1, h1⟩ := f
  obtain ⟨k2, h2⟩ := g
  refine ⟨k1 + k2, fun j hj => ?_⟩
  show (F j).bind (G j) = some u
  rw [h1 j (by omega)]
  exact h2 j (by omega)
theorem EvTo.pos {α : Type} {F G : Nat → Option α} {v : α} {c : Prop} [Decidable c] (h : c) (f : EvTo F v) : EvTo (fun k => if c then F k else G k) v := EvTo.congr (fun k => if_pos h) f
theorem EvTo.neg {α : Type} {F G : Nat → Option α} {v : α} {c : Prop} [Decidable c] (h : ¬c) (g : EvTo G v) : EvTo (fun k => if c then F k else G k) v := EvTo.congr (fun k => if_neg h) g
theorem EvTo.one {α : Type} {F : Nat → Option α} {v : α} (h : EvTo F v) : ∃ k, F k = some v := by
  obtain ⟨k, hk⟩ := h
  exact ⟨k, hk k (Nat.le_refl k)⟩
theorem EvTo.of_one {α : Type} {F : Nat → Option α} {v : α} (m : ∀ k r, F k = some r → F (k + 1) = some r) (k : Nat) (h : F k = some v) : EvTo F v := by
  refine ⟨k, fun j hj => ?_⟩
  induction hj with
  | refl => exact h
  | step _ ih => exact m _ _ ih

/-! The kinds of bytes. -/
def le (c : UInt8) : Bool := decide (97 ≤ c.toNat ∧ c.toNat ≤ 122)
def di (c : UInt8) : Bool := decide (48 ≤ c.toNat ∧ c.toNat ≤ 57)
def inn (c : UInt8) : Bool := le c || di c || c == 95

def KEYS : List (List UInt8) := [[109, 111, 100, 117, 108, 101], [117, 115, 101], [102, 110], [108, 101, 116], [105, 102], [101, 108, 115, 101], [119, 104, 105, 108, 101], [98, 114, 101, 97, 107], [99, 111, 110, 116, 105, 110, 117, 101], [114, 101, 116, 117, 114, 110], [112, 117, 116], [101, 109, 105, 116], [121, 105, 101, 108, 100], [110, 105, 108], [115, 116, 97, 116, 101], [115, 112, 97, 119, 110], [108, 101, 110], [110, 111, 116], [97, 110, 100], [111, 114]]
def isKey (s : List UInt8) : Bool := KEYS.contains s

/-- What a mask makes of a byte. -/
def esc (c : UInt8) : Option UInt8 := if c = 110 then some 10 else if c = 34 then some 34 else if c = 92 then some 92 else none
/-- What a quoted text says, behind its first sign, and what is left behind it; is the next byte masked? -/
def unq : Bool → List UInt8 → Option (List UInt8 × List UInt8)
  | _, [] => none
  | true, c :: t => match esc c with
    | none => none
    | some x => (unq false t).map fun r => (x :: r.1, r.2)
  | false, c :: t => if c = 34 then some ([], t) else if c = 10 then none else if c = 92 then unq true t else (unq false t).map fun r => (c :: r.1, r.2)

def nstep (n : Int) (c : UInt8) : Int := IntKind.u64.wrap (IntKind.u64.wrap (10 * n) + (((c.toNat : Int) - 48) % 256))
def num (s : List UInt8) : Int := s.foldl nstep 0
def long (s : List UInt8) : Bool := decide (19 < s.length) || (decide (1 < s.length) && s.head? == some 48)
/-- Digits' number, and whether it is one. -/
def numOf (s : List UInt8) : Int × Bool := if long s then (0, false) else (RowKit.wrap64 (num s), decide (num s < 9223372036854775808))

def PAIRS : List (List UInt8) := [[61, 61], [33, 61], [60, 61], [46, 46]]
def SINGLES : List UInt8 := [40, 41, 123, 125, 91, 93, 44, 59, 46, 47, 61, 60, 43, 45, 42, 37]
/-- The mark with which a text begins. -/
def mark (l : List UInt8) : List UInt8 := if PAIRS.contains (l.take 2) then l.take 2 else if (match l with | [] => false | c :: _ => SINGLES.contains c) then l.take 1 else []

/-- The token with which a text begins (kind, text, number) and how many bytes it has; or the fault. -/
def one (l : List UInt8) : Except Int (Int × List UInt8 × Int × Nat) :=
  match l with
  | [] => .error 0
  | c :: t =>
    if le c then
      let w := (c :: t).takeWhile inn
      if isKey w then .ok (5, w, 0, w.length) else if w.length ≤ 16 then .ok (1, w, 0, w.length) else .error 10
    else if di c then
      let d := (c :: t).takeWhile di
      if (numOf d).2 then .ok (2, d, (numOf d).1, d.length) else .error 10
    else if c = 34 then
      match unq false t with
      | some (x, r) => .ok (3, x, 0, (c :: t).length - r.length)
      | none => .error 10
    else
      let m := mark (c :: t)
      if m = [] then .error 9 else .ok (4, m, 0, m.length)

end Go.Proofs.Ytclhaajlgmiilaa.Lex
end
section
set_option linter.unusedVariables false
set_option linter.unusedSimpArgs false
namespace Go.Proofs.Ytclhaajlgmiilaa.Tree
open Go Go.RowKit Go.Proofs.YtclhaajlgmiilaaW.PrintWords Go.Proofs.Ytclhaajlgmiilaa.Q Go.Proofs.Ytclhaajlgmiilaa.Lex

theorem known_E : EvTo (fun k => chrysalislaw09_known.f k) true := EvTo.of_one (fun k r h => chrysalislaw09_known.mono k r h) 120 chrysalislaw09_known.at
theorem known_B : EvTo (fun k => (chrysalislaw09_known.f k).bind fun t => some t) true := EvTo.bind known_E EvTo.now
theorem inc (i : Nat) (h : i + 1 ≤ 9223372036854775807) : wrap64 ((i : Int) + 1) = ((i + 1 : Nat) : Int) := by unfold wrap64; omega
theorem rd36 (l : List S36) (i : Nat) (h : i < l.length) : rd_T36 l (i : Int) = l[i] := by
  simp [rd_T36, List.getD_eq_getElem?_getD, List.getElem?_eq_getElem h]

/-- Nodes are light: few, their names and texts short. -/
def light (l : List S36) : Prop := l.length ≤ 2100 ∧ ∀ x ∈ l, x.f2.size ≤ 2000 ∧ x.f4.size ≤ 2000
theorem Light_l (l : List S36) (hl : l.length ≤ 2100) : ∀ (m i : Nat), l.length = m + i →
    ∃ b, EvTo (fun k => chrysalisref09_Light.l0 k l (i : Int)) b ∧ (b = true → ∀ j, i ≤ j → ∀ h : j < l.length, l[j].f2.size ≤ 2000 ∧ l[j].f4.size ≤ 2000) := by
  intro m
  induction m with
  | zero =>
    intro i h1
    refine ⟨true, EvTo.step (fun k => by rw [chrysalisref09_Light.l0]) (EvTo.neg (by omega) EvTo.now), fun _ j h2 h3 => by omega⟩
  | succ m ih =>
    intro i h1
    have hi : i < l.length := by omega
    by_cases c1 : (l[i].f2.size : Int) > 2000
    · refine ⟨false, EvTo.step (fun k => by rw [chrysalisref09_Light.l0]) (EvTo.pos (by omega) (EvTo.pos (by omega) ?_)), fun h => by cases h⟩
      rw [rd36 l i hi]
      exact EvTo.pos c1 EvTo.now
    by_cases c2 : (l[i].f4.size : Int) > 2000
    · refine ⟨false, EvTo.step (fun k => by rw [chrysalisref09_Light.l0]) (EvTo.pos (by omega) (EvTo.pos (by omega) ?_)), fun h => by cases h⟩
      rw [rd36 l i hi]
      exact EvTo.neg c1 (EvTo.pos c2 EvTo.now)
    obtain ⟨b, hb, hp⟩ := ih (i + 1) (by omega)
    refine ⟨b, EvTo.step (fun k => by rw [chrysalisref09_Light.l0]) (EvTo.pos (by omega) (EvTo.pos (by omega) ?_)), fun h j h2 h3 => ?_⟩
    · rw [rd36 l i hi, inc i (by omega)]
      exact EvTo.neg c1 (EvTo.neg c2 hb)
    · rcases Nat.eq_or_lt_of_le h2 with rfl | h2
      · exact ⟨by omega, by omega⟩
      · exact hp h j h2 h3
theorem Light_E (l : List S36) : ∃ b, EvTo (fun k => chrysalisref09_Light.f k l) b ∧ (b = true → light l) := by
  unfold chrysalisref09_Light.f
  by_cases c : (l.length : Int) > 2100
  · exact ⟨false, EvTo.pos c EvTo.now, fun h => by cases h⟩
  obtain ⟨b, hb, hp⟩ := Light_l l (by omega) l.length 0 (by omega)
  refine ⟨b, EvTo.neg c hb, fun h => ⟨by omega, fun x hx => ?_⟩⟩
  obtain ⟨j, hj, rfl⟩ := List.getElem_of_mem hx
  exact hp h j (Nat.zero_le _) hj

/-- Two nodes are alike. -/
def eqN (a b : S36) : Bool := a.f0 == b.f0 && (a.f1 == b.f1 && (a.f2.toList == b.f2.toList && (a.f3 == b.f3 && a.f4.toList == b.f4.toList)))
theorem neN (a b : S36) : (!(a.f0 == b.f0) || (!(a.f1 == b.f1) || (!(a.f2.toList == b.f2.toList) || (!(a.f3 == b.f3) || !(a.f4.toList == b.f4.toList))))) = !eqN a b := by
  unfold eqN
  cases (a.f0 == b.f0) <;> cases (a.f1 == b.f1) <;> cases (a.f2.toList == b.f2.toList) <;> cases (a.f3 == b.f3) <;> cases (a.f4.toList == b.f4.toList) <;> rfl
theorem eqN_self (a : S36) : eqN a a = true := by simp [eqN]
end Go.Proofs.Ytclhaajlgmiilaa.Tree
end
section
set_option linter.unusedVariables false
set_option linter.unusedSimpArgs false
namespace Go.Proofs.Ytclhaajlgmiilaa.Tree
open Go Go.RowKit Go.Proofs.YtclhaajlgmiilaaW.PrintWords Go.Proofs.Ytclhaajlgmiilaa.Q Go.Proofs.Ytclhaajlgmiilaa.Lex

/-- How many nodes stand there till so many trees are whole; each node's kids are at most so many. -/
def endF (n : Nat) : List S36 → Nat → Option Nat
  | [], _ => none
  | x :: t, w => if x.f1 < 0 ∨ (n : Int) < x.f1 then none else if w - 1 + x.f1.toNat = 0 then some 1 else (endF n t (w - 1 + x.f1.toNat)).map (· + 1)
def endV (i : Nat) : Option Nat → Int
  | none => -1
  | some m => ((i + m : Nat) : Int)
def endI (l : List S36) (i : Int) : Int := if i < 0 then -1 else endV i.toNat (endF l.length (l.drop i.toNat) 1)
theorem endV_map (i : Nat) (o : Option Nat) : endV i (o.map (· + 1)) = endV (i + 1) o := by
  cases o with
  | none => rfl
  | some m => simp only [Option.map_some, endV]; omega
theorem w64 {n : Int} (h : -9223372036854775808 ≤ n) (h2 : n ≤ 9223372036854775807) : wrap64 n = n := by unfold wrap64; omega
theorem End_l (l : List S36) (hl : l.length ≤ 2100) : ∀ (m i w : Nat), l.length = m + i → 1 ≤ w → w ≤ 1 + i * 2100 →
    EvTo (fun k => tree_End.l0 k l (i : Int) (w : Int)) (endV i (endF l.length (l.drop i) w)) := by
  intro m
  induction m with
  | zero =>
    intro i w h1 h2 h3
    rw [List.drop_eq_nil_of_le (by omega)]
    refine EvTo.step (fun k => by rw [tree_End.l0]) ?_
    exact EvTo.neg (by omega) EvTo.now
  | succ m ih =>
    intro i w h1 h2 h3
    have hi : i < l.length := by omega
    rw [List.drop_eq_getElem_cons hi]
    refine EvTo.step (fun k => by rw [tree_End.l0]) ?_
    refine EvTo.pos (by omega) (EvTo.pos (by omega) ?_)
    rw [rd36 l i hi]
    simp only [endF]
    by_cases c1 : l[i].f1 < 0
    · rw [if_pos (.inl c1)]
      refine EvTo.pos c1 ?_
      refine EvTo.step (fun k => by rw [tree_End.j1]) ?_
      exact EvTo.pos rfl EvTo.now
    refine EvTo.neg c1 ?_
    refine EvTo.step (fun k => by rw [tree_End.j1]) ?_
    by_cases c2 : (l.length : Int) < l[i].f1
    · rw [if_pos (.inr c2)]
      exact EvTo.pos (decide_eq_true c2) EvTo.now
    refine EvTo.neg (by simpa using c2) ?_
    rw [if_neg (by omega)]
    have e2 : wrap64 ((w : Int) + wrap64 (l[i].f1 - 1)) = ((w - 1 + l[i].f1.toNat : Nat) : Int) := by
      rw [w64 (n := l[i].f1 - 1) (by omega) (by omega), w64 (by omega) (by omega)]
      omega
    rw [e2, inc i (by omega)]
    by_cases c3 : w - 1 + l[i].f1.toNat = 0
    · rw [if_pos c3]
      refine EvTo.pos (by omega) (EvTo.of_eq fun k => ?_)
      simp only [endV]
    · rw [if_neg c3, endV_map]
      refine EvTo.neg (by omega) ?_
      exact ih (i + 1) _ (by omega) (by omega) (by omega)
theorem End_E (l : List S36) (hl : l.length ≤ 2100) (i : Int) : EvTo (fun k => tree_End.f k l i) (endI l i) := by
  unfold tree_End.f endI
  by_cases c : i < 0
  · rw [if_pos c]; exact EvTo.pos c EvTo.now
  rw [if_neg c]
  refine EvTo.neg c ?_
  by_cases c2 : i.toNat ≤ l.length
  · have h := End_l l hl (l.length - i.toNat) i.toNat 1 (by omega) (by omega) (by omega)
    rw [show ((i.toNat : Nat) : Int) = i by omega] at h
    exact h
  · rw [List.drop_eq_nil_of_le (by omega)]
    refine EvTo.step (fun k => by rw [tree_End.l0]) ?_
    exact EvTo.neg (by omega) EvTo.now

/-! What an end says. -/
theorem endF_le (n : Nat) : ∀ (t : List S36) (w m : Nat), endF n t w = some m → 1 ≤ m ∧ m ≤ t.length := by
  intro t
  induction t with
  | nil => intro w m h; cases h
  | cons x t ih =>
    intro w m h
    simp only [endF] at h
    split at h
    · cases h
    · split at h
      · cases h; simp
      · obtain ⟨q, hq, rfl⟩ := Option.map_eq_some_iff.1 h
        have := ih _ _ hq
        simp; omega
/-- The kids of a tree's nodes are fewer than its nodes. -/
theorem endF_kids (n : Nat) : ∀ (t : List S36) (w m : Nat), endF n t w = some m → 1 ≤ w → ∀ x ∈ t.take m, 0 ≤ x.f1 ∧ (w : Int) + x.f1 ≤ m := by
  intro t
  induction t with
  | nil => intro w m h; cases h
  | cons x t ih =>
    intro w m h hw y hy
    have hlen : ∀ (t : List S36) (w m : Nat), endF n t w = some m → 1 ≤ w → w ≤ m := by
      intro t
      induction t with
      | nil => intro w m h; cases h
      | cons x t ih =>
        intro w m h hw
        simp only [endF] at h
        split at h
        · cases h
        · split at h
          · cases h; omega
          · obtain ⟨q, hq, rfl⟩ := Option.map_eq_some_iff.1 h
            have := ih _ _ hq (by omega)
            omega
    simp only [endF] at h
    split at h
    · cases h
    · rename_i hc
      split at h
      · cases h
        simp at hy
        subst hy
        omega
      · rename_i h0
        obtain ⟨q, hq, rfl⟩ := Option.map_eq_some_iff.1 h
        rw [List.take_succ_cons] at hy
        have h2 := hlen _ _ _ hq (by omega)
        rcases List.mem_cons.1 hy with rfl | hy
        · omega
        · have := ih _ _ hq (by omega) y hy
          omega
end Go.Proofs.Ytclhaajlgmiilaa.Tree
end
section
set_option linter.unusedVariables false
set_option linter.unusedSimpArgs false
namespace Go.Proofs.Ytclhaajlgmiilaa.Tree
open Go Go.RowKit Go.Proofs.YtclhaajlgmiilaaW.PrintWords Go.Proofs.Ytclhaajlgmiilaa.Q Go.Proofs.Ytclhaajlgmiilaa.Lex

/-- The nodes around, with the kids that are missing, the innermost first: those that miss none are left. -/
def close : List Nat → List Nat
  | [] => []
  | 0 :: st => close st
  | (n + 1) :: st => n :: st
/-- The deepest, over nodes, from nodes around on. -/
def depF : List S36 → List Nat → Nat → Nat
  | [], _, b => b
  | x :: t, st, b => depF t (close (x.f1.toNat :: st)) (max b (st.length + 1))
/-- Each node begins a tree that is whole. -/
def wholeB (l : List S36) : Nat → Bool
  | 0 => true
  | m + 1 => (endF l.length (l.drop (l.length - (m + 1))) 1).isSome && wholeB l m
def ints (st : List Nat) : List Int := (st.map Int.ofNat).reverse
theorem ints_len (st : List Nat) : (ints st).length = st.length := by simp [ints]
theorem ints_cons (n : Nat) (st : List Nat) : ints (n :: st) = ints st ++ [(n : Int)] := by simp [ints]
theorem close_len : ∀ st : List Nat, (close st).length ≤ st.length
  | [] => Nat.le_refl _
  | 0 :: st => by simp only [close]; have := close_len st; simp; omega
  | (n + 1) :: st => by simp [close]
theorem close_mem : ∀ (st : List Nat) (B : Nat), (∀ n ∈ st, n ≤ B) → ∀ n ∈ close st, n ≤ B
  | [], _, _, n, h => by cases h
  | 0 :: st, B, hB, n, h => close_mem st B (fun m hm => hB m (by simp [hm])) n (by simpa [close] using h)
  | (q + 1) :: st, B, hB, n, h => by
    rcases List.mem_cons.1 (show n ∈ q :: st from h) with rfl | h
    · have := hB (n + 1) (by simp); omega
    · exact hB n (by simp [h])
theorem Depth_in (l : List S36) (hl : l.length ≤ 2100) (b : Int) (i : Nat) (hi : i + 1 ≤ 5000) (v : Int) : ∀ st : List Nat, st ≠ [] → st.length ≤ 5000 → (∀ n ∈ st, n ≤ 2100) →
    EvTo (fun k => tree_Depth.l0 k l b (ints (close st)) l (l.length : Int) ((i + 1 : Nat) : Int)) v → EvTo (fun k => tree_Depth.l1 k l b (ints st) l (l.length : Int) (i : Int)) v := by
  intro st
  induction st with
  | nil => intro h; exact absurd rfl h
  | cons n st ih =>
    intro _ hs hB h
    simp only [List.length_cons] at hs
    have hlen : ((ints (n :: st)).length : Int) = (st.length : Int) + 1 := by rw [ints_len]; simp
    refine EvTo.step (fun k => by rw [tree_Depth.l1]) ?_
    rw [hlen, show wrap64 ((st.length : Int) + 1 - 1) = (st.length : Int) by unfold wrap64; omega, inc i (by omega)]
    refine EvTo.pos (by omega) (EvTo.pos (by omega) ?_)
    have hrd : rd (ints (n :: st)) (st.length : Int) = (n : Int) := by
      rw [ints_cons]
      simp [rd, List.getD_eq_getElem?_getD, List.getElem?_append_right, ints_len]
    rw [hrd, Int.toNat_natCast]
    cases n with
    | zero =>
      refine EvTo.neg (by simp) (EvTo.pos (by omega) ?_)
      have ht : (ints (0 :: st)).take st.length = ints st := by
        rw [ints_cons]
        exact List.take_left' (ints_len st)
      simp only [ht, Option.bind_some]
      simp only [close] at h
      cases st with
      | nil => exact EvTo.pos rfl h
      | cons m st => exact EvTo.neg (by simp; omega) (ih (by simp) (by omega) (fun q hq => hB q (by simp [hq])) h)
    | succ n =>
      have hn := hB (n + 1) (by simp)
      refine EvTo.pos (by omega) ?_
      have hset : (ints ((n + 1) :: st)).set st.length (wrap64 (((n + 1 : Nat) : Int) - 1)) = ints (n :: st) := by
        rw [show wrap64 (((n + 1 : Nat) : Int) - 1) = (n : Int) by unfold wrap64; omega, ints_cons, ints_cons, List.set_append]
        simp [ints_len]
      rw [hset]
      exact h
theorem Depth_l (l : List S36) (hl : l.length ≤ 2100) : ∀ (m i : Nat) (st : List Nat) (b : Nat), l.length = m + i → st.length ≤ i → b ≤ i → (∀ n ∈ st, n ≤ 2100) →
    EvTo (fun k => tree_Depth.l0 k l (b : Int) (ints st) l (l.length : Int) (i : Int)) (if wholeB l m then (depF (l.drop i) st b : Int) else -1) := by
  intro m
  induction m with
  | zero =>
    intro i st b h1 h2 h3 h4
    rw [List.drop_eq_nil_of_le (by omega)]
    refine EvTo.step (fun k => by rw [tree_Depth.l0]) ?_
    exact EvTo.neg (by omega) EvTo.now
  | succ m ih =>
    intro i st b h1 h2 h3 h4
    have hi : i < l.length := by omega
    refine EvTo.step (fun k => by rw [tree_Depth.l0]) ?_
    refine EvTo.pos (by omega) (EvTo.pos (by omega) (EvTo.pos (by omega) ?_))
    refine EvTo.bind (End_E l hl (i : Int)) ?_
    have he : endI l (i : Int) = endV i (endF l.length (l.drop i) 1) := by
      unfold endI
      rw [if_neg (by omega), Int.toNat_natCast]
    rw [he]
    simp only [wholeB, show l.length - (m + 1) = i by omega]
    cases hF : endF l.length (l.drop i) 1 with
    | none => exact EvTo.pos (by simp [endV]) EvTo.now
    | some q =>
      refine EvTo.neg (by simp only [endV]; omega) (EvTo.pos (by rw [ints_len]; omega) ?_)
      rw [rd36 l i hi]
      have hk : 0 ≤ l[i].f1 ∧ l[i].f1 ≤ 2100 := by
        rw [List.drop_eq_getElem_cons hi] at hF
        simp only [endF] at hF
        split at hF
        · cases hF
        · omega
      have hpush : ints st ++ [l[i].f1] = ints (l[i].f1.toNat :: st) := by
        rw [ints_cons, Int.toNat_of_nonneg hk.1]
      simp only [hpush, Option.bind_some, Option.isSome_some, Bool.true_and]
      have hmx : mx (b : Int) ((ints (l[i].f1.toNat :: st)).length : Int) = ((max b (st.length + 1) : Nat) : Int) := by
        rw [ints_len]; unfold mx; simp only [List.length_cons]; split <;> omega
      rw [hmx]
      have hm : ∀ n ∈ l[i].f1.toNat :: st, n ≤ 2100 := by
        intro n hn
        rcases List.mem_cons.1 hn with rfl | hn
        · omega
        · exact h4 n hn
      refine Depth_in l hl _ i (by omega) _ _ (by simp) (by simp; omega) hm ?_
      rw [List.drop_eq_getElem_cons hi]
      have hcl := close_len (l[i].f1.toNat :: st)
      exact ih (i + 1) _ _ (by omega) (by simp only [List.length_cons] at hcl; omega) (by omega) (close_mem _ 2100 hm)
theorem Depth_E (l : List S36) (hl : l.length ≤ 2100) : EvTo (fun k => tree_Depth.f k l) (if wholeB l l.length then (depF l [] 0 : Int) else -1) := by
  have h := Depth_l l hl l.length 0 [] 0 (by omega) (by simp) (by omega) (by simp)
  exact h
end Go.Proofs.Ytclhaajlgmiilaa.Tree
end
section
set_option linter.unusedVariables false
set_option linter.unusedSimpArgs false
namespace Go.Proofs.Ytclhaajlgmiilaa.Tree
open Go Go.RowKit Go.Proofs.YtclhaajlgmiilaaW.PrintWords Go.Proofs.Ytclhaajlgmiilaa.Q Go.Proofs.Ytclhaajlgmiilaa.Lex

def subL (l : List S36) (i : Int) : List S36 := if endI l i < 0 then [] else (l.take (endI l i).toNat).drop i.toNat
/-- An end that is there. -/
theorem endI_some {l : List S36} {i : Int} (h : ¬ endI l i < 0) : ∃ j m : Nat, i = j ∧ endF l.length (l.drop j) 1 = some m ∧ endI l i = ((j + m : Nat) : Int) ∧ 1 ≤ m ∧ j + m ≤ l.length := by
  have hi : ¬ i < 0 := by
    intro c
    unfold endI at h
    rw [if_pos c] at h
    omega
  unfold endI at h ⊢
  rw [if_neg hi] at h
  refine ⟨i.toNat, ?_⟩
  cases he : endF l.length (l.drop i.toNat) 1 with
  | none => rw [he] at h; simp [endV] at h
  | some m =>
    obtain ⟨h1, h2⟩ := endF_le _ _ _ _ he
    rw [List.length_drop] at h2
    refine ⟨m, by omega, rfl, ?_, h1, by omega⟩
    rw [if_neg hi]
    rfl
theorem Sub_E (l : List S36) (hl : l.length ≤ 2100) (i : Int) : EvTo (fun k => tree_Sub.f k l i) (subL l i) := by
  unfold tree_Sub.f
  refine EvTo.bind (End_E l hl i) ?_
  by_cases c : endI l i < 0
  · have hs : subL l i = [] := by unfold subL; rw [if_pos c]
    rw [hs]
    exact EvTo.pos c EvTo.now
  obtain ⟨j, m, rfl, _, he, h1, h2⟩ := endI_some c
  have hs : subL l (j : Int) = (l.take (j + m)).drop j := by
    unfold subL
    rw [if_neg c, he, Int.toNat_natCast, Int.toNat_natCast]
  rw [hs, he]
  refine EvTo.neg (by omega) (EvTo.pos (by omega) (EvTo.pos (by omega) (EvTo.pos (by omega) ?_)))
  simp only [Option.bind_some, Int.toNat_natCast]
  refine EvTo.pos ?_ (EvTo.of_eq fun k => by simp)
  simp only [List.length_nil, List.length_drop, List.length_take]
  omega
end Go.Proofs.Ytclhaajlgmiilaa.Tree
end
section
set_option linter.unusedVariables false
set_option linter.unusedSimpArgs false
namespace Go.Proofs.Ytclhaajlgmiilaa.Tree
open Go Go.RowKit Go.Proofs.YtclhaajlgmiilaaW.PrintWords Go.Proofs.Ytclhaajlgmiilaa.Q Go.Proofs.Ytclhaajlgmiilaa.Lex

/-- So many trees, one behind the other, the deepest of them so deep. -/
inductive Fo : List S36 → Nat → Nat → Prop
  | nil : Fo [] 0 0
  | cons (x : S36) (t v : List S36) (w D1 D2 : Nat) (hx : 0 ≤ x.f1) (ht : Fo t x.f1.toNat D1) (hv : Fo v w D2) : Fo (x :: (t ++ v)) (w + 1) (max (1 + D1) D2)
theorem Fo.none {u : List S36} {D : Nat} (h : Fo u 0 D) : u = [] ∧ D = 0 := by
  cases h; exact ⟨rfl, rfl⟩
theorem Fo.split : ∀ (a b : Nat) (u : List S36) (D : Nat), Fo u (a + b) D → ∃ u1 u2 D1 D2, u = u1 ++ u2 ∧ Fo u1 a D1 ∧ Fo u2 b D2 ∧ D = max D1 D2 := by
  intro a
  induction a with
  | zero =>
    intro b u D h
    rw [Nat.zero_add] at h
    exact ⟨[], u, 0, D, rfl, Fo.nil, h, by omega⟩
  | succ a ih =>
    intro b u D h
    generalize hn : a + 1 + b = n at h
    cases h with
    | nil => omega
    | cons x t v w D1 D2 hx ht hv =>
      obtain rfl : w = a + b := by omega
      obtain ⟨v1, v2, E1, E2, rfl, h1, h2, rfl⟩ := ih b v D2 hv
      refine ⟨x :: (t ++ v1), v2, max (1 + D1) E1, E2, by simp, Fo.cons x t v1 a D1 E1 hx ht h1, h2, by omega⟩
/-- The end of so many trees, whatever stands behind. -/
theorem Fo.endF {n : Nat} {u : List S36} {w D : Nat} (h : Fo u w D) (hn : ∀ x ∈ u, ¬ ((n : Int) < x.f1)) : ∀ (rest : List S36) (c : Nat), 1 ≤ w + c →
    Tree.endF n (u ++ rest) (w + c) = if c = 0 then some u.length else (Tree.endF n rest c).map (· + u.length) := by
  induction h with
  | nil =>
    intro rest c hc
    rw [if_neg (by omega)]
    simp
  | cons x t v w D1 D2 hx ht hv ih1 ih2 =>
    intro rest c hc
    have hnx := hn x (by simp)
    simp only [List.cons_append, Tree.endF]
    rw [if_neg (by omega)]
    by_cases h0 : w + 1 + c - 1 + x.f1.toNat = 0
    · rw [if_pos h0]
      have hk : x.f1.toNat = 0 := by omega
      rw [hk] at ht
      obtain rfl : w = 0 := by omega
      rw [ht.none.1, hv.none.1, if_pos (by omega)]
      rfl
    · rw [if_neg h0, List.append_assoc, show w + 1 + c - 1 + x.f1.toNat = x.f1.toNat + (w + c) by omega,
        ih1 (fun y hy => hn y (by simp [hy])) (v ++ rest) (w + c) (by omega)]
      by_cases h1 : w + c = 0
      · rw [if_pos h1, if_pos (by omega)]
        obtain rfl : w = 0 := by omega
        rw [hv.none.1]; simp
      · rw [if_neg h1, ih2 (fun y hy => hn y (by simp [hy])) rest c (by omega)]
        by_cases h2 : c = 0
        · rw [if_pos h2, if_pos h2]
          simp; omega
        · rw [if_neg h2, if_neg h2, Option.map_map, Option.map_map]
          congr 1
          funext q
          simp; omega
/-- How deep: the nodes around count, too. -/
theorem Fo.depF {u : List S36} {w D : Nat} (h : Fo u w D) : ∀ (rest : List S36) (st : List Nat) (b : Nat), 1 ≤ w →
    Tree.depF (u ++ rest) ((w - 1) :: st) b = Tree.depF rest (close st) (max b (st.length + 1 + D)) := by
  induction h with
  | nil => intro rest st b hw; omega
  | cons x t v w D1 D2 hx ht hv ih1 ih2 =>
    intro rest st b _
    rw [Nat.add_sub_cancel]
    simp only [List.cons_append, List.append_assoc, Tree.depF, List.length_cons]
    have last : ∀ b', Tree.depF (v ++ rest) (close (w :: st)) b' = Tree.depF rest (close st) (max b' (if w = 0 then 0 else st.length + 1 + D2)) := by
      intro b'
      cases w with
      | zero => rw [hv.none.1]; simp [close]
      | succ w =>
        rw [if_neg (by omega)]
        exact ih2 rest st b' (by omega)
    cases hk : x.f1.toNat with
    | zero =>
      rw [hk] at ht
      rw [ht.none.1, ht.none.2]
      simp only [List.nil_append, close]
      rw [last]
      congr 1
      split
      · rename_i q; subst q; rw [hv.none.2]; omega
      · omega
    | succ k =>
      rw [hk] at ih1
      have h1 := ih1 (v ++ rest) (w :: st) (max b (st.length + 1 + 1)) (by omega)
      simp only [Nat.add_sub_cancel, List.length_cons] at h1
      simp only [close]
      rw [h1, last]
      congr 1
      split
      · rename_i q; subst q; rw [hv.none.2]; omega
      · omega
end Go.Proofs.Ytclhaajlgmiilaa.Tree
end
section
set_option linter.unusedVariables false
set_option linter.unusedSimpArgs false
namespace Go.Proofs.Ytclhaajlgmiilaa.Tree
open Go Go.RowKit Go.Proofs.YtclhaajlgmiilaaW.PrintWords Go.Proofs.Ytclhaajlgmiilaa.Q Go.Proofs.Ytclhaajlgmiilaa.Lex

theorem Fo.len {u : List S36} {w D : Nat} (h : Fo u w D) : w ≤ u.length := by
  induction h with
  | nil => exact Nat.le_refl _
  | cons x t v w D1 D2 hx ht hv ih1 ih2 => simp; omega
theorem Fo.one {s : List S36} {D : Nat} (h : Fo s 1 D) : ∃ x t D1, s = x :: t ∧ D = 1 + D1 ∧ 0 ≤ x.f1 ∧ Fo t x.f1.toNat D1 := by
  generalize hn : 1 = n at h
  cases h with
  | nil => omega
  | cons x t v w D1 D2 hx ht hv =>
    obtain rfl : w = 0 := by omega
    obtain ⟨rfl, rfl⟩ := hv.none
    exact ⟨x, t, D1, by simp, by omega, hx, ht⟩
/-- The places of so many trees, from one on. -/
def its (l : List S36) : Nat → Int → List Int
  | 0, _ => []
  | d + 1, p => p :: its l d (endI l p)
theorem Kids_its (l : List S36) (hl : l.length ≤ 2100) (i : Nat) (hi : i < l.length) (h0 : 0 ≤ l[i].f1) (h9 : l[i].f1 ≤ 2100) : ∀ (d : Nat) (acc : List Int) (at' : Int), l[i].f1.toNat = d + acc.length →
    EvTo (fun k => tree_Kids.l0 k l (i : Int) acc at') (acc ++ its l d at') := by
  intro d
  induction d with
  | zero =>
    intro acc at' h
    refine EvTo.step (fun k => by rw [tree_Kids.l0]) ?_
    refine EvTo.pos (by omega) (EvTo.pos (by omega) ?_)
    rw [rd36 l i hi, its, List.append_nil]
    exact EvTo.neg (by omega) EvTo.now
  | succ d ih =>
    intro acc at' h
    have h1 := ih (acc ++ [at']) (endI l at') (by simp; omega)
    rw [List.append_assoc] at h1
    refine EvTo.step (fun k => by rw [tree_Kids.l0]) ?_
    refine EvTo.pos (by omega) (EvTo.pos (by omega) ?_)
    rw [rd36 l i hi]
    exact EvTo.pos (by omega) (EvTo.pos (by omega) (EvTo.bind (End_E l hl at') h1))
theorem its_len (l : List S36) : ∀ (d : Nat) (p : Int), (its l d p).length = d
  | 0, _ => rfl
  | d + 1, p => by rw [its, List.length_cons, its_len]
end Go.Proofs.Ytclhaajlgmiilaa.Tree
end
section
set_option linter.unusedVariables false
set_option linter.unusedSimpArgs false
namespace Go.Proofs.Ytclhaajlgmiilaa.Tree
open Go Go.RowKit Go.Proofs.YtclhaajlgmiilaaW.PrintWords Go.Proofs.Ytclhaajlgmiilaa.Q Go.Proofs.Ytclhaajlgmiilaa.Lex

theorem rEnd_l (l : List S36) (hl : l.length ≤ 2100) : ∀ (m i w : Nat), l.length = m + i → 1 ≤ w → w ≤ 1 + i * 2100 →
    EvTo (fun k => chrysalisref09_End.l0 k l (w : Int) (i : Int)) (endV i (endF l.length (l.drop i) w)) := by
  intro m
  induction m with
  | zero =>
    intro i w h1 h2 h3
    rw [List.drop_eq_nil_of_le (by omega)]
    refine EvTo.step (fun k => by rw [chrysalisref09_End.l0]) ?_
    exact EvTo.neg (by omega) EvTo.now
  | succ m ih =>
    intro i w h1 h2 h3
    have hi : i < l.length := by omega
    rw [List.drop_eq_getElem_cons hi]
    refine EvTo.step (fun k => by rw [chrysalisref09_End.l0]) ?_
    refine EvTo.pos (by omega) (EvTo.pos (by omega) ?_)
    rw [rd36 l i hi]
    simp only [endF]
    by_cases c1 : l[i].f1 < 0
    · rw [if_pos (Or.inl c1)]
      refine EvTo.pos c1 ?_
      refine EvTo.step (fun k => by rw [chrysalisref09_End.j1]) ?_
      exact EvTo.pos rfl EvTo.now
    refine EvTo.neg c1 ?_
    refine EvTo.step (fun k => by rw [chrysalisref09_End.j1]) ?_
    by_cases c2 : (l.length : Int) < l[i].f1
    · rw [if_pos (Or.inr c2)]
      exact EvTo.pos (decide_eq_true c2) EvTo.now
    refine EvTo.neg (by simpa using c2) (EvTo.pos (by omega) (EvTo.pos (by omega) ?_))
    rw [rd36 l i hi, if_neg (show ¬ (l[i].f1 < 0 ∨ (l.length : Int) < l[i].f1) by omega)]
    have e2 : wrap64 (wrap64 ((w : Int) - 1) + l[i].f1) = ((w - 1 + l[i].f1.toNat : Nat) : Int) := by
      rw [w64 (n := (w : Int) - 1) (by omega) (by omega), w64 (by omega) (by omega)]
      omega
    rw [e2, inc i (by omega)]
    by_cases c3 : w - 1 + l[i].f1.toNat = 0
    · rw [if_pos c3]
      refine EvTo.pos (by omega) (EvTo.of_eq fun k => ?_)
      simp only [endV]
    · rw [if_neg c3, endV_map]
      refine EvTo.neg (by omega) ?_
      exact ih (i + 1) _ (by omega) (by omega) (by omega)
theorem rEnd_E (l : List S36) (hl : l.length ≤ 2100) (i : Int) : EvTo (fun k => chrysalisref09_End.f k l i) (endI l i) := by
  unfold chrysalisref09_End.f endI
  by_cases c : i < 0
  · rw [if_pos c]; exact EvTo.pos c EvTo.now
  rw [if_neg c]
  refine EvTo.neg c ?_
  by_cases c2 : i.toNat ≤ l.length
  · have h := rEnd_l l hl (l.length - i.toNat) i.toNat 1 (by omega) (by omega) (by omega)
    rw [show ((i.toNat : Nat) : Int) = i by omega] at h
    exact h
  · rw [List.drop_eq_nil_of_le (by omega)]
    refine EvTo.step (fun k => by rw [chrysalisref09_End.l0]) ?_
    exact EvTo.neg (by omega) EvTo.now
theorem rKids_its (l : List S36) (hl : l.length ≤ 2100) (i : Nat) (hi : i < l.length) (h0 : 0 ≤ l[i].f1) (h9 : l[i].f1 ≤ 2100) : ∀ (d : Nat) (acc : List Int) (at' : Int), l[i].f1.toNat = d + acc.length →
    EvTo (fun k => chrysalisref09_Kids.l0 k l (i : Int) acc at' (acc.length : Int)) (acc ++ its l d at') := by
  intro d
  induction d with
  | zero =>
    intro acc at' h
    refine EvTo.step (fun k => by rw [chrysalisref09_Kids.l0]) ?_
    refine EvTo.pos (by omega) (EvTo.pos (by omega) ?_)
    rw [rd36 l i hi, its, List.append_nil]
    exact EvTo.neg (by omega) EvTo.now
  | succ d ih =>
    intro acc at' h
    have h1 := ih (acc ++ [at']) (endI l at') (by simp; omega)
    rw [List.append_assoc, List.length_append] at h1
    refine EvTo.step (fun k => by rw [chrysalisref09_Kids.l0]) ?_
    refine EvTo.pos (by omega) (EvTo.pos (by omega) ?_)
    rw [rd36 l i hi, inc acc.length (by omega)]
    exact EvTo.pos (by omega) (EvTo.pos (by omega) (EvTo.bind (rEnd_E l hl at') h1))
/-- A node's kids' places. -/
def kidsI (l : List S36) (i : Int) : List Int := if endI l i < 0 then [] else its l (rd_T36 l i).f1.toNat (i + 1)
theorem kids_at {l : List S36} (hl : l.length ≤ 2100) {i : Int} (c : ¬ endI l i < 0) : ∃ j : Nat, i = j ∧ ∃ hj : j < l.length, 0 ≤ l[j].f1 ∧ l[j].f1 ≤ 2100 := by
  obtain ⟨j, m, rfl, hF, he, h1, h2⟩ := endI_some c
  have hj : j < l.length := by omega
  refine ⟨j, rfl, hj, ?_⟩
  have hkk := endF_kids _ _ _ _ hF (Nat.le_refl 1)
  have hin : l[j] ∈ (l.drop j).take m := by
    obtain ⟨q, rfl⟩ : ∃ q, m = q + 1 := ⟨m - 1, by omega⟩
    rw [List.drop_eq_getElem_cons hj, List.take_succ_cons]
    exact List.mem_cons_self
  have := hkk _ hin
  omega
theorem Kids_E (l : List S36) (hl : l.length ≤ 2100) (i : Int) : EvTo (fun k => tree_Kids.f k l i) (kidsI l i) := by
  unfold tree_Kids.f kidsI
  refine EvTo.bind (End_E l hl i) ?_
  by_cases c : endI l i < 0
  · rw [if_pos c]; exact EvTo.pos c EvTo.now
  rw [if_neg c]
  obtain ⟨j, rfl, hj, h0, h9⟩ := kids_at hl c
  rw [inc j (by omega), rd36 l j hj]
  refine EvTo.neg c ?_
  have := Kids_its l hl j hj h0 h9 l[j].f1.toNat [] ((j + 1 : Nat) : Int) (by simp)
  simpa using this
theorem rKids_E (l : List S36) (hl : l.length ≤ 2100) (i : Int) : EvTo (fun k => chrysalisref09_Kids.f k l i) (kidsI l i) := by
  unfold chrysalisref09_Kids.f kidsI
  refine EvTo.bind (rEnd_E l hl i) ?_
  by_cases c : endI l i < 0
  · rw [if_pos c]; exact EvTo.pos c EvTo.now
  rw [if_neg c]
  obtain ⟨j, rfl, hj, h0, h9⟩ := kids_at hl c
  rw [inc j (by omega), rd36 l j hj]
  refine EvTo.neg c ?_
  have := rKids_its l hl j hj h0 h9 l[j].f1.toNat [] ((j + 1 : Nat) : Int) (by simp)
  simpa using this

/-! How deep: the document takes one off the innermost node around as the next node comes. -/
def popz : List Nat → List Nat
  | [] => []
  | 0 :: st => popz st
  | (n + 1) :: st => (n + 1) :: st
def less1 : List Nat → List Nat
  | [] => []
  | n :: st => (n - 1) :: st
theorem close_popz : ∀ st : List Nat, close st = less1 (popz st)
  | [] => rfl
  | 0 :: st => by rw [close, popz]; exact close_popz st
  | (n + 1) :: st => by rw [close, popz]; rfl
theorem popz_len : ∀ st : List Nat, (popz st).length ≤ st.length
  | [] => Nat.le_refl _
  | 0 :: st => by simp only [popz]; have := popz_len st; simp; omega
  | (n + 1) :: st => by simp [popz]
theorem popz_mem : ∀ (st : List Nat) (B : Nat), (∀ n ∈ st, n ≤ B) → ∀ n ∈ popz st, n ≤ B
  | [], _, _, n, h => by cases h
  | 0 :: st, B, hB, n, h => popz_mem st B (fun m hm => hB m (by simp [hm])) n (by simpa [popz] using h)
  | (q + 1) :: st, B, hB, n, h => hB n h
theorem popz_pos : ∀ st : List Nat, popz st = [] ∨ ∃ n t, popz st = (n + 1) :: t
  | [] => .inl rfl
  | 0 :: st => by rw [popz]; exact popz_pos st
  | (n + 1) :: st => .inr ⟨n, st, rfl⟩
theorem rd_top (n : Nat) (st : List Nat) : rd (ints (n :: st)) (st.length : Int) = (n : Int) := by
  rw [ints_cons]
  simp [rd, List.getD_eq_getElem?_getD, List.getElem?_append_right, ints_len]
theorem rDepth_in (l : List S36) (hl : l.length ≤ 2100) (b : Int) (i : Nat) (hi : i + 1 ≤ 5000) (v : Int) : ∀ st : List Nat, st.length ≤ 5000 → (∀ n ∈ st, n ≤ 2100) →
    EvTo (fun k => chrysalisref09_Depth.l0 k l (ints (popz st)) b ((i + 1 : Nat) : Int)) v → EvTo (fun k => chrysalisref09_Depth.l1 k l (ints st) b (i : Int)) v := by
  intro st
  induction st with
  | nil =>
    intro hs hB h
    refine EvTo.step (fun k => by rw [chrysalisref09_Depth.l1]) ?_
    rw [inc i (by omega)]
    exact EvTo.neg (by simp [ints]) h
  | cons n st ih =>
    intro hs hB h
    simp only [List.length_cons] at hs
    have hlen : ((ints (n :: st)).length : Int) = (st.length : Int) + 1 := by rw [ints_len]; simp
    refine EvTo.step (fun k => by rw [chrysalisref09_Depth.l1]) ?_
    rw [hlen, show wrap64 ((st.length : Int) + 1 - 1) = (st.length : Int) by unfold wrap64; omega, inc i (by omega), rd_top]
    refine EvTo.pos (by omega) (EvTo.pos (by omega) (EvTo.pos (by omega) ?_))
    rw [Int.toNat_natCast]
    cases n with
    | zero =>
      refine EvTo.pos rfl (EvTo.pos (by omega) ?_)
      have ht : (ints (0 :: st)).take st.length = ints st := by
        rw [ints_cons]
        exact List.take_left' (ints_len st)
      rw [ht]
      rw [popz] at h
      exact ih (by omega) (fun q hq => hB q (by simp [hq])) h
    | succ n =>
      exact EvTo.neg (by omega) h
theorem rDepth_j (l : List S36) (hl : l.length ≤ 2100) (i : Nat) (hi : i < l.length) (h0 : 0 ≤ l[i].f1) (h9 : l[i].f1 ≤ 2100) (b : Nat) (hb : b ≤ i) (st : List Nat) (hs : st.length ≤ i) (hB : ∀ n ∈ st, n ≤ 2100) (v : Int)
    (h : EvTo (fun k => chrysalisref09_Depth.l0 k l (ints (popz (l[i].f1.toNat :: st))) ((max b (st.length + 1) : Nat) : Int) ((i + 1 : Nat) : Int)) v) :
    EvTo (fun k => chrysalisref09_Depth.j1 k l (ints st) (b : Int) (i : Int)) v := by
  refine EvTo.step (fun k => by rw [chrysalisref09_Depth.j1]) ?_
  refine EvTo.pos (by omega) (EvTo.pos (by omega) (EvTo.pos (by rw [ints_len]; omega) ?_))
  have hpush : ints st ++ [(rd_T36 l (i : Int)).f1] = ints (l[i].f1.toNat :: st) := by
    rw [ints_cons, Int.toNat_of_nonneg h0, rd36 l i hi]
  simp only [hpush, Option.bind_some]
  have hln : ((ints (l[i].f1.toNat :: st)).length : Int) = ((st.length + 1 : Nat) : Int) := by rw [ints_len]; simp
  have go : ∀ c : Nat, c = max b (st.length + 1) → EvTo (fun k => chrysalisref09_Depth.j2 k l (ints (l[i].f1.toNat :: st)) (c : Int) (i : Int)) v := by
    rintro c rfl
    refine EvTo.step (fun k => by rw [chrysalisref09_Depth.j2]) ?_
    refine rDepth_in l hl _ i (by omega) v _ (by simp; omega) ?_ h
    intro n hn
    rcases List.mem_cons.1 hn with rfl | hn
    · omega
    · exact hB n hn
  rw [hln]
  by_cases c : ((st.length + 1 : Nat) : Int) > (b : Int)
  · exact EvTo.pos c (go (st.length + 1) (by omega))
  · exact EvTo.neg c (go b (by omega))
theorem rDepth_l (l : List S36) (hl : l.length ≤ 2100) : ∀ (m i : Nat) (st : List Nat) (b : Nat), l.length = m + i → st.length ≤ i → b ≤ i → (∀ n ∈ st, n ≤ 2100) → (st = [] ∨ ∃ n t, st = (n + 1) :: t) →
    EvTo (fun k => chrysalisref09_Depth.l0 k l (ints st) (b : Int) (i : Int)) (if wholeB l m then (depF (l.drop i) (less1 st) b : Int) else -1) := by
  intro m
  induction m with
  | zero =>
    intro i st b h1 h2 h3 h4 h5
    rw [List.drop_eq_nil_of_le (by omega)]
    refine EvTo.step (fun k => by rw [chrysalisref09_Depth.l0]) ?_
    exact EvTo.neg (by omega) EvTo.now
  | succ m ih =>
    intro i st b h1 h2 h3 h4 h5
    have hi : i < l.length := by omega
    refine EvTo.step (fun k => by rw [chrysalisref09_Depth.l0]) ?_
    refine EvTo.pos (by omega) (EvTo.bind (rEnd_E l hl (i : Int)) ?_)
    have he : endI l (i : Int) = endV i (endF l.length (l.drop i) 1) := by
      unfold endI
      rw [if_neg (by omega), Int.toNat_natCast]
    rw [he]
    simp only [wholeB, show l.length - (m + 1) = i by omega]
    cases hF : endF l.length (l.drop i) 1 with
    | none => exact EvTo.pos (by simp [endV]) EvTo.now
    | some q =>
      refine EvTo.neg (by simp only [endV]; omega) ?_
      have hk : 0 ≤ l[i].f1 ∧ l[i].f1 ≤ 2100 := by
        rw [List.drop_eq_getElem_cons hi] at hF
        simp only [endF] at hF
        split at hF
        · cases hF
        · omega
      simp only [Option.isSome_some, Bool.true_and]
      have hl1 : (less1 st).length = st.length := by cases st <;> rfl
      have hB1 : ∀ n ∈ less1 st, n ≤ 2100 := by
        intro n hn
        cases st with
        | nil => cases hn
        | cons x t =>
          rcases List.mem_cons.1 hn with rfl | hn
          · have := h4 x (by simp); omega
          · exact h4 n (by simp [hn])
      have hm : ∀ n ∈ l[i].f1.toNat :: less1 st, n ≤ 2100 := by
        intro n hn
        rcases List.mem_cons.1 hn with rfl | hn
        · omega
        · exact hB1 n hn
      have hcl := popz_len (l[i].f1.toNat :: less1 st)
      simp only [List.length_cons] at hcl
      have hnext := ih (i + 1) (popz (l[i].f1.toNat :: less1 st)) (max b ((less1 st).length + 1)) (by omega) (by omega) (by omega) (popz_mem _ 2100 hm) (popz_pos _)
      rw [← close_popz] at hnext
      rw [List.drop_eq_getElem_cons hi]
      have hj := rDepth_j l hl i hi hk.1 hk.2 b h3 (less1 st) (by omega) hB1 _ hnext
      rcases h5 with rfl | ⟨n, t, rfl⟩
      · exact EvTo.neg (by simp [ints]) hj
      · have hlen : ((ints ((n + 1) :: t)).length : Int) = (t.length : Int) + 1 := by rw [ints_len]; simp
        simp only [List.length_cons] at h2
        have hn := h4 (n + 1) (by simp)
        rw [hlen, show wrap64 ((t.length : Int) + 1 - 1) = (t.length : Int) by unfold wrap64; omega, rd_top]
        refine EvTo.pos (by omega) (EvTo.pos (by omega) (EvTo.pos (by omega) ?_))
        rw [Int.toNat_natCast]
        have hset : (ints ((n + 1) :: t)).set t.length (wrap64 (((n + 1 : Nat) : Int) - 1)) = ints (less1 ((n + 1) :: t)) := by
          rw [show wrap64 (((n + 1 : Nat) : Int) - 1) = (n : Int) by unfold wrap64; omega, less1, Nat.add_sub_cancel, ints_cons, ints_cons, List.set_append]
          simp [ints_len]
        rw [hset]
        exact hj
theorem rDepth_E (l : List S36) (hl : l.length ≤ 2100) : EvTo (fun k => chrysalisref09_Depth.f k l) (if wholeB l l.length then (depF l [] 0 : Int) else -1) := by
  have h := rDepth_l l hl l.length 0 [] 0 (by omega) (by simp) (by omega) (by simp) (.inl rfl)
  exact h
end Go.Proofs.Ytclhaajlgmiilaa.Tree
end
section
set_option linter.unusedVariables false
set_option linter.unusedSimpArgs false
namespace Go.Proofs.Ytclhaajlgmiilaa
open Go.RowKit Go.ChangeShapes Go.WideShapes Go.Proofs.YtclhaajlgmiilaaW.PrintWords

/-- What reads as data of a type is of a kind. -/
def Opens {H : Type} (enc : TypeId × Value → H) (P : Program) (w : World) (t : TypeId) {α : Type} (d : Kd α) (B : α → Prop) : Prop :=
  ∀ (fuel : Nat) (cs : List Value) (x : DataW H × List MemPlace), DataW.trod enc P w 0 (fun _ => true) true fuel t cs = some x → ∃ a, d.K w a cs ∧ B a
/-- .. of a struct's fields, from one on. -/
def OpensF {H : Type} (enc : TypeId × Value → H) (P : Program) (w : World) (fs : List Field) (off : Nat) {α : Type} (d : Kd α) (B : α → Prop) : Prop :=
  ∀ (n : Nat) (cs : List Value) (xs : List (DataW H × List MemPlace)), xs.length = fs.length →
    (∀ (i : Nat) (f : Field), fs[i]? = some f → DataW.trod enc P w 0 (fun _ => true) true n f.type ((cs.drop f.offset).take (P.cellsOf f.type)) = xs[i]?) → cs.length = off + d.sz → ∃ a, d.K w a (cs.drop off) ∧ B a

section
variable {H : Type} {enc : TypeId × Value → H} {P : Program} {w : World} {t e : TypeId}

theorem Opens.int {k : IntKind} (ht : P.underlying t = some (.int k)) : Opens enc P w t (Kd.int k) (fun n => (Lit.int k n).wf = true) := by
  intro fuel cs x h
  obtain ⟨n, rfl, _, hw⟩ := DataW.trod_int ht h
  exact ⟨n, rfl, hw⟩
theorem Opens.string (ht : P.underlying t = some .string) : Opens enc P w t Kd.string (fun s => s.size ≤ maxLen) := by
  intro fuel cs x h
  obtain ⟨s, rfl, _, hs⟩ := DataW.trod_string ht h
  exact ⟨s, rfl, hs⟩
theorem Opens.bool (ht : P.underlying t = some .bool) : Opens enc P w t Kd.bool (fun _ => True) := by
  intro fuel cs x h
  obtain ⟨b, rfl, _⟩ := DataW.trod_bool ht h
  exact ⟨b, rfl, trivial⟩
theorem Opens.iso {α β : Type} {d : Kd α} {B : α → Prop} (h : Opens enc P w t d B) (f : β → α) (g : α → β) (hfg : ∀ a, f (g a) = a) : Opens enc P w t (Kd.iso d f) (fun b => B (f b)) := by
  intro fuel cs x hx
  obtain ⟨a, ha, hb⟩ := h fuel cs x hx
  exact ⟨g a, by show d.K w (f (g a)) cs; rw [hfg]; exact ha, by show B (f (g a)); rw [hfg]; exact hb⟩

theorem Opens.slice {α : Type} {d : Kd α} {B : α → Prop} (ht : P.underlying t = some (.slice e)) (hc : P.cellsOf e = d.sz) (he : Opens enc P w e d B) :
    Opens enc P w t (Kd.slice e d) (fun l => l.length ≤ maxLen ∧ ∀ a ∈ l, B a) := by
  intro fuel cs x h
  rcases Go.Deep.open_slice ht h with ⟨rfl, _⟩ | ⟨a, len, cap, m, n, D, Pl, rfl, _, hl, hm, hmm, _, hx⟩
  · exact ⟨[], ⟨none, 0, rfl, Nat.le_refl _, rfl, by simp, fun h => absurd h (by simp)⟩, by simp, by simp⟩
  · have hlm : len ≤ m := by simp at hmm; omega
    have each : ∀ i, i < len → ∃ q : α × List Value, q.2.length = d.sz ∧ d.K w q.1 q.2 ∧ (∀ j u, q.2[j]? = some u → w.cell? (a.add (i * d.sz + j)) = some u) ∧ B q.1 := by
      intro i hi
      obtain ⟨cs', h1, h2⟩ := hx i (by omega)
      obtain ⟨b, hb, hB⟩ := he n cs' _ h2
      obtain ⟨_, h4, h5⟩ := World.cells?_some h1
      refine ⟨(b, cs'), by rw [← hc]; exact h4, hb, fun j u hu => ?_, hB⟩
      have hj : j < cs'.length := (List.getElem?_eq_some_iff.1 hu).1
      have := h5 j (by omega)
      rw [Go.Deep.add_add, hc] at this
      rw [this, hu]
    by_cases hz : len = 0
    · subst hz
      exact ⟨[], ⟨some a, cap, rfl, Nat.zero_le _, rfl, by simp, fun h => absurd h (by simp)⟩, by simp, by simp⟩
    obtain ⟨q0, _⟩ := each 0 (by omega)
    have : Inhabited (α × List Value) := ⟨q0⟩
    obtain ⟨q, hq⟩ := Go.Deep.choose_lt each
    refine ⟨(List.range len).map fun i => (q i).1, ⟨some a, cap, by simp, by simpa using hl, by simp, ?_, ?_⟩, ?_, ?_⟩
    · simp; unfold maxLen at hm; omega
    · intro _
      refine ⟨a, rfl, fun j p hp => ?_⟩
      simp only [List.getElem?_map, List.getElem?_range, Option.map_eq_some_iff] at hp
      obtain ⟨i, hi, rfl⟩ := hp
      have hj : j < len := by
        by_cases c : j < len
        · exact c
        · simp [c] at hi
      have hi' : i = j := by simpa [hj] using hi.symm
      subst hi'
      exact ⟨(q i).2, (hq i hj).1, (hq i hj).2.1, (hq i hj).2.2.1⟩
    · simp; omega
    · intro b hb
      simp only [List.mem_map, List.mem_range] at hb
      obtain ⟨i, hi, rfl⟩ := hb
      exact (hq i hi).2.2.2

theorem OpensF.last {α : Type} {d : Kd α} {B : α → Prop} {f : Field} {off : Nat} (ho : f.offset = off) (hc : P.cellsOf f.type = d.sz) (h : Opens enc P w f.type d B) : OpensF enc P w [f] off d B := by
  intro n cs xs hl hx hcs
  match xs, hl with
  | [x], _ =>
    have h0 := hx 0 f rfl
    rw [ho, hc, List.take_of_length_le (by simp; omega)] at h0
    exact h n _ _ h0
theorem OpensF.cons {α β : Type} {d : Kd α} {d' : Kd β} {B : α → Prop} {B' : β → Prop} {f : Field} {fs : List Field} {off : Nat} (ho : f.offset = off) (hc : P.cellsOf f.type = d.sz) (h : Opens enc P w f.type d B)
    (hr : OpensF enc P w fs (off + d.sz) d' B') : OpensF enc P w (f :: fs) off (Kd.pair d d') (fun x => B x.1 ∧ B' x.2) := by
  intro n cs xs hl hx hcs
  match xs, hl with
  | x :: xs, hl =>
    have h0 := hx 0 f rfl
    rw [ho, hc] at h0
    obtain ⟨a, ha, hB⟩ := h n _ _ h0
    have hcs' : cs.length = off + (d.sz + d'.sz) := hcs
    obtain ⟨b, hb, hB'⟩ := hr n cs xs (by simpa using hl) (fun i g hg => by simpa using hx (i + 1) g (by simpa using hg)) (by omega)
    refine ⟨(a, b), ⟨(cs.drop off).take d.sz, cs.drop (off + d.sz), ?_, ha, hb⟩, hB, hB'⟩
    rw [← List.drop_drop, List.take_append_drop]
theorem Opens.struct {α : Type} {d : Kd α} {B : α → Prop} {fs : Array Field} (ht : P.underlying t = some (.struct fs)) (hc : P.cellsOf t = d.sz) (h : OpensF enc P w fs.toList 0 d B) : Opens enc P w t d B := by
  intro fuel cs x hx
  obtain ⟨xs, n, _, _, h1, h2, h3⟩ := DataW.trod_struct ht hx
  have := h n cs xs (by simpa using h2) (fun i f hf => h3 i f (by simpa using hf)) (by omega)
  simpa using this
end
end Go.Proofs.Ytclhaajlgmiilaa
end
section
set_option linter.unusedVariables false
set_option linter.unusedSimpArgs false
namespace Go.Proofs.Ytclhaajlgmiilaa
open Go.RowKit Go.ChangeShapes Go.WideShapes Go.Proofs.YtclhaajlgmiilaaW.PrintWords Go.Proofs.Ytclhaajlgmiilaa.Q

def NodeB (l : List S36) : Prop := l.length ≤ maxLen ∧ ∀ x ∈ l, (Lit.int .i64 x.f0).wf = true ∧ (Lit.int .i64 x.f1).wf = true ∧ x.f2.size ≤ maxLen ∧ (Lit.int .i64 x.f3).wf = true ∧ x.f4.size ≤ maxLen
theorem opens_node {H : Type} (enc : TypeId × Value → H) (w : World) : Opens enc Try.prog w 36 k36 (fun x => (Lit.int .i64 x.f0).wf = true ∧ (Lit.int .i64 x.f1).wf = true ∧ x.f2.size ≤ maxLen ∧ (Lit.int .i64 x.f3).wf = true ∧ x.f4.size ≤ maxLen) :=
  Opens.iso (Opens.struct Try.underlying36 (by kernel_rfl) (OpensF.cons rfl (by kernel_rfl) (Opens.int Try.underlying3) (OpensF.cons rfl (by kernel_rfl) (Opens.int Try.underlying3) (OpensF.cons rfl (by kernel_rfl) (Opens.string Try.underlying9) (OpensF.cons rfl (by kernel_rfl) (Opens.int Try.underlying2) (OpensF.last rfl (by kernel_rfl) (Opens.string Try.underlying9)))))))
    (fun x : S36 => (x.f0, x.f1, x.f2, x.f3, x.f4)) (fun t => ⟨t.1, t.2.1, t.2.2.1, t.2.2.2.1, t.2.2.2.2⟩) (fun _ => rfl)
theorem opens_nodes {H : Type} (enc : TypeId × Value → H) (w : World) : Opens enc Try.prog w 22 (Kd.slice 36 k36) NodeB := Opens.slice (H := H) (enc := enc) (w := w) Try.underlying22 (by kernel_rfl) (opens_node enc w)
end Go.Proofs.Ytclhaajlgmiilaa
end
section
set_option linter.unusedVariables false
set_option linter.unusedSimpArgs false
namespace Go.Proofs.Ytclhaajlgmiilaa.Tree
open Go Go.RowKit Go.Proofs.YtclhaajlgmiilaaW.PrintWords Go.Proofs.Ytclhaajlgmiilaa.Q Go.Proofs.Ytclhaajlgmiilaa.Lex

theorem rSub_E (l : List S36) (hl : l.length ≤ 2100) (i : Int) : EvTo (fun k => chrysalisref09_Sub.f k l i) (subL l i) := by
  unfold chrysalisref09_Sub.f
  refine EvTo.bind (rEnd_E l hl i) ?_
  by_cases c : endI l i < 0
  · have hs : subL l i = [] := by unfold subL; rw [if_pos c]
    rw [hs]
    exact EvTo.pos c EvTo.now
  obtain ⟨j, m, rfl, _, he, h1, h2⟩ := endI_some c
  have hs : subL l (j : Int) = (l.take (j + m)).drop j := by
    unfold subL
    rw [if_neg c, he, Int.toNat_natCast, Int.toNat_natCast]
  rw [hs, he]
  refine EvTo.neg (by omega) (EvTo.pos (by omega) (EvTo.pos (by omega) (EvTo.pos (by omega) ?_)))
  simp only [Option.bind_some, Int.toNat_natCast]
  refine EvTo.pos ?_ (EvTo.of_eq fun k => by simp)
  simp only [List.length_nil, List.length_drop, List.length_take]
  omega
theorem rSame_l (a : List S36) (ha : a.length ≤ 4611686018427387904) : ∀ (m i : Nat), a.length = m + i → EvTo (fun k => chrysalisref09_Same.l0 k a a (i : Int)) true := by
  intro m
  induction m with
  | zero =>
    intro i h1
    refine EvTo.step (fun k => by rw [chrysalisref09_Same.l0]) ?_
    exact EvTo.neg (by omega) EvTo.now
  | succ m ih =>
    intro i h1
    refine EvTo.step (fun k => by rw [chrysalisref09_Same.l0]) ?_
    refine EvTo.pos (by omega) (EvTo.pos (by omega) (EvTo.pos (by omega) ?_))
    rw [neN, eqN_self, inc i (by omega)]
    exact EvTo.neg (by simp) (ih (i + 1) (by omega))
theorem rSame_E (a : List S36) (ha : a.length ≤ 4611686018427387904) : EvTo (fun k => chrysalisref09_Same.f k a a) true := by
  unfold chrysalisref09_Same.f
  exact EvTo.pos rfl (rSame_l a ha a.length 0 (by omega))
theorem ints_l (a : List Int) (ha : a.length ≤ 4611686018427387904) : ∀ (m i : Nat), a.length = m + i → EvTo (fun k => chrysalislaw09_ints.l0 k a a (i : Int)) true := by
  intro m
  induction m with
  | zero =>
    intro i h1
    refine EvTo.step (fun k => by rw [chrysalislaw09_ints.l0]) ?_
    exact EvTo.neg (by omega) EvTo.now
  | succ m ih =>
    intro i h1
    refine EvTo.step (fun k => by rw [chrysalislaw09_ints.l0]) ?_
    refine EvTo.pos (by omega) (EvTo.pos (by omega) (EvTo.pos (by omega) (EvTo.pos rfl ?_)))
    rw [inc i (by omega)]
    exact ih (i + 1) (by omega)
theorem ints_E (a : List Int) (ha : a.length ≤ 4611686018427387904) : EvTo (fun k => chrysalislaw09_ints.f k a a) true := by
  unfold chrysalislaw09_ints.f
  exact EvTo.pos rfl (ints_l a ha a.length 0 (by omega))
theorem subL_len (l : List S36) (i : Int) : (subL l i).length ≤ l.length := by
  unfold subL
  split
  · exact Nat.zero_le _
  · rw [List.length_drop, List.length_take]; omega
theorem kidsI_len (l : List S36) (hl : l.length ≤ 2100) (i : Int) : (kidsI l i).length ≤ 2100 := by
  unfold kidsI
  split
  · exact Nat.zero_le _
  · rename_i c
    obtain ⟨j, rfl, hj, h0, h9⟩ := kids_at hl c
    rw [its_len, rd36 l j hj]; omega
theorem places_l (l : List S36) (hl : l.length ≤ 2100) (i : Int) : ∀ (m n : Nat) (x : List S36), x.length = m + n → x.length ≤ 2100 → EvTo (fun k => chrysalislaw09_TreePlaces.l0 k l i x true (n : Int)) true := by
  have hs := subL_len l i
  intro m
  induction m with
  | zero =>
    intro n x h1 h2
    refine EvTo.step (fun k => by rw [chrysalislaw09_TreePlaces.l0]) ?_
    refine EvTo.neg (by omega) (EvTo.pos rfl (EvTo.bind (Sub_E l hl i) (EvTo.bind (rSub_E l hl i) (EvTo.bind (rSame_E _ (by omega)) (EvTo.pos rfl known_B)))))
  | succ m ih =>
    intro n x h1 h2
    refine EvTo.step (fun k => by rw [chrysalislaw09_TreePlaces.l0]) ?_
    rw [inc n (by omega)]
    exact EvTo.pos (by omega) (EvTo.pos (by omega) (ih (n + 1) _ (by simp; omega) (by simp; omega)))
theorem TreePlaces (l : List S36) (i : Int) : ∃ k, chrysalislaw09_TreePlaces.f k l i = some true := by
  apply EvTo.one
  unfold chrysalislaw09_TreePlaces.f
  obtain ⟨x, hx, px⟩ := Light_E l
  refine EvTo.bind hx ?_
  cases x with
  | false => exact EvTo.neg (by simp) known_B
  | true =>
    have hl := (px rfl).1
    have hs := subL_len l i
    have hk := kidsI_len l hl i
    refine EvTo.pos rfl (EvTo.bind (Sub_E l hl i) (EvTo.bind (End_E l hl i) (EvTo.bind (rEnd_E l hl i) (EvTo.pos rfl (EvTo.bind (Kids_E l hl i) (EvTo.bind (rKids_E l hl i)
      (EvTo.bind (ints_E _ (by omega)) (EvTo.pos rfl (EvTo.bind (rSub_E l hl i) (EvTo.bind (rSame_E _ (by omega)) (EvTo.pos rfl (EvTo.bind (Depth_E l hl) (EvTo.bind (rDepth_E l hl) ?_)))))))))))))
    refine EvTo.step (fun k => by rw [chrysalislaw09_TreePlaces.j0]) ?_
    rw [beq_self_eq_true]
    exact places_l l hl i _ 0 _ rfl (by omega)
end Go.Proofs.Ytclhaajlgmiilaa.Tree
namespace Go.Proofs.Ytclhaajlgmiilaa
open Go Go.RowKit Go.Proofs.YtclhaajlgmiilaaW.PrintWords Go.Proofs.Ytclhaajlgmiilaa.Q
theorem places_row (A1 : Option Addr) (n1 c1 : Nat) (l1 : List S36) (i : Int) (w : World) (h1 : Kd.C k36 w A1 n1 l1) (b1 : (l1.length = n1 ∧ n1 ≤ c1) ∧ NodeB l1) (_ : (Lit.int .i64 i).wf = true) :
    Calls Try.prog 4 #[.slice A1 n1 c1, .int .i64 i] w fun e w' => e = .returned (.bool true) ∧ Below w.heap.size w w' := by
  obtain ⟨⟨rfl, hc1⟩, _⟩ := b1
  obtain ⟨k, hk⟩ := Tree.TreePlaces l1 i
  exact chrysalislaw09_TreePlaces.calls k A1 c1 l1 i true w h1 hc1 hk rfl
end Go.Proofs.Ytclhaajlgmiilaa
end
