/- Walks over functions of the program, words for them, and what the functions come to; of each text only what this claim uses; no condition. -/
import Derived.Test.YtendgafpkeadhaaZRO0
import Derived.Test.YtendgafpkeadhaaZRO14
import Derived.Test.YtendgafpkeadhaaZRO15
import Derived.Test.YtendgafpkeadhaaZRO16
import Derived.Test.YtendgafpkeadhaaZRO17
import Derived.Test.YtendgafpkeadhaaZRO19
import Derived.Test.YtendgafpkeadhaaZRO20
section
set_option linter.unusedVariables false
set_option linter.unusedSimpArgs false
namespace Go.Proofs.Ytendgafpkeadhaa.Lex
open Go Go.RowKit Go.Proofs.YtendgafpkeadhaaW.PrintWords Go.Proofs.Ytendgafpkeadhaa.Q
/-- A mark that stands apart from all that stands ahead of it. -/
structure Sep (c : UInt8) : Prop where
 inn : inn c = false
 di : di c = false
 pair : ∀ a, PAIRS.contains [a, c] = false
 bl : bl c = false
 n35 : c ≠ 35
theorem J4 : Sep 41 := ⟨by decide, by decide, fun a => by simp [PAIRS], by decide, by decide⟩
theorem Hg : Sep 59 := ⟨by decide, by decide, fun a => by simp [PAIRS], by decide, by decide⟩
/-- Is a remark open behind a text that is passed? -/
def rmk : Bool → List UInt8 → Bool
 | b, [] => b
 | false, c :: t => if bl c then rmk false t else if c = 35 then rmk true t else false
 | true, c :: t => if c = 10 then rmk false t else rmk true t
theorem lK (m : List UInt8) : ∀ (l : List UInt8) (b : Bool), skp b (l ++ m) = if skp b l = [] then skp (rmk b l) m else skp b l ++ m
 | [], b => by cases b <;> simp [skp, rmk]
 | c :: t, true => by
  by_cases h : c = 10
  ·have e1 : ∀ u, skp true (c :: u) = skp false u := fun u => by simp only [skp]; rw [if_pos h]
   have e2 : rmk true (c :: t) = rmk false t := by simp only [rmk]; rw [if_pos h]
   rw [List.cons_append, e1, e1, e2]; exact lK m t false
  have e1 : ∀ u, skp true (c :: u) = skp true u := fun u => by simp only [skp]; rw [if_neg h]
  have e2 : rmk true (c :: t) = rmk true t := by simp only [rmk]; rw [if_neg h]
  rw [List.cons_append, e1, e1, e2]; exact lK m t true
 | c :: t, false => by
  by_cases h : bl c = true
  ·have e1 : ∀ u, skp false (c :: u) = skp false u := fun u => by simp only [skp]; rw [if_pos h]
   have e2 : rmk false (c :: t) = rmk false t := by simp only [rmk]; rw [if_pos h]
   rw [List.cons_append, e1, e1, e2]; exact lK m t false
  by_cases h2 : c = 35
  ·have e1 : ∀ u, skp false (c :: u) = skp true u := fun u => by simp only [skp]; rw [if_neg h, if_pos h2]
   have e2 : rmk false (c :: t) = rmk true t := by simp only [rmk]; rw [if_neg h, if_pos h2]
   rw [List.cons_append, e1, e1, e2]; exact lK m t true
  have e1 : ∀ u, skp false (c :: u) = c :: u := fun u => by simp only [skp]; rw [if_neg h, if_neg h2]
  rw [List.cons_append, e1, e1, if_neg (by simp), List.cons_append]
theorem yY : ∀ (l : List UInt8) (b : Bool), rmk b l = true → b = true ∨ (35 : UInt8) ∈ l
 | [], b, h => Or.inl (by cases b <;> simp [rmk] at h ⊢)
 | c :: t, true, h => Or.inl rfl
 | c :: t, false, h => by
  right
  simp only [rmk] at h
  split at h
  ·rcases yY t false h with h | h
   ·cases h
   exact List.mem_cons_of_mem _ h
  split at h
  ·rename_i e; rw [e]; exact List.mem_cons_self
  cases h
theorem sS : ∀ m : List UInt8, (10 : UInt8) ∉ m → skp true m = []
 | [], _ => rfl
 | c :: t, h => by
  simp only [skp]
  rw [if_neg (fun e => h (by rw [e]; exact List.mem_cons_self))]
  exact sS t fun e => h (List.mem_cons_of_mem _ e)
theorem jH (q : UInt8 → Bool) {c : UInt8} (hq : q c = false) (m : List UInt8) : ∀ l : List UInt8, (l ++ c :: m).takeWhile q = l.takeWhile q
 | [] => by rw [List.nil_append, List.takeWhile_cons, if_neg (by rw [hq]; simp)]; rfl
 | a :: l => by rw [List.cons_append, List.takeWhile_cons, List.takeWhile_cons, jH q hq m l]
theorem rU (m : List UInt8) : ∀ (l : List UInt8) (b : Bool) (x r : List UInt8), unq b l = some (x, r) → unq b (l ++ m) = some (x, r ++ m)
 | [], b, x, r, h => by cases b <;> simp [unq] at h
 | c :: t, true, x, r, h => by
  rw [List.cons_append]
  simp only [unq] at h ⊢
  cases he : esc c with
  | none => rw [he] at h; cases h
  | some y =>
   rw [he] at h
   simp only [Option.map_eq_some_iff, Prod.mk.injEq] at h ⊢
   obtain ⟨⟨z, s⟩, h1, h2, h3⟩ := h
   exact ⟨(z, s ++ m), rU m t false z s h1, h2, by simp only at h3 ⊢; rw [h3]⟩
 | c :: t, false, x, r, h => by
  rw [List.cons_append]
  simp only [unq] at h ⊢
  by_cases c1 : c = 34
  ·rw [if_pos c1] at h ⊢
   simp only [Option.some.injEq, Prod.mk.injEq] at h ⊢
   exact ⟨h.1, by rw [h.2]⟩
  rw [if_neg c1] at h ⊢
  by_cases c2 : c = 10
  ·rw [if_pos c2] at h; cases h
  rw [if_neg c2] at h ⊢
  by_cases c3 : c = 92
  ·rw [if_pos c3] at h ⊢; exact rU m t true x r h
  rw [if_neg c3] at h ⊢
  simp only [Option.map_eq_some_iff, Prod.mk.injEq] at h ⊢
  obtain ⟨⟨z, s⟩, h1, h2, h3⟩ := h
  exact ⟨(z, s ++ m), rU m t false z s h1, h2, by simp only at h3 ⊢; rw [h3]⟩
theorem wu : ∀ (m : List UInt8) (b : Bool), (34 : UInt8) ∉ m → unq b m = none
 | [], b, _ => by cases b <;> rfl
 | c :: t, true, h => by
  simp only [unq]
  cases esc c with
  | none => rfl
  | some y => simp only [wu t false fun e => h (List.mem_cons_of_mem _ e)]; rfl
 | c :: t, false, h => by
  simp only [unq]
  rw [if_neg (fun e => h (by rw [e]; exact List.mem_cons_self))]
  split
  ·rfl
  split
  ·exact wu t true fun e => h (List.mem_cons_of_mem _ e)
  rw [wu t false fun e => h (List.mem_cons_of_mem _ e)]; rfl
theorem mQ (m : List UInt8) (hm : (34 : UInt8) ∉ m) : ∀ (l : List UInt8) (b : Bool), unq b l = none → unq b (l ++ m) = none
 | [], b, _ => by rw [List.nil_append]; exact wu m b hm
 | c :: t, true, h => by
  rw [List.cons_append]
  simp only [unq] at h ⊢
  cases he : esc c with
  | none => rfl
  | some x =>
   rw [he] at h
   simp only [Option.map_eq_none_iff] at h ⊢
   exact mQ m hm t false h
 | c :: t, false, h => by
  rw [List.cons_append]
  simp only [unq] at h ⊢
  by_cases c1 : c = 34
  ·rw [if_pos c1] at h; cases h
  rw [if_neg c1] at h ⊢
  by_cases c2 : c = 10
  ·rw [if_pos c2]
  rw [if_neg c2] at h ⊢
  by_cases c3 : c = 92
  ·rw [if_pos c3] at h ⊢; exact mQ m hm t true h
  rw [if_neg c3] at h ⊢
  simp only [Option.map_eq_none_iff] at h ⊢
  exact mQ m hm t false h
theorem yt {c : UInt8} (hc : Sep c) (m : List UInt8) (a : UInt8) (t : List UInt8) : Lex.mark (a :: t ++ c :: m) = Lex.mark (a :: t) := by
 cases t with
 | nil =>
  unfold Lex.mark
  rw [show ((a :: [] ++ c :: m).take 2) = [a, c] from rfl, hc.pair a]
  have : PAIRS.contains ([a].take 2) = false := by simp [PAIRS]
  rw [this]
  rfl
 | cons d u => rfl
variable {c : UInt8} (hc : Sep c) (m : List UInt8)
include hc in
theorem AC {l : List UInt8} {k : Int} {x : List UInt8} {n : Int} {j : Nat} (h : Lex.one l = .ok (k, x, n, j)) : Lex.one (l ++ c :: m) = .ok (k, x, n, j) := by
 cases l with
 | nil => cases h
 | cons a t =>
  rw [← h, List.cons_append]
  simp only [Lex.one]
  have w1 := jH Lex.inn hc.inn m (a :: t)
  have w2 := jH Lex.di hc.di m (a :: t)
  rw [List.cons_append] at w1 w2
  rw [w1, w2]
  have w3 := yt hc m a t
  rw [List.cons_append] at w3
  rw [w3]
  by_cases c1 : le a = true
  ·rw [if_pos c1, if_pos c1]
  rw [if_neg c1, if_neg c1]
  by_cases c2 : Lex.di a = true
  ·rw [if_pos c2, if_pos c2]
  rw [if_neg c2, if_neg c2]
  by_cases c3 : a = 34
  ·rw [if_pos c3, if_pos c3]
   simp only [Lex.one] at h
   rw [if_neg c1, if_neg c2, if_pos c3] at h
   cases hu : unq false t with
   | none => rw [hu] at h; cases h
   | some r =>
    obtain ⟨y, r⟩ := r
    rw [rU (c :: m) t false y r hu]
    have := mP t false y r hu
    simp only [List.length_cons, List.length_append, Except.ok.injEq, Prod.mk.injEq, true_and]
    omega
  rw [if_neg c3, if_neg c3]
include hc in
theorem Eb (h34 : (34 : UInt8) ∉ c :: m) {a : UInt8} {t : List UInt8} {e : Int} (h : Lex.one (a :: t) = .error e) : Lex.one (a :: t ++ c :: m) = .error e := by
 rw [← h, List.cons_append]
 simp only [Lex.one]
 have w1 := jH Lex.inn hc.inn m (a :: t)
 have w2 := jH Lex.di hc.di m (a :: t)
 rw [List.cons_append] at w1 w2
 rw [w1, w2]
 have w3 := yt hc m a t
 rw [List.cons_append] at w3
 rw [w3]
 by_cases c1 : le a = true
 ·rw [if_pos c1, if_pos c1]
 rw [if_neg c1, if_neg c1]
 by_cases c2 : Lex.di a = true
 ·rw [if_pos c2, if_pos c2]
 rw [if_neg c2, if_neg c2]
 by_cases c3 : a = 34
 ·rw [if_pos c3, if_pos c3]
  simp only [Lex.one] at h
  rw [if_neg c1, if_neg c2, if_pos c3] at h
  cases hu : unq false t with
  | none => rw [mQ (c :: m) h34 t false hu]
  | some r => rw [hu] at h; cases h
 rw [if_neg c3, if_neg c3]
/-- Is a remark open behind the last token? -/
def xW : Nat → List UInt8 → Bool
 | 0, _ => false
 | f + 1, l => match Lex.one l with
  | .error _ => false
  | .ok (_, _, _, j) => if skp false (l.drop j) = [] then rmk false (l.drop j) else xW f (skp false (l.drop j))
def up (d : Nat) (t : Tk) : Tk := ⟨t.kind, t.text, t.n, t.rem + d⟩
include hc in
theorem xK (ys : List Tk) (h10 : (10 : UInt8) ∉ c :: m) (hm : Lex.scan (c :: m) = .ok ys) : ∀ (f g : Nat) (l : List UInt8) (xs : List Tk), l.length < f → l.length + m.length + 1 < g → l ≠ [] → toks f l = .ok xs →
 toks g (l ++ c :: m) = .ok (xs.map (up (m.length + 1)) ++ if xW f l = true then [] else ys)
 | 0, _, l, _, h, _, _, _ => by omega
 | _ + 1, 0, l, _, _, h, _, _ => by omega
 | f + 1, g + 1, [], xs, _, _, h, _ => absurd rfl h
 | f + 1, g + 1, a :: t, xs, hf, hg, _, h => by
  simp only [List.length_cons] at hf hg
  simp only [toks] at h
  split at h
  ·cases h
  rename_i k x n j ho
  split at h
  ·cases h
  rename_i us hu
  simp only [Except.ok.injEq] at h
  subst h
  have hj := oI ho
  simp only [List.length_cons] at hj
  have ho2 := AC hc m ho
  have hte : xW (f + 1) (a :: t) = if skp false ((a :: t).drop j) = [] then rmk false ((a :: t).drop j) else xW f (skp false ((a :: t).drop j)) := by simp only [xW, ho]
  rw [List.cons_append] at ho2 ⊢
  simp only [toks, ho2]
  have hd : List.drop j (a :: (t ++ c :: m)) = List.drop j (a :: t) ++ c :: m := by
   rw [← List.cons_append, List.drop_append_of_le_length Z75]
  rw [hd, lK, hte]
  have hsl := gU ((a :: t).drop j) false
  simp only [List.length_drop, List.length_cons] at hsl
  have hl1 : (a :: (t ++ c :: m)).length = (a :: t).length + (m.length + 1) := by simp; omega
  by_cases he : skp false ((a :: t).drop j) = []
  ·rw [if_pos he, if_pos he]
   rw [he] at hu
   have hus : us = [] := by
    cases f with
    | zero => simp [toks] at hu; exact hu
    | succ f => simp [toks] at hu; exact hu
   subst hus
   cases hr : rmk false ((a :: t).drop j) with
   | true =>
    rw [sS _ h10]
    have : toks g [] = .ok [] := by cases g <;> rfl
    rw [this]
    simp only [if_true, List.append_nil, List.map_cons, List.map_nil, up, hl1]
   | false =>
    have hs : skp false (c :: m) = c :: m := by simp only [skp]; rw [if_neg (by rw [hc.bl]; simp), if_neg hc.n35]
    have hm2 : toks g (c :: m) = .ok ys := by
     rw [← hm]
     unfold Lex.scan
     rw [hs]
     exact ou g _ _ Z75 (by omega)
    rw [hs, hm2]
    simp only [Bool.false_eq_true, if_false, List.map_cons, List.map_nil, List.cons_append, List.nil_append, up, hl1]
  rw [if_neg he, if_neg he]
  rw [xK ys h10 hm f g _ us (by omega) (by omega) he hu]
  simp only [List.map_cons, List.cons_append, up, hl1]
def BN (l : List UInt8) : Bool := if skp false l = [] then rmk false l else xW (l.length + 1) (skp false l)
include hc in
theorem yc {l : List UInt8} {xs ys : List Tk} (h10 : (10 : UInt8) ∉ c :: m) (hl : Lex.scan l = .ok xs) (hm : Lex.scan (c :: m) = .ok ys) : Lex.scan (l ++ c :: m) = .ok (xs.map (up (m.length + 1)) ++ if BN l = true then [] else ys) := by
 have h1 := gU l false
 unfold Lex.scan at hl
 unfold BN
 show toks ((l ++ c :: m).length + 1) (skp false (l ++ c :: m)) = _
 rw [lK]
 by_cases he : skp false l = []
 ·rw [if_pos he, if_pos he]
  rw [he] at hl
  have hxs : xs = [] := by simpa [toks] using hl.symm
  subst hxs
  cases hr : rmk false l with
  | true =>
   rw [sS _ h10]
   rfl
  | false =>
   unfold Lex.scan at hm
   have h2 := gU (c :: m) false
   simp only [List.length_cons] at h2
   rw [List.map_nil, List.nil_append, if_neg (by simp), ← hm]
   exact ou _ _ _ (by simp; omega) (by simp; omega)
 rw [if_neg he, if_neg he]
 exact xK hc m ys h10 hm _ _ _ xs (by omega) (by simp; omega) he hl
include hc in
theorem uT (h34 : (34 : UInt8) ∉ c :: m) : ∀ (f g : Nat) (l : List UInt8) (e : Int × Nat), l.length < f → l.length + m.length + 1 < g → toks f l = .error e → ∃ e', toks g (l ++ c :: m) = .error e'
 | 0, _, l, _, h, _, _ => by omega
 | _ + 1, 0, l, _, _, h, _ => by omega
 | f + 1, g + 1, [], e, _, _, h => by cases h
 | f + 1, g + 1, a :: t, e, hf, hg, h => by
  simp only [List.length_cons] at hf hg
  simp only [toks] at h
  cases ho : Lex.one (a :: t) with
  | error e1 =>
   have := Eb hc m h34 ho
   rw [List.cons_append] at this ⊢
   simp only [toks, this]
   exact ⟨_, rfl⟩
  | ok r =>
   obtain ⟨k, x, n, j⟩ := r
   rw [ho] at h
   have ho2 := AC hc m ho
   have hj := oI ho
   simp only [List.length_cons] at hj
   have hsl := gU ((a :: t).drop j) false
   simp only [List.length_drop, List.length_cons] at hsl
   have hd : List.drop j (a :: (t ++ c :: m)) = List.drop j (a :: t) ++ c :: m := by
    rw [← List.cons_append, List.drop_append_of_le_length Z75]
   rw [List.cons_append] at ho2 ⊢
   simp only [toks, ho2]
   rw [hd, lK]
   simp only at h
   cases hu : toks f (skp false ((a :: t).drop j)) with
   | ok ts => rw [hu] at h; cases h
   | error e1 =>
    have he : skp false ((a :: t).drop j) ≠ [] := by
     intro he
     rw [he] at hu
     cases f with
     | zero => cases hu
     | succ f => cases hu
    rw [if_neg he]
    obtain ⟨e', h'⟩ := uT h34 f g _ e1 (by omega) (by omega) hu
    rw [h']
    exact ⟨_, rfl⟩
include hc in
theorem BM (h34 : (34 : UInt8) ∉ c :: m) {l : List UInt8} {zs : List Tk} (h : Lex.scan (l ++ c :: m) = .ok zs) : ∃ xs, Lex.scan l = .ok xs := by
 cases hl : Lex.scan l with
 | ok xs => exact ⟨xs, rfl⟩
 | error e =>
  exfalso
  unfold Lex.scan at h hl
  have h1 := gU l false
  rw [lK] at h
  have he : skp false l ≠ [] := by
   intro he
   rw [he] at hl
   cases hl
  rw [if_neg he] at h
  obtain ⟨e', h'⟩ := uT hc m h34 _ (((l ++ c :: m).length) + 1) _ e (by omega) (by simp; omega) hl
  rw [h'] at h
  cases h
theorem oD : ∀ (l : List UInt8) (b : Bool) (x : UInt8), x ∈ skp b l → x ∈ l
 | [], b, x, h => by cases b <;> simp [skp] at h
 | c :: t, true, x, h => by
  simp only [skp] at h
  split at h
  ·exact List.mem_cons_of_mem _ (oD t false x h)
  exact List.mem_cons_of_mem _ (oD t true x h)
 | c :: t, false, x, h => by
  simp only [skp] at h
  split at h
  ·exact List.mem_cons_of_mem _ (oD t false x h)
  split at h
  ·exact List.mem_cons_of_mem _ (oD t true x h)
  exact h
theorem Aj : ∀ (f : Nat) (l : List UInt8), xW f l = true → (35 : UInt8) ∈ l
 | 0, l, h => by cases h
 | f + 1, l, h => by
  simp only [xW] at h
  split at h
  ·cases h
  split at h
  ·rcases yY _ _ h with h | h
   ·cases h
   exact List.mem_of_mem_drop h
  exact List.mem_of_mem_drop (oD _ _ _ (Aj f _ h))
theorem FC {l : List UInt8} (h : BN l = true) : (35 : UInt8) ∈ l := by
 unfold BN at h
 split at h
 ·rcases yY _ _ h with h | h
  ·cases h
  exact h
 exact oD _ _ _ (Aj _ _ h)
theorem Ec (a : UInt8) (ha : a = 40 ∨ a = 41) (z : List UInt8) : Lex.one (a :: z) = .ok (4, [a], 0, 1) := by
 have hp : PAIRS.contains ((a :: z).take 2) = false := by
  cases z with
  | nil => simp [PAIRS]
  | cons d u => rcases ha with rfl | rfl <;> simp [PAIRS]
 have hm : Lex.mark (a :: z) = [a] := by
  unfold Lex.mark
  rw [hp]
  rcases ha with rfl | rfl <;> rfl
 simp only [Lex.one, hm]
 rcases ha with rfl | rfl <;> rfl
theorem uY (a : UInt8) (ha : a = 40 ∨ a = 41) (z : List UInt8) : Lex.scan (a :: z) = match Lex.scan z with
 | .error e => .error e
 | .ok zs => .ok (⟨4, [a], 0, z.length + 1⟩ :: zs) := by
 have hs : skp false (a :: z) = a :: z := by rcases ha with rfl | rfl <;> rfl
 unfold Lex.scan
 rw [hs]
 simp only [toks, Ec a ha z, List.drop_succ_cons, List.drop_zero, List.length_cons]
 cases toks (z.length + 1) (skp false z) <;> rfl
end Go.Proofs.Ytendgafpkeadhaa.Lex
end
section
set_option linter.unusedVariables false
set_option linter.unusedSimpArgs false
namespace Go.Proofs.Ytendgafpkeadhaa.Lex
open Go Go.RowKit Go.Proofs.YtendgafpkeadhaaW.PrintWords Go.Proofs.Ytendgafpkeadhaa.Q
theorem wS {c : UInt8} (h : le c = true) : inn c = true := by simp [inn, h]
theorem Ed {l : List UInt8} {k : Int} {x : List UInt8} {n : Int} {m : Nat} (h : Lex.one l = .ok (k, x, n, m)) : (k = 5 → isKey x = true) ∧ (k = 1 → jD x = true) := by
 cases l with
 | nil => cases h
 | cons c t =>
  simp only [Lex.one] at h
  split at h
  ·rename_i hc
   have hword : isWord ((c :: t).takeWhile inn) = true := by
    rw [List.takeWhile_cons, if_pos (wS hc)]
    simp only [isWord, hc, Bool.true_and, List.all_cons, wS hc]
    exact pG inn t
   split at h
   ·rename_i hk
    simp only [Except.ok.injEq, Prod.mk.injEq] at h
    obtain ⟨rfl, rfl, _, _⟩ := h
    exact ⟨fun _ => hk, fun q => by omega⟩
   split at h
   ·rename_i hk hl
    simp only [Except.ok.injEq, Prod.mk.injEq] at h
    obtain ⟨rfl, rfl, _, _⟩ := h
    refine ⟨fun q => by omega, fun _ => ?_⟩
    unfold jD
    rw [hword, decide_eq_true hl, Bool.eq_false_iff.2 hk]; rfl
   cases h
  repeat' split at h
  all_goals first
   | cases h; done
   | (simp only [Except.ok.injEq, Prod.mk.injEq] at h; obtain ⟨rfl, _, _, _⟩ := h; exact ⟨fun q => by omega, fun q => by omega⟩)
theorem kw : ∀ (l : List UInt8) (b : Bool), skp b l <:+ l
 | [], b => by cases b <;> exact List.suffix_refl _
 | c :: t, false => by
  by_cases h : bl c = true
  ·have e1 : skp false (c :: t) = skp false t := by simp [skp, h]
   rw [e1]
   exact (kw t false).trans (List.suffix_cons c t)
  by_cases h2 : c = 35
  ·have e1 : skp false (c :: t) = skp true t := by simp [skp, h, h2]; intro q; rw [h2] at h; exact absurd q h
   rw [e1]
   exact (kw t true).trans (List.suffix_cons c t)
  have e1 : skp false (c :: t) = c :: t := by simp [skp, h, h2]
  rw [e1]
  exact List.suffix_refl _
 | c :: t, true => by
  by_cases h : c = 10
  ·have e1 : skp true (c :: t) = skp false t := by simp [skp, h]
   rw [e1]
   exact (kw t false).trans (List.suffix_cons c t)
  have e1 : skp true (c :: t) = skp true t := by simp [skp, h]
  rw [e1]
  exact (kw t true).trans (List.suffix_cons c t)
theorem oU {α : Type} (n : Nat) (l : List α) : l.take (l.take n).length = l.take n := by
 rw [List.length_take]
 rcases Nat.le_total n l.length with h | h
 ·rw [Nat.min_eq_left h]
 rw [Nat.min_eq_right h, List.take_of_length_le h, List.take_of_length_le (Nat.le_refl _)]
theorem Cf (l : List UInt8) : l.take (Lex.mark l).length = Lex.mark l := by
 unfold Lex.mark
 by_cases h : PAIRS.contains (l.take 2) = true
 ·rw [if_pos h]; exact oU 2 l
 rw [if_neg h]
 have key : ∀ (b : Bool), l.take (if b = true then l.take 1 else []).length = if b = true then l.take 1 else [] := by
  intro b
  cases b with
  | true => exact oU 1 l
  | false => rfl
 exact key _
end Go.Proofs.Ytendgafpkeadhaa.Lex
end
section
set_option linter.unusedVariables false
set_option linter.unusedSimpArgs false
namespace Go.Proofs.Ytendgafpkeadhaa.Par
open Go Go.RowKit Go.Proofs.YtendgafpkeadhaaW.PrintWords Go.Proofs.Ytendgafpkeadhaa.Q Go.Proofs.Ytendgafpkeadhaa.Lex Go.Proofs.Ytendgafpkeadhaa.Tree
theorem zL : ∀ (O : List S38) (n : Nat) (l : List S38), O ≠ [] → (∀ t ∈ O, wd [t] = [40]) → 1 ≤ n → ((∃ q, (pfam n).expr l = .error (some q)) ∨ ∃ e r, (pfam n).expr l = .ok (e, r) ∧ wd r ≠ [41]) →
 ∃ q, (pfam (n + 6 * O.length)).expr (O ++ l) = .error (some q)
 | [], _, _, h, _, _, _ => absurd rfl h
 | [t], n, l, _, ht, hn, h => DX (t := t) (l := l) (ht t List.mem_cons_self) h hn
 | t :: u :: O, n, l, _, ht, hn, h => by
  obtain ⟨q, hq⟩ := zL (u :: O) n l (by simp) (fun x hx => ht x (List.mem_cons_of_mem _ hx)) hn h
  have := DX (n := n + 6 * (u :: O).length) (t := t) (l := (u :: O) ++ l) (ht t List.mem_cons_self) (Or.inl ⟨q, hq⟩) (by omega)
  rw [show n + 6 * (t :: u :: O).length = n + 6 * (u :: O).length + 6 from Z75]
  exact this
theorem snoc {α : Type} : ∀ l : List α, l ≠ [] → ∃ l' x, l = l' ++ [x]
 | [], h => absurd rfl h
 | [a], _ => ⟨[], a, rfl⟩
 | a :: b :: l, _ => by
  obtain ⟨l', x, h⟩ := snoc (b :: l) (by simp)
  exact ⟨a :: l', x, by rw [h]; rfl⟩
theorem JF {l : List S38} (h : wd l = [41]) : St l := by unfold St; rw [h]; decide
theorem JE {l : List S38} (h : wd l = [59]) : St l := by unfold St; rw [h]; decide
theorem EM : ∀ (K : Nat) (O Sh : List S38) (n : Nat) (z r0 : List S38) (e : List S41), O.length = K → Sh.length = K → (∀ t ∈ O, wd [t] = [40]) → (∀ t ∈ Sh, wd [t] = [41]) → 1 ≤ n → St r0 →
 (pfam n).expr (z ++ (Sh ++ r0)) = .ok (e, Sh ++ r0) → (pfam (n + 6 * K)).expr (O ++ (z ++ (Sh ++ r0))) = .ok (e, r0)
 | 0, O, Sh, n, z, r0, e, h1, h2, _, _, _, _, h => by
  obtain rfl := List.length_eq_zero_iff.1 h1
  obtain rfl := List.length_eq_zero_iff.1 h2
  exact h
 | K + 1, [], Sh, n, z, r0, e, h1, h2, _, _, _, _, h => by simp at h1
 | K + 1, t :: O, Sh, n, z, r0, e, h1, h2, hO, hS, hn, hr, h => by
  obtain ⟨Sh', s, rfl⟩ := snoc Sh (by rintro rfl; simp at h2)
  have hs : wd (s :: r0) = [41] := hS s (by simp)
  have e0 : Sh' ++ [s] ++ r0 = Sh' ++ (s :: r0) := by simp
  rw [e0] at h ⊢
  have ih := EM K O Sh' n z (s :: r0) e (by simpa using h1) (by simpa using h2) (fun x hx => hO x (List.mem_cons_of_mem _ hx)) (fun x hx => hS x (by simp [hx])) hn (JF hs) h
  have := IB (n := n + 6 * K) (t := t) (l := O ++ (z ++ (Sh' ++ s :: r0))) (hO t List.mem_cons_self) ih hs hr (by omega)
  rw [show n + 6 * (K + 1) = n + 6 * K + 6 by omega]
  exact this
theorem wo {n N : Nat} (h : n ≤ N) {l : List S38} {v : R (List S41)} (hv : (pfam n).expr l = v) (hne : v ≠ .error none) : (pfam N).expr l = v := by
 have := (tq n N h).expr l (by rw [hv]; exact hne)
 rw [this, hv]
/-- Where no remark is open behind the text. -/
theorem DD {n N : Nat} (hn : 2 ≤ n) (hN : n + 200 ≤ N) {h0 h1 : List S38} {t0 t1 t2 t3 t4 t5 t6 t7 t8 t9 u0 u1 u2 u3 u4 u5 u6 u7 u8 u9 : S38} (T : Ten h0 t0 t1 t2 t3 t4 t5 t6 t7 t8 t9) (U : Ten h1 u0 u1 u2 u3 u4 u5 u6 u7 u8 u9)
 (e1 : t1.f1 = u1.f1) (e2 : t2.f2 = u2.f2) (e5 : t5.f1 = u5.f1) {zs0 zs1 O Sh : List S38} {s0 c0 s1 c1 : S38} (hsim : Sim zs0 zs1) {K : Nat} (hK : 1 ≤ K) (hK9 : K ≤ 19) (hO : O.length = K) (hS : Sh.length = K) (aO : ∀ t ∈ O, wd [t] = [40]) (aS : ∀ t ∈ Sh, wd [t] = [41])
 (w0 : wd [s0] = [59]) (v0 : wd [c0] = [125]) (w1 : wd [s1] = [59]) (v1 : wd [c1] = [125]) {x : List S41} (m0 : moduleP (pfam n) n (h0 ++ (zs0 ++ [s0, c0])) = .ok (x, [])) :
 moduleP (pfam N) N (h1 ++ (O ++ (zs1 ++ (Sh ++ [s1, c1])))) = .ok (x, []) ∨ ((∃ q, moduleP (pfam N) N (h1 ++ (O ++ (zs1 ++ (Sh ++ [s1, c1])))) = .error (some q)) ∧ ∃ p R s, zs0 = p ++ s :: R ∧ De p = 0 ∧ wd [s] = [59]) := by
 obtain ⟨M, rfl⟩ : ∃ M, n = M + 1 := ⟨n - 1, by omega⟩
 obtain ⟨L', rfl⟩ : ∃ L', N = L' + 1 := ⟨N - 1, by omega⟩
 obtain ⟨e, s, q, g1, g2⟩ := Ah T m0
 have hL := (pfam_L (M + 1)).expr
 have hsuf := hL.loc.suf _ _ _ g1
 obtain ⟨T2, hT2⟩ := oz (b := [c0]) (T := zs0 ++ [s0]) (by rw [List.append_assoc]; exact hsuf) (by simp)
 have hT2n : T2 ≠ [] := by
  rintro rfl
  simp only [List.nil_append, List.cons.injEq] at hT2
  obtain ⟨rfl, rfl⟩ := hT2
  rw [show wd [s] = [125] from v0] at g2
  cases g2
 have hsuf2 : T2 <:+ zs0 ++ [s0] := by
  obtain ⟨y, hy⟩ := hsuf
  rw [hT2] at hy
  refine ⟨y, List.append_cancel_right (bs := [c0]) ?_⟩
  rw [List.append_assoc, List.append_assoc]
  exact hy
 obtain ⟨R, hR⟩ := oz (b := [s0]) (T := zs0) hsuf2 (by have := List.length_pos_iff.2 hT2n; simp only [List.length_cons, List.length_nil]; omega)
 have hsq : s :: q = R ++ [s0, c0] := by rw [hT2, hR]; simp
 have hSh : Sh ≠ [] := by rintro rfl; simp at hS; omega
 have hO' : O ≠ [] := by rintro rfl; simp at hO; omega
 have stS : St (Sh ++ [s1, c1]) := by
  cases Sh with
  | nil => exact absurd rfl hSh
  | cons a b => exact JF (aS a List.mem_cons_self)
 rw [hsq] at g1 g2
 obtain ⟨T2', k1, k2⟩ := hL.loc.ok zs0 zs1 [s0, c0] (Sh ++ [s1, c1]) e R hsim (fun h => ⟨JE (show wd [s0, c0] = [59] from w0), stS⟩) g1
 cases R with
 | nil =>
  left
  cases T2' with
  | cons a b => cases k1
  | nil =>
  have b1 := EM K O Sh (M + 1) zs1 [s1, c1] e hO hS aO aS (by omega) (JE (show wd [s1, c1] = [59] from w1)) k2
  have b2 := wo (N := L' + 1) (by omega) b1 (by simp)
  have a0 := Du (M := M) T g1 (show wd [s0] = [59] from w0) v0 (by omega)
  have a1 := Du (M := L') U b2 (show wd [s1] = [59] from w1) v1 (by omega)
  rw [a1, ← e1, ← e2, ← e5, ← a0, m0]
 | cons s2 R =>
  right
  cases T2' with
  | nil => cases k1
  | cons s3 R3 =>
  have hc : core s2 = core s3 := (List.cons.inj k1).1
  have hw3 : wd (s3 :: R3 ++ (Sh ++ [s1, c1])) ≠ [41] := by
   rw [List.cons_append, ← zY (R ++ [s0, c0]) _ hc]
   rw [show wd (s2 :: (R ++ [s0, c0])) = [59] from g2]
   decide
  refine ⟨?_, ?_⟩
  ·obtain ⟨q', hq⟩ := zL O (M + 1) (zs1 ++ (Sh ++ [s1, c1])) hO' aO (by omega) (Or.inr ⟨e, _, k2, hw3⟩)
   exact ⟨q', Dv U (wo (by rw [hO]; omega) hq (by simp))⟩
  obtain ⟨p, hp, hd⟩ := (tu (M + 1)).expr _ _ _ trivial g1
  refine ⟨p, R, s2, ?_, hd, g2⟩
  rw [← List.append_assoc] at hp
  exact List.append_cancel_right hp
/-- Where a remark is open behind the text. -/
theorem DC {n N : Nat} (hn : 2 ≤ n) (hN : n + 200 ≤ N) {h0 h1 : List S38} {t0 t1 t2 t3 t4 t5 t6 t7 t8 t9 u0 u1 u2 u3 u4 u5 u6 u7 u8 u9 : S38} (T : Ten h0 t0 t1 t2 t3 t4 t5 t6 t7 t8 t9) (U : Ten h1 u0 u1 u2 u3 u4 u5 u6 u7 u8 u9)
 {zs0 zs1 O : List S38} (hsim : Sim zs0 zs1) {K : Nat} (hK : 1 ≤ K) (hK9 : K ≤ 19) (hO : O.length = K) (aO : ∀ t ∈ O, wd [t] = [40]) {x : List S41} (m0 : moduleP (pfam n) n (h0 ++ zs0) = .ok (x, [])) :
 ∃ q, moduleP (pfam N) N (h1 ++ (O ++ zs1)) = .error (some q) := by
 obtain ⟨M, rfl⟩ : ∃ M, n = M + 1 := ⟨n - 1, by omega⟩
 obtain ⟨L', rfl⟩ : ∃ L', N = L' + 1 := ⟨N - 1, by omega⟩
 obtain ⟨e, s, q, g1, g2⟩ := Ah T m0
 have hL := (pfam_L (M + 1)).expr
 have hO' : O ≠ [] := by rintro rfl; simp at hO; omega
 obtain ⟨T2', k1, k2⟩ := hL.loc.ok zs0 zs1 [] [] e (s :: q) hsim (fun h => by cases h) (by rw [List.append_nil, List.append_nil]; exact g1)
 rw [List.append_nil, List.append_nil] at k2
 cases T2' with
 | nil => cases k1
 | cons s3 R3 =>
  have hw3 : wd (s3 :: R3) ≠ [41] := by
   rw [← zY q R3 (List.cons.inj k1).1, g2]
   decide
  obtain ⟨q', hq⟩ := zL O (M + 1) zs1 hO' aO (by omega) (Or.inr ⟨e, _, k2, hw3⟩)
  exact ⟨q', Dv U (wo (by rw [hO]; omega) hq (by simp))⟩
theorem mr (p : Nat) (k : Int) (hk : k = 5 ∨ k = 4) (x : List UInt8) (n : Int) (r : Nat) (l : List S38) : wd (tkS p ⟨k, x, n, r⟩ :: l) = x := by
 have : wB (tkS p ⟨k, x, n, r⟩ :: l) = S x := if_pos hk
 unfold wd
 rw [this, eP]; rfl
end Go.Proofs.Ytendgafpkeadhaa.Par
namespace Go.Proofs.Ytendgafpkeadhaa.Lex
open Go Go.RowKit Go.Proofs.YtendgafpkeadhaaW.PrintWords Go.Proofs.Ytendgafpkeadhaa.Q
theorem jc {f : Nat} {c : UInt8} {t : List UInt8} {k : Int} {x : List UInt8} {n : Int} {j : Nat} {u : List UInt8} (h : Lex.one (c :: t) = .ok (k, x, n, j)) (hu : skp false ((c :: t).drop j) = u) :
 toks (f + 1) (c :: t) = match toks f u with
  | .error e => .error e
  | .ok ts => .ok (⟨k, x, n, (c :: t).length⟩ :: ts) := by
 simp only [toks, h, hu]
 cases toks f u <;> rfl
abbrev h28 : List UInt8 := [109, 111, 100, 117, 108, 101, 32, 109, 32, 49, 59, 32, 102, 110, 32, 102, 40, 41, 32, 123, 32, 114, 101, 116, 117, 114, 110, 32]
def Dw (n : Nat) : List Tk := [⟨5, [109, 111, 100, 117, 108, 101], 0, n + 28⟩, ⟨1, [109], 0, n + 21⟩, ⟨2, [49], 1, n + 19⟩, ⟨4, [59], 0, n + 18⟩, ⟨5, [102, 110], 0, n + 16⟩, ⟨1, [102], 0, n + 13⟩, ⟨4, [40], 0, n + 12⟩, ⟨4, [41], 0, n + 11⟩, ⟨4, [123], 0, n + 9⟩, ⟨5, [114, 101, 116, 117, 114, 110], 0, n + 7⟩]
set_option maxRecDepth 100000 in
theorem xQ (z : List UInt8) : Lex.scan (h28 ++ z) = match Lex.scan z with
 | .error e => .error e
 | .ok zs => .ok (Dw z.length ++ zs) := by
 have o1 : Lex.one (109 :: 111 :: 100 :: 117 :: 108 :: 101 :: 32 :: 109 :: 32 :: 49 :: 59 :: 32 :: 102 :: 110 :: 32 :: 102 :: 40 :: 41 :: 32 :: 123 :: 32 :: 114 :: 101 :: 116 :: 117 :: 114 :: 110 :: 32 :: z) = .ok (5, [109, 111, 100, 117, 108, 101], 0, 6) := by kernel_rfl
 have o2 : Lex.one (109 :: 32 :: 49 :: 59 :: 32 :: 102 :: 110 :: 32 :: 102 :: 40 :: 41 :: 32 :: 123 :: 32 :: 114 :: 101 :: 116 :: 117 :: 114 :: 110 :: 32 :: z) = .ok (1, [109], 0, 1) := by kernel_rfl
 have o3 : Lex.one (49 :: 59 :: 32 :: 102 :: 110 :: 32 :: 102 :: 40 :: 41 :: 32 :: 123 :: 32 :: 114 :: 101 :: 116 :: 117 :: 114 :: 110 :: 32 :: z) = .ok (2, [49], 1, 1) := by kernel_rfl
 have o4 : Lex.one (59 :: 32 :: 102 :: 110 :: 32 :: 102 :: 40 :: 41 :: 32 :: 123 :: 32 :: 114 :: 101 :: 116 :: 117 :: 114 :: 110 :: 32 :: z) = .ok (4, [59], 0, 1) := by kernel_rfl
 have o5 : Lex.one (102 :: 110 :: 32 :: 102 :: 40 :: 41 :: 32 :: 123 :: 32 :: 114 :: 101 :: 116 :: 117 :: 114 :: 110 :: 32 :: z) = .ok (5, [102, 110], 0, 2) := by kernel_rfl
 have o6 : Lex.one (102 :: 40 :: 41 :: 32 :: 123 :: 32 :: 114 :: 101 :: 116 :: 117 :: 114 :: 110 :: 32 :: z) = .ok (1, [102], 0, 1) := by kernel_rfl
 have o7 : Lex.one (40 :: 41 :: 32 :: 123 :: 32 :: 114 :: 101 :: 116 :: 117 :: 114 :: 110 :: 32 :: z) = .ok (4, [40], 0, 1) := by kernel_rfl
 have o8 : Lex.one (41 :: 32 :: 123 :: 32 :: 114 :: 101 :: 116 :: 117 :: 114 :: 110 :: 32 :: z) = .ok (4, [41], 0, 1) := by kernel_rfl
 have o9 : Lex.one (123 :: 32 :: 114 :: 101 :: 116 :: 117 :: 114 :: 110 :: 32 :: z) = .ok (4, [123], 0, 1) := by kernel_rfl
 have o10 : Lex.one (114 :: 101 :: 116 :: 117 :: 114 :: 110 :: 32 :: z) = .ok (5, [114, 101, 116, 117, 114, 110], 0, 6) := by kernel_rfl
 have s0 : skp false (h28 ++ z) = 109 :: 111 :: 100 :: 117 :: 108 :: 101 :: 32 :: 109 :: 32 :: 49 :: 59 :: 32 :: 102 :: 110 :: 32 :: 102 :: 40 :: 41 :: 32 :: 123 :: 32 :: 114 :: 101 :: 116 :: 117 :: 114 :: 110 :: 32 :: z := by kernel_rfl
 have hz := gU z false
 show toks (_ + 1) (skp false (h28 ++ z)) = _
 rw [s0]
 show toks (z.length + 18 + 1 + 1 + 1 + 1 + 1 + 1 + 1 + 1 + 1 + 1 + 1) _ = _
 have t10 : toks (z.length + 18 + 1 + 1) (114 :: 101 :: 116 :: 117 :: 114 :: 110 :: 32 :: z) = match toks (z.length + 18 + 1) (skp false z) with | .error e => .error e | .ok ts => .ok (⟨5, [114, 101, 116, 117, 114, 110], 0, z.length + 7⟩ :: ts) := jc o10 rfl
 have t9 : toks (z.length + 18 + 1 + 1 + 1) (123 :: 32 :: 114 :: 101 :: 116 :: 117 :: 114 :: 110 :: 32 :: z) = match toks (z.length + 18 + 1 + 1) (114 :: 101 :: 116 :: 117 :: 114 :: 110 :: 32 :: z) with | .error e => .error e | .ok ts => .ok (⟨4, [123], 0, z.length + 9⟩ :: ts) := jc o9 rfl
 have t8 : toks (z.length + 18 + 1 + 1 + 1 + 1) (41 :: 32 :: 123 :: 32 :: 114 :: 101 :: 116 :: 117 :: 114 :: 110 :: 32 :: z) = match toks (z.length + 18 + 1 + 1 + 1) (123 :: 32 :: 114 :: 101 :: 116 :: 117 :: 114 :: 110 :: 32 :: z) with | .error e => .error e | .ok ts => .ok (⟨4, [41], 0, z.length + 11⟩ :: ts) := jc o8 rfl
 have t7 : toks (z.length + 18 + 1 + 1 + 1 + 1 + 1) (40 :: 41 :: 32 :: 123 :: 32 :: 114 :: 101 :: 116 :: 117 :: 114 :: 110 :: 32 :: z) = match toks (z.length + 18 + 1 + 1 + 1 + 1) (41 :: 32 :: 123 :: 32 :: 114 :: 101 :: 116 :: 117 :: 114 :: 110 :: 32 :: z) with | .error e => .error e | .ok ts => .ok (⟨4, [40], 0, z.length + 12⟩ :: ts) := jc o7 rfl
 have t6 : toks (z.length + 18 + 1 + 1 + 1 + 1 + 1 + 1) (102 :: 40 :: 41 :: 32 :: 123 :: 32 :: 114 :: 101 :: 116 :: 117 :: 114 :: 110 :: 32 :: z) = match toks (z.length + 18 + 1 + 1 + 1 + 1 + 1) (40 :: 41 :: 32 :: 123 :: 32 :: 114 :: 101 :: 116 :: 117 :: 114 :: 110 :: 32 :: z) with | .error e => .error e | .ok ts => .ok (⟨1, [102], 0, z.length + 13⟩ :: ts) := jc o6 rfl
 have t5 : toks (z.length + 18 + 1 + 1 + 1 + 1 + 1 + 1 + 1) (102 :: 110 :: 32 :: 102 :: 40 :: 41 :: 32 :: 123 :: 32 :: 114 :: 101 :: 116 :: 117 :: 114 :: 110 :: 32 :: z) = match toks (z.length + 18 + 1 + 1 + 1 + 1 + 1 + 1) (102 :: 40 :: 41 :: 32 :: 123 :: 32 :: 114 :: 101 :: 116 :: 117 :: 114 :: 110 :: 32 :: z) with | .error e => .error e | .ok ts => .ok (⟨5, [102, 110], 0, z.length + 16⟩ :: ts) := jc o5 rfl
 have t4 : toks (z.length + 18 + 1 + 1 + 1 + 1 + 1 + 1 + 1 + 1) (59 :: 32 :: 102 :: 110 :: 32 :: 102 :: 40 :: 41 :: 32 :: 123 :: 32 :: 114 :: 101 :: 116 :: 117 :: 114 :: 110 :: 32 :: z) = match toks (z.length + 18 + 1 + 1 + 1 + 1 + 1 + 1 + 1) (102 :: 110 :: 32 :: 102 :: 40 :: 41 :: 32 :: 123 :: 32 :: 114 :: 101 :: 116 :: 117 :: 114 :: 110 :: 32 :: z) with | .error e => .error e | .ok ts => .ok (⟨4, [59], 0, z.length + 18⟩ :: ts) := jc o4 rfl
 have t3 : toks (z.length + 18 + 1 + 1 + 1 + 1 + 1 + 1 + 1 + 1 + 1) (49 :: 59 :: 32 :: 102 :: 110 :: 32 :: 102 :: 40 :: 41 :: 32 :: 123 :: 32 :: 114 :: 101 :: 116 :: 117 :: 114 :: 110 :: 32 :: z) = match toks (z.length + 18 + 1 + 1 + 1 + 1 + 1 + 1 + 1 + 1) (59 :: 32 :: 102 :: 110 :: 32 :: 102 :: 40 :: 41 :: 32 :: 123 :: 32 :: 114 :: 101 :: 116 :: 117 :: 114 :: 110 :: 32 :: z) with | .error e => .error e | .ok ts => .ok (⟨2, [49], 1, z.length + 19⟩ :: ts) := jc o3 rfl
 have t2 : toks (z.length + 18 + 1 + 1 + 1 + 1 + 1 + 1 + 1 + 1 + 1 + 1) (109 :: 32 :: 49 :: 59 :: 32 :: 102 :: 110 :: 32 :: 102 :: 40 :: 41 :: 32 :: 123 :: 32 :: 114 :: 101 :: 116 :: 117 :: 114 :: 110 :: 32 :: z) = match toks (z.length + 18 + 1 + 1 + 1 + 1 + 1 + 1 + 1 + 1 + 1) (49 :: 59 :: 32 :: 102 :: 110 :: 32 :: 102 :: 40 :: 41 :: 32 :: 123 :: 32 :: 114 :: 101 :: 116 :: 117 :: 114 :: 110 :: 32 :: z) with | .error e => .error e | .ok ts => .ok (⟨1, [109], 0, z.length + 21⟩ :: ts) := jc o2 rfl
 have t1 : toks (z.length + 18 + 1 + 1 + 1 + 1 + 1 + 1 + 1 + 1 + 1 + 1 + 1) (109 :: 111 :: 100 :: 117 :: 108 :: 101 :: 32 :: 109 :: 32 :: 49 :: 59 :: 32 :: 102 :: 110 :: 32 :: 102 :: 40 :: 41 :: 32 :: 123 :: 32 :: 114 :: 101 :: 116 :: 117 :: 114 :: 110 :: 32 :: z) = match toks (z.length + 18 + 1 + 1 + 1 + 1 + 1 + 1 + 1 + 1 + 1 + 1) (109 :: 32 :: 49 :: 59 :: 32 :: 102 :: 110 :: 32 :: 102 :: 40 :: 41 :: 32 :: 123 :: 32 :: 114 :: 101 :: 116 :: 117 :: 114 :: 110 :: 32 :: z) with | .error e => .error e | .ok ts => .ok (⟨5, [109, 111, 100, 117, 108, 101], 0, z.length + 28⟩ :: ts) := jc o1 rfl
 rw [t1, t2, t3, t4, t5, t6, t7, t8, t9, t10]
 have hz : Lex.scan z = toks (z.length + 18 + 1) (skp false z) := ou (z.length + 1) _ _ (by omega) (by omega)
 rw [hz]
 cases toks (z.length + 18 + 1) (skp false z) with
 | error e => rfl
 | ok zs => rfl
abbrev xU : List Tk := [⟨4, [59], 0, 3⟩, ⟨4, [125], 0, 1⟩]
set_option maxRecDepth 100000 in
theorem uU : Lex.scan [59, 32, 125] = .ok xU := by kernel_rfl
def shT : Nat → List Tk
 | 0 => []
 | K + 1 => ⟨4, [41], 0, K + 4⟩ :: shT K
def opT (n : Nat) : Nat → List Tk
 | 0 => []
 | K + 1 => ⟨4, [40], 0, n + K + 1⟩ :: opT n K
theorem uX : ∀ K : Nat, Lex.scan (List.replicate K 41 ++ [59, 32, 125]) = .ok (shT K ++ xU)
 | 0 => uU
 | K + 1 => by
  rw [List.replicate_succ, List.cons_append, uY 41 (Or.inr rfl), uX K]
  simp [shT]
theorem vw {z : List UInt8} {zs : List Tk} (h : Lex.scan z = .ok zs) : ∀ K : Nat, Lex.scan (List.replicate K 40 ++ z) = .ok (opT z.length K ++ zs)
 | 0 => h
 | K + 1 => by
  rw [List.replicate_succ, List.cons_append, uY 40 (Or.inl rfl), vw h K]
  simp [opT, Nat.add_comm]
theorem Ap : ∀ K, (shT K).length = K
 | 0 => rfl
 | K + 1 => by simp [shT, Ap K]
theorem AB (n : Nat) : ∀ K, (opT n K).length = K
 | 0 => rfl
 | K + 1 => by simp [opT, AB n K]
theorem Am : ∀ K, ∀ t ∈ shT K, ∃ r, t = ⟨4, [41], 0, r⟩
 | 0, t, h => by cases h
 | K + 1, t, h => by
  rcases List.mem_cons.1 h with rfl | h
  ·exact ⟨_, rfl⟩
  exact Am K t h
theorem AA (n : Nat) : ∀ K, ∀ t ∈ opT n K, ∃ r, t = ⟨4, [40], 0, r⟩
 | 0, t, h => by cases h
 | K + 1, t, h => by
  rcases List.mem_cons.1 h with rfl | h
  ·exact ⟨_, rfl⟩
  exact AA n K t h
theorem xM : ∀ (f : Nat) (l : List UInt8) (ts : List Tk), toks f l = .ok ts → ∀ t ∈ ts, t.kind = 5 → isKey t.text = true
 | 0, l, ts, h => by
  simp only [toks, Except.ok.injEq] at h
  subst h
  exact fun t ht => by cases ht
 | f + 1, [], ts, h => by
  simp only [toks, Except.ok.injEq] at h
  subst h
  exact fun t ht => by cases ht
 | f + 1, c :: u, ts, h => by
  simp only [toks] at h
  split at h
  ·cases h
  rename_i k x n j ho
  split at h
  ·cases h
  rename_i us hu
  simp only [Except.ok.injEq] at h
  subst h
  intro t ht hk
  rcases List.mem_cons.1 ht with rfl | ht
  ·exact (Ed ho).1 hk
  exact xM f _ us hu t ht hk
end Go.Proofs.Ytendgafpkeadhaa.Lex
end
section
set_option linter.unusedVariables false
set_option linter.unusedSimpArgs false
namespace Go.Proofs.Ytendgafpkeadhaa.Lex
open Go Go.RowKit Go.Proofs.YtendgafpkeadhaaW.PrintWords Go.Proofs.Ytendgafpkeadhaa.Q
theorem qI (c : UInt8) : bI.f (c.toNat : Int) = some (le c) := tX c
theorem qh (c : UInt8) : bK.f (c.toNat : Int) = some (di c) := Bg c
theorem DF (c : UInt8) : dR.f (c.toNat : Int) = some (bl c) := by
 have e1 : ((c.toNat : Int) = 32) ↔ c = 32 := fA c 32
 have e2 : ((c.toNat : Int) = 9) ↔ c = 9 := fA c 9
 have e3 : ((c.toNat : Int) = 10) ↔ c = 10 := fA c 10
 have e4 : ((c.toNat : Int) = 13) ↔ c = 13 := fA c 13
 unfold dR.f bl
 by_cases c1 : c = 32
 ·rw [if_pos (e1.2 c1), c1]; rfl
 rw [if_neg (fun h => c1 (e1.1 h))]
 by_cases c2 : c = 9
 ·rw [if_pos (e2.2 c2), c2]; rfl
 rw [if_neg (fun h => c2 (e2.1 h))]
 by_cases c3 : c = 10
 ·rw [if_pos (e3.2 c3), c3]; rfl
 rw [if_neg (fun h => c3 (e3.1 h))]
 congr 1
 rw [beq_eq_false_iff_ne.2 c1, beq_eq_false_iff_ne.2 c2, beq_eq_false_iff_ne.2 c3]
 simp only [Bool.false_or]
 rw [Bool.eq_iff_iff, beq_iff_eq, beq_iff_eq]
 exact e4
/-! skip -/
theorem FI (s : ByteArray) (hs : s.size ≤ 140737488351232) : ∀ (m i : Nat), s.size = m + i →
 EvTo (fun k => ak.l0 k s (i : Int)) ((s.size - (skp false ((L s).drop i)).length : Nat) : Int) ∧ EvTo (fun k => ak.l1 k s (i : Int)) ((s.size - (skp true ((L s).drop i)).length : Nat) : Int) := by
 intro m
 induction m with
 | zero =>
  intro i h1
  have hd : (L s).drop i = [] := List.drop_eq_nil_of_le (by rw [← L_size]; omega)
  rw [hd]
  have h0 : EvTo (fun k => ak.l0 k s (i : Int)) ((s.size - (skp false []).length : Nat) : Int) := by
   refine EvTo.step (fun k => by rw [ak.l0]) ?_
   refine EvTo.neg (by omega) ?_
   refine EvTo.step (fun k => by rw [ak.j1]) ?_
   refine EvTo.neg (by simp) (EvTo.jv (fun k => ?_))
   simp only [skp, List.length_nil]
   congr 1
   omega
  refine ⟨h0, ?_⟩
  refine EvTo.step (fun k => by rw [ak.l1]) ?_
  exact EvTo.neg (by omega) h0
 | succ m ih =>
  intro i h1
  obtain ⟨ih0, ih1⟩ := ih (i + 1) (by omega)
  have hd := fH (L s) i (by rw [← L_size]; omega)
  have hb := pW s i
  generalize (L s).getD i 0 = c at hd hb
  rw [hd]
  have hinc : wrap64 ((i : Int) + 1) = ((i + 1 : Nat) : Int) := inc i 0 (by omega)
  have e1 : ((c.toNat : Int) = 35) ↔ c = 35 := fA c 35
  have e2 : ((c.toNat : Int) = 10) ↔ c = 10 := fA c 10
  have hl : (skp false (c :: (L s).drop (i + 1))).length ≤ m + 1 := by
   have := gU (c :: (L s).drop (i + 1)) false
   simp only [List.length_cons, List.length_drop, ← L_size] at this
   omega
  have h0 : EvTo (fun k => ak.l0 k s (i : Int)) ((s.size - (skp false (c :: (L s).drop (i + 1))).length : Nat) : Int) := by
   refine EvTo.step (fun k => by rw [ak.l0]) ?_
   refine EvTo.pos (by omega) (EvTo.pos (by omega) ?_)
   simp only [hb, DF, Option.bind_some]
   by_cases c1 : bl c = true
   ·refine EvTo.pos c1 ?_
    refine EvTo.step (fun k => by rw [ak.j1]) ?_
    refine EvTo.pos rfl (EvTo.pos (by omega) (EvTo.pos (by omega) ?_))
    simp only [hb, hinc]
    refine EvTo.neg (fun h => ?_) ?_
    ·rw [e1.1 h] at c1; exact absurd c1 (by decide)
    have : skp false (c :: (L s).drop (i + 1)) = skp false ((L s).drop (i + 1)) := by simp [skp, c1]
    rw [this]
    exact ih0
   refine EvTo.neg c1 ?_
   by_cases c2 : c = 35
   ·rw [show ((c.toNat : Int) == 35) = true from beq_iff_eq.2 (e1.2 c2)]
    refine EvTo.step (fun k => by rw [ak.j1]) ?_
    refine EvTo.pos rfl (EvTo.pos (by omega) (EvTo.pos (by omega) ?_))
    simp only [hb, hinc]
    refine EvTo.pos (e1.2 c2) ?_
    refine EvTo.step (fun k => by rw [ak.l1]) ?_
    refine EvTo.pos (by omega) (EvTo.pos (by omega) ?_)
    simp only [hb, hinc]
    refine EvTo.neg (fun h => ?_) ?_
    ·rw [c2] at h; exact absurd h (by decide)
    have : skp false (c :: (L s).drop (i + 1)) = skp true ((L s).drop (i + 1)) := by subst c2; simp [skp, bl]
    rw [this]
    exact ih1
   rw [show ((c.toNat : Int) == 35) = false from beq_eq_false_iff_ne.2 (fun h => c2 (e1.1 h))]
   refine EvTo.step (fun k => by rw [ak.j1]) ?_
   refine EvTo.neg (by simp) (EvTo.jv (fun k => ?_))
   have : skp false (c :: (L s).drop (i + 1)) = c :: (L s).drop (i + 1) := by simp [skp, c1, c2]
   rw [this, List.length_cons, List.length_drop, ← L_size]
   congr 1
   omega
  refine ⟨h0, ?_⟩
  refine EvTo.step (fun k => by rw [ak.l1]) ?_
  refine EvTo.pos (by omega) (EvTo.pos (by omega) ?_)
  simp only [hb, hinc]
  by_cases c1 : c = 10
  ·refine EvTo.pos (e2.2 c1) ?_
   have : skp true (c :: (L s).drop (i + 1)) = skp false (c :: (L s).drop (i + 1)) := by subst c1; simp [skp, bl]
   rw [this]
   exact h0
  refine EvTo.neg (fun h => c1 (e2.1 h)) ?_
  have : skp true (c :: (L s).drop (i + 1)) = skp true ((L s).drop (i + 1)) := by simp [skp, c1]
  rw [this]
  exact ih1
theorem Aq (s : ByteArray) (hs : s.size ≤ 140737488351232) (i : Nat) (hi : i ≤ s.size) : EvTo (fun k => ak.f k s (i : Int)) ((s.size - (skp false ((L s).drop i)).length : Nat) : Int) :=
 (FI s hs (s.size - i) i (by omega)).1
/-! word -/
def xH (l : List UInt8) : Nat := match l with | [] => 0 | c :: _ => if le c then (l.takeWhile inn).length else 0
theorem FD (s : ByteArray) (hs : s.size ≤ 140737488351232) (at' : Nat) : ∀ (m n : Nat), s.size = m + (at' + n) → 0 < n →
 EvTo (fun k => aQ.l0 k s (at' : Int) (n : Int)) ((n + (((L s).drop (at' + n)).takeWhile inn).length : Nat) : Int) := by
 intro m
 induction m with
 | zero =>
  intro n h1 h2
  rw [List.drop_eq_nil_of_le (by rw [← L_size]; omega)]
  have hw : wrap64 ((at' : Int) + (n : Int)) = ((at' + n : Nat) : Int) := by rw [w64 _ (by omega)]; omega
  refine EvTo.step (fun k => by rw [aQ.l0]) ?_
  simp only [hw]
  exact EvTo.neg (by omega) EvTo.now
 | succ m ih =>
  intro n h1 h2
  have hd := fH (L s) (at' + n) (by rw [← L_size]; omega)
  have hb := pW s (at' + n)
  generalize (L s).getD (at' + n) 0 = c at hd hb
  have hw : wrap64 ((at' : Int) + (n : Int)) = ((at' + n : Nat) : Int) := by rw [w64 _ (by omega)]; omega
  have hinc : wrap64 ((n : Int) + 1) = ((n + 1 : Nat) : Int) := inc n 0 (by omega)
  have e1 : ((c.toNat : Int) = 95) ↔ c = 95 := fA c 95
  have hnext : inn c = true → EvTo (fun k => aQ.l0 k s (at' : Int) ((n + 1 : Nat) : Int)) ((n + (((L s).drop (at' + n)).takeWhile inn).length : Nat) : Int) := by
   intro hi
   have := ih (n + 1) (by omega) (by omega)
   rw [hd, List.takeWhile_cons, if_pos hi, List.length_cons]
   have e : n + ((((L s).drop (at' + n + 1)).takeWhile inn).length + 1) = n + 1 + (((L s).drop (at' + (n + 1))).takeWhile inn).length := by
    rw [show at' + n + 1 = at' + (n + 1) by omega]; omega
   rw [e]
   exact this
  have hstop : inn c = false → (n + (((L s).drop (at' + n)).takeWhile inn).length) = n := by
   intro hi
   rw [hd, List.takeWhile_cons, if_neg (by rw [hi]; simp)]; rfl
  refine EvTo.step (fun k => by rw [aQ.l0]) ?_
  simp only [hw, hb, hinc, qI, qh, Option.bind_some]
  refine EvTo.pos (by omega) (EvTo.pos (by omega) ?_)
  by_cases c1 : le c = true
  ·exact EvTo.pos c1 (hnext (wS c1))
  refine EvTo.neg c1 (EvTo.pos (by omega) ?_)
  by_cases c2 : di c = true
  ·exact EvTo.pos c2 (hnext (by simp [inn, c2]))
  refine EvTo.neg c2 ?_
  by_cases c3 : c = 95
  ·exact EvTo.pos (e1.2 c3) (hnext (by simp [inn, c3]))
  refine EvTo.neg (fun h => c3 (e1.1 h)) ?_
  rw [hstop (by simp [inn, c1, c2, c3])]
  exact EvTo.now
theorem FH (s : ByteArray) (hs : s.size ≤ 140737488351232) (at' : Nat) (ha : at' ≤ s.size) : EvTo (fun k => aQ.f k s (at' : Int)) ((xH ((L s).drop at') : Nat) : Int) := by
 unfold aQ.f
 have hw : wrap64 ((at' : Int) + 0) = ((at' : Nat) : Int) := by rw [w64 _ (by omega)]; omega
 have hinc : wrap64 ((0 : Int) + 1) = ((1 : Nat) : Int) := by rw [w64 _ (by omega)]; rfl
 refine EvTo.step (fun k => by rw [aQ.l0]) ?_
 simp only [hw, hinc]
 by_cases h : at' < s.size
 ·have hd := fH (L s) at' (by rw [← L_size]; omega)
  have hb := pW s at'
  generalize (L s).getD at' 0 = c at hd hb
  simp only [hb, qI, qh, Option.bind_some]
  refine EvTo.pos (by omega) (EvTo.pos (by omega) ?_)
  by_cases c1 : le c = true
  ·refine EvTo.pos c1 ?_
   have := FD s hs at' (s.size - at' - 1) 1 (by omega) (by omega)
   rw [hd]
   simp only [xH, c1, if_true, List.takeWhile_cons, wS c1, List.length_cons]
   rw [show (List.takeWhile inn (List.drop (at' + 1) (L s))).length + 1 = 1 + (List.takeWhile inn (List.drop (at' + 1) (L s))).length by omega]
   exact this
  refine EvTo.neg c1 (EvTo.neg (by omega) ?_)
  rw [hd]
  simp only [xH, c1]
  exact EvTo.now
 refine EvTo.neg (by omega) ?_
 rw [List.drop_eq_nil_of_le (by rw [← L_size]; omega)]
 exact EvTo.now
end Go.Proofs.Ytendgafpkeadhaa.Lex
end
section
set_option linter.unusedVariables false
set_option linter.unusedSimpArgs false
namespace Go.Proofs.Ytendgafpkeadhaa.Lex
open Go Go.RowKit Go.Proofs.YtendgafpkeadhaaW.PrintWords Go.Proofs.Ytendgafpkeadhaa.Q
/-! number -/
theorem BO (s : ByteArray) (hs : s.size ≤ 140737488351232) : ∀ (m i : Nat) (n : Int), s.size = m + i →
 EvTo (fun k => ay.l0 k s n (i : Int)) (wrap64 (((L s).drop i).foldl qo n), decide (((L s).drop i).foldl qo n < 9223372036854775808)) := by
 intro m
 induction m with
 | zero =>
  intro i n h1
  rw [List.drop_eq_nil_of_le (by rw [← L_size]; omega)]
  refine EvTo.step (fun k => by rw [ay.l0]) ?_
  exact EvTo.neg (by omega) EvTo.now
 | succ m ih =>
  intro i n h1
  have hd := fH (L s) i (by rw [← L_size]; omega)
  have hb := pW s i
  generalize (L s).getD i 0 = c at hd hb
  rw [hd, List.foldl_cons]
  refine EvTo.step (fun k => by rw [ay.l0]) ?_
  refine EvTo.pos (by omega) (EvTo.pos (by omega) ?_)
  simp only [hb]
  rw [inc i 0 (by omega)]
  exact ih (i + 1) (qo n c) (by omega)
theorem BP (s : ByteArray) (hs : s.size ≤ 140737488351232) : EvTo (fun k => ay.f k s) (numOf (L s)) := by
 have hl := BO s hs s.size 0 0 (by omega)
 rw [List.drop_zero] at hl
 have hno : long (L s) = false → EvTo (fun k => ay.j0 k s false) (numOf (L s)) := by
  intro h
  refine EvTo.step (fun k => by rw [ay.j0]) ?_
  refine EvTo.neg (by simp) ?_
  unfold numOf
  rw [h]
  exact hl
 have hyes : long (L s) = true → EvTo (fun k => ay.j0 k s true) (numOf (L s)) := by
  intro h
  refine EvTo.step (fun k => by rw [ay.j0]) ?_
  refine EvTo.pos rfl ?_
  unfold numOf
  rw [h]
  exact EvTo.now
 unfold ay.f
 by_cases h : (s.size : Int) > 19
 ·refine EvTo.pos h (hyes ?_)
  unfold long
  rw [show decide (19 < (L s).length) = true from decide_eq_true (by rw [← L_size]; omega)]; rfl
 refine EvTo.neg h ?_
 have d1 : decide (19 < (L s).length) = false := decide_eq_false (by rw [← L_size]; omega)
 by_cases h2 : (s.size : Int) > 1
 ·refine EvTo.pos h2 (EvTo.pos (by omega) ?_)
  have d2 : decide (1 < (L s).length) = true := decide_eq_true (by rw [← L_size]; omega)
  have d3 : (bt s 0 == 48) = ((L s).head? == some 48) := by
   rcases hl2 : L s with _ | ⟨c, t⟩
   ·rw [L_size, hl2] at h2; simp at h2
   rw [bt0 s c t hl2]
   have e1 : ((c.toNat : Int) = 48) ↔ c = 48 := fA c 48
   rw [Bool.eq_iff_iff]
   simp only [List.head?_cons, beq_iff_eq, Option.some.injEq, ← e1]
  rw [d3]
  cases h4 : ((L s).head? == some 48) with
  | true => exact hyes (by unfold long; rw [d1, d2, h4]; rfl)
  | false => exact hno (by unfold long; rw [d1, d2, h4]; rfl)
 refine EvTo.neg h2 (hno ?_)
 unfold long
 rw [d1, show decide (1 < (L s).length) = false from decide_eq_false (by rw [← L_size]; omega)]; rfl
/-! unquoted -/
def xI (size at' : Nat) (acc : List UInt8) : Option (List UInt8 × List UInt8) → ByteArray × Int
 | some (x, r) => (S (acc ++ x), ((size - r.length - at' : Nat) : Int))
 | none => ((⟨#[]⟩ : ByteArray), 0)
theorem uQ (size at' : Nat) (acc : List UInt8) (c : UInt8) (o : Option (List UInt8 × List UInt8)) : xI size at' acc (o.map fun r => (c :: r.1, r.2)) = xI size at' (acc ++ [c]) o := by
 cases o with
 | none => rfl
 | some r => simp [xI]
theorem Ip (s : ByteArray) (hs : s.size ≤ 140737488351232) (at' : Nat) : ∀ (m i : Nat) (acc : List UInt8), s.size ≤ m + i → at' ≤ i → i ≤ s.size → acc.length + (s.size - i) < 140737488355328 →
 EvTo (fun k => aj.l0 k s (at' : Int) (nums acc) (i : Int)) (xI s.size at' acc (unq false ((L s).drop i))) := by
 intro m
 induction m with
 | zero =>
  intro i acc h1 h2 h3 h4
  rw [List.drop_eq_nil_of_le (by rw [← L_size]; omega)]
  refine EvTo.step (fun k => by rw [aj.l0]) ?_
  exact EvTo.neg (by omega) EvTo.now
 | succ m ih =>
  intro i acc h1 h2 h3 h4
  by_cases hlt : i < s.size
  ·have hd := fH (L s) i (by rw [← L_size]; omega)
   have hb := pW s i
   generalize (L s).getD i 0 = c at hd hb
   have e1 : ((c.toNat : Int) = 34) ↔ c = 34 := fA c 34
   have e2 : ((c.toNat : Int) = 10) ↔ c = 10 := fA c 10
   have e3 : ((c.toNat : Int) = 92) ↔ c = 92 := fA c 92
   have hinc : wrap64 ((i : Int) + 1) = ((i + 1 : Nat) : Int) := inc i 0 (by omega)
   have hinc2 : wrap64 (((i + 1 : Nat) : Int) + 1) = ((i + 2 : Nat) : Int) := inc (i + 1) 0 (by omega)
   rw [hd]
   refine EvTo.step (fun k => by rw [aj.l0]) ?_
   refine EvTo.pos (by omega) (EvTo.pos (by omega) ?_)
   simp only [hb, hinc, unq]
   by_cases c1 : c = 34
   ·refine EvTo.pos (e1.2 c1) ?_
    rw [if_pos c1]
    refine EvTo.jv (fun k => ?_)
    rw [EY, w64 _ (by omega)]
    simp only [xI, List.append_nil, List.length_drop, ← L_size]
    congr 2
    omega
   refine EvTo.neg (fun h => c1 (e1.1 h)) ?_
   rw [if_neg c1]
   by_cases c2 : c = 10
   ·refine EvTo.pos (e2.2 c2) ?_
    rw [if_pos c2]
    exact EvTo.now
   refine EvTo.neg (fun h => c2 (e2.1 h)) ?_
   rw [if_neg c2]
   by_cases c3 : c = 92
   ·refine EvTo.pos (e3.2 c3) ?_
    rw [if_pos c3]
    by_cases hlt2 : i + 1 < s.size
    ·have hd2 := fH (L s) (i + 1) (by rw [← L_size]; omega)
     have hb2 := pW s (i + 1)
     generalize (L s).getD (i + 1) 0 = d at hd2 hb2
     have f1 : ((d.toNat : Int) = 110) ↔ d = 110 := fA d 110
     have f2 : ((d.toNat : Int) = 34) ↔ d = 34 := fA d 34
     have f3 : ((d.toNat : Int) = 92) ↔ d = 92 := fA d 92
     rw [hd2]
     simp only [hb2, unq]
     refine EvTo.pos (by omega) (EvTo.pos (by omega) ?_)
     have hnext : ∀ x : UInt8, EvTo (fun k => aj.l0 k s (at' : Int) (nums acc ++ [(x.toNat : Int)]) ((i + 2 : Nat) : Int)) (xI s.size at' acc ((unq false ((L s).drop (i + 1 + 1))).map fun r => (x :: r.1, r.2))) := by
      intro x
      rw [uQ]
      have := ih (i + 2) (acc ++ [x]) (by omega) (by omega) (by omega) (by rw [List.length_append]; simp only [List.length_cons, List.length_nil]; omega)
      rw [qm] at this
      exact this
     by_cases d1 : d = 110
     ·rw [show ((d.toNat : Int) == 110) = true from beq_iff_eq.2 (f1.2 d1)]
      refine EvTo.step (fun k => by rw [aj.j1]) ?_
      refine EvTo.pos rfl (EvTo.pos (by rw [mF]; omega) ?_)
      simp only [hinc, hinc2]
      have he : esc d = some 10 := by rw [d1]; rfl
      rw [he]
      exact hnext 10
     rw [show ((d.toNat : Int) == 110) = false from beq_eq_false_iff_ne.2 (fun h => d1 (f1.1 h))]
     refine EvTo.step (fun k => by rw [aj.j1]) ?_
     refine EvTo.neg (by simp) ?_
     simp only [hinc, hinc2, hb2]
     refine EvTo.pos (by omega) (EvTo.pos (by omega) ?_)
     by_cases d2 : d = 34
     ·refine EvTo.pos (f2.2 d2) (EvTo.pos (by rw [mF]; omega) ?_)
      have he : esc d = some 34 := by rw [d2]; rfl
      rw [he, d2]
      exact hnext 34
     refine EvTo.neg (fun h => d2 (f2.1 h)) ?_
     by_cases d3 : d = 92
     ·refine EvTo.pos (f3.2 d3) (EvTo.pos (by rw [mF]; omega) ?_)
      have he : esc d = some 92 := by rw [d3]; rfl
      rw [he, d3]
      exact hnext 92
     refine EvTo.neg (fun h => d3 (f3.1 h)) ?_
     have he : esc d = none := by simp [esc, d1, d2, d3]
     rw [he]
     exact EvTo.now
    have hnil : (L s).drop (i + 1) = [] := List.drop_eq_nil_of_le (by rw [← L_size]; omega)
    rw [hnil]
    refine EvTo.neg (by omega) ?_
    refine EvTo.step (fun k => by rw [aj.j1]) ?_
    refine EvTo.neg (by simp) ?_
    simp only [hinc]
    exact EvTo.neg (by omega) EvTo.now
   refine EvTo.neg (fun h => c3 (e3.1 h)) (EvTo.pos (by rw [mF]; omega) ?_)
   rw [if_neg c3, uQ]
   have := ih (i + 1) (acc ++ [c]) (by omega) (by omega) (by omega) (by rw [List.length_append]; simp only [List.length_cons, List.length_nil]; omega)
   rw [qm] at this
   exact this
  rw [List.drop_eq_nil_of_le (by rw [← L_size]; omega)]
  refine EvTo.step (fun k => by rw [aj.l0]) ?_
  exact EvTo.neg (by omega) EvTo.now
theorem Iq (s : ByteArray) (hs : s.size ≤ 140737488351232) (at' : Nat) (ha : at' < s.size) : EvTo (fun k => aj.f k s (at' : Int)) (xI s.size at' [] (unq false ((L s).drop (at' + 1)))) := by
 unfold aj.f
 have := Ip s hs at' (s.size - (at' + 1)) (at' + 1) [] (by omega) (by omega) (by omega) (by simp; omega)
 rw [inc at' 0 (by omega)]
 exact this
/-! lists of words -/
theorem Ar (l : List ByteArray) (i : Nat) (h : i < l.length) : oN ByteArray.empty l (i : Int) = l[i] := by
 simp [oN, List.getD_eq_getElem?_getD, List.getElem?_eq_getElem h]
theorem Iy (s : ByteArray) (l : List ByteArray) (hl : l.length ≤ 1000) : ∀ (m i : Nat), l.length = m + i →
 EvTo (fun k => bg.l0 k s l (i : Int)) (((l.drop i).map L).contains (L s)) := by
 intro m
 induction m with
 | zero =>
  intro i h1
  rw [List.drop_eq_nil_of_le (by omega)]
  refine EvTo.step (fun k => by rw [bg.l0]) ?_
  exact EvTo.neg (by omega) EvTo.now
 | succ m ih =>
  intro i h1
  have hi : i < l.length := by omega
  refine EvTo.step (fun k => by rw [bg.l0]) ?_
  refine EvTo.pos (by omega) (EvTo.pos (by omega) ?_)
  simp only [Ar l i hi]
  rw [List.drop_eq_getElem_cons hi, List.map_cons, List.contains_cons]
  by_cases c : L l[i] = L s
  ·refine EvTo.pos (by rw [eP, eP]; exact c) ?_
   rw [show (L s == L l[i]) = true from beq_iff_eq.2 c.symm]
   exact EvTo.now
  refine EvTo.neg (by rw [eP, eP]; exact c) ?_
  rw [show (L s == L l[i]) = false from beq_eq_false_iff_ne.2 (fun e => c e.symm), Bool.false_or, inc i 0 (by omega)]
  exact ih (i + 1) (by omega)
theorem Iz (s : ByteArray) : EvTo (fun k => bg.f k s) (isKey (L s)) := by
 unfold bg.f
 exact Iy s _ (by simp) 20 0 (by simp)
theorem FN (s : ByteArray) (hs : s.size ≤ 140737488351232) (at' : Nat) (ha : at' ≤ s.size) (l : List ByteArray) (hl : l.length ≤ 1000) (hw : ∀ w ∈ l, w.size ≤ 1000) : ∀ (m i : Nat), l.length = m + i →
 EvTo (fun k => aY.l0 k s (at' : Int) l (i : Int)) (((match (((l.drop i).map L).find? (fun w => w.isPrefixOf ((L s).drop at'))) with | some w => w.length | none => 0) : Nat) : Int) := by
 intro m
 induction m with
 | zero =>
  intro i h1
  have hnil : l.drop i = [] := List.drop_eq_nil_of_le (by omega)
  rw [hnil]
  refine EvTo.step (fun k => by rw [aY.l0]) ?_
  exact EvTo.neg (by omega) EvTo.now
 | succ m ih =>
  intro i h1
  have hi : i < l.length := by omega
  have hz := hw l[i] (List.getElem_mem _)
  have hL := L_size l[i]
  have hsL := L_size s
  refine EvTo.step (fun k => by rw [aY.l0]) ?_
  refine EvTo.pos (by omega) (EvTo.pos (by omega) ?_)
  simp only [Ar l i hi]
  rw [List.drop_eq_getElem_cons hi, List.map_cons, List.find?_cons]
  have d1 : -9223372036854775808 ≤ (s.size : Int) - (at' : Int) ∧ (s.size : Int) - (at' : Int) ≤ 9223372036854775807 := by omega
  have hnext : EvTo (fun k => aY.l0 k s (at' : Int) l (wrap64 ((i : Int) + 1))) (((match (((l.drop (i + 1)).map L).find? (fun w => w.isPrefixOf ((L s).drop at'))) with | some w => w.length | none => 0) : Nat) : Int) := by
   rw [inc i 0 (by omega)]
   exact ih (i + 1) (by omega)
  have hp : (L l[i]).isPrefixOf ((L s).drop at') = true ↔ ((L l[i]).length ≤ ((L s).drop at').length ∧ ((L s).drop at').take (L l[i]).length = L l[i]) := jk _ _
  rw [List.length_drop, ← hL, ← hsL] at hp
  by_cases c1 : l[i].size ≤ s.size - at'
  ·have d2 : (s.size : Int) - (at' : Int) ≥ (l[i].size : Int) := by omega
   have d3 : -9223372036854775808 ≤ (at' : Int) + (l[i].size : Int) ∧ (at' : Int) + (l[i].size : Int) ≤ 9223372036854775807 := by omega
   have d4 : (at' : Int) ≤ (at' : Int) + (l[i].size : Int) := by omega
   have d5 : (at' : Int) + (l[i].size : Int) ≤ (s.size : Int) := by omega
   have d6 : ((at' : Int) + (l[i].size : Int)).toNat = at' + l[i].size := by omega
   have d0 : 0 ≤ (at' : Int) := by omega
   simp only [w64 _ d1, w64 _ d3]
   refine EvTo.pos d2 (EvTo.pos d0 (EvTo.pos d4 (EvTo.pos d5 ?_)))
   rw [d6, Int.toNat_natCast]
   by_cases c2 : ((L s).drop at').take l[i].size = L l[i]
   ·refine EvTo.pos (by rw [eP, eP, vV]; exact c2) ?_
    rw [hp.2 ⟨c1, c2⟩, hL]
    exact EvTo.now
   refine EvTo.neg (by rw [eP, eP, vV]; exact c2) ?_
   rw [show (L l[i]).isPrefixOf ((L s).drop at') = false from Bool.eq_false_iff.2 (fun q => c2 (hp.1 q).2)]
   exact hnext
  have d2 : ¬ (s.size : Int) - (at' : Int) ≥ (l[i].size : Int) := by omega
  simp only [w64 _ d1]
  refine EvTo.neg d2 ?_
  rw [show (L l[i]).isPrefixOf ((L s).drop at') = false from Bool.eq_false_iff.2 (fun q => c1 (hp.1 q).1)]
  exact hnext
end Go.Proofs.Ytendgafpkeadhaa.Lex
end
section
set_option linter.unusedVariables false
set_option linter.unusedSimpArgs false
namespace Go.Proofs.Ytendgafpkeadhaa.Lex
open Go Go.RowKit Go.Proofs.YtendgafpkeadhaaW.PrintWords Go.Proofs.Ytendgafpkeadhaa.Q
theorem DN (n : Nat) (w l : List UInt8) (h : w.length = n) : w.isPrefixOf l = (l.take n == w) := by
 rw [Bool.eq_iff_iff, jk, beq_iff_eq, h]
 constructor
 ·exact fun q => q.2
 intro q
 refine ⟨?_, q⟩
 have := congrArg List.length q
 rw [List.length_take, h] at this
 omega
theorem zF (n : Nat) (l : List UInt8) : ∀ P : List (List UInt8), (∀ w ∈ P, w.length = n) → P.find? (fun w => w.isPrefixOf l) = if P.contains (l.take n) = true then some (l.take n) else none
 | [], _ => by simp
 | w :: P, h => by
  rw [List.find?_cons, DN n w l (h w (by simp)), List.contains_cons, zF n l P (fun x hx => h x (by simp [hx]))]
  by_cases c : l.take n = w
  ·rw [show (l.take n == w) = true from beq_iff_eq.2 c]
   simp [c]
  rw [show (l.take n == w) = false from beq_eq_false_iff_ne.2 c]
  simp
theorem sV (c : UInt8) : ∀ l : List UInt8, (l.map fun d => [d]).contains [c] = l.contains c
 | [] => rfl
 | d :: l => by
  rw [List.map_cons, List.contains_cons, List.contains_cons, sV c l]
  congr 1
  rw [Bool.eq_iff_iff, beq_iff_eq, beq_iff_eq]
  simp
theorem Ci (l : List UInt8) : (match (PAIRS ++ kK.map fun c => [c]).find? (fun w => w.isPrefixOf l) with | some w => w.length | none => 0) = (Lex.mark l).length := by
 rw [List.find?_append, zF 2 l PAIRS (by decide), zF 1 l (kK.map fun c => [c]) (by decide)]
 unfold Lex.mark
 by_cases h : PAIRS.contains (l.take 2) = true
 ·rw [if_pos h, if_pos h]; rfl
 rw [if_neg h, if_neg h]
 cases l with
 | nil =>
  rfl
 | cons c t =>
  have e : (kK.map fun c => [c]).contains ((c :: t).take 1) = kK.contains c := sV c kK
  rw [e]
  show _ = (if kK.contains c = true then [c] else []).length
  by_cases h2 : kK.contains c = true
  ·rw [if_pos h2, if_pos h2]; rfl
  rw [if_neg h2, if_neg h2]; rfl
theorem FO (s : ByteArray) (hs : s.size ≤ 140737488351232) (at' : Nat) (ha : at' ≤ s.size) : EvTo (fun k => aY.f k s (at' : Int)) (((Lex.mark ((L s).drop at')).length : Nat) : Int) := by
 unfold aY.f
 rw [← Ci]
 exact FN s hs at' ha _ (by simp) (by decide) 20 0 (by simp)
/-! one -/
def yg (at' : Nat) : Except Int (Int × List UInt8 × Int × Nat) → Int × ByteArray × Int × Int × Int × Int
 | .ok (k, x, n, m) => (k, S x, n, (at' : Int), (m : Int), 0)
 | .error e => (0, (⟨#[]⟩ : ByteArray), 0, 0, 0, e)
theorem EJ (s : ByteArray) (p n : Nat) (x : List UInt8) (h : ((L s).drop p).take n = x) : s.extract p (p + n) = S x := uB (by rw [vV, h, L_S])
theorem Iw (s : ByteArray) (hs : s.size ≤ 140737488351232) (p : Nat) (d : List UInt8) (hd0 : ((L s).drop p).takeWhile di = d) : ∀ (m n : Nat), s.size = m + (p + n) → n + (((L s).drop (p + n)).takeWhile di).length = d.length →
 EvTo (fun k => bi.l0 k s (p : Int) (n : Int)) (yg p (if (numOf d).2 then .ok (2, d, (numOf d).1, d.length) else .error 10)) := by
 have hend : ∀ n, p + n ≤ s.size → n = d.length → EvTo (fun k => (ay.f k (s.extract p (p + n))).bind fun (bt231 : Int × Bool) => (if bt231.2 = true then (some ((2 : Int), s.extract p (p + n), bt231.1, (p : Int), (n : Int), (0 : Int))) else (some ((0 : Int), (⟨#[]⟩ : ByteArray), (0 : Int), (0 : Int), (0 : Int), (10 : Int))))) (yg p (if (numOf d).2 then .ok (2, d, (numOf d).1, d.length) else .error 10)) := by
  intro n hn e
  subst e
  have e1 : s.extract p (p + d.length) = S d := EJ s p _ d (by rw [← hd0]; exact lq di _)
  rw [e1]
  refine EvTo.bind (BP _ (by rw [ni]; omega)) ?_
  rw [L_S]
  by_cases c : (numOf d).2 = true
  ·refine EvTo.pos c ?_
   rw [if_pos c]
   exact EvTo.now
  refine EvTo.neg c ?_
  rw [if_neg c]
  exact EvTo.now
 intro m
 induction m with
 | zero =>
  intro n h1 h2
  have hnil : (L s).drop (p + n) = [] := List.drop_eq_nil_of_le (by rw [← L_size]; omega)
  rw [hnil] at h2
  simp only [List.takeWhile_nil, List.length_nil, Nat.add_zero] at h2
  have hw : wrap64 ((p : Int) + (n : Int)) = ((p + n : Nat) : Int) := by rw [w64 _ (by omega)]; omega
  refine EvTo.step (fun k => by rw [bi.l0]) ?_
  simp only [hw, Int.toNat_natCast]
  exact EvTo.neg (by omega) (EvTo.pos (by omega) (EvTo.pos (by omega) (EvTo.pos (by omega) (hend n (by omega) h2))))
 | succ m ih =>
  intro n h1 h2
  have hd := fH (L s) (p + n) (by rw [← L_size]; omega)
  have hb := pW s (p + n)
  generalize (L s).getD (p + n) 0 = c at hd hb
  have hw : wrap64 ((p : Int) + (n : Int)) = ((p + n : Nat) : Int) := by rw [w64 _ (by omega)]; omega
  refine EvTo.step (fun k => by rw [bi.l0]) ?_
  simp only [hw, hb, qh, Option.bind_some, Int.toNat_natCast]
  refine EvTo.pos (by omega) (EvTo.pos (by omega) ?_)
  rw [hd, List.takeWhile_cons] at h2
  by_cases c1 : di c = true
  ·refine EvTo.pos c1 ?_
   rw [if_pos c1, List.length_cons] at h2
   rw [inc n 0 (by omega)]
   exact ih (n + 1) (by omega) (by rw [show p + (n + 1) = p + n + 1 by omega]; omega)
  refine EvTo.neg c1 ?_
  rw [if_neg c1, List.length_nil, Nat.add_zero] at h2
  exact EvTo.pos (by omega) (EvTo.pos (by omega) (EvTo.pos (by omega) (hend n (by omega) h2)))
theorem Ir (s : ByteArray) (hs : s.size ≤ 140737488351232) (p : Nat) (hp : p < s.size) : EvTo (fun k => bi.f k s (p : Int)) (yg p (Lex.one ((L s).drop p))) := by
 have hd := fH (L s) p (by rw [← L_size]; omega)
 have hb := pW s p
 generalize (L s).getD p 0 = c at hd hb
 generalize ht : (L s).drop (p + 1) = t at hd
 have hlen : (c :: t).length = s.size - p := by rw [← hd, List.length_drop, ← L_size]
 have hwr : ∀ n, n ≤ (c :: t).length → wrap64 ((p : Int) + (n : Int)) = ((p + n : Nat) : Int) := fun n hn => by rw [w64 _ (by omega)]; omega
 unfold bi.f
 refine EvTo.pos (by omega) (EvTo.pos (by omega) ?_)
 simp only [hb, qI, qh, Option.bind_some]
 rw [hd]
 simp only [Lex.one]
 by_cases c1 : le c = true
 ·refine EvTo.pos c1 (EvTo.bind (FH s hs p (by omega)) ?_)
  have hw : xH ((L s).drop p) = ((c :: t).takeWhile inn).length := by rw [hd]; simp only [xH, c1, if_true]
  rw [hw, if_pos c1]
  have hle := iw inn (c :: t)
  have hcut : s.extract p (p + ((c :: t).takeWhile inn).length) = S ((c :: t).takeWhile inn) := EJ s p _ _ (by rw [hd]; exact lq inn _)
  simp only [hwr _ hle, Int.toNat_natCast, hcut]
  refine EvTo.pos (by omega) (EvTo.pos (by omega) (EvTo.bind (Iz _) ?_))
  rw [L_S]
  by_cases c2 : isKey ((c :: t).takeWhile inn) = true
  ·refine EvTo.pos c2 ?_
   rw [if_pos c2]
   exact EvTo.now
  refine EvTo.neg c2 ?_
  rw [if_neg c2]
  by_cases c3 : ((c :: t).takeWhile inn).length ≤ 16
  ·refine EvTo.neg (by omega) ?_
   rw [if_pos c3]
   exact EvTo.now
  refine EvTo.pos (by omega) ?_
  rw [if_neg c3]
  exact EvTo.now
 refine EvTo.neg c1 ?_
 rw [if_neg c1]
 by_cases c2 : di c = true
 ·refine EvTo.pos c2 ?_
  rw [if_pos c2]
  exact Iw s hs p _ (by rw [hd]) (s.size - p) 0 (by omega) (by rw [Nat.add_zero, hd]; omega)
 refine EvTo.neg c2 ?_
 rw [if_neg c2]
 have e1 : ((c.toNat : Int) = 34) ↔ c = 34 := fA c 34
 by_cases c3 : c = 34
 ·refine EvTo.pos (e1.2 c3) (EvTo.bind (Iq s hs p hp) ?_)
  rw [if_pos c3, ht]
  cases hu : unq false t with
  | none =>
   refine EvTo.pos rfl ?_
   exact EvTo.now
  | some r =>
   obtain ⟨x, r⟩ := r
   have := mP t false x r hu
   simp only [List.length_cons] at hlen
   have e2 : s.size - r.length - p = (c :: t).length - r.length := by simp only [List.length_cons]; omega
   simp only [xI, List.nil_append, e2]
   refine EvTo.neg Z75 ?_
   exact EvTo.now
 refine EvTo.neg (fun h => c3 (e1.1 h)) (EvTo.bind (FO s hs p (by omega)) ?_)
 rw [if_neg c3, hd]
 have hml := tV (c :: t)
 by_cases c4 : Lex.mark (c :: t) = []
 ·refine EvTo.pos (by rw [c4]; rfl) ?_
  rw [if_pos c4]
  exact EvTo.now
 have hpos : 1 ≤ (Lex.mark (c :: t)).length := by
  rcases hz : Lex.mark (c :: t) with _ | ⟨a, b⟩
  ·exact absurd hz c4
  simp
 have hcut : s.extract p (p + (Lex.mark (c :: t)).length) = S (Lex.mark (c :: t)) := EJ s p _ _ (by rw [hd]; exact Cf _)
 simp only [hwr _ hml, Int.toNat_natCast, hcut]
 refine EvTo.neg (by omega) (EvTo.pos (by omega) (EvTo.pos (by omega) ?_))
 rw [if_neg c4]
 exact EvTo.now
/-! Scan -/
theorem FM (s : ByteArray) (h0 : s.size ≤ 8192) : ∀ (f p : Nat) (acc : List S38), s.size - p < f → p ≤ s.size → acc.length ≤ p →
 EvTo (fun k => aV.l0 k s acc (p : Int)) (oZ s.size acc (toks f ((L s).drop p))) := by
 intro f
 induction f with
 | zero => intro p acc h; omega
 | succ f ih =>
  intro p acc h1 h2 h3
  have hlen : ((L s).drop p).length = s.size - p := by rw [List.length_drop, ← L_size]
  refine EvTo.step (fun k => by rw [aV.l0]) ?_
  rcases hl : (L s).drop p with _ | ⟨c, t⟩
  ·rw [hl] at hlen
   simp only [List.length_nil] at hlen
   refine EvTo.neg (by omega) (EvTo.jv (fun k => ?_))
   simp [toks, oZ]
  rw [hl] at hlen
  simp only [List.length_cons] at hlen
  refine EvTo.pos (by omega) (EvTo.bind (Ir s (by omega) p (by omega)) ?_)
  rw [hl]
  simp only [toks]
  cases ho : Lex.one (c :: t) with
  | error e =>
   simp only [yg]
   refine EvTo.neg (oq ho (by simp)) (EvTo.jv (fun k => ?_))
   simp only [oZ, List.length_cons]
   congr 3
   omega
  | ok r =>
   obtain ⟨kd, x, n, m⟩ := r
   have hm := oI ho
   simp only [List.length_cons] at hm
   simp only [yg]
   have hw : wrap64 ((p : Int) + (m : Int)) = ((p + m : Nat) : Int) := by rw [w64 _ (by omega)]; omega
   simp only [hw]
   refine EvTo.pos trivial (EvTo.pos (by omega) (EvTo.bind (Aq s (by omega) (p + m) (by omega)) ?_))
   have e1 : (L s).drop (p + m) = (c :: t).drop m := by rw [← hl, List.drop_drop]
   rw [e1]
   have hsl := gU ((c :: t).drop m) false
   simp only [List.length_drop, List.length_cons] at hsl
   have hsuf : skp false ((c :: t).drop m) <:+ L s := (kw _ _).trans (by rw [← e1]; exact List.drop_suffix _ _)
   have e2 : (L s).drop (s.size - (skp false ((c :: t).drop m)).length) = skp false ((c :: t).drop m) := by
    have := List.suffix_iff_eq_drop.1 hsuf
    rw [← L_size] at this
    exact this.symm
   have := ih (s.size - (skp false ((c :: t).drop m)).length) (acc ++ [(⟨kd, S x, n, (p : Int)⟩ : S38)]) (by omega) (by omega) (by simp only [List.length_append, List.length_cons, List.length_nil]; omega)
   rw [e2] at this
   have e4 : (p : Int) = ((s.size - (c :: t).length : Nat) : Int) := by simp only [List.length_cons]; omega
   rw [e4] at this ⊢
   generalize toks f (skp false ((c :: t).drop m)) = o at this ⊢
   cases o with
   | error e => exact this
   | ok ts => simpa only [oZ, List.map_cons, tkS, List.append_assoc, List.singleton_append] using this
theorem FT (s : ByteArray) : EvTo (fun k => aV.f k s) (pM s) := by
 unfold aV.f pM
 by_cases h : s.size ≤ 8192
 ·refine EvTo.neg (by omega) ?_
  rw [if_pos h]
  have hz := Aq s (by omega) 0 (by omega)
  refine EvTo.bind hz ?_
  rw [List.drop_zero]
  have hl := gU (L s) false
  have hsuf := List.suffix_iff_eq_drop.1 (kw (L s) false)
  have := FM s h (s.size + 1) (s.size - (skp false (L s)).length) [] (by omega) (by omega) (by simp)
  rw [← L_size] at hsuf
  rw [← hsuf] at this
  unfold Lex.scan
  rw [← L_size]
  exact this
 refine EvTo.pos (by omega) ?_
 rw [if_neg h]
 exact EvTo.now
end Go.Proofs.Ytendgafpkeadhaa.Lex
end
section
set_option linter.unusedVariables false
set_option linter.unusedSimpArgs false
namespace Go.Proofs.Ytendgafpkeadhaa.Par
open Go Go.RowKit Go.Proofs.YtendgafpkeadhaaW.PrintWords Go.Proofs.Ytendgafpkeadhaa.Q Go.Proofs.Ytendgafpkeadhaa.Lex Go.Proofs.Ytendgafpkeadhaa.Tree
/-- How much deeper a token leads, as the law counts. -/
def chg (t : S38) : Int := if t.f0 = 4 then qE t.f1.toList else 0
def yI (d : Int) (t : S38) : Prop := d < 0 ∨ (d = 0 ∧ t.f0 = 4 ∧ t.f1.toList = [59])
theorem AL (a : ByteArray) (ts : List S38) (d : Int) (i : Nat) (b : Bool) (t : S38) (hi : i ≤ 100000) (hd : -100000 ≤ d ∧ d ≤ 100000) (v : Bool)
 (h : yI (if b = true then d - 1 else d) t → v = false) (g : ¬ yI (if b = true then d - 1 else d) t → EvTo (fun k => ah.l0 k a ts (if b = true then d - 1 else d) ((i + 1 : Nat) : Int)) v) :
 EvTo (fun k => ah.j3 k a ts d (i : Int) b t.f0 t.f1 t.f2 t.f3) v := by
 have hw : wrap64 (d - 1) = d - 1 := Tree.w64 (n := d - 1) (by omega) (by omega)
 have hi1 : wrap64 ((i : Int) + 1) = ((i + 1 : Nat) : Int) := Tree.inc i (by omega)
 have key : ∀ e : Int, (yI e t → v = false) → (¬ yI e t → EvTo (fun k => ah.l0 k a ts e ((i + 1 : Nat) : Int)) v) →
  EvTo (fun k => if e < 0 then (some false) else (if e = 0 then (if t.f0 = 4 then (if t.f1.toList = ([59] : List UInt8) then (some false) else (ah.l0 k a ts e ((i + 1 : Nat) : Int))) else (ah.l0 k a ts e ((i + 1 : Nat) : Int))) else (ah.l0 k a ts e ((i + 1 : Nat) : Int)))) v := by
  intro e h g
  by_cases c1 : e < 0
  ·rw [h (Or.inl c1)]; exact EvTo.pos c1 EvTo.now
  refine EvTo.neg c1 ?_
  by_cases c2 : e = 0
  ·refine EvTo.pos c2 ?_
   by_cases c3 : t.f0 = 4
   ·refine EvTo.pos c3 ?_
    by_cases c4 : t.f1.toList = [59]
    ·rw [h (Or.inr ⟨c2, c3, c4⟩)]; exact EvTo.pos c4 EvTo.now
    exact EvTo.neg c4 (g (by rintro (q | ⟨_, _, q⟩); exact c1 q; exact c4 q))
   exact EvTo.neg c3 (g (by rintro (q | ⟨_, q, _⟩); exact c1 q; exact c3 q))
  exact EvTo.neg c2 (g (by rintro (q | ⟨q, _⟩); exact c1 q; exact c2 q))
 refine EvTo.step (fun k => by rw [ah.j3]) ?_
 rw [hw, hi1]
 clear hw hi1
 cases b with
 | true => exact EvTo.pos rfl (key (d - 1) h g)
 | false => exact EvTo.neg (by simp) (key d h g)
theorem CQ {w : List UInt8} (h : w = [40] ∨ w = [123] ∨ w = [91]) : qE w = 1 := if_pos h
theorem CP {w : List UInt8} (h : w = [41] ∨ w = [125] ∨ w = [93]) : qE w = -1 := by rcases h with rfl | rfl | rfl <;> rfl
theorem CS {w : List UInt8} (h : ¬ (w = [40] ∨ w = [123] ∨ w = [91])) (g : ¬ (w = [41] ∨ w = [125] ∨ w = [93])) : qE w = 0 := by unfold qE; rw [if_neg h, if_neg g]
theorem AO (a : ByteArray) (ts : List S38) (d : Int) (i : Nat) (t : S38) (hi : i ≤ 100000) (hd : -100000 ≤ d ∧ d ≤ 100000) (v : Bool) (x : Int)
 (hx : x = if t.f0 = 4 ∧ (t.f1.toList = [41] ∨ t.f1.toList = [125] ∨ t.f1.toList = [93]) then d - 1 else d)
 (h : yI x t → v = false) (g : ¬ yI x t → EvTo (fun k => ah.l0 k a ts x ((i + 1 : Nat) : Int)) v) :
 EvTo (fun k => ah.j2 k a ts d (i : Int) t.f0 t.f1 t.f2 t.f3) v := by
 refine EvTo.step (fun k => by rw [ah.j2]) ?_
 have yes : t.f0 = 4 ∧ (t.f1.toList = [41] ∨ t.f1.toList = [125] ∨ t.f1.toList = [93]) → EvTo (fun k => ah.j3 k a ts d (i : Int) true t.f0 t.f1 t.f2 t.f3) v := fun c => by
  rw [if_pos c] at hx
  subst hx
  exact AL a ts d i true t hi hd v h g
 have no : ¬ (t.f0 = 4 ∧ (t.f1.toList = [41] ∨ t.f1.toList = [125] ∨ t.f1.toList = [93])) → EvTo (fun k => ah.j3 k a ts d (i : Int) false t.f0 t.f1 t.f2 t.f3) v := fun c => by
  rw [if_neg c] at hx
  subst hx
  exact AL a ts x i false t hi hd v h g
 by_cases c0 : t.f0 = 4
 ·refine EvTo.pos c0 ?_
  by_cases c1 : t.f1.toList = [41]
  ·exact EvTo.pos c1 (yes ⟨c0, Or.inl c1⟩)
  refine EvTo.neg c1 ?_
  by_cases c2 : t.f1.toList = [125]
  ·exact EvTo.pos c2 (yes ⟨c0, Or.inr (Or.inl c2)⟩)
  refine EvTo.neg c2 ?_
  by_cases c3 : t.f1.toList = [93]
  ·rw [show (t.f1.toList == [93]) = true from beq_iff_eq.2 c3]; exact yes ⟨c0, Or.inr (Or.inr c3)⟩
  rw [show (t.f1.toList == [93]) = false from beq_eq_false_iff_ne.2 c3]; exact no (by rintro ⟨_, q | q | q⟩; exact c1 q; exact c2 q; exact c3 q)
 exact EvTo.neg c0 (no (fun q => c0 q.1))
theorem qN (a : ByteArray) (ts : List S38) (d : Int) (i : Nat) (hi : i < ts.length) (hl : ts.length ≤ 50000) (hd : -50000 ≤ d ∧ d ≤ 50000) (v : Bool)
 (h : yI (d + chg ts[i]) ts[i] → v = false) (g : ¬ yI (d + chg ts[i]) ts[i] → EvTo (fun k => ah.l0 k a ts (d + chg ts[i]) ((i + 1 : Nat) : Int)) v) :
 EvTo (fun k => ah.l0 k a ts d (i : Int)) v := by
 obtain ⟨_, h2, _⟩ := rd_tok ts i _ _ (List.drop_eq_getElem_cons hi)
 refine EvTo.step (fun k => by rw [ah.l0]) ?_
 refine EvTo.pos (by omega) (EvTo.pos (by omega) ?_)
 rw [h2]
 generalize ts[i] = t at h g
 have hw : wrap64 (d + 1) = d + 1 := Tree.w64 (n := d + 1) (by omega) (by omega)
 have no : ¬ (t.f0 = 4 ∧ (t.f1.toList = [40] ∨ t.f1.toList = [123] ∨ t.f1.toList = [91])) → EvTo (fun k => ah.j1 k a ts d (i : Int) false t.f0 t.f1 t.f2 t.f3) v := fun c => by
  refine EvTo.step (fun k => by rw [ah.j1]) ?_
  refine EvTo.neg (by simp) ?_
  refine AO a ts d i t (by omega) (by omega) v (d + chg t) ?_ h g
  unfold chg
  by_cases c0 : t.f0 = 4
  ·rw [if_pos c0]
   by_cases c1 : t.f1.toList = [41] ∨ t.f1.toList = [125] ∨ t.f1.toList = [93]
   ·rw [if_pos ⟨c0, c1⟩, CP c1]; rfl
   rw [if_neg (fun q => c1 q.2), CS (fun q => c ⟨c0, q⟩) c1]; omega
  rw [if_neg c0, if_neg (fun q => c0 q.1)]; omega
 have yes : t.f0 = 4 ∧ (t.f1.toList = [40] ∨ t.f1.toList = [123] ∨ t.f1.toList = [91]) → EvTo (fun k => ah.j1 k a ts d (i : Int) true t.f0 t.f1 t.f2 t.f3) v := fun c => by
  refine EvTo.step (fun k => by rw [ah.j1]) ?_
  refine EvTo.pos rfl ?_
  rw [hw]
  clear hw
  refine AO a ts (d + 1) i t (by omega) (by omega) v (d + chg t) ?_ h g
  unfold chg
  rw [if_pos c.1, CQ c.2, if_neg]
  rintro ⟨_, q⟩
  rcases c.2 with e | e | e <;> rw [e] at q <;> revert q <;> decide
 clear hw
 by_cases c0 : t.f0 = 4
 ·refine EvTo.pos c0 ?_
  by_cases c1 : t.f1.toList = [40]
  ·exact EvTo.pos c1 (yes ⟨c0, Or.inl c1⟩)
  refine EvTo.neg c1 ?_
  by_cases c2 : t.f1.toList = [123]
  ·exact EvTo.pos c2 (yes ⟨c0, Or.inr (Or.inl c2)⟩)
  refine EvTo.neg c2 ?_
  by_cases c3 : t.f1.toList = [91]
  ·rw [show (t.f1.toList == [91]) = true from beq_iff_eq.2 c3]; exact yes ⟨c0, Or.inr (Or.inr c3)⟩
  rw [show (t.f1.toList == [91]) = false from beq_eq_false_iff_ne.2 c3]; exact no (by rintro ⟨_, q | q | q⟩; exact c1 q; exact c2 q; exact c3 q)
 exact EvTo.neg c0 (no (fun q => c0 q.1))
theorem EK (t : S38) : -1 ≤ chg t ∧ chg t ≤ 1 := by
 unfold chg qE
 repeat' split
 all_goals omega
theorem Gl (a : ByteArray) (ha : a.size ≤ 100000) (d : Int) : ∀ (m j : Nat), a.size = m + j → (35 : UInt8) ∈ (L a).drop j → EvTo (fun k => ah.l1 k a d (j : Int)) false := by
 intro m
 induction m with
 | zero =>
  intro j h1 h2
  rw [List.drop_eq_nil_of_le (by rw [← L_size]; omega)] at h2
  cases h2
 | succ m ih =>
  intro j h1 h2
  have hj : j < (L a).length := by rw [← L_size]; omega
  refine EvTo.step (fun k => by rw [ah.l1]) ?_
  refine EvTo.pos (by omega) (EvTo.pos (by omega) ?_)
  rw [pW, Tree.inc j (by omega), List.getD_eq_getElem?_getD, List.getElem?_eq_getElem hj]
  rw [List.drop_eq_getElem_cons hj] at h2
  by_cases c : (L a)[j] = 35
  ·refine EvTo.pos ?_ EvTo.now
   simp only [Option.getD_some, c]
   rfl
  refine EvTo.neg ?_ (ih (j + 1) (by omega) ?_)
  ·simp only [Option.getD_some]
   intro e
   apply c
   have : (L a)[j].toNat = (35 : UInt8).toNat := by
    have e' : ((L a)[j].toNat : Int) = ((35 : Nat) : Int) := e
    exact Int.ofNat_inj.1 e'
   exact UInt8.toNat_inj.1 this
  rcases List.mem_cons.1 h2 with h2 | h2
  ·exact absurd h2.symm c
  exact h2
/-- A remark stands in it. -/
theorem Gm (a : ByteArray) (ha : a.size ≤ 100000) (h35 : (35 : UInt8) ∈ L a) (ts : List S38) (hl : ts.length ≤ 40000) : ∀ (m i : Nat) (d : Int), ts.length = m + i → -(i : Int) ≤ d ∧ d ≤ i → EvTo (fun k => ah.l0 k a ts d (i : Int)) false := by
 intro m
 induction m with
 | zero =>
  intro i d h1 h2
  refine EvTo.step (fun k => by rw [ah.l0]) ?_
  exact EvTo.neg (by omega) (Gl a ha d a.size 0 (by omega) (by rw [List.drop_zero]; exact h35))
 | succ m ih =>
  intro i d h1 h2
  have := EK ts[i]
  exact qN a ts d i (by omega) (by omega) (by omega) false (fun _ => rfl) (fun _ => ih (i + 1) _ (by omega) (by omega))
def zK (p : List S38) : Int := (p.map chg).sum
/-- Brackets meet ahead of a ;. -/
theorem vF (a : ByteArray) (ts : List S38) (hl : ts.length ≤ 40000) : ∀ (p : List S38) (i : Nat) (d : Int) (t : S38) (r : List S38), ts.drop i = p ++ t :: r → d + zK p = 0 → t.f0 = 4 → t.f1.toList = [59] → -(i : Int) ≤ d ∧ d ≤ i → EvTo (fun k => ah.l0 k a ts d (i : Int)) false
 | [], i, d, t, r, h, h0, h4, h5, hd => by
  obtain ⟨hi, _, _⟩ := rd_tok ts i t r h
  have e : ts[i] = t := by rw [List.drop_eq_getElem_cons hi] at h; exact (List.cons.inj h).1
  have hz : chg t = 0 := by unfold chg; rw [if_pos h4, h5]; rfl
  have h0' : d = 0 := by simpa [zK] using h0
  refine qN a ts d i hi (by omega) (by omega) false (fun _ => rfl) (fun q => absurd ?_ q)
  rw [e, hz]
  exact Or.inr ⟨by omega, h4, h5⟩
 | x :: p, i, d, t, r, h, h0, h4, h5, hd => by
  obtain ⟨hi, _, h3⟩ := rd_tok ts i x (p ++ t :: r) h
  have e : ts[i] = x := by rw [List.drop_eq_getElem_cons hi] at h; exact (List.cons.inj h).1
  have hx := EK x
  refine qN a ts d i hi (by omega) (by omega) false (fun _ => rfl) (fun _ => ?_)
  rw [e]
  refine vF a ts hl p (i + 1) (d + chg x) t r h3 ?_ h4 h5 (by omega)
  have : zK (x :: p) = chg x + zK p := by simp [zK]
  omega
end Go.Proofs.Ytendgafpkeadhaa.Par
end
section
set_option linter.unusedVariables false
set_option linter.unusedSimpArgs false
namespace Go.Proofs.Ytendgafpkeadhaa.Par
open Go Go.RowKit Go.Proofs.YtendgafpkeadhaaW.PrintWords Go.Proofs.Ytendgafpkeadhaa.Q Go.Proofs.Ytendgafpkeadhaa.Lex Go.Proofs.Ytendgafpkeadhaa.Tree
abbrev HB : ByteArray := (⟨#[109, 111, 100, 117, 108, 101, 32, 109, 32, 49, 59, 32, 102, 110, 32, 102, 40, 41, 32, 123, 32, 114, 101, 116, 117, 114, 110, 32]⟩ : ByteArray)
abbrev TBy : ByteArray := (⟨#[59, 32, 125]⟩ : ByteArray)
theorem sizes (a b : ByteArray) : (a ++ b).size = a.size + b.size := by rw [L_size, L_append, List.length_append, ← L_size, ← L_size]
/-- The law's text with so many brackets. -/
def txt (a : ByteArray) (K : Nat) : ByteArray := (((HB ++ S (List.replicate K 40)) ++ a) ++ S (List.replicate K 41)) ++ TBy
theorem BG (a : ByteArray) (K : Nat) : L (txt a K) = h28 ++ (List.replicate K 40 ++ (L a ++ (List.replicate K 41 ++ [59, 32, 125]))) := by
 unfold txt
 rw [L_append, L_append, L_append, L_append, L_S, L_S, List.append_assoc, List.append_assoc, List.append_assoc]
 rfl
theorem xJ (a : ByteArray) (K : Nat) : (txt a K).size = a.size + (2 * K + 31) := by
 rw [L_size, BG, L_size]
 simp only [List.length_append, List.length_replicate, List.length_cons, List.length_nil]
 omega
theorem Ai (n p : Nat) : Ten ((Dw n).map (tkS p)) (tkS p ⟨5, [109, 111, 100, 117, 108, 101], 0, n + 28⟩) (tkS p ⟨1, [109], 0, n + 21⟩) (tkS p ⟨2, [49], 1, n + 19⟩) (tkS p ⟨4, [59], 0, n + 18⟩) (tkS p ⟨5, [102, 110], 0, n + 16⟩) (tkS p ⟨1, [102], 0, n + 13⟩) (tkS p ⟨4, [40], 0, n + 12⟩) (tkS p ⟨4, [41], 0, n + 11⟩) (tkS p ⟨4, [123], 0, n + 9⟩) (tkS p ⟨5, [114, 101, 116, 117, 114, 110], 0, n + 7⟩) where
 eq := rfl
 w0 := mr p 5 (Or.inl rfl) _ _ _ _
 w1 := rfl
 w2 := rfl
 w3 := mr p 4 (Or.inr rfl) _ _ _ _
 w4 := mr p 5 (Or.inl rfl) _ _ _ _
 w5 := rfl
 w6 := mr p 4 (Or.inr rfl) _ _ _ _
 w7 := mr p 4 (Or.inr rfl) _ _ _ _
 w8 := mr p 4 (Or.inr rfl) _ _ _ _
 w9 := mr p 5 (Or.inl rfl) _ _ _ _
theorem Gx {x : List UInt8} (h : isKey x = true) : qE x = 0 := by
 have : ∀ w ∈ KEYS, qE w = 0 := by decide
 exact this x (List.contains_iff_mem.1 h)
theorem xZ (us : List Tk) (d e a b : Nat) : Sim ((us.map (up d)).map (tkS a)) ((us.map (up e)).map (tkS b)) := by
 unfold Sim
 simp only [List.map_map]
 rfl
theorem uV : ∀ (p q l : List S38), Sim (p ++ q) l → ∃ p' q', l = p' ++ q' ∧ Sim p p' ∧ Sim q q'
 | [], q, l, h => ⟨[], l, rfl, rfl, h⟩
 | t :: p, q, l, h => by
  obtain ⟨t', u, rfl, h1, h2⟩ := Sim.cons h
  obtain ⟨p', q', rfl, h3, h4⟩ := uV p q u h2
  exact ⟨t' :: p', q', rfl, by unfold Sim; rw [List.map_cons, List.map_cons, h1, h3], h4⟩
theorem G9 {p p' : List S38} (h : Sim p p') (hk : ∀ t ∈ p', t.f0 = 5 → isKey (L t.f1) = true) : zK p' = De p := by
 induction p' generalizing p with
 | nil =>
  have := h.len
  rw [List.length_eq_zero_iff.1 this]; rfl
 | cons t' p' ih =>
  obtain ⟨t, u, rfl, h1, h2⟩ := Sim.cons h.symm
  have e := ih h2.symm (fun x hx => hk x (List.mem_cons_of_mem _ hx))
  have ht : chg t' = dep t := by
   obtain ⟨c0, c1, _⟩ := kQ h1
   unfold chg dep
   by_cases d4 : t'.f0 = 4
   ·rw [if_pos d4]
    have : wB [t] = t.f1 := if_pos (Or.inr (by omega))
    unfold wd
    rw [this, c1]
   rw [if_neg d4]
   by_cases d5 : t'.f0 = 5
   ·have : wB [t] = t.f1 := if_pos (Or.inl (by omega))
    unfold wd
    rw [this, ← c1, eP]
    exact (Gx (hk t' List.mem_cons_self d5)).symm
   have : wB [t] = E := if_neg (by omega)
   unfold wd
   rw [this, vX]; rfl
  show chg t' + zK p' = dep t + De u
  rw [e, ht]
/-- What comes of the brackets. -/
theorem D9 {n N : Nat} (hr : Rnd n) (hR : Rnd N) (hn : 3000 ≤ n) (hN : n + 200 ≤ N) (a : ByteArray) (ha : a.size ≤ 1000) (K : Nat) (hK : 1 ≤ K) (hK9 : K ≤ 19) (us : List Tk) (x : List S41)
 (h0 : Lex.scan (L (txt a 0)) = .ok us) (m0 : moduleP (pfam n) n (us.map (tkS (txt a 0).size)) = .ok (x, [])) (c0 : (checkS x).1 = 0) :
 ∃ v : List S41 × Int × Int, EvTo (fun k => parse_Text.f k (txt a K)) v ∧ ((v.2.1 = 0 ∧ v.1 = x) ∨ (v.2.1 ≠ 0 ∧ EvTo (fun k => ah.f k a) false)) := by
 rw [BG, xQ] at h0
 simp only [List.replicate_zero, List.nil_append] at h0
 cases z0 : Lex.scan (L a ++ [59, 32, 125]) with
 | error e => rw [z0] at h0; cases h0
 | ok zs =>
 rw [z0] at h0
 simp only [Except.ok.injEq] at h0
 obtain ⟨xs, hx⟩ := BM Hg [32, 125] (by decide) z0
 have y0 := yc Hg [32, 125] (by decide) hx uU
 rw [z0] at y0
 simp only [Except.ok.injEq] at y0
 obtain ⟨J, rfl⟩ : ∃ J, K = J + 1 := ⟨K - 1, by omega⟩
 have nin : ∀ c : UInt8, c ≠ 41 → c ∉ ([59, 32, 125] : List UInt8) → c ∉ (41 : UInt8) :: (List.replicate J 41 ++ [59, 32, 125]) := by
  intro c h1 h2 h
  rcases List.mem_cons.1 h with h | h
  ·exact h1 h
  rcases List.mem_append.1 h with h | h
  ·exact h1 (List.eq_of_mem_replicate h)
  exact h2 h
 have hsh := uX (J + 1)
 rw [List.replicate_succ, List.cons_append] at hsh
 have y1 := yc J4 (List.replicate J 41 ++ [59, 32, 125]) (nin 10 (by decide) (by decide)) hx hsh
 obtain ⟨U1, hU⟩ : ∃ U : Nat, (List.replicate J 41 ++ [59, 32, 125] : List UInt8).length + 1 = U := ⟨_, rfl⟩
 rw [hU] at y1
 have y2 := vw y1 (J + 1)
 have h1 : Lex.scan (L (txt a (J + 1))) = .ok (Dw (List.replicate (J + 1) 40 ++ (L a ++ 41 :: (List.replicate J 41 ++ [59, 32, 125]))).length ++ (opT (L a ++ 41 :: (List.replicate J 41 ++ [59, 32, 125])).length (J + 1) ++ (xs.map (up U1) ++ if BN (L a) = true then [] else shT (J + 1) ++ xU))) := by
  rw [BG, xQ]
  have e : (List.replicate (J + 1) 41 ++ [59, 32, 125] : List UInt8) = 41 :: (List.replicate J 41 ++ [59, 32, 125]) := by rw [List.replicate_succ, List.cons_append]
  rw [e, y2]
 have sz : (txt a (J + 1)).size ≤ 3000 := by rw [xJ]; omega
 obtain ⟨p1, p2, p3⟩ := text_toks sz h1
 have hz := text_A _ sz h1 N (hR.2 _ p1 p2)
 subst h0
 subst y0
 generalize (txt a 0).size = S0 at m0
 generalize (txt a (J + 1)).size = S1 at hz
 generalize (L a ++ [59, 32, 125]).length = N0 at m0
 generalize (List.replicate (J + 1) 40 ++ (L a ++ 41 :: (List.replicate J 41 ++ [59, 32, 125]))).length = N1 at hz
 generalize (L a ++ 41 :: (List.replicate J 41 ++ [59, 32, 125])).length = N2 at hz
 have aO : ∀ t ∈ (opT N2 (J + 1)).map (tkS S1), wd [t] = [40] := fun t ht => by
  obtain ⟨u, hu, rfl⟩ := List.mem_map.1 ht
  obtain ⟨r, rfl⟩ := AA _ _ u hu
  exact mr S1 4 (Or.inr rfl) _ _ _ _
 have aS : ∀ t ∈ (shT (J + 1)).map (tkS S1), wd [t] = [41] := fun t ht => by
  obtain ⟨u, hu, rfl⟩ := List.mem_map.1 ht
  obtain ⟨r, rfl⟩ := Am _ u hu
  exact mr S1 4 (Or.inr rfl) _ _ _ _
 have lO : ((opT N2 (J + 1)).map (tkS S1)).length = J + 1 := by rw [List.length_map, AB]
 have lS : ((shT (J + 1)).map (tkS S1)).length = J + 1 := by rw [List.length_map, Ap]
 have hloneS : EvTo (fun k => aV.f k a) (xs.map (tkS a.size), 0, 0) := by
  have := FT a
  unfold pM at this
  rw [if_pos (by omega), hx] at this
  exact this
 have lxs : (xs.map (tkS a.size)).length ≤ 40000 := by
  have := (yf hx).1
  rw [← L_size] at this
  rw [List.length_map]; omega
 have lone : ∀ (h : EvTo (fun k => ah.l0 k a (xs.map (tkS a.size)) 0 ((0 : Nat) : Int)) false), EvTo (fun k => ah.f k a) false := fun h => by
  unfold ah.f
  exact EvTo.bind hloneS (EvTo.pos rfl h)
 cases hE : BN (L a) with
 | true =>
  rw [hE] at hz m0
  simp only [if_true, List.append_nil] at hz m0
  rw [List.map_append] at m0
  rw [List.map_append, List.map_append] at hz
  obtain ⟨q, hq⟩ := DC (by omega) hN (Ai N0 S0) (Ai N1 S1) (xZ xs 3 U1 S0 S1) (K := J + 1) hK hK9 lO aO m0
  rw [hq] at hz
  refine ⟨_, hz, Or.inr ⟨by show (10 : Int) ≠ 0; decide, lone ?_⟩⟩
  exact Gm a (by omega) (FC hE) _ lxs (xs.map (tkS a.size)).length 0 0 (by omega) (by omega)
 | false =>
  rw [hE] at hz m0
  simp only [Bool.false_eq_true, if_false] at hz m0
  rw [List.map_append, List.map_append] at m0
  rw [List.map_append, List.map_append, List.map_append, List.map_append] at hz
  rcases DD (by omega) hN (Ai N0 S0) (Ai N1 S1) rfl rfl rfl (xZ xs 3 U1 S0 S1) (K := J + 1) hK hK9 lO lS aO aS (s0 := tkS S0 ⟨4, [59], 0, 3⟩) (c0 := tkS S0 ⟨4, [125], 0, 1⟩) (s1 := tkS S1 ⟨4, [59], 0, 3⟩) (c1 := tkS S1 ⟨4, [125], 0, 1⟩)
   (mr S0 4 (Or.inr rfl) _ _ _ _) (mr S0 4 (Or.inr rfl) _ _ _ _) (mr S1 4 (Or.inr rfl) _ _ _ _) (mr S1 4 (Or.inr rfl) _ _ _ _) m0 with h | ⟨⟨q, hq⟩, p, R, s, e1, e2, e3⟩
  ·have e : moduleP (pfam N) N ((Dw N1).map (tkS S1) ++ ((opT N2 (J + 1)).map (tkS S1) ++ ((xs.map (up U1)).map (tkS S1) ++ ((shT (J + 1)).map (tkS S1) ++ xU.map (tkS S1))))) = .ok (x, []) := h
   rw [e] at hz
   refine ⟨_, hz, Or.inl ?_⟩
   have e2 : ∀ ts : List S38, ansS ts (.ok (x, [])) = (x, 0, 0) := fun ts => if_pos c0
   rw [e2]
   exact ⟨rfl, rfl⟩
  have e : moduleP (pfam N) N ((Dw N1).map (tkS S1) ++ ((opT N2 (J + 1)).map (tkS S1) ++ ((xs.map (up U1)).map (tkS S1) ++ ((shT (J + 1)).map (tkS S1) ++ xU.map (tkS S1))))) = .error (some q) := hq
  rw [e] at hz
  refine ⟨_, hz, Or.inr ⟨by show (10 : Int) ≠ 0; decide, lone ?_⟩⟩
  have hsim : Sim (p ++ s :: R) (xs.map (tkS a.size)) := by
   rw [← e1]
   unfold Sim
   simp only [List.map_map]
   rfl
  obtain ⟨p', q', g1, g2, g3⟩ := uV p (s :: R) _ hsim
  obtain ⟨s', R', rfl, g4, _⟩ := g3.cons
  have hkey : ∀ t ∈ xs.map (tkS a.size), t.f0 = 5 → isKey (L t.f1) = true := fun t ht h5 => by
   obtain ⟨u, hu, rfl⟩ := List.mem_map.1 ht
   exact xM _ _ _ hx u hu h5
  have hwB : (s.f0 = 5 ∨ s.f0 = 4) ∧ s.f1.toList = [59] := by
   unfold wd at e3
   by_cases c : s.f0 = 5 ∨ s.f0 = 4
   ·have : wB [s] = s.f1 := if_pos c
    rw [this] at e3
    exact ⟨c, e3⟩
   have : wB [s] = E := if_neg c
   rw [this, vX] at e3
   cases e3
  obtain ⟨k0, k1, _⟩ := kQ g4
  have hs4 : s'.f0 = 4 := by
   rcases hwB.1 with h | h
   ·exfalso
    have := hkey s' (by rw [g1]; simp) (by omega)
    rw [← k1, ← eP, hwB.2] at this
    revert this
    decide
   omega
  refine vF a _ lxs p' 0 0 s' R' (by rw [List.drop_zero, g1]) ?_ hs4 (by rw [← k1]; exact hwB.2) (by omega)
  rw [G9 g2 (fun t ht => hkey t (by rw [g1]; exact List.mem_append.2 (Or.inl ht))), e2]
  rfl
theorem Dn (a : Int) (h0 : 0 ≤ a) (h1 : a ≤ 255) : Int.tmod (wrap64 a) 20 = ((a.toNat % 20 : Nat) : Int) := by
 rw [Tree.w64 (n := a) (by omega) (by omega), Int.tmod_eq_emod_of_nonneg h0]
 omega
theorem Hr (l : List UInt8) (c : UInt8) : S l ++ S [c] = S (l ++ [c]) := uB (by rw [L_append]; rfl)
theorem D8 (a : ByteArray) (ha : a.size ≤ 1000) (b : Int) (h0 : 0 ≤ b) (h1 : b ≤ 255) (x : List S41) (hx : x.length ≤ 100000)
 (hz : ∃ v : List S41 × Int × Int, EvTo (fun k => parse_Text.f k (txt a (b.toNat % 20))) v ∧ ((v.2.1 = 0 ∧ v.1 = x) ∨ (v.2.1 ≠ 0 ∧ EvTo (fun k => ah.f k a) false))) :
 ∀ (m i : Nat), b.toNat % 20 = m + i → EvTo (fun k => aI.l0 k a b HB x (S (List.replicate i 40)) (S (List.replicate i 41)) (i : Int)) true := by
 intro m
 have hH : (⟨#[109, 111, 100, 117, 108, 101, 32, 109, 32, 49, 59, 32, 102, 110, 32, 102, 40, 41, 32, 123, 32, 114, 101, 116, 117, 114, 110, 32]⟩ : ByteArray).size = 28 := rfl
 have hH' : HB.size = 28 := rfl
 have hrs : ∀ (i : Nat) (c : UInt8), (S (List.replicate i c)).size = i := fun i c => by rw [ni, List.length_replicate]
 induction m with
 | zero =>
  intro i hi
  refine EvTo.step (fun k => by rw [aI.l0]) ?_
  rw [Dn b h0 h1]
  refine EvTo.neg (by omega) ?_
  refine EvTo.pos (by rw [hrs]; omega) (EvTo.pos (by simp only [sizes, hrs]; omega) (EvTo.pos (by simp only [sizes, hrs]; omega) (EvTo.pos (by simp only [sizes, hrs]; omega) ?_)))
  obtain ⟨v, hv, hc⟩ := hz
  rw [hi, Nat.zero_add] at hv
  refine EvTo.bind hv ?_
  rcases hc with ⟨c1, c2⟩ | ⟨c1, c2⟩
  ·refine EvTo.pos c1 ?_
   rw [c2]
   exact EvTo.bind (Same_self x hx) (EvTo.pos rfl known_B)
  exact EvTo.neg c1 (EvTo.bind c2 (EvTo.neg (by simp) known_B))
 | succ m ih =>
  intro i hi
  refine EvTo.step (fun k => by rw [aI.l0]) ?_
  rw [Dn b h0 h1]
  refine EvTo.pos (by omega) (EvTo.pos (by rw [hrs]; omega) (EvTo.pos (by rw [hrs]; omega) ?_))
  have e1 : S (List.replicate i 40) ++ (⟨#[40]⟩ : ByteArray) = S (List.replicate (i + 1) 40) := by rw [List.replicate_succ']; exact Hr _ 40
  have e2 : S (List.replicate i 41) ++ (⟨#[41]⟩ : ByteArray) = S (List.replicate (i + 1) 41) := by rw [List.replicate_succ']; exact Hr _ 41
  rw [e1, e2, Tree.inc i (by omega)]
  exact ih (i + 1) (by omega)
theorem Dl (a : ByteArray) : txt a 0 = (HB ++ a) ++ TBy := uB (by
 rw [BG, L_append, L_append, List.append_assoc]; rfl)
theorem yX : aI.Pure := by
 intro a0 a1 s0 hwf
 refine EvTo.one (F := fun k => aI.f k a0 a1) ?_
 unfold aI.f
 by_cases h : (a0.size : Int) > 1000
 ·exact EvTo.pos h known_B
 have ha : a0.size ≤ 1000 := by omega
 have hb : 0 ≤ a1 ∧ a1 ≤ 255 := by
  simp only [Lit.wf, Bool.and_eq_true, decide_eq_true_eq] at hwf
  exact ⟨hwf.1, hwf.2⟩
 have hH : (⟨#[109, 111, 100, 117, 108, 101, 32, 109, 32, 49, 59, 32, 102, 110, 32, 102, 40, 41, 32, 123, 32, 114, 101, 116, 117, 114, 110, 32]⟩ : ByteArray).size = 28 := rfl
 obtain ⟨n0, hr⟩ := rounds 3000
 have hr1 := hr (n0 + 3000) (by omega)
 have hr2 := hr (n0 + 3000 + 200) (by omega)
 generalize n0 + 3000 = n at hr1 hr2
 have hn : 3000 ≤ n ∨ True := Or.inr trivial
 obtain ⟨n1, hn1, hr1, hr2⟩ : ∃ n, 3000 ≤ n ∧ Rnd n ∧ Rnd (n + 200) := ⟨n0 + 3000, by omega, hr _ (by omega), hr _ (by omega)⟩
 obtain ⟨v, hv, hu⟩ := text_V hr1 (txt a0 0) (by rw [xJ]; omega)
 refine EvTo.neg h (EvTo.pos (by omega) (EvTo.pos (by simp only [sizes]; omega) ?_))
 rw [← Dl]
 refine EvTo.bind hv ?_
 by_cases c : v.2.1 = 0
 ·obtain ⟨us, u1, u2, u3⟩ := hu c
  refine EvTo.pos c ?_
  refine D8 a0 ha a1 hb.1 hb.2 v.1 (by have := (checkS_ok u3).1; omega) ?_ (a1.toNat % 20) 0 (by omega)
  by_cases k0 : a1.toNat % 20 = 0
  ·rw [k0]
   exact ⟨v, hv, Or.inl ⟨c, rfl⟩⟩
  exact D9 hr1 hr2 hn1 (by omega) a0 ha (a1.toNat % 20) (by omega) (by omega) us v.1 u1 u2 u3
 exact EvTo.neg c known_B
end Go.Proofs.Ytendgafpkeadhaa.Par
namespace Go.Proofs.Ytendgafpkeadhaa.Pure
theorem ParseRounds : Q.aI.Pure := Par.yX
end Go.Proofs.Ytendgafpkeadhaa.Pure
end
