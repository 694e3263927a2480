/- Walks over functions of the program, words for them, and what the functions come to; of each text only what this claim uses; no condition. -/
import Derived.Test.YtkbhkonenkgfoaaGreatZPT0
import Derived.Test.YtkbhkonenkgfoaaGreatZPT4
import Derived.Test.YtkbhkonenkgfoaaGreatZPT9
import Derived.Test.YtkbhkonenkgfoaaGreatZPT12
import Derived.Test.YtkbhkonenkgfoaaGreatZPT13
import Derived.Test.YtkbhkonenkgfoaaGreatZPT14
import Derived.Test.YtkbhkonenkgfoaaGreatZPT15
import Derived.Test.YtkbhkonenkgfoaaGreatZPT16
import Derived.IntWalk
import Derived.Laws.Shifts
section
set_option linter.unusedVariables false
set_option linter.unusedSimpArgs false
namespace Go.Proofs.YtkbhkonenkgfoaaGreat.Par
open Go Go.RowKit Go.Proofs.YtkbhkonenkgfoaaGreatW.PrintWords Go.Proofs.YtkbhkonenkgfoaaGreat.Q Go.Proofs.YtkbhkonenkgfoaaGreat.Lex Go.Proofs.YtkbhkonenkgfoaaGreat.Tree
variable {ts : List S37} {S : PF} {FF : Nat → Fam}
theorem Jg (hts : ts.length ≤ 40000) (q : Nat) (hq : q ≤ ts.length) : aj ts q 2 sz (fun k => gu.f k ts (q : Int) false) (BR (ts.drop q)) := by
 unfold gu.f BR
 have nB : ∀ (p : Int) (nm tx : ByteArray) (n : Int), ah (fun k => (aW.f k 2 0 nm n tx ([] : List (List S29))).bind fun t269 => some (t269, p, true)) (nd 2 nm n tx [], p, true) := fun p nm tx n => jB (by simp) (by simp) ah.now
 have sB : ∀ (nm tx : ByteArray) (n : Int), sz (nd 2 nm n tx []) = 2 := fun nm tx n => rfl
 refine aj.need 1 hq hts (by omega) (fun a h1 _ => ?_) ?_
 ·dsimp only
  refine aj.must ⟨#[46]⟩ [46] (fD _ _ rfl) (by simp) h1 hts (by omega) (fun h2 => ?_) ?_
  ·dsimp only
   refine aj.need 1 h2 hts (by omega) (fun b h3 _ => ?_) ?_
   ·dsimp only
    refine aj.must ⟨#[47]⟩ [47] (fD _ _ rfl) (by simp) h3 hts (by omega) (fun h4 => ?_) ?_
    ·dsimp only
     refine aj.need 2 h4 hts (by omega) (fun c h5 _ => ?_) ?_
     ·dsimp only
      refine aj.must ⟨#[59]⟩ [59] (fD _ _ rfl) (by simp) h5 hts (by omega) (fun h6 => ?_) ?_
      ·dsimp only
       exact aj.node (by omega) h6 hts (by simp) Z14
      exact ⟨_, by rw [sB]; omega, nB _ _ _ _⟩
     dsimp only
     rw [jI _ [59] rfl (by simp)]
     exact ⟨_, by rw [sB]; omega, nB _ _ _ _⟩
    dsimp only
    simp only [lW, Option.bind_some]
    rw [jI _ [59] rfl (by simp)]
    exact ⟨_, by rw [sB]; omega, nB _ _ _ _⟩
   dsimp only
   rw [jI _ [47] rfl (by simp)]
   simp only [lW, Option.bind_some]
   rw [jI _ [59] rfl (by simp)]
   exact ⟨_, by rw [sB]; omega, nB _ _ _ _⟩
  dsimp only
  simp only [lW, Option.bind_some]
  rw [jI _ [47] rfl (by simp)]
  simp only [lW, Option.bind_some]
  rw [jI _ [59] rfl (by simp)]
  exact ⟨_, by rw [sB]; omega, nB _ _ _ _⟩
 dsimp only
 rw [jI _ [46] rfl (by simp)]
 simp only [lW, Option.bind_some]
 rw [jI _ [47] rfl (by simp)]
 simp only [lW, Option.bind_some]
 rw [jI _ [59] rfl (by simp)]
 exact ⟨_, by rw [sB]; omega, nB _ _ _ _⟩
theorem Aj (acc : List (List S29)) (q : Int) (nm : ByteArray) (v : Int) (h1 : acc.length ≤ 100000) (h2 : acc.flatten.length ≤ 1000000) : ah (fun k => aX.l1 (FF k) k acc ts q true 1 0 nm v E) (nd 1 nm v E acc, q, true) := by
 refine ah.step (fun k => by rw [aX.l1, takeB _ [102, 110] rfl (by simp)]) ?_
 simp only [Option.bind_some]
 exact ah.neg (by simp) (jB (by omega) (by omega) ah.now)
theorem uJ (acc : List (List S29)) (q : Int) (nm : ByteArray) (v : Int) (h1 : acc.length ≤ 100000) (h2 : acc.flatten.length ≤ 1000000) : ah (fun k => aX.l0 (FF k) k acc ts q true 1 0 nm v E) (nd 1 nm v E acc, q, true) := by
 refine ah.step (fun k => by rw [aX.l0, takeB _ [117, 115, 101] rfl (by simp)]) ?_
 simp only [Option.bind_some]
 exact ah.neg (by simp) (Aj (FF := fun k => FF (k + 1)) acc q nm v h1 h2)
theorem IQ (hts : ts.length ≤ 40000) (N : Nat) (nm : ByteArray) (v : Int) : ∀ (n : Nat) (FF : Nat → Fam) (I : Ih S FF) (H : OkB FF) (acc : List (List S29)) (q : Nat), q ≤ ts.length → acc.flatten.length + acc.length + 2 ≤ 2 * (q - 0) →
 aj ts 0 3 sz (fun k => aX.l1 (FF k) k acc ts (q : Int) false 1 0 nm v E) (uk S N nm v n acc (ts.drop q)) := by
 intro n
 induction n with
 | zero => intro FF I H acc q hq hs; trivial
 | succ n ih =>
  intro FF I H acc q hq hs
  unfold uk
  refine aj.step (fun k => by rw [aX.l1]) ?_
  refine aj.xx _ _ (fD _ _ rfl) (by simp) hq hts (fun h1 => ?_) (fun hn => ?_)
  ·refine aj.pos rfl ?_
   dsimp only
   refine aj.need 1 h1 hts (by omega) (fun t h2 _ => ?_) ?_
   ·dsimp only
    refine aj.bind (vJ hts I.shift H.shift N 3 t.f1 _ h2) (fun f p g1 g2 g3 => ?_) (fun f p g1 g2 g3 => ?_)
    ·unfold sz at g3
     dsimp only
     refine aj.pos (by omega) ?_
     exact ih (fun k => FF (k + 1)) I.shift H.shift (acc ++ [f]) p g2 Z38
    unfold sz at g3
    dsimp only
    exact ⟨nd 1 nm v E (acc ++ [f]), by omega, by unfold sz; rw [dQ, ik]; omega, ah.pos (by omega) (Aj (FF := fun k => FF (k + 1)) _ _ nm v (by rw [jC]; omega) (by rw [ik]; omega))⟩
   dsimp only
   have hl : (nd 3 E 0 E [nd 5 E 0 E []]).length = 2 := rfl
   exact ⟨nd 1 nm v E (acc ++ [nd 3 E 0 E [nd 5 E 0 E []]]), by unfold sz; rw [dQ, ik, hl]; omega, ah.bind (xN 3 E) (ah.pos (by omega) (Aj (FF := fun k => FF (k + 1)) _ _ nm v (by rw [jC]; omega) (by rw [ik, hl]; omega)))⟩
  refine aj.neg (by simp) ?_
  exact aj.node (q := 0) (by omega) hq hts (by omega) (by omega)
theorem HY (hts : ts.length ≤ 40000) (N : Nat) (nm : ByteArray) (v : Int) : ∀ (n : Nat) (FF : Nat → Fam) (I : Ih S FF) (H : OkB FF) (acc : List (List S29)) (q : Nat), q ≤ ts.length → acc.flatten.length + acc.length + 2 ≤ 2 * (q - 0) →
 aj ts 0 3 sz (fun k => aX.l0 (FF k) k acc ts (q : Int) false 1 0 nm v E) (tN S N nm v n acc (ts.drop q)) := by
 intro n
 induction n with
 | zero => intro FF I H acc q hq hs; trivial
 | succ n ih =>
  intro FF I H acc q hq hs
  unfold tN
  refine aj.step (fun k => by rw [aX.l0]) ?_
  refine aj.xx _ _ (fD _ _ rfl) (by simp) hq hts (fun h1 => ?_) (fun hn => ?_)
  ·refine aj.pos rfl ?_
   dsimp only
   refine aj.bind (Jg hts _ h1) (fun f p g1 g2 g3 => ?_) (fun f p g1 g2 g3 => ?_)
   ·unfold sz at g3
    dsimp only
    refine aj.pos (by omega) ?_
    exact ih (fun k => FF (k + 1)) I.shift H.shift (acc ++ [f]) p g2 Z38
   unfold sz at g3
   dsimp only
   exact ⟨nd 1 nm v E (acc ++ [f]), by omega, by unfold sz; rw [dQ, ik]; omega, ah.pos (by omega) (uJ (FF := fun k => FF (k + 1)) _ _ nm v (by rw [jC]; omega) (by rw [ik]; omega))⟩
  refine aj.neg (by simp) ?_
  exact IQ hts N nm v N (fun k => FF (k + 1)) I.shift H.shift acc q hq hs
theorem Em (hts : ts.length ≤ 40000) (I : Ih S FF) (H : OkB FF) (N : Nat) :
 aj ts 0 3 sz (fun k => aX.f (FF k) k ts 0 false) (kG S N ts) := by
 have sB : ∀ (nm : ByteArray) (v : Int), sz (nd 1 nm v E []) = 2 := fun nm v => rfl
 have key : aj ts 0 3 sz (fun k => aX.f (FF k) k ts ((0 : Nat) : Int) false) (kG S N (ts.drop 0)) := by
  unfold aX.f kG
  refine aj.must ⟨#[109, 111, 100, 117, 108, 101]⟩ [109, 111, 100, 117, 108, 101] (fD _ _ rfl) (by simp) (by omega) hts (by omega) (fun h1 => ?_) ?_
  ·dsimp only
   refine aj.need 1 h1 hts (by omega) (fun t h2 _ => ?_) ?_
   ·dsimp only
    refine aj.need 2 h2 hts (by omega) (fun u h3 _ => ?_) ?_
    ·dsimp only
     refine aj.must ⟨#[59]⟩ [59] (fD _ _ rfl) (by simp) h3 hts (by omega) (fun h4 => ?_) ?_
     ·dsimp only
      exact HY hts N t.f1 u.f2 N FF I H [] _ h4 Z14
     dsimp only
     exact ⟨_, by rw [sB]; omega, uJ [] _ _ _ (by simp) (by simp)⟩
    dsimp only
    rw [jI _ [59] rfl (by simp)]
    simp only [Option.bind_some]
    exact ⟨_, by rw [sB]; omega, uJ [] _ _ _ (by simp) (by simp)⟩
   dsimp only
   simp only [lW, Option.bind_some]
   rw [jI _ [59] rfl (by simp)]
   simp only [Option.bind_some]
   exact ⟨_, by rw [sB]; omega, uJ [] _ _ _ (by simp) (by simp)⟩
  dsimp only
  simp only [lW, Option.bind_some]
  rw [jI _ [59] rfl (by simp)]
  simp only [Option.bind_some]
  exact ⟨_, by rw [sB]; omega, uJ [] _ _ _ (by simp) (by simp)⟩
 exact key
end Go.Proofs.YtkbhkonenkgfoaaGreat.Par
end
section
set_option linter.unusedVariables false
set_option linter.unusedSimpArgs false
namespace Go.Proofs.YtkbhkonenkgfoaaGreat.Par
open Go Go.RowKit Go.Proofs.YtkbhkonenkgfoaaGreatW.PrintWords Go.Proofs.YtkbhkonenkgfoaaGreat.Q Go.Proofs.YtkbhkonenkgfoaaGreat.Lex Go.Proofs.YtkbhkonenkgfoaaGreat.Tree
def TB (l : List S37) : Prop := ∀ t ∈ l, t.f1.size ≤ 3000 ∧ t.f2 ≤ 9223372036854775807
def KT (e : List S29) : Prop := (∃ D, Fo e 1 D) ∧ ∀ x ∈ e, (x.f2.size ≤ 3000 ∧ x.f4.size ≤ 3000) ∧ x.f3 ≤ 9223372036854775807
def KN (e : List S29) : Prop := KT e ∧ ∀ x t, e = x :: t → x.f0 = 26 → x.f1 = 2
def KL (ks : List (List S29)) : Prop := ∀ e ∈ ks, KT e
/-- An answer: what is read is so, and fewer tokens are left than so many. -/
def Fn {α : Type} (K : α → Prop) (b : Nat) : R α → Prop
 | .ok (x, r) => r.length < b ∧ TB r ∧ K x
 | .error (some _) => True
 | .error none => False
theorem Fn.bind {α β : Type} {p : Ps α} {f : α → Ps β} {l : List S37} {b c : Nat} {K : α → Prop} {K' : β → Prop} (h : Fn K b (p l)) (g : ∀ x r, r.length < b → TB r → K x → Fn K' c (f x r)) : Fn K' c (bnd p f l) := by
 unfold bnd
 match hp : p l, h with
 | .ok (x, r), ⟨h1, h2, h3⟩ => exact g x r h1 h2 h3
 | .error (some r), _ => trivial
theorem Fn.weak {α : Type} {K K' : α → Prop} {b c : Nat} {r : R α} (h : Fn K b r) (hb : b ≤ c) (hk : ∀ x, K x → K' x) : Fn K' c r := by
 match r, h with
 | .ok (x, r), ⟨h1, h2, h3⟩ => exact ⟨by omega, h2, hk x h3⟩
 | .error (some r), _ => trivial
theorem TB.tail {t : S37} {r : List S37} (h : TB (t :: r)) : TB r := fun x hx => h x (List.mem_cons_of_mem _ hx)
theorem jX (w : List UInt8) (hw : w ≠ []) (l : List S37) (h : TB l) : Fn (fun _ => True) l.length (must w l) := by
 unfold must
 by_cases c : wd l = w
 ·rw [if_pos c]
  cases l with
  | nil => exact absurd (xu.symm.trans c).symm hw
  | cons t r => exact ⟨by simp, h.tail, trivial⟩
 rw [if_neg c]; trivial
theorem oG (k : Int) (l : List S37) (h : TB l) : Fn (fun t => t.f1.size ≤ 3000 ∧ t.f2 ≤ 9223372036854775807) l.length (need k l) := by
 cases l with
 | nil => trivial
 | cons t r =>
  unfold need
  by_cases c : t.f0 = k
  ·simp only [if_pos c]; exact ⟨by simp, h.tail, h t List.mem_cons_self⟩
  simp only [if_neg c]; trivial
theorem nV (l : List S37) (h : TB l) (w : List UInt8) (c : wd l = w) (hw : w ≠ []) : Fn (fun _ => True) l.length (tk l) := by
 cases l with
 | nil => exact absurd (xu.symm.trans c).symm hw
 | cons t r => exact ⟨by simp, h.tail, trivial⟩
theorem Fo.app {u v : List S29} {a b D1 D2 : Nat} (h : Fo u a D1) (g : Fo v b D2) : ∃ D, Fo (u ++ v) (a + b) D := by
 induction h with
 | nil => exact ⟨D2, by rw [List.nil_append, Nat.zero_add]; exact g⟩
 | cons x t v' w D1 D2' hx ht hv ih1 ih2 =>
  obtain ⟨D, hD⟩ := ih2
  refine ⟨max (1 + D1) D, ?_⟩
  have := Fo.cons x t _ _ _ _ hx ht hD
  rw [List.cons_append, List.append_assoc, Nat.add_right_comm]
  exact this
theorem KL.fo : ∀ {ks : List (List S29)}, KL ks → ∃ D, Fo ks.flatten ks.length D
 | [], _ => ⟨0, Fo.nil⟩
 | e :: ks, h => by
  obtain ⟨⟨D1, h1⟩, _⟩ := h e List.mem_cons_self
  obtain ⟨D2, h2⟩ := KL.fo (ks := ks) (fun x hx => h x (List.mem_cons_of_mem _ hx))
  obtain ⟨D, hD⟩ := Fo.app h1 h2
  exact ⟨D, by rw [List.flatten_cons, List.length_cons, Nat.add_comm]; exact hD⟩
theorem ng {k : Int} {nm : ByteArray} {n : Int} {tx : ByteArray} {ks : List (List S29)} (h : KL ks) (hnm : nm.size ≤ 3000) (htx : tx.size ≤ 3000) (h26 : k ≠ 26 ∨ ks.length = 2) (h3 : n ≤ 9223372036854775807 := by omega) : KN (nd k nm n tx ks) := by
 obtain ⟨D, hD⟩ := h.fo
 refine ⟨⟨⟨max (1 + D) 0, ?_⟩, ?_⟩, ?_⟩
 ·have := Fo.cons (⟨k, (ks.length : Int), nm, n, tx⟩ : S29) ks.flatten [] 0 D 0 (by simp) (by simpa using hD) Fo.nil
  rw [List.append_nil] at this
  exact this
 ·intro x hx
  rcases List.mem_cons.1 hx with rfl | hx
  ·exact ⟨⟨hnm, htx⟩, h3⟩
  obtain ⟨e, he, hx⟩ := List.mem_flatten.1 hx
  exact (h e he).2 x hx
 intro x t e hk
 obtain ⟨rfl, _⟩ := List.cons.inj e
 rcases h26 with h | h
 ·exact absurd hk h
 show ((ks.length : Nat) : Int) = 2
 omega
theorem KL.nil : KL [] := fun e he => by cases he
theorem KL.one {e : List S29} (h : KT e) : KL [e] := fun x hx => by rw [List.mem_singleton.1 hx]; exact h
theorem KL.cons {e : List S29} {ks : List (List S29)} (h : KT e) (g : KL ks) : KL (e :: ks) := fun x hx => by
 rcases List.mem_cons.1 hx with rfl | hx
 ·exact h
 exact g x hx
theorem KL.app {ks us : List (List S29)} (g : KL ks) (h : KL us) : KL (ks ++ us) := fun x hx => by
 rcases List.mem_append.1 hx with hx | hx
 ·exact g x hx
 exact h x hx
theorem gK : E.size ≤ 3000 := by show (0 : Nat) ≤ 3000; omega
theorem AY {l rest : List S29} {x : S29} {t : List S29} {p D1 : Nat} (hx : 0 ≤ x.f1) (ht : Fo t x.f1.toNat D1) (hd : l.drop p = (x :: t) ++ rest) (hn : ∀ y ∈ x :: t, ¬ ((l.length : Int) < y.f1)) : oV l (p : Int) = x :: t := by
 unfold oV
 rw [uA hx ht hd hn, if_neg (by omega), Int.toNat_natCast, Int.toNat_natCast]
 have hlen : p + (x :: t).length ≤ l.length := by
  have := congrArg List.length hd
  rw [List.length_drop, List.length_append] at this
  simp only [List.length_cons] at this ⊢
  omega
 rw [D6 hlen, hd, List.take_left]
theorem Gx {e : List S29} (h : KN e) {x : S29} {t : List S29} (he : e = x :: t) (hk : x.f0 = 26) : ∃ a b, rO e = some (a, b) ∧ KT a ∧ KT b := by
 obtain ⟨⟨⟨D, hF⟩, hs⟩, h26⟩ := h
 have h2 := h26 x t he hk
 subst he
 obtain ⟨x', t', D1, e', _, hx, ht⟩ := hF.one
 obtain ⟨rfl, rfl⟩ := List.cons.inj e'
 have ht' : Fo t (1 + 1) D1 := by rw [h2] at ht; exact ht
 obtain ⟨u1, u2, D2, D3, rfl, hu1, hu2, _⟩ := Fo.split 1 1 _ _ ht'
 obtain ⟨x1, t1, E1, rfl, _, hx1, ht1⟩ := hu1.one
 obtain ⟨x2, t2, E2, rfl, _, hx2, ht2⟩ := hu2.one
 have hn : ∀ y ∈ x :: ((x1 :: t1) ++ (x2 :: t2)), ¬ (((x :: ((x1 :: t1) ++ (x2 :: t2))).length : Int) < y.f1) := fun y hy => by have := hF.kids y hy; omega
 have m1 : ∀ y ∈ x1 :: t1, y ∈ x :: ((x1 :: t1) ++ (x2 :: t2)) := fun y hy => List.mem_cons_of_mem _ (List.mem_append.2 (Or.inl hy))
 have m2 : ∀ y ∈ x2 :: t2, y ∈ x :: ((x1 :: t1) ++ (x2 :: t2)) := fun y hy => List.mem_cons_of_mem _ (List.mem_append.2 (Or.inr hy))
 have d1 : (x :: ((x1 :: t1) ++ (x2 :: t2))).drop 1 = (x1 :: t1) ++ (x2 :: t2) := rfl
 have d2 : (x :: ((x1 :: t1) ++ (x2 :: t2))).drop (1 + (x1 :: t1).length) = (x2 :: t2) ++ [] := by
  rw [Nat.add_comm, List.drop_succ_cons, List.drop_left, List.append_nil]
 have e0 : jV (x :: ((x1 :: t1) ++ (x2 :: t2))) ((0 : Nat) : Int) = _ := uA (rest := []) hx ht (by rw [List.drop_zero, List.append_nil]) hn
 have e1 := uA (p := 1) hx1 ht1 d1 (fun y hy => hn y (m1 y hy))
 have s1 := AY (p := 1) hx1 ht1 d1 (fun y hy => hn y (m1 y hy))
 have s2 := AY hx2 ht2 d2 (fun y hy => hn y (m2 y hy))
 refine ⟨x1 :: t1, x2 :: t2, ?_, ⟨⟨_, hu1⟩, fun y hy => hs y (m1 y hy)⟩, ⟨⟨_, hu2⟩, fun y hy => hs y (m2 y hy)⟩⟩
 have hk : qf (x :: ((x1 :: t1) ++ (x2 :: t2))) 0 = [((1 : Nat) : Int), ((1 + (x1 :: t1).length : Nat) : Int)] := by
  unfold qf
  rw [if_neg (by rw [show (0 : Int) = ((0 : Nat) : Int) from rfl, e0]; omega)]
  rw [show (ax (x :: ((x1 :: t1) ++ (x2 :: t2))) 0).f1 = x.f1 from rfl, h2]
  show [(0 + 1 : Int), jV _ (0 + 1)] = _
  rw [show (0 + 1 : Int) = ((1 : Nat) : Int) from rfl, e1]
 unfold rO
 rw [hk]
 simp only [s1, s2]
end Go.Proofs.YtkbhkonenkgfoaaGreat.Par
end
section
set_option linter.unusedVariables false
set_option linter.unusedSimpArgs false
namespace Go.Proofs.YtkbhkonenkgfoaaGreat.Par
open Go Go.RowKit Go.Proofs.YtkbhkonenkgfoaaGreatW.PrintWords Go.Proofs.YtkbhkonenkgfoaaGreat.Q Go.Proofs.YtkbhkonenkgfoaaGreat.Lex Go.Proofs.YtkbhkonenkgfoaaGreat.Tree
/-- The family comes to answers, of fewer tokens than so many. -/
structure Tot (S : PF) (m : Nat) : Prop where
 expr : ∀ l, l.length < m → TB l → Fn KN l.length (S.expr l)
 block : ∀ l, l.length < m → TB l → Fn KN l.length (S.block l)
 bound : ∀ a : Int, 1 ≤ a → a ≤ 6 → ∀ l, l.length < m → TB l → Fn KN l.length (S.bound a l)
 unary : ∀ l, l.length < m → TB l → Fn KN l.length (S.unary l)
variable {S : PF} {m : Nat}
theorem lU {α : Type} {K : α → Prop} {x : α} {l : List S37} {b : Nat} (h1 : l.length < b) (h2 : TB l) (h3 : K x) : Fn K b (ret x l) := ⟨h1, h2, h3⟩
theorem qo (T : Tot S m) (k : Int) (nm : ByteArray) (hk : k ≠ 26) (hn : nm.size ≤ 3000) (l : List S37) (hl : l.length < m) (h : TB l) : Fn KN l.length (lG S k nm l) :=
 Fn.bind (T.expr l hl h) fun e r h1 h2 h3 => Fn.bind (jX [59] (by simp) r h2) fun _ r2 g1 g2 _ => lU (by omega) g2 (ng (KL.one h3.1) hn gK (Or.inl hk))
theorem AA (k : Int) (hk : k ≠ 26) (l : List S37) (h : TB l) : Fn KN l.length (sD k l) :=
 Fn.bind (jX [59] (by simp) l h) fun _ r2 g1 g2 _ => lU g1 g2 (ng KL.nil gK gK (Or.inl hk))
theorem Gg (T : Tot S m) (l : List S37) (hl : l.length < m) (h : TB l) : Fn KN l.length (uX S l) := by
 refine Fn.bind (T.expr l hl h) fun e r h1 h2 h3 => ?_
 unfold sQ
 by_cases c : wd r ≠ [61]
 ·rw [if_pos c]
  exact Fn.bind (jX [59] (by simp) r h2) fun _ r2 g1 g2 _ => lU (by omega) g2 (ng (KL.one h3.1) gK gK (Or.inl (by omega)))
 rw [if_neg c]
 obtain ⟨D, hD⟩ := h3.1.1
 obtain ⟨x, t, D1, rfl, _⟩ := hD.one
 have hx := h3.1.2 x List.mem_cons_self
 simp only
 by_cases c1 : x.f0 = 21
 ·rw [if_pos c1]
  exact Fn.bind (jX [61] (by simp) r h2) fun _ r2 g1 g2 _ => (qo T 7 x.f2 (by omega) hx.1.1 r2 (by omega) g2).weak (by omega) (fun _ h => h)
 rw [if_neg c1]
 by_cases c2 : x.f0 = 26
 ·rw [if_pos c2]
  obtain ⟨a, b, e, ha, hb⟩ := Gx h3 rfl c2
  unfold xy
  rw [e]
  exact Fn.bind (jX [61] (by simp) r h2) fun _ r2 g1 g2 _ => Fn.bind (T.expr r2 (by omega) g2) fun v r3 f1 f2 f3 => Fn.bind (jX [59] (by simp) r3 f2) fun _ r4 e1 e2 _ =>
   lU (by omega) e2 (ng (KL.cons ha (KL.cons hb (KL.one f3.1))) gK gK (Or.inl (by omega)))
 rw [if_neg c2]
 trivial
theorem jU {α : Type} {K : α → Prop} {b : Nat} {c : Prop} [Decidable c] {r1 r2 : R α} (h1 : c → Fn K b r1) (h2 : ¬c → Fn K b r2) : Fn K b (if c then r1 else r2) := by
 by_cases h : c
 ·rw [if_pos h]; exact h1 h
 rw [if_neg h]; exact h2 h
theorem Ii (T : Tot S m) (l : List S37) (hl : l.length < m) (h : TB l) : Fn KN l.length (kZ S l) := by
 unfold kZ
 refine jU (fun c => Fn.bind (nV l h _ c (by simp)) fun _ r h1 h2 _ => ?_) (fun _ => ?_)
 ·exact Fn.bind (oG 1 r h2) fun t r2 g1 g2 g3 => Fn.bind (jX [61] (by simp) r2 g2) fun _ r3 f1 f2 _ => (qo T 6 t.f1 (by omega) g3.1 r3 (by omega) f2).weak (by omega) (fun _ h => h)
 refine jU (fun c => Fn.bind (nV l h _ c (by simp)) fun _ r h1 h2 _ => ?_) (fun _ => ?_)
 ·refine Fn.bind (T.expr r (by omega) h2) fun e r2 g1 g2 g3 => Fn.bind (T.block r2 (by omega) g2) fun b r3 f1 f2 f3 => ?_
  refine jU (fun c => Fn.bind (nV r3 f2 _ c (by simp)) fun _ r4 e1 e2 _ => ?_) (fun _ => ?_)
  ·exact Fn.bind (T.block r4 (by omega) e2) fun b2 r5 d1 d2 d3 => lU (by omega) d2 (ng (KL.cons g3.1 (KL.cons f3.1 (KL.one d3.1))) gK gK (Or.inl (by omega)))
  exact ⟨by omega, f2, ng (KL.cons g3.1 (KL.one f3.1)) gK gK (Or.inl (by omega))⟩
 refine jU (fun c => Fn.bind (nV l h _ c (by simp)) fun _ r h1 h2 _ => ?_) (fun _ => ?_)
 ·exact Fn.bind (T.expr r (by omega) h2) fun e r2 g1 g2 g3 => Fn.bind (T.block r2 (by omega) g2) fun b r3 f1 f2 f3 => lU (by omega) f2 (ng (KL.cons g3.1 (KL.one f3.1)) gK gK (Or.inl (by omega)))
 refine jU (fun c => Fn.bind (nV l h _ c (by simp)) fun _ r h1 h2 _ => (AA 11 (by omega) r h2).weak (by omega) (fun _ h => h)) (fun _ => ?_)
 refine jU (fun c => Fn.bind (nV l h _ c (by simp)) fun _ r h1 h2 _ => (AA 12 (by omega) r h2).weak (by omega) (fun _ h => h)) (fun _ => ?_)
 refine jU (fun c => Fn.bind (nV l h _ c (by simp)) fun _ r h1 h2 _ => (AA 16 (by omega) r h2).weak (by omega) (fun _ h => h)) (fun _ => ?_)
 refine jU (fun c => Fn.bind (nV l h _ c (by simp)) fun _ r h1 h2 _ => (qo T 13 E (by omega) gK r (by omega) h2).weak (by omega) (fun _ h => h)) (fun _ => ?_)
 refine jU (fun c => Fn.bind (nV l h _ c (by simp)) fun _ r h1 h2 _ => (qo T 14 E (by omega) gK r (by omega) h2).weak (by omega) (fun _ h => h)) (fun _ => ?_)
 refine jU (fun c => Fn.bind (nV l h _ c (by simp)) fun _ r h1 h2 _ => (qo T 15 E (by omega) gK r (by omega) h2).weak (by omega) (fun _ h => h)) (fun _ => ?_)
 exact Gg T l hl h
theorem EK (T : Tot S m) (c : Nat) : ∀ (n : Nat) (acc : List (List S29)) (l : List S37), l.length < n → l.length < m → l.length < c → TB l → KL acc → Fn KN c (qp S n acc l) := by
 intro n
 induction n with
 | zero => intro acc l h1; omega
 | succ n ih =>
  intro acc l h1 h2 h3 h4 h5
  unfold qp
  refine jU (fun d => ?_) (fun d => ?_)
  ·exact Fn.bind (jX [125] (by simp) l h4) fun _ r g1 g2 _ => lU (by omega) g2 (ng h5 gK gK (Or.inl (by omega)))
  exact Fn.bind (Ii T l h2 h4) fun s r g1 g2 g3 => ih _ r (by omega) (by omega) (by omega) g2 (KL.app h5 (KL.one g3.1))
theorem BH (T : Tot S m) (N : Nat) (l : List S37) (hl : l.length ≤ m) (hN : l.length ≤ N) (h : TB l) : Fn KN l.length (pJ S N l) :=
 Fn.bind (jX [123] (by simp) l h) fun _ r g1 g2 _ => EK T _ N [] r (by omega) (by omega) g1 g2 KL.nil
theorem Gq {one : Ps (List S29)} (ho : ∀ l, l.length < m → TB l → Fn KT l.length (one l)) (c : Nat) : ∀ (n : Nat) (acc : List (List S29)) (l : List S37), l.length < n → l.length < m → l.length < c → TB l → KL acc → Fn KL c (mQ one n acc l) := by
 intro n
 induction n with
 | zero => intro acc l h1; omega
 | succ n ih =>
  intro acc l h1 h2 h3 h4 h5
  unfold mQ
  refine jU (fun d => ?_) (fun d => jU (fun _ => ?_) (fun _ => ?_))
  ·exact Fn.bind (jX [41] (by simp) l h4) fun _ r g1 g2 _ => lU (by omega) g2 h5
  ·exact Fn.bind (ho l h2 h4) fun s r g1 g2 g3 => ih _ r (by omega) (by omega) (by omega) g2 (KL.app h5 (KL.one g3))
  exact Fn.bind (jX [44] (by simp) l h4) fun _ r f1 f2 _ => Fn.bind (ho r (by omega) f2) fun s r g1 g2 g3 => ih _ r (by omega) (by omega) (by omega) g2 (KL.app h5 (KL.one g3))
theorem Ep {one : Ps (List S29)} (ho : ∀ l, l.length < m → TB l → Fn KT l.length (one l)) (N : Nat) (l : List S37) (hl : l.length ≤ m) (hN : l.length ≤ N) (h : TB l) : Fn KL l.length (Par.gz one N l) :=
 Fn.bind (jX [40] (by simp) l h) fun _ r g1 g2 _ => Gq ho _ N [] r (by omega) (by omega) g1 g2 KL.nil
theorem Gi (l : List S37) (h : TB l) : Fn KT l.length (lV l) :=
 Fn.bind (oG 1 l h) fun t r h1 h2 h3 => lU h1 h2 (ng KL.nil h3.1 gK (Or.inl (by omega))).1
theorem BB (T : Tot S m) (N : Nat) (l : List S37) (hl : l.length ≤ m) (hN : l.length ≤ N) (h : TB l) : Fn KL l.length (Par.gz S.expr N l) :=
 Ep (fun l a b => (T.expr l a b).weak (Nat.le_refl _) (fun _ h => h.1)) N l hl hN h
theorem vK (T : Tot S m) (N : Nat) (k : Int) (nm : ByteArray) (hk : k ≠ 26) (hn : nm.size ≤ 3000) (l : List S37) (hl : l.length ≤ m) (hN : l.length ≤ N) (h : TB l) : Fn KN l.length (lM S N k nm l) :=
 Fn.bind (Ep (fun l a b => Gi l b) N l hl hN h) fun ps r h1 h2 h3 => Fn.bind (BH T N r (by omega) (by omega) h2) fun b r2 g1 g2 g3 => lU (by omega) g2 (ng (KL.app h3 (KL.one g3.1)) hn gK (Or.inl hk))
theorem IC (T : Tot S m) (N : Nat) (l : List S37) (hl : l.length ≤ m) (hN : l.length ≤ N) (h : TB l) : Fn KN l.length (rM S N l) := by
 cases l with
 | nil => trivial
 | cons t r =>
  unfold rM
  refine jU (fun _ => ⟨by simp, h.tail, ng KL.nil gK gK (Or.inl (by omega)) (h t List.mem_cons_self).2⟩) (fun _ => jU (fun _ => ⟨by simp, h.tail, ng KL.nil gK (h t List.mem_cons_self).1 (Or.inl (by omega))⟩) (fun _ => ?_))
  unfold Bg
  refine Fn.bind (oG 1 _ h) fun t1 r1 h1 h2 h3 => jU (fun c => ?_) (fun c => ⟨h1, h2, ng KL.nil h3.1 gK (Or.inl (by omega))⟩)
  exact Fn.bind (nV r1 h2 _ c (by simp)) fun _ r2 g1 g2 _ => Fn.bind (oG 1 r2 g2) fun u r3 f1 f2 f3 => Fn.bind (BB T N r3 (by omega) (by omega) f2) fun ks r4 e1 e2 e3 => lU (by omega) e2 (ng e3 h3.1 f3.1 (Or.inl (by omega)))
theorem Iy (T : Tot S m) (N : Nat) (l : List S37) (hl : l.length ≤ m) (hN : l.length ≤ N) (h : TB l) : Fn KN l.length (uV S N l) := by
 unfold uV
 refine jU (fun c => Fn.bind (nV l h _ c (by simp)) fun _ r h1 h2 _ => lU (by omega) h2 (ng KL.nil gK gK (Or.inl (by omega)))) (fun _ => ?_)
 refine jU (fun c => Fn.bind (nV l h _ c (by simp)) fun _ r h1 h2 _ => lU (by omega) h2 (ng KL.nil gK gK (Or.inl (by omega)))) (fun _ => ?_)
 refine jU (fun c => Fn.bind (nV l h _ c (by simp)) fun _ r h1 h2 _ => Fn.bind (jX [125] (by simp) r h2) fun _ r2 g1 g2 _ => lU (by omega) g2 (ng KL.nil gK gK (Or.inl (by omega)))) (fun _ => ?_)
 refine jU (fun c => Fn.bind (nV l h _ c (by simp)) fun _ r h1 h2 _ => (vK T N 24 E (by omega) gK r (by omega) (by omega) h2).weak (by omega) (fun _ h => h)) (fun _ => ?_)
 refine jU (fun c => Fn.bind (nV l h _ c (by simp)) fun _ r h1 h2 _ => Fn.bind (T.expr r (by omega) h2) fun e r2 g1 g2 g3 => Fn.bind (jX [41] (by simp) r2 g2) fun _ r3 f1 f2 _ => lU (by omega) f2 g3) (fun _ => ?_)
 exact IC T N l hl hN h
theorem FZ (T : Tot S m) (N c : Nat) : ∀ (n : Nat) (e : List S29) (l : List S37), l.length < n → l.length ≤ m → l.length ≤ N → l.length < c → TB l → KN e → Fn KN c (rF S N n e l) := by
 intro n
 induction n with
 | zero => intro e l h1; omega
 | succ n ih =>
  intro e l h1 h2 h3 h4 h5 h6
  unfold rF
  refine jU (fun d => ?_) (fun d => jU (fun d2 => ?_) (fun _ => ⟨h4, h5, h6⟩))
  ·exact Fn.bind (BB T N l h2 h3 h5) fun ks r g1 g2 g3 => ih _ r (by omega) (by omega) (by omega) (by omega) g2 (ng (KL.app (KL.one h6.1) g3) gK gK (Or.inl (by omega)))
  exact Fn.bind (nV l h5 _ d2 (by simp)) fun _ r g1 g2 _ => Fn.bind (T.expr r (by omega) g2) fun i r2 f1 f2 f3 => Fn.bind (jX [93] (by simp) r2 f2) fun _ r3 e1 e2 _ =>
   ih _ r3 (by omega) (by omega) (by omega) (by omega) e2 (ng (KL.cons h6.1 (KL.one f3.1)) gK gK (Or.inr rfl))
theorem AQ (l : List S37) (h : TB l) : (wB l).size ≤ 3000 := by
 cases l with
 | nil => exact gK
 | cons t r =>
  unfold wB
  by_cases c : t.f0 = 5 ∨ t.f0 = 4
  ·simp only [if_pos c]; exact (h t List.mem_cons_self).1
  simp only [if_neg c]; exact gK
theorem AX (T : Tot S m) (N : Nat) (l : List S37) (hl : l.length ≤ m) (hN : l.length ≤ N) (h : TB l) : Fn KN l.length (oU S N l) := by
 unfold oU
 refine jU (fun c => Fn.bind (nV l h (wd l) rfl (by rcases c with c | c | c <;> rw [c] <;> simp)) fun _ r h1 h2 _ => ?_) (fun _ => ?_)
 ·exact Fn.bind (T.unary r (by omega) h2) fun e r2 g1 g2 g3 => lU (by omega) g2 (ng (KL.one g3.1) gK (AQ l h) (Or.inl (by omega)))
 refine jU (fun c => Fn.bind (nV l h _ c (by simp)) fun _ r h1 h2 _ => ?_) (fun _ => ?_)
 ·exact Fn.bind (T.unary r (by omega) h2) fun e r2 g1 g2 g3 => lU (by omega) g2 (ng (KL.one g3.1) gK gK (Or.inl (by omega)))
 exact Fn.bind (Iy T N l hl hN h) fun e r g1 g2 g3 => FZ T N _ N e r (by omega) (by omega) (by omega) g1 g2 g3
theorem EJ {S : PF} (a : Int) (ha : 1 ≤ a) (M c : Nat) (B : ∀ l, l.length ≤ M → TB l → Fn KN l.length (S.bound (a + 1) l)) : ∀ (n : Nat) (e : List S29) (l : List S37), l.length < n → l.length ≤ M → l.length < c → TB l → KN e → Fn KN c (pI S a n e l) := by
 intro n
 induction n with
 | zero => intro e l h1; omega
 | succ n ih =>
  intro e l h1 h2 h4 h5 h6
  unfold pI
  refine jU (fun d => Fn.bind (nV l h5 (wd l) rfl (fun w => by rw [w] at d; have : o8 [] = 0 := rfl; omega)) fun _ r g1 g2 _ => Fn.bind (B r (by omega) g2) fun e2 r2 f1 f2 f3 => ?_) (fun _ => ⟨h4, h5, h6⟩)
  have hk := ng (k := 27) (nm := E) (n := 0) (tx := wB l) (KL.cons h6.1 (KL.one f3.1)) gK (AQ l h5) (Or.inl (by omega))
  by_cases d3 : a = 3
  ·rw [if_pos d3]; exact lU (by omega) f2 hk
  rw [if_neg d3]; exact ih _ r2 (by omega) (by omega) (by omega) f2 hk
theorem GG {S : PF} (N M : Nat) (a : Int) (h1 : 1 ≤ a) (h6 : a ≠ 6) (hM : M ≤ N) (B : ∀ l, l.length ≤ M → TB l → Fn KN l.length (S.bound (a + 1) l)) (l : List S37) (hl : l.length ≤ M) (h : TB l) : Fn KN l.length (nP S N a l) := by
 unfold nP
 rw [if_neg h6]
 exact Fn.bind (B l hl h) fun e r g1 g2 g3 => EJ a h1 M _ B N e r (by omega) (by omega) g1 g2 g3
theorem tot : ∀ m : Nat, ∃ n0, ∀ n, n0 ≤ n → Tot (oC n) m := by
 intro m
 induction m with
 | zero => exact ⟨0, fun n _ => ⟨fun l h => by omega, fun l h => by omega, fun a _ _ l h => by omega, fun l h => by omega⟩⟩
 | succ m ih =>
  obtain ⟨n0, h0⟩ := ih
  have b6 : ∀ n, n0 + m + 1 ≤ n → ∀ l, l.length ≤ m → TB l → Fn KN l.length ((oC n).bound 6 l) := by
   intro n hn l hl h
   obtain ⟨k, rfl⟩ : ∃ k, n = k + 1 := ⟨n - 1, by omega⟩
   show Fn KN l.length (nP (oC k) k 6 l)
   unfold nP
   rw [if_pos rfl]
   exact AX (h0 k (by omega)) k l hl (by omega) h
  have st : ∀ (a : Int) (d : Nat), 1 ≤ a → a ≤ 5 → (∀ n, n0 + m + d ≤ n → ∀ l, l.length ≤ m → TB l → Fn KN l.length ((oC n).bound (a + 1) l)) → ∀ n, n0 + m + (d + 1) ≤ n → ∀ l, l.length ≤ m → TB l → Fn KN l.length ((oC n).bound a l) := by
   intro a d h1 h2 hB n hn l hl h
   obtain ⟨k, rfl⟩ : ∃ k, n = k + 1 := ⟨n - 1, by omega⟩
   show Fn KN l.length (nP (oC k) k a l)
   exact GG k m a h1 (by omega) (by omega) (hB k (by omega)) l hl h
  have b5 := st 5 1 (by omega) (by omega) b6
  have b4 := st 4 2 (by omega) (by omega) b5
  have b3 := st 3 3 (by omega) (by omega) b4
  have b2 := st 2 4 (by omega) (by omega) b3
  have b1 := st 1 5 (by omega) (by omega) b2
  refine ⟨n0 + m + 6, fun n hn => ⟨fun l hl h => ?_, fun l hl h => ?_, fun a h1 h2 l hl h => ?_, fun l hl h => ?_⟩⟩
  ·obtain ⟨k, rfl⟩ : ∃ k, n = k + 1 := ⟨n - 1, by omega⟩
   exact b1 (k + 1) hn l (by omega) h
  ·obtain ⟨k, rfl⟩ : ∃ k, n = k + 1 := ⟨n - 1, by omega⟩
   exact BH (h0 k (by omega)) k l (by omega) (by omega) h
  ·rcases (show a = 1 ∨ a = 2 ∨ a = 3 ∨ a = 4 ∨ a = 5 ∨ a = 6 by omega) with rfl | rfl | rfl | rfl | rfl | rfl
   ·exact b1 n (by omega) l (by omega) h
   ·exact b2 n (by omega) l (by omega) h
   ·exact b3 n (by omega) l (by omega) h
   ·exact b4 n (by omega) l (by omega) h
   ·exact b5 n (by omega) l (by omega) h
   exact b6 n (by omega) l (by omega) h
  obtain ⟨k, rfl⟩ : ∃ k, n = k + 1 := ⟨n - 1, by omega⟩
  exact AX (h0 k (by omega)) k l (by omega) (by omega) h
theorem Jh (l : List S37) (h : TB l) : Fn KN l.length (BR l) :=
 Fn.bind (oG 1 l h) fun a r h1 h2 h3 => Fn.bind (jX [46] (by simp) r h2) fun _ r g1 g2 _ => Fn.bind (oG 1 r g2) fun b r f1 f2 f3 => Fn.bind (jX [47] (by simp) r f2) fun _ r e1 e2 _ =>
  Fn.bind (oG 2 r e2) fun c r d1 d2 d3 => Fn.bind (jX [59] (by simp) r d2) fun _ r c1 c2 _ => lU (by omega) c2 (ng KL.nil h3.1 f3.1 (Or.inl (by omega)) d3.2)
theorem G5 (T : Tot S m) (N : Nat) (nm : ByteArray) (v : Int) (hn : nm.size ≤ 3000) (hv : v ≤ 9223372036854775807) (c : Nat) : ∀ (n : Nat) (acc : List (List S29)) (l : List S37), l.length < n → l.length ≤ m → l.length ≤ N → l.length < c → TB l → KL acc → Fn KN c (uk S N nm v n acc l) := by
 intro n
 induction n with
 | zero => intro e l h1; omega
 | succ n ih =>
  intro acc l h1 h2 h3 h4 h5 h6
  unfold uk
  refine jU (fun d => ?_) (fun _ => ⟨h4, h5, ng h6 hn gK (Or.inl (by omega))⟩)
  exact Fn.bind (nV l h5 _ d (by simp)) fun _ r g1 g2 _ => Fn.bind (oG 1 r g2) fun t r2 f1 f2 f3 => Fn.bind (vK T N 3 t.f1 (by omega) f3.1 r2 (by omega) (by omega) f2) fun f r3 e1 e2 e3 =>
   ih _ r3 (by omega) (by omega) (by omega) (by omega) e2 (KL.app h6 (KL.one e3.1))
theorem F5 (T : Tot S m) (N : Nat) (nm : ByteArray) (v : Int) (hn : nm.size ≤ 3000) (hv : v ≤ 9223372036854775807) (c : Nat) : ∀ (n : Nat) (acc : List (List S29)) (l : List S37), l.length < n → l.length ≤ m → l.length < N → l.length < c → TB l → KL acc → Fn KN c (tN S N nm v n acc l) := by
 intro n
 induction n with
 | zero => intro e l h1; omega
 | succ n ih =>
  intro acc l h1 h2 h3 h4 h5 h6
  unfold tN
  refine jU (fun d => ?_) (fun _ => G5 T N nm v hn hv c N acc l h3 h2 (by omega) h4 h5 h6)
  exact Fn.bind (nV l h5 _ d (by simp)) fun _ r g1 g2 _ => Fn.bind (Jh r g2) fun t r2 f1 f2 f3 => ih _ r2 (by omega) (by omega) (by omega) (by omega) f2 (KL.app h6 (KL.one f3.1))
theorem En (T : Tot S m) (N : Nat) (l : List S37) (hl : l.length ≤ m) (hN : l.length ≤ N) (h : TB l) : Fn KN l.length (kG S N l) :=
 Fn.bind (jX _ (by simp) l h) fun _ r h1 h2 _ => Fn.bind (oG 1 r h2) fun t r g1 g2 g3 => Fn.bind (oG 2 r g2) fun u r f1 f2 f3 => Fn.bind (jX [59] (by simp) r f2) fun _ r e1 e2 _ =>
  F5 T N t.f1 u.f2 g3.1 f3.2 _ N [] r (by omega) (by omega) (by omega) (by omega) e2 KL.nil
end Go.Proofs.YtkbhkonenkgfoaaGreat.Par
end
section
set_option linter.unusedVariables false
set_option linter.unusedSimpArgs false
namespace Go.Proofs.YtkbhkonenkgfoaaGreat.Lex
open Go Go.RowKit Go.Proofs.YtkbhkonenkgfoaaGreatW.PrintWords Go.Proofs.YtkbhkonenkgfoaaGreat.Q
theorem w64 (n : Int) (h : -9223372036854775808 ≤ n ∧ n ≤ 9223372036854775807) : wrap64 n = n := IntWalk.wrap64_in n h
theorem bt0 (s : ByteArray) (c : UInt8) (t : List UInt8) (h : L s = c :: t) : bt s 0 = (c.toNat : Int) := by
 have := EI s 0
 rw [h] at this
 simpa using this
theorem H9 (s : ByteArray) (i : Int) : wrap32 (bt s i) = bt s i := by
 have := EH s i
 exact IntWalk.wrap32_in _ (by omega)
theorem isE (s : ByteArray) : (s.toList = ([] : List UInt8)) ↔ L s = [] := by rw [iV]
theorem yY (c : UInt8) : ig.f (c.toNat : Int) = some (le c) := by
 unfold ig.f le
 by_cases h : (c.toNat : Int) ≥ 97
 ·rw [if_pos h]
  congr 1
  rw [Bool.eq_iff_iff]
  simp only [decide_eq_true_eq]
  omega
 rw [if_neg h]
 congr 1
 symm
 rw [decide_eq_false_iff_not]
 omega
theorem G8 (c : UInt8) : jw.f (c.toNat : Int) = some (di c) := by
 unfold jw.f di
 by_cases h : (c.toNat : Int) ≥ 48
 ·rw [if_pos h]
  congr 1
  rw [Bool.eq_iff_iff]
  simp only [decide_eq_true_eq]
  omega
 rw [if_neg h]
 congr 1
 symm
 rw [decide_eq_false_iff_not]
 omega
theorem qM {α : Type} (q : α → Bool) (l : List α) : ((l.takeWhile q).length = l.length) ↔ l.all q = true := by
 induction l with
 | nil => simp
 | cons a t ih =>
  rw [List.takeWhile_cons, List.all_cons]
  by_cases h : q a = true
  ·rw [if_pos h]
   simp only [List.length_cons, h, Bool.true_and]
   rw [← ih]; omega
  rw [if_neg h]
  simp [h]
theorem Dq (s : ByteArray) : jY.f s = some (isWord (L s)) := by
 unfold jY.f
 rcases hl : L s with _ | ⟨c, t⟩
 ·rw [if_pos ((isE s).2 hl)]; rfl
 rw [if_neg (by rw [isE, hl]; simp), if_pos (by rw [iW, hl]; simp), H9, bt0 s c t hl, yY]
 simp only [Option.bind_some]
 by_cases h : le c = true
 ·rw [if_pos h]
  unfold kX.f
  simp only [Option.bind_some]
  congr 1
  rw [isWord, h, Bool.true_and, ← hl, Bool.eq_iff_iff]
  rw [beq_iff_eq, iW, iW, E5 mY inn Ac, ← qM]
  omega
 rw [if_neg h]
 simp [isWord, h]
/-! within -/
theorem Fh (a : ByteArray) (i n : Nat) : L (a.extract i (i + n)) = ((L a).drop i).take n := by
 rw [xm, Nat.add_sub_cancel_left]
/-- Does a list stand in another one, from a place on? -/
def oN (b : List UInt8) : List UInt8 → Bool
 | [] => b.isPrefixOf []
 | c :: t => b.isPrefixOf (c :: t) || oN b t
theorem mP (b l : List UInt8) : b.isPrefixOf l = true ↔ (b.length ≤ l.length ∧ l.take b.length = b) := by
 rw [List.isPrefixOf_iff_prefix]
 constructor
 ·rintro ⟨r, rfl⟩
  simp
 rintro ⟨h1, h2⟩
 have h3 := List.take_append_drop b.length l
 rw [h2] at h3
 exact ⟨_, h3⟩
theorem nN (b : List UInt8) : ∀ l : List UInt8, l.length < b.length → oN b l = false
 | [], h => by
  cases b with
  | nil => simp at h
  | cons x y => rfl
 | c :: t, h => by
  simp only [oN]
  rw [nN b t (by simp at h; omega), Bool.or_false, Bool.eq_false_iff, ne_eq, mP]
  omega
theorem Dt (a b : ByteArray) (hb : 1 ≤ b.size) (hs : a.size + b.size ≤ 4611686018427387904) : ∀ (m i : Nat), a.size ≤ m + i → i ≤ a.size + 1 → ah (fun k => dW.l0 k a b (i : Int)) (oN (L b) ((L a).drop i)) := by
 intro m
 induction m with
 | zero =>
  intro i h1 h2
  refine ah.step (G := fun _ => some false) (fun k => ?_) (by
   rw [nN _ _ (by rw [List.length_drop, ← iW, ← iW]; omega)]
   exact ah.now)
  simp only [dW.l0]
  rw [w64 _ (by omega), if_neg (by omega)]
 | succ m ih =>
  intro i h1 h2
  by_cases c : i + b.size ≤ a.size
  ·by_cases e : ((L a).drop i).take b.size = L b
   ·refine ah.step (G := fun _ => some true) (fun k => ?_) ?_
    ·simp only [dW.l0]
     rw [w64 _ (by omega), if_pos (by omega), if_pos (by omega), if_pos (by omega)]
     have e1 : ((i : Int)).toNat = i := by omega
     have e2 : ((i : Int) + (b.size : Int)).toNat = i + b.size := by omega
     rw [e1, e2, iV, iV, Fh, if_pos e]
    have : oN (L b) ((L a).drop i) = true := by
     rw [lN (L a) i (by rw [← iW]; omega)] at *
     simp only [oN]
     rw [Bool.or_eq_true, mP]
     refine Or.inl ⟨?_, ?_⟩
     ·rw [← lN (L a) i (by rw [← iW]; omega), List.length_drop, ← iW, ← iW]; omega
     rw [← iW]; exact e
    rw [this]
    exact ah.now
   refine ah.step (G := fun k => dW.l0 k a b ((i + 1 : Nat) : Int)) (fun k => ?_) ?_
   ·simp only [dW.l0]
    rw [w64 _ (by omega), if_pos (by omega), if_pos (by omega), if_pos (by omega)]
    have e1 : ((i : Int)).toNat = i := by omega
    have e2 : ((i : Int) + (b.size : Int)).toNat = i + b.size := by omega
    rw [e1, e2, iV, iV, Fh, if_neg e, w64 _ (by omega)]
    rfl
   have : oN (L b) ((L a).drop i) = oN (L b) ((L a).drop (i + 1)) := by
    rw [lN (L a) i (by rw [← iW]; omega)]
    simp only [oN]
    rw [← lN (L a) i (by rw [← iW]; omega)]
    have : List.isPrefixOf (L b) ((L a).drop i) = false := by
     rw [Bool.eq_false_iff, ne_eq, mP]
     rintro ⟨_, q⟩
     rw [← iW] at q
     exact e q
    rw [this, Bool.false_or]
   rw [this]
   exact ih (i + 1) (by omega) (by omega)
  refine ah.step (G := fun _ => some false) (fun k => ?_) (by
   rw [nN _ _ (by rw [List.length_drop, ← iW, ← iW]; omega)]
   exact ah.now)
  simp only [dW.l0]
  rw [w64 _ (by omega), if_neg (by omega)]
theorem Du (a b : ByteArray) (hb : 1 ≤ b.size) (hs : a.size + b.size ≤ 4611686018427387904) : ah (fun k => dW.f k a b) (oN (L b) (L a)) := by
 have := Dt a b hb hs a.size 0 (by omega) (by omega)
 simpa [dW.f] using this
/-! Key -/
def KT : List UInt8 := [32, 109, 111, 100, 117, 108, 101, 32, 117, 115, 101, 32, 102, 110, 32, 108, 101, 116, 32, 105, 102, 32, 101, 108, 115, 101, 32, 119, 104, 105, 108, 101, 32, 98, 114, 101, 97, 107, 32, 99, 111, 110, 116, 105, 110, 117, 101, 32, 114, 101, 116, 117, 114, 110, 32, 112, 117, 116, 32, 101, 109, 105, 116, 32, 121, 105, 101, 108, 100, 32, 110, 105, 108, 32, 115, 116, 97, 116, 101, 32, 115, 112, 97, 119, 110, 32, 108, 101, 110, 32, 110, 111, 116, 32, 97, 110, 100, 32, 111, 114, 32]
def KB : ByteArray := (⟨#[32, 109, 111, 100, 117, 108, 101, 32, 117, 115, 101, 32, 102, 110, 32, 108, 101, 116, 32, 105, 102, 32, 101, 108, 115, 101, 32, 119, 104, 105, 108, 101, 32, 98, 114, 101, 97, 107, 32, 99, 111, 110, 116, 105, 110, 117, 101, 32, 114, 101, 116, 117, 114, 110, 32, 112, 117, 116, 32, 101, 109, 105, 116, 32, 121, 105, 101, 108, 100, 32, 110, 105, 108, 32, 115, 116, 97, 116, 101, 32, 115, 112, 97, 119, 110, 32, 108, 101, 110, 32, 110, 111, 116, 32, 97, 110, 100, 32, 111, 114, 32]⟩ : ByteArray)
theorem GZ : KB.size = 101 := rfl
def pR (c : UInt8) : Bool := c != 32
/-- The words between blanks. -/
def wordsOf : List UInt8 → List (List UInt8)
 | [] => []
 | c :: t => if c == 32 && !(t.dropWhile pR).isEmpty then t.takeWhile pR :: wordsOf t else wordsOf t
theorem Dp : wordsOf KT = KEYS := by decide +kernel
theorem ui : ∀ (s t : List UInt8), s.all pR = true → (s ++ [32]).isPrefixOf t = (t.takeWhile pR == s && !(t.dropWhile pR).isEmpty)
 | [], [], _ => rfl
 | [], c :: t, _ => by
  by_cases h : c = 32
  ·subst h
   simp [List.takeWhile_cons, List.dropWhile_cons, pR, List.isPrefixOf]
  have h2 : (32 == c) = false := beq_eq_false_iff_ne.2 (fun e => h e.symm)
  simp [List.takeWhile_cons, List.dropWhile_cons, pR, List.isPrefixOf, h, h2]
 | x :: s, [], _ => by simp [List.isPrefixOf]
 | x :: s, c :: t, hs => by
  simp only [List.all_cons, Bool.and_eq_true] at hs
  have ih := ui s t hs.2
  rw [List.cons_append, List.isPrefixOf_cons_cons, ih]
  by_cases h : x = c
  ·subst h
   rw [List.takeWhile_cons, List.dropWhile_cons, if_pos hs.1, if_pos hs.1]
   simp
  have h2 : (x == c) = false := beq_eq_false_iff_ne.2 h
  rw [h2, Bool.false_and]
  symm
  rw [List.takeWhile_cons]
  split
  ·have : (c :: t.takeWhile pR == x :: s) = false := by
    apply beq_eq_false_iff_ne.2
    intro e
    exact h (List.cons.inj e).1.symm
   rw [this, Bool.false_and]
  simp
theorem qX (s : List UInt8) (hs : s.all pR = true) : ∀ l : List UInt8, oN (32 :: (s ++ [32])) l = (wordsOf l).contains s
 | [] => by simp [oN, wordsOf, List.isPrefixOf]
 | c :: t => by
  rw [oN, qX s hs t, List.isPrefixOf_cons_cons, ui s t hs, wordsOf]
  by_cases h : c = 32
  ·subst h
   by_cases h2 : (t.dropWhile pR).isEmpty = true
   ·simp [h2]
   have h3 : (t.dropWhile pR).isEmpty = false := by simpa using h2
   rw [h3]
   simp only [Bool.not_false, Bool.and_true, beq_self_eq_true, Bool.true_and, if_true, List.contains_cons]
   rw [show (List.takeWhile pR t == s) = (s == List.takeWhile pR t) from Bool.eq_iff_iff.2 (by simp only [beq_iff_eq]; exact eq_comm)]
  have h2 : (32 == c) = false := beq_eq_false_iff_ne.2 (fun e => h e.symm)
  have h3 : (c == 32) = false := beq_eq_false_iff_ne.2 h
  rw [h2, h3]
  simp
theorem BP {s : List UInt8} (h : isWord s = true) : s.all pR = true := by
 cases s with
 | nil => cases h
 | cons c t =>
  simp only [isWord, Bool.and_eq_true] at h
  rw [List.all_eq_true] at h ⊢
  intro x hx
  have h1 := h.2 x hx
  simp only [pR, bne_iff_ne, ne_eq]
  rintro rfl
  exact absurd h1 (by decide)
theorem Eu {s : List UInt8} (h : isKey s = true) : isWord s = true := by
 have : ∀ x ∈ KEYS, isWord x = true := by decide +kernel
 exact this s (List.contains_iff_mem.1 h)
theorem JB (s : ByteArray) (hs : s.size ≤ 140737488351232) : ah (fun k => jG.f k s) (isKey (L s)) := by
 unfold jG.f
 rw [Dq]
 simp only [Option.bind_some]
 by_cases h : isWord (L s) = true
 ·rw [h]
  simp only [if_true]
  have e1 : ((⟨#[32]⟩ : ByteArray) ++ s).size = 1 + s.size := by rw [ByteArray.size_append]; rfl
  simp only [e1]
  refine ah.pos (by omega) (ah.pos (by omega) ?_)
  have h0 : ByteArray.size (⟨#[32]⟩ : ByteArray) = 1 := rfl
  have hw := Du KB (((⟨#[32]⟩ : ByteArray) ++ s) ++ (⟨#[32]⟩ : ByteArray)) (by rw [ByteArray.size_append, e1]; omega) (by rw [ByteArray.size_append, e1, h0, GZ]; omega)
  have e2 : L (((⟨#[32]⟩ : ByteArray) ++ s) ++ (⟨#[32]⟩ : ByteArray)) = 32 :: (L s ++ [32]) := by
   rw [sH, sH]; rfl
  rw [e2] at hw
  rw [show oN (32 :: (L s ++ [32])) (L KB) = isKey (L s) from (qX _ (BP h) KT).trans (by rw [Dp]; rfl)] at hw
  exact ah.bind (G := fun _ t => some t) hw ah.now
 have h2 : isWord (L s) = false := by simpa using h
 have h3 : isKey (L s) = false := by
  rw [Bool.eq_false_iff]
  intro e
  exact h (Eu e)
 rw [h2, h3]
 simp only [Bool.false_eq_true, if_false]
 exact ah.now
theorem Fa (s : ByteArray) (hs : s.size ≤ 140737488351232) : ah (fun k => iy.f k s) (fQ (L s)) := by
 unfold iy.f
 rw [Dq]
 simp only [Option.bind_some]
 by_cases h : isWord (L s) = true
 ·rw [h]
  simp only [if_true]
  by_cases h2 : (s.size : Int) ≤ 16
  ·refine ah.pos h2 ?_
   have e : fQ (L s) = !isKey (L s) := by
    unfold fQ
    rw [h, show decide ((L s).length ≤ 16) = true from decide_eq_true (by rw [← iW]; omega)]
    rfl
   rw [e]
   exact ah.bind (G := fun _ t => some (!t)) (JB s hs) ah.now
  refine ah.neg h2 ?_
  have e : fQ (L s) = false := by
   unfold fQ
   rw [show decide ((L s).length ≤ 16) = false from decide_eq_false (by rw [← iW]; omega)]
   simp
  rw [e]
  exact ah.now
 have h2 : isWord (L s) = false := by simpa using h
 rw [h2]
 simp only [Bool.false_eq_true, if_false]
 have e : fQ (L s) = false := by
  unfold fQ
  rw [h2]; rfl
 rw [e]
 exact ah.now
end Go.Proofs.YtkbhkonenkgfoaaGreat.Lex
end
section
set_option linter.unusedVariables false
set_option linter.unusedSimpArgs false
namespace Go.Proofs.YtkbhkonenkgfoaaGreat.Tree
open Go Go.RowKit Go.Proofs.YtkbhkonenkgfoaaGreatW.PrintWords Go.Proofs.YtkbhkonenkgfoaaGreat.Q Go.Proofs.YtkbhkonenkgfoaaGreat.Lex
theorem ah.both {α : Type} {F G : Nat → Option α} {v u : α} {c : Prop} [Decidable c] (f : c → ah F v) (g : ¬c → ah G u) : ah (fun k => if c then F k else G k) (if c then v else u) := by
 by_cases h : c
 ·rw [if_pos h]; exact ah.pos h (f h)
 rw [if_neg h]; exact ah.neg h (g h)
def OPS : List (List UInt8) := [[43], [45], [42], [47], [37], [46, 46], [61, 61], [33, 61], [60], [60, 61], [97, 110, 100], [111, 114]]
def UNS : List (List UInt8) := [[45], [110, 111, 116], [108, 101, 110]]
def OB : ByteArray := (⟨#[32, 43, 32, 45, 32, 42, 32, 47, 32, 37, 32, 46, 46, 32, 61, 61, 32, 33, 61, 32, 60, 32, 60, 61, 32, 97, 110, 100, 32, 111, 114, 32]⟩ : ByteArray)
def UB : ByteArray := (⟨#[32, 45, 32, 110, 111, 116, 32, 108, 101, 110, 32]⟩ : ByteArray)
theorem yj : wordsOf (L OB) = OPS := by decide +kernel
theorem yh : wordsOf (L UB) = UNS := by decide +kernel
theorem ET (w s : ByteArray) (hs : s.size ≤ 3000) (hw : w.size ≤ 1000) (hne : ¬ s.toList = ([] : List UInt8)) : ∀ (m i : Nat), w.size ≤ m + i → i ≤ w.size + 1 →
 ah (fun k => dB.l1 k w s ((s.size + 2 : Nat) : Int) (i : Int)) (oN (32 :: (L s ++ [32])) ((L w).drop i)) := by
 have hb : (32 :: (L s ++ [32])).length = s.size + 2 := by rw [iW]; simp
 have hwL := iW w
 have h1s : ((⟨#[32]⟩ : ByteArray) ++ s).size = 1 + s.size := by rw [ByteArray.size_append]; rfl
 have hLb : (((⟨#[32]⟩ : ByteArray) ++ s) ++ (⟨#[32]⟩ : ByteArray)).toList = 32 :: (L s ++ [32]) := by
  rw [iV, sH, sH]; rfl
 intro m
 induction m with
 | zero =>
  intro i h1 h2
  refine ah.step (fun k => by rw [dB.l1]) (ah.neg hne ?_)
  refine ah.step (fun k => by rw [dB.j2]) (ah.neg ?_ ?_)
  ·rw [w64 (by omega) (by omega)]; simp; omega
  rw [nN _ _ (by rw [List.length_drop, hb]; omega)]
  exact ah.now
 | succ m ih =>
  intro i h1 h2
  refine ah.step (fun k => by rw [dB.l1]) (ah.neg hne ?_)
  have hwr : wrap64 ((i : Int) + ((s.size + 2 : Nat) : Int)) = ((i + (s.size + 2) : Nat) : Int) := by rw [w64 (by omega) (by omega)]; omega
  rw [hwr]
  refine ah.step (fun k => by rw [dB.j2]) ?_
  rw [hwr]
  by_cases c : i + (s.size + 2) ≤ w.size
  ·refine ah.pos (decide_eq_true (by omega)) (ah.pos (by omega) (ah.pos (by omega) (ah.pos (by omega) (ah.pos (by omega) (ah.pos (by omega) ?_)))))
   rw [Int.toNat_natCast, Int.toNat_natCast, iV, Fh, hLb, inc i (by omega)]
   have hd := lN (L w) i (by omega)
   by_cases e : ((L w).drop i).take (s.size + 2) = 32 :: (L s ++ [32])
   ·refine ah.pos e ?_
    have : oN (32 :: (L s ++ [32])) ((L w).drop i) = true := by
     rw [hd] at e ⊢
     rw [oN, Bool.or_eq_true, mP]
     refine Or.inl ⟨?_, by rw [hb]; exact e⟩
     rw [hb, ← hd, List.length_drop]; omega
    rw [this]
    exact ah.now
   refine ah.neg e ?_
   have : oN (32 :: (L s ++ [32])) ((L w).drop i) = oN (32 :: (L s ++ [32])) ((L w).drop (i + 1)) := by
    rw [hd, oN, ← hd]
    have : List.isPrefixOf (32 :: (L s ++ [32])) ((L w).drop i) = false := by
     rw [Bool.eq_false_iff, ne_eq, mP]
     rintro ⟨_, q⟩
     rw [hb] at q
     exact e q
    rw [this, Bool.false_or]
   rw [this]
   exact ih (i + 1) (by omega) (by omega)
  refine ah.neg (by simp; omega) ?_
  rw [nN _ _ (by rw [List.length_drop, hb]; omega)]
  exact ah.now
theorem vW (q : UInt8 → Bool) (l : List UInt8) : (l.takeWhile q).all q = true := by
 induction l with
 | nil => rfl
 | cons a t ih =>
  rw [List.takeWhile_cons]
  split
  ·rename_i h; rw [List.all_cons, h, ih]; rfl
  rfl
theorem qQ : ∀ (l x : List UInt8), x ∈ wordsOf l → x.all pR = true
 | [], x, h => by simp [wordsOf] at h
 | c :: t, x, h => by
  rw [wordsOf] at h
  split at h
  ·rcases List.mem_cons.1 h with rfl | h
   ·exact vW _ _
   exact qQ t x h
  exact qQ t x h
theorem EU (w s : ByteArray) (hs : s.size ≤ 3000) (hw : w.size ≤ 1000) (hn : (wordsOf (L w)).contains [] = false) : ∀ (m i : Nat), s.size = m + i →
 (∀ j, j < i → (L s).getD j 0 ≠ 32) → ah (fun k => dB.l0 k w s (s.size : Int) (i : Int)) ((wordsOf (L w)).contains (L s)) := by
 have hL := iW s
 intro m
 induction m with
 | zero =>
  intro i h1 h2
  refine ah.step (fun k => by rw [dB.l0]) (ah.neg (by omega) ?_)
  have hall : (L s).all pR = true := by
   rw [List.all_eq_true]
   intro x hx
   obtain ⟨j, hj, rfl⟩ := List.getElem_of_mem hx
   have := h2 j (by omega)
   rw [List.getD_eq_getElem?_getD, List.getElem?_eq_getElem hj] at this
   simpa [pR] using this
  rw [w64 (n := (s.size : Int) + 2) (by omega) (by omega), show (s.size : Int) + 2 = ((s.size + 2 : Nat) : Int) by omega]
  by_cases e : s.toList = ([] : List UInt8)
  ·rw [(isE s).1 e, hn]
   refine ah.step (fun k => by rw [dB.l1]) (ah.pos e ?_)
   exact ah.step (fun k => by rw [dB.j2]) (ah.neg (by simp) ah.now)
  rw [← qX _ hall]
  have := ET w s hs hw e w.size 0 (by omega) (by omega)
  rw [List.drop_zero] at this
  exact this
 | succ m ih =>
  intro i h1 h2
  refine ah.step (fun k => by rw [dB.l0]) (ah.pos (by omega) (ah.pos (by omega) (ah.pos (by omega) ?_)))
  rw [EI, inc i (by omega)]
  have hsplit : ((((L s).getD i 0).toNat : Int) = 32) ↔ (L s).getD i 0 = 32 := zK _ 32
  by_cases c : (L s).getD i 0 = 32
  ·refine ah.pos (hsplit.2 c) ?_
   have : (wordsOf (L w)).contains (L s) = false := by
    rw [Bool.eq_false_iff]
    intro h
    have := qQ _ _ (List.contains_iff_mem.1 h)
    rw [List.all_eq_true] at this
    have hi : i < (L s).length := by omega
    have := this _ (List.getElem_mem hi)
    rw [List.getD_eq_getElem?_getD, List.getElem?_eq_getElem hi] at c
    simp at c
    rw [c] at this
    exact absurd this (by decide)
   rw [this]
   exact ah.now
  refine ah.neg (fun h => c (hsplit.1 h)) (ih (i + 1) (by omega) (fun j hj => ?_))
  rcases Nat.eq_or_lt_of_le (Nat.lt_succ_iff.1 hj) with rfl | hj
  ·exact c
  exact h2 j hj
theorem BJ (w s : ByteArray) (hs : s.size ≤ 3000) (hw : w.size ≤ 1000) (hn : (wordsOf (L w)).contains [] = false) : ah (fun k => dB.f k w s) ((wordsOf (L w)).contains (L s)) := by
 have := EU w s hs hw hn s.size 0 (by omega) (fun j hj => by omega)
 exact this
/-- What a node of a kind has, and whether there is such a kind; what its number may be. -/
def mV (a : Int) : Int × Bool :=
 if a = 1 then (5, true) else if a = 2 then (7, true) else if a = 3 ∨ a = 4 ∨ a = 6 ∨ a = 7 ∨ a = 21 then (1, true) else if a = 19 then (4, true) else if a = 20 then (32, true)
 else if a = 23 then (3, true) else if a = 27 then (8, true) else if a = 28 then (16, true) else (0, decide (1 ≤ a ∧ a ≤ 30))
def rangeS (a : Int) : Int × Int := if a = 1 then (1, 2147483647) else if a = 2 then (0, 8) else (0, 9223372036854775807)
theorem zl (a : Int) (b : Bool) (h : b = decide (a = 3 ∨ a = 4 ∨ a = 6 ∨ a = 7 ∨ a = 21)) (h1 : a ≠ 1) (h2 : a ≠ 2) : ah (fun k => gm.j0 k a a b) (mV a) := by
 refine ah.step (fun k => by rw [gm.j0]) ?_
 unfold mV
 rw [if_neg h1, if_neg h2]
 by_cases c : a = 3 ∨ a = 4 ∨ a = 6 ∨ a = 7 ∨ a = 21
 ·rw [if_pos c]
  exact ah.pos (by rw [h]; exact decide_eq_true c) ah.now
 rw [if_neg c]
 refine ah.neg (by rw [h]; simpa using c) ?_
 refine ah.both (fun _ => ah.now) (fun c1 => ah.both (fun _ => ah.now) (fun c2 => ah.both (fun _ => ah.now) (fun c3 => ah.both (fun _ => ah.now) (fun c4 => ah.both (fun _ => ah.now) (fun c5 => ?_)))))
 by_cases c6 : a ≥ 1
 ·refine ah.pos c6 ?_
  rw [show (decide (1 ≤ a ∧ a ≤ 30)) = decide (a ≤ 30) from by simp; omega]
  exact ah.now
 refine ah.neg c6 ?_
 rw [show (decide (1 ≤ a ∧ a ≤ 30)) = false from decide_eq_false (by omega)]
 exact ah.now
theorem Jo (a : Int) : ah (fun k => gm.f k a) (mV a) := by
 unfold gm.f
 by_cases h1 : a = 1
 ·subst h1; exact ah.pos rfl ah.now
 refine ah.neg h1 ?_
 by_cases h2 : a = 2
 ·subst h2; exact ah.pos rfl ah.now
 refine ah.neg h2 ?_
 by_cases h3 : a = 3
 ·exact ah.pos h3 (zl a _ (by simp [h3]) h1 h2)
 refine ah.neg h3 ?_
 by_cases h4 : a = 4
 ·exact ah.pos h4 (zl a _ (by simp [h4]) h1 h2)
 refine ah.neg h4 ?_
 by_cases h5 : a = 6
 ·exact ah.pos h5 (zl a _ (by simp [h5]) h1 h2)
 refine ah.neg h5 ?_
 by_cases h6 : a = 7
 ·exact ah.pos h6 (zl a _ (by simp [h6]) h1 h2)
 refine ah.neg h6 (zl a _ ?_ h1 h2)
 rw [Bool.eq_iff_iff, beq_iff_eq, decide_eq_true_eq]; omega
def oH (b m : Int) : Bool := Go.bits .and .i64 b m != 0
def textS (b : Int) (s : ByteArray) : Bool :=
 if Go.bits .and .i64 b 2 = 0 then if Go.bits .and .i64 b 8 = 0 then if Go.bits .and .i64 b 16 = 0 then if Go.bits .and .i64 b 32 = 0 then (L s).isEmpty else decide (s.size ≤ 1024) else UNS.contains (L s) else OPS.contains (L s) else fQ (L s)
theorem Ie (b : Int) (s : ByteArray) (hs : s.size ≤ 3000) : ah (fun k => jd.f k b s) (textS b s) := by
 unfold jd.f textS
 refine ah.both (fun _ => ah.both (fun _ => ah.both (fun _ => ah.both (fun _ => ah.lh fun k => ?_) (fun _ => ah.lh fun k => ?_)) (fun _ => ?_)) (fun _ => ?_)) (fun _ => ?_)
 ·rw [iV]
  cases L s <;> rfl
 ·congr 1
  rw [decide_eq_decide]; omega
 ·have := BJ UB s hs (by decide) (by rw [yh]; decide)
  rw [yh] at this
  exact ah.bind (G := fun _ t => some t) this ah.now
 ·have := BJ OB s hs (by decide) (by rw [yj]; decide)
  rw [yj] at this
  exact ah.bind (G := fun _ t => some t) this ah.now
 exact ah.bind (G := fun _ t => some t) (Fa s (by omega)) ah.now
/-- A node has just what it may. -/
def ji (b : Int) (ok : Bool) (lo hi : Int) (x : S29) : Bool :=
 ok && (textS b x.f4 && ((oH b 1 == fQ (L x.f2)) && ((oH b 1 || (L x.f2).isEmpty) && (if Go.bits .and .i64 b 4 = 0 then x.f3 == 0 else decide (lo ≤ x.f3 ∧ x.f3 ≤ hi)))))
def kY (x : S29) : Bool := ji (mV x.f0).1 (mV x.f0).2 (rangeS x.f0).1 (rangeS x.f0).2 x
theorem FX (a : Int) : jL.f a = some (rangeS a) := by
 unfold jL.f rangeS
 split
 ·rfl
 split <;> rfl
theorem tH (x : S29) (b lo hi : Int) (c : Bool) : ah (fun k => dK.j1 k b lo hi c x.f0 x.f1 x.f2 x.f3 x.f4) (!c && (if Go.bits .and .i64 b 4 = 0 then x.f3 == 0 else decide (lo ≤ x.f3 ∧ x.f3 ≤ hi))) := by
 refine ah.step (fun k => by rw [dK.j1]) ?_
 cases c with
 | true => exact ah.pos rfl ah.now
 | false =>
  refine ah.neg (by simp) ?_
  rw [Bool.not_false, Bool.true_and]
  refine ah.both (fun _ => ah.now) (fun c4 => ?_)
  by_cases c5 : x.f3 ≥ lo
  ·refine ah.pos c5 ?_
   rw [show decide (lo ≤ x.f3 ∧ x.f3 ≤ hi) = decide (x.f3 ≤ hi) from by rw [decide_eq_decide]; omega]
   exact ah.now
  refine ah.neg c5 ?_
  rw [show decide (lo ≤ x.f3 ∧ x.f3 ≤ hi) = false from decide_eq_false (by omega)]
  exact ah.now
theorem wX (x : S29) (h2 : x.f2.size ≤ 3000) (b lo hi : Int) (c : Bool) : ah (fun k => dK.j0 k b lo hi c x.f0 x.f1 x.f2 x.f3 x.f4)
 (!c && ((oH b 1 == fQ (L x.f2)) && ((oH b 1 || (L x.f2).isEmpty) && (if Go.bits .and .i64 b 4 = 0 then x.f3 == 0 else decide (lo ≤ x.f3 ∧ x.f3 ≤ hi))))) := by
 refine ah.step (fun k => by rw [dK.j0]) ?_
 cases c with
 | true => exact ah.pos rfl ah.now
 | false =>
  refine ah.neg (by simp) (ah.bind (Fa x.f2 (by omega)) ?_)
  rw [Bool.not_false, Bool.true_and]
  by_cases c1 : oH b 1 = fQ (L x.f2)
  ·rw [beq_iff_eq.2 c1, Bool.true_and]
   refine ah.neg (by unfold oH at c1; rw [c1]; simp) ?_
   by_cases c2 : Go.bits .and .i64 b 1 = 0
   ·refine ah.pos c2 ?_
    have hb : oH b 1 = false := by unfold oH; rw [c2]; rfl
    rw [hb, Bool.false_or]
    have := tH x b lo hi (x.f2.toList != ([] : List UInt8))
    rwa [show (!(x.f2.toList != ([] : List UInt8))) = (L x.f2).isEmpty from by rw [iV]; cases L x.f2 <;> rfl] at this
   refine ah.neg c2 ?_
   have hb : oH b 1 = true := by unfold oH; simpa using c2
   rw [hb, Bool.true_or, Bool.true_and]
   have := tH x b lo hi false
   rwa [Bool.not_false, Bool.true_and] at this
  rw [show (oH b 1 == fQ (L x.f2)) = false from beq_eq_false_iff_ne.2 c1, Bool.false_and]
  exact ah.pos (by unfold oH at c1; simpa using c1) (tH x b lo hi true)
theorem E8 (x : S29) (h2 : x.f2.size ≤ 3000) (h4 : x.f4.size ≤ 3000) : ah (fun k => dK.f k x.f0 x.f1 x.f2 x.f3 x.f4) (kY x) := by
 unfold dK.f kY ji
 refine ah.bind (Jo x.f0) ?_
 simp only [FX, Option.bind_some]
 cases hok : (mV x.f0).2 with
 | false =>
  rw [Bool.false_and]
  exact ah.neg (by simp) (wX x h2 _ _ _ true)
 | true =>
  rw [Bool.true_and]
  refine ah.pos rfl (ah.bind (Ie _ _ h4) ?_)
  have := wX x h2 (mV x.f0).1 (rangeS x.f0).1 (rangeS x.f0).2 (!textS (mV x.f0).1 x.f4)
  rwa [Bool.not_not] at this
/-! Kids. -/
def exS (l : List Int) (lo hi : Nat) : Bool := decide (lo ≤ l.length ∧ l.length ≤ hi) && l.all kE
def ifS (hi : Nat) (l : List Int) : Bool := decide (2 ≤ l.length ∧ l.length ≤ hi) && (kE (rd l 0) && (l.drop 1).all (· == 5))
def Am (l : List Int) : Bool := decide (1 ≤ l.length ∧ l.length ≤ 9) && (rd l ((l.length - 1 : Nat) : Int) == 5 && (l.take (l.length - 1)).all (· == 4))
def qc (l : List Int) : Bool := (l.dropWhile (· == 2)).all (· == 3)
def iY (a : Int) (l : List Int) : Bool :=
 if a = 1 then qc l else if a = 3 ∨ a = 24 then Am l else if a = 5 then l.all kZ else if a = 9 then ifS 3 l else if a = 10 then ifS 2 l else if a = 8 then exS l 3 3
 else if a = 6 ∨ a = 7 ∨ a = 13 ∨ a = 14 ∨ a = 15 ∨ a = 17 ∨ a = 28 ∨ a = 30 then exS l 1 1 else if a = 22 then exS l 1 9 else if a = 23 then exS l 0 8 else if a = 26 ∨ a = 27 then exS l 2 2 else decide (l.length = 0)
theorem qH (l : List Int) (lo hi : Nat) : iF.f l (lo : Int) (hi : Int) = some (exS l lo hi) := by
 unfold iF.f exS qm.f
 by_cases c : lo ≤ l.length
 ·rw [if_pos (by omega)]
  by_cases c2 : l.length ≤ hi
  ·rw [if_pos (by omega), decide_eq_true ⟨c, c2⟩]; rfl
  rw [if_neg (by omega), decide_eq_false (by omega)]; rfl
 rw [if_neg (by omega), decide_eq_false (by omega)]; rfl
theorem Jd (a : Int) : jv.f a = some (kE a) := by
 unfold jv.f kE
 by_cases c : a ≥ 18
 ·rw [if_pos c]; congr 1; rw [decide_eq_decide]; omega
 rw [if_neg c]; congr 1; symm; exact decide_eq_false (by omega)
theorem Ak (l : List Int) (hl : l.length ≤ 200000) : fC.f l = some (Am l) := by
 unfold fC.f Am lK.f
 by_cases c : 1 ≤ l.length
 ·rw [w64 (by omega) (by omega), show (l.length : Int) - 1 = ((l.length - 1 : Nat) : Int) by omega, if_pos (by omega)]
  by_cases c2 : l.length ≤ 9
  ·rw [if_pos (by omega), if_pos (by omega), if_pos (by omega), decide_eq_true ⟨c, c2⟩, Bool.true_and]
   by_cases c3 : rd l ((l.length - 1 : Nat) : Int) = 5
   ·rw [if_pos c3, if_pos (by omega), c3]; rfl
   rw [if_neg c3, show (rd l ((l.length - 1 : Nat) : Int) == 5) = false from beq_eq_false_iff_ne.2 c3]; rfl
  rw [if_neg (by omega), decide_eq_false (by omega)]; rfl
 rw [w64 (by omega) (by omega), if_neg (by omega), decide_eq_false (by omega)]; rfl
theorem Ej (l : List Int) (hl : l.length ≤ 200000) : ∀ (m i : Nat), l.length = m + i → ah (fun k => eP.l0 k l (i : Int)) (qc (l.drop i)) := by
 intro m
 induction m with
 | zero =>
  intro i h
  refine ah.step (fun k => by rw [eP.l0]) (ah.neg (by omega) (ah.pos (by omega) (ah.pos (by omega) ?_)))
  rw [Int.toNat_natCast, List.drop_eq_nil_of_le (by omega)]
  exact ah.now
 | succ m ih =>
  intro i h
  have hi : i < l.length := by omega
  have hrd : rd l (i : Int) = l[i] := by simp [rd, List.getD_eq_getElem?_getD, List.getElem?_eq_getElem hi]
  refine ah.step (fun k => by rw [eP.l0]) (ah.pos (by omega) (ah.pos (by omega) ?_))
  rw [hrd, inc i (by omega)]
  by_cases c : l[i] = 2
  ·refine ah.pos c ?_
   rw [show qc (l.drop i) = qc (l.drop (i + 1)) from by unfold qc; rw [List.drop_eq_getElem_cons hi, List.dropWhile_cons, if_pos (by rw [c]; rfl)]]
   exact ih (i + 1) (by omega)
  refine ah.neg c (ah.pos (by omega) ?_)
  rw [Int.toNat_natCast, show qc (l.drop i) = (l.drop i).all (· == 3) from by unfold qc; rw [List.drop_eq_getElem_cons hi, List.dropWhile_cons, if_neg (by simpa using c)]]
  exact ah.now
theorem Eo (l : List Int) (hl : l.length ≤ 200000) : ah (fun k => eP.f k l) (qc l) := by
 have := Ej l hl l.length 0 (by omega)
 exact this
theorem qN {α : Type} {F : Nat → Option α} {v : α} (h : ah F v) : ah (fun k => (F k).bind fun t => some t) v := ah.bind h ah.now
theorem Gw (a : Int) (l : List Int) (hl : l.length ≤ 200000) (b : Bool) (hb : b = decide (a = 6 ∨ a = 7 ∨ a = 13 ∨ a = 14 ∨ a = 15 ∨ a = 17 ∨ a = 28 ∨ a = 30)) (h1 : a ≠ 1) (h2 : ¬ (a = 3 ∨ a = 24)) (h3 : a ≠ 5) (h4 : a ≠ 9) (h5 : a ≠ 10) (h6 : a ≠ 8) :
 ah (fun k => bK.j2 k l (l.length : Int) a b) (iY a l) := by
 unfold iY
 rw [if_neg h1, if_neg h2, if_neg h3, if_neg h4, if_neg h5, if_neg h6]
 refine ah.step (fun k => by rw [bK.j2]) ?_
 by_cases c : a = 6 ∨ a = 7 ∨ a = 13 ∨ a = 14 ∨ a = 15 ∨ a = 17 ∨ a = 28 ∨ a = 30
 ·rw [if_pos c]
  exact ah.pos Z34 (qN (ah.lh fun k => qH l 1 1))
 rw [if_neg c]
 refine ah.neg (by rw [hb]; simpa using c) ?_
 refine ah.both (fun _ => qN (ah.lh fun k => qH l 1 9)) (fun _ => ah.both (fun _ => qN (ah.lh fun k => qH l 0 8)) (fun _ => ?_))
 by_cases c3 : a = 26
 ·rw [if_pos (Or.inl c3)]; exact ah.pos c3 (qN (ah.lh fun k => qH l 2 2))
 refine ah.neg c3 ?_
 by_cases c4 : a = 27
 ·rw [if_pos (Or.inr c4)]; exact ah.pos c4 (qN (ah.lh fun k => qH l 2 2))
 rw [if_neg (show ¬ (a = 26 ∨ a = 27) by omega)]
 refine ah.neg c4 (ah.lh fun k => ?_)
 congr 1
 rw [Bool.eq_iff_iff, beq_iff_eq, decide_eq_true_eq]; omega
theorem Hw {F : Nat → Option Bool} (l : List Int) (hi : Nat) (hF : ∀ k, F k = if (l.length : Int) ≥ 2 then (if (l.length : Int) ≤ (hi : Int) then (if 0 < (l.length : Int) then ((jv.f (rd l 0)).bind fun t153 => (if t153 = true then (if 1 ≤ (l.length : Int) then ((lK.f (l.drop 1) 5).bind fun t155 => (some t155)) else (none)) else (some false))) else (none)) else (some false)) else (some false)) :
 ah F (ifS hi l) := by
 refine ah.lh fun k => ?_
 rw [hF]
 unfold ifS
 by_cases c : 2 ≤ l.length
 ·rw [if_pos (by omega)]
  by_cases c2 : l.length ≤ hi
  ·rw [if_pos (by omega), if_pos (by omega), Jd, decide_eq_true ⟨c, c2⟩, Bool.true_and, Option.bind_some]
   cases kE (rd l 0)
   ·rfl
   rw [if_pos rfl, if_pos (by omega)]; rfl
  rw [if_neg (by omega), decide_eq_false (by omega)]; rfl
 rw [if_neg (by omega), decide_eq_false (by omega)]; rfl
theorem Bq (a : Int) (l : List Int) (hl : l.length ≤ 200000) (b : Bool) (hb : b = decide (a = 9 ∨ a = 10)) (h1 : a ≠ 1) (h2 : ¬ (a = 3 ∨ a = 24)) (h3 : a ≠ 5) :
 ah (fun k => bK.j1 k a l (l.length : Int) a b) (iY a l) := by
 refine ah.step (fun k => by rw [bK.j1]) ?_
 by_cases c1 : a = 9
 ·rw [show iY a l = ifS 3 l from by unfold iY; rw [if_neg h1, if_neg h2, if_neg h3, if_pos c1]]
  exact ah.pos (by rw [hb]; exact decide_eq_true (.inl c1)) (ah.pos c1 (Hw l 3 (fun k => rfl)))
 by_cases c2 : a = 10
 ·rw [show iY a l = ifS 2 l from by unfold iY; rw [if_neg h1, if_neg h2, if_neg h3, if_neg c1, if_pos c2]]
  exact ah.pos (by rw [hb]; exact decide_eq_true (.inr c2)) (ah.neg c1 (Hw l 2 (fun k => rfl)))
 refine ah.neg (by rw [hb]; simp [c1, c2]) ?_
 by_cases c3 : a = 8
 ·refine ah.pos c3 ?_
  rw [show iY a l = exS l 3 3 from by unfold iY; rw [if_neg h1, if_neg h2, if_neg h3, if_neg c1, if_neg c2, if_pos c3]]
  exact qN (ah.lh fun k => qH l 3 3)
 refine ah.neg c3 ?_
 have go : ∀ b : Bool, b = decide (a = 6 ∨ a = 7 ∨ a = 13 ∨ a = 14 ∨ a = 15 ∨ a = 17 ∨ a = 28 ∨ a = 30) → ah (fun k => bK.j2 k l (l.length : Int) a b) (iY a l) := fun b hb => Gw a l hl b hb h1 h2 h3 c1 c2 c3
 by_cases d1 : a = 6
 ·exact ah.pos d1 (go _ (by simp [d1]))
 refine ah.neg d1 ?_
 by_cases d2 : a = 7
 ·exact ah.pos d2 (go _ (by simp [d2]))
 refine ah.neg d2 ?_
 by_cases d3 : a = 13
 ·exact ah.pos d3 (go _ (by simp [d3]))
 refine ah.neg d3 ?_
 by_cases d4 : a = 14
 ·exact ah.pos d4 (go _ (by simp [d4]))
 refine ah.neg d4 ?_
 by_cases d5 : a = 15
 ·exact ah.pos d5 (go _ (by simp [d5]))
 refine ah.neg d5 ?_
 by_cases d6 : a = 17
 ·exact ah.pos d6 (go _ (by simp [d6]))
 refine ah.neg d6 ?_
 by_cases d7 : a = 28
 ·exact ah.pos d7 (go _ (by simp [d7]))
 exact ah.neg d7 (go _ Z31)
theorem Bv (a : Int) (l : List Int) (hl : l.length ≤ 200000) (b : Bool) (hb : b = decide (a = 3 ∨ a = 24)) (h1 : a ≠ 1) : ah (fun k => bK.j0 k a l (l.length : Int) a b) (iY a l) := by
 refine ah.step (fun k => by rw [bK.j0]) ?_
 by_cases c : a = 3 ∨ a = 24
 ·refine ah.pos Z34 ?_
  rw [show iY a l = Am l from by unfold iY; rw [if_neg h1, if_pos c]]
  exact qN (ah.lh fun k => Ak l hl)
 refine ah.neg (by rw [hb]; simpa using c) ?_
 by_cases c1 : a = 5
 ·refine ah.pos c1 ?_
  rw [show iY a l = l.all kZ from by unfold iY; rw [if_neg h1, if_neg c, if_pos c1]]
  exact ah.now
 refine ah.neg c1 ?_
 by_cases d1 : a = 9
 ·exact ah.pos d1 (Bq a l hl _ (by simp [d1]) h1 c c1)
 exact ah.neg d1 (Bq a l hl _ Z31 h1 c c1)
theorem IG (a : Int) (l : List Int) (hl : l.length ≤ 200000) : ah (fun k => bK.f k a l) (iY a l) := by
 unfold bK.f
 by_cases c : a = 1
 ·refine ah.pos c ?_
  rw [show iY a l = qc l from by unfold iY; rw [if_pos c]]
  exact qN (Eo l hl)
 refine ah.neg c ?_
 by_cases d1 : a = 3
 ·exact ah.pos d1 (Bv a l hl _ (by simp [d1]) c)
 exact ah.neg d1 (Bv a l hl _ Z31 c)
end Go.Proofs.YtkbhkonenkgfoaaGreat.Tree
end
section
set_option linter.unusedVariables false
set_option linter.unusedSimpArgs false
namespace Go.Proofs.YtkbhkonenkgfoaaGreat.Tree
open Go Go.RowKit Go.Proofs.YtkbhkonenkgfoaaGreatW.PrintWords Go.Proofs.YtkbhkonenkgfoaaGreat.Q Go.Proofs.YtkbhkonenkgfoaaGreat.Lex
/-- The kinds of a node's kids. -/
def IE (l : List S29) (i : Nat) : List Int := (its l (ax l (i : Int)).f1.toNat ((i + 1 : Nat) : Int)).map fun p => (ax l p).f0
def Jp (l : List S29) (i : Nat) : Bool := kY (ax l (i : Int)) && iY (ax l (i : Int)).f0 (IE l i)
/-- The first node from a place on that is not right; so many are left. -/
def GI (l : List S29) : Nat → Nat → Int × Int
 | 0, _ => (0, 0)
 | m + 1, i => if Jp l i then GI l m (i + 1) else (4, (i : Int))
def uI (l : List S29) : Bool := decide (jD l.length l 1 = some l.length)
def lY (l : List S29) : Int × Int :=
 if 2000 < l.length then (3, 0) else if uI l = false then (2, 0) else if 60 < rZ l [] 0 then (3, 0) else if (ax l 0).f0 ≠ 1 then (4, 0) else GI l l.length 0
/-- Names and texts are short. -/
def short (l : List S29) : Prop := ∀ x ∈ l, x.f2.size ≤ 3000 ∧ x.f4.size ≤ 3000
theorem yB {l : List S29} (h : short l) (i : Nat) (hi : i < l.length) : (ax l (i : Int)).f2.size ≤ 3000 ∧ (ax l (i : Int)).f4.size ≤ 3000 := by
 rw [rE l i hi]
 exact h _ (List.getElem_mem hi)
theorem Fq (l : List S29) (hl : l.length ≤ 100000) (hs : short l) (i : Nat) (hi : i < l.length) (ks : List Int) (hks : ks.length ≤ 100000) (hk : ∀ q ∈ ks, 0 ≤ q ∧ q < (l.length : Int)) (v : Int × Int)
 (hnext : ah (fun k => dA.l0 k l l (l.length : Int) ((i + 1 : Nat) : Int)) v) : ∀ (m idx : Nat) (acc : List Int), ks.length = m + idx → acc.length = idx →
 ah (fun k => dA.l1 k l (i : Int) acc l (l.length : Int) (i : Int) ks (ks.length : Int) (idx : Int) (ax l (i : Int)).f0 (ax l (i : Int)).f1 (ax l (i : Int)).f2 (ax l (i : Int)).f3 (ax l (i : Int)).f4)
  (if kY (ax l (i : Int)) && iY (ax l (i : Int)).f0 (acc ++ (ks.drop idx).map fun p => (ax l p).f0) then v else (4, (i : Int))) := by
 obtain ⟨h2, h4⟩ := yB hs i hi
 intro m
 induction m with
 | zero =>
  intro idx acc h1 ha
  refine ah.step (fun k => by rw [dA.l1]) ?_
  refine ah.neg (by omega) ?_
  rw [List.drop_eq_nil_of_le (by omega), List.map_nil, List.append_nil]
  refine ah.bind (E8 _ h2 h4) ?_
  cases kY (ax l (i : Int)) with
  | false => exact ah.neg (by simp) ah.now
  | true =>
   refine ah.pos rfl (ah.bind (IG _ acc (by omega)) ?_)
   rw [Bool.true_and]
   cases iY (ax l (i : Int)).f0 acc with
   | false => exact ah.neg (by simp) ah.now
   | true =>
    refine ah.pos rfl ?_
    rw [inc i (by omega)]
    exact hnext
 | succ m ih =>
  intro idx acc h1 ha
  have hx : idx < ks.length := by omega
  have hrd : rd ks (idx : Int) = ks[idx] := by simp [rd, List.getD_eq_getElem?_getD, List.getElem?_eq_getElem hx]
  have hq := hk _ (List.getElem_mem hx)
  refine ah.step (fun k => by rw [dA.l1]) ?_
  refine ah.pos (by omega) (ah.pos (by omega) (ah.pos (by omega) ?_))
  rw [hrd, inc idx (by omega)]
  refine ah.pos hq.1 (ah.pos hq.2 (ah.pos (by omega) ?_))
  have := ih (idx + 1) (acc ++ [(ax l ks[idx]).f0]) (by omega) (by simp [ha])
  rw [List.append_assoc] at this
  rw [List.drop_eq_getElem_cons hx, List.map_cons]
  exact this
theorem Fv (l : List S29) (hl : l.length ≤ 100000) (hs : short l) (hw : jD l.length l 1 = some l.length) : ∀ (m i : Nat), l.length = m + i → ah (fun k => dA.l0 k l l (l.length : Int) (i : Int)) (GI l m i) := by
 intro m
 induction m with
 | zero =>
  intro i h1
  refine ah.step (fun k => by rw [dA.l0]) ?_
  exact ah.neg (by omega) ah.now
 | succ m ih =>
  intro i h1
  have hi : i < l.length := by omega
  obtain ⟨hK, hK1, hK2⟩ := wu hl hw i hi
  refine ah.step (fun k => by rw [dA.l0]) ?_
  refine ah.pos (by omega) (ah.pos (by omega) (ah.pos (by omega) (ah.bind hK ?_)))
  have := Fq l hl hs i hi _ hK1 (fun q hq => by have := hK2 q hq; omega) _ (ih (i + 1) (by omega)) _ 0 [] rfl rfl
  rw [List.drop_zero, List.nil_append] at this
  exact this
theorem qy {l : List S29} : jV l 0 = (l.length : Int) ∧ l ≠ [] ↔ jD l.length l 1 = some l.length := by
 unfold jV
 rw [if_neg (by omega), Int.toNat_zero, List.drop_zero]
 cases h : jD l.length l 1 with
 | none =>
  simp only [pG]; constructor; · intro h; omega
  intro h; cases h
 | some m =>
  have := xO _ _ _ _ h
  simp only [pG, Option.some.injEq]
  constructor
  ·intro h; omega
  intro h; exact ⟨by omega, by rintro rfl; simp at this; omega⟩
theorem Hg (l : List S29) (hl : l.length ≤ 100000) (hs : short l) : ah (fun k => dA.f k l) (lY l) := by
 unfold dA.f lY
 by_cases c : 2000 < l.length
 ·rw [if_pos c]; exact ah.pos (by omega) ah.now
 rw [if_neg c]
 refine ah.neg (by omega) ?_
 by_cases c1 : l = []
 ·subst c1
  refine ah.pos rfl (ah.step (fun k => by rw [dA.j0]) (ah.pos rfl ?_))
  exact ah.now
 have hlen : l.length ≠ 0 := fun h => c1 (List.eq_nil_of_length_eq_zero h)
 refine ah.neg (by omega) (ah.bind (xn l hl 0) ?_)
 by_cases hw : jD l.length l 1 = some l.length
 ·rw [show uI l = true from decide_eq_true hw, if_neg (by simp)]
  refine ah.step (fun k => by rw [dA.j0]) ?_
  refine ah.neg (by rw [(qy.2 hw).1]; simp) ?_
  have hwb : nH l l.length = true := wI l l.length (Nat.le_refl _) (fun q hq => by
   obtain ⟨m', _, e⟩ := uB _ _ _ _ q hw (Nat.le_refl 1) hq
   rw [e]; rfl)
  have hd := Hf l hl
  rw [hwb, if_pos rfl] at hd
  refine ah.bind hd ?_
  by_cases c2 : 60 < rZ l [] 0
  ·rw [if_pos c2]; exact ah.pos (by omega) ah.now
  rw [if_neg c2]
  refine ah.neg (by omega) (ah.pos (by omega) ?_)
  by_cases c3 : (ax l 0).f0 = 1
  ·rw [if_neg (fun q => q c3)]
   exact ah.pos c3 (Fv l hl hs hw l.length 0 (by omega))
  rw [if_pos c3]
  exact ah.neg c3 ah.now
 rw [show uI l = false from decide_eq_false hw, if_pos rfl]
 refine ah.step (fun k => by rw [dA.j0]) ?_
 refine ah.pos ?_ ah.now
 rw [bne_iff_ne]
 intro e
 exact hw (qy.1 ⟨e, c1⟩)
end Go.Proofs.YtkbhkonenkgfoaaGreat.Tree
end
section
set_option linter.unusedVariables false
set_option linter.unusedSimpArgs false
namespace Go.Proofs.YtkbhkonenkgfoaaGreat.Par
open Go Go.RowKit Go.Proofs.YtkbhkonenkgfoaaGreatW.PrintWords Go.Proofs.YtkbhkonenkgfoaaGreat.Q Go.Proofs.YtkbhkonenkgfoaaGreat.Lex Go.Proofs.YtkbhkonenkgfoaaGreat.Tree
/-- Where the reader stopped. -/
def plS (ts r : List S37) : Int := match r with
 | t :: _ => t.f3
 | [] => match ts.getLast? with
  | some t => t.f3 + 1
  | none => 0
def GL (ts : List S37) : R (List S29) → List S29 × Int × Int
 | .ok (x, []) => if (lY x).1 = 0 then (x, 0, 0) else ([], (lY x).1, 0)
 | .ok (_, t :: r) => ([], 10, plS ts (t :: r))
 | .error (some r) => ([], 10, plS ts r)
 | .error none => ([], 10, 0)
def small (ts : List S37) : Prop := ∀ t ∈ ts, -9223372036854775808 ≤ t.f3 ∧ t.f3 ≤ 4611686018427387904
theorem xG (ts : List S37) (hp : small ts) (hl : ts.length ≤ 40000) (p : Nat) (b : Bool) : gJ.f ts (p : Int) b = some (plS ts (ts.drop p), (p : Int), b) := by
 have key : ∀ i (hi : i < ts.length), dY ts (i : Int) = ts[i] := by
  intro i hi
  obtain ⟨_, h2, _⟩ := lI ts i _ _ (List.drop_eq_getElem_cons hi)
  exact h2
 unfold gJ.f plS
 by_cases c : p < ts.length
 ·rw [if_pos (by omega), if_pos (by omega), key p c, List.drop_eq_getElem_cons c]
 rw [if_neg (by omega), List.drop_eq_nil_of_le (by omega)]
 by_cases d : 0 < ts.length
 ·have e : wrap64 ((ts.length : Int) - 1) = ((ts.length - 1 : Nat) : Int) := by rw [Tree.w64 (by omega) (by omega)]; omega
  have h := hp _ (List.getElem_mem (show ts.length - 1 < ts.length by omega))
  rw [if_pos (by omega), e, if_pos (by omega), if_pos (by omega), key _ (by omega), Tree.w64 (by omega) (by omega), List.getLast?_eq_getElem?, List.getElem?_eq_getElem (by omega)]
 rw [if_neg (by omega), List.length_eq_zero_iff.1 (by omega : ts.length = 0)]; rfl
theorem Ic (ts : List S37) (hts : ts.length ≤ 40000) (hp : small ts) (n : Nat) (hn : Fn KN ts.length (kG (oC n) n ts)) : ah (fun k => iH.f k ts) (GL ts (kG (oC n) n ts)) := by
 have hT := Em hts (Jq n) rJ n
 match hr : kG (oC n) n ts, hn, hT with
 | .ok (x, r), ⟨_, _, h3⟩, ⟨p, _, hp2, hd, hs, hE⟩ =>
  unfold sz at hs
  unfold iH.f
  by_cases c : p < ts.length
  ·have h1 := xG ts hp hts p false
   cases r with
   | nil => rw [List.drop_eq_nil_iff] at hd; omega
   | cons t u =>
    refine ah.bind hE (ah.neg (by simp) (ah.pos (show (p : Int) < (ts.length : Int) by omega) ?_))
    dsimp only
    rw [h1, hd]
    exact ah.now
  rw [List.drop_eq_nil_of_le (by omega)] at hd
  subst hd
  have hC := Hg x (by omega) (fun y hy => (h3.1.2 y hy).1)
  show ah _ (if (lY x).1 = 0 then (x, 0, 0) else ([], (lY x).1, 0))
  by_cases d : (lY x).1 = 0
  ·rw [if_pos d]
   exact ah.bind hE (ah.neg (by simp) (ah.neg (show ¬ (p : Int) < (ts.length : Int) by omega) (ah.bind hC (ah.pos d ah.now))))
  rw [if_neg d]
  exact ah.bind hE (ah.neg (by simp) (ah.neg (show ¬ (p : Int) < (ts.length : Int) by omega) (ah.bind hC (ah.neg d ah.now))))
 | .error (some r), _, ⟨x, p, _, _, hd, _, hE⟩ =>
  have h1 := xG ts hp hts p true
  unfold iH.f
  refine ah.bind hE (ah.pos rfl ?_)
  dsimp only
  rw [h1, hd]
  exact ah.now
/-- Rounds enough for all tokens of such a number. -/
theorem rounds (m : Nat) : ∃ n0, ∀ n, n0 ≤ n → Tot (oC n) m ∧ ∀ l : List S37, l.length ≤ m → TB l → Fn KN l.length (kG (oC n) n l) := by
 obtain ⟨n0, h0⟩ := tot m
 exact ⟨n0 + m, fun n hn => ⟨h0 n (by omega), fun l hl h => En (h0 n (by omega)) n l hl (by omega) h⟩⟩
end Go.Proofs.YtkbhkonenkgfoaaGreat.Par
end
section
set_option linter.unusedVariables false
set_option linter.unusedSimpArgs false
namespace Go.Proofs.YtkbhkonenkgfoaaGreat.Lex
open Go Go.RowKit Go.Proofs.YtkbhkonenkgfoaaGreatW.PrintWords Go.Proofs.YtkbhkonenkgfoaaGreat.Q
def nums (l : List UInt8) : List Int := l.map fun c => (c.toNat : Int)
theorem inc (i n : Nat) (h : i + 1 ≤ 9223372036854775807) : wrap64 ((i : Int) + 1) = ((i + 1 : Nat) : Int) := by
 rw [w64 _ (by omega)]; omega
/-! quoted -/
/-! number -/
end Go.Proofs.YtkbhkonenkgfoaaGreat.Lex
end
section
set_option linter.unusedVariables false
set_option linter.unusedSimpArgs false
namespace Go.Proofs.YtkbhkonenkgfoaaGreat.Lex
open Go Go.RowKit Go.Proofs.YtkbhkonenkgfoaaGreatW.PrintWords Go.Proofs.YtkbhkonenkgfoaaGreat.Q
theorem Et {c : UInt8} (h : le c = true) : inn c = true := by simp [inn, h]
end Go.Proofs.YtkbhkonenkgfoaaGreat.Lex
end
section
set_option linter.unusedVariables false
set_option linter.unusedSimpArgs false
namespace Go.Proofs.YtkbhkonenkgfoaaGreat.Lex
open Go Go.RowKit Go.Proofs.YtkbhkonenkgfoaaGreatW.PrintWords Go.Proofs.YtkbhkonenkgfoaaGreat.Q
theorem wJ (c : UInt8) : fF.f (c.toNat : Int) = some (le c) := yY c
theorem yH (c : UInt8) : gq.f (c.toNat : Int) = some (di c) := G8 c
/-! skip -/
/-! word -/
def yl (l : List UInt8) : Nat := match l with | [] => 0 | c :: _ => if le c then (l.takeWhile inn).length else 0
theorem F8 (s : ByteArray) (hs : s.size ≤ 140737488351232) (at' : Nat) : ∀ (m n : Nat), s.size = m + (at' + n) → 0 < n →
 ah (fun k => bF.l0 k s (at' : Int) (n : Int)) ((n + (((L s).drop (at' + n)).takeWhile inn).length : Nat) : Int) := by
 intro m
 induction m with
 | zero =>
  intro n h1 h2
  rw [List.drop_eq_nil_of_le (by rw [← iW]; omega)]
  have hw : wrap64 ((at' : Int) + (n : Int)) = ((at' + n : Nat) : Int) := by rw [w64 _ (by omega)]; omega
  refine ah.step (fun k => by rw [bF.l0]) ?_
  simp only [hw]
  exact ah.neg (by omega) ah.now
 | succ m ih =>
  intro n h1 h2
  have hd := lN (L s) (at' + n) (by rw [← iW]; omega)
  have hb := EI s (at' + n)
  generalize (L s).getD (at' + n) 0 = c at hd hb
  have hw : wrap64 ((at' : Int) + (n : Int)) = ((at' + n : Nat) : Int) := by rw [w64 _ (by omega)]; omega
  have hinc : wrap64 ((n : Int) + 1) = ((n + 1 : Nat) : Int) := inc n 0 (by omega)
  have e1 : ((c.toNat : Int) = 95) ↔ c = 95 := zK c 95
  have hnext : inn c = true → ah (fun k => bF.l0 k s (at' : Int) ((n + 1 : Nat) : Int)) ((n + (((L s).drop (at' + n)).takeWhile inn).length : Nat) : Int) := by
   intro hi
   have := ih (n + 1) (by omega) (by omega)
   rw [hd, List.takeWhile_cons, if_pos hi, List.length_cons]
   have e : n + ((((L s).drop (at' + n + 1)).takeWhile inn).length + 1) = n + 1 + (((L s).drop (at' + (n + 1))).takeWhile inn).length := by
    rw [show at' + n + 1 = at' + (n + 1) by omega]; omega
   rw [e]
   exact this
  have hstop : inn c = false → (n + (((L s).drop (at' + n)).takeWhile inn).length) = n := by
   intro hi
   rw [hd, List.takeWhile_cons, if_neg (by rw [hi]; simp)]; rfl
  refine ah.step (fun k => by rw [bF.l0]) ?_
  simp only [hw, hb, hinc, wJ, yH, Option.bind_some]
  refine ah.pos (by omega) (ah.pos (by omega) ?_)
  by_cases c1 : le c = true
  ·exact ah.pos c1 (hnext (Et c1))
  refine ah.neg c1 (ah.pos (by omega) ?_)
  by_cases c2 : di c = true
  ·exact ah.pos c2 (hnext (by simp [inn, c2]))
  refine ah.neg c2 ?_
  by_cases c3 : c = 95
  ·exact ah.pos (e1.2 c3) (hnext (by simp [inn, c3]))
  refine ah.neg (fun h => c3 (e1.1 h)) ?_
  rw [hstop (by simp [inn, c1, c2, c3])]
  exact ah.now
theorem F9 (s : ByteArray) (hs : s.size ≤ 140737488351232) (at' : Nat) (ha : at' ≤ s.size) : ah (fun k => bF.f k s (at' : Int)) ((yl ((L s).drop at') : Nat) : Int) := by
 unfold bF.f
 have hw : wrap64 ((at' : Int) + 0) = ((at' : Nat) : Int) := by rw [w64 _ (by omega)]; omega
 have hinc : wrap64 ((0 : Int) + 1) = ((1 : Nat) : Int) := by rw [w64 _ (by omega)]; rfl
 refine ah.step (fun k => by rw [bF.l0]) ?_
 simp only [hw, hinc]
 by_cases h : at' < s.size
 ·have hd := lN (L s) at' (by rw [← iW]; omega)
  have hb := EI s at'
  generalize (L s).getD at' 0 = c at hd hb
  simp only [hb, wJ, yH, Option.bind_some]
  refine ah.pos (by omega) (ah.pos (by omega) ?_)
  by_cases c1 : le c = true
  ·refine ah.pos c1 ?_
   have := F8 s hs at' (s.size - at' - 1) 1 (by omega) (by omega)
   rw [hd]
   simp only [yl, c1, if_true, List.takeWhile_cons, Et c1, List.length_cons]
   rw [show (List.takeWhile inn (List.drop (at' + 1) (L s))).length + 1 = 1 + (List.takeWhile inn (List.drop (at' + 1) (L s))).length by omega]
   exact this
  refine ah.neg c1 (ah.neg (by omega) ?_)
  rw [hd]
  simp only [yl, c1]
  exact ah.now
 refine ah.neg (by omega) ?_
 rw [List.drop_eq_nil_of_le (by rw [← iW]; omega)]
 exact ah.now
end Go.Proofs.YtkbhkonenkgfoaaGreat.Lex
end
section
set_option linter.unusedVariables false
set_option linter.unusedSimpArgs false
namespace Go.Proofs.YtkbhkonenkgfoaaGreat.Lex
open Go Go.RowKit Go.Proofs.YtkbhkonenkgfoaaGreatW.PrintWords Go.Proofs.YtkbhkonenkgfoaaGreat.Q
/-! number -/
/-! unquoted -/
/-! lists of words -/
theorem AZ (l : List ByteArray) (i : Nat) (h : i < l.length) : nX ByteArray.empty l (i : Int) = l[i] := by
 simp [nX, List.getD_eq_getElem?_getD, List.getElem?_eq_getElem h]
theorem Iq (s : ByteArray) (l : List ByteArray) (hl : l.length ≤ 1000) : ∀ (m i : Nat), l.length = m + i →
 ah (fun k => dh.l0 k s l (i : Int)) (((l.drop i).map L).contains (L s)) := by
 intro m
 induction m with
 | zero =>
  intro i h1
  rw [List.drop_eq_nil_of_le (by omega)]
  refine ah.step (fun k => by rw [dh.l0]) ?_
  exact ah.neg (by omega) ah.now
 | succ m ih =>
  intro i h1
  have hi : i < l.length := by omega
  refine ah.step (fun k => by rw [dh.l0]) ?_
  refine ah.pos (by omega) (ah.pos (by omega) ?_)
  simp only [AZ l i hi]
  rw [List.drop_eq_getElem_cons hi, List.map_cons, List.contains_cons]
  by_cases c : L l[i] = L s
  ·refine ah.pos Z44 ?_
   rw [show (L s == L l[i]) = true from beq_iff_eq.2 c.symm]
   exact ah.now
  refine ah.neg Z44 ?_
  rw [show (L s == L l[i]) = false from beq_eq_false_iff_ne.2 (fun e => c e.symm), Bool.false_or, inc i 0 (by omega)]
  exact ih (i + 1) (by omega)
theorem Ir (s : ByteArray) : ah (fun k => dh.f k s) (isKey (L s)) := by
 unfold dh.f
 exact Iq s _ (by simp) 20 0 (by simp)
end Go.Proofs.YtkbhkonenkgfoaaGreat.Lex
end
section
set_option linter.unusedVariables false
set_option linter.unusedSimpArgs false
namespace Go.Proofs.YtkbhkonenkgfoaaGreat.Lex
open Go Go.RowKit Go.Proofs.YtkbhkonenkgfoaaGreatW.PrintWords Go.Proofs.YtkbhkonenkgfoaaGreat.Q
theorem Bc (s : ByteArray) (hs : s.size ≤ 140737488351232) : ah (fun k => eH.f k s) (fQ (L s)) := by
 unfold eH.f
 have hL := iW s
 by_cases h : (s.size : Int) > 0
 ·refine ah.pos h ?_
  by_cases h2 : (s.size : Int) ≤ 16
  ·refine ah.pos h2 ?_
   have hw := F9 s hs 0 (by omega)
   rw [List.drop_zero] at hw
   refine ah.bind hw ?_
   have hiff : (yl (L s) = (L s).length) ↔ isWord (L s) = true := by
    rcases hl : L s with _ | ⟨c, t⟩
    ·rw [hl, List.length_nil] at hL; omega
    simp only [yl, isWord, Bool.and_eq_true]
    by_cases c1 : le c = true
    ·rw [if_pos c1, qM]
     exact ⟨fun q => ⟨c1, q⟩, fun q => q.2⟩
    rw [if_neg c1]
    constructor
    ·intro q; simp at q
    intro q; exact absurd q.1 c1
   by_cases h3 : isWord (L s) = true
   ·refine ah.pos (by rw [hiff.2 h3, ← hL]) ?_
    have e : fQ (L s) = !isKey (L s) := by
     unfold fQ
     rw [h3, show decide ((L s).length ≤ 16) = true from decide_eq_true (by omega)]
     rfl
    rw [e]
    exact ah.bind (Ir s) ah.now
   refine ah.neg (fun q => h3 (hiff.1 (by omega))) ?_
   have e : fQ (L s) = false := by
    unfold fQ
    rw [show isWord (L s) = false by simpa using h3]
    rfl
   rw [e]
   exact ah.now
  refine ah.neg h2 ?_
  have e : fQ (L s) = false := by
   unfold fQ
   rw [show decide ((L s).length ≤ 16) = false from decide_eq_false (by omega)]
   simp
  rw [e]
  exact ah.now
 refine ah.neg h ?_
 have e : L s = [] := List.eq_nil_of_length_eq_zero (by omega)
 rw [e]
 exact ah.now
end Go.Proofs.YtkbhkonenkgfoaaGreat.Lex
end
