/- Walks over functions of the program, words for them, and what the functions come to; of each text only what this claim uses; no condition. -/
import Derived.Test.YtlenihbmafkegaaZSB0
import Derived.Test.YtlenihbmafkegaaZSB3
import Derived.Test.YtlenihbmafkegaaZSB11
import Derived.Test.YtlenihbmafkegaaZSB14
import Derived.Test.YtlenihbmafkegaaZSB15
import Derived.ProofKit
import Derived.Deep.Slices
section
set_option linter.unusedVariables false
set_option linter.unusedSimpArgs false
namespace Go.Proofs.Ytlenihbmafkegaa.Par
open Go Go.RowKit Go.Proofs.YtlenihbmafkegaaW.PrintWords Go.Proofs.Ytlenihbmafkegaa.Q Go.Proofs.Ytlenihbmafkegaa.Lex Go.Proofs.Ytlenihbmafkegaa.Tree
/-- An expression does not go on with what stands there. -/
def St (l : List S56) : Prop := gq (wd l) = 0 ∧ wd l ≠ [40] ∧ wd l ≠ [91] ∧ wd l ≠ [46]
abbrev SC : List S56 → List S56 → Prop := fun b b' => St b ∧ St b'
abbrev Ce : List S56 → List S56 → Prop := fun b b' => wd b ≠ [101, 108, 115, 101] ∧ wd b' ≠ [101, 108, 115, 101]
structure LF (F : PF) : Prop where
 expr : LC SC F.expr
 block : LC Tr F.block
 bound : ∀ a : Int, 1 ≤ a → LC SC (F.bound a)
 unary : LC SC F.unary
variable {F : PF} {C : List S56 → List S56 → Prop}
theorem iQ (w : List UInt8) (hw : w ≠ [] := by simp) : LC C (must w) := LC.must w hw
theorem qw (H : LF F) (k : Int) (nm : ByteArray) : LC C (iH F k nm) := H.expr.b1 fun e => (iQ [59]).b3 fun _ => Loc.ret _
theorem CW (k : Int) : LC C (pI k) := (iQ [59]).b3 fun _ => Loc.ret _
theorem IP (H : LF F) (e : List S40) : LC C (pO F e) := by
 unfold pO
 split
 ·exact (iQ [61]).b1 (C1 := Tr) fun _ => H.expr.b1 fun v => (iQ [59]).b3 fun _ => Loc.ret _
 exact LC.out
theorem Gg (H : LF F) (e : List S40) : LC C (pX F e) := by
 cases e with
 | nil => exact LC.head (G := fun w l => if w.toList ≠ [61] then (bnd (must [59]) fun _ => ret (nd 17 E 0 E [[]])) l else (.error none : R (List S40))) fun w => LC.ite (fun _ => (iQ [59]).b3 fun _ => Loc.ret _) (fun _ => LC.out)
 | cons x t => exact (LC.head (G := fun w l => if w.toList ≠ [61] then (bnd (must [59]) fun _ => ret (nd 17 E 0 E [x :: t])) l else if x.f0 = 21 then (bnd (must [61]) fun _ => iH F 7 x.f2) l else if x.f0 = 26 then pO F (x :: t) l else (.error (some l) : R (List S40)))
  fun w => LC.ite (fun _ => (iQ [59]).b3 fun _ => Loc.ret _) (fun _ => LC.ite (fun _ => (iQ [61]).b1 (C1 := Tr) fun _ => qw H _ _) (fun _ => LC.ite (fun _ => IP H _) (fun _ => LC.fail))))
theorem Jh (H : LF F) : LC C (ou F) := H.expr.b1 fun e => Gg H e
theorem Ll (H : LF F) : LC Ce (iZ F) :=
 LC.head (G := fun w l =>
  if w.toList = [108, 101, 116] then (bnd tk fun _ => bnd (need 1) fun t => bnd (must [61]) fun _ => iH F 6 t.f1) l
  else if w.toList = [105, 102] then (bnd tk fun _ => bnd F.expr fun e => bnd F.block fun b => fun l2 => if wd l2 = [101, 108, 115, 101] then (bnd tk fun _ => bnd F.block fun c => ret (nd 9 E 0 E [e, b, c])) l2 else .ok (nd 9 E 0 E [e, b], l2)) l
  else if w.toList = [119, 104, 105, 108, 101] then (bnd tk fun _ => bnd F.expr fun e => bnd F.block fun b => ret (nd 10 E 0 E [e, b])) l
  else if w.toList = [98, 114, 101, 97, 107] then (bnd tk fun _ => pI 11) l
  else if w.toList = [99, 111, 110, 116, 105, 110, 117, 101] then (bnd tk fun _ => pI 12) l
  else if w.toList = [121, 105, 101, 108, 100] then (bnd tk fun _ => pI 16) l
  else if w.toList = [114, 101, 116, 117, 114, 110] then (bnd tk fun _ => iH F 13 E) l
  else if w.toList = [112, 117, 116] then (bnd tk fun _ => iH F 14 E) l
  else if w.toList = [101, 109, 105, 116] then (bnd tk fun _ => iH F 15 E) l
  else ou F l) fun w =>
 LC.ite (fun _ => LC.tk.b1 (C1 := Tr) fun _ => LC.need (fun t => ((iQ [61]).b1 (C1 := Tr) fun _ => qw H _ _).loc) (by intro t t' h; simp only [(kC h).2.1]))
 fun _ => LC.ite (fun _ => LC.tk.b1 (C1 := Tr) fun _ => H.expr.b1 fun e => H.block.b3 fun b =>
  Loc.head (G := fun w l2 => if w.toList = [101, 108, 115, 101] then (bnd tk fun _ => bnd F.block fun c => ret (nd 9 E 0 E [e, b, c])) l2 else .ok (nd 9 E 0 E [e, b], l2))
   (fun w => Loc.ite (fun _ => (LC.tk.b1 (C1 := Tr) fun _ => H.block.b3 fun c => Loc.ret _).loc) (fun _ => Loc.ret _))
   (fun b1 b2 x hC h => by
    have h' : (if wd b1 = [101, 108, 115, 101] then (bnd tk fun _ => bnd F.block fun c => ret (nd 9 E 0 E [e, b, c])) b1 else .ok (nd 9 E 0 E [e, b], b1)) = .ok (x, b1) := h
    rw [if_neg hC.1] at h'
    cases h'
    exact if_neg hC.2))
 fun _ => LC.ite (fun _ => LC.tk.b1 (C1 := Tr) fun _ => H.expr.b1 fun e => H.block.b3 fun b => Loc.ret _)
 fun _ => LC.ite (fun _ => LC.tk.b1 (C1 := Tr) fun _ => CW _)
 fun _ => LC.ite (fun _ => LC.tk.b1 (C1 := Tr) fun _ => CW _)
 fun _ => LC.ite (fun _ => LC.tk.b1 (C1 := Tr) fun _ => CW _)
 fun _ => LC.ite (fun _ => LC.tk.b1 (C1 := Tr) fun _ => qw H _ _)
 fun _ => LC.ite (fun _ => LC.tk.b1 (C1 := Tr) fun _ => qw H _ _)
 fun _ => LC.ite (fun _ => LC.tk.b1 (C1 := Tr) fun _ => qw H _ _)
 fun _ => Jh H
theorem AV (H : LF F) : ∀ (n : Nat) (acc : List (List S40)), LC Tr (nO F n acc)
 | 0, acc => LC.out
 | n + 1, acc => LC.head (G := fun w l => if w.toList = [125] then (bnd (must [125]) fun _ => ret (nd 5 E 0 E acc)) l else (bnd (iZ F) fun s => nO F n (acc ++ [s])) l)
  fun w => LC.ite (fun _ => (iQ [125]).b3 fun _ => Loc.ret _) (fun _ => (Ll H).b1 fun s => AV H n _)
theorem Ef (H : LF F) (N : Nat) : LC Tr (oV F N) := (iQ [123]).b1 (C1 := Tr) fun _ => AV H N []
theorem yH {one : Ps (List S40)} {Co : List S56 → List S56 → Prop} (ho : LC Co one) : ∀ (n : Nat) (acc : List (List S40)), LC Tr (kY one n acc)
 | 0, acc => LC.out
 | n + 1, acc => LC.head (G := fun w l => if w.toList = [41] then (bnd (must [41]) fun _ => ret acc) l
  else if acc = [] then (bnd one fun x => kY one n (acc ++ [x])) l else (bnd (must [44]) fun _ => bnd one fun x => kY one n (acc ++ [x])) l)
  fun w => LC.ite (fun _ => (iQ [41]).b3 fun _ => Loc.ret _) (fun _ => LC.ite (fun _ => ho.b1 fun x => yH ho n _) (fun _ => (iQ [44]).b1 (C1 := Tr) fun _ => ho.b1 fun x => yH ho n _))
theorem BO {one : Ps (List S40)} {Co : List S56 → List S56 → Prop} (ho : LC Co one) (N : Nat) : LC Tr (Par.dX one N) := (iQ [40]).b1 (C1 := Tr) fun _ => yH ho N []
theorem Jk : LC Tr nG := LC.need (fun t => Loc.ret _) (by intro t t' h; simp only [(kC h).2.1])
theorem wO (H : LF F) (N : Nat) (k : Int) (nm : ByteArray) : LC Tr (iL F N k nm) := (BO Jk N).b1 fun ps => (Ef H N).b3 fun b => Loc.ret _
theorem MG (H : LF F) (N : Nat) : LC SC (uH F N) :=
 LC.need (f := fun t => fun l => if wd l = [46] then (bnd tk fun _ => bnd (need 1) fun u => bnd (Par.dX F.expr N) fun ks => ret (nd 23 t.f1 0 u.f1 ks)) l else .ok (nd 21 t.f1 0 E [], l))
  (fun t => Loc.head (G := fun w l => if w.toList = [46] then (bnd tk fun _ => bnd (need 1) fun u => bnd (Par.dX F.expr N) fun ks => ret (nd 23 t.f1 0 u.f1 ks)) l else .ok (nd 21 t.f1 0 E [], l))
   (fun w => Loc.ite (fun _ => (LC.tk.b1 (C1 := Tr) fun _ => LC.need (fun u => ((BO H.expr N).b3 fun ks => Loc.ret _).loc) (by intro t t' h; simp only [(kC h).2.1])).loc) (fun _ => Loc.ret _))
   (fun b1 b2 x hC h => by
    have h' : (if wd b1 = [46] then (bnd tk fun _ => bnd (need 1) fun u => bnd (Par.dX F.expr N) fun ks => ret (nd 23 t.f1 0 u.f1 ks)) b1 else .ok (nd 21 t.f1 0 E [], b1)) = .ok (x, b1) := h
    rw [if_neg hC.1.2.2.2] at h'
    cases h'
    exact if_neg hC.2.2.2.2)) (by intro t t' h; simp only [(kC h).2.1])
theorem mM (N : Nat) (t : S56) (r : List S56) : nJ F N (t :: r) = if t.f0 = 2 then .ok (nd 19 E t.f2 E [], r) else if t.f0 = 3 then .ok (nd 20 E 0 t.f1 [], r) else uH F N (t :: r) := rfl
theorem MI (H : LF F) (N : Nat) : LC SC (nJ F N) := by
 have hn := MG H N
 have cns : Cns (nJ F N) := fun l x r h => by
  cases l with
  | nil => cases h
  | cons t u =>
   rw [mM] at h
   by_cases c1 : t.f0 = 2
   ·rw [if_pos c1] at h; cases h; simp
   rw [if_neg c1] at h
   by_cases c2 : t.f0 = 3
   ·rw [if_pos c2] at h; cases h; simp
   rw [if_neg c2] at h
   exact hn.cns _ _ _ h
 refine ⟨⟨fun l x r h => ?_, fun l r h => ?_, fun T T' b b' x T2 hs hC h => ?_, fun T T' b b' T2 hs hT h => ?_⟩, cns⟩
 ·cases l with
  | nil => cases h
  | cons t u =>
   rw [mM] at h
   by_cases c1 : t.f0 = 2
   ·rw [if_pos c1] at h; cases h; exact List.suffix_cons _ _
   rw [if_neg c1] at h
   by_cases c2 : t.f0 = 3
   ·rw [if_pos c2] at h; cases h; exact List.suffix_cons _ _
   rw [if_neg c2] at h
   exact hn.loc.suf _ _ _ h
 ·cases l with
  | nil => cases h; exact List.suffix_refl _
  | cons t u =>
   rw [mM] at h
   by_cases c1 : t.f0 = 2
   ·rw [if_pos c1] at h; cases h
   rw [if_neg c1] at h
   by_cases c2 : t.f0 = 3
   ·rw [if_pos c2] at h; cases h
   rw [if_neg c2] at h
   exact hn.loc.sufE _ _ h
 ·cases T with
  | nil =>
   have := cns _ _ _ h
   simp at this
   omega
  | cons t u =>
   obtain ⟨t', u', rfl, h1, h2⟩ := hs.cons
   obtain ⟨g0, g1, g2⟩ := kC h1
   rw [List.cons_append, mM] at h ⊢
   rw [← g0, ← g1, ← g2]
   by_cases c1 : t.f0 = 2
   ·rw [if_pos c1] at h ⊢
    simp only [Except.ok.injEq, Prod.mk.injEq, List.append_cancel_right_eq] at h
    obtain ⟨rfl, rfl⟩ := h
    exact ⟨u', h2, rfl⟩
   rw [if_neg c1] at h ⊢
   by_cases c2 : t.f0 = 3
   ·rw [if_pos c2] at h ⊢
    simp only [Except.ok.injEq, Prod.mk.injEq, List.append_cancel_right_eq] at h
    obtain ⟨rfl, rfl⟩ := h
    exact ⟨u', h2, rfl⟩
   rw [if_neg c2] at h ⊢
   exact hn.loc.ok (t :: u) (t' :: u') b b' x T2 hs hC h
 cases T with
 | nil =>
  cases b with
  | nil =>
   simp only [List.append_nil, nJ, Except.error.injEq, Option.some.injEq] at h
   exact absurd h.symm hT
  | cons t u =>
   rw [List.nil_append, mM] at h
   by_cases c1 : t.f0 = 2
   ·rw [if_pos c1] at h; cases h
   rw [if_neg c1] at h
   by_cases c2 : t.f0 = 3
   ·rw [if_pos c2] at h; cases h
   rw [if_neg c2] at h
   exact absurd (qF (hn.loc.sufE _ _ h)) hT
 | cons t u =>
  obtain ⟨t', u', rfl, h1, h2⟩ := hs.cons
  obtain ⟨g0, g1, g2⟩ := kC h1
  rw [List.cons_append, mM] at h ⊢
  rw [← g0, ← g1, ← g2]
  by_cases c1 : t.f0 = 2
  ·rw [if_pos c1] at h; cases h
  rw [if_neg c1] at h ⊢
  by_cases c2 : t.f0 = 3
  ·rw [if_pos c2] at h; cases h
  rw [if_neg c2] at h ⊢
  exact hn.loc.er (t :: u) (t' :: u') b b' T2 hs hT h
theorem LU (H : LF F) (N : Nat) : LC SC (lS F N) :=
 LC.head (G := fun w l =>
  if w.toList = [110, 105, 108] then (bnd tk fun _ => ret (nd 18 E 0 E [])) l
  else if w.toList = [115, 116, 97, 116, 101] then (bnd tk fun _ => ret (nd 29 E 0 E [])) l
  else if w.toList = [123] then (bnd tk fun _ => bnd (must [125]) fun _ => ret (nd 25 E 0 E [])) l
  else if w.toList = [102, 110] then (bnd tk fun _ => iL F N 24 E) l
  else if w.toList = [40] then (bnd tk fun _ => bnd F.expr fun e => bnd (must [41]) fun _ => ret e) l
  else nJ F N l) fun w =>
 LC.ite (fun _ => LC.tk.b3 fun _ => Loc.ret _)
 fun _ => LC.ite (fun _ => LC.tk.b3 fun _ => Loc.ret _)
 fun _ => LC.ite (fun _ => LC.tk.b1 (C1 := Tr) fun _ => (iQ [125]).b3 fun _ => Loc.ret _)
 fun _ => LC.ite (fun _ => LC.tk.b1 (C1 := Tr) fun _ => (wO H N _ _).weak)
 fun _ => LC.ite (fun _ => LC.tk.b1 (C1 := Tr) fun _ => H.expr.b1 fun e => (iQ [41]).b3 fun _ => Loc.ret _)
 fun _ => MI H N
theorem yC (H : LF F) (N : Nat) : ∀ (n : Nat) (e : List S40), Loc SC (lm F N n e)
 | 0, e => LC.out.loc
 | n + 1, e => Loc.head (G := fun w l => if w.toList = [40] then (bnd (Par.dX F.expr N) fun ks => lm F N n (nd 22 E 0 E ([e] ++ ks))) l
  else if w.toList = [91] then (bnd tk fun _ => bnd F.expr fun i => bnd (must [93]) fun _ => lm F N n (nd 26 E 0 E [e, i])) l
  else .ok (e, l))
  (fun w => Loc.ite (fun _ => ((BO H.expr N).b3 fun ks => yC H N n _).loc) (fun _ => Loc.ite (fun _ => (LC.tk.b1 (C1 := Tr) fun _ => H.expr.b1 fun i => (iQ [93]).b3 fun _ => yC H N n _).loc) (fun _ => Loc.ret _)))
  (fun b1 b2 x hC h => by
   have h' : (if wd b1 = [40] then (bnd (Par.dX F.expr N) fun ks => lm F N n (nd 22 E 0 E ([e] ++ ks))) b1 else if wd b1 = [91] then (bnd tk fun _ => bnd F.expr fun i => bnd (must [93]) fun _ => lm F N n (nd 26 E 0 E [e, i])) b1 else .ok (e, b1)) = .ok (x, b1) := h
   rw [if_neg hC.1.2.1, if_neg hC.1.2.2.1] at h'
   cases h'
   exact (if_neg hC.2.2.1).trans (if_neg hC.2.2.2.1))
theorem Dl (H : LF F) (N : Nat) : LC SC (kS F N) :=
 LC.head (G := fun w l =>
  if w.toList = [45] ∨ w.toList = [110, 111, 116] ∨ w.toList = [108, 101, 110] then (bnd tk fun _ => bnd F.unary fun e => ret (nd 28 E 0 w [e])) l
  else if w.toList = [115, 112, 97, 119, 110] then (bnd tk fun _ => bnd F.unary fun e => ret (nd 30 E 0 E [e])) l
  else (bnd (lS F N) fun e => lm F N N e) l) fun w =>
 LC.ite (fun _ => LC.tk.b1 (C1 := Tr) fun _ => H.unary.b2 (fun e => Loc.ret _) fun _ _ h => h)
 fun _ => LC.ite (fun _ => LC.tk.b1 (C1 := Tr) fun _ => H.unary.b2 (fun e => Loc.ret _) fun _ _ h => h)
 fun _ => (LU H N).b2 (fun e => yC H N N e) fun _ _ h => h
theorem AU (H : LF F) (a : Int) (ha : 1 ≤ a) : ∀ (n : Nat) (e : List S40), Loc SC (lF F a n e)
 | 0, e => LC.out.loc
 | n + 1, e => Loc.head (G := fun w l => if gq w.toList = a then (bnd tk fun _ => bnd (F.bound (a + 1)) fun e2 => if a = 3 then ret (nd 27 E 0 w [e, e2]) else lF F a n (nd 27 E 0 w [e, e2])) l else .ok (e, l))
  (fun w => Loc.ite (fun _ => (LC.tk.b1 (C1 := Tr) fun _ => (H.bound (a + 1) (by omega)).b2 (C2 := SC) (fun e2 => by
   by_cases c : a = 3
   ·rw [if_pos c]; exact Loc.ret _
   rw [if_neg c]; exact AU H a ha n _) fun _ _ h => h).loc) (fun _ => Loc.ret _))
  (fun b1 b2 x hC h => by
   have h' : (if gq (wd b1) = a then (bnd tk fun _ => bnd (F.bound (a + 1)) fun e2 => if a = 3 then ret (nd 27 E 0 (wB b1) [e, e2]) else lF F a n (nd 27 E 0 (wB b1) [e, e2])) b1 else .ok (e, b1)) = .ok (x, b1) := h
   have n1 : ¬ gq (wd b1) = a := by rw [hC.1.1]; omega
   have n2 : ¬ gq (wd b2) = a := by rw [hC.2.1]; omega
   rw [if_neg n1] at h'
   cases h'
   exact if_neg n2)
theorem DZ (H : LF F) (N : Nat) (a : Int) (ha : 1 ≤ a) : LC SC (iU F N a) := by
 unfold iU
 by_cases c : a = 6
 ·rw [if_pos c]; exact Dl H N
 rw [if_neg c]; exact (H.bound (a + 1) (by omega)).b2 (fun e => AU H a ha N e) fun _ _ h => h
theorem vW : ∀ n, LF (fO n)
 | 0 => ⟨LC.out, LC.out, fun _ _ => LC.out, LC.out⟩
 | n + 1 => ⟨DZ (vW n) n 1 (by omega), Ef (vW n) n, fun a h => DZ (vW n) n a h, Dl (vW n) n⟩
theorem N7 : LC Tr yj :=
 LC.need (fun a => ((iQ [46]).b1 (C1 := Tr) fun _ => LC.need (fun b => ((iQ [47]).b1 (C1 := Tr) fun _ => LC.need (fun c => ((iQ [59]).b3 fun _ => Loc.ret _).loc) (by intro t t' h; simp only [(kC h).2.2])).loc) (by intro t t' h; simp only [(kC h).2.1])).loc) (by intro t t' h; simp only [(kC h).2.1])
end Go.Proofs.Ytlenihbmafkegaa.Par
end
section
set_option linter.unusedVariables false
set_option linter.unusedSimpArgs false
namespace Go.Proofs.Ytlenihbmafkegaa.Par
open Go Go.RowKit Go.Proofs.YtlenihbmafkegaaW.PrintWords Go.Proofs.Ytlenihbmafkegaa.Q Go.Proofs.Ytlenihbmafkegaa.Lex Go.Proofs.Ytlenihbmafkegaa.Tree
abbrev FN : List UInt8 := [102, 110]
abbrev US : List UInt8 := [117, 115, 101]
variable {F : PF} {N m0 : Nat}
abbrev Cm : List S56 → List S56 → Prop := fun b b' => (wd b ≠ US ∧ wd b ≠ FN) ∧ wd b' ≠ US ∧ wd b' ≠ FN
theorem CB (H : LF F) (nm : ByteArray) (v : Int) : ∀ (n : Nat) (acc : List (List S40)), Loc Cm (nY F N nm v n acc)
 | 0, acc => LC.out.loc
 | n + 1, acc => Loc.head (G := fun w l => if w.toList = [102, 110] then (bnd tk fun _ => bnd (need 1) fun t => bnd (iL F N 3 t.f1) fun f => nY F N nm v n (acc ++ [f])) l else .ok (nd 1 nm v E acc, l))
  (fun w => Loc.ite (fun _ => (LC.tk.b1 (C1 := Tr) fun _ => LC.need (fun t => ((wO H N 3 t.f1).b3 fun f => CB H nm v n _).loc) (by intro t t' h; simp only [(kC h).2.1])).loc) (fun _ => Loc.ret _))
  (fun b1 b2 x hC h => by
   have h' : (if wd b1 = [102, 110] then (bnd tk fun _ => bnd (need 1) fun t => bnd (iL F N 3 t.f1) fun f => nY F N nm v n (acc ++ [f])) b1 else .ok (nd 1 nm v E acc, b1)) = .ok (x, b1) := h
   rw [if_neg hC.1.2] at h'
   cases h'
   exact if_neg hC.2.2)
theorem Fv (H : LF F) (nm : ByteArray) (v : Int) : ∀ (n : Nat) (acc : List (List S40)), Loc Cm (mg F N nm v n acc)
 | 0, acc => LC.out.loc
 | n + 1, acc => Loc.head (G := fun w l => if w.toList = [117, 115, 101] then (bnd tk fun _ => bnd yj fun u => mg F N nm v n (acc ++ [u])) l else nY F N nm v N acc l)
  (fun w => Loc.ite (fun _ => (LC.tk.b1 (C1 := Tr) fun _ => N7.b3 fun u => Fv H nm v n _).loc) (fun _ => CB H nm v N acc))
  (fun b1 b2 x hC h => by
   have h' : (if wd b1 = [117, 115, 101] then (bnd tk fun _ => bnd yj fun u => mg F N nm v n (acc ++ [u])) b1 else nY F N nm v N acc b1) = .ok (x, b1) := h
   rw [if_neg hC.1.1] at h'
   obtain ⟨T2', e1, e2⟩ := (CB H nm v N acc).ok [] [] b1 b2 x [] rfl (fun _ => hC) h'
   cases T2' with
   | nil => exact (if_neg hC.2.1).trans e2
   | cons a b => cases e1)
theorem Gz (H : LF F) : LC Cm (jO F N) :=
 (iQ [109, 111, 100, 117, 108, 101]).b1 (C1 := Tr) fun _ => LC.need (f := fun t => bnd (need 2) fun u => bnd (must [59]) fun _ => mg F N t.f1 u.f2 N [])
  (fun t => (LC.need (f := fun u => bnd (must [59]) fun _ => mg F N t.f1 u.f2 N []) (fun u => ((iQ [59]).b3 fun _ => Fv H _ _ N []).loc) (by intro t t' h; simp only [(kC h).2.2])).loc) (by intro t t' h; simp only [(kC h).2.1])
end Go.Proofs.Ytlenihbmafkegaa.Par
end
section
set_option linter.unusedVariables false
set_option linter.unusedSimpArgs false
namespace Go.Proofs.Ytlenihbmafkegaa.Show
open Go Go.RowKit Go.Proofs.YtlenihbmafkegaaW.PrintWords Go.Proofs.Ytlenihbmafkegaa.Q Go.Proofs.Ytlenihbmafkegaa.Lex Go.Proofs.Ytlenihbmafkegaa.Tree Go.Proofs.Ytlenihbmafkegaa.Par
/-- Of tokens that are alike but for their places the same is read. -/
theorem IU {n : Nat} {ts ts' : List S56} (h : Sim ts ts') {x : List S40} {r : List S56} (e : jO (fO n) n ts = .ok (x, r)) : ∃ r', r.length = r'.length ∧ jO (fO n) n ts' = .ok (x, r') := by
 have hL := (Gz (F := fO n) (N := n) (vW n)).loc
 obtain ⟨T2', e1, e2⟩ := hL.ok ts ts' [] [] x r h (fun _ => ⟨⟨by rw [mY]; simp, by rw [mY]; simp⟩, by rw [mY]; simp, by rw [mY]; simp⟩) (by rw [List.append_nil, List.append_nil]; exact e)
 rw [List.append_nil, List.append_nil] at e2
 exact ⟨T2', e1.len, e2⟩
/-- A right tree's tokens: they are written, they are read again, as the tree they were written of. -/
structure Nh (l : List S40) (T : List S56) : Prop where
 ev : ag (fun k => iw.f k l) (T, (0 : Int), (0 : Int))
 good : TG T
 len : T.length ≤ 12 * l.length
 read : ∃ N0, ∀ N, N0 ≤ N → jO (fO N) N T = .ok (l, [])
theorem II {l : List S40} (hl : l.length ≤ 100000) (hs : D6 l) (h : (jK l).1 = 0) : ∃ T, Nh l T := by
 obtain ⟨x, t, K, D, m⟩ := EZ h
 obtain ⟨tt, hg⟩ := NZ m.good
 have hx : l = x :: t := m.eq
 subst hx
 have hkk : gV x.f0 K = true := by rw [m.kind]; exact m.kids
 have hG : GS (x :: t) [x.f0] [lX x tt] := by
  have := GS.cons x t [] K [] tt [] m.cnt m.fld hkk hg GS.nil
  rwa [List.append_nil] at this
 obtain ⟨D1, hfo⟩ := hG.fo
 have hn : ∀ y ∈ x :: t, ¬ (((x :: t).length : Int) < y.f1) := fun y hy => by have := hfo.kids y hy; omega
 have hE := GX hG (x :: t) [] 0 hl (by simp) hn (fun y hy => by have := hs y hy; omega)
 have hgood := hG.good hs _ (.head _)
 have hlen := hG.O7
 simp only [tot, List.flatten_cons, List.flatten_nil, List.append_nil, List.length_cons, List.length_nil] at hlen
 have hP : EvP (x :: t) 0 (lX x tt) := by
  cases hE with
  | cons h _ => exact h
 refine ⟨lX x tt, ?_, hgood, Z24, ?_⟩
 ·unfold iw.f
  have hC := vw (x :: t) hl (fun y hy => ⟨(hs y hy).1, (hs y hy).2.1⟩)
  refine ag.bind hC (ag.pos h (ag.bind (hP [] ?_) ag.now))
  have hl2 := hl
  simp only [List.length_cons] at hl2
  simp only [List.length_nil]; omega
 obtain ⟨es, e1, e2⟩ := hg.cls
 rw [e1]
 exact G7 m.kind m.cnt m.fld m.kids e2
/-- The text of tokens. -/
def txt (T : List S56) : ByteArray := S (kM (T.map wr))
theorem NC {T : List S56} (hl : T.length ≤ 4611686018427387904) (hg : TG T) (h3 : (kM (T.map wr)).length ≤ 4611686018427387904) : ag (fun k => dG.f k T) (txt T) :=
 Nk T hl (fun t ht => by have := (hg t ht).2.1; omega) h3
theorem KX (t : S56) (h : t.f1.size ≤ 3000) : (wr t).length ≤ 6002 := by
 unfold wr
 have hq : ∀ s : List UInt8, (s.flatMap kW).length ≤ 2 * s.length := fun s => by
  induction s with
  | nil => simp
  | cons c s ih =>
   rw [List.flatMap_cons, List.length_append]
   have : (kW c).length ≤ 2 := by
    unfold kW
    repeat' split
    all_goals simp
   simp only [List.length_cons]
   omega
 have h2 := dJ t.f1
 split
 ·rw [Du]
  have := hq (L t.f1)
  omega
 omega
theorem zJ : ∀ ws : List (List UInt8), (∀ w ∈ ws, w.length ≤ 6002) → (kN ws).length ≤ 6003 * ws.length
 | [], _ => by simp [kN]
 | a :: ws, h => by
  have h1 := h a (.head _)
  have h2 := zJ ws (fun w hw => h w (.tail _ hw))
  simp only [kN, List.length_append, List.length_cons]
  omega
theorem F8 {T : List S56} (hg : TG T) : (kM (T.map wr)).length ≤ 6003 * T.length := by
 have h : ∀ w ∈ T.map wr, w.length ≤ 6002 := fun w hw => by
  obtain ⟨t, ht, rfl⟩ := List.mem_map.1 hw
  exact KX t (hg t ht).2.1
 cases T with
 | nil => simp [kM]
 | cons a T =>
  have h1 := h (wr a) (by simp)
  have h2 := zJ (T.map wr) (fun w hw => h w (by rw [List.map_cons]; exact .tail _ hw))
  simp only [List.map_cons, kM, List.length_append, List.length_cons, List.length_map] at *
  omega
theorem Lu {l : List S40} {T : List S56} (hl : l.length ≤ 100000) (h : Nh l T) : ag (fun k => dA.f k l) (if (txt T).size ≤ 8192 then (txt T, 0, 0) else ((⟨#[]⟩ : ByteArray), 3, 0)) := by
 have h1 := F8 h.good
 have h2 := h.len
 unfold dA.f
 have hE := NC (T := T) (by omega) h.good (by omega)
 refine ag.bind h.ev (ag.pos rfl (ag.bind hE ?_))
 by_cases c : (txt T).size ≤ 8192
 ·rw [if_pos c]; exact ag.neg (show ¬ (((txt T).size : Int) > 8192) by omega) ag.now
 rw [if_neg c]; exact ag.pos (show ((txt T).size : Int) > 8192 by omega) ag.now
theorem IV {l : List S40} (hl : l.length ≤ 100000) (hs : D6 l) (h : (jK l).1 ≠ 0) : ag (fun k => dA.f k l) ((⟨#[]⟩ : ByteArray), (jK l).1, (jK l).2) := by
 unfold dA.f iw.f
 exact ag.bind (ag.bind (vw l hl (fun y hy => ⟨(hs y hy).1, (hs y hy).2.1⟩)) (ag.neg h ag.now)) (ag.neg h ag.now)
/-- What is written is read: the tokens of the text, but for their places, and the tree. -/
theorem L9 {T : List S56} (hg : TG T) : ∃ us, Lex.scan (L (txt T)) = .ok us ∧ us.map Ac = T.map fun t => (t.f0, L t.f1, t.f2) := by
 obtain ⟨us, h1, h2⟩ := Ez (T.map fun t => (t.f0, L t.f1, t.f2)) (fun t ht => by
  obtain ⟨a, ha, rfl⟩ := List.mem_map.1 ht
  exact (hg a ha).1)
 refine ⟨us, ?_, h2⟩
 unfold txt
 rw [L_S]
 rw [List.map_map] at h1
 exact h1
theorem NH {T : List S56} {us : List Tk} (h : us.map Ac = T.map fun t => (t.f0, L t.f1, t.f2)) (n : Nat) : Sim T (us.map (tkS n)) := by
 unfold Sim
 have e1 : (us.map (tkS n)).map core = (us.map Ac).map (fun k => ((k.1, S k.2.1, k.2.2) : Int × ByteArray × Int)) := by rw [List.map_map, List.map_map]; rfl
 rw [e1, h, List.map_map]
 apply List.map_congr_left
 intro t _
 show (t.f0, t.f1, t.f2) = (t.f0, S (L t.f1), t.f2)
 rw [show S (L t.f1) = t.f1 from ru (L_S _)]
theorem Ls {T : List S56} {us : List Tk} (hg : TG T) (h : us.map Ac = T.map fun t => (t.f0, L t.f1, t.f2)) (n : Nat) : TB (us.map (tkS n)) := by
 intro t ht
 obtain ⟨u, hu, rfl⟩ := List.mem_map.1 ht
 have hm : Ac u ∈ T.map fun t => (t.f0, L t.f1, t.f2) := by rw [← h]; exact List.mem_map_of_mem hu
 obtain ⟨a, ha, e⟩ := List.mem_map.1 hm
 obtain ⟨_, h2, h3⟩ := hg a ha
 simp only [Ac, Prod.mk.injEq] at e
 obtain ⟨e1, e2, e3⟩ := e
 refine ⟨?_, ?_⟩
 ·show (S u.text).size ≤ 3000
  rw [fC, ← e2]
  have := dJ a.f1
  omega
 show u.n ≤ _
 rw [← e3]; exact h3
theorem LD {T : List S56} (hs : (txt T).size ≤ 8192) {us : List Tk} (h : Lex.scan (L (txt T)) = .ok us) : ag (fun k => dZ.f k (txt T)) (us.map (tkS (txt T).size), 0, 0) := by
 have hS := Nl (txt T)
 unfold Bz at hS
 rw [if_pos hs, h] at hS
 exact hS
theorem LK {l : List S40} {T : List S56} (h : Nh l T) (hc : (jK l).1 = 0) (hs : (txt T).size ≤ 8192) : ag (fun k => dW.f k (txt T)) (l, 0, 0) := by
 obtain ⟨us, hu, hk⟩ := L9 h.good
 have hS := LD hs hu
 obtain ⟨g1, g2⟩ := FP hu
 have hz := dJ (txt T)
 have hlen : (us.map (tkS (txt T).size)).length ≤ 9000 := by rw [List.length_map]; omega
 obtain ⟨N0, hr⟩ := h.read
 obtain ⟨n0, hn⟩ := rounds 9000
 obtain ⟨r', e1, e2⟩ := IU (n := N0 + n0) (NH hk (txt T).size) (hr (N0 + n0) (by omega))
 obtain rfl : r' = [] := List.length_eq_zero_iff.1 e1.symm
 have hsm : small (us.map (tkS (txt T).size)) := by
  intro t ht
  obtain ⟨u, hu2, rfl⟩ := List.mem_map.1 ht
  show -9223372036854775808 ≤ (((txt T).size - u.rem : Nat) : Int) ∧ (((txt T).size - u.rem : Nat) : Int) ≤ 4611686018427387904
  omega
 have hA := Le _ (by omega) hsm (N0 + n0) ((hn (N0 + n0) (by omega)).2 _ hlen (Ls h.good hk _))
 rw [e2] at hA
 have ha : Oo (us.map (tkS (txt T).size)) (.ok (l, [])) = (l, 0, 0) := by
  show (if (jK l).1 = 0 then (l, (0 : Int), (0 : Int)) else ([], (jK l).1, 0)) = _
  rw [if_pos hc]
 rw [ha] at hA
 unfold dW.f
 exact ag.bind hS (ag.pos rfl (ag.bind hA ag.now))
end Go.Proofs.Ytlenihbmafkegaa.Show
end
section
set_option linter.unusedVariables false
set_option linter.unusedSimpArgs false
namespace Go.Proofs.Ytlenihbmafkegaa
open Go.RowKit Go.ChangeShapes Go.WideShapes Go.Proofs.YtlenihbmafkegaaW.PrintWords
/-- What reads as data of a type is of a kind. -/
def jr {H : Type} (enc : TypeId × Value → H) (P : Program) (w : World) (t : TypeId) {α : Type} (d : Kd α) (B : α → Prop) : Prop :=
 ∀ (fuel : Nat) (cs : List Value) (x : DataW H × List MemPlace), DataW.trod enc P w 0 (fun _ => true) true fuel t cs = some x → ∃ a, d.K w a cs ∧ B a
/-- .. of a struct's fields, from one on. -/
def nR {H : Type} (enc : TypeId × Value → H) (P : Program) (w : World) (fs : List Field) (off : Nat) {α : Type} (d : Kd α) (B : α → Prop) : Prop :=
 ∀ (n : Nat) (cs : List Value) (xs : List (DataW H × List MemPlace)), xs.length = fs.length →
  (∀ (i : Nat) (f : Field), fs[i]? = some f → DataW.trod enc P w 0 (fun _ => true) true n f.type ((cs.drop f.offset).take (P.cellsOf f.type)) = xs[i]?) → cs.length = off + d.sz → ∃ a, d.K w a (cs.drop off) ∧ B a
section
variable {H : Type} {enc : TypeId × Value → H} {P : Program} {w : World} {t e : TypeId}
theorem jr.int {k : IntKind} (ht : P.underlying t = some (.int k)) : jr enc P w t (Kd.int k) (fun n => (Lit.int k n).wf = true) := by
 intro fuel cs x h
 obtain ⟨n, rfl, _, hw⟩ := DataW.trod_int ht h
 exact ⟨n, rfl, hw⟩
theorem jr.string (ht : P.underlying t = some .string) : jr enc P w t Kd.string (fun s => s.size ≤ maxLen) := by
 intro fuel cs x h
 obtain ⟨s, rfl, _, hs⟩ := DataW.trod_string ht h
 exact ⟨s, rfl, hs⟩
theorem jr.bool (ht : P.underlying t = some .bool) : jr enc P w t Kd.bool (fun _ => True) := by
 intro fuel cs x h
 obtain ⟨b, rfl, _⟩ := DataW.trod_bool ht h
 exact ⟨b, rfl, trivial⟩
theorem jr.iso {α β : Type} {d : Kd α} {B : α → Prop} (h : jr enc P w t d B) (f : β → α) (g : α → β) (hfg : ∀ a, f (g a) = a) : jr enc P w t (Kd.iso d f) (fun b => B (f b)) := by
 intro fuel cs x hx
 obtain ⟨a, ha, hb⟩ := h fuel cs x hx
 exact ⟨g a, by show d.K w (f (g a)) cs; rw [hfg]; exact ha, by show B (f (g a)); rw [hfg]; exact hb⟩
theorem jr.slice {α : Type} {d : Kd α} {B : α → Prop} (ht : P.underlying t = some (.slice e)) (hc : P.cellsOf e = d.sz) (he : jr enc P w e d B) :
 jr enc P w t (Kd.slice e d) (fun l => l.length ≤ maxLen ∧ ∀ a ∈ l, B a) := by
 intro fuel cs x h
 rcases Go.Deep.open_slice ht h with ⟨rfl, _⟩ | ⟨a, len, cap, m, n, D, Pl, rfl, _, hl, hm, hmm, _, hx⟩
 ·exact ⟨[], ⟨none, 0, rfl, Nat.le_refl _, rfl, by simp, fun h => absurd h (by simp)⟩, by simp, by simp⟩
 have hlm : len ≤ m := by simp at hmm; omega
 have each : ∀ i, i < len → ∃ q : α × List Value, q.2.length = d.sz ∧ d.K w q.1 q.2 ∧ (∀ j u, q.2[j]? = some u → w.cell? (a.add (i * d.sz + j)) = some u) ∧ B q.1 := by
  intro i hi
  obtain ⟨cs', h1, h2⟩ := hx i (by omega)
  obtain ⟨b, hb, hB⟩ := he n cs' _ h2
  obtain ⟨_, h4, h5⟩ := World.cells?_some h1
  refine ⟨(b, cs'), by rw [← hc]; exact h4, hb, fun j u hu => ?_, hB⟩
  have hj : j < cs'.length := (List.getElem?_eq_some_iff.1 hu).1
  have := h5 j (by omega)
  rw [Go.Deep.add_add, hc] at this
  rw [this, hu]
 by_cases hz : len = 0
 ·subst hz
  exact ⟨[], ⟨some a, cap, rfl, Nat.zero_le _, rfl, by simp, fun h => absurd h (by simp)⟩, by simp, by simp⟩
 obtain ⟨q0, _⟩ := each 0 (by omega)
 have : Inhabited (α × List Value) := ⟨q0⟩
 obtain ⟨q, hq⟩ := Go.Deep.choose_lt each
 refine ⟨(List.range len).map fun i => (q i).1, ⟨some a, cap, by simp, by simpa using hl, by simp, ?_, ?_⟩, ?_, ?_⟩
 ·simp; unfold maxLen at hm; omega
 ·intro _
  refine ⟨a, rfl, fun j p hp => ?_⟩
  simp only [List.getElem?_map, List.getElem?_range, Option.map_eq_some_iff] at hp
  obtain ⟨i, hi, rfl⟩ := hp
  have hj : j < len := by
   by_cases c : j < len
   ·exact c
   simp [c] at hi
  have hi' : i = j := by simpa [hj] using hi.symm
  subst hi'
  exact ⟨(q i).2, (hq i hj).1, (hq i hj).2.1, (hq i hj).2.2.1⟩
 ·simp; omega
 intro b hb
 simp only [List.mem_map, List.mem_range] at hb
 obtain ⟨i, hi, rfl⟩ := hb
 exact (hq i hi).2.2.2
theorem nR.last {α : Type} {d : Kd α} {B : α → Prop} {f : Field} {off : Nat} (ho : f.offset = off) (hc : P.cellsOf f.type = d.sz) (h : jr enc P w f.type d B) : nR enc P w [f] off d B := by
 intro n cs xs hl hx hcs
 match xs, hl with
 | [x], _ =>
  have h0 := hx 0 f rfl
  rw [ho, hc, List.take_of_length_le (by simp; omega)] at h0
  exact h n _ _ h0
theorem nR.cons {α β : Type} {d : Kd α} {d' : Kd β} {B : α → Prop} {B' : β → Prop} {f : Field} {fs : List Field} {off : Nat} (ho : f.offset = off) (hc : P.cellsOf f.type = d.sz) (h : jr enc P w f.type d B)
 (hr : nR enc P w fs (off + d.sz) d' B') : nR enc P w (f :: fs) off (Kd.pair d d') (fun x => B x.1 ∧ B' x.2) := by
 intro n cs xs hl hx hcs
 match xs, hl with
 | x :: xs, hl =>
  have h0 := hx 0 f rfl
  rw [ho, hc] at h0
  obtain ⟨a, ha, hB⟩ := h n _ _ h0
  have hcs' : cs.length = off + (d.sz + d'.sz) := hcs
  obtain ⟨b, hb, hB'⟩ := hr n cs xs (by simpa using hl) (fun i g hg => by simpa using hx (i + 1) g (by simpa using hg)) (by omega)
  refine ⟨(a, b), ⟨(cs.drop off).take d.sz, cs.drop (off + d.sz), ?_, ha, hb⟩, hB, hB'⟩
  rw [← List.drop_drop, List.take_append_drop]
theorem jr.struct {α : Type} {d : Kd α} {B : α → Prop} {fs : Array Field} (ht : P.underlying t = some (.struct fs)) (hc : P.cellsOf t = d.sz) (h : nR enc P w fs.toList 0 d B) : jr enc P w t d B := by
 intro fuel cs x hx
 obtain ⟨xs, n, _, _, h1, h2, h3⟩ := DataW.trod_struct ht hx
 have := h n cs xs (by simpa using h2) (fun i f hf => h3 i f (by simpa using hf)) (by omega)
 simpa using this
end
end Go.Proofs.Ytlenihbmafkegaa
end
section
set_option linter.unusedVariables false
set_option linter.unusedSimpArgs false
namespace Go.Proofs.Ytlenihbmafkegaa
open Go.RowKit Go.ChangeShapes Go.WideShapes Go.Proofs.YtlenihbmafkegaaW.PrintWords Go.Proofs.Ytlenihbmafkegaa.Q
def Ij (l : List S40) : Prop := l.length ≤ maxLen ∧ ∀ x ∈ l, (Lit.int .i64 x.f0).wf = true ∧ (Lit.int .i64 x.f1).wf = true ∧ x.f2.size ≤ maxLen ∧ (Lit.int .i64 x.f3).wf = true ∧ x.f4.size ≤ maxLen
theorem BI {H : Type} (enc : TypeId × Value → H) (w : World) : jr enc Try.prog w 40 k40 (fun x => (Lit.int .i64 x.f0).wf = true ∧ (Lit.int .i64 x.f1).wf = true ∧ x.f2.size ≤ maxLen ∧ (Lit.int .i64 x.f3).wf = true ∧ x.f4.size ≤ maxLen) :=
 jr.iso (jr.struct Try.underlying40 (by kernel_rfl) (nR.cons rfl (by kernel_rfl) (jr.int Try.underlying3) (nR.cons rfl (by kernel_rfl) (jr.int Try.underlying3) (nR.cons rfl (by kernel_rfl) (jr.string Try.underlying9) (nR.cons rfl (by kernel_rfl) (jr.int Try.underlying2) (nR.last rfl (by kernel_rfl) (jr.string Try.underlying9)))))))
  (fun x : S40 => (x.f0, x.f1, x.f2, x.f3, x.f4)) (fun t => ⟨t.1, t.2.1, t.2.2.1, t.2.2.2.1, t.2.2.2.2⟩) (fun _ => rfl)
theorem zX {H : Type} (enc : TypeId × Value → H) (w : World) : jr enc Try.prog w 22 (Kd.slice 40 k40) Ij := jr.slice (H := H) (enc := enc) (w := w) Try.underlying22 (by kernel_rfl) (BI enc w)
end Go.Proofs.Ytlenihbmafkegaa
end
section
set_option linter.unusedVariables false
set_option linter.unusedSimpArgs false
namespace Go.Proofs.Ytlenihbmafkegaa.Show
open Go Go.RowKit Go.Proofs.YtlenihbmafkegaaW.PrintWords Go.Proofs.Ytlenihbmafkegaa.Q Go.Proofs.Ytlenihbmafkegaa.Lex Go.Proofs.Ytlenihbmafkegaa.Tree Go.Proofs.Ytlenihbmafkegaa.Par
set_option maxRecDepth 100000 in
theorem GH : bH.f 300 = some true := by kernel_rfl
theorem Jz : ag (fun k => bH.f k) true := ag.LZ (fun k r h => bH.mono k r h) 300 GH
theorem uV : ag (fun k => (bH.f k).bind fun t => some t) true := ag.bind Jz ag.now
def NS (l : List S40) : Prop := l.length ≤ 2100 ∧ ∀ x ∈ l, x.f2.size ≤ 2000 ∧ x.f4.size ≤ 2000
theorem JZ (l : List S40) (hl : l.length ≤ 2100) : ∀ (m i : Nat), l.length = m + i →
 ∃ b, ag (fun k => aH.l0 k l (i : Int)) b ∧ (b = true → ∀ j, i ≤ j → ∀ h : j < l.length, l[j].f2.size ≤ 2000 ∧ l[j].f4.size ≤ 2000) := by
 intro m
 induction m with
 | zero =>
  intro i h1
  refine ⟨true, ag.step (fun k => by rw [aH.l0]) (ag.neg (by omega) ag.now), fun _ j h2 h3 => by omega⟩
 | succ m ih =>
  intro i h1
  have hi : i < l.length := by omega
  by_cases c1 : (l[i].f2.size : Int) > 2000
  ·refine ⟨false, ag.step (fun k => by rw [aH.l0]) (ag.pos (by omega) (ag.pos (by omega) ?_)), fun h => by cases h⟩
   rw [vV l i hi]
   exact ag.pos c1 ag.now
  by_cases c2 : (l[i].f4.size : Int) > 2000
  ·refine ⟨false, ag.step (fun k => by rw [aH.l0]) (ag.pos (by omega) (ag.pos (by omega) ?_)), fun h => by cases h⟩
   rw [vV l i hi]
   exact ag.neg c1 (ag.pos c2 ag.now)
  obtain ⟨b, hb, hp⟩ := ih (i + 1) (by omega)
  refine ⟨b, ag.step (fun k => by rw [aH.l0]) (ag.pos (by omega) (ag.pos (by omega) ?_)), fun h j h2 h3 => ?_⟩
  ·rw [vV l i hi, Tree.inc i (by omega)]
   exact ag.neg c1 (ag.neg c2 hb)
  rcases Nat.eq_or_lt_of_le h2 with rfl | h2
  ·exact ⟨by omega, by omega⟩
  exact hp h j h2 h3
theorem Ko (l : List S40) : ∃ b, ag (fun k => aH.f k l) b ∧ (b = true → NS l) := by
 unfold aH.f
 by_cases c : (l.length : Int) > 2100
 ·exact ⟨false, ag.pos c ag.now, fun h => by cases h⟩
 obtain ⟨b, hb, hp⟩ := JZ l (by omega) l.length 0 (by omega)
 refine ⟨b, ag.neg c hb, fun h => ⟨by omega, fun x hx => ?_⟩⟩
 obtain ⟨j, hj, rfl⟩ := List.getElem_of_mem hx
 exact hp h j (Nat.zero_le _) hj
theorem LG (x : List S40) (hx : x.length ≤ 100000) : ∀ (m i : Nat), x.length = m + i → ag (fun k => aU.l0 k x x (i : Int)) true := by
 intro m
 induction m with
 | zero =>
  intro i h
  refine ag.step (fun k => by rw [aU.l0]) ?_
  exact ag.neg (by omega) ag.now
 | succ m ih =>
  intro i h
  refine ag.step (fun k => by rw [aU.l0]) ?_
  rw [Tree.inc i (by omega)]
  exact ag.pos (by omega) (ag.pos (by omega) (ag.pos (by omega) (ag.neg (by simp) (ih (i + 1) (by omega)))))
theorem LH (x : List S40) (hx : x.length ≤ 100000) : ag (fun k => aU.f k x x) true := by
 unfold aU.f
 exact ag.pos rfl (LG x hx x.length 0 (by omega))
theorem KD : (⟨#[]⟩ : ByteArray).toList = ([] : List UInt8) := by kernel_rfl
theorem ShowBack (l : List S40) (h3 : ∀ x ∈ l, x.f3 ≤ 9223372036854775807) : ∃ k, dE.f k l = some true := by
 apply ag.one
 unfold dE.f
 obtain ⟨x, hx, px⟩ := Ko l
 refine ag.bind hx ?_
 cases x with
 | false => exact ag.neg (by simp) uV
 | true =>
  obtain ⟨hl, hs⟩ := px rfl
  have hg : D6 l := fun y hy => ⟨by have := (hs y hy).1; omega, by have := (hs y hy).2; omega, h3 y hy⟩
  have hC := vw l (by omega) (fun y hy => ⟨(hg y hy).1, (hg y hy).2.1⟩)
  refine ag.pos rfl ?_
  by_cases c : (jK l).1 = 0
  ·obtain ⟨T, hT⟩ := II (by omega) hg c
   have hE := Lu (by omega) hT
   by_cases d : (txt T).size ≤ 8192
   ·rw [if_pos d] at hE
    refine ag.bind hE (ag.pos rfl (ag.bind (LK hT c d) (ag.pos rfl (ag.pos rfl (ag.bind (LH l (by omega)) (ag.pos rfl uV))))))
   rw [if_neg d] at hE
   refine ag.bind hE (ag.neg (by simp) (ag.bind hC (ag.pos KD (ag.pos c (ag.pos rfl uV)))))
  refine ag.bind (IV (by omega) hg c) (ag.neg c (ag.bind hC (ag.pos KD (ag.neg c uV))))
end Go.Proofs.Ytlenihbmafkegaa.Show
namespace Go.Proofs.Ytlenihbmafkegaa
open Go.RowKit Go.Proofs.YtlenihbmafkegaaW.PrintWords Go.Proofs.Ytlenihbmafkegaa.Q
theorem H9 (A1 : Option Addr) (n1 c1 : Nat) (l1 : List S40) (w : World) (h1 : Kd.C k40 w A1 n1 l1) (b1 : (l1.length = n1 ∧ n1 ≤ c1) ∧ Ij l1) :
 Calls Try.prog 3 #[.slice A1 n1 c1] w fun e w' => e = .returned (.bool true) ∧ Below w.heap.size w w' := by
 obtain ⟨⟨rfl, hc1⟩, hb⟩ := b1
 obtain ⟨k, hk⟩ := Show.ShowBack l1 (fun x hx => by
  have := (hb.2 x hx).2.2.2.1
  simp only [Lit.wf, Bool.and_eq_true, decide_eq_true_eq] at this
  exact this.2)
 exact dE.calls k A1 c1 l1 true w h1 hc1 hk
end Go.Proofs.Ytlenihbmafkegaa
end
