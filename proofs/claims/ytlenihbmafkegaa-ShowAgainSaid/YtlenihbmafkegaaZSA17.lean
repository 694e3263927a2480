/- Walks over functions of the program, words for them, and what the functions come to; of each text only what this claim uses; no condition. -/
import Derived.Test.YtlenihbmafkegaaZSA0
import Derived.Test.YtlenihbmafkegaaZSA7
import Derived.Test.YtlenihbmafkegaaZSA11
import Derived.Test.YtlenihbmafkegaaZSA12
import Derived.Test.YtlenihbmafkegaaZSA15
import Derived.Test.YtlenihbmafkegaaZSA16
section
set_option linter.unusedVariables false
set_option linter.unusedSimpArgs false
namespace Go.Proofs.Ytlenihbmafkegaa.Par
open Go Go.RowKit Go.Proofs.YtlenihbmafkegaaW.PrintWords Go.Proofs.Ytlenihbmafkegaa.Q Go.Proofs.Ytlenihbmafkegaa.Lex Go.Proofs.Ytlenihbmafkegaa.Tree
/-- An expression does not go on with what stands there. -/
def St (l : List S56) : Prop := gG (wd l) = 0 ∧ wd l ≠ [40] ∧ wd l ≠ [91] ∧ wd l ≠ [46]
abbrev SC : List S56 → List S56 → Prop := fun b b' => St b ∧ St b'
abbrev Ce : List S56 → List S56 → Prop := fun b b' => wd b ≠ [101, 108, 115, 101] ∧ wd b' ≠ [101, 108, 115, 101]
structure LF (F : PF) : Prop where
 expr : LC SC F.expr
 block : LC Tr F.block
 bound : ∀ a : Int, 1 ≤ a → LC SC (F.bound a)
 unary : LC SC F.unary
variable {F : PF} {C : List S56 → List S56 → Prop}
theorem iY (w : List UInt8) (hw : w ≠ [] := by simp) : LC C (must w) := LC.must w hw
theorem qC (H : LF F) (k : Int) (nm : ByteArray) : LC C (iM F k nm) := H.expr.b1 fun e => (iY [59]).b3 fun _ => Loc.ret _
theorem CW (k : Int) : LC C (pO k) := (iY [59]).b3 fun _ => Loc.ret _
theorem IW (H : LF F) (e : List S40) : LC C (pY F e) := by
 unfold pY
 split
 ·exact (iY [61]).b1 (C1 := Tr) fun _ => H.expr.b1 fun v => (iY [59]).b3 fun _ => Loc.ret _
 exact LC.out
theorem Gn (H : LF F) (e : List S40) : LC C (qg F e) := by
 cases e with
 | nil => exact LC.head (G := fun w l => if w.toList ≠ [61] then (bnd (must [59]) fun _ => ret (nd 17 E 0 E [[]])) l else (.error none : R (List S40))) fun w => LC.ite (fun _ => (iY [59]).b3 fun _ => Loc.ret _) (fun _ => LC.out)
 | cons x t => exact (LC.head (G := fun w l => if w.toList ≠ [61] then (bnd (must [59]) fun _ => ret (nd 17 E 0 E [x :: t])) l else if x.f0 = 21 then (bnd (must [61]) fun _ => iM F 7 x.f2) l else if x.f0 = 26 then pY F (x :: t) l else (.error (some l) : R (List S40)))
  fun w => LC.ite (fun _ => (iY [59]).b3 fun _ => Loc.ret _) (fun _ => LC.ite (fun _ => (iY [61]).b1 (C1 := Tr) fun _ => qC H _ _) (fun _ => LC.ite (fun _ => IW H _) (fun _ => LC.fail))))
theorem Jl (H : LF F) : LC C (o7 F) := H.expr.b1 fun e => Gn H e
theorem Ll (H : LF F) : LC Ce (jc F) :=
 LC.head (G := fun w l =>
  if w.toList = [108, 101, 116] then (bnd tk fun _ => bnd (need 1) fun t => bnd (must [61]) fun _ => iM F 6 t.f1) l
  else if w.toList = [105, 102] then (bnd tk fun _ => bnd F.expr fun e => bnd F.block fun b => fun l2 => if wd l2 = [101, 108, 115, 101] then (bnd tk fun _ => bnd F.block fun c => ret (nd 9 E 0 E [e, b, c])) l2 else .ok (nd 9 E 0 E [e, b], l2)) l
  else if w.toList = [119, 104, 105, 108, 101] then (bnd tk fun _ => bnd F.expr fun e => bnd F.block fun b => ret (nd 10 E 0 E [e, b])) l
  else if w.toList = [98, 114, 101, 97, 107] then (bnd tk fun _ => pO 11) l
  else if w.toList = [99, 111, 110, 116, 105, 110, 117, 101] then (bnd tk fun _ => pO 12) l
  else if w.toList = [121, 105, 101, 108, 100] then (bnd tk fun _ => pO 16) l
  else if w.toList = [114, 101, 116, 117, 114, 110] then (bnd tk fun _ => iM F 13 E) l
  else if w.toList = [112, 117, 116] then (bnd tk fun _ => iM F 14 E) l
  else if w.toList = [101, 109, 105, 116] then (bnd tk fun _ => iM F 15 E) l
  else o7 F l) fun w =>
 LC.ite (fun _ => LC.tk.b1 (C1 := Tr) fun _ => LC.need (fun t => ((iY [61]).b1 (C1 := Tr) fun _ => qC H _ _).loc) (by intro t t' h; simp only [(kE h).2.1]))
 fun _ => LC.ite (fun _ => LC.tk.b1 (C1 := Tr) fun _ => H.expr.b1 fun e => H.block.b3 fun b =>
  Loc.head (G := fun w l2 => if w.toList = [101, 108, 115, 101] then (bnd tk fun _ => bnd F.block fun c => ret (nd 9 E 0 E [e, b, c])) l2 else .ok (nd 9 E 0 E [e, b], l2))
   (fun w => Loc.ite (fun _ => (LC.tk.b1 (C1 := Tr) fun _ => H.block.b3 fun c => Loc.ret _).loc) (fun _ => Loc.ret _))
   (fun b1 b2 x hC h => by
    have h' : (if wd b1 = [101, 108, 115, 101] then (bnd tk fun _ => bnd F.block fun c => ret (nd 9 E 0 E [e, b, c])) b1 else .ok (nd 9 E 0 E [e, b], b1)) = .ok (x, b1) := h
    rw [if_neg hC.1] at h'
    cases h'
    exact if_neg hC.2))
 fun _ => LC.ite (fun _ => LC.tk.b1 (C1 := Tr) fun _ => H.expr.b1 fun e => H.block.b3 fun b => Loc.ret _)
 fun _ => LC.ite (fun _ => LC.tk.b1 (C1 := Tr) fun _ => CW _)
 fun _ => LC.ite (fun _ => LC.tk.b1 (C1 := Tr) fun _ => CW _)
 fun _ => LC.ite (fun _ => LC.tk.b1 (C1 := Tr) fun _ => CW _)
 fun _ => LC.ite (fun _ => LC.tk.b1 (C1 := Tr) fun _ => qC H _ _)
 fun _ => LC.ite (fun _ => LC.tk.b1 (C1 := Tr) fun _ => qC H _ _)
 fun _ => LC.ite (fun _ => LC.tk.b1 (C1 := Tr) fun _ => qC H _ _)
 fun _ => Jl H
theorem AY (H : LF F) : ∀ (n : Nat) (acc : List (List S40)), LC Tr (nU F n acc)
 | 0, acc => LC.out
 | n + 1, acc => LC.head (G := fun w l => if w.toList = [125] then (bnd (must [125]) fun _ => ret (nd 5 E 0 E acc)) l else (bnd (jc F) fun s => nU F n (acc ++ [s])) l)
  fun w => LC.ite (fun _ => (iY [125]).b3 fun _ => Loc.ret _) (fun _ => (Ll H).b1 fun s => AY H n _)
theorem Ed (H : LF F) (N : Nat) : LC Tr (pz F N) := (iY [123]).b1 (C1 := Tr) fun _ => AY H N []
theorem yH {one : Ps (List S40)} {Co : List S56 → List S56 → Prop} (ho : LC Co one) : ∀ (n : Nat) (acc : List (List S40)), LC Tr (lh one n acc)
 | 0, acc => LC.out
 | n + 1, acc => LC.head (G := fun w l => if w.toList = [41] then (bnd (must [41]) fun _ => ret acc) l
  else if acc = [] then (bnd one fun x => lh one n (acc ++ [x])) l else (bnd (must [44]) fun _ => bnd one fun x => lh one n (acc ++ [x])) l)
  fun w => LC.ite (fun _ => (iY [41]).b3 fun _ => Loc.ret _) (fun _ => LC.ite (fun _ => ho.b1 fun x => yH ho n _) (fun _ => (iY [44]).b1 (C1 := Tr) fun _ => ho.b1 fun x => yH ho n _))
theorem BO {one : Ps (List S40)} {Co : List S56 → List S56 → Prop} (ho : LC Co one) (N : Nat) : LC Tr (Par.dZ one N) := (iY [40]).b1 (C1 := Tr) fun _ => yH ho N []
theorem Jo : LC Tr nK := LC.need (fun t => Loc.ret _) (by intro t t' h; simp only [(kE h).2.1])
theorem wP (H : LF F) (N : Nat) (k : Int) (nm : ByteArray) : LC Tr (iR F N k nm) := (BO Jo N).b1 fun ps => (Ed H N).b3 fun b => Loc.ret _
theorem MB (H : LF F) (N : Nat) : LC SC (uJ F N) :=
 LC.need (f := fun t => fun l => if wd l = [46] then (bnd tk fun _ => bnd (need 1) fun u => bnd (Par.dZ F.expr N) fun ks => ret (nd 23 t.f1 0 u.f1 ks)) l else .ok (nd 21 t.f1 0 E [], l))
  (fun t => Loc.head (G := fun w l => if w.toList = [46] then (bnd tk fun _ => bnd (need 1) fun u => bnd (Par.dZ F.expr N) fun ks => ret (nd 23 t.f1 0 u.f1 ks)) l else .ok (nd 21 t.f1 0 E [], l))
   (fun w => Loc.ite (fun _ => (LC.tk.b1 (C1 := Tr) fun _ => LC.need (fun u => ((BO H.expr N).b3 fun ks => Loc.ret _).loc) (by intro t t' h; simp only [(kE h).2.1])).loc) (fun _ => Loc.ret _))
   (fun b1 b2 x hC h => by
    have h' : (if wd b1 = [46] then (bnd tk fun _ => bnd (need 1) fun u => bnd (Par.dZ F.expr N) fun ks => ret (nd 23 t.f1 0 u.f1 ks)) b1 else .ok (nd 21 t.f1 0 E [], b1)) = .ok (x, b1) := h
    rw [if_neg hC.1.2.2.2] at h'
    cases h'
    exact if_neg hC.2.2.2.2)) (by intro t t' h; simp only [(kE h).2.1])
theorem mV (N : Nat) (t : S56) (r : List S56) : nO F N (t :: r) = if t.f0 = 2 then .ok (nd 19 E t.f2 E [], r) else if t.f0 = 3 then .ok (nd 20 E 0 t.f1 [], r) else uJ F N (t :: r) := rfl
theorem MF (H : LF F) (N : Nat) : LC SC (nO F N) := by
 have hn := MB H N
 have cns : Cns (nO F N) := fun l x r h => by
  cases l with
  | nil => cases h
  | cons t u =>
   rw [mV] at h
   by_cases c1 : t.f0 = 2
   ·rw [if_pos c1] at h; cases h; simp
   rw [if_neg c1] at h
   by_cases c2 : t.f0 = 3
   ·rw [if_pos c2] at h; cases h; simp
   rw [if_neg c2] at h
   exact hn.cns _ _ _ h
 refine ⟨⟨fun l x r h => ?_, fun l r h => ?_, fun T T' b b' x T2 hs hC h => ?_, fun T T' b b' T2 hs hT h => ?_⟩, cns⟩
 ·cases l with
  | nil => cases h
  | cons t u =>
   rw [mV] at h
   by_cases c1 : t.f0 = 2
   ·rw [if_pos c1] at h; cases h; exact List.suffix_cons _ _
   rw [if_neg c1] at h
   by_cases c2 : t.f0 = 3
   ·rw [if_pos c2] at h; cases h; exact List.suffix_cons _ _
   rw [if_neg c2] at h
   exact hn.loc.suf _ _ _ h
 ·cases l with
  | nil => cases h; exact List.suffix_refl _
  | cons t u =>
   rw [mV] at h
   by_cases c1 : t.f0 = 2
   ·rw [if_pos c1] at h; cases h
   rw [if_neg c1] at h
   by_cases c2 : t.f0 = 3
   ·rw [if_pos c2] at h; cases h
   rw [if_neg c2] at h
   exact hn.loc.sufE _ _ h
 ·cases T with
  | nil =>
   have := cns _ _ _ h
   simp at this
   omega
  | cons t u =>
   obtain ⟨t', u', rfl, h1, h2⟩ := hs.cons
   obtain ⟨g0, g1, g2⟩ := kE h1
   rw [List.cons_append, mV] at h ⊢
   rw [← g0, ← g1, ← g2]
   by_cases c1 : t.f0 = 2
   ·rw [if_pos c1] at h ⊢
    simp only [Except.ok.injEq, Prod.mk.injEq, List.append_cancel_right_eq] at h
    obtain ⟨rfl, rfl⟩ := h
    exact ⟨u', h2, rfl⟩
   rw [if_neg c1] at h ⊢
   by_cases c2 : t.f0 = 3
   ·rw [if_pos c2] at h ⊢
    simp only [Except.ok.injEq, Prod.mk.injEq, List.append_cancel_right_eq] at h
    obtain ⟨rfl, rfl⟩ := h
    exact ⟨u', h2, rfl⟩
   rw [if_neg c2] at h ⊢
   exact hn.loc.ok (t :: u) (t' :: u') b b' x T2 hs hC h
 cases T with
 | nil =>
  cases b with
  | nil =>
   simp only [List.append_nil, nO, Except.error.injEq, Option.some.injEq] at h
   exact absurd h.symm hT
  | cons t u =>
   rw [List.nil_append, mV] at h
   by_cases c1 : t.f0 = 2
   ·rw [if_pos c1] at h; cases h
   rw [if_neg c1] at h
   by_cases c2 : t.f0 = 3
   ·rw [if_pos c2] at h; cases h
   rw [if_neg c2] at h
   exact absurd (qJ (hn.loc.sufE _ _ h)) hT
 | cons t u =>
  obtain ⟨t', u', rfl, h1, h2⟩ := hs.cons
  obtain ⟨g0, g1, g2⟩ := kE h1
  rw [List.cons_append, mV] at h ⊢
  rw [← g0, ← g1, ← g2]
  by_cases c1 : t.f0 = 2
  ·rw [if_pos c1] at h; cases h
  rw [if_neg c1] at h ⊢
  by_cases c2 : t.f0 = 3
  ·rw [if_pos c2] at h; cases h
  rw [if_neg c2] at h ⊢
  exact hn.loc.er (t :: u) (t' :: u') b b' T2 hs hT h
theorem LM (H : LF F) (N : Nat) : LC SC (lW F N) :=
 LC.head (G := fun w l =>
  if w.toList = [110, 105, 108] then (bnd tk fun _ => ret (nd 18 E 0 E [])) l
  else if w.toList = [115, 116, 97, 116, 101] then (bnd tk fun _ => ret (nd 29 E 0 E [])) l
  else if w.toList = [123] then (bnd tk fun _ => bnd (must [125]) fun _ => ret (nd 25 E 0 E [])) l
  else if w.toList = [102, 110] then (bnd tk fun _ => iR F N 24 E) l
  else if w.toList = [40] then (bnd tk fun _ => bnd F.expr fun e => bnd (must [41]) fun _ => ret e) l
  else nO F N l) fun w =>
 LC.ite (fun _ => LC.tk.b3 fun _ => Loc.ret _)
 fun _ => LC.ite (fun _ => LC.tk.b3 fun _ => Loc.ret _)
 fun _ => LC.ite (fun _ => LC.tk.b1 (C1 := Tr) fun _ => (iY [125]).b3 fun _ => Loc.ret _)
 fun _ => LC.ite (fun _ => LC.tk.b1 (C1 := Tr) fun _ => (wP H N _ _).weak)
 fun _ => LC.ite (fun _ => LC.tk.b1 (C1 := Tr) fun _ => H.expr.b1 fun e => (iY [41]).b3 fun _ => Loc.ret _)
 fun _ => MF H N
theorem yC (H : LF F) (N : Nat) : ∀ (n : Nat) (e : List S40), Loc SC (l7 F N n e)
 | 0, e => LC.out.loc
 | n + 1, e => Loc.head (G := fun w l => if w.toList = [40] then (bnd (Par.dZ F.expr N) fun ks => l7 F N n (nd 22 E 0 E ([e] ++ ks))) l
  else if w.toList = [91] then (bnd tk fun _ => bnd F.expr fun i => bnd (must [93]) fun _ => l7 F N n (nd 26 E 0 E [e, i])) l
  else .ok (e, l))
  (fun w => Loc.ite (fun _ => ((BO H.expr N).b3 fun ks => yC H N n _).loc) (fun _ => Loc.ite (fun _ => (LC.tk.b1 (C1 := Tr) fun _ => H.expr.b1 fun i => (iY [93]).b3 fun _ => yC H N n _).loc) (fun _ => Loc.ret _)))
  (fun b1 b2 x hC h => by
   have h' : (if wd b1 = [40] then (bnd (Par.dZ F.expr N) fun ks => l7 F N n (nd 22 E 0 E ([e] ++ ks))) b1 else if wd b1 = [91] then (bnd tk fun _ => bnd F.expr fun i => bnd (must [93]) fun _ => l7 F N n (nd 26 E 0 E [e, i])) b1 else .ok (e, b1)) = .ok (x, b1) := h
   rw [if_neg hC.1.2.1, if_neg hC.1.2.2.1] at h'
   cases h'
   exact (if_neg hC.2.2.1).trans (if_neg hC.2.2.2.1))
theorem Dl (H : LF F) (N : Nat) : LC SC (kW F N) :=
 LC.head (G := fun w l =>
  if w.toList = [45] ∨ w.toList = [110, 111, 116] ∨ w.toList = [108, 101, 110] then (bnd tk fun _ => bnd F.unary fun e => ret (nd 28 E 0 w [e])) l
  else if w.toList = [115, 112, 97, 119, 110] then (bnd tk fun _ => bnd F.unary fun e => ret (nd 30 E 0 E [e])) l
  else (bnd (lW F N) fun e => l7 F N N e) l) fun w =>
 LC.ite (fun _ => LC.tk.b1 (C1 := Tr) fun _ => H.unary.b2 (fun e => Loc.ret _) fun _ _ h => h)
 fun _ => LC.ite (fun _ => LC.tk.b1 (C1 := Tr) fun _ => H.unary.b2 (fun e => Loc.ret _) fun _ _ h => h)
 fun _ => (LM H N).b2 (fun e => yC H N N e) fun _ _ h => h
theorem AV (H : LF F) (a : Int) (ha : 1 ≤ a) : ∀ (n : Nat) (e : List S40), Loc SC (lJ F a n e)
 | 0, e => LC.out.loc
 | n + 1, e => Loc.head (G := fun w l => if gG w.toList = a then (bnd tk fun _ => bnd (F.bound (a + 1)) fun e2 => if a = 3 then ret (nd 27 E 0 w [e, e2]) else lJ F a n (nd 27 E 0 w [e, e2])) l else .ok (e, l))
  (fun w => Loc.ite (fun _ => (LC.tk.b1 (C1 := Tr) fun _ => (H.bound (a + 1) (by omega)).b2 (C2 := SC) (fun e2 => by
   by_cases c : a = 3
   ·rw [if_pos c]; exact Loc.ret _
   rw [if_neg c]; exact AV H a ha n _) fun _ _ h => h).loc) (fun _ => Loc.ret _))
  (fun b1 b2 x hC h => by
   have h' : (if gG (wd b1) = a then (bnd tk fun _ => bnd (F.bound (a + 1)) fun e2 => if a = 3 then ret (nd 27 E 0 (wB b1) [e, e2]) else lJ F a n (nd 27 E 0 (wB b1) [e, e2])) b1 else .ok (e, b1)) = .ok (x, b1) := h
   have n1 : ¬ gG (wd b1) = a := by rw [hC.1.1]; omega
   have n2 : ¬ gG (wd b2) = a := by rw [hC.2.1]; omega
   rw [if_neg n1] at h'
   cases h'
   exact if_neg n2)
theorem DY (H : LF F) (N : Nat) (a : Int) (ha : 1 ≤ a) : LC SC (ja F N a) := by
 unfold ja
 by_cases c : a = 6
 ·rw [if_pos c]; exact Dl H N
 rw [if_neg c]; exact (H.bound (a + 1) (by omega)).b2 (fun e => AV H a ha N e) fun _ _ h => h
theorem vX : ∀ n, LF (fU n)
 | 0 => ⟨LC.out, LC.out, fun _ _ => LC.out, LC.out⟩
 | n + 1 => ⟨DY (vX n) n 1 (by omega), Ed (vX n) n, fun a h => DY (vX n) n a h, Dl (vX n) n⟩
theorem Nz : LC Tr yh :=
 LC.need (fun a => ((iY [46]).b1 (C1 := Tr) fun _ => LC.need (fun b => ((iY [47]).b1 (C1 := Tr) fun _ => LC.need (fun c => ((iY [59]).b3 fun _ => Loc.ret _).loc) (by intro t t' h; simp only [(kE h).2.2])).loc) (by intro t t' h; simp only [(kE h).2.1])).loc) (by intro t t' h; simp only [(kE h).2.1])
end Go.Proofs.Ytlenihbmafkegaa.Par
end
section
set_option linter.unusedVariables false
set_option linter.unusedSimpArgs false
namespace Go.Proofs.Ytlenihbmafkegaa.Par
open Go Go.RowKit Go.Proofs.YtlenihbmafkegaaW.PrintWords Go.Proofs.Ytlenihbmafkegaa.Q Go.Proofs.Ytlenihbmafkegaa.Lex Go.Proofs.Ytlenihbmafkegaa.Tree
abbrev FN : List UInt8 := [102, 110]
abbrev US : List UInt8 := [117, 115, 101]
variable {F : PF} {N m0 : Nat}
abbrev Cm : List S56 → List S56 → Prop := fun b b' => (wd b ≠ US ∧ wd b ≠ FN) ∧ wd b' ≠ US ∧ wd b' ≠ FN
theorem CB (H : LF F) (nm : ByteArray) (v : Int) : ∀ (n : Nat) (acc : List (List S40)), Loc Cm (oq F N nm v n acc)
 | 0, acc => LC.out.loc
 | n + 1, acc => Loc.head (G := fun w l => if w.toList = [102, 110] then (bnd tk fun _ => bnd (need 1) fun t => bnd (iR F N 3 t.f1) fun f => oq F N nm v n (acc ++ [f])) l else .ok (nd 1 nm v E acc, l))
  (fun w => Loc.ite (fun _ => (LC.tk.b1 (C1 := Tr) fun _ => LC.need (fun t => ((wP H N 3 t.f1).b3 fun f => CB H nm v n _).loc) (by intro t t' h; simp only [(kE h).2.1])).loc) (fun _ => Loc.ret _))
  (fun b1 b2 x hC h => by
   have h' : (if wd b1 = [102, 110] then (bnd tk fun _ => bnd (need 1) fun t => bnd (iR F N 3 t.f1) fun f => oq F N nm v n (acc ++ [f])) b1 else .ok (nd 1 nm v E acc, b1)) = .ok (x, b1) := h
   rw [if_neg hC.1.2] at h'
   cases h'
   exact if_neg hC.2.2)
theorem Fz (H : LF F) (nm : ByteArray) (v : Int) : ∀ (n : Nat) (acc : List (List S40)), Loc Cm (mF F N nm v n acc)
 | 0, acc => LC.out.loc
 | n + 1, acc => Loc.head (G := fun w l => if w.toList = [117, 115, 101] then (bnd tk fun _ => bnd yh fun u => mF F N nm v n (acc ++ [u])) l else oq F N nm v N acc l)
  (fun w => Loc.ite (fun _ => (LC.tk.b1 (C1 := Tr) fun _ => Nz.b3 fun u => Fz H nm v n _).loc) (fun _ => CB H nm v N acc))
  (fun b1 b2 x hC h => by
   have h' : (if wd b1 = [117, 115, 101] then (bnd tk fun _ => bnd yh fun u => mF F N nm v n (acc ++ [u])) b1 else oq F N nm v N acc b1) = .ok (x, b1) := h
   rw [if_neg hC.1.1] at h'
   obtain ⟨T2', e1, e2⟩ := (CB H nm v N acc).ok [] [] b1 b2 x [] rfl (fun _ => hC) h'
   cases T2' with
   | nil => exact (if_neg hC.2.1).trans e2
   | cons a b => cases e1)
theorem G9 (H : LF F) : LC Cm (jC F N) :=
 (iY [109, 111, 100, 117, 108, 101]).b1 (C1 := Tr) fun _ => LC.need (f := fun t => bnd (need 2) fun u => bnd (must [59]) fun _ => mF F N t.f1 u.f2 N [])
  (fun t => (LC.need (f := fun u => bnd (must [59]) fun _ => mF F N t.f1 u.f2 N []) (fun u => ((iY [59]).b3 fun _ => Fz H _ _ N []).loc) (by intro t t' h; simp only [(kE h).2.2])).loc) (by intro t t' h; simp only [(kE h).2.1])
end Go.Proofs.Ytlenihbmafkegaa.Par
end
section
set_option linter.unusedVariables false
set_option linter.unusedSimpArgs false
namespace Go.Proofs.Ytlenihbmafkegaa.Show
open Go Go.RowKit Go.Proofs.YtlenihbmafkegaaW.PrintWords Go.Proofs.Ytlenihbmafkegaa.Q Go.Proofs.Ytlenihbmafkegaa.Lex Go.Proofs.Ytlenihbmafkegaa.Tree Go.Proofs.Ytlenihbmafkegaa.Par
/-- Of tokens that are alike but for their places the same is read. -/
theorem IZ {n : Nat} {ts ts' : List S56} (h : Sim ts ts') {x : List S40} {r : List S56} (e : jC (fU n) n ts = .ok (x, r)) : ∃ r', r.length = r'.length ∧ jC (fU n) n ts' = .ok (x, r') := by
 have hL := (G9 (F := fU n) (N := n) (vX n)).loc
 obtain ⟨T2', e1, e2⟩ := hL.ok ts ts' [] [] x r h (fun _ => ⟨⟨by rw [nz]; simp, by rw [nz]; simp⟩, by rw [nz]; simp, by rw [nz]; simp⟩) (by rw [List.append_nil, List.append_nil]; exact e)
 rw [List.append_nil, List.append_nil] at e2
 exact ⟨T2', e1.len, e2⟩
/-- A right tree's tokens: they are written, they are read again, as the tree they were written of. -/
structure Nb (l : List S40) (T : List S56) : Prop where
 ev : ag (fun k => eY.f k l) (T, (0 : Int), (0 : Int))
 good : TG T
 len : T.length ≤ 12 * l.length
 read : ∃ N0, ∀ N, N0 ≤ N → jC (fU N) N T = .ok (l, [])
theorem IP {l : List S40} (hl : l.length ≤ 100000) (hs : GK l) (h : (jV l).1 = 0) : ∃ T, Nb l T := by
 obtain ⟨x, t, K, D, m⟩ := Fa h
 obtain ⟨tt, hg⟩ := NY m.good
 have hx : l = x :: t := m.eq
 subst hx
 have hkk : gX x.f0 K = true := by rw [m.kind]; exact m.kids
 have hG : GS (x :: t) [x.f0] [mg x tt] := by
  have := GS.cons x t [] K [] tt [] m.cnt m.fld hkk hg GS.nil
  rwa [List.append_nil] at this
 obtain ⟨D1, hfo⟩ := hG.fo
 have hn : ∀ y ∈ x :: t, ¬ (((x :: t).length : Int) < y.f1) := fun y hy => by have := hfo.kids y hy; omega
 have hE := Hg hG (x :: t) [] 0 hl (by simp) hn (fun y hy => by have := hs y hy; omega)
 have hgood := hG.good hs _ (.head _)
 have hlen := hG.O5
 simp only [tot, List.flatten_cons, List.flatten_nil, List.append_nil, List.length_cons, List.length_nil] at hlen
 have hP : EvP (x :: t) 0 (mg x tt) := by
  cases hE with
  | cons h _ => exact h
 refine ⟨mg x tt, ?_, hgood, Z26, ?_⟩
 ·unfold eY.f
  have hC := Eo (x :: t) hl (fun y hy => ⟨(hs y hy).1, (hs y hy).2.1⟩)
  refine ag.bind hC (ag.pos h (ag.bind (hP [] ?_) ag.now))
  have hl2 := hl
  simp only [List.length_cons] at hl2
  simp only [List.length_nil]; omega
 obtain ⟨es, e1, e2⟩ := hg.cls
 rw [e1]
 exact GI m.kind m.cnt m.fld m.kids e2
/-- The text of tokens. -/
def txt (T : List S56) : ByteArray := S (kQ (T.map wr))
theorem N9 {T : List S56} (hl : T.length ≤ 4611686018427387904) (hg : TG T) (h3 : (kQ (T.map wr)).length ≤ 4611686018427387904) : ag (fun k => dM.f k T) (txt T) :=
 Nc T hl (fun t ht => by have := (hg t ht).2.1; omega) h3
theorem KY (t : S56) (h : t.f1.size ≤ 3000) : (wr t).length ≤ 6002 := by
 unfold wr
 have hq : ∀ s : List UInt8, (s.flatMap kZ).length ≤ 2 * s.length := fun s => by
  induction s with
  | nil => simp
  | cons c s ih =>
   rw [List.flatMap_cons, List.length_append]
   have : (kZ c).length ≤ 2 := by
    unfold kZ
    repeat' split
    all_goals simp
   simp only [List.length_cons]
   omega
 have h2 := dL t.f1
 split
 ·rw [Du]
  have := hq (L t.f1)
  omega
 omega
theorem zK : ∀ ws : List (List UInt8), (∀ w ∈ ws, w.length ≤ 6002) → (kR ws).length ≤ 6003 * ws.length
 | [], _ => by simp [kR]
 | a :: ws, h => by
  have h1 := h a (.head _)
  have h2 := zK ws (fun w hw => h w (.tail _ hw))
  simp only [kR, List.length_append, List.length_cons]
  omega
theorem FC {T : List S56} (hg : TG T) : (kQ (T.map wr)).length ≤ 6003 * T.length := by
 have h : ∀ w ∈ T.map wr, w.length ≤ 6002 := fun w hw => by
  obtain ⟨t, ht, rfl⟩ := List.mem_map.1 hw
  exact KY t (hg t ht).2.1
 cases T with
 | nil => simp [kQ]
 | cons a T =>
  have h1 := h (wr a) (by simp)
  have h2 := zK (T.map wr) (fun w hw => h w (by rw [List.map_cons]; exact .tail _ hw))
  simp only [List.map_cons, kQ, List.length_append, List.length_cons, List.length_map] at *
  omega
theorem Lu {l : List S40} {T : List S56} (hl : l.length ≤ 100000) (h : Nb l T) : ag (fun k => bZ.f k l) (if (txt T).size ≤ 8192 then (txt T, 0, 0) else ((⟨#[]⟩ : ByteArray), 3, 0)) := by
 have h1 := FC h.good
 have h2 := h.len
 unfold bZ.f
 have hE := N9 (T := T) (by omega) h.good (by omega)
 refine ag.bind h.ev (ag.pos rfl (ag.bind hE ?_))
 by_cases c : (txt T).size ≤ 8192
 ·rw [if_pos c]; exact ag.neg (show ¬ (((txt T).size : Int) > 8192) by omega) ag.now
 rw [if_neg c]; exact ag.pos (show ((txt T).size : Int) > 8192 by omega) ag.now
/-- What is written is read: the tokens of the text, but for their places, and the tree. -/
theorem FV {T : List S56} (hg : TG T) : ∃ us, Lex.scan (L (txt T)) = .ok us ∧ us.map xw = T.map fun t => (t.f0, L t.f1, t.f2) := by
 obtain ⟨us, h1, h2⟩ := E5 (T.map fun t => (t.f0, L t.f1, t.f2)) (fun t ht => by
  obtain ⟨a, ha, rfl⟩ := List.mem_map.1 ht
  exact (hg a ha).1)
 refine ⟨us, ?_, h2⟩
 unfold txt
 rw [L_S]
 rw [List.map_map] at h1
 exact h1
theorem NG {T : List S56} {us : List Tk} (h : us.map xw = T.map fun t => (t.f0, L t.f1, t.f2)) (n : Nat) : Sim T (us.map (tkS n)) := by
 unfold Sim
 have e1 : (us.map (tkS n)).map core = (us.map xw).map (fun k => ((k.1, S k.2.1, k.2.2) : Int × ByteArray × Int)) := by rw [List.map_map, List.map_map]; rfl
 rw [e1, h, List.map_map]
 apply List.map_congr_left
 intro t _
 show (t.f0, t.f1, t.f2) = (t.f0, S (L t.f1), t.f2)
 rw [show S (L t.f1) = t.f1 from qH (L_S _)]
theorem Ls {T : List S56} {us : List Tk} (hg : TG T) (h : us.map xw = T.map fun t => (t.f0, L t.f1, t.f2)) (n : Nat) : TB (us.map (tkS n)) := by
 intro t ht
 obtain ⟨u, hu, rfl⟩ := List.mem_map.1 ht
 have hm : xw u ∈ T.map fun t => (t.f0, L t.f1, t.f2) := by rw [← h]; exact List.mem_map_of_mem hu
 obtain ⟨a, ha, e⟩ := List.mem_map.1 hm
 obtain ⟨_, h2, h3⟩ := hg a ha
 simp only [xw, Prod.mk.injEq] at e
 obtain ⟨e1, e2, e3⟩ := e
 refine ⟨?_, ?_⟩
 ·show (S u.text).size ≤ 3000
  rw [fC, ← e2]
  have := dL a.f1
  omega
 show u.n ≤ _
 rw [← e3]; exact h3
theorem FW {T : List S56} (hs : (txt T).size ≤ 8192) {us : List Tk} (h : Lex.scan (L (txt T)) = .ok us) : ag (fun k => dI.f k (txt T)) (us.map (tkS (txt T).size), 0, 0) := by
 have hS := Ik (txt T)
 unfold yw at hS
 rw [if_pos hs, h] at hS
 exact hS
theorem LH {l : List S40} {T : List S56} (h : Nb l T) (hc : (jV l).1 = 0) (hs : (txt T).size ≤ 8192) : ag (fun k => bV.f k (txt T)) (l, 0, 0) := by
 obtain ⟨us, hu, hk⟩ := FV h.good
 have hS := FW hs hu
 obtain ⟨g1, g2⟩ := zO hu
 have hz := dL (txt T)
 have hlen : (us.map (tkS (txt T).size)).length ≤ 9000 := by rw [List.length_map]; omega
 obtain ⟨N0, hr⟩ := h.read
 obtain ⟨n0, hn⟩ := rounds 9000
 obtain ⟨r', e1, e2⟩ := IZ (n := N0 + n0) (NG hk (txt T).size) (hr (N0 + n0) (by omega))
 obtain rfl : r' = [] := List.length_eq_zero_iff.1 e1.symm
 have hsm : small (us.map (tkS (txt T).size)) := by
  intro t ht
  obtain ⟨u, hu2, rfl⟩ := List.mem_map.1 ht
  show -9223372036854775808 ≤ (((txt T).size - u.rem : Nat) : Int) ∧ (((txt T).size - u.rem : Nat) : Int) ≤ 4611686018427387904
  omega
 have hA := F6 _ (by omega) hsm (N0 + n0) ((hn (N0 + n0) (by omega)).2 _ hlen (Ls h.good hk _))
 rw [e2] at hA
 have ha : Fg (us.map (tkS (txt T).size)) (.ok (l, [])) = (l, 0, 0) := by
  show (if (jV l).1 = 0 then (l, (0 : Int), (0 : Int)) else ([], (jV l).1, 0)) = _
  rw [if_pos hc]
 rw [ha] at hA
 unfold bV.f
 exact ag.bind hS (ag.pos rfl (ag.bind hA ag.now))
end Go.Proofs.Ytlenihbmafkegaa.Show
end
section
set_option linter.unusedVariables false
set_option linter.unusedSimpArgs false
namespace Go.Proofs.Ytlenihbmafkegaa.Show
open Go Go.RowKit Go.Proofs.YtlenihbmafkegaaW.PrintWords Go.Proofs.Ytlenihbmafkegaa.Q Go.Proofs.Ytlenihbmafkegaa.Lex Go.Proofs.Ytlenihbmafkegaa.Tree Go.Proofs.Ytlenihbmafkegaa.Par
set_option maxRecDepth 100000 in
theorem GU : bJ.f 300 = some true := by kernel_rfl
theorem J6 : ag (fun k => bJ.f k) true := ag.LW (fun k r h => bJ.mono k r h) 300 GU
theorem uZ : ag (fun k => (bJ.f k).bind fun t => some t) true := ag.bind J6 ag.now
theorem L9 (x : List S40) (hx : x.length ≤ 100000) : ∀ (m i : Nat), x.length = m + i → ag (fun k => aK.l0 k x x (i : Int)) true := by
 intro m
 induction m with
 | zero =>
  intro i h
  refine ag.step (fun k => by rw [aK.l0]) ?_
  exact ag.neg (by omega) ag.now
 | succ m ih =>
  intro i h
  refine ag.step (fun k => by rw [aK.l0]) ?_
  rw [Tree.inc i (by omega)]
  exact ag.pos (by omega) (ag.pos (by omega) (ag.pos (by omega) (ag.neg (by simp) (ih (i + 1) (by omega)))))
theorem LD (x : List S40) (hx : x.length ≤ 100000) : ag (fun k => aK.f k x x) true := by
 unfold aK.f
 exact ag.pos rfl (L9 x hx x.length 0 (by omega))
theorem NJ {l : List UInt8} {k : Int} {x : List UInt8} {n : Int} {m : Nat} (h : Lex.one l = .ok (k, x, n, m)) : n ≤ 9223372036854775807 := by
 have w : ∀ d, (numOf d).1 ≤ 9223372036854775807 := by
  intro d
  unfold numOf
  split
  ·decide
  show RowKit.wrap64 _ ≤ _
  unfold RowKit.wrap64; omega
 cases l with
 | nil => simp [Lex.one] at h
 | cons c t =>
  simp only [Lex.one] at h
  repeat' split at h
  all_goals first
   | (cases h; done)
   | (simp only [Except.ok.injEq, Prod.mk.injEq] at h; obtain ⟨_, _, rfl, _⟩ := h; first | exact w _ | decide)
theorem F7 : ∀ (f : Nat) (l : List UInt8) (ts : List Tk), toks f l = .ok ts → ∀ t ∈ ts, t.n ≤ 9223372036854775807
 | 0, l, ts, h => by
  simp only [toks, Except.ok.injEq] at h
  subst h
  exact fun t ht => by cases ht
 | f + 1, [], ts, h => by
  simp only [toks, Except.ok.injEq] at h
  subst h
  exact fun t ht => by cases ht
 | f + 1, c :: u, ts, h => by
  simp only [toks] at h
  split at h
  ·cases h
  rename_i k x n j ho
  split at h
  ·cases h
  rename_i us hu
  simp only [Except.ok.injEq] at h
  subst h
  intro t ht
  rcases List.mem_cons.1 ht with rfl | ht
  ·exact NJ ho
  exact F7 f _ us hu t ht
theorem Eu {s : ByteArray} (hs : s.size ≤ 3000) {us : List Tk} (h : Lex.scan (L s) = .ok us) : (us.map (tkS s.size)).length ≤ 3000 ∧ TB (us.map (tkS s.size)) ∧ small (us.map (tkS s.size)) := by
 obtain ⟨h1, h2⟩ := zO h
 have h3 := F7 _ _ us h
 rw [← dL] at h1
 have h2 : ∀ t ∈ us, 1 ≤ t.rem ∧ t.rem ≤ s.size ∧ t.text.length ≤ s.size := fun t ht => by have := h2 t ht; rw [← dL] at this; exact this
 refine ⟨by simp; omega, fun t ht => ?_, fun t ht => ?_⟩
 ·obtain ⟨u, hu, rfl⟩ := List.mem_map.1 ht
  have := h2 u hu
  exact ⟨by show (S u.text).size ≤ 3000; rw [fC]; omega, h3 u hu⟩
 obtain ⟨u, hu, rfl⟩ := List.mem_map.1 ht
 have := h2 u hu
 show -9223372036854775808 ≤ ((s.size - u.rem : Nat) : Int) ∧ ((s.size - u.rem : Nat) : Int) ≤ 4611686018427387904
 omega
/-- What is read of a text: an answer; if it is well, a right tree. -/
theorem Bj (s : ByteArray) (hs : s.size ≤ 3000) : ∃ v : List S40 × Int × Int, ag (fun k => bV.f k s) v ∧ (v.2.1 = 0 → (jV v.1).1 = 0 ∧ GK v.1) := by
 have hS := Ik s
 unfold yw at hS
 rw [if_pos (by omega)] at hS
 unfold bV.f
 match h : Lex.scan (L s) with
 | .error (e, r) =>
  rw [h] at hS
  obtain ⟨h1, _⟩ := FU h
  exact ⟨([], e, ((s.size - r : Nat) : Int)), ag.bind hS (ag.neg h1 ag.now), fun h => absurd h h1⟩
 | .ok us =>
  rw [h] at hS
  obtain ⟨t1, t2, t3⟩ := Eu hs h
  obtain ⟨n0, hr⟩ := rounds 3000
  have hn := (hr n0 (Nat.le_refl _)).2 _ t1 t2
  have hA := F6 _ (by omega) t3 n0 hn
  refine ⟨Fg _ (jC (fU n0) n0 (us.map (tkS s.size))), ag.bind hS (ag.pos rfl (ag.bind hA ag.now)), fun h0 => ?_⟩
  obtain ⟨x, e1, e2, e3⟩ := Na h0
  rw [e3]
  refine ⟨e2, ?_⟩
  rw [e1] at hn
  intro y hy
  have := hn.2.2.1.2 y hy
  exact ⟨this.1.1, this.1.2, this.2⟩
theorem ShowAgain : bz.Pure := by
 intro a0 ha
 apply ag.one (F := fun k => bz.f k a0)
 unfold bz.f
 by_cases h : (a0.size : Int) > 3000
 ·exact ag.pos h uZ
 refine ag.neg h ?_
 obtain ⟨v, hv, pv⟩ := Bj a0 (by omega)
 refine ag.bind hv ?_
 by_cases c : v.2.1 = 0
 rotate_left
 ·exact ag.neg c uZ
 refine ag.pos c ?_
 obtain ⟨hc, hg⟩ := pv c
 have hl := (xX hc).1
 obtain ⟨T, hT⟩ := IP (by omega) hg hc
 have hE := Lu (by omega) hT
 by_cases d : (txt T).size ≤ 8192
 rotate_left
 ·rw [if_neg d] at hE
  exact ag.bind hE (ag.pos rfl uZ)
 rw [if_pos d] at hE
 obtain ⟨us, hu, hk⟩ := FV hT.good
 have hSc := FW d hu
 have hul : us.length = T.length := by have := congrArg List.length hk; simpa using this
 have hTl := hT.len
 have hSame : ag (fun k => aU.f k T (us.map (tkS (txt T).size)) false) true := by
  refine Nk _ _ _ (by simp [hul]) (by omega) (fun i h1 h2 => ?_)
  have e : (us.map xw)[i]? = (T.map fun t => (t.f0, L t.f1, t.f2))[i]? := by rw [hk]
  have h3 : i < us.length := by omega
  rw [List.getElem?_map, List.getElem?_map, List.getElem?_eq_getElem h3, List.getElem?_eq_getElem h1] at e
  simp only [Option.map_some, Option.some.injEq, xw, Prod.mk.injEq] at e
  rw [List.getElem_map]
  refine ⟨e.1.symm, ?_, e.2.2.symm, fun h => by cases h⟩
  show T[i].f1 = S us[i].text
  rw [e.2.1]
  exact (qH (L_S _)).symm
 refine ag.bind hE (ag.neg (by simp) (ag.bind (LH hT hc d) (ag.bind hE (ag.bind hT.ev (ag.bind hSc ?_)))))
 exact ag.pos rfl (ag.pos rfl (ag.bind (LD v.1 (by omega)) (ag.pos rfl (ag.pos rfl (ag.pos rfl (ag.pos rfl (ag.pos rfl (ag.bind hSame (ag.pos rfl uZ)))))))))
end Go.Proofs.Ytlenihbmafkegaa.Show
namespace Go.Proofs.Ytlenihbmafkegaa.Pure
open Go.Proofs.Ytlenihbmafkegaa
theorem ShowAgain : Q.bz.Pure := Show.ShowAgain
end Go.Proofs.Ytlenihbmafkegaa.Pure
end
