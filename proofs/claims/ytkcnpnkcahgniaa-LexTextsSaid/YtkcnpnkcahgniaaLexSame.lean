/- Lists of tokens that are alike. -/
import Derived.Test.YtkcnpnkcahgniaaQ12
import Derived.Test.YtkcnpnkcahgniaaLexLaw
set_option linter.unusedVariables false
set_option linter.unusedSimpArgs false
namespace Go.Proofs.Ytkcnpnkcahgniaa.Lex
open Go Go.RowKit Go.Proofs.YtkcnpnkcahgniaaW.PrintWords Go.Proofs.Ytkcnpnkcahgniaa.Q

/-- Alike; with their places? -/
def alike (p : Bool) (a b : S29) : Prop := a.f0 = b.f0 ∧ a.f1 = b.f1 ∧ a.f2 = b.f2 ∧ (p = true → a.f3 = b.f3)
theorem alike_refl (p : Bool) (a : S29) : alike p a a := ⟨rfl, rfl, rfl, fun _ => rfl⟩
theorem rd_get (l : List S29) (i : Nat) (h : i < l.length) : rd_T29 l (i : Int) = l[i] := by
  simp [rd_T29, List.getD_eq_getElem?_getD, List.getElem?_eq_getElem h]
theorem Same_l (x y : List S29) (p : Bool) (hl : x.length = y.length) (hb : x.length ≤ 4611686018427387904) (h : ∀ i (h1 : i < x.length) (h2 : i < y.length), alike p x[i] y[i]) :
    ∀ (m i : Nat), x.length = m + i → EvTo (fun k => chrysalisref08_Same.l0 k x y p (i : Int)) true := by
  intro m
  induction m with
  | zero =>
    intro i h1
    refine EvTo.step (G := fun _ => some true) (fun k => ?_) EvTo.now
    simp only [chrysalisref08_Same.l0]
    rw [if_neg (by omega)]
  | succ m ih =>
    intro i h1
    obtain ⟨a1, a2, a3, a4⟩ := h i (by omega) (by omega)
    refine EvTo.step (G := fun k => chrysalisref08_Same.l0 k x y p ((i + 1 : Nat) : Int)) (fun k => ?_) (ih (i + 1) (by omega))
    conv => lhs; simp only [chrysalisref08_Same.l0]
    rw [if_pos (by omega), if_pos (by omega), if_pos (by omega), rd_get x i (by omega), rd_get y i (by omega), if_pos a1, if_pos (by rw [a2]), if_pos a3]
    rw [show wrap64 ((i : Int) + 1) = ((i + 1 : Nat) : Int) by rw [w64 _ (by omega)]; omega]
    cases p with
    | false => rw [if_neg (by simp)]
    | true => rw [if_pos rfl, if_pos (a4 rfl)]
theorem Same_f (x y : List S29) (p : Bool) (hl : x.length = y.length) (hb : x.length ≤ 4611686018427387904) (h : ∀ i (h1 : i < x.length) (h2 : i < y.length), alike p x[i] y[i]) : EvTo (fun k => chrysalisref08_Same.f k x y p) true := by
  unfold chrysalisref08_Same.f
  exact EvTo.pos (by omega) (Same_l x y p hl hb h x.length 0 (by omega))
/-- Tokens that are alike give lists that are. -/
theorem Same_map (ts us : List Tk) (n1 n2 : Nat) (p : Bool) (hl : ts.length ≤ 4611686018427387904) (h : us.map (fun t => (t.kind, t.text, t.n)) = ts.map (fun t => (t.kind, t.text, t.n))) (hp : p = true → us.map (fun t => n2 - t.rem) = ts.map (fun t => n1 - t.rem)) :
    EvTo (fun k => chrysalisref08_Same.f k (ts.map (tkS n1)) (us.map (tkS n2)) p) true := by
  have hlen : us.length = ts.length := by have := congrArg List.length h; simpa using this
  refine Same_f _ _ _ (by simp [hlen]) (by simpa using hl) (fun i h1 h2 => ?_)
  have h1' : i < ts.length := by simpa using h1
  have h2' : i < us.length := by simpa using h2
  have e : (us[i].kind, us[i].text, us[i].n) = (ts[i].kind, ts[i].text, ts[i].n) := by
    have := List.getElem_of_eq h (i := i) (by simpa using h2')
    simpa using this
  simp only [Prod.mk.injEq] at e
  obtain ⟨e1, e2, e3⟩ := e
  simp only [List.getElem_map]
  refine ⟨e1.symm, by simp only [tkS, e2], e3.symm, fun q => ?_⟩
  have := List.getElem_of_eq (hp q) (i := i) (by simpa using h2')
  simp only [List.getElem_map] at this
  simp only [tkS]
  rw [this]
end Go.Proofs.Ytkcnpnkcahgniaa.Lex
