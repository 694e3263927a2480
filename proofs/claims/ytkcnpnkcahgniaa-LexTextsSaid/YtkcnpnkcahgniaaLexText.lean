/- What lex.Text computes. -/
import Derived.Test.YtkcnpnkcahgniaaQ18
import Derived.Test.YtkcnpnkcahgniaaLexSame
set_option linter.unusedVariables false
set_option linter.unusedSimpArgs false
namespace Go.Proofs.Ytkcnpnkcahgniaa.Lex
open Go Go.RowKit Go.Proofs.YtkcnpnkcahgniaaW.PrintWords Go.Proofs.Ytkcnpnkcahgniaa.Q

/-- A token as it is written. -/
def wr (t : S29) : List UInt8 := if t.f0 = 3 then quo (L t.f1) else L t.f1
def tailL : List (List UInt8) → List UInt8
  | [] => []
  | w :: ws => 32 :: w ++ tailL ws
/-- Words with a blank between. -/
def textL : List (List UInt8) → List UInt8
  | [] => []
  | w :: ws => w ++ tailL ws
theorem quo_len (s : List UInt8) : (quo s).length = (s.flatMap quo1).length + 2 := by simp [quo]
theorem S_app (a b : List UInt8) : S a ++ S b = S (a ++ b) := L_inj (by rw [L_append]; rfl)
theorem tailL_drop (l : List S29) (i : Nat) (h : i < l.length) : tailL ((l.drop i).map wr) = 32 :: wr l[i] ++ tailL ((l.drop (i + 1)).map wr) := by
  rw [List.drop_eq_getElem_cons h]; rfl
theorem text_l (l : List S29) (hl : l.length ≤ 4611686018427387904) (hq : ∀ t ∈ l, t.f1.size ≤ 70368744177000) : ∀ (m i : Nat) (acc : List UInt8), l.length = m + i → 0 < i → acc.length + (tailL ((l.drop i).map wr)).length ≤ 4611686018427387904 →
    EvTo (fun k => lex_Text.l0 k (S acc) l (l.length : Int) (i : Int)) (S (acc ++ tailL ((l.drop i).map wr))) := by
  intro m
  induction m with
  | zero =>
    intro i acc h1 h2 h3
    rw [List.drop_eq_nil_of_le (by omega)]
    refine EvTo.step (fun k => by rw [lex_Text.l0]) ?_
    refine EvTo.neg (by omega) ?_
    simp only [List.map_nil, tailL, List.append_nil]
    exact EvTo.now
  | succ m ih =>
    intro i acc h1 h2 h3
    have hi : i < l.length := by omega
    rw [tailL_drop l i hi] at h3 ⊢
    simp only [List.length_append, List.length_cons] at h3
    have hb := hq l[i] (List.getElem_mem _)
    have hinc : wrap64 ((i : Int) + 1) = ((i + 1 : Nat) : Int) := by rw [w64 _ (by omega)]; omega
    have h32 : S acc ++ (⟨#[32]⟩ : ByteArray) = S (acc ++ [32]) := S_app acc [32]
    have hsz : (S (acc ++ [32])).size = acc.length + 1 := by rw [S_size]; simp
    refine EvTo.step (fun k => by rw [lex_Text.l0]) ?_
    refine EvTo.pos (by omega) (EvTo.pos (by omega) (EvTo.pos (by omega) (EvTo.pos (by omega) (EvTo.pos (by rw [S_size]; omega) ?_))))
    simp only [rd_get l i hi, hinc, h32]
    by_cases c : l[i].f0 = 3
    · have hw : wr l[i] = quo (L l[i].f1) := by simp [wr, c]
      rw [hw] at h3 ⊢
      refine EvTo.pos c (EvTo.bind (Quote_f _ hb) (EvTo.pos (by rw [hsz, S_size]; omega) ?_))
      rw [S_app]
      have := ih (i + 1) (acc ++ [32] ++ quo (L l[i].f1)) (by omega) (by omega) (by simp only [List.length_append, List.length_cons, List.length_nil]; omega)
      simpa only [List.append_assoc, List.cons_append, List.nil_append, List.singleton_append] using this
    · have hw : wr l[i] = L l[i].f1 := by simp [wr, c]
      rw [hw] at h3 ⊢
      have hf : l[i].f1 = S (L l[i].f1) := (S_L _).symm
      refine EvTo.neg c (EvTo.pos (by rw [hsz, L_size]; omega) ?_)
      rw [hf, S_app, ← hf]
      have := ih (i + 1) (acc ++ [32] ++ L l[i].f1) (by omega) (by omega) (by simp only [List.length_append, List.length_cons, List.length_nil]; omega)
      simpa only [List.append_assoc, List.cons_append, List.nil_append, List.singleton_append] using this
theorem Text_f (l : List S29) (hl : l.length ≤ 4611686018427387904) (hq : ∀ t ∈ l, t.f1.size ≤ 70368744177000) (h3 : (textL (l.map wr)).length ≤ 4611686018427387904) : EvTo (fun k => lex_Text.f k l) (S (textL (l.map wr))) := by
  unfold lex_Text.f
  cases l with
  | nil =>
    refine EvTo.step (fun k => by rw [lex_Text.l0]) ?_
    exact EvTo.neg (by simp) EvTo.now
  | cons t u =>
    have hb := hq t (by simp)
    have hrd : rd_T29 (t :: u) 0 = t := rfl
    have hz : (⟨#[]⟩ : ByteArray).size = 0 := rfl
    have hn : ∀ x : List UInt8, (⟨#[]⟩ : ByteArray) ++ S x = S x := fun x => S_app [] x
    have hinc : wrap64 ((0 : Int) + 1) = ((1 : Nat) : Int) := by rw [w64 _ (by omega)]; rfl
    simp only [List.map_cons, textL, List.length_append] at h3 ⊢
    refine EvTo.step (fun k => by rw [lex_Text.l0]) ?_
    refine EvTo.pos (by simp only [List.length_cons]; omega) (EvTo.pos (by omega) (EvTo.pos (by simp only [List.length_cons]; omega) (EvTo.neg (by omega) ?_)))
    simp only [hrd, hinc]
    by_cases c : t.f0 = 3
    · have hw : wr t = quo (L t.f1) := by simp [wr, c]
      rw [hw] at h3 ⊢
      refine EvTo.pos c (EvTo.bind (Quote_f _ hb) (EvTo.pos (by rw [hz, S_size]; omega) ?_))
      rw [hn]
      exact text_l (t :: u) hl hq u.length 1 (quo (L t.f1)) (by simp) (by omega) (by simpa using h3)
    · have hw : wr t = L t.f1 := by simp [wr, c]
      rw [hw] at h3 ⊢
      refine EvTo.neg c (EvTo.pos (by rw [hz, L_size]; omega) ?_)
      rw [show (⟨#[]⟩ : ByteArray) ++ t.f1 = S (L t.f1) by rw [← hn, S_L]]
      exact text_l (t :: u) hl hq u.length 1 (L t.f1) (by simp) (by omega) (by simpa using h3)
end Go.Proofs.Ytkcnpnkcahgniaa.Lex
