/- The plain law of OpsTexts. -/
import Derived.Test.YtmadbfahdnkecaaQ31
import Derived.Test.YtmadbfahdnkecaaOpsShowE
import Derived.Test.YtmadbfahdnkecaaLexEq3
set_option linter.unusedVariables false
set_option linter.unusedSimpArgs false
namespace Go.Proofs.Ytmadbfahdnkecaa.Pure
open Go Go.RowKit Go.Proofs.YtmadbfahdnkecaaW.PrintWords Go.Proofs.Ytmadbfahdnkecaa.Q Go.Proofs.Ytmadbfahdnkecaa.Lex Go.Proofs.Ytmadbfahdnkecaa.Ops

theorem unq_quo : ∀ (s r : List UInt8), unq false (s.flatMap quo1 ++ 34 :: r) = some (s, r)
  | [], r => by simp [unq]
  | c :: s, r => by
    rw [List.flatMap_cons, List.append_assoc]
    have ih := unq_quo s r
    by_cases c1 : c = 10
    · rw [show quo1 c = [92, 110] by simp [quo1, c1], c1]
      simp [unq, esc, ih]
    · by_cases c2 : c = 34
      · rw [show quo1 c = [92, 34] by simp [quo1, c2], c2]
        simp [unq, esc, ih]
      · by_cases c3 : c = 92
        · rw [show quo1 c = [92, 92] by simp [quo1, c3], c3]
          simp [unq, esc, ih]
        · rw [show quo1 c = [c] by simp [quo1, c1, c2, c3]]
          simp [unq, c1, c2, c3, ih]
theorem flat_len (s : List UInt8) : (s.flatMap quo1).length ≤ 2 * s.length := by
  induction s with
  | nil => simp
  | cons c s ih =>
    rw [List.flatMap_cons, List.length_append]
    have : (quo1 c).length ≤ 2 := by
      unfold quo1
      repeat' split
      all_goals simp
    simp only [List.length_cons]
    omega
theorem scan_quo (s : List UInt8) : Lex.scan (quo s) = .ok [⟨3, s, 0, 2 + (s.flatMap quo1).length⟩] := by
  have o2 : Lex.one (34 :: (s.flatMap quo1 ++ [34])) = .ok (3, s, 0, 2 + (s.flatMap quo1).length) := by
    simp only [Lex.one]
    rw [if_neg (by decide), if_neg (by decide), if_pos trivial, unq_quo]
    simp only [List.length_cons, List.length_append, List.length_nil, Except.ok.injEq, Prod.mk.injEq, true_and]
    omega
  have s2 : ∀ u, skp false (34 :: u) = 34 :: u := fun u => by simp only [skp]; rw [if_neg (by decide), if_neg (by decide)]
  have d2 : List.drop (2 + (s.flatMap quo1).length) (34 :: (s.flatMap quo1 ++ [34])) = [] := by
    apply List.drop_eq_nil_of_le
    simp; omega
  unfold Lex.scan quo
  rw [s2]
  simp only [List.length_cons, toks, o2, d2, skp]
  rw [List.length_append, List.length_singleton, show (s.flatMap quo1).length + 1 + 1 = 2 + (s.flatMap quo1).length by omega]
theorem OpsTexts : chrysalislaw17_OpsTexts.Pure := by
  intro a b ha hb
  apply EvTo.one
  unfold chrysalislaw17_OpsTexts.f
  by_cases h0 : (a.size : Int) > 1024
  · exact EvTo.pos h0 (EvTo.step (fun k => by rw [chrysalislaw17_OpsTexts.j0]) (EvTo.pos rfl known_B))
  refine EvTo.neg h0 (EvTo.step (fun k => by rw [chrysalislaw17_OpsTexts.j0]) ?_)
  by_cases h1 : (b.size : Int) > 1024
  · exact EvTo.pos (decide_eq_true h1) known_B
  refine EvTo.neg (by simpa using h1) ?_
  simp only [chrysalisref17_Text.f, Option.bind_some]
  have w0 : wrap64 ((a.size : Int) + (b.size : Int)) = ((a.size + b.size : Nat) : Int) := by unfold wrap64; omega
  rw [w0]
  clear w0
  refine EvTo.bind (two_E ⟨#[46, 46]⟩ (txt a) (txt b) (by show b.size ≤ _; omega)) ?_
  have t1 : twoS (L ⟨#[46, 46]⟩) (txt a) (txt b) = if 1024 < a.size + b.size then bad 3 else (2, 0, a ++ b, 0) := rfl
  rw [t1]
  have l1 : EvTo (fun k => ops_Two.f k ⟨#[60]⟩ 2 0 a 2 0 b) (tr (lt a b)) := two_E ⟨#[60]⟩ (txt a) (txt b) (by show b.size ≤ _; omega)
  have l2 : EvTo (fun k => ops_Two.f k ⟨#[60, 61]⟩ 2 0 b 2 0 a) (tr (!lt a b)) := two_E ⟨#[60, 61]⟩ (txt b) (txt a) (by show a.size ≤ _; omega)
  by_cases c : 1024 < a.size + b.size
  · rw [if_pos c]
    refine EvTo.bind (one_E ⟨#[108, 101, 110]⟩ (0, 0, ⟨#[]⟩)) ?_
    refine EvTo.bind l1 (EvTo.bind l2 ?_)
    exact EvTo.pos (by omega) (EvTo.pos rfl known_B)
  · rw [if_neg c]
    refine EvTo.bind (one_E ⟨#[108, 101, 110]⟩ (2, 0, a ++ b)) ?_
    refine EvTo.bind l1 (EvTo.bind l2 ?_)
    refine EvTo.neg (by omega) ?_
    have hz : (a ++ b).size = a.size + b.size := ByteArray.size_append
    refine EvTo.bind (Show_E (2, 0, a ++ b) (by show I64 0; unfold I64; omega) (by show (a ++ b).size ≤ _; omega)) ?_
    have hsh : showS (2, 0, a ++ b) = S (quo (L (a ++ b))) := rfl
    rw [hsh]
    refine EvTo.bind (Scan_f _) ?_
    have hf := flat_len (L (a ++ b))
    have hL := L_size (a ++ b)
    have hq : (S (quo (L (a ++ b)))).size = 2 + ((L (a ++ b)).flatMap quo1).length := by rw [S_size, quo]; simp; omega
    have hs : scanOf (S (quo (L (a ++ b)))) = ([⟨3, a ++ b, 0, 0⟩], 0, 0) := by
      unfold scanOf
      rw [if_pos (by omega), L_S, scan_quo, hq]
      simp only [scanV, tkS, List.nil_append, List.map_cons, List.map_nil, S_L]
      rw [Nat.sub_self]
      rfl
    rw [hs]
    have hone : oneS (L ⟨#[108, 101, 110]⟩) (2, 0, a ++ b) = whole ((a ++ b).size : Int) := rfl
    rw [hone]
    refine EvTo.pos rfl (EvTo.pos (by omega) (EvTo.pos rfl (EvTo.pos rfl (EvTo.pos (by show ((a ++ b).size : Int) = _; rw [hz]) (EvTo.pos rfl (EvTo.pos rfl ?_))))))
    refine EvTo.pos ?_ ?_
    · cases lt a b <;> (show wrap64 _ = 1; unfold wrap64 tr whole; decide)
    have ht : chrysalislaw17_truth.f (Op.bytesLess a.toList b.toList) = some (if lt a b = true then 1 else 0) := by
      rw [L_toList, L_toList]
      unfold chrysalislaw17_truth.f lt
      split <;> rfl
    simp only [ht, Option.bind_some]
    refine EvTo.pos (by cases lt a b <;> rfl) (EvTo.pos (by first | exact trivial | rfl) (EvTo.pos (by first | exact trivial | rfl) (EvTo.pos (by first | exact trivial | (show (0 : Int) < ((1 : Nat) : Int); decide)) (EvTo.pos (by first | exact trivial | rfl) known_B))))
end Go.Proofs.Ytmadbfahdnkecaa.Pure
