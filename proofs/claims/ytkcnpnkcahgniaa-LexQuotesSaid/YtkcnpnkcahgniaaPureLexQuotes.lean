/- The plain law of LexQuotes. -/
import Derived.Test.YtkcnpnkcahgniaaQ14
import Derived.Test.YtkcnpnkcahgniaaLexLaw
set_option linter.unusedVariables false
set_option linter.unusedSimpArgs false
namespace Go.Proofs.Ytkcnpnkcahgniaa.Pure
open Go Go.RowKit Go.Proofs.YtkcnpnkcahgniaaW.PrintWords Go.Proofs.Ytkcnpnkcahgniaa.Q Go.Proofs.Ytkcnpnkcahgniaa.Lex

theorem unq_quo : ∀ (s r : List UInt8), unq false (s.flatMap quo1 ++ 34 :: r) = some (s, r)
  | [], r => by simp [unq]
  | c :: s, r => by
    rw [List.flatMap_cons, List.append_assoc]
    have ih := unq_quo s r
    by_cases c1 : c = 10
    · rw [show quo1 c = [92, 110] by simp [quo1, c1], c1]
      simp [unq, esc, ih]
    · by_cases c2 : c = 34
      · rw [show quo1 c = [92, 34] by simp [quo1, c2], c2]
        simp [unq, esc, ih]
      · by_cases c3 : c = 92
        · rw [show quo1 c = [92, 92] by simp [quo1, c3], c3]
          simp [unq, esc, ih]
        · rw [show quo1 c = [c] by simp [quo1, c1, c2, c3]]
          simp [unq, c1, c2, c3, ih]
theorem flat_len (s : List UInt8) : (s.flatMap quo1).length ≤ 2 * s.length := by
  induction s with
  | nil => simp
  | cons c s ih =>
    rw [List.flatMap_cons, List.length_append]
    have : (quo1 c).length ≤ 2 := by
      unfold quo1
      repeat' split
      all_goals simp
    simp only [List.length_cons]
    omega
theorem scan_quotes (s : List UInt8) : Lex.scan (97 :: (quo s ++ [53])) = .ok [⟨1, [97], 0, 4 + (s.flatMap quo1).length⟩, ⟨3, s, 0, 3 + (s.flatMap quo1).length⟩, ⟨2, [53], 5, 1⟩] := by
  have e0 : (97 : UInt8) :: (quo s ++ [53]) = 97 :: 34 :: (s.flatMap quo1 ++ 34 :: [53]) := by simp [quo]
  rw [e0]
  have hk : isKey [97] = false := by decide
  have o1 : Lex.one (97 :: 34 :: (s.flatMap quo1 ++ 34 :: [53])) = .ok (1, [97], 0, 1) := by
    have t : List.takeWhile inn (97 :: 34 :: (s.flatMap quo1 ++ 34 :: [53])) = [97] := by
      rw [List.takeWhile_cons, if_pos (by decide), List.takeWhile_cons, if_neg (by decide)]
    simp only [Lex.one]
    rw [if_pos (by decide), t, hk]
    rfl
  have o2 : Lex.one (34 :: (s.flatMap quo1 ++ 34 :: [53])) = .ok (3, s, 0, 2 + (s.flatMap quo1).length) := by
    simp only [Lex.one]
    rw [if_neg (by decide), if_neg (by decide), if_pos trivial, unq_quo]
    simp only [List.length_cons, List.length_append, List.length_nil, Except.ok.injEq, Prod.mk.injEq, true_and]
    omega
  have o3 : Lex.one [53] = .ok (2, [53], 5, 1) := by
    have t : List.takeWhile di [53] = [53] := by rw [List.takeWhile_cons, if_pos (by decide)]; rfl
    have t2 : numOf [53] = (5, true) := by decide +kernel
    simp only [Lex.one]
    rw [if_neg (by decide), if_pos (by decide), t, t2]
    rfl
  have s1 : ∀ u, skp false (97 :: u) = 97 :: u := fun u => by simp only [skp]; rw [if_neg (by decide), if_neg (by decide)]
  have s2 : ∀ u, skp false (34 :: u) = 34 :: u := fun u => by simp only [skp]; rw [if_neg (by decide), if_neg (by decide)]
  have s3 : ∀ u, skp false (53 :: u) = 53 :: u := fun u => by simp only [skp]; rw [if_neg (by decide), if_neg (by decide)]
  have d2 : List.drop (2 + (s.flatMap quo1).length) (34 :: (s.flatMap quo1 ++ 34 :: [53])) = [53] := by
    rw [show 34 :: (s.flatMap quo1 ++ 34 :: [53]) = (34 :: (s.flatMap quo1 ++ [34])) ++ [53] by simp]
    rw [List.drop_left' (by simp; omega)]
  unfold Lex.scan
  rw [s1]
  simp only [List.length_cons, List.length_append, List.length_nil, toks, o1]
  rw [show List.drop 1 (97 :: 34 :: (s.flatMap quo1 ++ 34 :: [53])) = 34 :: (s.flatMap quo1 ++ 34 :: [53]) from rfl, s2]
  rw [show (s.flatMap quo1).length + (0 + 1 + 1) + 1 = ((s.flatMap quo1).length + 2) + 1 by omega]
  simp only [toks, o2, d2, s3]
  rw [show (s.flatMap quo1).length + 2 = ((s.flatMap quo1).length + 1) + 1 by omega]
  simp only [toks, o3]
  rw [show List.drop 1 [(53 : UInt8)] = [] from rfl]
  simp only [skp, toks, List.length_cons, List.length_append, List.length_nil]
  simp only [Except.ok.injEq, List.cons.injEq, Tk.mk.injEq, true_and, and_true]
  omega
theorem LexQuotes : chrysalislaw08_LexQuotes.Pure := by
  intro a0 ha
  apply EvTo.one (F := fun k => chrysalislaw08_LexQuotes.f k a0)
  unfold chrysalislaw08_LexQuotes.f
  by_cases h : (a0.size : Int) > 2000
  · exact EvTo.pos h known_B
  · have hf := flat_len (L a0)
    have hL := L_size a0
    have hq : (S (quo (L a0))).size = 2 + ((L a0).flatMap quo1).length := by rw [S_size, quo]; simp; omega
    have z1 : (⟨#[97]⟩ : ByteArray).size = 1 := rfl
    have z2 : (⟨#[53]⟩ : ByteArray).size = 1 := rfl
    refine EvTo.neg h (EvTo.bind (Quote_f a0 (by omega)) (EvTo.pos (by omega) (EvTo.pos (by rw [ByteArray.size_append]; omega) (EvTo.bind (Scan_f _) ?_))))
    have hs : scanOf (((⟨#[97]⟩ : ByteArray) ++ S (quo (L a0))) ++ (⟨#[53]⟩ : ByteArray)) =
        ([⟨1, S [97], 0, 0⟩, ⟨3, a0, 0, 1⟩, ⟨2, S [53], 5, ((3 + ((L a0).flatMap quo1).length : Nat) : Int)⟩], 0, 0) := by
      have e : L (((⟨#[97]⟩ : ByteArray) ++ S (quo (L a0))) ++ (⟨#[53]⟩ : ByteArray)) = 97 :: (quo (L a0) ++ [53]) := by
        rw [L_append, L_append, L_S]; rfl
      have z : (((⟨#[97]⟩ : ByteArray) ++ S (quo (L a0))) ++ (⟨#[53]⟩ : ByteArray)).size = 4 + ((L a0).flatMap quo1).length := by
        rw [ByteArray.size_append, ByteArray.size_append, hq, z1, z2]; omega
      unfold scanOf
      rw [if_pos (by omega), e, scan_quotes, z]
      generalize ((L a0).flatMap quo1).length = n
      simp only [scanV, tkS, List.nil_append, List.map_cons, List.map_nil, S_L]
      rw [show 4 + n - (4 + n) = 0 by omega, show 4 + n - (3 + n) = 1 by omega, show 4 + n - 1 = 3 + n by omega]
      rfl
    rw [hs]
    refine EvTo.pos rfl (EvTo.pos rfl (EvTo.pos (by show (1 : Int) < ((3 : Nat) : Int); decide) (EvTo.pos rfl (EvTo.pos rfl (EvTo.pos (by show (0 : Int) < ((3 : Nat) : Int); decide) (EvTo.pos ?_ (EvTo.pos (by show (2 : Int) < ((3 : Nat) : Int); decide) (EvTo.pos rfl known_B))))))))
    show (S [97]).toList = [97]
    rw [L_toList, L_S]
end Go.Proofs.Ytkcnpnkcahgniaa.Pure
