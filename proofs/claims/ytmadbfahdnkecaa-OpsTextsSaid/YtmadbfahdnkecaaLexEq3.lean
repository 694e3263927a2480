/- What lex.sign, next and Scan compute, as the list of bytes says it. -/
import Derived.Test.YtmadbfahdnkecaaLexEq2
set_option linter.unusedVariables false
set_option linter.unusedSimpArgs false
namespace Go.Proofs.Ytmadbfahdnkecaa.Lex
open Go Go.RowKit Go.Proofs.YtmadbfahdnkecaaW.PrintWords Go.Proofs.Ytmadbfahdnkecaa.Q

def PB : ByteArray := ⟨#[61, 61, 32, 33, 61, 32, 60, 61, 32, 46, 46, 32]⟩
def SB : ByteArray := ⟨#[40, 41, 123, 125, 91, 93, 44, 59, 46, 47, 61, 60, 43, 45, 42, 37]⟩
theorem inAt_one (c : UInt8) : ∀ l : List UInt8, inAt [c] l = l.contains c
  | [] => rfl
  | d :: t => by
    rw [inAt, inAt_one c t, List.contains_cons, List.isPrefixOf_cons_cons]
    simp [List.isPrefixOf]
theorem inAt_pair (c d : UInt8) : inAt [c, d, 32] (L PB) = PAIRS.contains [c, d] := by
  show inAt [c, d, 32] [61, 61, 32, 33, 61, 32, 60, 61, 32, 46, 46, 32] = _
  simp only [inAt, List.isPrefixOf, PAIRS, List.contains_cons, List.contains_nil]
  rw [Bool.eq_iff_iff]
  simp
theorem take1 (s : ByteArray) : L (s.extract 0 1) = (L s).take 1 := by rw [L_extract]; rfl
theorem take2 (s : ByteArray) : L (s.extract 0 2) = (L s).take 2 := by rw [L_extract]; rfl
theorem sign_f (s : ByteArray) (hs : s.size ≤ 140737488351232) (h1 : 1 ≤ s.size) : EvTo (fun k => lex_sign.f k s) (S (mark (L s))) := by
  rcases hl : L s with _ | ⟨c, t⟩
  · rw [L_size, hl] at h1; simp at h1
  have hno : PAIRS.contains ((L s).take 2) = false → EvTo (fun k => lex_sign.j0 k s false) (S (mark (c :: t))) := by
    intro h
    have hw := within_f SB (s.extract 0 1) (by rw [L_size, take1, hl]; simp) (by
      have e1 : (s.extract 0 1).size = 1 := by rw [L_size, take1, hl]; simp
      have e2 : SB.size = 16 := rfl
      rw [e1, e2]; omega)
    rw [take1, hl] at hw
    have e : inAt [c] (L SB) = SINGLES.contains c := inAt_one c _
    rw [show List.take 1 (c :: t) = [c] from rfl, e] at hw
    refine EvTo.step (G := fun k => (lex_within.f k SB (s.extract 0 1)).bind fun t118 => (if t118 = true then (some (s.extract 0 1)) else (some (⟨#[]⟩ : ByteArray)))) (fun k => ?_) (EvTo.bind (G := fun _ t118 => (if t118 = true then (some (s.extract 0 1)) else (some (⟨#[]⟩ : ByteArray)))) hw ?_)
    · conv => lhs; simp only [lex_sign.j0]
      rw [if_neg (by simp), if_pos (by omega), if_pos (by omega)]; rfl
    · unfold mark
      rw [← hl, h]
      rw [hl]
      simp only [Bool.false_eq_true, if_false]
      by_cases hc : SINGLES.contains c = true
      · refine EvTo.of_eq (fun k => ?_)
        rw [if_pos hc, if_pos hc]
        congr 1
        apply L_inj
        rw [take1, hl]; rfl
      · refine EvTo.of_eq (fun k => ?_)
        rw [if_neg hc, if_neg hc]; rfl
  unfold lex_sign.f
  by_cases h : (s.size : Int) > 1
  · obtain ⟨d, u, rfl⟩ : ∃ d u, t = d :: u := by
      cases t with
      | nil => rw [L_size, hl] at h; simp at h
      | cons d u => exact ⟨d, u, rfl⟩
    have e1 : (s.extract 0 2).size = 2 := by rw [L_size, take2, hl]; simp
    refine EvTo.pos h (EvTo.pos (by omega) (EvTo.pos (by omega) (EvTo.pos (by rw [e1]; omega) ?_)))
    have hw := within_f PB ((s.extract 0 2) ++ (⟨#[32]⟩ : ByteArray)) (by rw [ByteArray.size_append, e1]; omega) (by
      have e2 : PB.size = 12 := rfl
      have e3 : (⟨#[32]⟩ : ByteArray).size = 1 := rfl
      rw [ByteArray.size_append, e1, e2, e3]; omega)
    rw [L_append, take2, hl] at hw
    have e : inAt [c, d, 32] (L PB) = PAIRS.contains [c, d] := inAt_pair c d
    rw [show List.take 2 (c :: d :: u) ++ L (⟨#[32]⟩ : ByteArray) = [c, d, 32] from rfl, e] at hw
    refine EvTo.bind (G := fun k t117 => (if t117 = true then (if 1 < (s.size : Int) then (lex_sign.j0 k s ((bt s 1) != 32)) else (none)) else (lex_sign.j0 k s false))) hw ?_
    cases hp : PAIRS.contains [c, d] with
    | false =>
      refine EvTo.neg (by simp) (hno ?_)
      rw [hl]; exact hp
    | true =>
      refine EvTo.pos rfl (EvTo.pos (by omega) ?_)
      have hd : d ≠ 32 := by
        rintro rfl
        simp [PAIRS] at hp
      have hb : (bt s 1 != 32) = true := by
        have := bt_L s 1
        rw [hl] at this
        simp only [List.getD_cons_succ, List.getD_cons_zero] at this
        have e1 : ((d.toNat : Int) = 32) ↔ d = 32 := u8_iff d 32
        rw [bne_iff_ne]
        intro q
        apply hd
        rw [← e1, ← this]
        exact q
      rw [hb]
      refine EvTo.step (G := fun _ => some (s.extract 0 2)) (fun k => ?_) ?_
      · conv => lhs; simp only [lex_sign.j0]
        rw [if_pos trivial, if_pos (by omega), if_pos (by omega)]
      · have : S (mark (c :: d :: u)) = s.extract 0 2 := by
          apply L_inj
          rw [take2, hl, L_S]
          unfold mark
          rw [show List.take 2 (c :: d :: u) = [c, d] from rfl, hp]; rfl
        rw [this]
        exact EvTo.now
  · refine EvTo.neg h (hno ?_)
    have : t = [] := by
      cases t with
      | nil => rfl
      | cons d u => rw [L_size, hl] at h; simp at h; omega
    subst this
    rw [hl]
    simp [PAIRS]

/-! next -/
def oneV : Except Int (Int × List UInt8 × Int × Nat) → Int × ByteArray × Int × Int × Int × Int
  | .ok (k, x, n, m) => (k, S x, n, 0, (m : Int), 0)
  | .error e => (0, (⟨#[]⟩ : ByteArray), 0, 0, 0, e)
theorem headInner_L (s : ByteArray) : headInner.f s = some (S ((L s).takeWhile inn)) := by
  unfold headInner.f
  rw [← headOf_L innerP inn innerP_inn, S_L]
theorem headDigit_L (s : ByteArray) : headDigit.f s = some (S ((L s).takeWhile di)) := by
  unfold headDigit.f
  rw [← headOf_L digitP di digitP_di, S_L]
theorem S_size (l : List UInt8) : (S l).size = l.length := by rw [L_size, L_S]
theorem all_takeWhile {α : Type} (q : α → Bool) (l : List α) : (l.takeWhile q).all q = true := by
  induction l with
  | nil => rfl
  | cons a t ih =>
    rw [List.takeWhile_cons]
    split
    · rename_i h
      simp only [List.all_cons, h, ih, Bool.and_self]
    · rfl
theorem w32_c (c : UInt8) : wrap32 (c.toNat : Int) = (c.toNat : Int) := IntWalk.wrap32_in _ (by have := c.toNat_lt; omega)
theorem next_f (s : ByteArray) (hs : s.size ≤ 140737488351232) (h1 : 1 ≤ s.size) : EvTo (fun k => lex_next.f k s) (oneV (Lex.one (L s))) := by
  rcases hl : L s with _ | ⟨c, t⟩
  · rw [L_size, hl] at h1; simp at h1
  have hlen : (c :: t).length ≤ 140737488351232 := by rw [← hl, ← L_size]; exact hs
  unfold lex_next.f
  refine EvTo.pos (by omega) ?_
  simp only [bt0 s c t hl, w32_c, letter_f, digit_f, Option.bind_some]
  simp only [Lex.one]
  by_cases c1 : le c = true
  · refine EvTo.pos c1 ?_
    simp only [headInner_L, Option.bind_some, hl]
    simp only [c1, if_true]
    have hw : (S ((c :: t).takeWhile inn)).size ≤ 140737488351232 := by
      rw [S_size]
      have := takeWhile_len inn (c :: t)
      omega
    have hword : isWord ((c :: t).takeWhile inn) = true := by
      have hi : inn c = true := by simp [inn, c1]
      rw [List.takeWhile_cons, if_pos hi]
      simp only [isWord, c1, Bool.true_and, List.all_cons, hi]
      exact all_takeWhile inn t
    refine EvTo.bind (G := fun k t122 => (if t122 = true then (some (5, S ((c :: t).takeWhile inn), 0, 0, ((S ((c :: t).takeWhile inn)).size : Int), 0)) else ((lex_Name.f k (S ((c :: t).takeWhile inn))).bind fun t123 => (if t123 = true then (some (1, S ((c :: t).takeWhile inn), 0, 0, ((S ((c :: t).takeWhile inn)).size : Int), 0)) else (some (0, (⟨#[]⟩ : ByteArray), 0, 0, 0, 10)))))) (Key_f _ hw) ?_
    rw [L_S]
    by_cases c2 : isKey ((c :: t).takeWhile inn) = true
    · refine EvTo.pos c2 ?_
      rw [if_pos c2]
      simp only [oneV, S_size]
      exact EvTo.now
    · refine EvTo.neg c2 ?_
      rw [if_neg c2]
      refine EvTo.bind (G := fun k t123 => (if t123 = true then (some (1, S ((c :: t).takeWhile inn), 0, 0, ((S ((c :: t).takeWhile inn)).size : Int), 0)) else (some (0, (⟨#[]⟩ : ByteArray), 0, 0, 0, 10)))) (Name_f _ hw) ?_
      rw [L_S]
      have hn : isName ((c :: t).takeWhile inn) = decide (((c :: t).takeWhile inn).length ≤ 16) := by
        unfold isName
        rw [hword, show isKey ((c :: t).takeWhile inn) = false by simpa using c2]
        simp
      rw [hn]
      by_cases c3 : ((c :: t).takeWhile inn).length ≤ 16
      · refine EvTo.pos (decide_eq_true c3) ?_
        rw [if_pos c3]
        simp only [oneV, S_size]
        exact EvTo.now
      · refine EvTo.neg (by simpa using c3) ?_
        rw [if_neg c3]
        exact EvTo.now
  · refine EvTo.neg c1 ?_
    rw [if_neg c1]
    by_cases c2 : di c = true
    · refine EvTo.pos c2 ?_
      rw [if_pos c2]
      simp only [headDigit_L, Option.bind_some, hl]
      have hw : (S ((c :: t).takeWhile di)).size ≤ 140737488351232 := by
        rw [S_size]
        have := takeWhile_len di (c :: t)
        omega
      refine EvTo.bind (G := fun k (bt126 : Int × Bool) => (if bt126.2 = true then (some ((2 : Int), S ((c :: t).takeWhile di), bt126.1, 0, ((S ((c :: t).takeWhile di)).size : Int), 0)) else (some (0, (⟨#[]⟩ : ByteArray), 0, 0, 0, 10)))) (number_f _ hw) ?_
      rw [L_S]
      by_cases c3 : (numOf ((c :: t).takeWhile di)).2 = true
      · refine EvTo.pos c3 ?_
        rw [if_pos c3]
        simp only [oneV, S_size]
        exact EvTo.now
      · refine EvTo.neg c3 ?_
        rw [if_neg c3]
        exact EvTo.now
    · refine EvTo.neg c2 ?_
      rw [if_neg c2]
      have e1 : ((c.toNat : Int) = 34) ↔ c = 34 := u8_iff c 34
      by_cases c3 : c = 34
      · refine EvTo.pos (e1.2 c3) ?_
        rw [if_pos c3]
        refine EvTo.bind (G := fun k (bt128 : ByteArray × Int) => (if bt128.2 > 0 then (some (3, bt128.1, 0, 0, bt128.2, 0)) else (some (0, (⟨#[]⟩ : ByteArray), 0, 0, 0, 10)))) (quoted_f s hs h1) ?_
        rw [hl]
        simp only [List.drop_succ_cons, List.drop_zero]
        cases hu : unq false t with
        | none =>
          refine EvTo.neg (by simp [quotedV]) ?_
          exact EvTo.now
        | some r =>
          obtain ⟨x, r⟩ := r
          have := unq_len t false x r hu
          have hz : s.size = t.length + 1 := by rw [L_size, hl]; rfl
          simp only [quotedV, List.nil_append]
          refine EvTo.pos (by omega) ?_
          rw [hz]
          exact EvTo.now
      · refine EvTo.neg (fun h => c3 (e1.1 h)) ?_
        rw [if_neg c3]
        refine EvTo.bind (G := fun k (t130 : ByteArray) => (if t130.toList = ([] : List UInt8) then (some (0, (⟨#[]⟩ : ByteArray), 0, 0, 0, 9)) else (some (4, t130, 0, 0, (t130.size : Int), 0)))) (sign_f s hs h1) ?_
        rw [hl]
        by_cases c4 : mark (c :: t) = []
        · refine EvTo.pos (by rw [isE, L_S]; exact c4) ?_
          simp only [if_pos c4]
          exact EvTo.now
        · refine EvTo.neg (by rw [isE, L_S]; exact c4) ?_
          simp only [if_neg c4, oneV, S_size]
          exact EvTo.now

/-! Scan -/
def tkS (total : Nat) (t : Tk) : S48 := ⟨t.kind, S t.text, t.n, ((total - t.rem : Nat) : Int)⟩
def scanV (total : Nat) (acc : List S48) : Except (Int × Nat) (List Tk) → List S48 × Int × Int
  | .ok ts => (acc ++ ts.map (tkS total), 0, 0)
  | .error (e, r) => ([], e, ((total - r : Nat) : Int))
theorem Lex_one_err {l : List UInt8} {e : Int} (h : Lex.one l = .error e) (hl : l ≠ []) : e ≠ 0 := by
  unfold Lex.one at h
  split at h
  · exact absurd rfl hl
  · simp only [] at h
    repeat' split at h
    all_goals cases h
    all_goals decide
theorem scan_l (x0 : ByteArray) (h0 : x0.size ≤ 8192) : ∀ (f : Nat) (s : ByteArray) (acc : List S48), s.size < f → s.size ≤ x0.size → acc.length + s.size ≤ x0.size →
    EvTo (fun k => lex_Scan.l0 k x0 acc s) (scanV x0.size acc (toks f (L s))) := by
  intro f
  induction f with
  | zero => intro s acc h; omega
  | succ f ih =>
    intro s acc h1 h2 h3
    rcases hl : L s with _ | ⟨c, t⟩
    · refine EvTo.step (G := fun _ => some (scanV x0.size acc (toks (f + 1) []))) (fun k => ?_) EvTo.now
      simp only [lex_Scan.l0]
      rw [if_pos (by rw [isE]; exact hl)]
      simp [toks, scanV]
    · have hsz : s.size = t.length + 1 := by rw [L_size, hl]; rfl
      have hn := next_f s (by omega) (by omega)
      refine EvTo.step (fun k => by
        conv => lhs; simp only [lex_Scan.l0]
        rw [if_neg (by rw [isE, hl]; simp)]) (EvTo.bind hn ?_)
      rw [hl]
      simp only [toks]
      cases ho : Lex.one (c :: t) with
      | error e =>
        simp only [oneV]
        refine EvTo.neg (Lex_one_err ho (by simp)) ?_
        refine EvTo.of_eq (fun k => ?_)
        rw [w64 _ (by omega)]
        simp only [scanV, List.length_cons]
        congr 3
        omega
      | ok r =>
        obtain ⟨kd, x, n, m⟩ := r
        have hm := one_len ho
        simp only [List.length_cons] at hm
        simp only [oneV]
        refine EvTo.pos trivial (EvTo.pos (by omega) (EvTo.pos (by omega) (EvTo.pos (by omega) ?_)))
        simp only [lexPass.f, Option.bind_some]
        have e1 : L (passOf (s.extract (m : Int).toNat s.size)) = skp false ((c :: t).drop m) := by
          rw [passOf_L, L_extract, hl, Int.toNat_natCast, List.take_of_length_le]
          rw [List.length_drop, hsz]; simp
        have e2 : (passOf (s.extract (m : Int).toNat s.size)).size ≤ s.size - m := by
          rw [L_size, e1]
          have := skp_len ((c :: t).drop m) false
          rw [List.length_drop] at this
          simp only [List.length_cons] at this
          omega
        have := ih (passOf (s.extract (m : Int).toNat s.size)) (acc ++ [(⟨kd, S x, n, wrap64 ((x0.size : Int) - (s.size : Int))⟩ : S48)]) (by omega) (by omega) (by simp only [List.length_append, List.length_cons, List.length_nil]; omega)
        rw [e1] at this
        have e4 : wrap64 ((x0.size : Int) - (s.size : Int)) = ((x0.size - (c :: t).length : Nat) : Int) := by
          rw [w64 _ (by omega)]
          simp only [List.length_cons]
          omega
        rw [e4] at this ⊢
        generalize toks f (skp false ((c :: t).drop m)) = o at this ⊢
        cases o with
        | error e => exact this
        | ok ts => simpa only [scanV, List.map_cons, tkS, List.append_assoc, List.singleton_append] using this
/-- What Scan answers. -/
def scanOf (s : ByteArray) : List S48 × Int × Int := if s.size ≤ 8192 then scanV s.size [] (Lex.scan (L s)) else ([], 3, 0)
theorem Scan_f (s : ByteArray) : EvTo (fun k => lex_Scan.f k s) (scanOf s) := by
  unfold lex_Scan.f scanOf
  by_cases h : s.size ≤ 8192
  · refine EvTo.neg (by omega) ?_
    rw [if_pos h]
    simp only [lexPass.f, Option.bind_some]
    have hl := skp_len (L s) false
    have e : (passOf s).size ≤ s.size := by rw [L_size, passOf_L, L_size]; exact hl
    have := scan_l s h (s.size + 1) (passOf s) [] (by omega) e (by simpa using e)
    rw [passOf_L] at this
    unfold Lex.scan
    rw [← L_size]
    exact this
  · refine EvTo.pos (by omega) ?_
    rw [if_neg h]
    exact EvTo.now
end Go.Proofs.Ytmadbfahdnkecaa.Lex
