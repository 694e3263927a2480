/- What lex.Quote, quoted, number, sign, next and Scan compute, as the list of bytes says it. -/
import Derived.Test.YtmadbfahdnkecaaLexEq
import Derived.Test.YtmadbfahdnkecaaQ5
set_option linter.unusedVariables false
set_option linter.unusedSimpArgs false
namespace Go.Proofs.Ytmadbfahdnkecaa.Lex
open Go Go.RowKit Go.Proofs.YtmadbfahdnkecaaW.PrintWords Go.Proofs.Ytmadbfahdnkecaa.Q

def nums (l : List UInt8) : List Int := l.map fun c => (c.toNat : Int)
theorem nums_app (a b : List UInt8) : nums (a ++ b) = nums a ++ nums b := by simp [nums]
theorem nums_len (a : List UInt8) : (nums a).length = a.length := by simp [nums]
theorem S_nums (l : List UInt8) : strOfNums (nums l) = S l := by
  apply L_inj
  rw [L_ofNums, L_S, nums, List.map_map]
  conv => rhs; rw [← List.map_id l]
  apply List.map_congr_left
  intro a _
  simp
theorem inc (i n : Nat) (h : i + 1 ≤ 9223372036854775807) : wrap64 ((i : Int) + 1) = ((i + 1 : Nat) : Int) := by
  rw [w64 _ (by omega)]; omega

/-! Quote -/
theorem quote_l (s : ByteArray) (hs : s.size ≤ 140737488351232) : ∀ (m i : Nat) (acc : List UInt8), s.size = m + i → acc.length + 2 * m + 1 < 140737488355328 →
    EvTo (fun k => lex_Quote.l0 k s (nums acc) (s.size : Int) (i : Int)) (S (acc ++ (((L s).drop i).flatMap quo1 ++ [34]))) := by
  intro m
  induction m with
  | zero =>
    intro i acc h1 h2
    rw [List.drop_eq_nil_of_le (by rw [← L_size]; omega)]
    refine EvTo.step (G := fun _ => some (S (acc ++ ([].flatMap quo1 ++ [34])))) (fun k => ?_) EvTo.now
    simp only [lex_Quote.l0]
    rw [if_neg (by omega), if_pos (by rw [nums_len]; omega)]
    congr 1
    rw [← S_nums, nums_app]; rfl
  | succ m ih =>
    intro i acc h1 h2
    have hd := drop_getD (L s) i (by rw [← L_size]; omega)
    have hb := bt_L s i
    generalize (L s).getD i 0 = c at hd hb
    have e1 : ((c.toNat : Int) = 10) ↔ c = 10 := u8_iff c 10
    have e2 : ((c.toNat : Int) = 34) ↔ c = 34 := u8_iff c 34
    have e3 : ((c.toNat : Int) = 92) ↔ c = 92 := u8_iff c 92
    rw [hd, List.flatMap_cons]
    have key : ∀ q : List UInt8, quo1 c = q → q.length ≤ 2 → (∀ k, lex_Quote.l0 (k + 1) s (nums acc) (s.size : Int) (i : Int) = lex_Quote.l0 k s (nums (acc ++ q)) (s.size : Int) ((i + 1 : Nat) : Int)) →
        EvTo (fun k => lex_Quote.l0 k s (nums acc) (s.size : Int) (i : Int)) (S (acc ++ (quo1 c ++ ((L s).drop (i + 1)).flatMap quo1 ++ [34]))) := by
      intro q hq hl hk
      have := ih (i + 1) (acc ++ q) (by omega) (by rw [List.length_append]; omega)
      rw [hq]
      rw [List.append_assoc] at this
      rw [List.append_assoc]
      exact EvTo.step hk this
    by_cases c1 : c = 10
    · refine key [92, 110] (by simp [quo1, c1]) (by simp) (fun k => ?_)
      conv => lhs; simp only [lex_Quote.l0]
      rw [if_pos (by omega), if_pos (by omega), if_pos (by omega), hb, if_pos (e1.2 c1)]
      simp only [Option.bind_some]
      rw [if_pos (by rw [nums_len]; simp; omega), inc i 0 (by omega), nums_app]; rfl
    · by_cases c2 : c = 34
      · refine key [92, 34] (by simp [quo1, c2]) (by simp) (fun k => ?_)
        conv => lhs; simp only [lex_Quote.l0]
        rw [if_pos (by omega), if_pos (by omega), if_pos (by omega), hb, if_neg (fun h => c1 (e1.1 h)), if_pos (e2.2 c2)]
        simp only [Option.bind_some]
        rw [if_pos (by rw [nums_len]; simp; omega), inc i 0 (by omega), nums_app, c2]; rfl
      · by_cases c3 : c = 92
        · refine key [92, 92] (by simp [quo1, c3]) (by simp) (fun k => ?_)
          conv => lhs; simp only [lex_Quote.l0]
          rw [if_pos (by omega), if_pos (by omega), if_pos (by omega), hb, if_neg (fun h => c1 (e1.1 h)), if_neg (fun h => c2 (e2.1 h)), if_pos (e3.2 c3)]
          simp only [Option.bind_some]
          rw [if_pos (by rw [nums_len]; simp; omega), inc i 0 (by omega), nums_app, c3]; rfl
        · refine key [c] (by simp [quo1, c1, c2, c3]) (by simp) (fun k => ?_)
          conv => lhs; simp only [lex_Quote.l0]
          rw [if_pos (by omega), if_pos (by omega), if_pos (by omega), hb, if_neg (fun h => c1 (e1.1 h)), if_neg (fun h => c2 (e2.1 h)), if_neg (fun h => c3 (e3.1 h)), if_pos (by rw [nums_len]; omega), inc i 0 (by omega), nums_app]; rfl
theorem Quote_f (s : ByteArray) (hs : s.size ≤ 70368744177000) : EvTo (fun k => lex_Quote.f k s) (S (quo (L s))) := by
  have := quote_l s (by omega) s.size 0 [34] (by omega) (by simp; omega)
  simpa [lex_Quote.f, quo, nums] using this

/-! quoted -/
theorem escape_f (c : UInt8) : lex_escape.f (c.toNat : Int) = some (match esc c with | some x => ((x.toNat : Int), true) | none => (0, false)) := by
  have e1 : ((c.toNat : Int) = 110) ↔ c = 110 := u8_iff c 110
  have e2 : ((c.toNat : Int) = 34) ↔ c = 34 := u8_iff c 34
  have e3 : ((c.toNat : Int) = 92) ↔ c = 92 := u8_iff c 92
  unfold lex_escape.f esc
  by_cases c1 : c = 110
  · rw [if_pos (e1.2 c1), if_pos c1]; rfl
  · rw [if_neg (fun h => c1 (e1.1 h)), if_neg c1]
    by_cases c2 : c = 34
    · rw [if_pos (e2.2 c2), if_pos c2, c2]
    · rw [if_neg (fun h => c2 (e2.1 h)), if_neg c2]
      by_cases c3 : c = 92
      · rw [if_pos (e3.2 c3), if_pos c3, c3]
      · rw [if_neg (fun h => c3 (e3.1 h)), if_neg c3]
def quotedV (size : Nat) (acc : List UInt8) : Option (List UInt8 × List UInt8) → ByteArray × Int
  | some (x, r) => (S (acc ++ x), ((size - r.length : Nat) : Int))
  | none => ((⟨#[]⟩ : ByteArray), 0)
theorem quotedV_cons (size : Nat) (acc : List UInt8) (c : UInt8) (o : Option (List UInt8 × List UInt8)) : quotedV size acc (o.map fun r => (c :: r.1, r.2)) = quotedV size (acc ++ [c]) o := by
  cases o with
  | none => rfl
  | some r => simp [quotedV]
theorem quoted_l (s : ByteArray) (hs : s.size ≤ 140737488351232) : ∀ (m i : Nat) (acc : List UInt8) (b : Bool), s.size = m + i → acc.length + m < 140737488355328 →
    EvTo (fun k => lex_quoted.l0 k s (nums acc) b (i : Int)) (quotedV s.size acc (unq b ((L s).drop i))) := by
  intro m
  induction m with
  | zero =>
    intro i acc b h1 h2
    rw [List.drop_eq_nil_of_le (by rw [← L_size]; omega)]
    have : unq b [] = none := by cases b <;> rfl
    rw [this]
    refine EvTo.step (G := fun _ => some (quotedV s.size acc none)) (fun k => ?_) EvTo.now
    simp only [lex_quoted.l0]
    rw [if_neg (by omega)]; rfl
  | succ m ih =>
    intro i acc b h1 h2
    have hd := drop_getD (L s) i (by rw [← L_size]; omega)
    have hb := bt_L s i
    generalize (L s).getD i 0 = c at hd hb
    have e1 : ((c.toNat : Int) = 34) ↔ c = 34 := u8_iff c 34
    have e2 : ((c.toNat : Int) = 10) ↔ c = 10 := u8_iff c 10
    have e3 : ((c.toNat : Int) = 92) ↔ c = 92 := u8_iff c 92
    rw [hd]
    cases b with
    | true =>
      simp only [unq]
      cases he : esc c with
      | none =>
        refine EvTo.step (G := fun _ => some (quotedV s.size acc none)) (fun k => ?_) EvTo.now
        simp only [lex_quoted.l0]
        rw [if_pos (by omega), if_pos (by omega), if_pos trivial, hb, escape_f, he]
        simp only [Option.bind_some]
        rfl
      | some x =>
        simp only [quotedV_cons]
        refine EvTo.step (G := fun k => lex_quoted.l0 k s (nums (acc ++ [x])) false ((i + 1 : Nat) : Int)) (fun k => ?_) (ih (i + 1) (acc ++ [x]) false (by omega) (by simp; omega))
        conv => lhs; simp only [lex_quoted.l0]
        rw [if_pos (by omega), if_pos (by omega), if_pos trivial, hb, escape_f, he]
        simp only [Option.bind_some]
        rw [if_pos trivial, if_pos (by rw [nums_len]; omega), inc i 0 (by omega), nums_app]; rfl
    | false =>
      simp only [unq]
      by_cases c1 : c = 34
      · rw [if_pos c1]
        refine EvTo.step (G := fun _ => some (quotedV s.size acc (some ([], (L s).drop (i + 1))))) (fun k => ?_) EvTo.now
        simp only [lex_quoted.l0]
        rw [if_pos (by omega), if_pos (by omega), if_neg (by simp), hb, if_pos (e1.2 c1), inc i 0 (by omega), S_nums]
        have : s.size - ((L s).drop (i + 1)).length = i + 1 := by rw [List.length_drop, ← L_size]; omega
        simp only [quotedV, this, List.append_nil]
      · rw [if_neg c1]
        by_cases c2 : c = 10
        · rw [if_pos c2]
          refine EvTo.step (G := fun _ => some (quotedV s.size acc none)) (fun k => ?_) EvTo.now
          simp only [lex_quoted.l0]
          rw [if_pos (by omega), if_pos (by omega), if_neg (by simp), hb, if_neg (fun h => c1 (e1.1 h)), if_pos (e2.2 c2)]; rfl
        · rw [if_neg c2]
          by_cases c3 : c = 92
          · rw [if_pos c3]
            refine EvTo.step (G := fun k => lex_quoted.l0 k s (nums acc) true ((i + 1 : Nat) : Int)) (fun k => ?_) (ih (i + 1) acc true (by omega) (by omega))
            conv => lhs; simp only [lex_quoted.l0]
            rw [if_pos (by omega), if_pos (by omega), if_neg (by simp), hb, if_neg (fun h => c1 (e1.1 h)), if_neg (fun h => c2 (e2.1 h)), if_pos (e3.2 c3), inc i 0 (by omega)]
          · rw [if_neg c3, quotedV_cons]
            refine EvTo.step (G := fun k => lex_quoted.l0 k s (nums (acc ++ [c])) false ((i + 1 : Nat) : Int)) (fun k => ?_) (ih (i + 1) (acc ++ [c]) false (by omega) (by simp; omega))
            conv => lhs; simp only [lex_quoted.l0]
            rw [if_pos (by omega), if_pos (by omega), if_neg (by simp), hb, if_neg (fun h => c1 (e1.1 h)), if_neg (fun h => c2 (e2.1 h)), if_neg (fun h => c3 (e3.1 h)), if_pos (by rw [nums_len]; omega), inc i 0 (by omega), nums_app]; rfl
theorem quoted_f (s : ByteArray) (hs : s.size ≤ 140737488351232) (h1 : 1 ≤ s.size) : EvTo (fun k => lex_quoted.f k s) (quotedV s.size [] (unq false ((L s).drop 1))) := by
  have := quoted_l s hs (s.size - 1) 1 [] false (by omega) (by simp; omega)
  simpa [lex_quoted.f, nums] using this

/-! number -/
theorem number_l (s : ByteArray) (hs : s.size ≤ 140737488351232) : ∀ (m i : Nat) (n : Int), s.size = m + i → 0 ≤ n →
    EvTo (fun k => lex_number.l0 k s n (s.size : Int) (i : Int)) (wrap64 (((L s).drop i).foldl nstep n), decide (((L s).drop i).foldl nstep n < 9223372036854775808)) := by
  intro m
  induction m with
  | zero =>
    intro i n h1 h2
    rw [List.drop_eq_nil_of_le (by rw [← L_size]; omega)]
    refine EvTo.step (G := fun _ => some (wrap64 n, decide (n < 9223372036854775808))) (fun k => ?_) EvTo.now
    simp only [lex_number.l0]
    rw [if_neg (by omega)]
    congr 2
    rw [Bool.eq_iff_iff]
    simp only [beq_iff_eq, decide_eq_true_eq]
    omega
  | succ m ih =>
    intro i n h1 h2
    have hd := drop_getD (L s) i (by rw [← L_size]; omega)
    have hb := bt_L s i
    generalize (L s).getD i 0 = c at hd hb
    rw [hd, List.foldl_cons]
    refine EvTo.step (G := fun k => lex_number.l0 k s (nstep n c) (s.size : Int) ((i + 1 : Nat) : Int)) (fun k => ?_) (ih (i + 1) (nstep n c) (by omega) (by unfold nstep; exact wrap_u64_nonneg _))
    conv => lhs; simp only [lex_number.l0]
    rw [if_pos (by omega), if_pos (by omega), if_pos (by omega), hb, inc i 0 (by omega)]; rfl
theorem number_f (s : ByteArray) (hs : s.size ≤ 140737488351232) : EvTo (fun k => lex_number.f k s) (numOf (L s)) := by
  have hl := number_l s hs s.size 0 0 (by omega) (by omega)
  rw [List.drop_zero] at hl
  have hno : long (L s) = false → EvTo (fun k => lex_number.j0 k s false) (numOf (L s)) := by
    intro h
    refine EvTo.step (G := fun k => lex_number.l0 k s 0 (s.size : Int) 0) (fun k => ?_) (by unfold numOf; rw [h]; exact hl)
    simp only [lex_number.j0]
    rw [if_neg (by simp)]
  have hyes : long (L s) = true → EvTo (fun k => lex_number.j0 k s true) (numOf (L s)) := by
    intro h
    refine EvTo.step (G := fun k => some (0, false)) (fun k => ?_) (by unfold numOf; rw [h]; exact EvTo.now)
    simp only [lex_number.j0]
    rw [if_pos trivial]
  unfold lex_number.f
  by_cases h : (s.size : Int) > 19
  · refine EvTo.pos h (hyes ?_)
    unfold long
    rw [show decide (19 < (L s).length) = true from decide_eq_true (by rw [← L_size]; omega)]; rfl
  · refine EvTo.neg h ?_
    have d1 : decide (19 < (L s).length) = false := decide_eq_false (by rw [← L_size]; omega)
    by_cases h2 : (s.size : Int) > 1
    · refine EvTo.pos h2 (EvTo.pos (by omega) ?_)
      have d2 : decide (1 < (L s).length) = true := decide_eq_true (by rw [← L_size]; omega)
      have d3 : (bt s 0 == 48) = ((L s).head? == some 48) := by
        rcases hl2 : L s with _ | ⟨c, t⟩
        · rw [L_size, hl2] at h2; simp at h2
        · rw [bt0 s c t hl2]
          have e1 : ((c.toNat : Int) = 48) ↔ c = 48 := u8_iff c 48
          rw [Bool.eq_iff_iff]
          simp only [List.head?_cons, beq_iff_eq, Option.some.injEq, ← e1]
      rw [d3]
      cases h4 : ((L s).head? == some 48) with
      | true => exact hyes (by unfold long; rw [d1, d2, h4]; rfl)
      | false => exact hno (by unfold long; rw [d1, d2, h4]; rfl)
    · refine EvTo.neg h2 (hno ?_)
      unfold long
      rw [d1, show decide (1 < (L s).length) = false from decide_eq_false (by rw [← L_size]; omega)]; rfl
end Go.Proofs.Ytmadbfahdnkecaa.Lex
