/- What a value is as text: a text quoted, an int in digits; what ops.Show and the document's Show come to. -/
import Derived.Test.YtmadbfahdnkecaaOpsIs
import Derived.Test.YtmadbfahdnkecaaQ6
import Derived.Test.YtmadbfahdnkecaaQ21
set_option linter.unusedVariables false
set_option linter.unusedSimpArgs false
namespace Go.Proofs.Ytmadbfahdnkecaa.Ops
open Go Go.RowKit Go.Proofs.YtmadbfahdnkecaaW.PrintWords Go.Proofs.Ytmadbfahdnkecaa.Q Go.Proofs.Ytmadbfahdnkecaa.Lex

def nums (l : List UInt8) : List Int := l.map fun c => (c.toNat : Int)
theorem nums_app (a b : List UInt8) : nums (a ++ b) = nums a ++ nums b := by simp [nums]
theorem nums_len (a : List UInt8) : (nums a).length = a.length := by simp [nums]
theorem S_nums (l : List UInt8) : strOfNums (nums l) = S l := by
  apply L_inj
  rw [L_ofNums, L_S, nums, List.map_map]
  conv => rhs; rw [← List.map_id l]
  apply List.map_congr_left
  intro a _
  simp
theorem inc (i n : Nat) (h : i + 1 ≤ 9223372036854775807) : wrap64 ((i : Int) + 1) = ((i + 1 : Nat) : Int) := by
  rw [wrap_id (by unfold I64; omega)]; omega

/-! Quote -/
theorem quote_l (s : ByteArray) (hs : s.size ≤ 140737488351232) : ∀ (m i : Nat) (acc : List UInt8), s.size = m + i → acc.length + 2 * m + 1 < 140737488355328 →
    EvTo (fun k => lex_Quote.l0 k s (nums acc) (s.size : Int) (i : Int)) (S (acc ++ (((L s).drop i).flatMap quo1 ++ [34]))) := by
  intro m
  induction m with
  | zero =>
    intro i acc h1 h2
    rw [List.drop_eq_nil_of_le (by rw [← L_size]; omega)]
    refine EvTo.step (G := fun _ => some (S (acc ++ ([].flatMap quo1 ++ [34])))) (fun k => ?_) EvTo.now
    simp only [lex_Quote.l0]
    rw [if_neg (by omega), if_pos (by rw [nums_len]; omega)]
    congr 1
    rw [← S_nums, nums_app]; rfl
  | succ m ih =>
    intro i acc h1 h2
    have hd := drop_getD (L s) i (by rw [← L_size]; omega)
    have hb := bt_L s i
    generalize (L s).getD i 0 = c at hd hb
    have e1 : ((c.toNat : Int) = 10) ↔ c = 10 := u8_iff c 10
    have e2 : ((c.toNat : Int) = 34) ↔ c = 34 := u8_iff c 34
    have e3 : ((c.toNat : Int) = 92) ↔ c = 92 := u8_iff c 92
    rw [hd, List.flatMap_cons]
    have key : ∀ q : List UInt8, quo1 c = q → q.length ≤ 2 → (∀ k, lex_Quote.l0 (k + 1) s (nums acc) (s.size : Int) (i : Int) = lex_Quote.l0 k s (nums (acc ++ q)) (s.size : Int) ((i + 1 : Nat) : Int)) →
        EvTo (fun k => lex_Quote.l0 k s (nums acc) (s.size : Int) (i : Int)) (S (acc ++ (quo1 c ++ ((L s).drop (i + 1)).flatMap quo1 ++ [34]))) := by
      intro q hq hl hk
      have := ih (i + 1) (acc ++ q) (by omega) (by rw [List.length_append]; omega)
      rw [hq]
      rw [List.append_assoc] at this
      rw [List.append_assoc]
      exact EvTo.step hk this
    by_cases c1 : c = 10
    · refine key [92, 110] (by simp [quo1, c1]) (by simp) (fun k => ?_)
      conv => lhs; simp only [lex_Quote.l0]
      rw [if_pos (by omega), if_pos (by omega), if_pos (by omega), hb, if_pos (e1.2 c1)]
      simp only [Option.bind_some]
      rw [if_pos (by rw [nums_len]; simp; omega), inc i 0 (by omega), nums_app]; rfl
    · by_cases c2 : c = 34
      · refine key [92, 34] (by simp [quo1, c2]) (by simp) (fun k => ?_)
        conv => lhs; simp only [lex_Quote.l0]
        rw [if_pos (by omega), if_pos (by omega), if_pos (by omega), hb, if_neg (fun h => c1 (e1.1 h)), if_pos (e2.2 c2)]
        simp only [Option.bind_some]
        rw [if_pos (by rw [nums_len]; simp; omega), inc i 0 (by omega), nums_app, c2]; rfl
      · by_cases c3 : c = 92
        · refine key [92, 92] (by simp [quo1, c3]) (by simp) (fun k => ?_)
          conv => lhs; simp only [lex_Quote.l0]
          rw [if_pos (by omega), if_pos (by omega), if_pos (by omega), hb, if_neg (fun h => c1 (e1.1 h)), if_neg (fun h => c2 (e2.1 h)), if_pos (e3.2 c3)]
          simp only [Option.bind_some]
          rw [if_pos (by rw [nums_len]; simp; omega), inc i 0 (by omega), nums_app, c3]; rfl
        · refine key [c] (by simp [quo1, c1, c2, c3]) (by simp) (fun k => ?_)
          conv => lhs; simp only [lex_Quote.l0]
          rw [if_pos (by omega), if_pos (by omega), if_pos (by omega), hb, if_neg (fun h => c1 (e1.1 h)), if_neg (fun h => c2 (e2.1 h)), if_neg (fun h => c3 (e3.1 h)), if_pos (by rw [nums_len]; omega), inc i 0 (by omega), nums_app]; rfl
theorem Quote_f (s : ByteArray) (hs : s.size ≤ 70368744177000) : EvTo (fun k => lex_Quote.f k s) (S (quo (L s))) := by
  have := quote_l s (by omega) s.size 0 [34] (by omega) (by simp; omega)
  simpa [lex_Quote.f, quo, nums] using this

theorem rquote_l (s : ByteArray) (hs : s.size ≤ 140737488351232) : ∀ (m i : Nat) (acc : List UInt8), s.size = m + i → acc.length + 2 * m + 1 < 140737488355328 →
    EvTo (fun k => chrysalisref08_Quote.l0 k s (nums acc) (i : Int)) (S (acc ++ (((L s).drop i).flatMap quo1 ++ [34]))) := by
  intro m
  induction m with
  | zero =>
    intro i acc h1 h2
    have hnil : (L s).drop i = [] := List.drop_eq_nil_of_le (by rw [← L_size]; omega)
    rw [hnil]
    refine EvTo.step (fun k => by rw [chrysalisref08_Quote.l0]) ?_
    refine EvTo.neg (by omega) (EvTo.pos (by rw [nums_len]; omega) (EvTo.of_eq (fun k => ?_)))
    congr 1
    rw [← S_nums, nums_app]; rfl
  | succ m ih =>
    intro i acc h1 h2
    have hd := drop_getD (L s) i (by rw [← L_size]; omega)
    have hb := bt_L s i
    generalize (L s).getD i 0 = c at hd hb
    have e1 : ((c.toNat : Int) = 10) ↔ c = 10 := u8_iff c 10
    have e2 : ((c.toNat : Int) = 34) ↔ c = 34 := u8_iff c 34
    have e3 : ((c.toNat : Int) = 92) ↔ c = 92 := u8_iff c 92
    rw [hd, List.flatMap_cons]
    have key : ∀ q : List UInt8, quo1 c = q → q.length ≤ 2 → EvTo (fun k => chrysalisref08_Quote.l0 k s (nums acc ++ nums q) ((i + 1 : Nat) : Int)) (S (acc ++ (quo1 c ++ ((L s).drop (i + 1)).flatMap quo1 ++ [34]))) := by
      intro q hq hl
      have := ih (i + 1) (acc ++ q) (by omega) (by rw [List.length_append]; omega)
      rw [hq]
      rw [List.append_assoc, nums_app] at this
      rw [List.append_assoc]
      exact this
    refine EvTo.step (fun k => by rw [chrysalisref08_Quote.l0]) ?_
    refine EvTo.pos (by omega) (EvTo.pos (by omega) ?_)
    simp only [hb, inc i 0 (by omega), Option.bind_some]
    by_cases c1 : c = 10
    · refine EvTo.pos (e1.2 c1) (EvTo.pos (by rw [nums_len]; simp; omega) ?_)
      exact key [92, 110] (by simp [quo1, c1]) (by simp)
    · refine EvTo.neg (fun h => c1 (e1.1 h)) ?_
      by_cases c2 : c = 34
      · refine EvTo.pos (e2.2 c2) (EvTo.pos (by rw [nums_len]; simp; omega) ?_)
        have := key [92, 34] (by simp [quo1, c2]) (by simp)
        rw [c2] at this ⊢
        exact this
      · refine EvTo.neg (fun h => c2 (e2.1 h)) ?_
        by_cases c3 : c = 92
        · refine EvTo.pos (e3.2 c3) (EvTo.pos (by rw [nums_len]; simp; omega) ?_)
          have := key [92, 92] (by simp [quo1, c3]) (by simp)
          rw [c3] at this ⊢
          exact this
        · refine EvTo.neg (fun h => c3 (e3.1 h)) (EvTo.pos (by rw [nums_len]; omega) ?_)
          exact key [c] (by simp [quo1, c1, c2, c3]) (by simp)
theorem rQuote_f (s : ByteArray) (hs : s.size ≤ 70368744177000) : EvTo (fun k => chrysalisref08_Quote.f k s) (S (quo (L s))) := by
  have := rquote_l s (by omega) s.size 0 [34] (by omega) (by simp; omega)
  simpa [chrysalisref08_Quote.f, quo, nums] using this

/-! Digits -/
theorem digs_wrap (n : Nat) : (48 + (n : Int) % 10) % 256 = 48 + (n : Int) % 10 := by omega
/-- The least digits first. -/
def lds : Nat → Nat → List Int
  | 0, _ => []
  | f + 1, u => if u = 0 then [] else (48 + (u : Int) % 10) :: lds f (u / 10)
theorem lds_zero (f : Nat) : lds f 0 = [] := by cases f <;> simp [lds]
theorem digs_lds : ∀ (f u : Nat) (acc : List Int), u < 10 ^ f → 0 < u → digs f u acc = (lds f u).reverse ++ acc := by
  intro f
  induction f with
  | zero => intro u acc h h0; simp at h; omega
  | succ f ih =>
    intro u acc h h0
    simp only [digs, lds]
    rw [if_neg (by omega : ¬ u = 0)]
    by_cases c : u / 10 = 0
    · rw [if_pos c, c, lds_zero]; simp
    · rw [if_neg c, ih (u / 10) _ (by rw [Nat.pow_succ] at h; omega) (by omega)]
      simp
theorem lds_len : ∀ (f u : Nat), (lds f u).length ≤ f := by
  intro f
  induction f with
  | zero => intro u; simp [lds]
  | succ f ih =>
    intro u
    simp only [lds]
    split
    · simp
    · have := ih (u / 10); simp; omega
theorem strOfNums_app (a b : List Int) : strOfNums (a ++ b) = strOfNums a ++ strOfNums b := by
  apply L_inj
  rw [L_append, L_ofNums, L_ofNums, L_ofNums, List.map_append]
theorem rdig1 (xs : List Int) (hx : xs.length ≤ 100) : ∀ (i : Nat) (s : ByteArray), i ≤ xs.length → s.size + i ≤ 1000 →
    EvTo (fun k => chrysalisref01_Digits.l1 k xs s ((i : Int) - 1)) (s ++ strOfNums (xs.take i).reverse) := by
  intro i
  induction i with
  | zero =>
    intro s h h2
    refine EvTo.step (fun k => by rw [chrysalisref01_Digits.l1]) ?_
    refine EvTo.neg (by omega) (EvTo.of_eq fun k => ?_)
    congr 1
    apply L_inj
    rw [L_append, L_ofNums]; simp
  | succ i ih =>
    intro s h h2
    refine EvTo.step (fun k => by rw [chrysalisref01_Digits.l1]) ?_
    have e1 : wrap64 (((i + 1 : Nat) : Int) - 1 + 1) = ((i + 1 : Nat) : Int) := by unfold wrap64; omega
    have e2 : wrap64 (((i + 1 : Nat) : Int) - 1 - 1) = (i : Int) - 1 := by unfold wrap64; omega
    rw [e1, e2]
    refine EvTo.pos (by omega) (EvTo.pos (by omega) (EvTo.pos (by omega) (EvTo.pos (by omega) ?_)))
    have e3 : (((i + 1 : Nat) : Int) - 1).toNat = i := by omega
    have e4 : ((i + 1 : Nat) : Int).toNat = i + 1 := by omega
    simp only [e3, e4, Option.bind_some]
    have hi : i < xs.length := by omega
    have e5 : (xs.take (i + 1)).drop i = [xs[i]] := by
      rw [List.take_succ_eq_append_getElem hi, List.drop_append_of_le_length (by simp; omega)]
      simp
    rw [e5]
    have e6 : (strOfNums [xs[i]]).size = 1 := rfl
    have h3 := ih (s ++ strOfNums [xs[i]]) (by omega) (by rw [ByteArray.size_append, e6]; omega)
    refine EvTo.pos (by rw [e6]; omega) ?_
    have e7 : s ++ strOfNums (xs.take (i + 1)).reverse = (s ++ strOfNums [xs[i]]) ++ strOfNums (xs.take i).reverse := by
      rw [List.take_succ_eq_append_getElem hi, List.reverse_append, List.reverse_singleton, strOfNums_app, ByteArray.append_assoc]
    rw [e7]
    exact h3
theorem w_small {n : Int} (h : -9223372036854775808 ≤ n) (h2 : n ≤ 9223372036854775807) : wrap64 n = n := wrap_id ⟨h, h2⟩
theorem w_dig {x : Int} (h : -10 < x) (h2 : x < 10) : wrap64 (48 + x) % 256 = 48 + x := by
  rw [w_small (by omega) (by omega)]; omega
theorem w_ndig {x : Int} (h : 0 ≤ x) (h2 : x < 10) : wrap64 (48 + wrap64 (-(-x))) % 256 = 48 + x := by
  rw [Int.neg_neg, w_small (n := x) (by omega) (by omega)]
  exact w_dig (by omega) h2
theorem rdig0 (n : Int) : ∀ (f u : Nat) (acc : List Int), u < 10 ^ f → u ≤ 9223372036854775808 → (n < 0 ∨ u ≤ 9223372036854775807) → acc.length + f ≤ 90 →
    EvTo (fun k => chrysalisref01_Digits.l0 k n acc (if n < 0 then -(u : Int) else (u : Int))) ((if n < 0 then (⟨#[45]⟩ : ByteArray) else ⟨#[]⟩) ++ strOfNums (acc ++ lds f u).reverse) := by
  have fin : ∀ (acc : List Int), acc.length ≤ 90 → EvTo (fun k => chrysalisref01_Digits.l0 k n acc 0) ((if n < 0 then (⟨#[45]⟩ : ByteArray) else ⟨#[]⟩) ++ strOfNums acc.reverse) := by
    intro acc ha
    refine EvTo.step (fun k => by rw [chrysalisref01_Digits.l0]) ?_
    refine EvTo.pos rfl ?_
    by_cases c : n < 0
    · rw [if_pos c]
      refine EvTo.pos c (EvTo.step (fun k => by rw [chrysalisref01_Digits.j1]) ?_)
      have h := rdig1 acc (by omega) acc.length ⟨#[45]⟩ (Nat.le_refl _) (by show 1 + _ ≤ _; omega)
      rw [List.take_length] at h
      rw [w_small (n := (acc.length : Int) - 1) (by omega) (by omega)]; exact h
    · rw [if_neg c]
      refine EvTo.neg c (EvTo.step (fun k => by rw [chrysalisref01_Digits.j1]) ?_)
      have h := rdig1 acc (by omega) acc.length ⟨#[]⟩ (Nat.le_refl _) (by show 0 + _ ≤ _; omega)
      rw [List.take_length] at h
      rw [w_small (n := (acc.length : Int) - 1) (by omega) (by omega)]; exact h
  intro f
  induction f with
  | zero =>
    intro u acc h _ _ ha
    obtain rfl : u = 0 := by simp at h; omega
    have e : (if n < 0 then -((0 : Nat) : Int) else ((0 : Nat) : Int)) = 0 := by split <;> rfl
    rw [e, lds_zero, List.append_nil]
    exact fin acc (by omega)
  | succ f ih =>
    intro u acc h h2 h3 ha
    by_cases c0 : u = 0
    · subst c0
      have e : (if n < 0 then -((0 : Nat) : Int) else ((0 : Nat) : Int)) = 0 := by split <;> rfl
      rw [e, lds_zero, List.append_nil]
      exact fin acc (by omega)
    have hstep := ih (u / 10) (acc ++ [48 + (u : Int) % 10]) (by rw [Nat.pow_succ] at h; omega) (by omega) (by omega) (by simp; omega)
    have el : lds (f + 1) u = (48 + (u : Int) % 10) :: lds f (u / 10) := by simp only [lds]; rw [if_neg c0]
    rw [el, List.append_cons]
    refine EvTo.step (fun k => by rw [chrysalisref01_Digits.l0]) ?_
    by_cases c : n < 0
    · simp only [if_pos c] at hstep ⊢
      have e1 : Int.tmod (-(u : Int)) 10 = -((u : Int) % 10) := by rw [Int.neg_tmod, Int.tmod_eq_emod_of_nonneg (by omega)]
      have e2 : Int.tdiv (-(u : Int)) 10 = -((u / 10 : Nat) : Int) := by rw [Int.neg_tdiv, Int.tdiv_eq_ediv_of_nonneg (by omega)]; omega
      rw [e1, e2]
      rw [w_small (n := -((u / 10 : Nat) : Int)) (by omega) (by omega), w_ndig (x := (u : Int) % 10) (by omega) (by omega), w_dig (x := -((u : Int) % 10)) (by omega) (by omega)]
      refine EvTo.neg (by omega) ?_
      by_cases cm : -((u : Int) % 10) < 0
      · exact EvTo.pos cm (EvTo.pos (by omega) hstep)
      · refine EvTo.neg cm (EvTo.pos (by omega) ?_)
        rw [show 48 + -((u : Int) % 10) = 48 + (u : Int) % 10 by omega]
        exact hstep
    · simp only [if_neg c] at hstep ⊢
      have e1 : Int.tmod (u : Int) 10 = (u : Int) % 10 := Int.tmod_eq_emod_of_nonneg (by omega)
      have e2 : Int.tdiv (u : Int) 10 = ((u / 10 : Nat) : Int) := by rw [Int.tdiv_eq_ediv_of_nonneg (by omega)]; omega
      rw [e1, e2]
      rw [w_small (n := ((u / 10 : Nat) : Int)) (by omega) (by omega), w_dig (x := (u : Int) % 10) (by omega) (by omega)]
      exact EvTo.neg (by omega) (EvTo.neg (by omega) (EvTo.pos (by omega) hstep))
theorem rDigits_E (n : Int) (hn : I64 n) : EvTo (fun k => chrysalisref01_Digits.f k n) (strOfNums (digitNums n)) := by
  unfold I64 at hn
  unfold chrysalisref01_Digits.f
  by_cases c : n = 0
  · subst c
    exact EvTo.pos rfl (EvTo.of_eq fun k => rfl)
  refine EvTo.neg c ?_
  have h := rdig0 n 20 n.natAbs [] (by omega) (by omega) (by omega) (by simp)
  have e : (if n < 0 then -((n.natAbs : Nat) : Int) else ((n.natAbs : Nat) : Int)) = n := by split <;> omega
  rw [e, List.nil_append] at h
  have e2 : digs 20 n.natAbs [] = (lds 20 n.natAbs).reverse := by rw [digs_lds 20 n.natAbs [] (by omega) (by omega), List.append_nil]
  have e3 : (if n < 0 then (⟨#[45]⟩ : ByteArray) else ⟨#[]⟩) ++ strOfNums (lds 20 n.natAbs).reverse = strOfNums (digitNums n) := by
    unfold digitNums
    rw [e2]
    by_cases c2 : n < 0
    · rw [if_pos c2, if_pos c2]
      rw [show (45 : Int) :: (lds 20 n.natAbs).reverse = [45] ++ (lds 20 n.natAbs).reverse from rfl, strOfNums_app]; rfl
    · rw [if_neg c2, if_neg c2]
      apply L_inj
      rw [L_append]; rfl
  rw [e3] at h
  exact h

/-- A value as text. -/
def showS (a : V) : ByteArray := if a.1 = 1 then strOfNums (digitNums a.2.1) else if a.1 = 2 then S (quo (L a.2.2)) else if a.1 = 3 then ⟨#[116, 97, 98, 108, 101]⟩ else if a.1 = 4 then ⟨#[102, 110]⟩ else if a.1 = 5 then ⟨#[99, 111]⟩ else ⟨#[110, 105, 108]⟩
theorem Show_E (a : V) (hn : I64 a.2.1) (hs : a.2.2.size ≤ 70368744177000) : EvTo (fun k => ops_Show.f k a.1 a.2.1 a.2.2) (showS a) := by
  unfold ops_Show.f showS
  have hd : opsDigits.f a.2.1 = some (strOfNums (digitNums a.2.1)) := by unfold opsDigits.f; exact if_pos hn
  simp only [hd, Option.bind_some]
  by_cases c1 : a.1 = 1
  · rw [if_pos c1]; exact EvTo.pos c1 EvTo.now
  rw [if_neg c1]; refine EvTo.neg c1 ?_
  by_cases c2 : a.1 = 2
  · rw [if_pos c2]; exact EvTo.pos c2 (EvTo.bind (Quote_f _ hs) EvTo.now)
  rw [if_neg c2]; refine EvTo.neg c2 (EvTo.of_eq fun k => ?_)
  repeat' split
  all_goals rfl
theorem rShow_E (a : V) (hn : I64 a.2.1) (hs : a.2.2.size ≤ 70368744177000) : EvTo (fun k => chrysalisref17_Show.f k a.1 a.2.1 a.2.2) (showS a) := by
  unfold chrysalisref17_Show.f showS
  by_cases c1 : a.1 = 1
  · rw [if_pos c1]; exact EvTo.pos c1 (EvTo.bind (rDigits_E _ hn) EvTo.now)
  rw [if_neg c1]; refine EvTo.neg c1 ?_
  by_cases c2 : a.1 = 2
  · rw [if_pos c2]; exact EvTo.pos c2 (EvTo.bind (rQuote_f _ hs) EvTo.now)
  rw [if_neg c2]; refine EvTo.neg c2 (EvTo.of_eq fun k => ?_)
  repeat' split
  all_goals rfl
end Go.Proofs.Ytmadbfahdnkecaa.Ops
