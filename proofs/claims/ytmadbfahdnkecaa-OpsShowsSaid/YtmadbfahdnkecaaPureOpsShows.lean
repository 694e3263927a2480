/- The plain law of OpsShows, and its walk, for all values. -/
import Derived.Test.YtmadbfahdnkecaaQ33
import Derived.Test.YtmadbfahdnkecaaOpsQuo
import Derived.Test.YtmadbfahdnkecaaRowVal
set_option linter.unusedVariables false
set_option linter.unusedSimpArgs false
namespace Go.Proofs.Ytmadbfahdnkecaa.Pure
open Go Go.RowKit Go.Proofs.YtmadbfahdnkecaaW.PrintWords Go.Proofs.Ytmadbfahdnkecaa.Q Go.Proofs.Ytmadbfahdnkecaa.Lex Go.Proofs.Ytmadbfahdnkecaa.Ops

/-! Digits tell their number. -/
theorem digs_mem : ∀ (f u : Nat) (acc : List Int) (x : Int), x ∈ digs f u acc → x ∈ acc ∨ (48 ≤ x ∧ x ≤ 57) := by
  intro f
  induction f with
  | zero => intro u acc x h; exact .inl h
  | succ f ih =>
    intro u acc x h
    simp only [digs] at h
    split at h
    · rcases List.mem_cons.1 h with rfl | h
      · exact .inr (by omega)
      · exact .inl h
    · rcases ih _ _ _ h with h | h
      · rcases List.mem_cons.1 h with rfl | h
        · exact .inr (by omega)
        · exact .inl h
      · exact .inr h
theorem digs_some : ∀ (f u : Nat) (acc : List Int), acc ≠ [] ∨ 0 < f → digs f u acc ≠ [] := by
  intro f
  induction f with
  | zero => intro u acc h; rcases h with h | h; exact h; omega
  | succ f ih =>
    intro u acc _
    simp only [digs]
    split
    · simp
    · exact ih _ _ (.inl (by simp))
def dec (l : List Int) : Int := l.foldl (fun a d => 10 * a + (d - 48)) 0
theorem dec_lds : ∀ (f u : Nat), u < 10 ^ f → dec (lds f u).reverse = u := by
  intro f
  unfold dec
  simp only [List.foldl_reverse]
  induction f with
  | zero => intro u h; simp at h; subst h; rfl
  | succ f ih =>
    intro u h
    simp only [lds]
    split
    · rename_i c; subst c; rfl
    · rw [List.foldr_cons, ih (u / 10) (by rw [Nat.pow_succ] at h; omega)]
      omega
theorem dec_digs (u : Nat) (h : u < 10 ^ 20) : dec (digs 20 u []) = u := by
  by_cases c : u = 0
  · subst c; rfl
  · rw [digs_lds 20 u [] h (by omega), List.append_nil]
    exact dec_lds 20 u h
theorem digitNums_inj {n m : Int} (hn : I64 n) (hm : I64 m) (h : digitNums n = digitNums m) : n = m := by
  unfold I64 at hn hm
  unfold digitNums at h
  have no : ∀ u : Nat, ∀ v : List Int, digs 20 u [] = 45 :: v → False := by
    intro u v e
    rcases digs_mem 20 u [] 45 (by rw [e]; simp) with q | q
    · cases q
    · omega
  by_cases c1 : n < 0 <;> by_cases c2 : m < 0
  · rw [if_pos c1, if_pos c2] at h
    have h := congrArg dec (List.cons.inj h).2
    rw [dec_digs _ (by omega), dec_digs _ (by omega)] at h
    omega
  · rw [if_pos c1, if_neg c2] at h
    exact (no _ _ h.symm).elim
  · rw [if_neg c1, if_pos c2] at h
    exact (no _ _ h).elim
  · rw [if_neg c1, if_neg c2] at h
    have h := congrArg dec h
    rw [dec_digs _ (by omega), dec_digs _ (by omega)] at h
    omega
theorem digitNums_mem {n x : Int} (h : x ∈ digitNums n) : x = 45 ∨ (48 ≤ x ∧ x ≤ 57) := by
  unfold digitNums at h
  split at h
  · rcases List.mem_cons.1 h with h | h
    · exact .inl h
    · rcases digs_mem _ _ _ _ h with h | h
      · cases h
      · exact .inr h
  · rcases digs_mem _ _ _ _ h with h | h
    · cases h
    · exact .inr h
theorem digitNums_some (n : Int) : digitNums n ≠ [] := by
  unfold digitNums
  split
  · simp
  · exact digs_some _ _ _ (.inr (by omega))
theorem ofNums_inj : ∀ (a b : List Int), (∀ x ∈ a, 0 ≤ x ∧ x ≤ 255) → (∀ x ∈ b, 0 ≤ x ∧ x ≤ 255) → (a.map fun n => UInt8.ofNat n.toNat) = (b.map fun n => UInt8.ofNat n.toNat) → a = b
  | [], [], _, _, _ => rfl
  | [], _ :: _, _, _, h => by cases h
  | _ :: _, [], _, _, h => by cases h
  | x :: a, y :: b, ha, hb, h => by
    simp only [List.map_cons, List.cons.injEq] at h
    have hx := ha x (by simp)
    have hy := hb y (by simp)
    have e := congrArg UInt8.toNat h.1
    rw [UInt8.toNat_ofNat_of_lt' (show x.toNat < 256 by omega), UInt8.toNat_ofNat_of_lt' (show y.toNat < 256 by omega)] at e
    rw [ofNums_inj a b (fun z hz => ha z (by simp [hz])) (fun z hz => hb z (by simp [hz])) h.2, show x = y by omega]
theorem show_int_inj {n m : Int} (hn : I64 n) (hm : I64 m) (h : L (strOfNums (digitNums n)) = L (strOfNums (digitNums m))) : n = m := by
  rw [L_ofNums, L_ofNums] at h
  exact digitNums_inj hn hm (ofNums_inj _ _ (fun x hx => by rcases digitNums_mem hx with h | h <;> omega) (fun x hx => by rcases digitNums_mem hx with h | h <;> omega) h)
theorem unq_quo : ∀ (s r : List UInt8), unq false (s.flatMap quo1 ++ 34 :: r) = some (s, r)
  | [], r => by simp [unq]
  | c :: s, r => by
    rw [List.flatMap_cons, List.append_assoc]
    have ih := unq_quo s r
    by_cases c1 : c = 10
    · rw [show quo1 c = [92, 110] by simp [quo1, c1], c1]
      simp [unq, esc, ih]
    · by_cases c2 : c = 34
      · rw [show quo1 c = [92, 34] by simp [quo1, c2], c2]
        simp [unq, esc, ih]
      · by_cases c3 : c = 92
        · rw [show quo1 c = [92, 92] by simp [quo1, c3], c3]
          simp [unq, esc, ih]
        · rw [show quo1 c = [c] by simp [quo1, c1, c2, c3]]
          simp [unq, c1, c2, c3, ih]
theorem quo_inj {s t : List UInt8} (h : quo s = quo t) : s = t := by
  unfold quo at h
  have h := congrArg (fun l => unq false l) (List.cons.inj h).2
  simp only [unq_quo] at h
  simpa using h
theorem int_no_quote (n : Int) (s : List UInt8) (h : L (strOfNums (digitNums n)) = L (S (quo s))) : False := by
  rw [L_ofNums, L_S] at h
  rcases hd : digitNums n with _ | ⟨x, t⟩
  · exact digitNums_some n hd
  · rw [hd] at h
    simp only [List.map_cons, quo, List.cons.injEq] at h
    have hx : x = 45 ∨ (48 ≤ x ∧ x ≤ 57) := digitNums_mem (by rw [hd]; simp)
    have e := congrArg UInt8.toNat h.1
    rw [UInt8.toNat_ofNat_of_lt' (show x.toNat < 256 by omega)] at e
    have : (34 : UInt8).toNat = 34 := rfl
    omega
theorem right_int {a : V} (h : isS a = true) (h1 : a.1 = 1) : a.2.2 = ⟨#[]⟩ := by
  unfold isS at h
  rw [if_neg (by omega), if_neg (by omega), Bool.and_eq_true, beq_iff_eq] at h
  exact L_inj h.2
theorem right_txt {a : V} (h : isS a = true) (h1 : a.1 = 2) : a.2.1 = 0 ∧ a.2.2.size ≤ 1024 := by
  unfold isS at h
  rw [if_neg (by omega), if_pos h1, Bool.and_eq_true, beq_iff_eq, decide_eq_true_eq] at h
  exact h
/-- Keys that are shown alike are alike. -/
theorem shows (a b : V) (ha : isS a = true) (hb : isS b = true) (na : I64 a.2.1) (nb : I64 b.2.1) (ka : a.1 = 1 ∨ a.1 = 2) (kb : b.1 = 1 ∨ b.1 = 2) : (L (showS a) == L (showS b)) = sameV a b := by
  rw [Bool.eq_iff_iff, sameV_iff, beq_iff_eq]
  refine ⟨fun h => ?_, fun h => by rw [h]⟩
  obtain ⟨a0, a1, a2⟩ := a
  obtain ⟨b0, b1, b2⟩ := b
  rcases ka with e1 | e1 <;> rcases kb with e2 | e2
  · have e3 := right_int ha e1
    have e4 := right_int hb e2
    simp only at e1 e2 e3 e4
    subst e1 e2 e3 e4
    have : a1 = b1 := show_int_inj na nb h
    rw [this]
  · simp only at e1 e2
    subst e1 e2
    exact (int_no_quote _ _ h).elim
  · simp only at e1 e2
    subst e1 e2
    exact (int_no_quote _ _ h.symm).elim
  · have e3 := (right_txt ha e1).1
    have e4 := (right_txt hb e2).1
    simp only at e1 e2 e3 e4
    subst e1 e2 e3 e4
    have h : L (S (quo (L a2))) = L (S (quo (L b2))) := h
    rw [L_S, L_S] at h
    rw [L_inj (quo_inj h)]
/-- An operation's answer is of the kind of both, or nothing. -/
theorem kinds (o : List UInt8) (a b : V) (h1 : o ≠ [61, 61]) (h2 : o ≠ [33, 61]) (h3 : o ≠ [60]) (h4 : o ≠ [60, 61]) :
    ((twoS o a b).2.2.2 = 0 ∧ (twoS o a b).1 = a.1 ∧ (twoS o a b).1 = b.1 ∧ (twoS o a b).1 = if o = [46, 46] then 2 else 1) ∨ (∃ c, c ≠ 0 ∧ twoS o a b = bad c) := by
  unfold twoS
  rw [if_neg h1, if_neg h2]
  by_cases h0 : ¬ isOp o = true
  · rw [if_neg h0]; exact .inr ⟨12, by decide, rfl⟩
  rw [if_pos (Classical.not_not.1 h0)]
  by_cases e : ¬ a.1 = b.1
  · rw [if_neg e]; exact .inr ⟨1, by decide, rfl⟩
  have e := Classical.not_not.1 e
  rw [if_pos e]
  by_cases e1 : a.1 = 1
  · rw [if_pos e1]
    by_cases c : o = [46, 46]
    · exact .inr ⟨1, by decide, by rw [c]; rfl⟩
    · rw [if_neg c]
      unfold numS
      rw [if_neg h3, if_neg h4]
      repeat' split
      all_goals first | exact .inl ⟨rfl, e1.symm, by rw [← e, e1]; rfl, rfl⟩ | exact .inr ⟨_, by decide, rfl⟩
  rw [if_neg e1]
  by_cases e2 : a.1 = 2
  · rw [if_pos e2]
    unfold txtS
    rw [if_neg h3, if_neg h4]
    by_cases c : o = [46, 46]
    · rw [if_pos c, if_pos c]
      split
      · exact .inr ⟨3, by decide, rfl⟩
      · exact .inl ⟨rfl, e2.symm, by rw [← e, e2], rfl⟩
    · rw [if_neg c]; exact .inr ⟨1, by decide, rfl⟩
  · rw [if_neg e2]; exact .inr ⟨1, by decide, rfl⟩
theorem inc'' (i : Nat) (h : i + 1 ≤ 9223372036854775807) : wrap64 ((i : Int) + 1) = ((i + 1 : Nat) : Int) := by unfold wrap64; omega
theorem loop (l : List ByteArray) (hl : l.length ≤ 1000) (hm : ∀ o ∈ l, L o ≠ [61, 61] ∧ L o ≠ [33, 61] ∧ L o ≠ [60] ∧ L o ≠ [60, 61]) (a b : V) (hz : b.2.2.size ≤ 140737488355328) : ∀ (m i : Nat), l.length = m + i →
    EvTo (fun k => chrysalislaw17_OpsShows.l0 k l (i : Int) a.1 a.2.1 a.2.2 b.1 b.2.1 b.2.2) true := by
  intro m
  induction m with
  | zero =>
    intro i h1
    refine EvTo.step (fun k => by rw [chrysalislaw17_OpsShows.l0]) ?_
    exact EvTo.neg (by omega) known_B
  | succ m ih =>
    intro i h1
    have hi : i < l.length := by omega
    refine EvTo.step (fun k => by rw [chrysalislaw17_OpsShows.l0]) ?_
    refine EvTo.pos (by omega) (EvTo.pos (by omega) ?_)
    have e : rdOf ByteArray.empty l (i : Int) = l[i] := by simp [rdOf, List.getD_eq_getElem?_getD, List.getElem?_eq_getElem hi]
    have ih := ih (i + 1) (by omega)
    rw [inc'' i (by omega), e]
    obtain ⟨q1, q2, q3, q4⟩ := hm l[i] (List.getElem_mem hi)
    refine EvTo.bind (two_E l[i] a b hz) ?_
    rcases kinds (L l[i]) a b q1 q2 q3 q4 with ⟨k1, k2, k3, k4⟩ | ⟨c, hc, k1⟩
    · refine EvTo.pos k1 (EvTo.pos k2 (EvTo.pos k3 ?_))
      simp only [L_toList]
      by_cases c : L l[i] = [46, 46]
      · rw [if_pos c] at k4
        exact EvTo.pos c (EvTo.pos k4 ih)
      · rw [if_neg c] at k4
        exact EvTo.neg c (EvTo.pos k4 ih)
    · rw [k1]
      exact EvTo.neg hc (EvTo.neg (by simp [bad, L_toList, L_nil]) ih)
theorem OpsShows (a b : V) (na : I64 a.2.1) (nb : I64 b.2.1) : ∃ k, chrysalislaw17_OpsShows.f k a.1 a.2.1 a.2.2 b.1 b.2.1 b.2.2 = some true := by
  apply EvTo.one
  unfold chrysalislaw17_OpsShows.f
  simp only [refIs_S, Option.bind_some]
  by_cases ha : ¬ isS a = true
  · exact EvTo.neg ha (EvTo.step (fun k => by rw [chrysalislaw17_OpsShows.j0]) (EvTo.pos rfl known_B))
  have ha := Classical.not_not.1 ha
  refine EvTo.pos ha (EvTo.step (fun k => by rw [chrysalislaw17_OpsShows.j0]) ?_)
  by_cases hb : ¬ isS b = true
  · exact EvTo.pos (by simp [hb]) known_B
  have hb := Classical.not_not.1 hb
  refine EvTo.neg (by simp [hb]) ?_
  have small : ∀ v : V, isS v = true → v.2.2.size ≤ 1024 := by
    intro v hv
    unfold isS at hv
    have e : L v.2.2 = [] → v.2.2.size ≤ 1024 := fun h => by rw [L_size, h]; simp
    repeat' split at hv
    · simp only [Bool.and_eq_true, beq_iff_eq] at hv; exact e hv.2
    · simp only [Bool.and_eq_true, decide_eq_true_eq] at hv; exact hv.2
    · simp only [Bool.and_eq_true, beq_iff_eq] at hv; exact e hv.2
  have za := small a ha
  have zb := small b hb
  have rest : EvTo (fun k => chrysalislaw17_OpsShows.j1 k false a.1 a.2.1 a.2.2 b.1 b.2.1 b.2.2) true := by
    refine EvTo.step (fun k => by rw [chrysalislaw17_OpsShows.j1]) (EvTo.neg (by simp) ?_)
    exact loop _ (by simp) (by intro o ho; simp only [List.mem_cons, List.not_mem_nil, or_false] at ho; rcases ho with rfl | rfl | rfl | rfl | rfl | rfl <;> (refine ⟨?_, ?_, ?_, ?_⟩ <;> decide)) a b (by omega) 6 0 (by simp)
  simp only [opsKey.f, Option.bind_some]
  by_cases ka : (a.1 == 1 || a.1 == 2) = true
  · refine EvTo.pos ka ?_
    by_cases kb : (b.1 == 1 || b.1 == 2) = true
    · refine EvTo.pos kb (EvTo.bind (Show_E a na (by omega)) (EvTo.bind (Show_E b nb (by omega)) ?_))
      have h := shows a b ha hb na nb (by simpa using ka) (by simpa using kb)
      have e : (((showS a).toList == (showS b).toList) != (a.1 == b.1 && (a.2.1 == b.2.1 && (a.2.2.toList == b.2.2.toList)))) = false := by
        simp only [L_toList]
        rw [h]
        unfold sameV
        simp
      rw [e]
      exact rest
    · exact EvTo.neg kb rest
  · exact EvTo.neg ka rest
end Go.Proofs.Ytmadbfahdnkecaa.Pure
namespace Go.Proofs.Ytmadbfahdnkecaa
open Go Go.RowKit Go.Proofs.YtmadbfahdnkecaaW.PrintWords Go.Proofs.Ytmadbfahdnkecaa.Q Go.Proofs.Ytmadbfahdnkecaa.Ops
theorem shows_row (a b : V) (w : World) (ha : ValB a) (hb : ValB b) :
    Calls Try.prog 5 #[.agg #[.int .i64 a.1, .int .i64 a.2.1, .string a.2.2], .agg #[.int .i64 b.1, .int .i64 b.2.1, .string b.2.2]] w fun e w' => e = .returned (.bool true) ∧ Below w.heap.size w w' := by
  obtain ⟨k, hk⟩ := Pure.OpsShows a b ha.2.1 hb.2.1
  exact chrysalislaw17_OpsShows.calls k a.1 a.2.1 a.2.2 b.1 b.2.1 b.2.2 true w hk rfl
end Go.Proofs.Ytmadbfahdnkecaa
