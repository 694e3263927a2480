/- The plain law of TurnsRound: of a rising list each is taken once a round, by rising numbers; no program in sight. -/
import Derived.Test.YtpicniagafkjaaaLeast
set_option linter.unusedVariables false
set_option linter.unusedSimpArgs false
namespace Go.Proofs.Ytpicniagafkjaaa

/-- A list that rises. -/
def Rises (l : List Int) : Prop := ∀ i j, i < j → j < l.length → l.getD i 0 < l.getD j 0

theorem getD_snoc_lt (l : List Int) (x : Int) (i : Nat) (h : i < l.length) : (l ++ [x]).getD i 0 = l.getD i 0 := by
  simp [List.getD_eq_getElem?_getD, List.getElem?_append_left h]
theorem getD_snoc_eq (l : List Int) (x : Int) : (l ++ [x]).getD l.length 0 = x := by
  simp [List.getD_eq_getElem?_getD]

theorem Rises.snoc {l : List Int} (h : Rises l) {n x : Int} (hn : ∀ y ∈ l, y ≤ n) (hx : n < x) : Rises (l ++ [x]) := by
  intro i j hij hj
  rw [List.length_append] at hj
  simp only [List.length_cons, List.length_nil, Nat.zero_add] at hj
  have hi : i < l.length := by omega
  rw [getD_snoc_lt l x i hi]
  by_cases c : j < l.length
  · rw [getD_snoc_lt l x j c]; exact h i j hij c
  · obtain rfl : j = l.length := by omega
    rw [getD_snoc_eq]
    have := hn _ (getD_mem l i hi)
    omega

/-- Who was taken last, after so many turns. -/
def lastAt (l : List Int) (last : Int) : Nat → Int
  | 0 => last
  | j + 1 => (nextOf true (lastAt l last j) l).getD 0
def gotAt (l : List Int) (last : Int) (j : Nat) : List Int := (List.range j).map fun i => lastAt l last (i + 1)

theorem gotAt_succ (l : List Int) (last : Int) (j : Nat) : gotAt l last (j + 1) = gotAt l last j ++ [lastAt l last (j + 1)] := by
  simp [gotAt, List.range_succ]
theorem gotAt_length (l : List Int) (last : Int) (j : Nat) : (gotAt l last j).length = j := by simp [gotAt]
theorem gotAt_getD (l : List Int) (last : Int) (j i : Nat) (h : i < j) : (gotAt l last j).getD i 0 = lastAt l last (i + 1) := by
  simp [gotAt, List.getD_eq_getElem?_getD, h]

theorem nextOf_some (last : Int) (l : List Int) (h : l ≠ []) : nextOf true last l = some ((nextOf true last l).getD 0) := by
  obtain ⟨n, e, _⟩ := nextOf_spec last l h
  rw [e]; rfl

theorem mem_getD {l : List Int} {x : Int} (h : x ∈ l) : ∃ i, i < l.length ∧ l.getD i 0 = x := by
  obtain ⟨i, hi, e⟩ := List.mem_iff_getElem.1 h
  exact ⟨i, hi, by simp [List.getD_eq_getElem?_getD, List.getElem?_eq_getElem hi, e]⟩

theorem Rises.inj {l : List Int} (h : Rises l) {i j : Nat} (hi : i < l.length) (hj : j < l.length) (e : l.getD i 0 = l.getD j 0) : i = j := by
  rcases Nat.lt_trichotomy i j with c | c | c
  · have := h i j c hj; omega
  · exact c
  · have := h j i c hi; omega
theorem Rises.mono {l : List Int} (h : Rises l) {i j : Nat} (hij : i ≤ j) (hj : j < l.length) : l.getD i 0 ≤ l.getD j 0 := by
  rcases Nat.eq_or_lt_of_le hij with rfl | c
  · exact Int.le_refl _
  · have := h i j c hj; omega

/-- The one behind an element: the next one, or the first one. -/
theorem next_of_getD {l : List Int} (h : Rises l) (i : Nat) (hi : i < l.length) : (nextOf true (l.getD i 0) l).getD 0 = l.getD ((i + 1) % l.length) 0 := by
  have hne : l ≠ [] := by intro e; rw [e] at hi; simp at hi
  obtain ⟨n, e, hm, hs⟩ := nextOf_spec (l.getD i 0) l hne
  obtain ⟨k, hk, ek⟩ := mem_getD hm
  rw [e]
  show n = _
  rcases hs with ⟨h1, h2⟩ | ⟨h1, h2⟩
  · have c : i + 1 < l.length := by
      rcases Nat.lt_or_ge (i + 1) l.length with c | c
      · exact c
      · have := h.mono (show k ≤ i by omega) hi
        omega
    rw [Nat.mod_eq_of_lt c]
    have h3 := h2 _ (getD_mem l (i + 1) c) (h i (i + 1) (by omega) c)
    have hik : i < k := by
      rcases Nat.lt_or_ge i k with c | c
      · exact c
      · have := h.mono c hi
        omega
    have := h.mono (show i + 1 ≤ k by omega) hk
    omega
  · have c : i + 1 = l.length := by
      rcases Nat.lt_or_ge (i + 1) l.length with c | c
      · have h3 := (h2 _ (getD_mem l (i + 1) c)).1
        have := h i (i + 1) (by omega) c
        omega
      · omega
    rw [c, Nat.mod_self]
    have h4 := (h2 _ (getD_mem l 0 (by omega))).2
    have := h.mono (show 0 ≤ k by omega) hk
    omega

theorem succ_mod (a m : Nat) (hm : 0 < m) : (a % m + 1) % m = (a + 1) % m := by
  rw [Nat.add_mod a 1 m]
  by_cases h : m = 1
  · subst h; simp [Nat.mod_one]
  · rw [Nat.mod_eq_of_lt (show 1 < m by omega)]

theorem lastAt_spec {l : List Int} (h : Rises l) (last : Int) (hne : l ≠ []) : ∃ s, s < l.length ∧ ∀ j, lastAt l last (j + 1) = l.getD ((s + j) % l.length) 0 := by
  have hpos : 0 < l.length := by cases l with | nil => exact absurd rfl hne | cons => simp
  obtain ⟨n, e, hm, _⟩ := nextOf_spec last l hne
  obtain ⟨s, hs, es⟩ := mem_getD hm
  refine ⟨s, hs, fun j => ?_⟩
  induction j with
  | zero =>
    rw [show s + 0 = s from rfl, Nat.mod_eq_of_lt hs, es]
    show (nextOf true last l).getD 0 = n
    rw [e]; rfl
  | succ j ih =>
    show (nextOf true (lastAt l last (j + 1)) l).getD 0 = _
    rw [ih, next_of_getD h _ (Nat.mod_lt _ hpos), succ_mod _ _ hpos]
    rfl

/-- How often it went down, up to a place. -/
def fallsAt (l : List Int) (last : Int) : Nat → Nat
  | 0 => 0
  | i + 1 => fallsAt l last i + if 0 < i ∧ lastAt l last (i + 1) ≤ lastAt l last i then 1 else 0

theorem div_step (a m : Nat) (hm : 0 < m) (h : (a + 1) % m = 0) : (a + 1) / m = a / m + 1 := by
  rw [Nat.succ_div, if_pos (Nat.dvd_of_mod_eq_zero h)]

theorem fallsAt_le {l : List Int} (h : Rises l) (last : Int) (hne : l ≠ []) (s : Nat) (hs : s < l.length) (hl : ∀ j, lastAt l last (j + 1) = l.getD ((s + j) % l.length) 0) (i : Nat) :
    fallsAt l last (i + 1) ≤ (s + i) / l.length := by
  have hpos : 0 < l.length := by omega
  induction i with
  | zero => simp [fallsAt]
  | succ i ih =>
    unfold fallsAt
    by_cases c : 0 < i + 1 ∧ lastAt l last (i + 1 + 1) ≤ lastAt l last (i + 1)
    · rw [if_pos c]
      have hz : (s + i + 1) % l.length = 0 := by
        have c2 := c.2
        rw [hl, hl] at c2
        by_cases hz : (s + i + 1) % l.length = 0
        · exact hz
        · exfalso
          have e : (s + (i + 1)) % l.length = (s + i) % l.length + 1 := by
            show (s + i + 1) % l.length = _
            have e1 := succ_mod (s + i) l.length hpos
            have e2 : (s + i) % l.length + 1 < l.length := by
              have := Nat.mod_lt (s + i) hpos
              rcases Nat.lt_or_ge ((s + i) % l.length + 1) l.length with q | q
              · exact q
              · have : (s + i) % l.length + 1 = l.length := by omega
                rw [this, Nat.mod_self] at e1
                omega
            rw [← e1, Nat.mod_eq_of_lt e2]
          rw [e] at c2
          have hb := Nat.mod_lt (s + i + 1) hpos
          have e' : (s + i) % l.length + 1 < l.length := by
            have e3 : (s + i + 1) % l.length = (s + i) % l.length + 1 := e
            omega
          have := h _ _ (Nat.lt_succ_self ((s + i) % l.length)) e'
          simp only [Nat.succ_eq_add_one] at this
          omega
      have := div_step (s + i) l.length hpos hz
      show _ ≤ (s + i + 1) / l.length
      omega
    · rw [if_neg c]
      have := Nat.div_le_div_right (c := l.length) (show s + i ≤ s + (i + 1) by omega)
      omega

theorem falls_end {l : List Int} (h : Rises l) (last : Int) : fallsAt l last (2 * l.length) ≤ 2 := by
  by_cases hne : l = []
  · subst hne; simp [fallsAt]
  · obtain ⟨s, hs, hl⟩ := lastAt_spec h last hne
    have hpos : 0 < l.length := by omega
    obtain ⟨i, hi⟩ : ∃ i, 2 * l.length = i + 1 := ⟨2 * l.length - 1, by omega⟩
    rw [hi]
    refine Nat.le_trans (fallsAt_le h last hne s hs hl i) ?_
    have : s + i < 3 * l.length := by omega
    have := (Nat.div_lt_iff_lt_mul hpos).2 this
    omega

/-- A round later it is the same. -/
theorem lastAt_round {l : List Int} (h : Rises l) (last : Int) (hne : l ≠ []) (j : Nat) : lastAt l last (j + l.length + 1) = lastAt l last (j + 1) := by
  obtain ⟨s, hs, hl⟩ := lastAt_spec h last hne
  rw [hl, hl, ← Nat.add_assoc, Nat.add_mod_right]

/-- Each is one of the list, and stands there once. -/
theorem lastAt_place {l : List Int} (h : Rises l) (last : Int) (hne : l ≠ []) (j : Nat) : ∃ p, p < l.length ∧ ∀ k, k < l.length → (l.getD k 0 = lastAt l last (j + 1) ↔ k = p) := by
  obtain ⟨s, hs, hl⟩ := lastAt_spec h last hne
  have hpos : 0 < l.length := by omega
  refine ⟨(s + j) % l.length, Nat.mod_lt _ hpos, fun k hk => ?_⟩
  rw [hl]
  exact ⟨fun e => h.inj hk (Nat.mod_lt _ hpos) e, fun e => by rw [e]⟩
end Go.Proofs.Ytpicniagafkjaaa
