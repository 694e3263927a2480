/- The longest beginning of a text of which each byte is of a kind, and what decoding a text's signs tells of its bytes; no program in sight; no condition. -/
import Derived.Laws.RangeAny
set_option linter.unusedVariables false
set_option linter.unusedSimpArgs false
namespace Go.Proofs.Ytmadbfahdnkecaa
open Go

/-- A byte of a text; 0 beyond its end. -/
def byteAt (s : ByteArray) (i : Nat) : Nat := if h : i < s.size then (s[i]'h).toNat else 0
theorem byteAt_eq (s : ByteArray) (i : Nat) (h : i < s.size) : (s[i]'h).toNat = byteAt s i := by simp [byteAt, h]
theorem byteAt_lt (s : ByteArray) (i : Nat) : byteAt s i < 256 := by
  unfold byteAt
  split
  · exact UInt8.toNat_lt _
  · omega
theorem get!_byteAt (s : ByteArray) (i : Nat) (h : i < s.size) : (s.get! i).toNat = byteAt s i := by
  rw [← byteAt_eq s i h]
  have e : s.get! i = s[i]'h := by
    simp [ByteArray.get!, getElem!_pos, h]
    rfl
  rw [e]

/-- How many bytes, from a place on, are of a kind. -/
def hd (p : Int → Bool) (s : ByteArray) : Nat → Nat → Nat
  | 0, i => i
  | f + 1, i => if i < s.size then (if p (byteAt s i) = true then hd p s f (i + 1) else i) else i
def headLen (p : Int → Bool) (s : ByteArray) : Nat := hd p s s.size 0
def headOf (p : Int → Bool) (s : ByteArray) : ByteArray := s.extract 0 (headLen p s)

theorem hd_spec (p : Int → Bool) (s : ByteArray) : ∀ f i, s.size ≤ i + f → i ≤ s.size →
    i ≤ hd p s f i ∧ hd p s f i ≤ s.size ∧ (∀ j, i ≤ j → j < hd p s f i → p (byteAt s j) = true) ∧ (hd p s f i < s.size → p (byteAt s (hd p s f i)) = false) := by
  intro f
  induction f with
  | zero =>
    intro i h1 h2
    refine ⟨Nat.le_refl _, h2, fun j h3 h4 => ?_, fun h => ?_⟩
    · simp only [hd] at h4; omega
    · simp only [hd] at h; omega
  | succ f ih =>
    intro i h1 h2
    unfold hd
    by_cases c : i < s.size
    · rw [if_pos c]
      by_cases q : p (byteAt s i) = true
      · rw [if_pos q]
        obtain ⟨a1, a2, a3, a4⟩ := ih (i + 1) (by omega) (by omega)
        refine ⟨by omega, a2, fun j h3 h4 => ?_, a4⟩
        rcases Nat.eq_or_lt_of_le h3 with rfl | h3
        · exact q
        · exact a3 j h3 h4
      · rw [if_neg q]
        exact ⟨Nat.le_refl _, h2, fun j h3 h4 => by omega, fun _ => by simpa using q⟩
    · rw [if_neg c]
      exact ⟨Nat.le_refl _, h2, fun j h3 h4 => by omega, fun h => absurd h c⟩
theorem headLen_le (p : Int → Bool) (s : ByteArray) : headLen p s ≤ s.size := (hd_spec p s s.size 0 (by omega) (by omega)).2.1
theorem headLen_all (p : Int → Bool) (s : ByteArray) (j : Nat) (h : j < headLen p s) : p (byteAt s j) = true := (hd_spec p s s.size 0 (by omega) (by omega)).2.2.1 j (by omega) h
theorem headLen_stop (p : Int → Bool) (s : ByteArray) (h : headLen p s < s.size) : p (byteAt s (headLen p s)) = false := (hd_spec p s s.size 0 (by omega) (by omega)).2.2.2 h
/-- It is the place that these words say. -/
theorem headLen_is (p : Int → Bool) (s : ByteArray) (n : Nat) (hn : n ≤ s.size) (h : ∀ j, j < n → p (byteAt s j) = true) (hs : n < s.size → p (byteAt s n) = false) : headLen p s = n := by
  rcases Nat.lt_trichotomy (headLen p s) n with c | c | c
  · have := headLen_stop p s (by omega)
    rw [h _ c] at this
    cases this
  · exact c
  · have := headLen_all p s n c
    rw [hs (by have := headLen_le p s; omega)] at this
    cases this

theorem decode_low (s : ByteArray) (pos : Nat) (h : pos < s.size) (ha : byteAt s pos < 128) : Utf8.decode s pos = (byteAt s pos, 1) := by
  rw [← byteAt_eq s pos h] at ha ⊢
  exact decode_ascii s pos h ha
theorem decode_far (s : ByteArray) (pos : Nat) (h : pos < s.size) (ha : 128 ≤ byteAt s pos) :
    128 ≤ (Utf8.decode s pos).1 ∧ 1 ≤ (Utf8.decode s pos).2 ∧ pos + (Utf8.decode s pos).2 ≤ s.size ∧ ∀ j, pos ≤ j → j < pos + (Utf8.decode s pos).2 → 128 ≤ byteAt s j := by
  rw [← byteAt_eq s pos h] at ha
  obtain ⟨h1, h2⟩ := decode_high s pos h ha
  rw [byteAt_eq s pos h] at ha
  refine ⟨h1, h2, ?_⟩
  have cont : ∀ k, (decide (pos + k < s.size) && (s.get! (pos + k)).toNat / 64 == 2) = true → pos + k < s.size ∧ 128 ≤ byteAt s (pos + k) := by
    intro k hk
    simp only [Bool.and_eq_true, decide_eq_true_eq, beq_iff_eq] at hk
    obtain ⟨k1, k2⟩ := hk
    rw [get!_byteAt s _ k1] at k2
    exact ⟨k1, by omega⟩
  have key : ∀ w, w = (Utf8.decode s pos).2 → (w = 1 ∨ (w = 2 ∧ pos + 1 < s.size ∧ 128 ≤ byteAt s (pos + 1)) ∨ (w = 3 ∧ pos + 2 < s.size ∧ 128 ≤ byteAt s (pos + 1) ∧ 128 ≤ byteAt s (pos + 2)) ∨
      (w = 4 ∧ pos + 3 < s.size ∧ 128 ≤ byteAt s (pos + 1) ∧ 128 ≤ byteAt s (pos + 2) ∧ 128 ≤ byteAt s (pos + 3))) := by
    intro w hw
    subst hw
    unfold Utf8.decode
    simp only []
    split
    · exact .inl rfl
    · split
      · rename_i hc
        have hc := cont 1 (Bool.and_eq_true_iff.1 hc).2
        split
        · exact .inr (.inl ⟨rfl, hc⟩)
        · exact .inl rfl
      · split
        · rename_i hc
          have hc2 := cont 2 (Bool.and_eq_true_iff.1 hc).2
          have hc1 := cont 1 (Bool.and_eq_true_iff.1 (Bool.and_eq_true_iff.1 hc).1).2
          split
          · exact .inr (.inr (.inl ⟨rfl, hc2.1, hc1.2, hc2.2⟩))
          · exact .inl rfl
        · split
          · rename_i hc
            have hc3 := cont 3 (Bool.and_eq_true_iff.1 hc).2
            have hc2 := cont 2 (Bool.and_eq_true_iff.1 (Bool.and_eq_true_iff.1 hc).1).2
            have hc1 := cont 1 (Bool.and_eq_true_iff.1 (Bool.and_eq_true_iff.1 (Bool.and_eq_true_iff.1 hc).1).1).2
            split
            · exact .inr (.inr (.inr ⟨rfl, hc3.1, hc1.2, hc2.2, hc3.2⟩))
            · exact .inl rfl
          · exact .inl rfl
  rcases key _ rfl with e | ⟨e, k1, k2⟩ | ⟨e, k1, k2, k3⟩ | ⟨e, k1, k2, k3, k4⟩
  all_goals
    rw [e]
    refine ⟨by omega, fun j j1 j2 => ?_⟩
  · obtain rfl : j = pos := by omega
    exact ha
  · rcases (show j = pos ∨ j = pos + 1 by omega) with rfl | rfl
    · exact ha
    · exact k2
  · rcases (show j = pos ∨ j = pos + 1 ∨ j = pos + 2 by omega) with rfl | rfl | rfl
    · exact ha
    · exact k2
    · exact k3
  · rcases (show j = pos ∨ j = pos + 1 ∨ j = pos + 2 ∨ j = pos + 3 by omega) with rfl | rfl | rfl | rfl
    · exact ha
    · exact k2
    · exact k3
    · exact k4
end Go.Proofs.Ytmadbfahdnkecaa
