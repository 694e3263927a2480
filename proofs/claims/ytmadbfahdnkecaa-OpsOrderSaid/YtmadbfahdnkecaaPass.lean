/- The walk over lex.pass: what is left of a text behind blanks and remarks; for every text. -/
import Derived.Test.YtmadbfahdnkecaaHead
import Derived.LoopTactic
set_option linter.unusedVariables false
set_option linter.unusedSimpArgs false
namespace Go.Proofs.Ytmadbfahdnkecaa
open Go.RowKit

/-- What is left of a text behind its longest beginning of a kind. -/
def dropHd (p : Int → Bool) (s : ByteArray) : ByteArray := s.extract (headOf p s).size s.size
theorem headOf_size (p : Int → Bool) (s : ByteArray) : (headOf p s).size = headLen p s := by
  have := headLen_le p s
  simp [headOf]
  omega
theorem dropHd_size (p : Int → Bool) (s : ByteArray) : (dropHd p s).size = s.size - headLen p s := by
  simp [dropHd, headOf_size]
/-- What is left of a text behind blanks and remarks. -/
def passS : Nat → ByteArray → ByteArray
  | 0, s => s
  | f + 1, s =>
    let a := dropHd blankP s
    if 0 < a.size ∧ byteAt a 0 = 35 then passS f (dropHd inlineP a) else a
def passOf (s : ByteArray) : ByteArray := passS (s.size + 1) s
def lexPass.f (a0 : ByteArray) : Option ByteArray := some (passOf a0)
theorem dropHd_inline (a : ByteArray) (h : 0 < a.size) (h2 : byteAt a 0 = 35) : (dropHd inlineP a).size < a.size := by
  rw [dropHd_size]
  have : headLen inlineP a ≠ 0 := by
    intro e
    have := headLen_stop inlineP a (by omega)
    rw [e, h2] at this
    cases this
  omega
theorem belowS {w W w2 : World} (h : Below w.heap.size w W) (k : Below W.heap.size W w2) : Below w.heap.size w w2 := h.trans (k.mono h.size)
theorem toList_some (a : ByteArray) (c : 0 < a.size) : (a.toList == ([] : List UInt8)) = false := by
  apply beq_eq_false_iff_ne.mpr
  rw [ByteArray.toList_eq]
  intro e
  have e2 : a.data.toList.length = 0 := congrArg List.length e
  have e3 : a.data.toList.length = a.size := by cases a; rfl
  omega
theorem toList_none (a : ByteArray) (c : a.size = 0) : (a.toList == ([] : List UInt8)) = true := by
  apply beq_iff_eq.mpr
  rw [ByteArray.toList_eq]
  apply List.eq_nil_of_length_eq_zero
  rw [← c]
  cases a; rfl
set_option maxRecDepth 100000 in
set_option maxHeartbeats 1000000 in
theorem lexPass.calls (a0 : ByteArray) (r : ByteArray) (w : World) (h : lexPass.f a0 = some r) : Calls Try.prog 41 #[.string a0] w fun e w' => e = .returned (.string r) ∧ Below w.heap.size w w' := by
  obtain rfl := Option.some.inj h
  clear h
  go_enter Try.func41, Try.ntmps41
  go_wp2
  go_loopw [0] (fun v w' => ∃ t f, v = .string t ∧ Hid (passS f t = passOf a0) ∧ t.size < f ∧ Below w.heap.size w w') (fun v _ => match v with | .string t => t.size | _ => 0)
  case atStart => exact ⟨a0, a0.size + 1, rfl, Lib.hid rfl, by omega, Below.refl _ w⟩
  case round =>
    obtain ⟨t, f, rfl, HP, hf, hB⟩ := hrel
    have HB := Lib.hid hB
    clear hB
    obtain ⟨f, rfl⟩ : ∃ g, f = g + 1 := ⟨f - 1, by omega⟩
    have hle : (headOf blankP t).size ≤ t.size := by rw [headOf_size]; exact headLen_le _ _
    have hleB := eq_true (show ((headOf blankP t).size : Int) ≤ (t.size : Int) by omega)
    have hA : t.extract (headOf blankP t).size t.size = dropHd blankP t := rfl
    have hAs : (dropHd blankP t).size ≤ t.size := by rw [dropHd_size]; omega
    have HC := Lib.hid (head_blank t)
    have hP : Hid (passS (f + 1) t = (if 0 < (dropHd blankP t).size ∧ byteAt (dropHd blankP t) 0 = 35 then passS f (dropHd inlineP (dropHd blankP t)) else dropHd blankP t)) := Lib.hid rfl
    generalize headOf blankP t = h1 at *
    generalize dropHd blankP t = a at *
    by_cases c : 0 < a.size
    · have c0 : (a.toList == ([] : List UInt8)) = false := toList_some a c
      have cd : decide (0 < a.size) = true := decide_eq_true c
      have cdi : decide (0 < (a.size : Int)) = true := decide_eq_true (by omega)
      have ct := eq_true c
      have cti := eq_true (show 0 < (a.size : Int) by omega)
      by_cases c2 : byteAt a 0 = 35
      · have hx : ∀ h : 0 < a.size, ((a[0]'h).toNat : Int) = 35 := fun h => by rw [byteAt_eq a 0 h, c2]; rfl
        have hle2 : (headOf inlineP a).size ≤ a.size := by rw [headOf_size]; exact headLen_le _ _
        have hle2B := eq_true (show ((headOf inlineP a).size : Int) ≤ (a.size : Int) by omega)
        have hA2 : a.extract (headOf inlineP a).size a.size = dropHd inlineP a := rfl
        have HL := Lib.hid (dropHd_inline a c c2)
        have HC2 := Lib.hid (head_inline a)
        have HP2 : Hid (passS f (dropHd inlineP a) = passOf a0) := Lib.hid (by rw [← HP.out, hP.out, if_pos ⟨c, c2⟩])
        have HF : Hid (a.size ≤ f) := Lib.hid (by omega)
        have HAs := Lib.hid hAs
        clear hP HP c2 hf hAs c
        generalize headOf inlineP a = h2 at *
        generalize dropHd inlineP a = b at *
        go_wp2_with (first | (go_at_call 45; first | ((with_reducible refine (HC.out _).mono ?_); rintro e w8 ⟨rfl, hb⟩; have n0_ := Lib.hid (belowS HB.out hb); clear HB; clear hb; have HB := n0_; clear n0_) | ((with_reducible refine (HC2.out _).mono ?_); rintro e w9 ⟨rfl, hb⟩; have n0_ := Lib.hid (belowS HB.out hb); clear HB; clear hb; have HB := n0_; clear n0_)))
        go_roundw
        case measure => have h1 := HL.out; have h2 := HAs.out; show b.size < t.size; omega
        case rel => exact ⟨b, f, rfl, HP2, by have h1 := HL.out; have h2 := HF.out; omega, HB.out⟩
      · have hx : ∀ h : 0 < a.size, ((a[0]'h).toNat : Int) = byteAt a 0 := fun h => by rw [byteAt_eq a 0 h]
        have c2b : ((byteAt a 0 : Int) == 35) = false := beq_eq_false_iff_ne.mpr (by omega)
        have c2c : ((byteAt a 0 : Int) != 35) = true := bne_iff_ne.mpr (by omega)
        have HR : Hid (a = passOf a0) := Lib.hid (by rw [← HP.out, hP.out, if_neg (by omega)])
        clear hP HP c2 hf c hAs
        go_wp2_with (first | (go_at_call 45; (with_reducible refine (HC.out _).mono ?_); rintro e w8 ⟨rfl, hb⟩; have n0_ := Lib.hid (belowS HB.out hb); clear HB; clear hb; have HB := n0_; clear n0_))
        go_ret
        exact ⟨by rw [← HR.out]; rfl, HB.out⟩
    · have c0 : (a.toList == ([] : List UInt8)) = true := toList_none a (by omega)
      have HR : Hid (a = passOf a0) := Lib.hid (by rw [← HP.out, hP.out, if_neg (by omega)])
      clear hP HP hf c hAs
      go_wp2_with (first | (go_at_call 45; (with_reducible refine (HC.out _).mono ?_); rintro e w8 ⟨rfl, hb⟩; have n0_ := Lib.hid (belowS HB.out hb); clear HB; clear hb; have HB := n0_; clear n0_))
      go_ret
      exact ⟨by rw [← HR.out]; rfl, HB.out⟩
/-- A cell of a block of four that was written anew. -/
theorem cell_mod4 {w : World} {g : Nat} {v : Value} (h : w.cell? ⟨g, 3, none⟩ = some v) (x0 x1 x2 x3 y : Value) :
    (((((w.setCell ⟨g, 0, none⟩ x0).setCell ⟨g, 1, none⟩ x1).setCell ⟨g, 2, none⟩ x2).setCell ⟨g, 3, none⟩ x3).setCell ⟨g, 3, none⟩ y).cell? ⟨g, 3, none⟩ = some y := by
  refine World.cell?_setCell_same _ _ _ (World.cell?_setCell_same (u := v) _ _ _ ?_)
  rw [World.cell?_setCell_other _ _ _ _ (by simp), World.cell?_setCell_other _ _ _ _ (by simp), World.cell?_setCell_other _ _ _ _ (by simp)]
  exact h
end Go.Proofs.Ytmadbfahdnkecaa
