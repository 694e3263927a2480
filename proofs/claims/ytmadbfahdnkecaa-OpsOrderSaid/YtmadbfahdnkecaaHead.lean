/- The walk over lex.head at each of the four kinds of signs that it is called with: the longest beginning of which each byte is of the kind; for every text. -/
import Derived.Test.YtmadbfahdnkecaaChecked
import Derived.Test.YtmadbfahdnkecaaHeadPure
import Derived.WalkKit
import Derived.Laws.RangeString
import Derived.Laws.RangeAny
import Derived.LoopTactic
import Derived.Below
import Derived.Lib.Hide
set_option linter.unusedVariables false
set_option linter.unusedSimpArgs false
namespace Go.Proofs.Ytmadbfahdnkecaa
open Go.RowKit

def blankP (c : Int) : Bool := decide (c = 32 ∨ c = 9 ∨ c = 10 ∨ c = 13)
def inlineP (c : Int) : Bool := decide (c ≠ 10)
def letterP (c : Int) : Bool := decide (97 ≤ c ∧ c ≤ 122)
def digitP (c : Int) : Bool := decide (48 ≤ c ∧ c ≤ 57)
def innerP (c : Int) : Bool := decide ((97 ≤ c ∧ c ≤ 122) ∨ (48 ≤ c ∧ c ≤ 57) ∨ c = 95)

theorem blank_calls (c : Int) (w : World) : Calls Try.prog 46 #[.int .i32 c] w fun e w' => e = .returned (.bool (blankP c)) ∧ w = w' := by
  have key : ∀ b : Bool, blankP c = b → Hid (blankP c = b) := fun b h => Lib.hid h
  by_cases h1 : c = 32
  · have K := key true (by simp [blankP, h1])
    rw [K.out]
    go_enter Try.func46, Try.ntmps46
    go_wp2
    go_ret
    exact ⟨rfl, rfl⟩
  · by_cases h2 : c = 9
    · have K := key true (by simp [blankP, h2])
      rw [K.out]
      go_enter Try.func46, Try.ntmps46
      go_wp2
      go_ret
      exact ⟨rfl, rfl⟩
    · by_cases h3 : c = 10
      · have K := key true (by simp [blankP, h3])
        rw [K.out]
        go_enter Try.func46, Try.ntmps46
        go_wp2
        go_ret
        exact ⟨rfl, rfl⟩
      · by_cases h4 : c = 13
        · have K := key true (by simp [blankP, h4])
          rw [K.out]
          go_enter Try.func46, Try.ntmps46
          go_wp2
          go_ret
          exact ⟨rfl, rfl⟩
        · have K := key false (by simp [blankP, h1, h2, h3, h4])
          rw [K.out]
          have h4b : (c == 13) = false := beq_eq_false_iff_ne.mpr h4
          go_enter Try.func46, Try.ntmps46
          go_wp2
          go_ret
          exact ⟨by first | rfl | simp [h1, h2, h3, h4], rfl⟩
theorem inline_calls (c : Int) (w : World) : Calls Try.prog 47 #[.int .i32 c] w fun e w' => e = .returned (.bool (inlineP c)) ∧ w = w' := by
  have K : Hid (inlineP c = (c != 10)) := Lib.hid (by unfold inlineP; by_cases h : c = 10 <;> simp [h])
  rw [K.out]
  go_enter Try.func47, Try.ntmps47
  go_wp2
  go_ret
  exact ⟨by first | rfl | simp, rfl⟩
theorem letter_calls (c : Int) (w : World) : Calls Try.prog 48 #[.int .i32 c] w fun e w' => e = .returned (.bool (letterP c)) ∧ w = w' := by
  by_cases h : 97 ≤ c
  · have K : Hid (letterP c = decide (c ≤ 122)) := Lib.hid (by unfold letterP; simp [h])
    rw [K.out]
    go_enter Try.func48, Try.ntmps48
    go_wp2
    go_ret
    exact ⟨rfl, rfl⟩
  · have K : Hid (letterP c = false) := Lib.hid (by unfold letterP; simp [h])
    rw [K.out]
    go_enter Try.func48, Try.ntmps48
    go_wp2
    go_ret
    exact ⟨rfl, rfl⟩
theorem digit_calls (c : Int) (w : World) : Calls Try.prog 52 #[.int .i32 c] w fun e w' => e = .returned (.bool (digitP c)) ∧ w = w' := by
  by_cases h : 48 ≤ c
  · have K : Hid (digitP c = decide (c ≤ 57)) := Lib.hid (by unfold digitP; simp [h])
    rw [K.out]
    go_enter Try.func52, Try.ntmps52
    go_wp2
    go_ret
    exact ⟨rfl, rfl⟩
  · have K : Hid (digitP c = false) := Lib.hid (by unfold digitP; simp [h])
    rw [K.out]
    go_enter Try.func52, Try.ntmps52
    go_wp2
    go_ret
    exact ⟨rfl, rfl⟩
theorem inner_eq (c : Int) : innerP c = (letterP c || (digitP c || (c == 95))) := by
  unfold innerP letterP digitP
  by_cases h1 : 97 ≤ c ∧ c ≤ 122 <;> by_cases h2 : 48 ≤ c ∧ c ≤ 57 <;> by_cases h3 : c = 95 <;> simp [h1, h2, h3]
theorem inner_calls (c : Int) (w : World) : Calls Try.prog 49 #[.int .i32 c] w fun e w' => e = .returned (.bool (innerP c)) ∧ w = w' := by
  have K := inner_eq c
  have L := fun w => letter_calls c w
  have D := fun w => digit_calls c w
  cases h1 : letterP c with
  | true =>
    rw [h1] at K
    simp only [h1] at L
    have K : Hid (innerP c = true) := Lib.hid (by rw [K]; rfl)
    rw [K.out]
    have L := Lib.hid L
    clear h1 D
    go_enter Try.func49, Try.ntmps49
    go_wp2_with (first | (go_at_call 48; refine (L.out _).mono ?_; rintro e w' ⟨rfl, rfl⟩))
    go_ret
    exact ⟨rfl, rfl⟩
  | false =>
    cases h2 : digitP c with
    | true =>
      rw [h1, h2] at K
      simp only [h1] at L
      simp only [h2] at D
      have K : Hid (innerP c = true) := Lib.hid (by rw [K]; rfl)
      rw [K.out]
      have L := Lib.hid L
      have D := Lib.hid D
      clear h1 h2
      go_enter Try.func49, Try.ntmps49
      go_wp2_with (first | (go_at_call 48; refine (L.out _).mono ?_; rintro e w' ⟨rfl, rfl⟩) | (go_at_call 52; refine (D.out _).mono ?_; rintro e w' ⟨rfl, rfl⟩))
      go_ret
      exact ⟨rfl, rfl⟩
    | false =>
      rw [h1, h2] at K
      simp only [h1] at L
      simp only [h2] at D
      have K : Hid (innerP c = (c == 95)) := Lib.hid (by rw [K]; rfl)
      rw [K.out]
      have L := Lib.hid L
      have D := Lib.hid D
      clear h1 h2
      go_enter Try.func49, Try.ntmps49
      go_wp2_with (first | (go_at_call 48; refine (L.out _).mono ?_; rintro e w' ⟨rfl, rfl⟩) | (go_at_call 52; refine (D.out _).mono ?_; rintro e w' ⟨rfl, rfl⟩))
      go_ret
      exact ⟨rfl, rfl⟩

theorem callFunc_enter {P : Program} {f : FuncId} {fn : Func} {c : Code} (hf : P.funcs[f]? = some fn) (hn : (fn.name == "runtime.NumGoroutine") = false) (hb : fn.body = some c) (args : Array Value) (w : World) :
    (callFunc f args).run P w = .ok (.enter f args) w := by
  have h1 : fn.name ≠ "runtime.NumGoroutine" := by simpa using hn
  simp [callFunc, hf, h1, hb]

set_option maxHeartbeats 1000000 in
set_option maxRecDepth 100000 in
/-- head, at a function value of which a contract is known, that answers alike at all signs beyond 127. -/
theorem head_gen (f : Nat) (p : Int → Bool) (q : Bool) (hcall : Hid (∀ (c : Int) (w : World), Calls Try.prog f #[.int .i32 c] w fun e w' => e = .returned (.bool (p c)) ∧ w = w')) (hq : ∀ c : Int, 128 ≤ c → p c = q)
    (hcf : ∀ (args : Array Value) (w : World), (callFunc f args).run Try.prog w = .ok (.enter f args) w)
    (s : ByteArray) (w : World) : Calls Try.prog 45 #[.string s, .func (.func f) #[] #[]] w fun e w' => e = .returned (.string (headOf p s)) ∧ Below w.heap.size w w' := by
  have HQ := Lib.hid hq
  clear hq
  go_enter Try.func45, Try.ntmps45
  go_wp2
  go_loopw [5] (fun _ w' => ∃ pos, w' = w.iter s pos ∧ pos ≤ s.size ∧ Hid (∀ j, j < pos → p (byteAt s j) = true)) (fun _ w' => s.size - w'.iterPos w.heap.size)
  case atStart => exact ⟨0, rfl, Nat.zero_le _, Lib.hid (fun j h => by omega)⟩
  case round =>
    obtain ⟨pos, rfl, hpos, HP⟩ := hrel
    by_cases hp : pos < s.size
    · have hnx : ∀ ty, (Instr.next (.pointer (some ⟨w.heap.size, 0, none⟩)) true ty).run Try.prog (w.iter s pos) = _ := fun ty => run_next_any w s pos ty hp
      have hstep : (p (Utf8.decode s pos).1 = true ∧ 1 ≤ (Utf8.decode s pos).2 ∧ pos + (Utf8.decode s pos).2 ≤ s.size ∧ ∀ j, pos ≤ j → j < pos + (Utf8.decode s pos).2 → p (byteAt s j) = true) ∨
          (p (Utf8.decode s pos).1 = false ∧ p (byteAt s pos) = false) := by
        by_cases ha : byteAt s pos < 128
        · rw [decode_low s pos hp ha]
          cases hb : p (byteAt s pos)
          · exact .inr ⟨rfl, rfl⟩
          · exact .inl ⟨rfl, Nat.le_refl _, hp, fun j j1 j2 => by obtain rfl : j = pos := by simp at j2; omega
                                                                  exact hb⟩
        · obtain ⟨d1, d2, d3, d4⟩ := decode_far s pos hp (by omega)
          have e1 := HQ.out ((Utf8.decode s pos).1 : Int) (by omega)
          have e2 := HQ.out (byteAt s pos : Int) (by omega)
          cases q
          · exact .inr ⟨e1, e2⟩
          · exact .inl ⟨e1, d2, d3, fun j j1 j2 => HQ.out _ (by have := d4 j j1 j2; omega)⟩
      generalize (Utf8.decode s pos).1 = r at hnx hstep
      generalize (Utf8.decode s pos).2 = wd at hnx hstep
      rcases hstep with ⟨h1, h2, h3, h4⟩ | ⟨h1, h2⟩
      · have H1 := Lib.hid h1
        have H4 := Lib.hid h4
        clear h1 h4
        go_wp2_with fail
        refine (hcall.out _ _).mono ?_
        rintro e w' ⟨rfl, rfl⟩
        rw [H1.out]
        go_wp2_with fail
        go_roundw
        case rel =>
          refine ⟨pos + wd, rfl, h3, Lib.hid (fun j hj => ?_)⟩
          by_cases c : j < pos
          · exact HP.out j c
          · exact H4.out j (by omega) hj
        case measure => simp; omega
      · have H1 := Lib.hid h1
        have H2 := Lib.hid h2
        clear h1 h2
        have hle : (pos : Int) ≤ s.size := by omega
        have HE : Hid (headOf p s = s.extract 0 pos) := Lib.hid (by unfold headOf; rw [headLen_is p s pos hpos HP.out (fun _ => H2.out)])
        go_wp2_with fail
        refine (hcall.out _ _).mono ?_
        rintro e w' ⟨rfl, rfl⟩
        rw [H1.out]
        go_wp2_with fail
        go_ret
        exact ⟨by rw [HE.out]; rfl, by unfold World.iter; exact (Below.refl _ w).alloc (Nat.le_refl _) _⟩
    · have hnx : ∀ ty, (Instr.next (.pointer (some ⟨w.heap.size, 0, none⟩)) true ty).run Try.prog (w.iter s pos) = _ := fun ty => run_next_end w s pos ty hp
      have HE : Hid (headOf p s = s) := Lib.hid (by
        have e : pos = s.size := by omega
        unfold headOf
        rw [headLen_is p s s.size (Nat.le_refl _) (fun j hj => HP.out j (by omega)) (fun h => by omega)]
        simp)
      go_wp2
      go_ret
      exact ⟨by rw [HE.out]; rfl, by unfold World.iter; exact (Below.refl _ w).alloc (Nat.le_refl _) _⟩

theorem head_blank (s : ByteArray) (w : World) : Calls Try.prog 45 #[.string s, .func (.func 46) #[] #[]] w fun e w' => e = .returned (.string (headOf blankP s)) ∧ Below w.heap.size w w' :=
  head_gen _ blankP false (Lib.hid blank_calls) (fun c h => by simp [blankP]; omega) (callFunc_enter Try.func46 (by decide) rfl) s w
theorem head_inline (s : ByteArray) (w : World) : Calls Try.prog 45 #[.string s, .func (.func 47) #[] #[]] w fun e w' => e = .returned (.string (headOf inlineP s)) ∧ Below w.heap.size w w' :=
  head_gen _ inlineP true (Lib.hid inline_calls) (fun c h => by simp [inlineP]; omega) (callFunc_enter Try.func47 (by decide) rfl) s w
theorem head_digit (s : ByteArray) (w : World) : Calls Try.prog 45 #[.string s, .func (.func 52) #[] #[]] w fun e w' => e = .returned (.string (headOf digitP s)) ∧ Below w.heap.size w w' :=
  head_gen _ digitP false (Lib.hid digit_calls) (fun c h => by simp [digitP]; omega) (callFunc_enter Try.func52 (by decide) rfl) s w
theorem head_inner (s : ByteArray) (w : World) : Calls Try.prog 45 #[.string s, .func (.func 49) #[] #[]] w fun e w' => e = .returned (.string (headOf innerP s)) ∧ Below w.heap.size w w' :=
  head_gen _ innerP false (Lib.hid inner_calls) (fun c h => by simp [innerP]; omega) (callFunc_enter Try.func49 (by decide) rfl) s w

/-! In the form that the printed texts ask for. -/
def headBlank.f (a0 : ByteArray) : Option ByteArray := some (headOf blankP a0)
def headInline.f (a0 : ByteArray) : Option ByteArray := some (headOf inlineP a0)
def headDigit.f (a0 : ByteArray) : Option ByteArray := some (headOf digitP a0)
def headInner.f (a0 : ByteArray) : Option ByteArray := some (headOf innerP a0)
theorem headBlank.calls (a0 : ByteArray) (r : ByteArray) (w : World) (h : headBlank.f a0 = some r) : Calls Try.prog 45 #[.string a0, .func (.func 46) #[] #[]] w fun e w' => e = .returned (.string r) ∧ Below w.heap.size w w' := by
  obtain rfl := Option.some.inj h; exact head_blank a0 w
theorem headInline.calls (a0 : ByteArray) (r : ByteArray) (w : World) (h : headInline.f a0 = some r) : Calls Try.prog 45 #[.string a0, .func (.func 47) #[] #[]] w fun e w' => e = .returned (.string r) ∧ Below w.heap.size w w' := by
  obtain rfl := Option.some.inj h; exact head_inline a0 w
theorem headDigit.calls (a0 : ByteArray) (r : ByteArray) (w : World) (h : headDigit.f a0 = some r) : Calls Try.prog 45 #[.string a0, .func (.func 52) #[] #[]] w fun e w' => e = .returned (.string r) ∧ Below w.heap.size w w' := by
  obtain rfl := Option.some.inj h; exact head_digit a0 w
theorem headInner.calls (a0 : ByteArray) (r : ByteArray) (w : World) (h : headInner.f a0 = some r) : Calls Try.prog 45 #[.string a0, .func (.func 49) #[] #[]] w fun e w' => e = .returned (.string r) ∧ Below w.heap.size w w' := by
  obtain rfl := Option.some.inj h; exact head_inner a0 w
end Go.Proofs.Ytmadbfahdnkecaa
