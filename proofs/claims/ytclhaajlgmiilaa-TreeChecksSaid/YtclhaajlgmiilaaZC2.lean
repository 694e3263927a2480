/- Walks over functions of the program, words for them, and what the functions come to; of each text only what this claim uses; no condition. -/
import Derived.Test.YtclhaajlgmiilaaZC0
import Derived.Test.YtclhaajlgmiilaaZC1
import Derived.Test.YtclhaajlgmiilaaProg
import Derived.Below
import Derived.Deep.Draws
import Derived.Deep.AppendLies
import Derived.Maps.AppendAt
import Derived.OwnWalk
import Derived.Laws.BytesArg
import Derived.Laws.MakeOwn
import Derived.Laws.OwnMore
import Derived.Deep.OwnRows
import Derived.Tactics
import Derived.Lib.ConvBytes
import Derived.Laws.Slices
import Derived.WalkKit
import Derived.KernelRfl
import Derived.RowKit3
import Derived.Deep.LoopGhost
import Derived.Deep.QuietTactic
import Derived.BigQuiet
import Derived.WideLaws
import Derived.Deep.DeepCutAuto
import Derived.Deep.CutBlock
import Derived.Deep.RegionHeld3
import Derived.Laws.Rows
import Derived.Lib.AppendStr
import Derived.ArgAppend
import Derived.Laws.IdiomCopy
import Derived.OrdersHeld
import Derived.Laws.BitsLemmas
import Derived.RowKit
import Derived.WalkMore
import Derived.Laws.RangeAny
import Derived.Test.YtclhaajlgmiilaaChecked
import Derived.Laws.RangeString
import Derived.LoopTactic
import Derived.Lib.Hide

section
set_option linter.unusedVariables false
set_option linter.unusedSimpArgs false
namespace Go.Proofs.Ytclhaajlgmiilaa
open Go

/-- A byte of a text; 0 beyond its end. -/
def byteAt (s : ByteArray) (i : Nat) : Nat := if h : i < s.size then (s[i]'h).toNat else 0
theorem byteAt_eq (s : ByteArray) (i : Nat) (h : i < s.size) : (s[i]'h).toNat = byteAt s i := by simp [byteAt, h]
theorem get!_byteAt (s : ByteArray) (i : Nat) (h : i < s.size) : (s.get! i).toNat = byteAt s i := by
  rw [← byteAt_eq s i h]
  have e : s.get! i = s[i]'h := by
    simp [ByteArray.get!, getElem!_pos, h]
    rfl
  rw [e]

/-- How many bytes, from a place on, are of a kind. -/
def hd (p : Int → Bool) (s : ByteArray) : Nat → Nat → Nat
  | 0, i => i
  | f + 1, i => if i < s.size then (if p (byteAt s i) = true then hd p s f (i + 1) else i) else i
def headLen (p : Int → Bool) (s : ByteArray) : Nat := hd p s s.size 0
def headOf (p : Int → Bool) (s : ByteArray) : ByteArray := s.extract 0 (headLen p s)

theorem hd_spec (p : Int → Bool) (s : ByteArray) : ∀ f i, s.size ≤ i + f → i ≤ s.size →
    i ≤ hd p s f i ∧ hd p s f i ≤ s.size ∧ (∀ j, i ≤ j → j < hd p s f i → p (byteAt s j) = true) ∧ (hd p s f i < s.size → p (byteAt s (hd p s f i)) = false) := by
  intro f
  induction f with
  | zero =>
    intro i h1 h2
    refine ⟨Nat.le_refl _, h2, fun j h3 h4 => ?_, fun h => ?_⟩
    · simp only [hd] at h4; omega
    · simp only [hd] at h; omega
  | succ f ih =>
    intro i h1 h2
    unfold hd
    by_cases c : i < s.size
    · rw [if_pos c]
      by_cases q : p (byteAt s i) = true
      · rw [if_pos q]
        obtain ⟨a1, a2, a3, a4⟩ := ih (i + 1) (by omega) (by omega)
        refine ⟨by omega, a2, fun j h3 h4 => ?_, a4⟩
        rcases Nat.eq_or_lt_of_le h3 with rfl | h3
        · exact q
        · exact a3 j h3 h4
      · rw [if_neg q]
        exact ⟨Nat.le_refl _, h2, fun j h3 h4 => by omega, fun _ => by simpa using q⟩
    · rw [if_neg c]
      exact ⟨Nat.le_refl _, h2, fun j h3 h4 => by omega, fun h => absurd h c⟩
theorem headLen_le (p : Int → Bool) (s : ByteArray) : headLen p s ≤ s.size := (hd_spec p s s.size 0 (by omega) (by omega)).2.1
theorem headLen_all (p : Int → Bool) (s : ByteArray) (j : Nat) (h : j < headLen p s) : p (byteAt s j) = true := (hd_spec p s s.size 0 (by omega) (by omega)).2.2.1 j (by omega) h
theorem headLen_stop (p : Int → Bool) (s : ByteArray) (h : headLen p s < s.size) : p (byteAt s (headLen p s)) = false := (hd_spec p s s.size 0 (by omega) (by omega)).2.2.2 h
/-- It is the place that these words say. -/
theorem headLen_is (p : Int → Bool) (s : ByteArray) (n : Nat) (hn : n ≤ s.size) (h : ∀ j, j < n → p (byteAt s j) = true) (hs : n < s.size → p (byteAt s n) = false) : headLen p s = n := by
  rcases Nat.lt_trichotomy (headLen p s) n with c | c | c
  · have := headLen_stop p s (by omega)
    rw [h _ c] at this
    cases this
  · exact c
  · have := headLen_all p s n c
    rw [hs (by have := headLen_le p s; omega)] at this
    cases this

theorem decode_low (s : ByteArray) (pos : Nat) (h : pos < s.size) (ha : byteAt s pos < 128) : Utf8.decode s pos = (byteAt s pos, 1) := by
  rw [← byteAt_eq s pos h] at ha ⊢
  exact decode_ascii s pos h ha
theorem decode_far (s : ByteArray) (pos : Nat) (h : pos < s.size) (ha : 128 ≤ byteAt s pos) :
    128 ≤ (Utf8.decode s pos).1 ∧ 1 ≤ (Utf8.decode s pos).2 ∧ pos + (Utf8.decode s pos).2 ≤ s.size ∧ ∀ j, pos ≤ j → j < pos + (Utf8.decode s pos).2 → 128 ≤ byteAt s j := by
  rw [← byteAt_eq s pos h] at ha
  obtain ⟨h1, h2⟩ := decode_high s pos h ha
  rw [byteAt_eq s pos h] at ha
  refine ⟨h1, h2, ?_⟩
  have cont : ∀ k, (decide (pos + k < s.size) && (s.get! (pos + k)).toNat / 64 == 2) = true → pos + k < s.size ∧ 128 ≤ byteAt s (pos + k) := by
    intro k hk
    simp only [Bool.and_eq_true, decide_eq_true_eq, beq_iff_eq] at hk
    obtain ⟨k1, k2⟩ := hk
    rw [get!_byteAt s _ k1] at k2
    exact ⟨k1, by omega⟩
  have key : ∀ w, w = (Utf8.decode s pos).2 → (w = 1 ∨ (w = 2 ∧ pos + 1 < s.size ∧ 128 ≤ byteAt s (pos + 1)) ∨ (w = 3 ∧ pos + 2 < s.size ∧ 128 ≤ byteAt s (pos + 1) ∧ 128 ≤ byteAt s (pos + 2)) ∨
      (w = 4 ∧ pos + 3 < s.size ∧ 128 ≤ byteAt s (pos + 1) ∧ 128 ≤ byteAt s (pos + 2) ∧ 128 ≤ byteAt s (pos + 3))) := by
    intro w hw
    subst hw
    unfold Utf8.decode
    simp only []
    split
    · exact .inl rfl
    · split
      · rename_i hc
        have hc := cont 1 (Bool.and_eq_true_iff.1 hc).2
        split
        · exact .inr (.inl ⟨rfl, hc⟩)
        · exact .inl rfl
      · split
        · rename_i hc
          have hc2 := cont 2 (Bool.and_eq_true_iff.1 hc).2
          have hc1 := cont 1 (Bool.and_eq_true_iff.1 (Bool.and_eq_true_iff.1 hc).1).2
          split
          · exact .inr (.inr (.inl ⟨rfl, hc2.1, hc1.2, hc2.2⟩))
          · exact .inl rfl
        · split
          · rename_i hc
            have hc3 := cont 3 (Bool.and_eq_true_iff.1 hc).2
            have hc2 := cont 2 (Bool.and_eq_true_iff.1 (Bool.and_eq_true_iff.1 hc).1).2
            have hc1 := cont 1 (Bool.and_eq_true_iff.1 (Bool.and_eq_true_iff.1 (Bool.and_eq_true_iff.1 hc).1).1).2
            split
            · exact .inr (.inr (.inr ⟨rfl, hc3.1, hc1.2, hc2.2, hc3.2⟩))
            · exact .inl rfl
          · exact .inl rfl
  rcases key _ rfl with e | ⟨e, k1, k2⟩ | ⟨e, k1, k2, k3⟩ | ⟨e, k1, k2, k3, k4⟩
  all_goals
    rw [e]
    refine ⟨by omega, fun j j1 j2 => ?_⟩
  · obtain rfl : j = pos := by omega
    exact ha
  · rcases (show j = pos ∨ j = pos + 1 by omega) with rfl | rfl
    · exact ha
    · exact k2
  · rcases (show j = pos ∨ j = pos + 1 ∨ j = pos + 2 by omega) with rfl | rfl | rfl
    · exact ha
    · exact k2
    · exact k3
  · rcases (show j = pos ∨ j = pos + 1 ∨ j = pos + 2 ∨ j = pos + 3 by omega) with rfl | rfl | rfl | rfl
    · exact ha
    · exact k2
    · exact k3
    · exact k4
end Go.Proofs.Ytclhaajlgmiilaa
end
section
set_option linter.unusedVariables false
set_option linter.unusedSimpArgs false
namespace Go.Proofs.Ytclhaajlgmiilaa
open Go.RowKit

def letterP (c : Int) : Bool := decide (97 ≤ c ∧ c ≤ 122)
def digitP (c : Int) : Bool := decide (48 ≤ c ∧ c ≤ 57)
def innerP (c : Int) : Bool := decide ((97 ≤ c ∧ c ≤ 122) ∨ (48 ≤ c ∧ c ≤ 57) ∨ c = 95)

theorem letter_calls (c : Int) (w : World) : Calls Try.prog 52 #[.int .i32 c] w fun e w' => e = .returned (.bool (letterP c)) ∧ w = w' := by
  by_cases h : 97 ≤ c
  · have K : Hid (letterP c = decide (c ≤ 122)) := Lib.hid (by unfold letterP; simp [h])
    rw [K.out]
    go_enter Try.func52, Try.ntmps52
    go_wp2
    go_ret
    exact ⟨rfl, rfl⟩
  · have K : Hid (letterP c = false) := Lib.hid (by unfold letterP; simp [h])
    rw [K.out]
    go_enter Try.func52, Try.ntmps52
    go_wp2
    go_ret
    exact ⟨rfl, rfl⟩
theorem digit_calls (c : Int) (w : World) : Calls Try.prog 58 #[.int .i32 c] w fun e w' => e = .returned (.bool (digitP c)) ∧ w = w' := by
  by_cases h : 48 ≤ c
  · have K : Hid (digitP c = decide (c ≤ 57)) := Lib.hid (by unfold digitP; simp [h])
    rw [K.out]
    go_enter Try.func58, Try.ntmps58
    go_wp2
    go_ret
    exact ⟨rfl, rfl⟩
  · have K : Hid (digitP c = false) := Lib.hid (by unfold digitP; simp [h])
    rw [K.out]
    go_enter Try.func58, Try.ntmps58
    go_wp2
    go_ret
    exact ⟨rfl, rfl⟩
theorem inner_eq (c : Int) : innerP c = (letterP c || (digitP c || (c == 95))) := by
  unfold innerP letterP digitP
  by_cases h1 : 97 ≤ c ∧ c ≤ 122 <;> by_cases h2 : 48 ≤ c ∧ c ≤ 57 <;> by_cases h3 : c = 95 <;> simp [h1, h2, h3]
theorem inner_calls (c : Int) (w : World) : Calls Try.prog 54 #[.int .i32 c] w fun e w' => e = .returned (.bool (innerP c)) ∧ w = w' := by
  have K := inner_eq c
  have L := fun w => letter_calls c w
  have D := fun w => digit_calls c w
  cases h1 : letterP c with
  | true =>
    rw [h1] at K
    simp only [h1] at L
    have K : Hid (innerP c = true) := Lib.hid (by rw [K]; rfl)
    rw [K.out]
    have L := Lib.hid L
    clear h1 D
    go_enter Try.func54, Try.ntmps54
    go_wp2_with (first | (go_at_call 52; refine (L.out _).mono ?_; rintro e w' ⟨rfl, rfl⟩))
    go_ret
    exact ⟨rfl, rfl⟩
  | false =>
    cases h2 : digitP c with
    | true =>
      rw [h1, h2] at K
      simp only [h1] at L
      simp only [h2] at D
      have K : Hid (innerP c = true) := Lib.hid (by rw [K]; rfl)
      rw [K.out]
      have L := Lib.hid L
      have D := Lib.hid D
      clear h1 h2
      go_enter Try.func54, Try.ntmps54
      go_wp2_with (first | (go_at_call 52; refine (L.out _).mono ?_; rintro e w' ⟨rfl, rfl⟩) | (go_at_call 58; refine (D.out _).mono ?_; rintro e w' ⟨rfl, rfl⟩))
      go_ret
      exact ⟨rfl, rfl⟩
    | false =>
      rw [h1, h2] at K
      simp only [h1] at L
      simp only [h2] at D
      have K : Hid (innerP c = (c == 95)) := Lib.hid (by rw [K]; rfl)
      rw [K.out]
      have L := Lib.hid L
      have D := Lib.hid D
      clear h1 h2
      go_enter Try.func54, Try.ntmps54
      go_wp2_with (first | (go_at_call 52; refine (L.out _).mono ?_; rintro e w' ⟨rfl, rfl⟩) | (go_at_call 58; refine (D.out _).mono ?_; rintro e w' ⟨rfl, rfl⟩))
      go_ret
      exact ⟨rfl, rfl⟩

theorem callFunc_enter {P : Program} {f : FuncId} {fn : Func} {c : Code} (hf : P.funcs[f]? = some fn) (hn : (fn.name == "runtime.NumGoroutine") = false) (hb : fn.body = some c) (args : Array Value) (w : World) :
    (callFunc f args).run P w = .ok (.enter f args) w := by
  have h1 : fn.name ≠ "runtime.NumGoroutine" := by simpa using hn
  simp [callFunc, hf, h1, hb]

/-- head, at a function value of which a contract is known, that answers alike at all signs beyond 127. -/
theorem head_gen (f : Nat) (p : Int → Bool) (q : Bool) (hcall : Hid (∀ (c : Int) (w : World), Calls Try.prog f #[.int .i32 c] w fun e w' => e = .returned (.bool (p c)) ∧ w = w')) (hq : ∀ c : Int, 128 ≤ c → p c = q)
    (hcf : ∀ (args : Array Value) (w : World), (callFunc f args).run Try.prog w = .ok (.enter f args) w)
    (s : ByteArray) (w : World) : Calls Try.prog 53 #[.string s, .func (.func f) #[] #[]] w fun e w' => e = .returned (.string (headOf p s)) ∧ Below w.heap.size w w' := by
  have HQ := Lib.hid hq
  clear hq
  go_enter Try.func53, Try.ntmps53
  go_wp2
  go_loopw [5] (fun _ w' => ∃ pos, w' = w.iter s pos ∧ pos ≤ s.size ∧ Hid (∀ j, j < pos → p (byteAt s j) = true)) (fun _ w' => s.size - w'.iterPos w.heap.size)
  case atStart => exact ⟨0, rfl, Nat.zero_le _, Lib.hid (fun j h => by omega)⟩
  case round =>
    obtain ⟨pos, rfl, hpos, HP⟩ := hrel
    by_cases hp : pos < s.size
    · have hnx : ∀ ty, (Instr.next (.pointer (some ⟨w.heap.size, 0, none⟩)) true ty).run Try.prog (w.iter s pos) = _ := fun ty => run_next_any w s pos ty hp
      have hstep : (p (Utf8.decode s pos).1 = true ∧ 1 ≤ (Utf8.decode s pos).2 ∧ pos + (Utf8.decode s pos).2 ≤ s.size ∧ ∀ j, pos ≤ j → j < pos + (Utf8.decode s pos).2 → p (byteAt s j) = true) ∨
          (p (Utf8.decode s pos).1 = false ∧ p (byteAt s pos) = false) := by
        by_cases ha : byteAt s pos < 128
        · rw [decode_low s pos hp ha]
          cases hb : p (byteAt s pos)
          · exact .inr ⟨rfl, rfl⟩
          · exact .inl ⟨rfl, Nat.le_refl _, hp, fun j j1 j2 => by obtain rfl : j = pos := by simp at j2; omega
                                                                  exact hb⟩
        · obtain ⟨d1, d2, d3, d4⟩ := decode_far s pos hp (by omega)
          have e1 := HQ.out ((Utf8.decode s pos).1 : Int) (by omega)
          have e2 := HQ.out (byteAt s pos : Int) (by omega)
          cases q
          · exact .inr ⟨e1, e2⟩
          · exact .inl ⟨e1, d2, d3, fun j j1 j2 => HQ.out _ (by have := d4 j j1 j2; omega)⟩
      generalize (Utf8.decode s pos).1 = r at hnx hstep
      generalize (Utf8.decode s pos).2 = wd at hnx hstep
      rcases hstep with ⟨h1, h2, h3, h4⟩ | ⟨h1, h2⟩
      · have H1 := Lib.hid h1
        have H4 := Lib.hid h4
        clear h1 h4
        go_wp2_with fail
        refine (hcall.out _ _).mono ?_
        rintro e w' ⟨rfl, rfl⟩
        rw [H1.out]
        go_wp2_with fail
        go_roundw
        case rel =>
          refine ⟨pos + wd, rfl, h3, Lib.hid (fun j hj => ?_)⟩
          by_cases c : j < pos
          · exact HP.out j c
          · exact H4.out j (by omega) hj
        case measure => simp; omega
      · have H1 := Lib.hid h1
        have H2 := Lib.hid h2
        clear h1 h2
        have hle : (pos : Int) ≤ s.size := by omega
        have HE : Hid (headOf p s = s.extract 0 pos) := Lib.hid (by unfold headOf; rw [headLen_is p s pos hpos HP.out (fun _ => H2.out)])
        go_wp2_with fail
        refine (hcall.out _ _).mono ?_
        rintro e w' ⟨rfl, rfl⟩
        rw [H1.out]
        go_wp2_with fail
        go_ret
        exact ⟨by rw [HE.out]; rfl, by unfold World.iter; exact (Below.refl _ w).alloc (Nat.le_refl _) _⟩
    · have hnx : ∀ ty, (Instr.next (.pointer (some ⟨w.heap.size, 0, none⟩)) true ty).run Try.prog (w.iter s pos) = _ := fun ty => run_next_end w s pos ty hp
      have HE : Hid (headOf p s = s) := Lib.hid (by
        have e : pos = s.size := by omega
        unfold headOf
        rw [headLen_is p s s.size (Nat.le_refl _) (fun j hj => HP.out j (by omega)) (fun h => by omega)]
        simp)
      go_wp2
      go_ret
      exact ⟨by rw [HE.out]; rfl, by unfold World.iter; exact (Below.refl _ w).alloc (Nat.le_refl _) _⟩

theorem head_inner (s : ByteArray) (w : World) : Calls Try.prog 53 #[.string s, .func (.func 54) #[] #[]] w fun e w' => e = .returned (.string (headOf innerP s)) ∧ Below w.heap.size w w' :=
  head_gen _ innerP false (Lib.hid inner_calls) (fun c h => by simp [innerP]; omega) (callFunc_enter Try.func54 (by decide) rfl) s w

/-! In the form that the printed texts ask for. -/
def headInner.f (a0 : ByteArray) : Option ByteArray := some (headOf innerP a0)
theorem headInner.calls (a0 : ByteArray) (r : ByteArray) (w : World) (h : headInner.f a0 = some r) : Calls Try.prog 53 #[.string a0, .func (.func 54) #[] #[]] w fun e w' => e = .returned (.string r) ∧ Below w.heap.size w w' := by
  obtain rfl := Option.some.inj h; exact head_inner a0 w
end Go.Proofs.Ytclhaajlgmiilaa
end
section
set_option linter.unusedVariables false
set_option linter.unusedSimpArgs false
namespace Go.Proofs.Ytclhaajlgmiilaa
open Go.RowKit Go.Proofs.YtclhaajlgmiilaaW.PrintWords Go.Proofs.YtclhaajlgmiilaaW.PrintLast Go.Proofs.YtclhaajlgmiilaaW.PrintMore

set_option maxHeartbeats 2000000 in
set_option maxRecDepth 100000 in
theorem each_gen (f : Nat) (cap : Array Value) (p : Int → Bool) (J : World → Prop) (hJ : Hid (∀ w n, J w → J (w.drewN n)))
    (hcall : Hid (∀ (c : Int) (w : World), J w → Calls Try.prog f (#[.int .i64 c] ++ cap) w fun e w' => e = .returned (.bool (p c)) ∧ Drawn0 w w'))
    (hcf : ∀ (args : Array Value) (w : World), (callFunc f args).run Try.prog w = .ok (.enter f args) w)
    (A0 : Option Addr) (c0 : Nat) (l0 : List Int) (w : World) (hr0 : Kd.C (Kd.int .i64) w A0 l0.length l0) (hc0 : l0.length ≤ c0) (hj : J w) :
    Calls Try.prog 38 #[.slice A0 l0.length c0, .func (.func f) #[] cap] w fun e w' => e = .returned (.bool (l0.all p)) ∧ Drawn0 w w' := by
  have HR0 := Aside0.mk hr0
  have HC0 := Aside0.mk hc0
  have HJ := Aside0.mk hj
  clear hr0 hc0 hj
  go_enter Try.func38, Try.ntmps38
  go_wp2
  go_loopw [9] (fun v9 w' => ∃ i : Nat, v9 = .int .i64 (i : Int) ∧ Hid (i ≤ l0.length ∧ ∀ j, j < i → p (rd l0 (j : Int)) = true) ∧ Drawn0 w w') (fun v9 _ => match v9 with | .int _ x => l0.length - x.toNat | _ => 0)
  case atStart => exact ⟨0, rfl, Lib.hid ⟨Nat.zero_le _, fun j h => by omega⟩, Drawn0.refl _⟩
  case round =>
    obtain ⟨i, rfl, HI, ⟨m1, rfl⟩⟩ := hrel
    by_cases c : i < l0.length
    · have p187 : (0 : Int) ≤ (i : Int) := by omega
      have q187 : (i : Int) < (l0.length : Int) := by omega
      obtain ⟨ad187, e187, hx187_0⟩ := Kd.at_int HR0.out (i : Int) p187 q187
      cases e187
      rw [Int.toNat_natCast] at hx187_0
      replace p187 := eq_true p187
      replace q187 := eq_true q187
      have HC := Aside0.mk (hcall.out (rd l0 (i : Int)) (w.drewN m1) (hJ.out _ _ HJ.out))
      have hi' : wrap64 ((i : Int) + 1) = ((i + 1 : Nat) : Int) ∨ True := .inr trivial
      cases hp : p (rd l0 (i : Int)) with
      | true =>
        have HP := Aside0.mk hp
        clear hp hi'
        go_wp2_with fail
        refine HC.out.mono ?_
        rintro e w' ⟨rfl, ⟨nd, rfl⟩⟩
        rw [HP.out]
        go_wp2_with fail
        go_roundw
        case rel =>
          have hb : l0.length ≤ 9223372036854775807 := HR0.out.2.1
          have hw : wrap64 ((i : Int) + 1) = ((i + 1 : Nat) : Int) := by unfold wrap64; omega
          refine ⟨i + 1, by rw [hw], Lib.hid ⟨c, fun j hj => ?_⟩, by repeat (first | exact Drawn0.refl _ | apply Drawn0.step)⟩
          rcases Nat.lt_succ_iff_lt_or_eq.1 hj with h | rfl
          · exact HI.out.2 j h
          · exact HP.out
        case measure =>
          have hb : l0.length ≤ 9223372036854775807 := HR0.out.2.1
          have hw : wrap64 ((i : Int) + 1) = ((i + 1 : Nat) : Int) := by unfold wrap64; omega
          rw [hw]; simp only [Int.toNat_natCast]; omega
      | false =>
        have HP := Aside0.mk hp
        clear hp hi'
        have HA : Aside0 (l0.all p = false) := Aside0.mk (by
          rw [List.all_eq_false]
          refine ⟨l0[i], List.getElem_mem c, ?_⟩
          have : rd l0 (i : Int) = l0[i] := by simp [rd, c]
          rw [← this, HP.out]; simp)
        go_wp2_with fail
        refine HC.out.mono ?_
        rintro e w' ⟨rfl, ⟨nd, rfl⟩⟩
        rw [HP.out]
        go_wp2_with fail
        go_ret
        exact ⟨by rw [HA.out]; rfl, by repeat (first | exact Drawn0.refl _ | apply Drawn0.step)⟩
    · have q187 := eq_false (show ¬ (i : Int) < (l0.length : Int) by omega)
      have HA : Aside0 (l0.all p = true) := Aside0.mk (by
        rw [List.all_eq_true]
        intro x hx
        obtain ⟨j, hj, rfl⟩ := List.getElem_of_mem hx
        have := HI.out.2 j (by have := HI.out.1; omega)
        simpa [rd, hj] using this)
      go_wp2_with fail
      go_ret
      exact ⟨by rw [HA.out]; rfl, by repeat (first | exact Drawn0.refl _ | apply Drawn0.step)⟩

/-! is, and the function that it gives. -/
set_option maxHeartbeats 1000000 in
set_option maxRecDepth 100000 in
theorem is_calls (k : Int) (w : World) : Calls Try.prog 39 #[.int .i64 k] w fun e w' => ∃ g : Nat, e = .returned (.func (.func 49) #[] #[.pointer (some ⟨g, 0, none⟩)]) ∧ w'.heap[g]? = some (.cells #[.int .i64 k] 3 (0, 0)) ∧ w.heap.size ≤ g ∧ Below w.heap.size w w' := by
  have HB := Aside0.mk (Below.refl w.heap.size w)
  go_enter Try.func39, Try.ntmps39
  go_wp2_with (first | ((with_reducible refine gate_dst (N := 1) rfl ?_); refine box_event ?hg (N := 1) ?hd (cs := #[.int .i64 k]) (t := 3) ?hr ?_; (case hd => rfl); (case hg => rfl); (case hr => first | (go_simp; done) | (go_simp; rfl)); intro gb hg w_ hbox hb; have n0_ := Aside0.mk (below_step (by repeat (first | (with_reducible first | exact HB.out | apply below_alloc | apply pw_below_drewN | apply below_drew1) | exact HB.out)) hb); have n1_ := Aside0.mk (hbox); have n2_ := Aside0.mk ((by rw [hg]; exact (below_size (by repeat (first | (with_reducible first | exact HB.out | apply below_alloc | apply pw_below_drewN | apply below_drew1) | exact HB.out))) : w.heap.size ≤ gb)); clear HB; have HB := n0_; have BK := n1_; have GE := n2_; clear n0_ n1_ n2_; clear hb hbox hg))
  go_ret
  exact ⟨gb, rfl, BK.out, GE.out, HB.out⟩
set_option maxHeartbeats 1000000 in
set_option maxRecDepth 100000 in
theorem is1_calls (c k : Int) (g : Nat) (w : World) (hb : w.heap[g]? = some (.cells #[.int .i64 k] 3 (0, 0))) : Calls Try.prog 49 #[.int .i64 c, .pointer (some ⟨g, 0, none⟩)] w fun e w' => e = .returned (.bool (c == k)) ∧ Drawn0 w w' := by
  have hcz : w.cell? ⟨g, 0, none⟩ = some (.int .i64 k) := (blk_cell hb 0).trans rfl
  have hfz := blk_frozen hb 0
  have HBK := Aside0.mk hb
  clear hb
  go_enter Try.func49, Try.ntmps49
  go_wp2_with fail
  go_ret
  exact ⟨rfl, Drawn0.refl _⟩
theorem each_is (k : Int) (g : Nat) (A0 : Option Addr) (c0 : Nat) (l0 : List Int) (w : World) (hr0 : Kd.C (Kd.int .i64) w A0 l0.length l0) (hc0 : l0.length ≤ c0) (hj : w.heap[g]? = some (.cells #[.int .i64 k] 3 (0, 0))) :
    Calls Try.prog 38 #[.slice A0 l0.length c0, .func (.func 49) #[] #[.pointer (some ⟨g, 0, none⟩)]] w fun e w' => e = .returned (.bool (l0.all (· == k))) ∧ Drawn0 w w' :=
  each_gen 49 #[.pointer (some ⟨g, 0, none⟩)] (· == k) (fun w => w.heap[g]? = some (.cells #[.int .i64 k] 3 (0, 0))) (Lib.hid fun w n h => h) (Lib.hid fun c w h => is1_calls c k g w h) (callFunc_enter Try.func49 (by decide) rfl) A0 c0 l0 w hr0 hc0 hj

def stmtP (c : Int) : Bool := decide (6 ≤ c ∧ c ≤ 17)
theorem stmt_calls (c : Int) (w : World) : Calls Try.prog 25 #[.int .i64 c] w fun e w' => e = .returned (.bool (stmtP c)) ∧ Drawn0 w w' := by
  by_cases h : 6 ≤ c
  · have K : Hid (stmtP c = decide (c ≤ 17)) := Lib.hid (by unfold stmtP; simp [h])
    rw [K.out]
    go_enter Try.func25, Try.ntmps25
    go_wp2
    go_ret
    exact ⟨rfl, Drawn0.refl _⟩
  · have K : Hid (stmtP c = false) := Lib.hid (by unfold stmtP; simp [h])
    rw [K.out]
    go_enter Try.func25, Try.ntmps25
    go_wp2
    go_ret
    exact ⟨rfl, Drawn0.refl _⟩
def eachStmt.f (l0 : List Int) : Option Bool := some (l0.all stmtP)
theorem eachStmt.calls (A0 : Option Addr) (c0 : Nat) (l0 : List Int) (r : Bool) (w : World) (hr0 : Kd.C (Kd.int .i64) w A0 l0.length l0) (hc0 : l0.length ≤ c0) (h : eachStmt.f l0 = some r) :
    Calls Try.prog 38 #[.slice A0 l0.length c0, .func (.func 25) #[] #[]] w fun e w' => e = .returned (.bool r) ∧ Drawn0 w w' := by
  obtain rfl := Option.some.inj h
  exact each_gen 25 #[] stmtP (fun _ => True) (Lib.hid fun _ _ _ => trivial) (Lib.hid fun c w _ => stmt_calls c w) (callFunc_enter Try.func25 (by decide) rfl) A0 c0 l0 w hr0 hc0 trivial

def exprP (c : Int) : Bool := decide (18 ≤ c ∧ c ≤ 30)
theorem expr_calls (c : Int) (w : World) : Calls Try.prog 23 #[.int .i64 c] w fun e w' => e = .returned (.bool (exprP c)) ∧ Drawn0 w w' := by
  by_cases h : 18 ≤ c
  · have K : Hid (exprP c = decide (c ≤ 30)) := Lib.hid (by unfold exprP; simp [h])
    rw [K.out]
    go_enter Try.func23, Try.ntmps23
    go_wp2
    go_ret
    exact ⟨rfl, Drawn0.refl _⟩
  · have K : Hid (exprP c = false) := Lib.hid (by unfold exprP; simp [h])
    rw [K.out]
    go_enter Try.func23, Try.ntmps23
    go_wp2
    go_ret
    exact ⟨rfl, Drawn0.refl _⟩
def eachExpr.f (l0 : List Int) : Option Bool := some (l0.all exprP)
theorem eachExpr.calls (A0 : Option Addr) (c0 : Nat) (l0 : List Int) (r : Bool) (w : World) (hr0 : Kd.C (Kd.int .i64) w A0 l0.length l0) (hc0 : l0.length ≤ c0) (h : eachExpr.f l0 = some r) :
    Calls Try.prog 38 #[.slice A0 l0.length c0, .func (.func 23) #[] #[]] w fun e w' => e = .returned (.bool r) ∧ Drawn0 w w' := by
  obtain rfl := Option.some.inj h
  exact each_gen 23 #[] exprP (fun _ => True) (Lib.hid fun _ _ _ => trivial) (Lib.hid fun c w _ => expr_calls c w) (callFunc_enter Try.func23 (by decide) rfl) A0 c0 l0 w hr0 hc0 trivial

def eachIs.f (l0 : List Int) (k : Int) : Option Bool := some (l0.all (· == k))
theorem eachIs.calls {g : Nat} (A0 : Option Addr) (c0 : Nat) (l0 : List Int) (a1 : Int) (r : Bool) (w : World) (hr0 : Kd.C (Kd.int .i64) w A0 l0.length l0) (hc0 : l0.length ≤ c0) (h : eachIs.f l0 a1 = some r) (hj : w.heap[g]? = some (.cells #[.int .i64 a1] 3 (0, 0))) :
    Calls Try.prog 38 #[.slice A0 l0.length c0, .func (.func 49) #[] #[.pointer (some ⟨g, 0, none⟩)]] w fun e w' => e = .returned (.bool r) ∧ Below w.heap.size w w' := by
  obtain rfl := Option.some.inj h
  refine (each_is a1 g A0 c0 l0 w hr0 hc0 hj).mono ?_
  rintro e w' ⟨he, hd⟩
  exact ⟨he, hd.below⟩

/-! A cell that is read behind five stores, some orders having been drawn ahead of them. -/
theorem dwS (w : World) (n : Nat) (p : Addr) (v : Value) : (w.drewN n).setCell p v = (w.setCell p v).drewN n := rfl
theorem dw5 {w : World} {n : Nat} {p0 p1 p2 p3 p4 a : Addr} {v0 v1 v2 v3 v4 x : Value} (h : (((((w.setCell p0 v0).setCell p1 v1).setCell p2 v2).setCell p3 v3).setCell p4 v4).cell? a = some x) :
    ((((((w.drewN n).setCell p0 v0).setCell p1 v1).setCell p2 v2).setCell p3 v3).setCell p4 v4).cell? a = some x := by
  rw [dwS, dwS, dwS, dwS, dwS, World.cell?_drewN]
  exact h
end Go.Proofs.Ytclhaajlgmiilaa
end
