/- Walks over functions of the program, words for them, and what the functions come to; of each text only what this claim uses; no condition. -/
import Derived.Test.YtlenihbmafkegaaZSA0
import Derived.Test.YtlenihbmafkegaaZSA1
import Derived.Test.YtlenihbmafkegaaProg
import Derived.Below
import Derived.Deep.Draws
import Derived.Deep.AppendLies
import Derived.Maps.AppendAt
import Derived.OwnWalk
import Derived.Laws.BytesArg
import Derived.Laws.MakeOwn
import Derived.Laws.OwnMore
import Derived.Deep.OwnRows
import Derived.Tactics
import Derived.Lib.ConvBytes
import Derived.Laws.Slices
import Derived.WalkKit
import Derived.KernelRfl
import Derived.RowKit3
import Derived.Deep.LoopGhost
import Derived.Deep.QuietTactic
import Derived.BigQuiet
import Derived.WideLaws
import Derived.Deep.DeepCutAuto
import Derived.Deep.CutBlock
import Derived.Deep.RegionHeld3
import Derived.Laws.Rows
import Derived.Lib.AppendStr
import Derived.ArgAppend
import Derived.Laws.IdiomCopy
import Derived.OrdersHeld
import Derived.Laws.BitsLemmas
import Derived.RowKit
import Derived.WalkMore
import Derived.Laws.RangeAny
import Derived.Test.YtlenihbmafkegaaChecked
import Derived.Laws.RangeString
import Derived.LoopTactic
import Derived.Lib.Hide
section
set_option linter.unusedVariables false
set_option linter.unusedSimpArgs false
namespace Go.Proofs.Ytlenihbmafkegaa
open Go
/-- A byte of a text; 0 beyond its end. -/
def byteAt (s : ByteArray) (i : Nat) : Nat := if h : i < s.size then (s[i]'h).toNat else 0
theorem mY (s : ByteArray) (i : Nat) (h : i < s.size) : (s[i]'h).toNat = byteAt s i := by simp [byteAt, h]
theorem get!_byteAt (s : ByteArray) (i : Nat) (h : i < s.size) : (s.get! i).toNat = byteAt s i := by
 rw [← mY s i h]
 have e : s.get! i = s[i]'h := by
  simp [ByteArray.get!, getElem!_pos, h]
  rfl
 rw [e]
/-- How many bytes, from a place on, are of a kind. -/
def hd (p : Int → Bool) (s : ByteArray) : Nat → Nat → Nat
 | 0, i => i
 | f + 1, i => if i < s.size then (if p (byteAt s i) = true then hd p s f (i + 1) else i) else i
def headLen (p : Int → Bool) (s : ByteArray) : Nat := hd p s s.size 0
def iy (p : Int → Bool) (s : ByteArray) : ByteArray := s.extract 0 (headLen p s)
theorem yQ (p : Int → Bool) (s : ByteArray) : ∀ f i, s.size ≤ i + f → i ≤ s.size →
 i ≤ hd p s f i ∧ hd p s f i ≤ s.size ∧ (∀ j, i ≤ j → j < hd p s f i → p (byteAt s j) = true) ∧ (hd p s f i < s.size → p (byteAt s (hd p s f i)) = false) := by
 intro f
 induction f with
 | zero =>
  intro i h1 h2
  refine ⟨Nat.le_refl _, h2, fun j h3 h4 => ?_, fun h => ?_⟩
  ·simp only [hd] at h4; omega
  simp only [hd] at h; omega
 | succ f ih =>
  intro i h1 h2
  unfold hd
  by_cases c : i < s.size
  ·rw [if_pos c]
   by_cases q : p (byteAt s i) = true
   ·rw [if_pos q]
    obtain ⟨a1, a2, a3, a4⟩ := ih (i + 1) (by omega) (by omega)
    refine ⟨by omega, a2, fun j h3 h4 => ?_, a4⟩
    rcases Nat.eq_or_lt_of_le h3 with rfl | h3
    ·exact q
    exact a3 j h3 h4
   rw [if_neg q]
   exact ⟨Nat.le_refl _, h2, fun j h3 h4 => by omega, fun _ => by simpa using q⟩
  rw [if_neg c]
  exact ⟨Nat.le_refl _, h2, fun j h3 h4 => by omega, fun h => absurd h c⟩
theorem oV (p : Int → Bool) (s : ByteArray) : headLen p s ≤ s.size := (yQ p s s.size 0 (by omega) (by omega)).2.1
theorem Am (p : Int → Bool) (s : ByteArray) (j : Nat) (h : j < headLen p s) : p (byteAt s j) = true := (yQ p s s.size 0 (by omega) (by omega)).2.2.1 j (by omega) h
theorem tJ (p : Int → Bool) (s : ByteArray) (h : headLen p s < s.size) : p (byteAt s (headLen p s)) = false := (yQ p s s.size 0 (by omega) (by omega)).2.2.2 h
/-- It is the place that these words say. -/
theorem wL (p : Int → Bool) (s : ByteArray) (n : Nat) (hn : n ≤ s.size) (h : ∀ j, j < n → p (byteAt s j) = true) (hs : n < s.size → p (byteAt s n) = false) : headLen p s = n := by
 rcases Nat.lt_trichotomy (headLen p s) n with c | c | c
 ·have := tJ p s (by omega)
  rw [h _ c] at this
  cases this
 ·exact c
 have := Am p s n c
 rw [hs (by have := oV p s; omega)] at this
 cases this
theorem CO (s : ByteArray) (pos : Nat) (h : pos < s.size) (ha : byteAt s pos < 128) : Utf8.decode s pos = (byteAt s pos, 1) := by
 rw [← mY s pos h] at ha ⊢
 exact decode_ascii s pos h ha
theorem CP (s : ByteArray) (pos : Nat) (h : pos < s.size) (ha : 128 ≤ byteAt s pos) :
 128 ≤ (Utf8.decode s pos).1 ∧ 1 ≤ (Utf8.decode s pos).2 ∧ pos + (Utf8.decode s pos).2 ≤ s.size ∧ ∀ j, pos ≤ j → j < pos + (Utf8.decode s pos).2 → 128 ≤ byteAt s j := by
 rw [← mY s pos h] at ha
 obtain ⟨h1, h2⟩ := decode_high s pos h ha
 rw [mY s pos h] at ha
 refine ⟨h1, h2, ?_⟩
 have cont : ∀ k, (decide (pos + k < s.size) && (s.get! (pos + k)).toNat / 64 == 2) = true → pos + k < s.size ∧ 128 ≤ byteAt s (pos + k) := by
  intro k hk
  simp only [Bool.and_eq_true, decide_eq_true_eq, beq_iff_eq] at hk
  obtain ⟨k1, k2⟩ := hk
  rw [get!_byteAt s _ k1] at k2
  exact ⟨k1, by omega⟩
 have key : ∀ w, w = (Utf8.decode s pos).2 → (w = 1 ∨ (w = 2 ∧ pos + 1 < s.size ∧ 128 ≤ byteAt s (pos + 1)) ∨ (w = 3 ∧ pos + 2 < s.size ∧ 128 ≤ byteAt s (pos + 1) ∧ 128 ≤ byteAt s (pos + 2)) ∨
  (w = 4 ∧ pos + 3 < s.size ∧ 128 ≤ byteAt s (pos + 1) ∧ 128 ≤ byteAt s (pos + 2) ∧ 128 ≤ byteAt s (pos + 3))) := by
  intro w hw
  subst hw
  unfold Utf8.decode
  simp only []
  split
  ·exact .inl rfl
  split
  ·rename_i hc
   have hc := cont 1 (Bool.and_eq_true_iff.1 hc).2
   split
   ·exact .inr (.inl ⟨rfl, hc⟩)
   exact .inl rfl
  split
  ·rename_i hc
   have hc2 := cont 2 (Bool.and_eq_true_iff.1 hc).2
   have hc1 := cont 1 (Bool.and_eq_true_iff.1 (Bool.and_eq_true_iff.1 hc).1).2
   split
   ·exact .inr (.inr (.inl ⟨rfl, hc2.1, hc1.2, hc2.2⟩))
   exact .inl rfl
  split
  ·rename_i hc
   have hc3 := cont 3 (Bool.and_eq_true_iff.1 hc).2
   have hc2 := cont 2 (Bool.and_eq_true_iff.1 (Bool.and_eq_true_iff.1 hc).1).2
   have hc1 := cont 1 (Bool.and_eq_true_iff.1 (Bool.and_eq_true_iff.1 (Bool.and_eq_true_iff.1 hc).1).1).2
   split
   ·exact .inr (.inr (.inr ⟨rfl, hc3.1, hc1.2, hc2.2, hc3.2⟩))
   exact .inl rfl
  exact .inl rfl
 rcases key _ rfl with e | ⟨e, k1, k2⟩ | ⟨e, k1, k2, k3⟩ | ⟨e, k1, k2, k3, k4⟩
 all_goals
  rw [e]
  refine ⟨by omega, fun j j1 j2 => ?_⟩
 ·obtain rfl : j = pos := by omega
  exact ha
 ·rcases (show j = pos ∨ j = pos + 1 by omega) with rfl | rfl
  ·exact ha
  exact k2
 ·rcases (show j = pos ∨ j = pos + 1 ∨ j = pos + 2 by omega) with rfl | rfl | rfl
  ·exact ha
  ·exact k2
  exact k3
 rcases (show j = pos ∨ j = pos + 1 ∨ j = pos + 2 ∨ j = pos + 3 by omega) with rfl | rfl | rfl | rfl
 ·exact ha
 ·exact k2
 ·exact k3
 exact k4
end Go.Proofs.Ytlenihbmafkegaa
end
section
set_option linter.unusedVariables false
set_option linter.unusedSimpArgs false
namespace Go.Proofs.Ytlenihbmafkegaa
open Go.RowKit
def gq (c : Int) : Bool := decide (c = 32 ∨ c = 9 ∨ c = 10 ∨ c = 13)
def gV (c : Int) : Bool := decide (c ≠ 10)
def lS (c : Int) : Bool := decide (97 ≤ c ∧ c ≤ 122)
def kP (c : Int) : Bool := decide (48 ≤ c ∧ c ≤ 57)
def lD (c : Int) : Bool := decide ((97 ≤ c ∧ c ≤ 122) ∨ (48 ≤ c ∧ c ≤ 57) ∨ c = 95)
theorem AZ (c : Int) (w : World) : Calls Try.prog 44 #[.int .i32 c] w fun e w' => e = .returned (.bool (gq c)) ∧ w = w' := by
 have key : ∀ b : Bool, gq c = b → Hid (gq c = b) := fun b h => Lib.hid h
 by_cases h1 : c = 32
 ·have K := key true (by simp [gq, h1])
  rw [K.out]
  go_enter Try.func44, Try.ntmps44
  go_wp2
  go_ret
  exact ⟨rfl, rfl⟩
 by_cases h2 : c = 9
 ·have K := key true (by simp [gq, h2])
  rw [K.out]
  go_enter Try.func44, Try.ntmps44
  go_wp2
  go_ret
  exact ⟨rfl, rfl⟩
 by_cases h3 : c = 10
 ·have K := key true (by simp [gq, h3])
  rw [K.out]
  go_enter Try.func44, Try.ntmps44
  go_wp2
  go_ret
  exact ⟨rfl, rfl⟩
 by_cases h4 : c = 13
 ·have K := key true (by simp [gq, h4])
  rw [K.out]
  go_enter Try.func44, Try.ntmps44
  go_wp2
  go_ret
  exact ⟨rfl, rfl⟩
 have K := key false (by simp [gq, h1, h2, h3, h4])
 rw [K.out]
 have h4b : (c == 13) = false := beq_eq_false_iff_ne.mpr h4
 go_enter Try.func44, Try.ntmps44
 go_wp2
 go_ret
 exact ⟨by first | rfl | simp [h1, h2, h3, h4], rfl⟩
theorem yM (c : Int) (w : World) : Calls Try.prog 45 #[.int .i32 c] w fun e w' => e = .returned (.bool (gV c)) ∧ w = w' := by
 have K : Hid (gV c = (c != 10)) := Lib.hid (by unfold gV; by_cases h : c = 10 <;> simp [h])
 rw [K.out]
 go_enter Try.func45, Try.ntmps45
 go_wp2
 go_ret
 exact ⟨by first | rfl | simp, rfl⟩
theorem yI (c : Int) (w : World) : Calls Try.prog 46 #[.int .i32 c] w fun e w' => e = .returned (.bool (lS c)) ∧ w = w' := by
 by_cases h : 97 ≤ c
 ·have K : Hid (lS c = decide (c ≤ 122)) := Lib.hid (by unfold lS; simp [h])
  rw [K.out]
  go_enter Try.func46, Try.ntmps46
  go_wp2
  go_ret
  exact ⟨rfl, rfl⟩
 have K : Hid (lS c = false) := Lib.hid (by unfold lS; simp [h])
 rw [K.out]
 go_enter Try.func46, Try.ntmps46
 go_wp2
 go_ret
 exact ⟨rfl, rfl⟩
theorem uM (c : Int) (w : World) : Calls Try.prog 49 #[.int .i32 c] w fun e w' => e = .returned (.bool (kP c)) ∧ w = w' := by
 by_cases h : 48 ≤ c
 ·have K : Hid (kP c = decide (c ≤ 57)) := Lib.hid (by unfold kP; simp [h])
  rw [K.out]
  go_enter Try.func49, Try.ntmps49
  go_wp2
  go_ret
  exact ⟨rfl, rfl⟩
 have K : Hid (kP c = false) := Lib.hid (by unfold kP; simp [h])
 rw [K.out]
 go_enter Try.func49, Try.ntmps49
 go_wp2
 go_ret
 exact ⟨rfl, rfl⟩
theorem Ag (c : Int) : lD c = (lS c || (kP c || (c == 95))) := by
 unfold lD lS kP
 by_cases h1 : 97 ≤ c ∧ c ≤ 122 <;> by_cases h2 : 48 ≤ c ∧ c ≤ 57 <;> by_cases h3 : c = 95 <;> simp [h1, h2, h3]
theorem Ah (c : Int) (w : World) : Calls Try.prog 47 #[.int .i32 c] w fun e w' => e = .returned (.bool (lD c)) ∧ w = w' := by
 have K := Ag c
 have L := fun w => yI c w
 have D := fun w => uM c w
 cases h1 : lS c with
 | true =>
  rw [h1] at K
  simp only [h1] at L
  have K : Hid (lD c = true) := Lib.hid (by rw [K]; rfl)
  rw [K.out]
  have L := Lib.hid L
  clear h1 D
  go_enter Try.func47, Try.ntmps47
  go_wp2_with (first | (go_at_call 46; refine (L.out _).mono ?_; rintro e w' ⟨rfl, rfl⟩))
  go_ret
  exact ⟨rfl, rfl⟩
 | false =>
  cases h2 : kP c with
  | true =>
   rw [h1, h2] at K
   simp only [h1] at L
   simp only [h2] at D
   have K : Hid (lD c = true) := Lib.hid (by rw [K]; rfl)
   rw [K.out]
   have L := Lib.hid L
   have D := Lib.hid D
   clear h1 h2
   go_enter Try.func47, Try.ntmps47
   go_wp2_with (first | (go_at_call 46; refine (L.out _).mono ?_; rintro e w' ⟨rfl, rfl⟩) | (go_at_call 49; refine (D.out _).mono ?_; rintro e w' ⟨rfl, rfl⟩))
   go_ret
   exact ⟨rfl, rfl⟩
  | false =>
   rw [h1, h2] at K
   simp only [h1] at L
   simp only [h2] at D
   have K : Hid (lD c = (c == 95)) := Lib.hid (by rw [K]; rfl)
   rw [K.out]
   have L := Lib.hid L
   have D := Lib.hid D
   clear h1 h2
   go_enter Try.func47, Try.ntmps47
   go_wp2_with (first | (go_at_call 46; refine (L.out _).mono ?_; rintro e w' ⟨rfl, rfl⟩) | (go_at_call 49; refine (D.out _).mono ?_; rintro e w' ⟨rfl, rfl⟩))
   go_ret
   exact ⟨rfl, rfl⟩
theorem fQ {P : Program} {f : FuncId} {fn : Func} {c : Code} (hf : P.funcs[f]? = some fn) (hn : (fn.name == "runtime.NumGoroutine") = false) (hb : fn.body = some c) (args : Array Value) (w : World) :
 (callFunc f args).run P w = .ok (.enter f args) w := by
 have h1 : fn.name ≠ "runtime.NumGoroutine" := by simpa using hn
 simp [callFunc, hf, h1, hb]
/-- head, at a function value of which a contract is known, that answers alike at all signs beyond 127. -/
theorem tH (f : Nat) (p : Int → Bool) (q : Bool) (hcall : Hid (∀ (c : Int) (w : World), Calls Try.prog f #[.int .i32 c] w fun e w' => e = .returned (.bool (p c)) ∧ w = w')) (hq : ∀ c : Int, 128 ≤ c → p c = q)
 (hcf : ∀ (args : Array Value) (w : World), (callFunc f args).run Try.prog w = .ok (.enter f args) w)
 (s : ByteArray) (w : World) : Calls Try.prog 43 #[.string s, .func (.func f) #[] #[]] w fun e w' => e = .returned (.string (iy p s)) ∧ Below w.heap.size w w' := by
 have HQ := Lib.hid hq
 clear hq
 go_enter Try.func43, Try.ntmps43
 go_wp2
 go_loopw [5] (fun _ w' => ∃ pos, w' = w.iter s pos ∧ pos ≤ s.size ∧ Hid (∀ j, j < pos → p (byteAt s j) = true)) (fun _ w' => s.size - w'.iterPos w.heap.size)
 case atStart => exact ⟨0, rfl, Nat.zero_le _, Lib.hid (fun j h => by omega)⟩
 case round =>
  obtain ⟨pos, rfl, hpos, HP⟩ := hrel
  by_cases hp : pos < s.size
  ·have hnx : ∀ ty, (Instr.next (.pointer (some ⟨w.heap.size, 0, none⟩)) true ty).run Try.prog (w.iter s pos) = _ := fun ty => run_next_any w s pos ty hp
   have hstep : (p (Utf8.decode s pos).1 = true ∧ 1 ≤ (Utf8.decode s pos).2 ∧ pos + (Utf8.decode s pos).2 ≤ s.size ∧ ∀ j, pos ≤ j → j < pos + (Utf8.decode s pos).2 → p (byteAt s j) = true) ∨
    (p (Utf8.decode s pos).1 = false ∧ p (byteAt s pos) = false) := by
    by_cases ha : byteAt s pos < 128
    ·rw [CO s pos hp ha]
     cases hb : p (byteAt s pos)
     ·exact .inr ⟨rfl, rfl⟩
     exact .inl ⟨rfl, Nat.le_refl _, hp, fun j j1 j2 => by
      obtain rfl : j = pos := by simp at j2; omega
      exact hb⟩
    obtain ⟨d1, d2, d3, d4⟩ := CP s pos hp (by omega)
    have e1 := HQ.out ((Utf8.decode s pos).1 : Int) (by omega)
    have e2 := HQ.out (byteAt s pos : Int) (by omega)
    cases q
    ·exact .inr ⟨e1, e2⟩
    exact .inl ⟨e1, d2, d3, fun j j1 j2 => HQ.out _ (by have := d4 j j1 j2; omega)⟩
   generalize (Utf8.decode s pos).1 = r at hnx hstep
   generalize (Utf8.decode s pos).2 = wd at hnx hstep
   rcases hstep with ⟨h1, h2, h3, h4⟩ | ⟨h1, h2⟩
   ·have H1 := Lib.hid h1
    have H4 := Lib.hid h4
    clear h1 h4
    go_wp2_with fail
    refine (hcall.out _ _).mono ?_
    rintro e w' ⟨rfl, rfl⟩
    rw [H1.out]
    go_wp2_with fail
    go_roundw
    case rel =>
     refine ⟨pos + wd, rfl, h3, Lib.hid (fun j hj => ?_)⟩
     by_cases c : j < pos
     ·exact HP.out j c
     exact H4.out j (by omega) hj
    case measure => simp; omega
   have H1 := Lib.hid h1
   have H2 := Lib.hid h2
   clear h1 h2
   have hle : (pos : Int) ≤ s.size := by omega
   have HE : Hid (iy p s = s.extract 0 pos) := Lib.hid (by unfold iy; rw [wL p s pos hpos HP.out (fun _ => H2.out)])
   go_wp2_with fail
   refine (hcall.out _ _).mono ?_
   rintro e w' ⟨rfl, rfl⟩
   rw [H1.out]
   go_wp2_with fail
   go_ret
   exact ⟨by rw [HE.out]; rfl, by unfold World.iter; exact (Below.refl _ w).alloc (Nat.le_refl _) _⟩
  have hnx : ∀ ty, (Instr.next (.pointer (some ⟨w.heap.size, 0, none⟩)) true ty).run Try.prog (w.iter s pos) = _ := fun ty => run_next_end w s pos ty hp
  have HE : Hid (iy p s = s) := Lib.hid (by
   have e : pos = s.size := by omega
   unfold iy
   rw [wL p s s.size (Nat.le_refl _) (fun j hj => HP.out j (by omega)) (fun h => by omega)]
   simp)
  go_wp2
  go_ret
  exact ⟨by rw [HE.out]; rfl, by unfold World.iter; exact (Below.refl _ w).alloc (Nat.le_refl _) _⟩
theorem Ci (s : ByteArray) (w : World) : Calls Try.prog 43 #[.string s, .func (.func 44) #[] #[]] w fun e w' => e = .returned (.string (iy gq s)) ∧ Below w.heap.size w w' :=
 tH _ gq false (Lib.hid AZ) (fun c h => by simp [gq]; omega) (fQ Try.func44 (by decide) rfl) s w
theorem Ak (s : ByteArray) (w : World) : Calls Try.prog 43 #[.string s, .func (.func 45) #[] #[]] w fun e w' => e = .returned (.string (iy gV s)) ∧ Below w.heap.size w w' :=
 tH _ gV true (Lib.hid yM) (fun c h => by simp [gV]; omega) (fQ Try.func45 (by decide) rfl) s w
theorem Cf (s : ByteArray) (w : World) : Calls Try.prog 43 #[.string s, .func (.func 49) #[] #[]] w fun e w' => e = .returned (.string (iy kP s)) ∧ Below w.heap.size w w' :=
 tH _ kP false (Lib.hid uM) (fun c h => by simp [kP]; omega) (fQ Try.func49 (by decide) rfl) s w
theorem Cc (s : ByteArray) (w : World) : Calls Try.prog 43 #[.string s, .func (.func 47) #[] #[]] w fun e w' => e = .returned (.string (iy lD s)) ∧ Below w.heap.size w w' :=
 tH _ lD false (Lib.hid Ah) (fun c h => by simp [lD]; omega) (fQ Try.func47 (by decide) rfl) s w
/-! In the form that the printed texts ask for. -/
def mW.f (a0 : ByteArray) : Option ByteArray := some (iy kP a0)
def jZ.f (a0 : ByteArray) : Option ByteArray := some (iy lD a0)
theorem mW.calls (a0 : ByteArray) (r : ByteArray) (w : World) (h : mW.f a0 = some r) : Calls Try.prog 43 #[.string a0, .func (.func 49) #[] #[]] w fun e w' => e = .returned (.string r) ∧ Below w.heap.size w w' := by
 obtain rfl := Option.some.inj h; exact Cf a0 w
theorem jZ.calls (a0 : ByteArray) (r : ByteArray) (w : World) (h : jZ.f a0 = some r) : Calls Try.prog 43 #[.string a0, .func (.func 47) #[] #[]] w fun e w' => e = .returned (.string r) ∧ Below w.heap.size w w' := by
 obtain rfl := Option.some.inj h; exact Cc a0 w
end Go.Proofs.Ytlenihbmafkegaa
end
section
set_option linter.unusedVariables false
set_option linter.unusedSimpArgs false
namespace Go.Proofs.Ytlenihbmafkegaa
open Go.RowKit Go.Proofs.YtlenihbmafkegaaW.PrintWords Go.Proofs.YtlenihbmafkegaaW.PrintLast Go.Proofs.YtlenihbmafkegaaW.PrintMore
set_option maxHeartbeats 2000000 in
set_option maxRecDepth 100000 in
theorem wV (f : Nat) (cap : Array Value) (p : Int → Bool) (J : World → Prop) (hJ : Hid (∀ w n, J w → J (w.drewN n)))
 (hcall : Hid (∀ (c : Int) (w : World), J w → Calls Try.prog f (#[.int .i64 c] ++ cap) w fun e w' => e = .returned (.bool (p c)) ∧ dQ w w'))
 (hcf : ∀ (args : Array Value) (w : World), (callFunc f args).run Try.prog w = .ok (.enter f args) w)
 (A0 : Option Addr) (c0 : Nat) (l0 : List Int) (w : World) (hr0 : Kd.C (Kd.int .i64) w A0 l0.length l0) (hc0 : l0.length ≤ c0) (hj : J w) :
 Calls Try.prog 34 #[.slice A0 l0.length c0, .func (.func f) #[] cap] w fun e w' => e = .returned (.bool (l0.all p)) ∧ dQ w w' := by
 have HR0 := ae.mk hr0
 have HC0 := ae.mk hc0
 have HJ := ae.mk hj
 clear hr0 hc0 hj
 go_enter Try.func34, Try.ntmps34
 go_wp2
 go_loopw [9] (fun v9 w' => ∃ i : Nat, v9 = .int .i64 (i : Int) ∧ Hid (i ≤ l0.length ∧ ∀ j, j < i → p (rd l0 (j : Int)) = true) ∧ dQ w w') (fun v9 _ => match v9 with | .int _ x => l0.length - x.toNat | _ => 0)
 case atStart => exact ⟨0, rfl, Lib.hid ⟨Nat.zero_le _, fun j h => by omega⟩, dQ.refl _⟩
 case round =>
  obtain ⟨i, rfl, HI, ⟨m1, rfl⟩⟩ := hrel
  by_cases c : i < l0.length
  ·have p187 : (0 : Int) ≤ (i : Int) := by omega
   have q187 : (i : Int) < (l0.length : Int) := by omega
   obtain ⟨ad187, e187, hx187_0⟩ := Kd.lK HR0.out (i : Int) p187 q187
   cases e187
   rw [Int.toNat_natCast] at hx187_0
   replace p187 := eq_true p187
   replace q187 := eq_true q187
   have HC := ae.mk (hcall.out (rd l0 (i : Int)) (w.drewN m1) (hJ.out _ _ HJ.out))
   have hi' : wrap64 ((i : Int) + 1) = ((i + 1 : Nat) : Int) ∨ True := .inr trivial
   cases hp : p (rd l0 (i : Int)) with
   | true =>
    have HP := ae.mk hp
    clear hp hi'
    go_wp2_with fail
    refine HC.out.mono ?_
    rintro e w' ⟨rfl, ⟨nd, rfl⟩⟩
    rw [HP.out]
    go_wp2_with fail
    go_roundw
    case rel =>
     have hb : l0.length ≤ 9223372036854775807 := HR0.out.2.1
     have hw : wrap64 ((i : Int) + 1) = ((i + 1 : Nat) : Int) := by unfold wrap64; omega
     refine ⟨i + 1, by rw [hw], Lib.hid ⟨c, fun j hj => ?_⟩, Z0⟩
     rcases Nat.lt_succ_iff_lt_or_eq.1 hj with h | rfl
     ·exact HI.out.2 j h
     exact HP.out
    case measure =>
     have hb : l0.length ≤ 9223372036854775807 := HR0.out.2.1
     have hw : wrap64 ((i : Int) + 1) = ((i + 1 : Nat) : Int) := by unfold wrap64; omega
     rw [hw]; simp only [Int.toNat_natCast]; omega
   | false =>
    have HP := ae.mk hp
    clear hp hi'
    have HA : ae (l0.all p = false) := ae.mk (by
     rw [List.all_eq_false]
     refine ⟨l0[i], List.getElem_mem c, ?_⟩
     have : rd l0 (i : Int) = l0[i] := by simp [rd, c]
     rw [← this, HP.out]; simp)
    go_wp2_with fail
    refine HC.out.mono ?_
    rintro e w' ⟨rfl, ⟨nd, rfl⟩⟩
    rw [HP.out]
    go_wp2_with fail
    go_ret
    exact ⟨by rw [HA.out]; rfl, Z0⟩
  have q187 := eq_false (show ¬ (i : Int) < (l0.length : Int) by omega)
  have HA : ae (l0.all p = true) := ae.mk (by
   rw [List.all_eq_true]
   intro x hx
   obtain ⟨j, hj, rfl⟩ := List.getElem_of_mem hx
   have := HI.out.2 j (by have := HI.out.1; omega)
   simpa [rd, hj] using this)
  go_wp2_with fail
  go_ret
  exact ⟨by rw [HA.out]; rfl, Z0⟩
/-! is, and the function that it gives. -/
set_option maxHeartbeats 1000000 in
set_option maxRecDepth 100000 in
theorem tC (k : Int) (w : World) : Calls Try.prog 36 #[.int .i64 k] w fun e w' => ∃ g : Nat, e = .returned (.func (.func 55) #[] #[.pointer (some ⟨g, 0, none⟩)]) ∧ w'.heap[g]? = some (.cells #[.int .i64 k] 3 (0, 0)) ∧ w.heap.size ≤ g ∧ Below w.heap.size w w' := by
 have HB := ae.mk (Below.refl w.heap.size w)
 go_enter Try.func36, Try.ntmps36
 go_wp2_with (first | ((with_reducible refine bI (N := 1) rfl ?_); refine dW ?hg (N := 1) ?hd (cs := #[.int .i64 k]) (t := 3) ?hr ?_; (case hd => rfl); (case hg => rfl); (case hr => first | (go_simp; done) | (go_simp; rfl)); intro gb hg w_ hbox hb; have n0_ := ae.mk (aj Z14 hb); have n1_ := ae.mk (hbox); have n2_ := ae.mk ((by rw [hg]; exact (aG Z14) : w.heap.size ≤ gb)); clear HB; have HB := n0_; have BK := n1_; have GE := n2_; clear n0_ n1_ n2_; clear hb hbox hg))
 go_ret
 exact ⟨gb, rfl, BK.out, GE.out, HB.out⟩
set_option maxHeartbeats 1000000 in
set_option maxRecDepth 100000 in
theorem EQ (c k : Int) (g : Nat) (w : World) (hb : w.heap[g]? = some (.cells #[.int .i64 k] 3 (0, 0))) : Calls Try.prog 55 #[.int .i64 c, .pointer (some ⟨g, 0, none⟩)] w fun e w' => e = .returned (.bool (c == k)) ∧ dQ w w' := by
 have hcz : w.cell? ⟨g, 0, none⟩ = some (.int .i64 k) := (ah hb 0).trans rfl
 have hfz := af hb 0
 have HBK := ae.mk hb
 clear hb
 go_enter Try.func55, Try.ntmps55
 go_wp2_with fail
 go_ret
 exact ⟨rfl, dQ.refl _⟩
theorem JK (k : Int) (g : Nat) (A0 : Option Addr) (c0 : Nat) (l0 : List Int) (w : World) (hr0 : Kd.C (Kd.int .i64) w A0 l0.length l0) (hc0 : l0.length ≤ c0) (hj : w.heap[g]? = some (.cells #[.int .i64 k] 3 (0, 0))) :
 Calls Try.prog 34 #[.slice A0 l0.length c0, .func (.func 55) #[] #[.pointer (some ⟨g, 0, none⟩)]] w fun e w' => e = .returned (.bool (l0.all (· == k))) ∧ dQ w w' :=
 wV 55 #[.pointer (some ⟨g, 0, none⟩)] (· == k) (fun w => w.heap[g]? = some (.cells #[.int .i64 k] 3 (0, 0))) (Lib.hid fun w n h => h) (Lib.hid fun c w h => EQ c k g w h) (fQ Try.func55 (by decide) rfl) A0 c0 l0 w hr0 hc0 hj
def jc (c : Int) : Bool := decide (6 ≤ c ∧ c ≤ 17)
theorem Bq (c : Int) (w : World) : Calls Try.prog 35 #[.int .i64 c] w fun e w' => e = .returned (.bool (jc c)) ∧ dQ w w' := by
 by_cases h : 6 ≤ c
 ·have K : Hid (jc c = decide (c ≤ 17)) := Lib.hid (by unfold jc; simp [h])
  rw [K.out]
  go_enter Try.func35, Try.ntmps35
  go_wp2
  go_ret
  exact ⟨rfl, dQ.refl _⟩
 have K : Hid (jc c = false) := Lib.hid (by unfold jc; simp [h])
 rw [K.out]
 go_enter Try.func35, Try.ntmps35
 go_wp2
 go_ret
 exact ⟨rfl, dQ.refl _⟩
def tY.f (l0 : List Int) : Option Bool := some (l0.all jc)
theorem tY.calls (A0 : Option Addr) (c0 : Nat) (l0 : List Int) (r : Bool) (w : World) (hr0 : Kd.C (Kd.int .i64) w A0 l0.length l0) (hc0 : l0.length ≤ c0) (h : tY.f l0 = some r) :
 Calls Try.prog 34 #[.slice A0 l0.length c0, .func (.func 35) #[] #[]] w fun e w' => e = .returned (.bool r) ∧ dQ w w' := by
 obtain rfl := Option.some.inj h
 exact wV 35 #[] jc (fun _ => True) (Lib.hid fun _ _ _ => trivial) (Lib.hid fun c w _ => Bq c w) (fQ Try.func35 (by decide) rfl) A0 c0 l0 w hr0 hc0 trivial
def kJ (c : Int) : Bool := decide (18 ≤ c ∧ c ≤ 30)
theorem CG (c : Int) (w : World) : Calls Try.prog 26 #[.int .i64 c] w fun e w' => e = .returned (.bool (kJ c)) ∧ dQ w w' := by
 by_cases h : 18 ≤ c
 ·have K : Hid (kJ c = decide (c ≤ 30)) := Lib.hid (by unfold kJ; simp [h])
  rw [K.out]
  go_enter Try.func26, Try.ntmps26
  go_wp2
  go_ret
  exact ⟨rfl, dQ.refl _⟩
 have K : Hid (kJ c = false) := Lib.hid (by unfold kJ; simp [h])
 rw [K.out]
 go_enter Try.func26, Try.ntmps26
 go_wp2
 go_ret
 exact ⟨rfl, dQ.refl _⟩
def qp.f (l0 : List Int) : Option Bool := some (l0.all kJ)
theorem qp.calls (A0 : Option Addr) (c0 : Nat) (l0 : List Int) (r : Bool) (w : World) (hr0 : Kd.C (Kd.int .i64) w A0 l0.length l0) (hc0 : l0.length ≤ c0) (h : qp.f l0 = some r) :
 Calls Try.prog 34 #[.slice A0 l0.length c0, .func (.func 26) #[] #[]] w fun e w' => e = .returned (.bool r) ∧ dQ w w' := by
 obtain rfl := Option.some.inj h
 exact wV 26 #[] kJ (fun _ => True) (Lib.hid fun _ _ _ => trivial) (Lib.hid fun c w _ => CG c w) (fQ Try.func26 (by decide) rfl) A0 c0 l0 w hr0 hc0 trivial
def lm.f (l0 : List Int) (k : Int) : Option Bool := some (l0.all (· == k))
theorem lm.calls {g : Nat} (A0 : Option Addr) (c0 : Nat) (l0 : List Int) (a1 : Int) (r : Bool) (w : World) (hr0 : Kd.C (Kd.int .i64) w A0 l0.length l0) (hc0 : l0.length ≤ c0) (h : lm.f l0 a1 = some r) (hj : w.heap[g]? = some (.cells #[.int .i64 a1] 3 (0, 0))) :
 Calls Try.prog 34 #[.slice A0 l0.length c0, .func (.func 55) #[] #[.pointer (some ⟨g, 0, none⟩)]] w fun e w' => e = .returned (.bool r) ∧ Below w.heap.size w w' := by
 obtain rfl := Option.some.inj h
 refine (JK a1 g A0 c0 l0 w hr0 hc0 hj).mono ?_
 rintro e w' ⟨he, hd⟩
 exact ⟨he, hd.below⟩
/-! A cell that is read behind five stores, some orders having been drawn ahead of them. -/
end Go.Proofs.Ytlenihbmafkegaa
end
section
set_option linter.unusedVariables false
set_option linter.unusedSimpArgs false
namespace Go.Proofs.Ytlenihbmafkegaa
open Go.RowKit
/-- What is left of a text behind its longest beginning of a kind. -/
def iZ (p : Int → Bool) (s : ByteArray) : ByteArray := s.extract (iy p s).size s.size
theorem oh (p : Int → Bool) (s : ByteArray) : (iy p s).size = headLen p s := by
 have := oV p s
 simp [iy]
 omega
theorem qx (p : Int → Bool) (s : ByteArray) : (iZ p s).size = s.size - headLen p s := by
 simp [iZ, oh]
/-- What is left of a text behind blanks and remarks. -/
def uI : Nat → ByteArray → ByteArray
 | 0, s => s
 | f + 1, s =>
  let a := iZ gq s
  if 0 < a.size ∧ byteAt a 0 = 35 then uI f (iZ gV a) else a
def nJ (s : ByteArray) : ByteArray := uI (s.size + 1) s
def mO.f (a0 : ByteArray) : Option ByteArray := some (nJ a0)
theorem ru (a : ByteArray) (h : 0 < a.size) (h2 : byteAt a 0 = 35) : (iZ gV a).size < a.size := by
 rw [qx]
 have : headLen gV a ≠ 0 := by
  intro e
  have := tJ gV a (by omega)
  rw [e, h2] at this
  cases this
 omega
theorem zl {w W w2 : World} (h : Below w.heap.size w W) (k : Below W.heap.size W w2) : Below w.heap.size w w2 := h.trans (k.mono h.size)
theorem toList_some (a : ByteArray) (c : 0 < a.size) : (a.toList == ([] : List UInt8)) = false := by
 apply beq_eq_false_iff_ne.mpr
 rw [ByteArray.toList_eq]
 intro e
 have e2 : a.data.toList.length = 0 := congrArg List.length e
 have e3 : a.data.toList.length = a.size := by cases a; rfl
 omega
theorem zI (a : ByteArray) (c : a.size = 0) : (a.toList == ([] : List UInt8)) = true := by
 apply beq_iff_eq.mpr
 rw [ByteArray.toList_eq]
 apply List.eq_nil_of_length_eq_zero
 rw [← c]
 cases a; rfl
set_option maxRecDepth 100000 in
set_option maxHeartbeats 1000000 in
theorem mO.calls (a0 : ByteArray) (r : ByteArray) (w : World) (h : mO.f a0 = some r) : Calls Try.prog 23 #[.string a0] w fun e w' => e = .returned (.string r) ∧ Below w.heap.size w w' := by
 obtain rfl := Option.some.inj h
 clear h
 go_enter Try.func23, Try.ntmps23
 go_wp2
 go_loopw [0] (fun v w' => ∃ t f, v = .string t ∧ Hid (uI f t = nJ a0) ∧ t.size < f ∧ Below w.heap.size w w') (fun v _ => match v with | .string t => t.size | _ => 0)
 case atStart => exact ⟨a0, a0.size + 1, rfl, Lib.hid rfl, by omega, Below.refl _ w⟩
 case round =>
  obtain ⟨t, f, rfl, HP, hf, hB⟩ := hrel
  have HB := Lib.hid hB
  clear hB
  obtain ⟨f, rfl⟩ : ∃ g, f = g + 1 := ⟨f - 1, by omega⟩
  have hle : (iy gq t).size ≤ t.size := by rw [oh]; exact oV _ _
  have hleB := eq_true (show ((iy gq t).size : Int) ≤ (t.size : Int) by omega)
  have hA : t.extract (iy gq t).size t.size = iZ gq t := rfl
  have hAs : (iZ gq t).size ≤ t.size := by rw [qx]; omega
  have HC := Lib.hid (Ci t)
  have hP : Hid (uI (f + 1) t = (if 0 < (iZ gq t).size ∧ byteAt (iZ gq t) 0 = 35 then uI f (iZ gV (iZ gq t)) else iZ gq t)) := Lib.hid rfl
  generalize iy gq t = h1 at *
  generalize iZ gq t = a at *
  by_cases c : 0 < a.size
  ·have c0 : (a.toList == ([] : List UInt8)) = false := toList_some a c
   have cd : decide (0 < a.size) = true := decide_eq_true c
   have cdi : decide (0 < (a.size : Int)) = true := decide_eq_true (by omega)
   have ct := eq_true c
   have cti := eq_true (show 0 < (a.size : Int) by omega)
   by_cases c2 : byteAt a 0 = 35
   ·have hx : ∀ h : 0 < a.size, ((a[0]'h).toNat : Int) = 35 := fun h => by rw [mY a 0 h, c2]; rfl
    have hle2 : (iy gV a).size ≤ a.size := by rw [oh]; exact oV _ _
    have hle2B := eq_true (show ((iy gV a).size : Int) ≤ (a.size : Int) by omega)
    have hA2 : a.extract (iy gV a).size a.size = iZ gV a := rfl
    have HL := Lib.hid (ru a c c2)
    have HC2 := Lib.hid (Ak a)
    have HP2 : Hid (uI f (iZ gV a) = nJ a0) := Lib.hid (by rw [← HP.out, hP.out, if_pos ⟨c, c2⟩])
    have HF : Hid (a.size ≤ f) := Lib.hid (by omega)
    have HAs := Lib.hid hAs
    clear hP HP c2 hf hAs c
    generalize iy gV a = h2 at *
    generalize iZ gV a = b at *
    go_wp2_with (first | (go_at_call 43; first | ((with_reducible refine (HC.out _).mono ?_); rintro e w8 ⟨rfl, hb⟩; have n0_ := Lib.hid (zl HB.out hb); clear HB; clear hb; have HB := n0_; clear n0_) | ((with_reducible refine (HC2.out _).mono ?_); rintro e w9 ⟨rfl, hb⟩; have n0_ := Lib.hid (zl HB.out hb); clear HB; clear hb; have HB := n0_; clear n0_)))
    go_roundw
    case measure => have h1 := HL.out; have h2 := HAs.out; show b.size < t.size; omega
    case rel => exact ⟨b, f, rfl, HP2, by have h1 := HL.out; have h2 := HF.out; omega, HB.out⟩
   have hx : ∀ h : 0 < a.size, ((a[0]'h).toNat : Int) = byteAt a 0 := fun h => by rw [mY a 0 h]
   have c2b : ((byteAt a 0 : Int) == 35) = false := beq_eq_false_iff_ne.mpr (by omega)
   have c2c : ((byteAt a 0 : Int) != 35) = true := bne_iff_ne.mpr (by omega)
   have HR : Hid (a = nJ a0) := Lib.hid (by rw [← HP.out, hP.out, if_neg (by omega)])
   clear hP HP c2 hf c hAs
   go_wp2_with (first | (go_at_call 43; (with_reducible refine (HC.out _).mono ?_); rintro e w8 ⟨rfl, hb⟩; have n0_ := Lib.hid (zl HB.out hb); clear HB; clear hb; have HB := n0_; clear n0_))
   go_ret
   exact ⟨by rw [← HR.out]; rfl, HB.out⟩
  have c0 : (a.toList == ([] : List UInt8)) = true := zI a (by omega)
  have HR : Hid (a = nJ a0) := Lib.hid (by rw [← HP.out, hP.out, if_neg (by omega)])
  clear hP HP hf c hAs
  go_wp2_with (first | (go_at_call 43; (with_reducible refine (HC.out _).mono ?_); rintro e w8 ⟨rfl, hb⟩; have n0_ := Lib.hid (zl HB.out hb); clear HB; clear hb; have HB := n0_; clear n0_))
  go_ret
  exact ⟨by rw [← HR.out]; rfl, HB.out⟩
/-- A cell of a block of four that was written anew. -/
theorem xY {w : World} {g : Nat} {v : Value} (h : w.cell? ⟨g, 3, none⟩ = some v) (x0 x1 x2 x3 y : Value) :
 (((((w.setCell ⟨g, 0, none⟩ x0).setCell ⟨g, 1, none⟩ x1).setCell ⟨g, 2, none⟩ x2).setCell ⟨g, 3, none⟩ x3).setCell ⟨g, 3, none⟩ y).cell? ⟨g, 3, none⟩ = some y := by
 refine World.cell?_setCell_same _ _ _ (World.cell?_setCell_same (u := v) _ _ _ ?_)
 rw [World.cell?_setCell_other _ _ _ _ (by simp), World.cell?_setCell_other _ _ _ _ (by simp), World.cell?_setCell_other _ _ _ _ (by simp)]
 exact h
end Go.Proofs.Ytlenihbmafkegaa
end
