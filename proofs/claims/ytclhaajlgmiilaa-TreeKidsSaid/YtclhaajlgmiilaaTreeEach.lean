/- The walks over tree.each at a function value of which a contract is known, and over tree.is and what it gives; for every list of kinds. -/
import Derived.Test.YtclhaajlgmiilaaHd
import Derived.Test.YtclhaajlgmiilaaHead
import Derived.Lib.Hide
import Derived.LoopTactic
set_option linter.unusedVariables false
set_option linter.unusedSimpArgs false
namespace Go.Proofs.Ytclhaajlgmiilaa
open Go.RowKit Go.Proofs.YtclhaajlgmiilaaW.PrintWords Go.Proofs.YtclhaajlgmiilaaW.PrintLast Go.Proofs.YtclhaajlgmiilaaW.PrintMore

set_option maxHeartbeats 2000000 in
set_option maxRecDepth 100000 in
theorem each_gen (f : Nat) (cap : Array Value) (p : Int → Bool) (J : World → Prop) (hJ : Hid (∀ w n, J w → J (w.drewN n)))
    (hcall : Hid (∀ (c : Int) (w : World), J w → Calls Try.prog f (#[.int .i64 c] ++ cap) w fun e w' => e = .returned (.bool (p c)) ∧ Drawn0 w w'))
    (hcf : ∀ (args : Array Value) (w : World), (callFunc f args).run Try.prog w = .ok (.enter f args) w)
    (A0 : Option Addr) (c0 : Nat) (l0 : List Int) (w : World) (hr0 : Kd.C (Kd.int .i64) w A0 l0.length l0) (hc0 : l0.length ≤ c0) (hj : J w) :
    Calls Try.prog 38 #[.slice A0 l0.length c0, .func (.func f) #[] cap] w fun e w' => e = .returned (.bool (l0.all p)) ∧ Drawn0 w w' := by
  have HR0 := Aside0.mk hr0
  have HC0 := Aside0.mk hc0
  have HJ := Aside0.mk hj
  clear hr0 hc0 hj
  go_enter Try.func38, Try.ntmps38
  go_wp2
  go_loopw [9] (fun v9 w' => ∃ i : Nat, v9 = .int .i64 (i : Int) ∧ Hid (i ≤ l0.length ∧ ∀ j, j < i → p (rd l0 (j : Int)) = true) ∧ Drawn0 w w') (fun v9 _ => match v9 with | .int _ x => l0.length - x.toNat | _ => 0)
  case atStart => exact ⟨0, rfl, Lib.hid ⟨Nat.zero_le _, fun j h => by omega⟩, Drawn0.refl _⟩
  case round =>
    obtain ⟨i, rfl, HI, ⟨m1, rfl⟩⟩ := hrel
    by_cases c : i < l0.length
    · have p187 : (0 : Int) ≤ (i : Int) := by omega
      have q187 : (i : Int) < (l0.length : Int) := by omega
      obtain ⟨ad187, e187, hx187_0⟩ := Kd.at_int HR0.out (i : Int) p187 q187
      cases e187
      rw [Int.toNat_natCast] at hx187_0
      replace p187 := eq_true p187
      replace q187 := eq_true q187
      have HC := Aside0.mk (hcall.out (rd l0 (i : Int)) (w.drewN m1) (hJ.out _ _ HJ.out))
      have hi' : wrap64 ((i : Int) + 1) = ((i + 1 : Nat) : Int) ∨ True := .inr trivial
      cases hp : p (rd l0 (i : Int)) with
      | true =>
        have HP := Aside0.mk hp
        clear hp hi'
        go_wp2_with fail
        refine HC.out.mono ?_
        rintro e w' ⟨rfl, ⟨nd, rfl⟩⟩
        rw [HP.out]
        go_wp2_with fail
        go_roundw
        case rel =>
          have hb : l0.length ≤ 9223372036854775807 := HR0.out.2.1
          have hw : wrap64 ((i : Int) + 1) = ((i + 1 : Nat) : Int) := by unfold wrap64; omega
          refine ⟨i + 1, by rw [hw], Lib.hid ⟨c, fun j hj => ?_⟩, by repeat (first | exact Drawn0.refl _ | apply Drawn0.step)⟩
          rcases Nat.lt_succ_iff_lt_or_eq.1 hj with h | rfl
          · exact HI.out.2 j h
          · exact HP.out
        case measure =>
          have hb : l0.length ≤ 9223372036854775807 := HR0.out.2.1
          have hw : wrap64 ((i : Int) + 1) = ((i + 1 : Nat) : Int) := by unfold wrap64; omega
          rw [hw]; simp only [Int.toNat_natCast]; omega
      | false =>
        have HP := Aside0.mk hp
        clear hp hi'
        have HA : Aside0 (l0.all p = false) := Aside0.mk (by
          rw [List.all_eq_false]
          refine ⟨l0[i], List.getElem_mem c, ?_⟩
          have : rd l0 (i : Int) = l0[i] := by simp [rd, c]
          rw [← this, HP.out]; simp)
        go_wp2_with fail
        refine HC.out.mono ?_
        rintro e w' ⟨rfl, ⟨nd, rfl⟩⟩
        rw [HP.out]
        go_wp2_with fail
        go_ret
        exact ⟨by rw [HA.out]; rfl, by repeat (first | exact Drawn0.refl _ | apply Drawn0.step)⟩
    · have q187 := eq_false (show ¬ (i : Int) < (l0.length : Int) by omega)
      have HA : Aside0 (l0.all p = true) := Aside0.mk (by
        rw [List.all_eq_true]
        intro x hx
        obtain ⟨j, hj, rfl⟩ := List.getElem_of_mem hx
        have := HI.out.2 j (by have := HI.out.1; omega)
        simpa [rd, hj] using this)
      go_wp2_with fail
      go_ret
      exact ⟨by rw [HA.out]; rfl, by repeat (first | exact Drawn0.refl _ | apply Drawn0.step)⟩

/-! is, and the function that it gives. -/
set_option maxHeartbeats 1000000 in
set_option maxRecDepth 100000 in
theorem is_calls (k : Int) (w : World) : Calls Try.prog 39 #[.int .i64 k] w fun e w' => ∃ g : Nat, e = .returned (.func (.func 49) #[] #[.pointer (some ⟨g, 0, none⟩)]) ∧ w'.heap[g]? = some (.cells #[.int .i64 k] 3 (0, 0)) ∧ w.heap.size ≤ g ∧ Below w.heap.size w w' := by
  have HB := Aside0.mk (Below.refl w.heap.size w)
  go_enter Try.func39, Try.ntmps39
  go_wp2_with (first | ((with_reducible refine gate_dst (N := 1) rfl ?_); refine box_event ?hg (N := 1) ?hd (cs := #[.int .i64 k]) (t := 3) ?hr ?_; (case hd => rfl); (case hg => rfl); (case hr => first | (go_simp; done) | (go_simp; rfl)); intro gb hg w_ hbox hb; have n0_ := Aside0.mk (below_step (by repeat (first | (with_reducible first | exact HB.out | apply below_alloc | apply pw_below_drewN | apply below_drew1) | exact HB.out)) hb); have n1_ := Aside0.mk (hbox); have n2_ := Aside0.mk ((by rw [hg]; exact (below_size (by repeat (first | (with_reducible first | exact HB.out | apply below_alloc | apply pw_below_drewN | apply below_drew1) | exact HB.out))) : w.heap.size ≤ gb)); clear HB; have HB := n0_; have BK := n1_; have GE := n2_; clear n0_ n1_ n2_; clear hb hbox hg))
  go_ret
  exact ⟨gb, rfl, BK.out, GE.out, HB.out⟩
set_option maxHeartbeats 1000000 in
set_option maxRecDepth 100000 in
theorem is1_calls (c k : Int) (g : Nat) (w : World) (hb : w.heap[g]? = some (.cells #[.int .i64 k] 3 (0, 0))) : Calls Try.prog 49 #[.int .i64 c, .pointer (some ⟨g, 0, none⟩)] w fun e w' => e = .returned (.bool (c == k)) ∧ Drawn0 w w' := by
  have hcz : w.cell? ⟨g, 0, none⟩ = some (.int .i64 k) := (blk_cell hb 0).trans rfl
  have hfz := blk_frozen hb 0
  have HBK := Aside0.mk hb
  clear hb
  go_enter Try.func49, Try.ntmps49
  go_wp2_with fail
  go_ret
  exact ⟨rfl, Drawn0.refl _⟩
theorem each_is (k : Int) (g : Nat) (A0 : Option Addr) (c0 : Nat) (l0 : List Int) (w : World) (hr0 : Kd.C (Kd.int .i64) w A0 l0.length l0) (hc0 : l0.length ≤ c0) (hj : w.heap[g]? = some (.cells #[.int .i64 k] 3 (0, 0))) :
    Calls Try.prog 38 #[.slice A0 l0.length c0, .func (.func 49) #[] #[.pointer (some ⟨g, 0, none⟩)]] w fun e w' => e = .returned (.bool (l0.all (· == k))) ∧ Drawn0 w w' :=
  each_gen 49 #[.pointer (some ⟨g, 0, none⟩)] (· == k) (fun w => w.heap[g]? = some (.cells #[.int .i64 k] 3 (0, 0))) (Lib.hid fun w n h => h) (Lib.hid fun c w h => is1_calls c k g w h) (callFunc_enter Try.func49 (by decide) rfl) A0 c0 l0 w hr0 hc0 hj

def stmtP (c : Int) : Bool := decide (6 ≤ c ∧ c ≤ 17)
theorem stmt_calls (c : Int) (w : World) : Calls Try.prog 25 #[.int .i64 c] w fun e w' => e = .returned (.bool (stmtP c)) ∧ Drawn0 w w' := by
  by_cases h : 6 ≤ c
  · have K : Hid (stmtP c = decide (c ≤ 17)) := Lib.hid (by unfold stmtP; simp [h])
    rw [K.out]
    go_enter Try.func25, Try.ntmps25
    go_wp2
    go_ret
    exact ⟨rfl, Drawn0.refl _⟩
  · have K : Hid (stmtP c = false) := Lib.hid (by unfold stmtP; simp [h])
    rw [K.out]
    go_enter Try.func25, Try.ntmps25
    go_wp2
    go_ret
    exact ⟨rfl, Drawn0.refl _⟩
def eachStmt.f (l0 : List Int) : Option Bool := some (l0.all stmtP)
theorem eachStmt.calls (A0 : Option Addr) (c0 : Nat) (l0 : List Int) (r : Bool) (w : World) (hr0 : Kd.C (Kd.int .i64) w A0 l0.length l0) (hc0 : l0.length ≤ c0) (h : eachStmt.f l0 = some r) :
    Calls Try.prog 38 #[.slice A0 l0.length c0, .func (.func 25) #[] #[]] w fun e w' => e = .returned (.bool r) ∧ Drawn0 w w' := by
  obtain rfl := Option.some.inj h
  exact each_gen 25 #[] stmtP (fun _ => True) (Lib.hid fun _ _ _ => trivial) (Lib.hid fun c w _ => stmt_calls c w) (callFunc_enter Try.func25 (by decide) rfl) A0 c0 l0 w hr0 hc0 trivial

def exprP (c : Int) : Bool := decide (18 ≤ c ∧ c ≤ 30)
theorem expr_calls (c : Int) (w : World) : Calls Try.prog 23 #[.int .i64 c] w fun e w' => e = .returned (.bool (exprP c)) ∧ Drawn0 w w' := by
  by_cases h : 18 ≤ c
  · have K : Hid (exprP c = decide (c ≤ 30)) := Lib.hid (by unfold exprP; simp [h])
    rw [K.out]
    go_enter Try.func23, Try.ntmps23
    go_wp2
    go_ret
    exact ⟨rfl, Drawn0.refl _⟩
  · have K : Hid (exprP c = false) := Lib.hid (by unfold exprP; simp [h])
    rw [K.out]
    go_enter Try.func23, Try.ntmps23
    go_wp2
    go_ret
    exact ⟨rfl, Drawn0.refl _⟩
def eachExpr.f (l0 : List Int) : Option Bool := some (l0.all exprP)
theorem eachExpr.calls (A0 : Option Addr) (c0 : Nat) (l0 : List Int) (r : Bool) (w : World) (hr0 : Kd.C (Kd.int .i64) w A0 l0.length l0) (hc0 : l0.length ≤ c0) (h : eachExpr.f l0 = some r) :
    Calls Try.prog 38 #[.slice A0 l0.length c0, .func (.func 23) #[] #[]] w fun e w' => e = .returned (.bool r) ∧ Drawn0 w w' := by
  obtain rfl := Option.some.inj h
  exact each_gen 23 #[] exprP (fun _ => True) (Lib.hid fun _ _ _ => trivial) (Lib.hid fun c w _ => expr_calls c w) (callFunc_enter Try.func23 (by decide) rfl) A0 c0 l0 w hr0 hc0 trivial

def eachIs.f (l0 : List Int) (k : Int) : Option Bool := some (l0.all (· == k))
theorem eachIs.calls {g : Nat} (A0 : Option Addr) (c0 : Nat) (l0 : List Int) (a1 : Int) (r : Bool) (w : World) (hr0 : Kd.C (Kd.int .i64) w A0 l0.length l0) (hc0 : l0.length ≤ c0) (h : eachIs.f l0 a1 = some r) (hj : w.heap[g]? = some (.cells #[.int .i64 a1] 3 (0, 0))) :
    Calls Try.prog 38 #[.slice A0 l0.length c0, .func (.func 49) #[] #[.pointer (some ⟨g, 0, none⟩)]] w fun e w' => e = .returned (.bool r) ∧ Below w.heap.size w w' := by
  obtain rfl := Option.some.inj h
  refine (each_is a1 g A0 c0 l0 w hr0 hc0 hj).mono ?_
  rintro e w' ⟨he, hd⟩
  exact ⟨he, hd.below⟩

/-! A cell that is read behind five stores, some orders having been drawn ahead of them. -/
theorem dwS (w : World) (n : Nat) (p : Addr) (v : Value) : (w.drewN n).setCell p v = (w.setCell p v).drewN n := rfl
theorem dw5 {w : World} {n : Nat} {p0 p1 p2 p3 p4 a : Addr} {v0 v1 v2 v3 v4 x : Value} (h : (((((w.setCell p0 v0).setCell p1 v1).setCell p2 v2).setCell p3 v3).setCell p4 v4).cell? a = some x) :
    ((((((w.drewN n).setCell p0 v0).setCell p1 v1).setCell p2 v2).setCell p3 v3).setCell p4 v4).cell? a = some x := by
  rw [dwS, dwS, dwS, dwS, dwS, World.cell?_drewN]
  exact h
end Go.Proofs.Ytclhaajlgmiilaa
