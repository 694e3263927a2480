/- The walks over the document's answer of this layer: least, Next; no condition. -/
import Derived.Test.YtpicniagafkjaaaKnown
set_option linter.unusedVariables false
set_option linter.unusedSimpArgs false
namespace Go.Proofs.Ytpicniagafkjaaa
open Go.RowKit Go.Proofs.YtpicniagafkjaaaW.PrintWords

def keepP (from_ : Int) (any : Bool) (x : Int) : Bool := any || decide (from_ < x)
def leastOf (l : List Int) (from_ : Int) (any : Bool) : Option Int := foldBest (l.filter (keepP from_ any))

theorem leastOf_snoc (l : List Int) (from_ : Int) (any : Bool) (k : Nat) (h : k < l.length) :
    leastOf (l.take (k + 1)) from_ any = if keepP from_ any (l.getD k 0) = true then some (bst (leastOf (l.take k) from_ any) (l.getD k 0)) else leastOf (l.take k) from_ any := by
  unfold leastOf
  rw [take_succ_getD l k h, List.filter_append]
  by_cases c : keepP from_ any (l.getD k 0) = true
  · rw [if_pos c, List.filter_cons_of_pos c, List.filter_nil, foldBest_snoc]
  · rw [if_neg c, List.filter_cons_of_neg c, List.filter_nil, List.append_nil]

set_option maxHeartbeats 1000000 in
set_option maxRecDepth 100000 in
theorem least_any (A : Option Addr) (cap : Nat) (l : List Int) (from_ : Int) (any : Bool) (w : World) (hr : ReadsInt w .i64 A l.length l) :
    Calls Try.prog 16 #[.slice A l.length cap, .int .i64 from_, .bool any] w fun e w' =>
      e = .returned (.tuple #[.int .i64 ((leastOf l from_ any).getD 0), .bool (leastOf l from_ any).isSome]) ∧ w = w' := by
  have hm := hr.2.1
  go_enter Try.func16, Try.ntmps16
  go_wp2
  go_loop [8, 9, 10] (fun n m i => ∃ k : Nat, k ≤ l.length ∧ i = .int .i64 k ∧ n = .int .i64 ((leastOf (l.take k) from_ any).getD 0) ∧ m = .bool (leastOf (l.take k) from_ any).isSome) (fun _ _ i => l.length - (intOf i).toNat)
  case atStart => exact ⟨0, Nat.zero_le _, rfl, rfl, rfl⟩
  case round =>
    obtain ⟨k, hk, rfl, rfl, rfl⟩ := hrel
    by_cases hlt : k < l.length
    · obtain ⟨ad, hA, hc0⟩ := hr.2.2 (by omega)
      subst hA
      have hc := hc0 k hlt
      have hstep := leastOf_snoc l from_ any k hlt
      generalize l.getD k 0 = x at hc hstep
      clear hc0
      by_cases hp : keepP from_ any x = true
      · rw [if_pos hp] at hstep
        have HS := Lib.hid hstep
        clear hstep
        have hq : any = true ∨ (any = false ∧ from_ < x) := by
          unfold keepP at hp
          cases any
          · simp at hp; exact .inr ⟨rfl, hp⟩
          · exact .inl rfl
        clear hp
        rcases hq with rfl | ⟨rfl, hq⟩
        all_goals
          cases ho : leastOf (l.take k) from_ _ with
          | none =>
            rw [ho] at HS
            clear ho
            go_wp2
            go_round
            case rel => exact ⟨k + 1, by omega, by go_num, by rw [HS.out]; rfl, by rw [HS.out]; rfl⟩
            case measure => simp [intOf]; omega
          | some y =>
            rw [ho] at HS
            clear ho
            by_cases cy : x < y
            · have e : bst (some y) x = x := by simp [bst, cy]
              rw [e] at HS
              clear e
              go_wp2
              go_round
              case rel => exact ⟨k + 1, by omega, by go_num, by rw [HS.out]; rfl, by rw [HS.out]; rfl⟩
              case measure => simp [intOf]; omega
            · have e : bst (some y) x = y := by simp [bst, cy]
              rw [e] at HS
              clear e
              go_wp2
              go_round
              case rel => exact ⟨k + 1, by omega, by go_num, by rw [HS.out], by rw [HS.out]⟩
              case measure => simp [intOf]; omega
      · rw [if_neg hp] at hstep
        have HS := Lib.hid hstep
        clear hstep
        have hq : any = false ∧ ¬ from_ < x := by
          unfold keepP at hp
          cases any
          · simp at hp; exact ⟨rfl, by omega⟩
          · simp at hp
        clear hp
        obtain ⟨rfl, hq⟩ := hq
        go_wp2
        go_round
        case rel => exact ⟨k + 1, by omega, by go_num, by rw [HS.out], by rw [HS.out]⟩
        case measure => simp [intOf]; omega
    · have e : l.take k = l := List.take_of_length_le (by omega)
      rw [e]
      clear e
      go_wp2
      go_ret2
      exact ⟨rfl, rfl⟩

/-- The document's Turns in memory: who was taken last, if anybody was. -/
def RW (w : World) (g : Nat) (n : Int) (h : Bool) : Prop := w.heap[g]? = some (.cells #[.int .i64 n, .bool h] 36 (0, 0))
theorem RW.lt {w : World} {g : Nat} {n : Int} {h : Bool} (t : RW w g n h) : g < w.heap.size := (Array.getElem?_eq_some_iff.1 t).1
theorem RW.c0 {w : World} {g : Nat} {n : Int} {h : Bool} (t : RW w g n h) : w.cell? ⟨g, 0, none⟩ = some (.int .i64 n) := by
  unfold RW at t; simp [World.cell?, t]
theorem RW.c1 {w : World} {g : Nat} {n : Int} {h : Bool} (t : RW w g n h) : w.cell? ⟨g, 1, none⟩ = some (.bool h) := by
  unfold RW at t; simp [World.cell?, t]
theorem RW.fz {w : World} {g : Nat} {n : Int} {h : Bool} (t : RW w g n h) (o : Nat) : w.frozen? ⟨g, o, none⟩ = false := by
  unfold RW at t; simp [World.frozen?, t]
theorem RW.kept {w w' : World} {g : Nat} {n : Int} {h : Bool} (t : RW w g n h) {row : Option Nat} (hg : w.grownBy w' row) (hne : some g ≠ row) : RW w' g n h :=
  (hg.block g t.lt hne).trans t
theorem RW.take {w : World} {g : Nat} {n : Int} {h : Bool} (t : RW w g n h) (m : Int) :
    RW ((w.setCell ⟨g, 0, none⟩ (.int .i64 m)).setCell ⟨g, 1, none⟩ (.bool true)) g m true := by
  unfold RW at *
  simp only [World.setCell, Array.getElem?_modify, if_true, t, Option.map_some]
  rfl
theorem RW.drewN {w : World} {g : Nat} {n : Int} {h : Bool} (t : RW w g n h) (k : Nat) : RW (w.drewN k) g n h := t
theorem TW.drewN {w : World} {g : Nat} {m h : Bool} {l : Int} (t : TW w g m h l) (k : Nat) : TW (w.drewN k) g m h l := t
theorem grownBy_drewN (w : World) (k : Nat) (row : Option Nat) : w.grownBy (w.drewN k) row := ⟨rfl, rfl, rfl, Nat.le_refl _, fun _ _ _ => rfl⟩

theorem leastOf_all (l : List Int) (f : Int) : leastOf l f true = foldBest l := by
  unfold leastOf
  rw [List.filter_eq_self.2 (fun x _ => by simp [keepP])]
theorem leastOf_some (l : List Int) (f : Int) : leastOf l f false = foldBest (aboveOf true f l) := by
  unfold leastOf aboveOf
  congr 2
/-- What the two tries come to. -/
theorem nextOf_least (l : List Int) (has : Bool) (n : Int) : nextOf has n l = match leastOf l n (!has) with | some x => some x | none => leastOf l 0 true := by
  cases has with
  | true => simp only [Bool.not_true]; rw [leastOf_some, leastOf_all]; rfl
  | false =>
    simp only [Bool.not_false]
    rw [leastOf_all, leastOf_all]
    unfold nextOf
    have : aboveOf false n l = [] := by unfold aboveOf; simp
    rw [this, foldBest_nil]
    cases foldBest l <;> rfl

/-- What the document's Next leaves. -/
def RPost (w : World) (g : Nat) (n : Int) (has : Bool) (l : List Int) (e : Ending) (w' : World) : Prop :=
  w.grownBy w' (some g) ∧
  match nextOf has n l with
  | some x => e = .returned (.tuple #[.int .i64 x, .bool true]) ∧ RW w' g x true
  | none => e = .returned (.tuple #[.int .i64 0, .bool false]) ∧ RW w' g n has

set_option maxHeartbeats 1000000 in
set_option maxRecDepth 100000 in
theorem rnext_any (g : Nat) (n : Int) (has : Bool) (A : Option Addr) (cap : Nat) (l : List Int) (w : World) (hw : RW w g n has) (hr : ReadsInt w .i64 A l.length l) :
    Calls Try.prog 12 #[.pointer (some ⟨g, 0, none⟩), .slice A l.length cap] w (RPost w g n has l) := by
  have hn := nextOf_least l has n
  have h0 := hw.c0
  have h1 := hw.c1
  have f0 := hw.fz 0
  have f1 := hw.fz 1
  go_enter Try.func12, Try.ntmps12
  cases h1st : leastOf l n (!has) with
  | some x =>
    rw [h1st] at hn
    have HN : Hid (nextOf has n l = some x) := Lib.hid hn
    have H1 := Lib.hid h1st
    clear hn h1st
    have LQ : Hid (∀ m, Calls Try.prog 16 #[.slice A l.length cap, .int .i64 n, .bool (!has)] (w.drewN m) fun e w' => e = .returned (.tuple #[.int .i64 x, .bool true]) ∧ w' = w.drewN m) := Lib.hid fun m =>
      (least_any A cap l n (!has) _ (hr.drewN m)).mono fun e w' ⟨he, hw⟩ => ⟨by rw [he, H1.out]; rfl, hw.symm⟩
    go_wp2_with fail
    go_quiet ((go_at_call 16; exact Calls.quiet_of_same (LQ.out _)))
    go_wp2_with fail
    go_ret2
    refine ⟨((grownBy_drewN w _ _).trans (grown_setCell _ ⟨g, 0, none⟩ _)).trans (grown_setCell _ ⟨g, 1, none⟩ _), ?_⟩
    rw [HN.out]
    exact ⟨rfl, (hw.drewN _).take x⟩
  | none =>
    rw [h1st] at hn
    have H1 := Lib.hid h1st
    clear h1st
    have LQ : Hid (∀ m, Calls Try.prog 16 #[.slice A l.length cap, .int .i64 n, .bool (!has)] (w.drewN m) fun e w' => e = .returned (.tuple #[.int .i64 0, .bool false]) ∧ w' = w.drewN m) := Lib.hid fun m =>
      (least_any A cap l n (!has) _ (hr.drewN m)).mono fun e w' ⟨he, hw⟩ => ⟨by rw [he, H1.out]; rfl, hw.symm⟩
    cases h2nd : leastOf l 0 true with
    | some x =>
      rw [h2nd] at hn
      have HN : Hid (nextOf has n l = some x) := Lib.hid hn
      have H2 := Lib.hid h2nd
      clear hn h2nd
      go_wp2_with fail
      go_quiet ((go_at_call 16; exact Calls.quiet_of_same (LQ.out _)))
      go_wp2_with fail
      refine (least_any A cap l 0 true _ (hr.drewN _)).mono ?_
      rintro e w' ⟨rfl, rfl⟩
      rw [H2.out]
      go_wp2_with fail
      go_ret2
      refine ⟨((grownBy_drewN w _ _).trans (grown_setCell _ ⟨g, 0, none⟩ _)).trans (grown_setCell _ ⟨g, 1, none⟩ _), ?_⟩
      rw [HN.out]
      exact ⟨rfl, (hw.drewN _).take x⟩
    | none =>
      rw [h2nd] at hn
      have HN : Hid (nextOf has n l = none) := Lib.hid hn
      have H2 := Lib.hid h2nd
      clear hn h2nd
      go_wp2_with fail
      go_quiet ((go_at_call 16; exact Calls.quiet_of_same (LQ.out _)))
      go_wp2_with fail
      refine (least_any A cap l 0 true _ (hr.drewN _)).mono ?_
      rintro e w' ⟨rfl, rfl⟩
      rw [H2.out]
      go_wp2_with fail
      go_ret2
      refine ⟨grownBy_drewN w _ _, ?_⟩
      rw [HN.out]
      exact ⟨rfl, hw.drewN _⟩
end Go.Proofs.Ytpicniagafkjaaa
