/- The walk over turns.Next, for every object that New made and whatever is ready. -/
import Derived.Test.YtpicniagafkjaaaBest
import Derived.Test.YtpicniagafkjaaaSmall
import Derived.Test.YtpicniagafkjaaaPure
import Derived.Test.YtpicniagafkjaaaWWords
import Derived.Lib.Hide
import Derived.Deep.LoopGhost
import Derived.Outline
set_option linter.unusedVariables false
set_option linter.unusedSimpArgs false
namespace Go.Proofs.Ytpicniagafkjaaa
open Go.RowKit Go.Conc Go.Proofs.YtpicniagafkjaaaW.PrintWords

theorem bytes3 : ∃ i, Try.prog.info? 3 = some i ∧ i.bytes = 8 := by
  have h : (Try.prog.info? 3).map (·.bytes) = some 8 := by kernel_rfl
  obtain ⟨i, hi, hb⟩ := Option.map_eq_some_iff.1 h
  exact ⟨i, hi, hb⟩
theorem mk1 (w : World) : (Instr.makeChan 42 (.int .i64 1)).run Try.prog w = .ok (.chan (some w.heap.size)) (w.alloc (.chan 1 #[] false 0 0 false)) := by
  obtain ⟨i, hi, hb⟩ := bytes3
  simpa using run_makeChan (P := Try.prog) (w := w) Try.underlying42 hi .i64 1 (by omega) (by rw [hb]; omega)

def sndSeq : Code → Code | .seq _ b => b | c => c
def fstSeq : Code → Code | .seq a _ => a | c => c
/-- What follows the channels' making: taken out of the loaded function, not typed. -/
noncomputable def restCode : Code := sndSeq (sndSeq (sndSeq (Try.f9.body.getD .skip)))
noncomputable def loopCode : Code := fstSeq restCode

/-- What holds behind the loop. -/
def LoopEnd (has : Bool) (last : Int) (l : List Int) (ca ct : Nat) (w0 w' : World) : Prop :=
  ChanIs w' ca (foldBest (aboveOf has last l)) ∧ ChanIs w' ct (foldBest l) ∧ Below w0.heap.size w0 w'

def LoopRel (has : Bool) (last : Int) (l : List Int) (ca ct : Nat) (w0 : World) (i : Value) (wr : World) : Prop :=
  ∃ k : Nat, k ≤ l.length ∧ i = .int .i64 k ∧ LoopEnd has last (l.take k) ca ct w0 wr

theorem rel_step_yes {has : Bool} {last : Int} {l : List Int} {ca ct : Nat} {w0 w1 w2 w3 : World} {k : Nat} (hk : k < l.length) (hne : ca ≠ ct) (ha : w0.heap.size ≤ ca) (hb : w0.heap.size ≤ ct)
    (h : LoopEnd has last (l.take k) ca ct w0 w1) (hp : (has && decide (last < l.getD k 0)) = true)
    (h2 : ChanIs w2 ct (some (bst (foldBest (l.take k)) (l.getD k 0))) ∧ w1.grownBy w2 (some ct))
    (h3 : ChanIs w3 ca (some (bst (foldBest (aboveOf has last (l.take k))) (l.getD k 0))) ∧ w2.grownBy w3 (some ca)) : LoopEnd has last (l.take (k + 1)) ca ct w0 w3 := by
  rw [take_succ_getD l k hk]
  obtain ⟨e1, e2, e3⟩ := h
  obtain ⟨f1, f2⟩ := h2
  obtain ⟨g1, g2⟩ := h3
  unfold LoopEnd
  rw [foldBest_snoc, aboveOf_snoc, if_pos hp, foldBest_snoc]
  refine ⟨g1, ?_, ?_⟩
  · obtain ⟨s, r, f1⟩ := f1
    exact ⟨s, r, (g2.block ct (Array.getElem?_eq_some_iff.1 f1).1 (by intro e; exact hne (Option.some.inj e).symm)).trans f1⟩
  · exact (e3.grown f2 e3.size (fun k e => by cases e; exact hb)).grown g2 (Nat.le_trans e3.size f2.size) (fun k e => by cases e; exact ha)

theorem rel_step_no {has : Bool} {last : Int} {l : List Int} {ca ct : Nat} {w0 w1 w2 : World} {k : Nat} (hk : k < l.length) (hne : ca ≠ ct) (hb : w0.heap.size ≤ ct)
    (h : LoopEnd has last (l.take k) ca ct w0 w1) (hp : (has && decide (last < l.getD k 0)) = false)
    (h2 : ChanIs w2 ct (some (bst (foldBest (l.take k)) (l.getD k 0))) ∧ w1.grownBy w2 (some ct)) : LoopEnd has last (l.take (k + 1)) ca ct w0 w2 := by
  rw [take_succ_getD l k hk]
  obtain ⟨e1, e2, e3⟩ := h
  obtain ⟨f1, f2⟩ := h2
  unfold LoopEnd
  rw [foldBest_snoc, aboveOf_snoc, if_neg (by rw [hp]; simp)]
  refine ⟨?_, f1, ?_⟩
  · obtain ⟨s, r, e1⟩ := e1
    exact ⟨s, r, (f2.block ca (Array.getElem?_eq_some_iff.1 e1).1 (by intro e; exact hne (Option.some.inj e))).trans e1⟩
  · exact e3.grown f2 e3.size (fun k e => by cases e; exact hb)

set_option maxHeartbeats 400000 in
set_option maxRecDepth 100000 in
theorem loop_any (g : Nat) (has : Bool) (last : Int) (A : Option Addr) (cap : Nat) (l : List Int) (w0 w : World) (ht : TW w0 g true has last) (hr : ReadsInt w0 .i64 A l.length l)
    (ca ct : Nat) (hne : ca ≠ ct) (ha : w0.heap.size ≤ ca) (hb : w0.heap.size ≤ ct) (hl : LoopEnd has last [] ca ct w0 w) (Q : Exit → Act → World → Prop) (j2 j3 j4 j5 j8 j9 j10 j11 j12 j13 j14 j15 j16 : Value)
    (j17 j18 j19 j20 j21 j22 j23 j24 j25 j26 j27 j28 j29 j30 j31 j32 j33 j34 j35 j36 j37 j38 j39 j40 j41 j42 j43 j44 j45 j46 j47 j48 j49 j50 j51 j52 j53 j54 j55 j56 j57 j58 j59 : Value)
    (hQ : ∀ w', LoopEnd has last l ca ct w0 w' → ∀ k9 k17 k18 k19 k20 k21 k22 k23 k24 k25 k26 k27 k28 k29 k30 k31 k32 k33 k34 k35 k36 k37 k38 k39 k40 k41, Q .normal ⟨#[.pointer (some ⟨g, 0, none⟩), .slice A l.length cap, j2, j3, j4, j5, .chan (some ca), .chan (some ct), j8, k9, j10, j11, j12, j13, j14, j15, j16,
      k17, k18, k19, k20, k21, k22, k23, k24, k25, k26, k27, k28, k29, k30, k31, k32, k33, k34, k35, k36, k37, k38, k39, k40, k41, j42, j43, j44, j45, j46, j47, j48, j49, j50, j51, j52, j53, j54, j55, j56, j57, j58, j59], []⟩ w') :
    loopCode.wp Try.prog Q ⟨#[.pointer (some ⟨g, 0, none⟩), .slice A l.length cap, j2, j3, j4, j5, .chan (some ca), .chan (some ct), j8, j9, j10, j11, j12, j13, j14, j15, j16,
      j17, j18, j19, j20, j21, j22, j23, j24, j25, j26, j27, j28, j29, j30, j31, j32, j33, j34, j35, j36, j37, j38, j39, j40, j41, j42, j43, j44, j45, j46, j47, j48, j49, j50, j51, j52, j53, j54, j55, j56, j57, j58, j59], []⟩ w := by
  conv => arg 2; whnf
  have hm := hr.2.1
  go_wp2
  go_loopw [19] (fun i wr => LoopRel has last l ca ct w0 i wr) (fun i _ => l.length - (intOf i).toNat)
  case atStart => exact ⟨0, Nat.zero_le _, rfl, by simpa using hl⟩
  case round =>
    obtain ⟨k, hk, rfl, hrel⟩ := hrel
    by_cases hlt : k < l.length
    · obtain ⟨ad, hA, hc0⟩ := hr.2.2 (by omega)
      subst hA
      obtain ⟨x, hx⟩ : ∃ x, l.getD k 0 = x := ⟨_, rfl⟩
      have hc := pw_cell_below hrel.2.2 (hc0 k hlt)
      rw [hx] at hc
      have HX := Lib.hid hx
      clear hx
      have h0 := pw_cell_below hrel.2.2 ht.c0
      have h1 := pw_cell_below hrel.2.2 ht.c1
      have h2 := pw_cell_below hrel.2.2 ht.c2
      have lg := ht.lt
      have lw := hrel.2.2.size
      have hca := hrel.1
      have hct := hrel.2.1
      by_cases hp : (has && decide (last < x)) = true
      · obtain ⟨hp1, hp2⟩ := Bool.and_eq_true_iff.1 hp
        have hp2 := of_decide_eq_true hp2
        have HP := Lib.hid hp
        subst hp1
        clear hp
        go_wp2_with fail
        refine (best_any ct x _ _ hct).mono ?_
        rintro e w1 ⟨rfl, f1, f2⟩
        have h1 := (f2.cell_far ⟨g, 1, none⟩ (by show g < _; omega) (by intro e; have := Option.some.inj e; simp at this; omega)).trans h1
        have h2 := (f2.cell_far ⟨g, 2, none⟩ (by show g < _; omega) (by intro e; have := Option.some.inj e; simp at this; omega)).trans h2
        have hca' : ChanIs w1 ca (foldBest (aboveOf true last (List.take k l))) := by
          obtain ⟨s, r, hca⟩ := hca
          exact ⟨s, r, (f2.block ca (Array.getElem?_eq_some_iff.1 hca).1 (by intro e; exact hne (Option.some.inj e))).trans hca⟩
        go_wp2_with fail
        refine (best_any ca x _ _ hca').mono ?_
        rintro e w2 ⟨rfl, g1, g2⟩
        go_wp2_with fail
        go_roundw
        case rel => exact ⟨k + 1, by omega, by go_num, rel_step_yes hlt hne ha hb hrel (by rw [HX.out]; exact HP.out) (by rw [HX.out]; exact ⟨f1, f2⟩) (by rw [HX.out]; exact ⟨g1, g2⟩)⟩
        case measure => simp [intOf]; omega
      · have hp : (has && decide (last < x)) = false := by simpa using hp
        have hcs : has = false ∨ (has = true ∧ ¬ last < x) := by
          cases has
          · exact .inl rfl
          · simp at hp; exact .inr ⟨rfl, by omega⟩
        have HP := Lib.hid hp
        clear hp
        rcases hcs with rfl | ⟨rfl, hp2⟩
        all_goals
          go_wp2_with fail
          refine (best_any ct x _ _ hct).mono ?_
          rintro e w1 ⟨rfl, f1, f2⟩
          have h1 := (f2.cell_far ⟨g, 1, none⟩ (by show g < _; omega) (by intro e; have := Option.some.inj e; simp at this; omega)).trans h1
          have h2 := (f2.cell_far ⟨g, 2, none⟩ (by show g < _; omega) (by intro e; have := Option.some.inj e; simp at this; omega)).trans h2
          go_wp2_with fail
          go_roundw
          case rel => exact ⟨k + 1, by omega, by go_num, rel_step_no hlt hne hb hrel (by rw [HX.out]; exact HP.out) (by rw [HX.out]; exact ⟨f1, f2⟩)⟩
          case measure => simp [intOf]; omega
    · have hL : LoopEnd has last l ca ct w0 wr := by
        have e : l.take k = l := List.take_of_length_le (by omega)
        rw [e] at hrel
        exact hrel
      clear hrel
      go_wp2
      exact hL
end Go.Proofs.Ytpicniagafkjaaa
