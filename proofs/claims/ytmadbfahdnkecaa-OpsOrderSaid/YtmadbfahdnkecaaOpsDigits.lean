/- The walk over ops.digits, a number in digits, for every number. -/
import Derived.Test.YtmadbfahdnkecaaHd
import Derived.Lib.Hide
import Derived.LoopTactic
set_option linter.unusedVariables false
set_option linter.unusedSimpArgs false
namespace Go.Proofs.Ytmadbfahdnkecaa
open Go.RowKit Go.Proofs.YtmadbfahdnkecaaW.PrintWords Go.Proofs.YtmadbfahdnkecaaW.PrintLast Go.Proofs.YtmadbfahdnkecaaW.PrintMore

/-- The digits of a number, the least one last, ahead of others. -/
def digs : Nat → Nat → List Int → List Int
  | 0, _, acc => acc
  | f + 1, u, acc => if u / 10 = 0 then (48 + (u : Int) % 10) :: acc else digs f (u / 10) ((48 + (u : Int) % 10) :: acc)
def digitNums (n : Int) : List Int := if n < 0 then 45 :: digs 20 n.natAbs [] else digs 20 n.natAbs []
def opsDigits.f (a0 : Int) : Option ByteArray := if -9223372036854775808 ≤ a0 ∧ a0 ≤ 9223372036854775807 then some (strOfNums (digitNums a0)) else none
/-- The array, its last cells being these. -/
def digCells (acc : List Int) : Array Value := ((List.replicate (20 - acc.length) (0 : Int) ++ acc).map (Value.int .u8)).toArray
theorem digCells_size (acc : List Int) (h : acc.length ≤ 20) : (digCells acc).size = 20 := by simp [digCells]; omega
theorem digCells_nil : digCells [] = #[.int .u8 0, .int .u8 0, .int .u8 0, .int .u8 0, .int .u8 0, .int .u8 0, .int .u8 0, .int .u8 0, .int .u8 0, .int .u8 0, .int .u8 0, .int .u8 0, .int .u8 0, .int .u8 0, .int .u8 0, .int .u8 0, .int .u8 0, .int .u8 0, .int .u8 0, .int .u8 0] := by rfl
theorem digCells_set (acc : List Int) (x : Int) (h : acc.length < 20) : (digCells acc).setIfInBounds (20 - acc.length - 1) (.int .u8 x) = digCells (x :: acc) := by
  unfold digCells
  obtain ⟨m, hm⟩ : ∃ m, 20 - acc.length = m + 1 := ⟨20 - acc.length - 1, by omega⟩
  have h2 : 20 - (x :: acc).length = m := by simp; omega
  rw [h2, hm]
  apply Array.ext'
  simp only [Array.toList_setIfInBounds, Nat.add_sub_cancel, List.map_append, List.map_cons]
  rw [List.replicate_succ', List.map_append, List.append_assoc, List.set_append]
  simp
theorem digCells_zero (acc : List Int) (i : Nat) (hi : i < 20 - acc.length) : (digCells acc)[i]? = some (.int .u8 0) := by
  unfold digCells
  have h : i < (List.replicate (20 - acc.length) (Value.int .u8 0)).length := by simpa using hi
  simp [List.getElem?_append_left, hi]
theorem digCells_get (acc : List Int) (h : acc.length ≤ 20) (i : Nat) (hi : i < acc.length) : (digCells acc)[20 - acc.length + i]? = some (.int .u8 (acc.getD i 0)) := by
  unfold digCells
  simp [List.getElem?_append_right, hi]

set_option maxHeartbeats 4000000 in
set_option maxRecDepth 100000 in
theorem digits_pos (n : Int) (w : World) (hn : 0 ≤ n) (hn2 : n ≤ 9223372036854775807) : Calls Try.prog 32 #[.int .i64 n] w fun e w' => e = .returned (.string (strOfNums (digs 20 n.natAbs []))) ∧ Below w.heap.size w w' := by
  obtain ⟨m, rfl⟩ : ∃ m : Nat, n = m := ⟨n.toNat, by omega⟩
  have hm : m ≤ 9223372036854775807 := by omega
  have HR : Hid (digs 20 (m : Int).natAbs [] = digs 20 m []) := Lib.hid (by simp)
  rw [HR.out]
  clear HR
  have hneg : decide ((m : Int) < 0) = false := decide_eq_false (by omega)
  have hu0 : IntKind.u64.wrap (m : Int) = m := by unfold IntKind.wrap; simp [IntKind.bits, IntKind.signed]; omega
  have HB := Aside0.mk (Below.refl w.heap.size w)
  go_enter Try.func32, Try.ntmps32
  go_wp2_with (first | ((with_reducible refine gate_dst (N := 3) rfl ?_); refine box_event ?hg (N := 3) ?hd (cs := digCells []) (t := 66) ?hr ?_; (case hd => rfl); (case hg => rfl); (case hr => rw [digCells_nil]; first | (go_simp; done) | (go_simp; rfl)); intro gb hg w_ hbox hb; have n0_ := Aside0.mk (below_step (by repeat (first | (with_reducible first | exact HB.out | apply below_alloc | apply pw_below_drewN | apply below_drew1) | exact HB.out)) hb); have n1_ := Aside0.mk (hbox); have n2_ := Aside0.mk ((by rw [hg]; exact (below_size (by repeat (first | (with_reducible first | exact HB.out | apply below_alloc | apply pw_below_drewN | apply below_drew1) | exact HB.out))) : w.heap.size ≤ gb)); clear HB; have HB := n0_; have BK := n1_; have GE := n2_; clear n0_ n1_ n2_; clear hb hbox hg))
  go_loopw [4, 5] (fun v4 v5 w' => ∃ (acc : List Int) (a u : Nat), v4 = .int .i64 ((a : Int) + 1) ∧ v5 = .int .u64 (u : Int) ∧ Hid (acc.length + a = 19 ∧ 1 ≤ a ∧ u < 10 ^ a) ∧ Hid (w'.heap[gb]? = some (.cells (digCells acc) 66 (0, 0))) ∧ Hid (digs (a + 1) u acc = digs 20 m []) ∧ Aside0 (Below w.heap.size w w')) (fun v4 _ _ => match v4 with | .int _ x => x.toNat | _ => 0)
  case atStart => exact ⟨[], 19, m, rfl, rfl, Lib.hid ⟨rfl, by omega, by omega⟩, Lib.hid BK.out, Lib.hid rfl, HB⟩
  case round =>
    obtain ⟨acc, a, u, rfl, rfl, H1, BK1, HD, HB1⟩ := hrel
    clear BK HB
    obtain ⟨hla, ha1, hua⟩ := H1.out
    clear H1
    have ha := eq_true (show (a : Int) < 20 by omega)
    have h20 := eq_false (show ¬ (20 = a) by omega)
    have ha0 := eq_true (show (0 : Int) ≤ (a : Int) by omega)
    have hal := eq_true (show (a : Int) ≤ 20 by omega)
    have hw1 : wrap64 (a : Int) = a := by unfold wrap64; omega
    have h2al : 20 - acc.length - 1 = a := by omega
    have hcz0 : wr.cell? ⟨gb, a, none⟩ = some (.int .u8 0) := by
      rw [blk_cell BK1.out a]
      exact digCells_zero acc a (by omega)
    have hfz0 := blk_frozen BK1.out a
    have hq : IntKind.u64.wrap ((u : Int) / 10) = (u : Int) / 10 := by
      have : u ≤ 10 ^ 19 := by
        have : 10 ^ a ≤ 10 ^ 19 := Nat.pow_le_pow_right (by omega) (by omega)
        omega
      unfold IntKind.wrap; simp [IntKind.bits, IntKind.signed]; omega
    have hx1 : 10 ^ a = 10 * 10 ^ (a - 1) := by
      obtain ⟨b, rfl⟩ : ∃ b, a = b + 1 := ⟨a - 1, by omega⟩
      rw [Nat.pow_succ]; simp; omega
    have BK2 : Hid ((wr.setCell ⟨gb, a, none⟩ (.int .u8 (48 + (u : Int) % 10))).heap[gb]? = some (.cells (digCells ((48 + (u : Int) % 10) :: acc)) 66 (0, 0))) :=
      Lib.hid (blk_put BK1.out a _ (by rw [← digCells_set acc _ (by omega), h2al]))
    have HLEN : Hid (((48 + (u : Int) % 10) :: acc).length = 20 - a) := Lib.hid (by simp; omega)
    have HCONV : Hid (∀ i, i < 20 - a → (wr.setCell ⟨gb, a, none⟩ (.int .u8 (48 + (u : Int) % 10))).cell? ⟨gb, a + i, none⟩ = some (.int .u8 (((48 + (u : Int) % 10) :: acc).getD i 0))) := Lib.hid (fun i hi => by
      rw [blk_cell BK2.out (a + i)]
      have := digCells_get ((48 + (u : Int) % 10) :: acc) (by rw [HLEN.out]; omega) i (by rw [HLEN.out]; exact hi)
      rw [HLEN.out, show 20 - (20 - a) + i = a + i by omega] at this
      exact this)
    have HU : Hid (1 ≤ a ∧ u < 10 ^ a ∧ 10 ^ a = 10 * 10 ^ (a - 1) ∧ acc.length + a = 19) := Lib.hid ⟨ha1, hua, hx1, hla⟩
    clear hla ha1 hua hx1 h2al
    by_cases c : u / 10 = 0
    · have hc : ((u : Int) / 10 == 0) = true := beq_iff_eq.mpr (by omega)
      have HR : Hid (digs 20 m [] = (48 + (u : Int) % 10) :: acc) := Lib.hid (by rw [← HD.out]; unfold digs; rw [if_pos c])
      rw [HR.out]
      have hconv := run_convert_bytes_arg (P := Try.prog) _ 68 5 Try.underlying68 Try.underlying5 gb a (20 - a) (20 - a) _ HLEN.out HCONV.out 9 Try.underlying9
      clear c HD
      go_wp2
      go_ret
      exact ⟨by rw [HR.out]; rfl, below_set HB1.out GE.out⟩
    · have hc : ((u : Int) / 10 == 0) = false := beq_eq_false_iff_ne.mpr (by omega)
      have HD2 : Hid (digs a (u / 10) ((48 + (u : Int) % 10) :: acc) = digs 20 m []) := Lib.hid (by rw [← HD.out]; rw [digs]; rw [if_neg c])
      have HC := Lib.hid c
      clear c HD
      go_wp2
      go_roundw
      case rel =>
        have HU := HU.out
        have HC := HC.out
        have HL := HLEN.out
        have : 10 ^ (a - 1) ≤ 0 ∨ 0 < 10 ^ (a - 1) := by omega
        have ha2 : 2 ≤ a := by
          rcases Nat.lt_or_ge a 2 with h | h
          · obtain rfl : a = 1 := by omega
            simp at HU; omega
          · exact h
        refine ⟨_, a - 1, u / 10, ?_, rfl, Lib.hid ⟨by simp; omega, by omega, by omega⟩, BK2, ?_, ?_⟩
        · rw [hw1]; congr 1; omega
        · rw [show a - 1 + 1 = a by omega]; exact HD2
        · exact Aside0.mk (below_set HB1.out GE.out)
      case measure => rw [hw1]; simp only []; omega
set_option maxHeartbeats 4000000 in
set_option maxRecDepth 100000 in
theorem digits_neg (n : Int) (w : World) (hn : n < 0) (hn2 : -9223372036854775808 ≤ n) : Calls Try.prog 32 #[.int .i64 n] w fun e w' => e = .returned (.string (strOfNums (45 :: digs 20 n.natAbs []))) ∧ Below w.heap.size w w' := by
  obtain ⟨m, hm⟩ : ∃ m : Nat, m = n.natAbs := ⟨_, rfl⟩
  rw [← hm]
  have hm2 : m ≤ 9223372036854775808 := by omega
  have hneg : decide (n < 0) = true := decide_eq_true hn
  obtain ⟨V, hV0, hV1⟩ : ∃ V : Int, IntKind.u64.wrap n = V ∧ IntKind.u64.wrap (-V) = (m : Int) := ⟨_, rfl, by unfold IntKind.wrap; simp [IntKind.bits, IntKind.signed]; omega⟩
  clear hm hn hn2
  have HB := Aside0.mk (Below.refl w.heap.size w)
  go_enter Try.func32, Try.ntmps32
  go_wp2_with (first | ((with_reducible refine gate_dst (N := 3) rfl ?_); refine box_event ?hg (N := 3) ?hd (cs := digCells []) (t := 66) ?hr ?_; (case hd => rfl); (case hg => rfl); (case hr => rw [digCells_nil]; first | (go_simp; done) | (go_simp; rfl)); intro gb hg w_ hbox hb; have n0_ := Aside0.mk (below_step (by repeat (first | (with_reducible first | exact HB.out | apply below_alloc | apply pw_below_drewN | apply below_drew1) | exact HB.out)) hb); have n1_ := Aside0.mk (hbox); have n2_ := Aside0.mk ((by rw [hg]; exact (below_size (by repeat (first | (with_reducible first | exact HB.out | apply below_alloc | apply pw_below_drewN | apply below_drew1) | exact HB.out))) : w.heap.size ≤ gb)); clear HB; have HB := n0_; have BK := n1_; have GE := n2_; clear n0_ n1_ n2_; clear hb hbox hg))
  go_loopw [4, 5] (fun v4 v5 w' => ∃ (acc : List Int) (a u : Nat), v4 = .int .i64 ((a : Int) + 1) ∧ v5 = .int .u64 (u : Int) ∧ Hid (acc.length + a = 19 ∧ 1 ≤ a ∧ u < 10 ^ a) ∧ Hid (w'.heap[gb]? = some (.cells (digCells acc) 66 (0, 0))) ∧ Hid (digs (a + 1) u acc = digs 20 m []) ∧ Aside0 (Below w.heap.size w w')) (fun v4 _ _ => match v4 with | .int _ x => x.toNat | _ => 0)
  case atStart => exact ⟨[], 19, m, rfl, rfl, Lib.hid ⟨rfl, by omega, by omega⟩, Lib.hid BK.out, Lib.hid rfl, HB⟩
  case round =>
    obtain ⟨acc, a, u, rfl, rfl, H1, BK1, HD, HB1⟩ := hrel
    clear BK HB
    obtain ⟨hla, ha1, hua⟩ := H1.out
    clear H1
    have ha := eq_true (show (a : Int) < 20 by omega)
    have h20 := eq_false (show ¬ (20 = a) by omega)
    have ha0 := eq_true (show (0 : Int) ≤ (a : Int) by omega)
    have hal := eq_true (show (a : Int) ≤ 20 by omega)
    have hw1 : wrap64 (a : Int) = a := by unfold wrap64; omega
    have h2al : 20 - acc.length - 1 = a := by omega
    have hcz0 : wr.cell? ⟨gb, a, none⟩ = some (.int .u8 0) := by
      rw [blk_cell BK1.out a]
      exact digCells_zero acc a (by omega)
    have hfz0 := blk_frozen BK1.out a
    have hq : IntKind.u64.wrap ((u : Int) / 10) = (u : Int) / 10 := by
      have : u ≤ 10 ^ 19 := by
        have : 10 ^ a ≤ 10 ^ 19 := Nat.pow_le_pow_right (by omega) (by omega)
        omega
      unfold IntKind.wrap; simp [IntKind.bits, IntKind.signed]; omega
    have hx1 : 10 ^ a = 10 * 10 ^ (a - 1) := by
      obtain ⟨b, rfl⟩ : ∃ b, a = b + 1 := ⟨a - 1, by omega⟩
      rw [Nat.pow_succ]; simp; omega
    have BK2 : Hid ((wr.setCell ⟨gb, a, none⟩ (.int .u8 (48 + (u : Int) % 10))).heap[gb]? = some (.cells (digCells ((48 + (u : Int) % 10) :: acc)) 66 (0, 0))) :=
      Lib.hid (blk_put BK1.out a _ (by rw [← digCells_set acc _ (by omega), h2al]))
    have HLEN : Hid (((48 + (u : Int) % 10) :: acc).length = 20 - a) := Lib.hid (by simp; omega)
    have HCONV : Hid (∀ i, i < 20 - a → (wr.setCell ⟨gb, a, none⟩ (.int .u8 (48 + (u : Int) % 10))).cell? ⟨gb, a + i, none⟩ = some (.int .u8 (((48 + (u : Int) % 10) :: acc).getD i 0))) := Lib.hid (fun i hi => by
      rw [blk_cell BK2.out (a + i)]
      have := digCells_get ((48 + (u : Int) % 10) :: acc) (by rw [HLEN.out]; omega) i (by rw [HLEN.out]; exact hi)
      rw [HLEN.out, show 20 - (20 - a) + i = a + i by omega] at this
      exact this)
    have HU : Hid (1 ≤ a ∧ u < 10 ^ a ∧ 10 ^ a = 10 * 10 ^ (a - 1) ∧ acc.length + a = 19) := Lib.hid ⟨ha1, hua, hx1, hla⟩
    clear hla ha1 hua hx1 h2al
    by_cases c : u / 10 = 0
    · have hc : ((u : Int) / 10 == 0) = true := beq_iff_eq.mpr (by omega)
      have HR : Hid (digs 20 m [] = (48 + (u : Int) % 10) :: acc) := Lib.hid (by rw [← HD.out]; unfold digs; rw [if_pos c])
      rw [HR.out]
      have HW1 := Lib.hid hw1
      have HQ := Lib.hid hq
      have HV := Lib.hid (And.intro hV0 hV1)
      clear hw1 hq hV0 hV1
      have h1a : 1 ≤ a := HU.out.1
      have ha19 : a ≤ 19 := by have := HU.out.2.2.2; omega
      obtain ⟨b, hab⟩ : ∃ b, a = b + 1 := ⟨a - 1, by omega⟩
      have HWB : Hid (wrap64 (b : Int) = b) := Lib.hid (by unfold wrap64; omega)
      have HL2 : Hid (((48 + (u : Int) % 10) :: acc).length = 19 - b) := Lib.hid (by rw [HLEN.out]; omega)
      have hb1 : (a : Int) - 1 = (b : Int) := by omega
      have hb20 := eq_true (show (b : Int) < 20 by omega)
      have hb0 := eq_true (show (0 : Int) ≤ (b : Int) by omega)
      have hbl := eq_true (show (b : Int) ≤ 20 by omega)
      have h20b := eq_false (show ¬ (20 = b) by omega)
      have hczb : (wr.setCell ⟨gb, a, none⟩ (.int .u8 (48 + (u : Int) % 10))).cell? ⟨gb, b, none⟩ = some (.int .u8 0) := by
        rw [blk_cell BK2.out b]
        exact digCells_zero _ b (by rw [HL2.out]; omega)
      have hfzb := blk_frozen BK2.out b
      have BK3 : Hid (((wr.setCell ⟨gb, a, none⟩ (.int .u8 (48 + (u : Int) % 10))).setCell ⟨gb, b, none⟩ (.int .u8 45)).heap[gb]? = some (.cells (digCells (45 :: (48 + (u : Int) % 10) :: acc)) 66 (0, 0))) :=
        Lib.hid (blk_put BK2.out b _ (by rw [← digCells_set ((48 + (u : Int) % 10) :: acc) _ (by rw [HL2.out]; omega), HL2.out, show 20 - (19 - b) - 1 = b by omega]))
      have HL3 : Hid ((45 :: (48 + (u : Int) % 10) :: acc).length = 20 - b) := Lib.hid (by rw [List.length_cons, HL2.out]; omega)
      have HCONV3 : Hid (∀ i, i < 20 - b → ((wr.setCell ⟨gb, a, none⟩ (.int .u8 (48 + (u : Int) % 10))).setCell ⟨gb, b, none⟩ (.int .u8 45)).cell? ⟨gb, b + i, none⟩ = some (.int .u8 ((45 :: (48 + (u : Int) % 10) :: acc).getD i 0))) := Lib.hid (fun i hi => by
        rw [blk_cell BK3.out (b + i)]
        have := digCells_get (45 :: (48 + (u : Int) % 10) :: acc) (by rw [HL3.out]; omega) i (by rw [HL3.out]; exact hi)
        rw [HL3.out, show 20 - (20 - b) + i = b + i by omega] at this
        exact this)
      have hconv := run_convert_bytes_arg (P := Try.prog) _ 68 5 Try.underlying68 Try.underlying5 gb b (20 - b) (20 - b) _ HL3.out HCONV3.out 9 Try.underlying9
      clear c HD hab h1a ha19
      have hw1 := HW1.out
      have hq := HQ.out
      have hwb := HWB.out
      have hwab : wrap64 (wrap64 (a : Int) - 1) = b := by rw [hw1, hb1, hwb]
      go_wp2
      go_ret
      exact ⟨by rw [HR.out]; rfl, below_set (below_set HB1.out GE.out) GE.out⟩
    · have hc : ((u : Int) / 10 == 0) = false := beq_eq_false_iff_ne.mpr (by omega)
      have HD2 : Hid (digs a (u / 10) ((48 + (u : Int) % 10) :: acc) = digs 20 m []) := Lib.hid (by rw [← HD.out]; rw [digs]; rw [if_neg c])
      have HC := Lib.hid c
      clear c HD
      go_wp2
      go_roundw
      case rel =>
        have HU := HU.out
        have HC := HC.out
        have HL := HLEN.out
        have : 10 ^ (a - 1) ≤ 0 ∨ 0 < 10 ^ (a - 1) := by omega
        have ha2 : 2 ≤ a := by
          rcases Nat.lt_or_ge a 2 with h | h
          · obtain rfl : a = 1 := by omega
            simp at HU; omega
          · exact h
        refine ⟨_, a - 1, u / 10, ?_, rfl, Lib.hid ⟨by simp; omega, by omega, by omega⟩, BK2, ?_, ?_⟩
        · rw [hw1]; congr 1; omega
        · rw [show a - 1 + 1 = a by omega]; exact HD2
        · exact Aside0.mk (below_set HB1.out GE.out)
      case measure => rw [hw1]; simp only []; omega
theorem opsDigits.calls (a0 : Int) (r : ByteArray) (w : World) (h : opsDigits.f a0 = some r) : Calls Try.prog 32 #[.int .i64 a0] w fun e w' => e = .returned (.string r) ∧ Below w.heap.size w w' := by
  unfold opsDigits.f at h
  by_cases c : -9223372036854775808 ≤ a0 ∧ a0 ≤ 9223372036854775807
  · rw [if_pos c] at h
    obtain rfl := Option.some.inj h
    by_cases c2 : a0 < 0
    · rw [show digitNums a0 = 45 :: digs 20 a0.natAbs [] from if_pos c2]
      exact digits_neg a0 w c2 c.1
    · rw [show digitNums a0 = digs 20 a0.natAbs [] from if_neg c2]
      exact digits_pos a0 w (by omega) c.2
  · rw [if_neg c] at h
    cases h
end Go.Proofs.Ytmadbfahdnkecaa
