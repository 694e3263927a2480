/- The walk of OpsOrder, for all three ints and all three texts. -/
import Derived.Test.YtmadbfahdnkecaaPureOpsOrder
import Derived.Test.YtmadbfahdnkecaaRowVal
import Derived.Laws.IdiomArrays
set_option linter.unusedVariables false
set_option linter.unusedSimpArgs false
namespace Go.Proofs.Ytmadbfahdnkecaa
open Go Go.RowKit Go.ChangeShapes Go.WideShapes Go.Proofs.YtmadbfahdnkecaaW.PrintWords Go.Proofs.Ytmadbfahdnkecaa.Q Go.Proofs.Ytmadbfahdnkecaa.Ops

theorem okWide_array {P : Program} {w : World} {r : Reach} {base n : Nat} {e t : TypeId} {v : Value} (ht : P.underlying t = some (.array n e)) (h : Value.okWide P w r base t v) : ∃ cs, v = .agg cs ∧ cs.size = P.cellsOf t := by
  simp only [Value.okWide, ht] at h
  obtain ⟨cs, h1, h2, _⟩ := h
  exact ⟨cs, h1, h2⟩
/-- What an array of three holds, read cell by cell. -/
theorem three_cells {cs : Array Value} (h : cs.size = 3) : ∃ c0 c1 c2, cs = #[c0, c1, c2] := by
  obtain ⟨l⟩ := cs
  match l, h with
  | [c0, c1, c2], _ => exact ⟨c0, c1, c2, rfl⟩
theorem ints_open {H : Type} {enc : TypeId × Value → H} {W : World} {cs : Array Value} (hs : cs.size = 3) {d : DataW H} {p : List MemPlace} (h : DataW.Trod enc Try.prog W 0 (fun _ => true) true 29 (.agg cs) d p) :
    ∃ a : Int × Int × Int, cs = #[.int .i64 a.1, .int .i64 a.2.1, .int .i64 a.2.2] ∧ True := by
  obtain ⟨c0, c1, c2, rfl⟩ := three_cells hs
  obtain ⟨fuel, hf⟩ := h
  obtain ⟨y0, y1, y2, n, _, h0, h1, h2⟩ := trod_array3 Try.underlying29 (by kernel_rfl) hf
  obtain ⟨n0, e0, _, _⟩ := DataW.trod_int Try.underlying2 h0
  obtain ⟨n1, e1, _, _⟩ := DataW.trod_int Try.underlying2 h1
  obtain ⟨n2, e2, _, _⟩ := DataW.trod_int Try.underlying2 h2
  simp at e0 e1 e2
  subst e0 e1 e2
  exact ⟨(n0, n1, n2), rfl, trivial⟩
theorem texts_open {H : Type} {enc : TypeId × Value → H} {W : World} {cs : Array Value} (hs : cs.size = 3) {d : DataW H} {p : List MemPlace} (h : DataW.Trod enc Try.prog W 0 (fun _ => true) true 30 (.agg cs) d p) :
    ∃ a : ByteArray × ByteArray × ByteArray, cs = #[.string a.1, .string a.2.1, .string a.2.2] ∧ True := by
  obtain ⟨c0, c1, c2, rfl⟩ := three_cells hs
  obtain ⟨fuel, hf⟩ := h
  obtain ⟨y0, y1, y2, n, _, h0, h1, h2⟩ := trod_array3 Try.underlying30 (by kernel_rfl) hf
  obtain ⟨n0, e0, _, _⟩ := DataW.trod_string Try.underlying9 h0
  obtain ⟨n1, e1, _, _⟩ := DataW.trod_string Try.underlying9 h1
  obtain ⟨n2, e2, _, _⟩ := DataW.trod_string Try.underlying9 h2
  simp at e0 e1 e2
  subst e0 e1 e2
  exact ⟨(n0, n1, n2), rfl, trivial⟩
theorem order_row (a : Int × Int × Int) (b : ByteArray × ByteArray × ByteArray) (w : World) (_ : True) (_ : True) :
    Calls Try.prog 4 #[.agg #[.int .i64 a.1, .int .i64 a.2.1, .int .i64 a.2.2], .agg #[.string b.1, .string b.2.1, .string b.2.2]] w fun e w' => e = .returned (.bool true) ∧ Below w.heap.size w w' := by
  obtain ⟨k, hk⟩ := Pure.OpsOrder a.1 a.2.1 a.2.2 b.1 b.2.1 b.2.2
  exact chrysalislaw17_OpsOrder.calls k a.1 a.2.1 a.2.2 b.1 b.2.1 b.2.2 true w hk rfl
end Go.Proofs.Ytmadbfahdnkecaa
