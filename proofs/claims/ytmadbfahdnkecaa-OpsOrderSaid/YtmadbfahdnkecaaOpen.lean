/- From the reading of an argument as data to the print's words on rows and structs ('Kd'): whole numbers, strings, slices, structs, nested; no program in sight; no condition. -/
import Derived.Test.YtmadbfahdnkecaaWWords
import Derived.ProofKit
import Derived.Deep.Slices
set_option linter.unusedVariables false
set_option linter.unusedSimpArgs false
namespace Go.Proofs.Ytmadbfahdnkecaa
open Go.RowKit Go.ChangeShapes Go.WideShapes Go.Proofs.YtmadbfahdnkecaaW.PrintWords

/-- What reads as data of a type is of a kind. -/
def Opens {H : Type} (enc : TypeId × Value → H) (P : Program) (w : World) (t : TypeId) {α : Type} (d : Kd α) (B : α → Prop) : Prop :=
  ∀ (fuel : Nat) (cs : List Value) (x : DataW H × List MemPlace), DataW.trod enc P w 0 (fun _ => true) true fuel t cs = some x → ∃ a, d.K w a cs ∧ B a
/-- .. of a struct's fields, from one on. -/
def OpensF {H : Type} (enc : TypeId × Value → H) (P : Program) (w : World) (fs : List Field) (off : Nat) {α : Type} (d : Kd α) (B : α → Prop) : Prop :=
  ∀ (n : Nat) (cs : List Value) (xs : List (DataW H × List MemPlace)), xs.length = fs.length →
    (∀ (i : Nat) (f : Field), fs[i]? = some f → DataW.trod enc P w 0 (fun _ => true) true n f.type ((cs.drop f.offset).take (P.cellsOf f.type)) = xs[i]?) → cs.length = off + d.sz → ∃ a, d.K w a (cs.drop off) ∧ B a

section
variable {H : Type} {enc : TypeId × Value → H} {P : Program} {w : World} {t e : TypeId}

theorem Opens.int {k : IntKind} (ht : P.underlying t = some (.int k)) : Opens enc P w t (Kd.int k) (fun n => (Lit.int k n).wf = true) := by
  intro fuel cs x h
  obtain ⟨n, rfl, _, hw⟩ := DataW.trod_int ht h
  exact ⟨n, rfl, hw⟩
theorem Opens.string (ht : P.underlying t = some .string) : Opens enc P w t Kd.string (fun s => s.size ≤ maxLen) := by
  intro fuel cs x h
  obtain ⟨s, rfl, _, hs⟩ := DataW.trod_string ht h
  exact ⟨s, rfl, hs⟩
theorem Opens.bool (ht : P.underlying t = some .bool) : Opens enc P w t Kd.bool (fun _ => True) := by
  intro fuel cs x h
  obtain ⟨b, rfl, _⟩ := DataW.trod_bool ht h
  exact ⟨b, rfl, trivial⟩
theorem Opens.iso {α β : Type} {d : Kd α} {B : α → Prop} (h : Opens enc P w t d B) (f : β → α) (g : α → β) (hfg : ∀ a, f (g a) = a) : Opens enc P w t (Kd.iso d f) (fun b => B (f b)) := by
  intro fuel cs x hx
  obtain ⟨a, ha, hb⟩ := h fuel cs x hx
  exact ⟨g a, by show d.K w (f (g a)) cs; rw [hfg]; exact ha, by show B (f (g a)); rw [hfg]; exact hb⟩

theorem Opens.slice {α : Type} {d : Kd α} {B : α → Prop} (ht : P.underlying t = some (.slice e)) (hc : P.cellsOf e = d.sz) (he : Opens enc P w e d B) :
    Opens enc P w t (Kd.slice e d) (fun l => l.length ≤ maxLen ∧ ∀ a ∈ l, B a) := by
  intro fuel cs x h
  rcases Go.Deep.open_slice ht h with ⟨rfl, _⟩ | ⟨a, len, cap, m, n, D, Pl, rfl, _, hl, hm, hmm, _, hx⟩
  · exact ⟨[], ⟨none, 0, rfl, Nat.le_refl _, rfl, by simp, fun h => absurd h (by simp)⟩, by simp, by simp⟩
  · have hlm : len ≤ m := by simp at hmm; omega
    have each : ∀ i, i < len → ∃ q : α × List Value, q.2.length = d.sz ∧ d.K w q.1 q.2 ∧ (∀ j u, q.2[j]? = some u → w.cell? (a.add (i * d.sz + j)) = some u) ∧ B q.1 := by
      intro i hi
      obtain ⟨cs', h1, h2⟩ := hx i (by omega)
      obtain ⟨b, hb, hB⟩ := he n cs' _ h2
      obtain ⟨_, h4, h5⟩ := World.cells?_some h1
      refine ⟨(b, cs'), by rw [← hc]; exact h4, hb, fun j u hu => ?_, hB⟩
      have hj : j < cs'.length := (List.getElem?_eq_some_iff.1 hu).1
      have := h5 j (by omega)
      rw [Go.Deep.add_add, hc] at this
      rw [this, hu]
    by_cases hz : len = 0
    · subst hz
      exact ⟨[], ⟨some a, cap, rfl, Nat.zero_le _, rfl, by simp, fun h => absurd h (by simp)⟩, by simp, by simp⟩
    obtain ⟨q0, _⟩ := each 0 (by omega)
    have : Inhabited (α × List Value) := ⟨q0⟩
    obtain ⟨q, hq⟩ := Go.Deep.choose_lt each
    refine ⟨(List.range len).map fun i => (q i).1, ⟨some a, cap, by simp, by simpa using hl, by simp, ?_, ?_⟩, ?_, ?_⟩
    · simp; unfold maxLen at hm; omega
    · intro _
      refine ⟨a, rfl, fun j p hp => ?_⟩
      simp only [List.getElem?_map, List.getElem?_range, Option.map_eq_some_iff] at hp
      obtain ⟨i, hi, rfl⟩ := hp
      have hj : j < len := by
        by_cases c : j < len
        · exact c
        · simp [c] at hi
      have hi' : i = j := by simpa [hj] using hi.symm
      subst hi'
      exact ⟨(q i).2, (hq i hj).1, (hq i hj).2.1, (hq i hj).2.2.1⟩
    · simp; omega
    · intro b hb
      simp only [List.mem_map, List.mem_range] at hb
      obtain ⟨i, hi, rfl⟩ := hb
      exact (hq i hi).2.2.2

theorem OpensF.last {α : Type} {d : Kd α} {B : α → Prop} {f : Field} {off : Nat} (ho : f.offset = off) (hc : P.cellsOf f.type = d.sz) (h : Opens enc P w f.type d B) : OpensF enc P w [f] off d B := by
  intro n cs xs hl hx hcs
  match xs, hl with
  | [x], _ =>
    have h0 := hx 0 f rfl
    rw [ho, hc, List.take_of_length_le (by simp; omega)] at h0
    exact h n _ _ h0
theorem OpensF.cons {α β : Type} {d : Kd α} {d' : Kd β} {B : α → Prop} {B' : β → Prop} {f : Field} {fs : List Field} {off : Nat} (ho : f.offset = off) (hc : P.cellsOf f.type = d.sz) (h : Opens enc P w f.type d B)
    (hr : OpensF enc P w fs (off + d.sz) d' B') : OpensF enc P w (f :: fs) off (Kd.pair d d') (fun x => B x.1 ∧ B' x.2) := by
  intro n cs xs hl hx hcs
  match xs, hl with
  | x :: xs, hl =>
    have h0 := hx 0 f rfl
    rw [ho, hc] at h0
    obtain ⟨a, ha, hB⟩ := h n _ _ h0
    have hcs' : cs.length = off + (d.sz + d'.sz) := hcs
    obtain ⟨b, hb, hB'⟩ := hr n cs xs (by simpa using hl) (fun i g hg => by simpa using hx (i + 1) g (by simpa using hg)) (by omega)
    refine ⟨(a, b), ⟨(cs.drop off).take d.sz, cs.drop (off + d.sz), ?_, ha, hb⟩, hB, hB'⟩
    rw [← List.drop_drop, List.take_append_drop]
theorem Opens.struct {α : Type} {d : Kd α} {B : α → Prop} {fs : Array Field} (ht : P.underlying t = some (.struct fs)) (hc : P.cellsOf t = d.sz) (h : OpensF enc P w fs.toList 0 d B) : Opens enc P w t d B := by
  intro fuel cs x hx
  obtain ⟨xs, n, _, _, h1, h2, h3⟩ := DataW.trod_struct ht hx
  have := h n cs xs (by simpa using h2) (fun i f hf => h3 i f (by simpa using hf)) (by omega)
  simpa using this
end
end Go.Proofs.Ytmadbfahdnkecaa
