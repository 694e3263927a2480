/- Walks over functions of the program, words for them, and what the functions come to; of each text only what this claim uses; no condition. -/
import Derived.Test.YtendgafpkeadhaaZRO0
import Derived.Test.YtendgafpkeadhaaZRO1
import Derived.Test.YtendgafpkeadhaaZRO2
import Derived.Test.YtendgafpkeadhaaProg
import Derived.Below
import Derived.Deep.Draws
import Derived.Deep.AppendLies
import Derived.Maps.AppendAt
import Derived.OwnWalk
import Derived.Laws.BytesArg
import Derived.Laws.MakeOwn
import Derived.Laws.OwnMore
import Derived.Deep.OwnRows
import Derived.Tactics
import Derived.Lib.ConvBytes
import Derived.Laws.Slices
import Derived.WalkKit
import Derived.KernelRfl
import Derived.RowKit3
import Derived.Deep.LoopGhost
import Derived.Deep.QuietTactic
import Derived.BigQuiet
import Derived.WideLaws
import Derived.Deep.DeepCutAuto
import Derived.Deep.CutBlock
import Derived.Deep.RegionHeld3
import Derived.Laws.Rows
import Derived.Lib.AppendStr
import Derived.ArgAppend
import Derived.Laws.IdiomCopy
import Derived.OrdersHeld
import Derived.Laws.BitsLemmas
import Derived.RowKit
section
namespace Go.Proofs.Ytendgafpkeadhaa.Q
open Go.RowKit Go.Proofs.YtendgafpkeadhaaW.PrintWords Go.Proofs.YtendgafpkeadhaaW.PrintLast Go.Proofs.YtendgafpkeadhaaW.PrintMore
attribute [local go_sem] max2_int min2_int max_two min_two max_three min_three max_four min_four
set_option linter.unusedVariables false
set_option linter.unusedSimpArgs false
def J9 : Option Int → Value
 | none => .nilIface
 | some c => .iface 0 (.int .i64 c)
theorem errW_none : J9 none = .nilIface := rfl
theorem errW_some (c : Int) : J9 (some c) = .iface 0 (.int .i64 c) := rfl
theorem info3 : (Try.prog.info? 3).map (fun i => (i.zero, i.size, i.bytes)) = some (some (.int .i64 0), 1, 8) := by kernel_rfl
theorem info5 : (Try.prog.info? 5).map (fun i => (i.zero, i.size, i.bytes)) = some (some (.int .u8 0), 1, 1) := by kernel_rfl
theorem info23 : (Try.prog.info? 23).map (fun i => (i.zero, i.size, i.bytes)) = some (some (.slice none 0 0), 1, 24) := by kernel_rfl
theorem info38 : (Try.prog.info? 38).map (fun i => (i.zero, i.size, i.bytes)) = some (some (.agg #[(.int .i64 0), (.string ⟨#[]⟩), (.int .i64 0), (.int .i64 0)]), 4, 40) := by kernel_rfl
theorem zo : (Try.prog.info? 41).map (fun i => (i.zero, i.size, i.bytes)) = some (some (.agg #[(.int .i64 0), (.int .i64 0), (.string ⟨#[]⟩), (.int .i64 0), (.string ⟨#[]⟩)]), 5, 56) := by kernel_rfl
-- the values' own types
/-! #### struct type 41 -/
structure S41 where
 f0 : Int
 f1 : Int
 f2 : ByteArray
 f3 : Int
 f4 : ByteArray
def z41 : S41 := ⟨(0 : Int), (0 : Int), (⟨#[]⟩ : ByteArray), (0 : Int), (⟨#[]⟩ : ByteArray)⟩
def k41 : Kd S41 := Kd.iso (Kd.pair (Kd.int .i64) (Kd.pair (Kd.int .i64) (Kd.pair Kd.string (Kd.pair (Kd.int .i64) Kd.string)))) (fun x : S41 => (x.f0, x.f1, x.f2, x.f3, x.f4))
theorem E5 {w : World} {x : S41} {cs : List Value} (h : k41.K w x cs) : cs = [.int .i64 x.f0, .int .i64 x.f1, .string x.f2, .int .i64 x.f3, .string x.f4] := by
 obtain ⟨_, _, rfl, rfl, ⟨_, _, rfl, rfl, ⟨_, _, rfl, rfl, ⟨_, _, rfl, rfl, rfl⟩⟩⟩⟩ := h
 exact rfl
theorem Gy (w : World) (base : Nat) (ok : Nat → Prop) (x : S41)  : k41.M w base ok x [.int .i64 x.f0, .int .i64 x.f1, .string x.f2, .int .i64 x.f3, .string x.f4] := ⟨[.int .i64 x.f0], [.int .i64 x.f1, .string x.f2, .int .i64 x.f3, .string x.f4], rfl, rfl, ⟨[.int .i64 x.f1], [.string x.f2, .int .i64 x.f3, .string x.f4], rfl, rfl, ⟨[.string x.f2], [.int .i64 x.f3, .string x.f4], rfl, rfl, ⟨[.int .i64 x.f3], [.string x.f4], rfl, rfl, rfl⟩⟩⟩⟩
def rd_T41 (xs : List S41) (i : Int) : S41 := xs.getD i.toNat z41
theorem gJ {w : World} {A : Option Addr} {n : Nat} {xs : List S41} (h : Kd.C k41 w A n xs) (i : Int) (h0 : 0 ≤ i) (h1 : i < n) : ∃ ad , A = some ad ∧ w.cell? (ad.add (i.toNat * 5)) = some (.int .i64 (rd_T41 xs i).f0) ∧ w.cell? ⟨(ad.add (i.toNat * 5)).block, (ad.add (i.toNat * 5)).off + 1, none⟩ = some (.int .i64 (rd_T41 xs i).f1) ∧ w.cell? ⟨(ad.add (i.toNat * 5)).block, (ad.add (i.toNat * 5)).off + 2, none⟩ = some (.string (rd_T41 xs i).f2) ∧ w.cell? ⟨(ad.add (i.toNat * 5)).block, (ad.add (i.toNat * 5)).off + 3, none⟩ = some (.int .i64 (rd_T41 xs i).f3) ∧ w.cell? ⟨(ad.add (i.toNat * 5)).block, (ad.add (i.toNat * 5)).off + 4, none⟩ = some (.string (rd_T41 xs i).f4) := by
 obtain ⟨ad, c, e, _, hK, hc0⟩ := Kd.vY h z41 i h0 h1
 have hc : ∀ j u, c[j]? = some u → w.cell? (ad.add (i.toNat * 5 + j)) = some u := hc0
 obtain rfl := E5 hK
 exact ⟨ad, e, hc 0 _ rfl, by rw [← kF _ _ 1 (by omega)]; exact hc 1 _ rfl, by rw [← kF _ _ 2 (by omega)]; exact hc 2 _ rfl, by rw [← kF _ _ 3 (by omega)]; exact hc 3 _ rfl, by rw [← kF _ _ 4 (by omega)]; exact hc 4 _ rfl⟩
/-! #### struct type 38 -/
structure S38 where
 f0 : Int
 f1 : ByteArray
 f2 : Int
 f3 : Int
def z38 : S38 := ⟨(0 : Int), (⟨#[]⟩ : ByteArray), (0 : Int), (0 : Int)⟩
def k38 : Kd S38 := Kd.iso (Kd.pair (Kd.int .i64) (Kd.pair Kd.string (Kd.pair (Kd.int .i64) (Kd.int .i64)))) (fun x : S38 => (x.f0, x.f1, x.f2, x.f3))
theorem E8 {w : World} {x : S38} {cs : List Value} (h : k38.K w x cs) : cs = [.int .i64 x.f0, .string x.f1, .int .i64 x.f2, .int .i64 x.f3] := by
 obtain ⟨_, _, rfl, rfl, ⟨_, _, rfl, rfl, ⟨_, _, rfl, rfl, rfl⟩⟩⟩ := h
 exact rfl
theorem AZ (w : World) (base : Nat) (ok : Nat → Prop) (x : S38)  : k38.M w base ok x [.int .i64 x.f0, .string x.f1, .int .i64 x.f2, .int .i64 x.f3] := ⟨[.int .i64 x.f0], [.string x.f1, .int .i64 x.f2, .int .i64 x.f3], rfl, rfl, ⟨[.string x.f1], [.int .i64 x.f2, .int .i64 x.f3], rfl, rfl, ⟨[.int .i64 x.f2], [.int .i64 x.f3], rfl, rfl, rfl⟩⟩⟩
def rd_T38 (xs : List S38) (i : Int) : S38 := xs.getD i.toNat z38
theorem xk {w : World} {A : Option Addr} {n : Nat} {xs : List S38} (h : Kd.C k38 w A n xs) (i : Int) (h0 : 0 ≤ i) (h1 : i < n) : ∃ ad , A = some ad ∧ w.cell? (ad.add (i.toNat * 4)) = some (.int .i64 (rd_T38 xs i).f0) ∧ w.cell? ⟨(ad.add (i.toNat * 4)).block, (ad.add (i.toNat * 4)).off + 1, none⟩ = some (.string (rd_T38 xs i).f1) ∧ w.cell? ⟨(ad.add (i.toNat * 4)).block, (ad.add (i.toNat * 4)).off + 2, none⟩ = some (.int .i64 (rd_T38 xs i).f2) ∧ w.cell? ⟨(ad.add (i.toNat * 4)).block, (ad.add (i.toNat * 4)).off + 3, none⟩ = some (.int .i64 (rd_T38 xs i).f3) := by
 obtain ⟨ad, c, e, _, hK, hc0⟩ := Kd.vY h z38 i h0 h1
 have hc : ∀ j u, c[j]? = some u → w.cell? (ad.add (i.toNat * 4 + j)) = some u := hc0
 obtain rfl := E8 hK
 exact ⟨ad, e, hc 0 _ rfl, by rw [← kF _ _ 1 (by omega)]; exact hc 1 _ rfl, by rw [← kF _ _ 2 (by omega)]; exact hc 2 _ rfl, by rw [← kF _ _ 3 (by omega)]; exact hc 3 _ rfl⟩
def pg (xs : List (List S41)) (i : Int) : (List S41) := xs.getD i.toNat ([] : List S41)
theorem JC {w : World} {A : Option Addr} {n : Nat} {xs : List (List S41)} (h : Kd.C (Kd.slice 41 k41) w A n xs) (i : Int) (h0 : 0 ≤ i) (h1 : i < n) : ∃ ad A0 c0, A = some ad ∧ w.cell? (ad.add i.toNat) = some (.slice A0 (pg xs i).length c0) ∧ (pg xs i).length ≤ c0 ∧ k41.C w A0 (pg xs i).length (pg xs i) := by
 obtain ⟨ad, c, e, _, hK, hc0⟩ := Kd.vY h ([] : List S41) i h0 h1
 have hc : ∀ j u, c[j]? = some u → w.cell? (ad.add (i.toNat * 1 + j)) = some u := hc0
 obtain ⟨A0, c0, rfl, l0, g0⟩ := hK
 exact ⟨ad, A0, c0, e, by have hq := hc 0 _ rfl; rwa [Nat.mul_one, Nat.add_zero] at hq, l0, g0⟩
end Go.Proofs.Ytendgafpkeadhaa.Q
end
section
namespace Go.Proofs.Ytendgafpkeadhaa.Q
open Go.RowKit Go.Proofs.YtendgafpkeadhaaW.PrintWords Go.Proofs.YtendgafpkeadhaaW.PrintLast Go.Proofs.YtendgafpkeadhaaW.PrintMore
attribute [local go_sem] max2_int min2_int max_two min_two max_three min_three max_four min_four
set_option linter.unusedVariables false
set_option linter.unusedSimpArgs false
/-- A state of type 55 at block g of W; what its slices lead to came in by w0. -/
def ai (w0 W : World) (g : Nat) (f0 : List (S38)) (f1 : Int) (f2 : Bool) : Prop := ∃ A0 c0, W.heap[g]? = some (.cells #[.slice A0 f0.length c0, .int .i64 f1, .bool f2] 55 (0, 0)) ∧ w0.heap.size ≤ g ∧ Kd.C k38 w0 A0 f0.length f0
theorem ai.grown {w0 W : World} {g : Nat} {f0 : List (S38)} {f1 : Int} {f2 : Bool} {W1 : World} {row : Option Nat} (h : ai w0 W g f0 f1 f2) (hw : W.grownBy W1 row) (hne : some g ≠ row) : ai w0 W1 g f0 f1 f2 := by
 obtain ⟨A0, c0, hb, hg, hr0⟩ := h
 exact ⟨A0, c0, jd hb hw hne, hg, hr0⟩
theorem ai.rV {w0 W : World} {g : Nat} {f0 : List (S38)} {f1 : Int} {f2 : Bool} {α : Type} {d : Kd α} {e : Nat} {base : Nat} {ok : Nat → Prop} {v : Value} {xs : List α} (h : ai w0 W g f0 f1 f2) (ho : Kd.N d e W base ok v xs) (ht : e ≠ 55) : some g ≠ v.ownBlock := by
 obtain ⟨A0, c0, hb, hg, hr0⟩ := h
 exact Kd.JR ho hb ht
theorem ai.fresh {w0 W : World} {g : Nat} {f0 : List (S38)} {f1 : Int} {f2 : Bool} (h : ai w0 W g f0 f1 f2) : ∀ k, W.heap.size ≤ k → k ≠ g := by
 obtain ⟨A0, c0, hb, hg, hr0⟩ := h
 exact Kd.nM hb
theorem ai.kept {w0 W : World} {g : Nat} {f0 : List (S38)} {f1 : Int} {f2 : Bool} {W1 : World} {S : Nat → Prop} (h : ai w0 W g f0 f1 f2) (hk : Kept W W1 S) (hne : ¬ S g) : ai w0 W1 g f0 f1 f2 := by
 obtain ⟨A0, c0, hb, hg, hr0⟩ := h
 exact ⟨A0, c0, EP hb hk hne, hg, hr0⟩
theorem ai.below {w0 W : World} {g : Nat} {f0 : List (S38)} {f1 : Int} {f2 : Bool} {W1 : World} (h : ai w0 W g f0 f1 f2) (hw : Below W.heap.size W W1) : ai w0 W1 g f0 f1 f2 := h.grown (nK hw none) (by simp)
theorem ai.alloc {w0 W : World} {g : Nat} {f0 : List (S38)} {f1 : Int} {f2 : Bool} (h : ai w0 W g f0 f1 f2) (o : Obj) : ai w0 (W.alloc o) g f0 f1 f2 := h.below (below_alloc (Below.refl _ _) o)
theorem ai.drewN {w0 W : World} {g : Nat} {f0 : List (S38)} {f1 : Int} {f2 : Bool} (h : ai w0 W g f0 f1 f2) (m : Nat) : ai w0 (W.drewN m) g f0 f1 f2 := h
theorem ai.drew {w0 W : World} {g : Nat} {f0 : List (S38)} {f1 : Int} {f2 : Bool} (h : ai w0 W g f0 f1 f2) : ai w0 W.drew g f0 f1 f2 := h
theorem ai.at_ {w0 W : World} {g : Nat} {f0 : List (S38)} {f1 : Int} {f2 : Bool} {w' : World} {m : Nat} (hq : W.drewN m = w') (h : ai w0 W g f0 f1 f2) : ai w0 w' g f0 f1 f2 := by subst hq; exact ai.drewN h m
theorem ai.apart {w0 W : World} {g : Nat} {f0 : List (S38)} {f1 : Int} {f2 : Bool} {α : Type} {d : Kd α} {e : Nat} {base : Nat} {ok : Nat → Prop} {v : Value} {xs : List α} (h : ai w0 W g f0 f1 f2) (ho : d.R e W base ok v xs) (ht : ∀ q, q ∈ e :: d.E → q ≠ 55) : d.R e W base (fun k => ok k ∧ k ≠ g) v xs := by
 obtain ⟨A0, c0, hb, hg, hr0⟩ := h
 exact Kd.xn ho hb ht
theorem ai.own_ne {w0 W : World} {g : Nat} {f0 : List (S38)} {f1 : Int} {f2 : Bool} {α : Type} {d : Kd α} {e : Nat} {base : Nat} {ok : Nat → Prop} {v : Value} {xs : List α} (h : ai w0 W g f0 f1 f2) (ho : d.R e W base ok v xs) (ht : e ≠ 55) : some g ≠ v.ownBlock := by
 obtain ⟨A0, c0, hb, hg, hr0⟩ := h
 exact Kd.Dh ho hb ht
theorem ai.gK {w0 W : World} {g : Nat} {f0 : List (S38)} {f1 : Int} {f2 : Bool} {α : Type} {d : Kd α} {e : Nat} {base : Nat} {ok : Nat → Prop} {v : Value} {xs : List α} (h : ai w0 W g f0 f1 f2) (ho : d.S e W base ok v xs) (ht : ∀ q, q ∈ e :: d.E → q ≠ 55) : d.S e W base (fun k => ok k ∧ k ≠ g) v xs := by
 obtain ⟨A0, c0, hb, hg, hr0⟩ := h
 exact Kd.GL ho hb ht
theorem ai.lQ {w0 W : World} {g : Nat} {f0 : List (S38)} {f1 : Int} {f2 : Bool} {α : Type} {d : Kd α} {e : Nat} {base : Nat} {ok : Nat → Prop} {v : Value} {xs : List α} (h : ai w0 W g f0 f1 f2) (ho : d.S e W base ok v xs) (ht : e ≠ 55) : some g ≠ v.ownBlock := by
 obtain ⟨A0, c0, hb, hg, hr0⟩ := h
 exact Kd.GM ho hb ht
theorem ai.lt {w0 W : World} {g : Nat} {f0 : List (S38)} {f1 : Int} {f2 : Bool} (h : ai w0 W g f0 f1 f2) : g < W.heap.size := by
 obtain ⟨A0, c0, hb, hg, hr0⟩ := h
 exact iE hb
theorem ai.ge {w0 W : World} {g : Nat} {f0 : List (S38)} {f1 : Int} {f2 : Bool} (h : ai w0 W g f0 f1 f2) : w0.heap.size ≤ g := by
 obtain ⟨A0, c0, hb, hg, hr0⟩ := h
 exact hg
theorem ai.far {w0 W : World} {g : Nat} {f0 : List (S38)} {f1 : Int} {f2 : Bool} {p : Addr} (h : ai w0 W g f0 f1 f2) (hne : g ≠ p.block) (u : Value) : ai w0 (W.setCell p u) g f0 f1 f2 := by
 obtain ⟨A0, c0, hb, hg, hr0⟩ := h
 exact ⟨A0, c0, eF hb hne u, hg, hr0⟩
theorem dH {W : World} {g : Nat} {A0 : Option Addr} {c0 : Nat} {f0 : List (S38)} {f1 : Int} {f2 : Bool} (h : W.heap[g]? = some (.cells #[.slice A0 f0.length c0, .int .i64 f1, .bool f2] 55 (0, 0))) : W.cell? ⟨g, 0, none⟩ = some (.slice A0 f0.length c0) := (af h 0).trans rfl
theorem dG {W : World} {g : Nat} {A0 : Option Addr} {c0 : Nat} {f0 : List (S38)} {f1 : Int} {f2 : Bool} (h : W.heap[g]? = some (.cells #[.slice A0 f0.length c0, .int .i64 f1, .bool f2] 55 (0, 0))) : W.cell? ⟨g, 1, none⟩ = some (.int .i64 f1) := (af h 1).trans rfl
theorem ai.oW {w0 W : World} {g : Nat} {f0 : List (S38)} {f1 : Int} {f2 : Bool} (h : ai w0 W g f0 f1 f2) (x : Int) : ai w0 (W.setCell ⟨g, 1, none⟩ (.int .i64 x)) g f0 x f2 := by
 obtain ⟨A0, c0, hb, hg, hr0⟩ := h
 exact ⟨A0, c0, by simpa using xg hb 1 (.int .i64 x), hg, hr0⟩
theorem dF {W : World} {g : Nat} {A0 : Option Addr} {c0 : Nat} {f0 : List (S38)} {f1 : Int} {f2 : Bool} (h : W.heap[g]? = some (.cells #[.slice A0 f0.length c0, .int .i64 f1, .bool f2] 55 (0, 0))) : W.cell? ⟨g, 2, none⟩ = some (.bool f2) := (af h 2).trans rfl
theorem ai.oV {w0 W : World} {g : Nat} {f0 : List (S38)} {f1 : Int} {f2 : Bool} (h : ai w0 W g f0 f1 f2) (x : Bool) : ai w0 (W.setCell ⟨g, 2, none⟩ (.bool x)) g f0 f1 x := by
 obtain ⟨A0, c0, hb, hg, hr0⟩ := h
 exact ⟨A0, c0, by simpa using xg hb 2 (.bool x), hg, hr0⟩
theorem ai.uK {w0 W : World} {g : Nat} {f0 : List (S38)} {f1 : Int} {f2 : Bool} {b j : Nat} {u : Value} (h : ai w0 W g f0 f1 f2) (hne : g ≠ b) : ai w0 (W.setCell ⟨b, j, none⟩ u) g f0 f1 f2 := ai.far h (p := ⟨b, j, none⟩) hne u
theorem iY (a : Int) (b : ByteArray) (c d : Int) (w : World) : (Instr.field 38 (.agg #[.int .i64 a, .string b, .int .i64 c, .int .i64 d]) 0).run Try.prog w = .ok (.int .i64 a) w := by kernel_rfl
theorem iW (a : Int) (b : ByteArray) (c d : Int) (w : World) : (Instr.field 38 (.agg #[.int .i64 a, .string b, .int .i64 c, .int .i64 d]) 1).run Try.prog w = .ok (.string b) w := by kernel_rfl
theorem iV (a : Int) (b : ByteArray) (c d : Int) (w : World) : (Instr.field 38 (.agg #[.int .i64 a, .string b, .int .i64 c, .int .i64 d]) 2).run Try.prog w = .ok (.int .i64 c) w := by kernel_rfl
theorem iU (a : Int) (b : ByteArray) (c d : Int) (w : World) : (Instr.field 38 (.agg #[.int .i64 a, .string b, .int .i64 c, .int .i64 d]) 3).run Try.prog w = .ok (.int .i64 d) w := by kernel_rfl
end Go.Proofs.Ytendgafpkeadhaa.Q
end
section
set_option linter.unusedVariables false
set_option linter.unusedSimpArgs false
namespace Go.Proofs.Ytendgafpkeadhaa.Q
open Go.RowKit Go.Proofs.YtendgafpkeadhaaW.PrintWords Go.Proofs.YtendgafpkeadhaaW.PrintLast Go.Proofs.YtendgafpkeadhaaW.PrintMore
structure Fam where
 expr : List S38 → Int → Bool → Option (List S41 × Int × Bool)
 block : List S38 → Int → Bool → Option (List S41 × Int × Bool)
 bound : List S38 → Int → Bool → Int → Option (List S41 × Int × Bool)
 unary : List S38 → Int → Bool → Option (List S41 × Int × Bool)
/-- What a call of the reader's does: nodes are made, the reader goes on. -/
def Reads (f : Nat) (args : Array Value) (g : Nat) (s0 : List S38) (r1 : List S41) (r2 : Int) (r3 : Bool) (w0 w : World) : Prop :=
 Calls Try.prog f (#[.pointer (some ⟨g, 0, none⟩)] ++ args) w fun e w' => ∃ v0_ : Value, e = .returned (v0_) ∧ Kd.R k41 41 w' w.heap.size (fun _ => True) v0_ r1 ∧ ai w0 w' g s0 r2 r3 ∧ Below w0.heap.size w0 w' ∧ ag w w' g none
structure kL (F : Fam) : Prop where
 expr : ∀ g s0 s1 s2 r1 r2 r3 w0 w, ai w0 w g s0 s1 s2 → Below w0.heap.size w0 w → F.expr s0 s1 s2 = some (r1, r2, r3) → Reads 77 #[] g s0 r1 r2 r3 w0 w
 block : ∀ g s0 s1 s2 r1 r2 r3 w0 w, ai w0 w g s0 s1 s2 → Below w0.heap.size w0 w → F.block s0 s1 s2 = some (r1, r2, r3) → Reads 74 #[] g s0 r1 r2 r3 w0 w
 bound : ∀ g s0 s1 s2 a1 r1 r2 r3 w0 w, ai w0 w g s0 s1 s2 → Below w0.heap.size w0 w → F.bound s0 s1 s2 a1 = some (r1, r2, r3) → Reads 80 #[.int .i64 a1] g s0 r1 r2 r3 w0 w
 unary : ∀ g s0 s1 s2 r1 r2 r3 w0 w, ai w0 w g s0 s1 s2 → Below w0.heap.size w0 w → F.unary s0 s1 s2 = some (r1, r2, r3) → Reads 82 #[] g s0 r1 r2 r3 w0 w
structure ji (F F' : Fam) : Prop where
 expr : ∀ a b c, LeO (F.expr a b c) (F'.expr a b c)
 block : ∀ a b c, LeO (F.block a b c) (F'.block a b c)
 bound : ∀ a b c d, LeO (F.bound a b c d) (F'.bound a b c d)
 unary : ∀ a b c, LeO (F.unary a b c) (F'.unary a b c)
def fE.f (F : Fam) (_k : Nat) (s0 : List S38) (s1 : Int) (s2 : Bool) : Option (List S41 × Int × Bool) := F.expr s0 s1 s2
def iy.f (F : Fam) (_k : Nat) (s0 : List S38) (s1 : Int) (s2 : Bool) : Option (List S41 × Int × Bool) := F.block s0 s1 s2
def kN.f (F : Fam) (_k : Nat) (s0 : List S38) (s1 : Int) (s2 : Bool) (a1 : Int) : Option (List S41 × Int × Bool) := F.bound s0 s1 s2 a1
def kM.f (F : Fam) (_k : Nat) (s0 : List S38) (s1 : Int) (s2 : Bool) : Option (List S41 × Int × Bool) := F.unary s0 s1 s2
theorem fE.mono {F F' : Fam} (HLE : ji F F') (a b c) (k : Nat) : LeO (fE.f F k a b c) (fE.f F' (k + 1) a b c) := HLE.expr a b c
theorem iy.mono {F F' : Fam} (HLE : ji F F') (a b c) (k : Nat) : LeO (iy.f F k a b c) (iy.f F' (k + 1) a b c) := HLE.block a b c
theorem kN.mono {F F' : Fam} (HLE : ji F F') (a b c d) (k : Nat) : LeO (kN.f F k a b c d) (kN.f F' (k + 1) a b c d) := HLE.bound a b c d
theorem kM.mono {F F' : Fam} (HLE : ji F F') (a b c) (k : Nat) : LeO (kM.f F k a b c) (kM.f F' (k + 1) a b c) := HLE.unary a b c
theorem fE.calls (F : Fam) (HF : kL F) (k : Nat) (g : Nat) (s0_0 : List S38) (s0_1 : Int) (s0_2 : Bool) (r1 : List S41) (r2 : Int) (r3 : Bool) (w0 w : World) (hI : ai w0 w g s0_0 s0_1 s0_2) (hB : Below w0.heap.size w0 w) (h : fE.f F k s0_0 s0_1 s0_2 = some (r1, r2, r3)) :
 Calls Try.prog 77 #[.pointer (some ⟨g, 0, none⟩)] w fun e w' => ∃ v0_ : Value, e = .returned (v0_) ∧ Kd.R k41 41 w' w.heap.size (fun _ => True) v0_ r1 ∧ ai w0 w' g s0_0 r2 r3 ∧ Below w0.heap.size w0 w' ∧ ag w w' g none := HF.expr g s0_0 s0_1 s0_2 r1 r2 r3 w0 w hI hB h
theorem iy.calls (F : Fam) (HF : kL F) (k : Nat) (g : Nat) (s0_0 : List S38) (s0_1 : Int) (s0_2 : Bool) (r1 : List S41) (r2 : Int) (r3 : Bool) (w0 w : World) (hI : ai w0 w g s0_0 s0_1 s0_2) (hB : Below w0.heap.size w0 w) (h : iy.f F k s0_0 s0_1 s0_2 = some (r1, r2, r3)) :
 Calls Try.prog 74 #[.pointer (some ⟨g, 0, none⟩)] w fun e w' => ∃ v0_ : Value, e = .returned (v0_) ∧ Kd.R k41 41 w' w.heap.size (fun _ => True) v0_ r1 ∧ ai w0 w' g s0_0 r2 r3 ∧ Below w0.heap.size w0 w' ∧ ag w w' g none := HF.block g s0_0 s0_1 s0_2 r1 r2 r3 w0 w hI hB h
theorem kM.calls (F : Fam) (HF : kL F) (k : Nat) (g : Nat) (s0_0 : List S38) (s0_1 : Int) (s0_2 : Bool) (r1 : List S41) (r2 : Int) (r3 : Bool) (w0 w : World) (hI : ai w0 w g s0_0 s0_1 s0_2) (hB : Below w0.heap.size w0 w) (h : kM.f F k s0_0 s0_1 s0_2 = some (r1, r2, r3)) :
 Calls Try.prog 82 #[.pointer (some ⟨g, 0, none⟩)] w fun e w' => ∃ v0_ : Value, e = .returned (v0_) ∧ Kd.R k41 41 w' w.heap.size (fun _ => True) v0_ r1 ∧ ai w0 w' g s0_0 r2 r3 ∧ Below w0.heap.size w0 w' ∧ ag w w' g none := HF.unary g s0_0 s0_1 s0_2 r1 r2 r3 w0 w hI hB h
theorem kN.calls (F : Fam) (HF : kL F) (k : Nat) (g : Nat) (s0_0 : List S38) (s0_1 : Int) (s0_2 : Bool) (a1 : Int) (r1 : List S41) (r2 : Int) (r3 : Bool) (w0 w : World) (hI : ai w0 w g s0_0 s0_1 s0_2) (hB : Below w0.heap.size w0 w) (h : kN.f F k s0_0 s0_1 s0_2 a1 = some (r1, r2, r3)) :
 Calls Try.prog 80 #[.pointer (some ⟨g, 0, none⟩), .int .i64 a1] w fun e w' => ∃ v0_ : Value, e = .returned (v0_) ∧ Kd.R k41 41 w' w.heap.size (fun _ => True) v0_ r1 ∧ ai w0 w' g s0_0 r2 r3 ∧ Below w0.heap.size w0 w' ∧ ag w w' g none := HF.bound g s0_0 s0_1 s0_2 a1 r1 r2 r3 w0 w hI hB h
end Go.Proofs.Ytendgafpkeadhaa.Q
end
section
set_option linter.unusedVariables false
set_option linter.unusedSimpArgs false
namespace Go.Proofs.Ytendgafpkeadhaa.Q
open Go.RowKit Go.Proofs.YtendgafpkeadhaaW.PrintWords Go.Proofs.YtendgafpkeadhaaW.PrintLast Go.Proofs.YtendgafpkeadhaaW.PrintMore
def gu.f (s0 : List S38) (s1 : Int) (s2 : Bool) : Option (Int × ByteArray × Int × Int × Bool × Int × Bool) :=
 if s2 = true then some (0, (⟨#[]⟩ : ByteArray), 0, 0, false, s1, s2) else if s1 ≥ (s0.length : Int) then some (0, (⟨#[]⟩ : ByteArray), 0, 0, false, s1, s2)
 else if 0 ≤ s1 then some ((rd_T38 s0 s1).f0, (rd_T38 s0 s1).f1, (rd_T38 s0 s1).f2, (rd_T38 s0 s1).f3, true, s1, s2) else none
set_option maxHeartbeats 8000000 in
set_option maxRecDepth 100000 in
theorem gu.calls (g : Nat) (s0_0 : List S38) (s0_1 : Int) (s0_2 : Bool) (r1 : Int) (r2 : ByteArray) (r3 : Int) (r4 : Int) (r5 : Bool) (r6 : Int) (r7 : Bool) (w0 w : World) (hI : ai w0 w g s0_0 s0_1 s0_2) (hB : Below w0.heap.size w0 w) (h : gu.f s0_0 s0_1 s0_2 = some (r1, r2, r3, r4, r5, r6, r7)) :
 Calls Try.prog 70 #[.pointer (some ⟨g, 0, none⟩)] w fun e w' => e = .returned (.tuple #[.agg #[.int .i64 r1, .string r2, .int .i64 r3, .int .i64 r4], .bool r5]) ∧ ai w0 w' g s0_0 r6 r7 ∧ Below w0.heap.size w0 w' ∧ ag w w' g none := by
 have HI0 := Aside0.mk hI
 have HB := Aside0.mk hB
 clear hI hB
 unfold gu.f at h
 have HQ := Aside0.mk h
 clear h
 go_enter Try.func70, Try.ntmps70
 go_upto_region 1 with (first | ((with_reducible refine bJ (N := 2) rfl ?_); refine bU ?hg (N := 2) ?hd (cs := #[.int .i64 0, .string (⟨#[]⟩ : ByteArray), .int .i64 0, .int .i64 0]) (t := 38) ?hr ?_; (case hd => rfl); (case hg => rfl); (case hr => first | (go_simp; done) | (go_simp; rfl)); intro gb hg w1 hbox hb; have HI1 := Aside0.mk (HI0.out.below hb); have HB1 := Aside0.mk (below_step HB.out hb); have HK1 := Aside0.mk (ag.of_below hb g none); have BX := Aside0.mk hbox; have GB := Aside0.mk (show w.heap.size ≤ gb by rw [hg]; exact Nat.le_refl _); have GW := Aside0.mk (show w0.heap.size ≤ gb by rw [hg]; exact HB.out.size); have GN := Aside0.mk (show gb ≠ g by rw [hg]; exact HI0.out.fresh _ (Nat.le_refl _)); clear hbox hb hg))
 obtain ⟨ASz, cSz, HGz, hgz, HSz⟩ := HI1.out
 have hcz0 := dH HGz
 have hcz1 := dG HGz
 have hcz2 := dF HGz
 clear HGz hgz
 have hcb0 : w1.cell? ⟨gb, 0, none⟩ = some (.int .i64 0) := (af BX.out 0).trans rfl
 have hcb1 : w1.cell? ⟨gb, 1, none⟩ = some (.string (⟨#[]⟩ : ByteArray)) := (af BX.out 1).trans rfl
 have hcb2 : w1.cell? ⟨gb, 2, none⟩ = some (.int .i64 0) := (af BX.out 2).trans rfl
 have hcb3 : w1.cell? ⟨gb, 3, none⟩ = some (.int .i64 0) := (af BX.out 3).trans rfl
 have hfb0 := ae BX.out 0
 have hfb1 := ae BX.out 1
 have hfb2 := ae BX.out 2
 have hfb3 := ae BX.out 3
 have h := HQ.out
 clear HQ
 by_cases c1 : s0_2 = true
 ·rw [if_pos c1] at h
  subst c1
  cases h
  go_quiet (fail)
  go_wp2
  refine bodyPost_ret (pO rfl _ _ gb 38 #[.int .i64 0, .string (⟨#[]⟩ : ByteArray), .int .i64 0, .int .i64 0] (0, 0) _ rfl (by (with_reducible repeat (first | refine lh ?_ _ | refine lF ?_)); refine aA (cs := #[.int .i64 0, .string (⟨#[]⟩ : ByteArray), .int .i64 0, .int .i64 0]) ?_ 3 _ rfl; refine aA (cs := #[.int .i64 0, .string (⟨#[]⟩ : ByteArray), .int .i64 0, .int .i64 0]) ?_ 2 _ rfl; refine aA (cs := #[.int .i64 0, .string (⟨#[]⟩ : ByteArray), .int .i64 0, .int .i64 0]) ?_ 1 _ rfl; refine aA (cs := #[.int .i64 0, .string (⟨#[]⟩ : ByteArray), .int .i64 0, .int .i64 0]) ?_ 0 _ rfl; (with_reducible repeat (first | refine lh ?_ _ | refine lF ?_)); exact BX.out) Try.underlying38 rfl (by kernel_rfl)) rfl ?_
  exact ⟨rfl, Z70, Z71, Z72⟩
 have c1' : s0_2 = false := Bool.eq_false_iff.2 c1
 rw [if_neg c1] at h
 subst c1'
 clear c1
 by_cases c2 : s0_1 ≥ (s0_0.length : Int)
 ·rw [if_pos c2] at h
  cases h
  have c2b : decide ((s0_0.length : Int) ≤ s0_1) = true := decide_eq_true c2
  go_quiet (fail)
  go_wp2
  refine bodyPost_ret (pO rfl _ _ gb 38 #[.int .i64 0, .string (⟨#[]⟩ : ByteArray), .int .i64 0, .int .i64 0] (0, 0) _ rfl (by (with_reducible repeat (first | refine lh ?_ _ | refine lF ?_)); refine aA (cs := #[.int .i64 0, .string (⟨#[]⟩ : ByteArray), .int .i64 0, .int .i64 0]) ?_ 3 _ rfl; refine aA (cs := #[.int .i64 0, .string (⟨#[]⟩ : ByteArray), .int .i64 0, .int .i64 0]) ?_ 2 _ rfl; refine aA (cs := #[.int .i64 0, .string (⟨#[]⟩ : ByteArray), .int .i64 0, .int .i64 0]) ?_ 1 _ rfl; refine aA (cs := #[.int .i64 0, .string (⟨#[]⟩ : ByteArray), .int .i64 0, .int .i64 0]) ?_ 0 _ rfl; (with_reducible repeat (first | refine lh ?_ _ | refine lF ?_)); exact BX.out) Try.underlying38 rfl (by kernel_rfl)) rfl ?_
  exact ⟨rfl, Z70, Z71, Z72⟩
 rw [if_neg c2] at h
 have c2b : decide ((s0_0.length : Int) ≤ s0_1) = false := decide_eq_false c2
 by_cases c3 : 0 ≤ s0_1
 ·rw [if_pos c3] at h
  cases h
  obtain ⟨ad, ead, hx0, hx1, hx2, hx3⟩ := xk HSz s0_1 c3 (by omega)
  cases ead
  replace hx0 := dY HB1.out hx0
  replace hx1 := dY HB1.out hx1
  replace hx2 := dY HB1.out hx2
  replace hx3 := dY HB1.out hx3
  have p3 := eq_true c3
  have q3 := eq_true (show s0_1 < (s0_0.length : Int) by omega)
  clear c2 c3
  go_quiet (fail)
  go_wp2
  go_region
  go_wp2
  refine bodyPost_ret (pO rfl _ _ gb 38 #[.int .i64 (rd_T38 s0_0 s0_1).f0, .string (rd_T38 s0_0 s0_1).f1, .int .i64 (rd_T38 s0_0 s0_1).f2, .int .i64 (rd_T38 s0_0 s0_1).f3] (0, 0) _ rfl (by (with_reducible repeat (first | refine lh ?_ _ | refine lF ?_)); refine aA (cs := #[.int .i64 (rd_T38 s0_0 s0_1).f0, .string (rd_T38 s0_0 s0_1).f1, .int .i64 (rd_T38 s0_0 s0_1).f2, .int .i64 0]) ?_ 3 _ rfl; refine aA (cs := #[.int .i64 (rd_T38 s0_0 s0_1).f0, .string (rd_T38 s0_0 s0_1).f1, .int .i64 0, .int .i64 0]) ?_ 2 _ rfl; refine aA (cs := #[.int .i64 (rd_T38 s0_0 s0_1).f0, .string (⟨#[]⟩ : ByteArray), .int .i64 0, .int .i64 0]) ?_ 1 _ rfl; refine aA (cs := #[.int .i64 0, .string (⟨#[]⟩ : ByteArray), .int .i64 0, .int .i64 0]) ?_ 0 _ rfl; (with_reducible repeat (first | refine lh ?_ _ | refine lF ?_)); exact BX.out) Try.underlying38 rfl (by kernel_rfl)) rfl ?_
  exact ⟨rfl, Z70, Z71, Z72⟩
 rw [if_neg c3] at h
 cases h
end Go.Proofs.Ytendgafpkeadhaa.Q
end
section
namespace Go.Proofs.Ytendgafpkeadhaa.Q
open Go.RowKit Go.Proofs.YtendgafpkeadhaaW.PrintWords Go.Proofs.YtendgafpkeadhaaW.PrintLast Go.Proofs.YtendgafpkeadhaaW.PrintMore
attribute [local go_sem] max2_int min2_int max_two min_two max_three min_three max_four min_four
set_option linter.unusedVariables false
set_option linter.unusedSimpArgs false
/-! ### ik: function 29 -/
def ik.f (a0 : Int) : Option (Int × Int) := if a0 = 1 then (some (1, 2147483647)) else (if a0 = 2 then (some (0, 8)) else (some (0, 9223372036854775807)))
set_option maxHeartbeats 8000000 in
set_option maxRecDepth 100000 in
theorem ik.calls (a0 : Int) (r1 : Int) (r2 : Int) (w : World) (h : ik.f a0 = some (r1, r2)) :
 Calls Try.prog 29 #[.int .i64 a0] w fun e w' => e = .returned (.tuple #[.int .i64 r1, .int .i64 r2]) ∧ dw w w' := by
 have H := h
 clear h
 unfold ik.f at H
 revert H
 refine aJ (fun c2b0 c2b1 H => ?_) fun c2 c2b0 c2b1 H => ?_
 ·simp only [Option.some.injEq, Prod.mk.injEq] at H
  obtain ⟨rfl, rfl⟩ := H
  go_enter Try.func29, Try.ntmps29
  go_wp2
  go_ret2
  exact ⟨Z6, Z8⟩
 revert H
 refine aJ (fun c3b0 c3b1 H => ?_) fun c3 c3b0 c3b1 H => ?_
 ·simp only [Option.some.injEq, Prod.mk.injEq] at H
  obtain ⟨rfl, rfl⟩ := H
  go_enter Try.func29, Try.ntmps29
  go_wp2
  go_ret2
  exact ⟨Z6, Z8⟩
 simp only [Option.some.injEq, Prod.mk.injEq] at H
 obtain ⟨rfl, rfl⟩ := H
 go_enter Try.func29, Try.ntmps29
 go_wp2
 go_ret2
 exact ⟨Z6, Z8⟩
-- NOT PRINTED: function 41 (lex_head)
/-! ### eu: function 44 -/
def eu.f (a0 : Int) : Option (Bool) := if a0 ≥ 97 then (some (decide (a0 ≤ 122))) else (some false)
set_option maxHeartbeats 8000000 in
set_option maxRecDepth 100000 in
theorem eu.calls (a0 : Int) (r : Bool) (w : World) (h : eu.f a0 = some r) :
 Calls Try.prog 44 #[.int .i32 a0] w fun e w' => e = .returned (.bool r) ∧ dw w w' := by
 have H := h
 clear h
 unfold eu.f at H
 revert H
 refine dX (fun c2 H => ?_) fun c2 H => ?_
 ·have c2b0 : decide (97 ≤ a0) = true := decide_eq_true c2
  clear c2
  obtain rfl := Option.some.inj H
  go_enter Try.func44, Try.ntmps44
  go_wp2
  go_ret
  exact ⟨Z6, Z8⟩
 have c2b0 : decide (97 ≤ a0) = false := decide_eq_false c2
 clear c2
 obtain rfl := Option.some.inj H
 go_enter Try.func44, Try.ntmps44
 go_wp2
 go_ret
 exact ⟨Z6, Z8⟩
/-! ### gq: function 47 -/
def gq.f (a0 : Int) : Option (Bool) := if a0 ≥ 48 then (some (decide (a0 ≤ 57))) else (some false)
set_option maxHeartbeats 8000000 in
set_option maxRecDepth 100000 in
theorem gq.calls (a0 : Int) (r : Bool) (w : World) (h : gq.f a0 = some r) :
 Calls Try.prog 47 #[.int .i32 a0] w fun e w' => e = .returned (.bool r) ∧ dw w w' := by
 have H := h
 clear h
 unfold gq.f at H
 revert H
 refine dX (fun c2 H => ?_) fun c2 H => ?_
 ·have c2b0 : decide (48 ≤ a0) = true := decide_eq_true c2
  clear c2
  obtain rfl := Option.some.inj H
  go_enter Try.func47, Try.ntmps47
  go_wp2
  go_ret
  exact ⟨Z6, Z8⟩
 have c2b0 : decide (48 ≤ a0) = false := decide_eq_false c2
 clear c2
 obtain rfl := Option.some.inj H
 go_enter Try.func47, Try.ntmps47
 go_wp2
 go_ret
 exact ⟨Z6, Z8⟩
/-! ### lex_inner: function 45 -/
/-! ### iK: function 58 -/
def iK.f (a0 : ByteArray) : Option (Bool) := if a0.toList = ([] : List UInt8) then (some false) else (if 0 < (a0.size : Int) then ((eu.f (wrap32 (bt a0 0))).bind fun t122 => (if t122 = true then ((iM.f a0).bind fun t123 => (some ((t123.size : Int) == (a0.size : Int)))) else (some false))) else (none))
set_option maxHeartbeats 8000000 in
set_option maxRecDepth 100000 in
theorem iK.calls (a0 : ByteArray) (r : Bool) (w : World) (h : iK.f a0 = some r) :
 Calls Try.prog 58 #[.string a0] w fun e w' => e = .returned (.bool r) ∧ Below w.heap.size w w' := by
 have HB := Aside0.mk (Below.refl w.heap.size w)
 have H := h
 clear h
 unfold iK.f at H
 revert H
 refine aJ (fun c2b0 c2b1 H => ?_) fun c2 c2b0 c2b1 H => ?_
 ·obtain rfl := Option.some.inj H
  go_enter Try.func58, Try.ntmps58
  go_wp2
  go_ret
  exact ⟨Z4, Z3⟩
 revert H
 refine jX (fun c3 c3b0 H => ?_) fun c3 H => ?_
 ·have c3b1 : decide (0 < a0.size) = true := decide_eq_true (by omega)
  clear c3
  revert H
  refine yB1 fun t122 A5 H => ?_
  cases t122
  rotate_left
  ·replace H := yT H
   revert H
   refine yB1 fun t123 A7 H => ?_
   obtain rfl := Option.some.inj H
   have p4 : 0 ≤ (0 : Int) := (by omega)
   have q4 : 0 < a0.size := (by have : (0 : Int) < (a0.size : Int) := of_decide_eq_true Z5; omega)
   have hx4 : ∀ h : 0 < a0.size, ((a0[0]'h).toNat : Int) = bt a0 0 := dL a0 0
   clear p4
   have qi4 : (0 < (a0.size : Int)) = True := eq_true (of_decide_eq_true Z5)
   replace q4 := eq_true q4
   go_enter Try.func58, Try.ntmps58
   go_wp2_with (first | (go_at_call 44; (with_reducible refine (eu.calls (wrap32 (bt a0 0)) true _ A5.out).mono ?_); rintro e w' ⟨rfl, ⟨nd, rfl⟩⟩) | (go_at_call 41; (with_reducible refine (iM.calls a0 t123 _ A7.out).mono ?_); rintro e w8 ⟨rfl, hb⟩; refine yA1 (below_step Z3 hb) ?_; clear HB; intro HB; (try clear hb)))
   go_ret
   exact ⟨Z4, Z3⟩
  replace H := yF H
  obtain rfl := Option.some.inj H
  have p4 : 0 ≤ (0 : Int) := (by omega)
  have q4 : 0 < a0.size := (by have : (0 : Int) < (a0.size : Int) := of_decide_eq_true Z5; omega)
  have hx4 : ∀ h : 0 < a0.size, ((a0[0]'h).toNat : Int) = bt a0 0 := dL a0 0
  clear p4
  have qi4 : (0 < (a0.size : Int)) = True := eq_true (of_decide_eq_true Z5)
  replace q4 := eq_true q4
  go_enter Try.func58, Try.ntmps58
  go_wp2_with (first | (go_at_call 44; (with_reducible refine (eu.calls (wrap32 (bt a0 0)) false _ A5.out).mono ?_); rintro e w' ⟨rfl, ⟨nd, rfl⟩⟩))
  go_ret
  exact ⟨Z4, Z3⟩
 exact absurd H (by simp)
end Go.Proofs.Ytendgafpkeadhaa.Q
end
section
namespace Go.Proofs.Ytendgafpkeadhaa.Q
open Go.RowKit Go.Proofs.YtendgafpkeadhaaW.PrintWords Go.Proofs.YtendgafpkeadhaaW.PrintLast Go.Proofs.YtendgafpkeadhaaW.PrintMore
attribute [local go_sem] max2_int min2_int max_two min_two max_three min_three max_four min_four
set_option linter.unusedVariables false
set_option linter.unusedSimpArgs false
/-! ### bY: function 68 -/
def bY.l0 : Nat → ByteArray → ByteArray → Int → Option (Bool)
 | 0, _, _, _ => none
 | k + 1, x0, x1, x5 => if (wrap64 (x5 + (x1.size : Int))) ≤ (x0.size : Int) then (if 0 ≤ x5 then (if x5 ≤ (wrap64 (x5 + (x1.size : Int))) then (if (x0.extract (x5 : Int).toNat ((wrap64 (x5 + (x1.size : Int))) : Int).toNat).toList = x1.toList then (some true) else (bY.l0 k x0 x1 (wrap64 (x5 + 1)))) else (none)) else (none)) else (some false)
def bY.f (k : Nat) (a0 : ByteArray) (a1 : ByteArray) : Option (Bool) := bY.l0 k a0 a1 0
theorem bY.mono_l : ∀ k, (∀ y0 y1 y2, LeO (bY.l0 k y0 y1 y2) (bY.l0 (k + 1) y0 y1 y2))
 | 0 => fun _ _ _ r h => by simp [bY.l0] at h
 | k + 1 => by
  have ih0 := bY.mono_l k
  intro y0 y1 y2
  unfold bY.l0
  exact yL
theorem bY.mono : ∀ a0 a1 k, LeO (bY.f k a0 a1) (bY.f (k + 1) a0 a1) := by
 intro a0 a1 k
 have ih0 := bY.mono_l k
 unfold bY.f
 exact yL
set_option maxHeartbeats 8000000 in
set_option maxRecDepth 100000 in
theorem bY.calls (k : Nat) (a0 : ByteArray) (a1 : ByteArray) (r : Bool) (w : World) (h : bY.f k a0 a1 = some r) :
 Calls Try.prog 68 #[.string a0, .string a1] w fun e w' => e = .returned (.bool r) ∧ dw w w' := by
 have H := h
 clear h
 unfold bY.f at H
 have H' := Aside0.mk H
 clear H
 go_enter Try.func68, Try.ntmps68
 go_wp2
 go_loopg [5] k (fun kq v5 w' => ∃ (x5_1 : Int), v5 = .int .i64 x5_1 ∧ Aside0 (bY.l0 kq a0 a1 x5_1 = some r) ∧ Aside0 (kq ≤ k) ∧ dw w w')
 case atStart => exact ⟨(0), Z6, H', ⟨Nat.le_refl _⟩, Z8⟩
 case round =>
  clear H'
  try clear p2
  obtain ⟨x5_1, rfl, HA, HK1, ⟨m1, rfl⟩⟩ := hrel
  cases gk with
  | zero => exact absurd HA.out (by simp [bY.l0])
  | succ k1 =>
   have H := HA.out
   clear HA
   simp only [bY.l0] at H
   revert H
   refine fO (fun c3b0 H => ?_) fun c3b0 H => ?_
   ·revert H
    refine fU (fun c4b0 c4b1 H => ?_) fun c4 H => ?_
    ·revert H
     refine fB (fun c5 c5b0 c5b1 H => ?_) fun c5 H => ?_
     ·have c6b0 := eq_true (of_decide_eq_true Z5 : (wrap64 (x5_1 + (a1.size : Int))) ≤ (a0.size : Int))
      revert H
      refine aJ (fun c7b0 c7b1 H => ?_) fun c7 c7b0 c7b1 H => ?_
      ·obtain rfl := Option.some.inj H
       go_wp2
       go_ret
       exact ⟨Z6, Z8⟩
      have H' := Aside0.mk H
      clear H
      go_wp2
      go_roundg k1
      case measure => have := HK1.out; omega
      case rel => exact ⟨(wrap64 (x5_1 + 1)), Z6, H', ⟨by have := HK1.out; omega⟩, Z8⟩
     exact absurd H (by simp)
    exact absurd H (by simp)
   obtain rfl := Option.some.inj H
   go_wp2
   go_ret
   exact ⟨Z6, Z8⟩
/-! ### gV: function 46 -/
def gV.f (k : Nat) (a0 : ByteArray) : Option (Bool) := (iK.f a0).bind fun t124 => (if t124 = true then (if 1 + a0.size ≤ 9223372036854775807 then (if ((⟨#[32]⟩ : ByteArray) ++ a0).size + 1 ≤ 9223372036854775807 then ((bY.f k (⟨#[32, 109, 111, 100, 117, 108, 101, 32, 117, 115, 101, 32, 102, 110, 32, 108, 101, 116, 32, 105, 102, 32, 101, 108, 115, 101, 32, 119, 104, 105, 108, 101, 32, 98, 114, 101, 97, 107, 32, 99, 111, 110, 116, 105, 110, 117, 101, 32, 114, 101, 116, 117, 114, 110, 32, 112, 117, 116, 32, 101, 109, 105, 116, 32, 121, 105, 101, 108, 100, 32, 110, 105, 108, 32, 115, 116, 97, 116, 101, 32, 115, 112, 97, 119, 110, 32, 108, 101, 110, 32, 110, 111, 116, 32, 97, 110, 100, 32, 111, 114, 32]⟩ : ByteArray) (((⟨#[32]⟩ : ByteArray) ++ a0) ++ (⟨#[32]⟩ : ByteArray))).bind fun t125 => (some t125)) else (none)) else (none)) else (some false))
theorem gV.mono : ∀ a0 k, LeO (gV.f k a0) (gV.f (k + 1) a0) := by
 intro a0 k
 unfold gV.f
 have m0 := bY.mono
 exact yL
set_option maxHeartbeats 8000000 in
set_option maxRecDepth 100000 in
theorem gV.calls (k : Nat) (a0 : ByteArray) (r : Bool) (w : World) (h : gV.f k a0 = some r) :
 Calls Try.prog 46 #[.string a0] w fun e w' => e = .returned (.bool r) ∧ Below w.heap.size w w' := by
 have HB := Aside0.mk (Below.refl w.heap.size w)
 have H := h
 clear h
 unfold gV.f at H
 revert H
 refine yB1 fun t124 A2 H => ?_
 cases t124
 rotate_left
 ·replace H := yT H
  revert H
  refine fB (fun c4 c4b0 c4b1 H => ?_) fun c4 H => ?_
  ·try have c4b2 : (9223372036854775807 < 1 + a0.size) = False := eq_false (Nat.not_lt.2 c4)
   revert H
   refine fB (fun c5 c5b0 c5b1 H => ?_) fun c5 H => ?_
   ·have c5s := c5
    simp only [ByteArray.size_append, show ((⟨#[32]⟩ : ByteArray)).size = 1 from rfl] at c5s
    have c5t := eq_true c5s
    have c5u := eq_false (Nat.not_lt.2 c5s)
    clear c5s
    try have c5b2 : (9223372036854775807 < ((⟨#[32]⟩ : ByteArray) ++ a0).size + 1) = False := eq_false (Nat.not_lt.2 c5)
    revert H
    refine yB1 fun t125 A6 H => ?_
    obtain rfl := Option.some.inj H
    go_enter Try.func46, Try.ntmps46
    go_wp2_with (first | ((with_reducible refine gC 58 rfl ?_); refine gM 58 4 rfl Try.func58 (iK.calls a0 true _ A2.out) ?_; rintro _ w7 ⟨rfl, hb⟩; refine ⟨_, rfl, yA1 (below_step Z3 hb) ?_⟩; clear HB hb; intro HB) | (go_at_call 68; (with_reducible refine (bY.calls k (⟨#[32, 109, 111, 100, 117, 108, 101, 32, 117, 115, 101, 32, 102, 110, 32, 108, 101, 116, 32, 105, 102, 32, 101, 108, 115, 101, 32, 119, 104, 105, 108, 101, 32, 98, 114, 101, 97, 107, 32, 99, 111, 110, 116, 105, 110, 117, 101, 32, 114, 101, 116, 117, 114, 110, 32, 112, 117, 116, 32, 101, 109, 105, 116, 32, 121, 105, 101, 108, 100, 32, 110, 105, 108, 32, 115, 116, 97, 116, 101, 32, 115, 112, 97, 119, 110, 32, 108, 101, 110, 32, 110, 111, 116, 32, 97, 110, 100, 32, 111, 114, 32]⟩ : ByteArray) (((⟨#[32]⟩ : ByteArray) ++ a0) ++ (⟨#[32]⟩ : ByteArray)) t125 _ A6.out).mono ?_); rintro e w' ⟨rfl, ⟨nd, rfl⟩⟩))
    go_ret
    exact ⟨Z4, Z3⟩
   exact absurd H (by simp)
  exact absurd H (by simp)
 replace H := yF H
 obtain rfl := Option.some.inj H
 go_enter Try.func46, Try.ntmps46
 go_wp2_with (first | ((with_reducible refine gC 58 rfl ?_); refine gM 58 4 rfl Try.func58 (iK.calls a0 false _ A2.out) ?_; rintro _ w8 ⟨rfl, hb⟩; refine ⟨_, rfl, yA1 (below_step Z3 hb) ?_⟩; clear HB hb; intro HB))
 go_ret
 exact ⟨Z4, Z3⟩
/-! ### ed: function 31 -/
def ed.f (k : Nat) (a0 : ByteArray) : Option (Bool) := (iK.f a0).bind fun t126 => (if t126 = true then (if (a0.size : Int) ≤ 16 then ((gV.f k a0).bind fun t127 => (some (!t127))) else (some false)) else (some false))
theorem ed.mono : ∀ a0 k, LeO (ed.f k a0) (ed.f (k + 1) a0) := by
 intro a0 k
 unfold ed.f
 have m0 := gV.mono
 exact yL
set_option maxHeartbeats 8000000 in
set_option maxRecDepth 100000 in
theorem ed.calls (k : Nat) (a0 : ByteArray) (r : Bool) (w : World) (h : ed.f k a0 = some r) :
 Calls Try.prog 31 #[.string a0] w fun e w' => e = .returned (.bool r) ∧ Below w.heap.size w w' := by
 have HB := Aside0.mk (Below.refl w.heap.size w)
 have H := h
 clear h
 unfold ed.f at H
 revert H
 refine yB1 fun t126 A2 H => ?_
 cases t126
 rotate_left
 ·replace H := yT H
  revert H
  refine wV (fun c4 c4b0 H => ?_) fun c4 c4b0 H => ?_
  ·have c4b1 : decide (a0.size ≤ 16) = true := decide_eq_true (by omega)
   clear c4
   revert H
   refine yB1 fun t127 A5 H => ?_
   obtain rfl := Option.some.inj H
   go_enter Try.func31, Try.ntmps31
   go_wp2_with (first | ((with_reducible refine gC 58 rfl ?_); refine gM 58 4 rfl Try.func58 (iK.calls a0 true _ A2.out) ?_; rintro _ w6 ⟨rfl, hb⟩; refine ⟨_, rfl, yA1 (below_step Z3 hb) ?_⟩; clear HB hb; intro HB) | (go_at_call 46; (with_reducible refine (gV.calls k a0 t127 _ A5.out).mono ?_); rintro e w7 ⟨rfl, hb⟩; refine yA1 (below_step Z3 hb) ?_; clear HB; intro HB; (try clear hb)))
   go_ret
   exact ⟨Z4, Z3⟩
  have c4b1 : decide (a0.size ≤ 16) = false := decide_eq_false (by omega)
  clear c4
  obtain rfl := Option.some.inj H
  go_enter Try.func31, Try.ntmps31
  go_wp2_with (first | ((with_reducible refine gC 58 rfl ?_); refine gM 58 4 rfl Try.func58 (iK.calls a0 true _ A2.out) ?_; rintro _ w8 ⟨rfl, hb⟩; refine ⟨_, rfl, yA1 (below_step Z3 hb) ?_⟩; clear HB hb; intro HB))
  go_ret
  exact ⟨Z4, Z3⟩
 replace H := yF H
 obtain rfl := Option.some.inj H
 go_enter Try.func31, Try.ntmps31
 go_wp2_with (first | ((with_reducible refine gC 58 rfl ?_); refine gM 58 4 rfl Try.func58 (iK.calls a0 false _ A2.out) ?_; rintro _ w9 ⟨rfl, hb⟩; refine ⟨_, rfl, yA1 (below_step Z3 hb) ?_⟩; clear HB hb; intro HB))
 go_ret
 exact ⟨Z4, Z3⟩
end Go.Proofs.Ytendgafpkeadhaa.Q
end
section
namespace Go.Proofs.Ytendgafpkeadhaa.Q
open Go.RowKit Go.Proofs.YtendgafpkeadhaaW.PrintWords Go.Proofs.YtendgafpkeadhaaW.PrintLast Go.Proofs.YtendgafpkeadhaaW.PrintMore
attribute [local go_sem] max2_int min2_int max_two min_two max_three min_three max_four min_four
set_option linter.unusedVariables false
set_option linter.unusedSimpArgs false
-- BY HAND: function 23 (lex_pass)
/-! ### bP: function 48 -/
mutual
def bP.j0 : Nat → ByteArray → Bool → Option (Int × Bool)
 | 0, _, _ => none
 | k + 1, x0, x18 => if x18 = true then (some (0, false)) else (bP.l0 k x0 0 (x0.size : Int) 0)
def bP.l0 : Nat → ByteArray → Int → Int → Int → Option (Int × Bool)
 | 0, _, _, _, _ => none
 | k + 1, x0, x4, x20, x21 => if x21 < x20 then (if 0 ≤ x21 then (if x21 < (x0.size : Int) then (bP.l0 k x0 (IntKind.u64.wrap ((IntKind.u64.wrap (10 * x4)) + (((bt x0 x21) - 48) % 256))) x20 (wrap64 (x21 + 1))) else (none)) else (none)) else (some (wrap64 (x4), ((x4 / 9223372036854775808) == 0)))
end
def bP.f (k : Nat) (a0 : ByteArray) : Option (Int × Bool) := if (a0.size : Int) > 19 then (bP.j0 k a0 true) else (if (a0.size : Int) > 1 then (if 0 < (a0.size : Int) then (bP.j0 k a0 ((bt a0 0) == 48)) else (none)) else (bP.j0 k a0 false))
theorem bP.mono_l : ∀ k, (∀ y0 y1, LeO (bP.j0 k y0 y1) (bP.j0 (k + 1) y0 y1)) ∧ (∀ y0 y1 y2 y3, LeO (bP.l0 k y0 y1 y2 y3) (bP.l0 (k + 1) y0 y1 y2 y3))
 | 0 => ⟨fun _ _ r h => by simp [bP.j0] at h, fun _ _ _ _ r h => by simp [bP.l0] at h⟩
 | k + 1 => by
  obtain ⟨ih0, ih1⟩ := bP.mono_l k
  refine ⟨?_, ?_⟩
  ·intro y0 y1
   unfold bP.j0
   exact yL
  intro y0 y1 y2 y3
  unfold bP.l0
  exact yL
theorem bP.mono : ∀ a0 k, LeO (bP.f k a0) (bP.f (k + 1) a0) := by
 intro a0 k
 obtain ⟨ih0, ih1⟩ := bP.mono_l k
 unfold bP.f
 exact yL
set_option maxHeartbeats 8000000 in
set_option maxRecDepth 100000 in
theorem bP.calls (k : Nat) (a0 : ByteArray) (r1 : Int) (r2 : Bool) (w : World) (h : bP.f k a0 = some (r1, r2)) :
 Calls Try.prog 48 #[.string a0] w fun e w' => e = .returned (.tuple #[.int .i64 r1, .bool r2]) ∧ dw w w' := by
 have H := h
 clear h
 unfold bP.f at H
 have HC2 := Aside0.mk H
 clear H
 go_enter Try.func48, Try.ntmps48
 go_upto_region 1 with (fail)
 go_cut [18] (fun v18 wc => ∃ (kq : Nat) (x18_1 : Bool), v18 = .bool x18_1 ∧ Aside0 (bP.j0 kq a0 x18_1 = some (r1, r2)) ∧ Aside0 (kq ≤ k) ∧ dw w wc)
 case first =>
  have H := HC2.out
  clear HC2
  revert H
  refine dX (fun c3 H => ?_) fun c3 H => ?_
  ·have c3b0 : decide (19 < (a0.size : Int)) = true := decide_eq_true c3
   have c3b1 : decide (19 < a0.size) = true := decide_eq_true (by omega)
   clear c3
   (first | rw [c3b0] | (simp only [dE, dM]; rw [c3b0]) | skip)
   have H' := Aside0.mk H
   clear H
   go_wp2
   go_meet
   case rel => exact ⟨_, (true), Z6, H', ⟨Z38⟩, Z8⟩
  have c3b0 : decide (19 < (a0.size : Int)) = false := decide_eq_false c3
  have c3b1 : decide (19 < a0.size) = false := decide_eq_false (by omega)
  clear c3
  (first | rw [c3b0] | (simp only [dE, dM]; rw [c3b0]) | skip)
  revert H
  refine dX (fun c4 H => ?_) fun c4 H => ?_
  ·have c4b0 : decide (1 < (a0.size : Int)) = true := decide_eq_true c4
   have c4b1 : decide (1 < a0.size) = true := decide_eq_true (by omega)
   clear c4
   revert H
   refine jX (fun c5 c5b0 H => ?_) fun c5 H => ?_
   ·have c5b1 : decide (0 < a0.size) = true := decide_eq_true (by omega)
    clear c5
    have H' := Aside0.mk H
    clear H
    have p6 : 0 ≤ (0 : Int) := (by omega)
    have q6 : 0 < a0.size := (by have : (0 : Int) < (a0.size : Int) := of_decide_eq_true Z5; omega)
    have hx6 : ∀ h : 0 < a0.size, ((a0[0]'h).toNat : Int) = bt a0 0 := dL a0 0
    clear p6
    have qi6 : (0 < (a0.size : Int)) = True := eq_true (of_decide_eq_true Z5)
    replace q6 := eq_true q6
    go_wp2
    go_meet
    case rel => exact ⟨_, (((bt a0 0) == 48)), Z6, H', ⟨Z38⟩, Z8⟩
   exact absurd H (by simp)
  have c4b0 : decide (1 < (a0.size : Int)) = false := decide_eq_false c4
  have c4b1 : decide (1 < a0.size) = false := decide_eq_false (by omega)
  clear c4
  have H' := Aside0.mk H
  clear H
  go_wp2
  go_meet
  case rel => exact ⟨_, (false), Z6, H', ⟨Z38⟩, Z8⟩
 case rest =>
  clear HC2
  try clear p2
  try clear c3
  try clear c3b0
  try clear c3b1
  try clear c4
  try clear c4b0
  try clear c4b1
  try clear c5
  try clear c5b0
  try clear c5b1
  try clear p6
  try clear q6
  try clear hx6
  try clear qi6
  try clear p6
  try clear q6
  obtain ⟨kq, x18_1, rfl, HA, HJ1, ⟨mc1, rfl⟩⟩ := hcut
  cases kq with
  | zero => exact absurd HA.out (by simp [bP.j0])
  | succ kj1 =>
   have H := HA.out
   clear HA
   simp only [bP.j0] at H
   cases x18_1
   rotate_left
   ·replace H := yT H
    simp only [Option.some.injEq, Prod.mk.injEq] at H
    obtain ⟨rfl, rfl⟩ := H
    go_wp2
    go_ret2
    exact ⟨Z6, Z8⟩
   replace H := yF H
   have H' := Aside0.mk H
   clear H
   go_wp2
   go_loopg [4, 21] kj1 (fun kq v4 v21 w' => ∃ (x4_2 : Int) (x21_2 : Int), v4 = .int .u64 x4_2 ∧ v21 = .int .i64 x21_2 ∧ Aside0 (bP.l0 kq a0 x4_2 (a0.size : Int) x21_2 = some (r1, r2)) ∧ Aside0 (kq ≤ kj1) ∧ dw w w')
   case atStart => exact ⟨(0), (0), Z6, Z6, H', ⟨Nat.le_refl _⟩, Z8⟩
   case round =>
    clear H'
    try clear c1
    try clear p2
    try clear c3
    try clear c3b0
    try clear c3b1
    try clear c4
    try clear c4b0
    try clear c4b1
    try clear c5
    try clear c5b0
    try clear c5b1
    try clear p6
    try clear q6
    try clear hx6
    try clear qi6
    try clear c7
    try clear p2
    try clear p6
    try clear q6
    obtain ⟨x4_2, x21_2, rfl, rfl, HA, HK2, ⟨m2, rfl⟩⟩ := hrel
    cases gk with
    | zero => exact absurd HA.out (by simp [bP.l0])
    | succ k2 =>
     have H := HA.out
     clear HA
     simp only [bP.l0] at H
     revert H
     refine fO (fun c8b0 H => ?_) fun c8b0 H => ?_
     ·revert H
      refine eQ (fun c9b0 H => ?_) fun c9 H => ?_
      ·revert H
       refine eQ (fun c10b0 H => ?_) fun c10 H => ?_
       ·have H' := Aside0.mk H
        clear H
        have p11 : 0 ≤ (x21_2 : Int) := of_decide_eq_true Z5
        have q11 : x21_2 < (a0.size : Int) := of_decide_eq_true Z5
        have hx11 := dL a0 x21_2
        replace p11 := eq_true p11
        replace q11 := eq_true q11
        go_wp2
        go_roundg k2
        case measure => have := HJ1.out; have := HK2.out; omega
        case rel => exact ⟨(IntKind.u64.wrap ((IntKind.u64.wrap (10 * x4_2)) + (((bt a0 x21_2) - 48) % 256))), (wrap64 (x21_2 + 1)), Z6, Z6, H', ⟨by have := HJ1.out; have := HK2.out; omega⟩, Z8⟩
       exact absurd H (by simp)
      exact absurd H (by simp)
     simp only [Option.some.injEq, Prod.mk.injEq] at H
     obtain ⟨rfl, rfl⟩ := H
     go_wp2
     go_ret2
     exact ⟨Z6, Z8⟩
/-! ### iR: function 69 -/
def iR.f (a0 : Int) : Option (Int × Bool) := if a0 = 110 then (some (10, true)) else (if a0 = 34 then (some (a0, true)) else (if a0 = 92 then (some (a0, true)) else (some (0, false))))
set_option maxHeartbeats 8000000 in
set_option maxRecDepth 100000 in
theorem iR.calls (a0 : Int) (r1 : Int) (r2 : Bool) (w : World) (h : iR.f a0 = some (r1, r2)) :
 Calls Try.prog 69 #[.int .u8 a0] w fun e w' => e = .returned (.tuple #[.int .u8 r1, .bool r2]) ∧ dw w w' := by
 have H := h
 clear h
 unfold iR.f at H
 revert H
 refine aJ (fun c2b0 c2b1 H => ?_) fun c2 c2b0 c2b1 H => ?_
 ·simp only [Option.some.injEq, Prod.mk.injEq] at H
  obtain ⟨rfl, rfl⟩ := H
  go_enter Try.func69, Try.ntmps69
  go_wp2
  go_ret2
  exact ⟨Z6, Z8⟩
 revert H
 refine aJ (fun c3b0 c3b1 H => ?_) fun c3 c3b0 c3b1 H => ?_
 ·simp only [Option.some.injEq, Prod.mk.injEq] at H
  obtain ⟨rfl, rfl⟩ := H
  go_enter Try.func69, Try.ntmps69
  go_wp2
  go_ret2
  exact ⟨Z6, Z8⟩
 revert H
 refine aJ (fun c4b0 c4b1 H => ?_) fun c4 c4b0 c4b1 H => ?_
 ·simp only [Option.some.injEq, Prod.mk.injEq] at H
  obtain ⟨rfl, rfl⟩ := H
  go_enter Try.func69, Try.ntmps69
  go_wp2
  go_ret2
  exact ⟨Z6, Z8⟩
 simp only [Option.some.injEq, Prod.mk.injEq] at H
 obtain ⟨rfl, rfl⟩ := H
 go_enter Try.func69, Try.ntmps69
 go_wp2
 go_ret2
 exact ⟨Z6, Z8⟩
end Go.Proofs.Ytendgafpkeadhaa.Q
end
section
namespace Go.Proofs.Ytendgafpkeadhaa.Q
open Go.RowKit Go.Proofs.YtendgafpkeadhaaW.PrintWords Go.Proofs.YtendgafpkeadhaaW.PrintLast Go.Proofs.YtendgafpkeadhaaW.PrintMore
attribute [local go_sem] max2_int min2_int max_two min_two max_three min_three max_four min_four
set_option linter.unusedVariables false
set_option linter.unusedSimpArgs false
/-! ### bW: function 49 -/
def bW.l0 : Nat → ByteArray → List Int → Bool → Int → Option (ByteArray × Int)
 | 0, _, _, _, _ => none
 | k + 1, x0, x4, x5, x6 => if x6 < (x0.size : Int) then (if 0 ≤ x6 then (if x5 = true then ((iR.f (bt x0 x6)).bind fun bt179 => (if bt179.2 = true then (if x4.length < 140737488355328 then (bW.l0 k x0 (x4 ++ [bt179.1]) false (wrap64 (x6 + 1))) else (none)) else (some ((⟨#[]⟩ : ByteArray), 0)))) else (if (bt x0 x6) = 34 then (some (strOfNums x4, wrap64 (x6 + 1))) else (if (bt x0 x6) = 10 then (some ((⟨#[]⟩ : ByteArray), 0)) else (if (bt x0 x6) = 92 then (bW.l0 k x0 x4 true (wrap64 (x6 + 1))) else (if x4.length < 140737488355328 then (bW.l0 k x0 (x4 ++ [bt x0 x6]) x5 (wrap64 (x6 + 1))) else (none)))))) else (none)) else (some ((⟨#[]⟩ : ByteArray), 0))
def bW.f (k : Nat) (a0 : ByteArray) : Option (ByteArray × Int) := bW.l0 k a0 ([] : List Int) false 1
theorem bW.mono_l : ∀ k, (∀ y0 y1 y2 y3, LeO (bW.l0 k y0 y1 y2 y3) (bW.l0 (k + 1) y0 y1 y2 y3))
 | 0 => fun _ _ _ _ r h => by simp [bW.l0] at h
 | k + 1 => by
  have ih0 := bW.mono_l k
  intro y0 y1 y2 y3
  unfold bW.l0
  exact yL
theorem bW.mono : ∀ a0 k, LeO (bW.f k a0) (bW.f (k + 1) a0) := by
 intro a0 k
 have ih0 := bW.mono_l k
 unfold bW.f
 exact yL
set_option maxHeartbeats 8000000 in
set_option maxRecDepth 100000 in
theorem bW.calls (k : Nat) (a0 : ByteArray) (r1 : ByteArray) (r2 : Int) (w : World) (h : bW.f k a0 = some (r1, r2)) :
 Calls Try.prog 49 #[.string a0] w fun e w' => e = .returned (.tuple #[.string r1, .int .i64 r2]) ∧ Below w.heap.size w w' := by
 have HB := Aside0.mk (Below.refl w.heap.size w)
 have H := h
 clear h
 unfold bW.f at H
 have H' := Aside0.mk H
 clear H
 go_enter Try.func49, Try.ntmps49
 go_wp2
 go_loopg [4, 5, 6] k (fun kq v4 v5 v6 w' => ∃ (x4_1 : List Int) (x5_1 : Bool) (x6_1 : Int), v5 = .bool x5_1 ∧ v6 = .int .i64 x6_1 ∧ Aside0 (bW.l0 kq a0 x4_1 x5_1 x6_1 = some (r1, r2)) ∧ Aside0 (kq ≤ k) ∧ Aside0 (Kd.R (Kd.int .u8) 5 w' w.heap.size (fun _ => True) v4 x4_1) ∧ Aside0 (Below w.heap.size w w'))
 case atStart => exact ⟨(([] : List Int)), (false), (1), Z6, Z6, H', ⟨Nat.le_refl _⟩, ⟨Z24⟩, ⟨Z3⟩⟩
 case round =>
  clear H'
  obtain ⟨x4_1, x5_1, x6_1, rfl, rfl, HA, HK1, HO_4, HB⟩ := hrel
  cases gk with
  | zero => exact absurd HA.out (by simp [bW.l0])
  | succ k1 =>
   have H := HA.out
   clear HA
   simp only [bW.l0] at H
   revert H
   refine fO (fun c2b0 H => ?_) fun c2b0 H => ?_
   ·revert H
    refine eQ (fun c3b0 H => ?_) fun c3 H => ?_
    ·cases x5_1
     rotate_left
     ·replace H := yT H
      revert H
      refine yB2 fun t179 t180 A6 H => ?_
      try dsimp only at H
      cases t180
      rotate_left
      ·replace H := yT H
       revert H
       refine dX (fun c8 H => ?_) fun c8 H => ?_
       ·have LMc8 := Aside0.mk c8
        clear c8
        obtain ⟨y181, hy181⟩ : ∃ y_ : List Int, y_ = (x4_1 ++ [t179]) := ⟨_, rfl⟩
        replace H : (bW.l0 k1 a0 y181 false (wrap64 (x6_1 + 1))) = some (r1, r2) := by first | (rw [hy181]; with_reducible exact H) | (have H2_ := (Option.bind_some _ _).symm.trans H; rw [hy181]; with_reducible exact H2_) | (have H2_ := (Option.bind_some _ _).symm.trans H; with_reducible exact H2_) | with_reducible exact H | (rw [hy181]; exact H) | exact H
        have Ny181 := Aside0.mk hy181
        clear hy181
        have H' := Aside0.mk H
        clear H
        have p4 : 0 ≤ (x6_1 : Int) := of_decide_eq_true Z5
        have q4 : x6_1 < (a0.size : Int) := of_decide_eq_true Z5
        have hx4 := dL a0 x6_1
        replace p4 := eq_true p4
        replace q4 := eq_true q4
        go_wp2_with (first | ((with_reducible refine gC 69 rfl ?_); refine gM 69 27 rfl Try.func69 (iR.calls (bt a0 x6_1) t179 true _ A6.out) ?_; rintro _ w' ⟨rfl, ⟨nd, rfl⟩⟩; refine ⟨_, rfl, ?_⟩) | ((with_reducible refine dB (b := .append) (xs := #[.tmp 32, .tmp 34]) rfl ?_); at_builtin; refine Kd.iP (Kd.int .u8) (w0 := w) w.heap.size rfl (.tmp 32) (.tmp 34) 81 5 (.int .u8 0) 1 rfl Try.underlying81 info5 rfl (by decide) (by omega) u4 x4_1 t179 [.int .u8 t179] (fun _ => True) (fun _ => False) rfl rfl ?aP (fun _ hk => hk.elim) ?aF ?aO ?aB ?aS ?aL ?_; (case aP => exact rfl); (case aB => exact Z3); (case aF => exact (fun _ _ => trivial)); (case aO => exact Z33); (case aS => exact (below_size Z3)); (case aL => have := LMc8.out; omega); intro v182 w9 ho hb hg hat; rw [← Ny181.out] at ho; refine yA2 (hb) (ho) ?_; clear HB HO_4; intro HB HO183; clear ho hb hg hat))
        go_roundg k1
        case measure => have := HK1.out; omega
        case rel => exact ⟨(y181), (false), (wrap64 (x6_1 + 1)), Z6, Z6, H', ⟨by have := HK1.out; omega⟩, ⟨by (with_reducible repeat (first | apply Kd.R_alloc | apply Kd.R_drewN | apply Kd.R_drew)); exact HO183.out⟩, ⟨Z3⟩⟩
       exact absurd H (by simp)
      replace H := yF H
      simp only [Option.some.injEq, Prod.mk.injEq] at H
      obtain ⟨rfl, rfl⟩ := H
      have p4 : 0 ≤ (x6_1 : Int) := of_decide_eq_true Z5
      have q4 : x6_1 < (a0.size : Int) := of_decide_eq_true Z5
      have hx4 := dL a0 x6_1
      replace p4 := eq_true p4
      replace q4 := eq_true q4
      go_wp2_with (first | ((with_reducible refine gC 69 rfl ?_); refine gM 69 27 rfl Try.func69 (iR.calls (bt a0 x6_1) t179 false _ A6.out) ?_; rintro _ w' ⟨rfl, ⟨nd, rfl⟩⟩; refine ⟨_, rfl, ?_⟩))
      go_ret2
      exact ⟨Z4, Z3⟩
     replace H := yF H
     revert H
     refine aJ (fun c10b0 c10b1 H => ?_) fun c10 c10b0 c10b1 H => ?_
     ·simp only [Option.some.injEq, Prod.mk.injEq] at H
      obtain ⟨rfl, rfl⟩ := H
      have p4 : 0 ≤ (x6_1 : Int) := of_decide_eq_true Z5
      have q4 : x6_1 < (a0.size : Int) := of_decide_eq_true Z5
      have hx4 := dL a0 x6_1
      replace p4 := eq_true p4
      replace q4 := eq_true q4
      have hcv11 := tJ (P := Try.prog) Try.underlying81 Try.underlying5 Try.underlying9 (Kd.qj HO_4.out)
      go_wp2
      go_ret2
      exact ⟨Z4, Z3⟩
     revert H
     refine aJ (fun c12b0 c12b1 H => ?_) fun c12 c12b0 c12b1 H => ?_
     ·simp only [Option.some.injEq, Prod.mk.injEq] at H
      obtain ⟨rfl, rfl⟩ := H
      have p4 : 0 ≤ (x6_1 : Int) := of_decide_eq_true Z5
      have q4 : x6_1 < (a0.size : Int) := of_decide_eq_true Z5
      have hx4 := dL a0 x6_1
      replace p4 := eq_true p4
      replace q4 := eq_true q4
      go_wp2
      go_ret2
      exact ⟨Z4, Z3⟩
     revert H
     refine aJ (fun c13b0 c13b1 H => ?_) fun c13 c13b0 c13b1 H => ?_
     ·have H' := Aside0.mk H
      clear H
      have p4 : 0 ≤ (x6_1 : Int) := of_decide_eq_true Z5
      have q4 : x6_1 < (a0.size : Int) := of_decide_eq_true Z5
      have hx4 := dL a0 x6_1
      replace p4 := eq_true p4
      replace q4 := eq_true q4
      go_wp2
      go_roundg k1
      case measure => have := HK1.out; omega
      case rel => exact ⟨(x4_1), (true), (wrap64 (x6_1 + 1)), Z6, Z6, H', ⟨by have := HK1.out; omega⟩, ⟨Z33⟩, ⟨Z3⟩⟩
     revert H
     refine dX (fun c14 H => ?_) fun c14 H => ?_
     ·have LMc14 := Aside0.mk c14
      clear c14
      obtain ⟨y184, hy184⟩ : ∃ y_ : List Int, y_ = (x4_1 ++ [bt a0 x6_1]) := ⟨_, rfl⟩
      replace H : (bW.l0 k1 a0 y184 false (wrap64 (x6_1 + 1))) = some (r1, r2) := by first | (rw [hy184]; with_reducible exact H) | (have H2_ := (Option.bind_some _ _).symm.trans H; rw [hy184]; with_reducible exact H2_) | (have H2_ := (Option.bind_some _ _).symm.trans H; with_reducible exact H2_) | with_reducible exact H | (rw [hy184]; exact H) | exact H
      have Ny184 := Aside0.mk hy184
      clear hy184
      have H' := Aside0.mk H
      clear H
      have p4 : 0 ≤ (x6_1 : Int) := of_decide_eq_true Z5
      have q4 : x6_1 < (a0.size : Int) := of_decide_eq_true Z5
      have hx4 := dL a0 x6_1
      replace p4 := eq_true p4
      replace q4 := eq_true q4
      go_wp2_with (first | ((with_reducible refine dB (b := .append) (xs := #[.tmp 19, .tmp 21]) rfl ?_); at_builtin; refine Kd.iP (Kd.int .u8) (w0 := w) w.heap.size rfl (.tmp 19) (.tmp 21) 81 5 (.int .u8 0) 1 rfl Try.underlying81 info5 rfl (by decide) (by omega) u4 x4_1 (bt a0 x6_1) [.int .u8 (bt a0 x6_1)] (fun _ => True) (fun _ => False) rfl rfl ?aP (fun _ hk => hk.elim) ?aF ?aO ?aB ?aS ?aL ?_; (case aP => exact rfl); (case aB => exact Z3); (case aF => exact (fun _ _ => trivial)); (case aO => exact Z33); (case aS => exact (below_size Z3)); (case aL => have := LMc14.out; omega); intro v185 w15 ho hb hg hat; rw [← Ny184.out] at ho; refine yA2 (hb) (ho) ?_; clear HB HO_4; intro HB HO186; clear ho hb hg hat))
      go_roundg k1
      case measure => have := HK1.out; omega
      case rel => exact ⟨(y184), (false), (wrap64 (x6_1 + 1)), Z6, Z6, H', ⟨by have := HK1.out; omega⟩, ⟨by (with_reducible repeat (first | apply Kd.R_alloc | apply Kd.R_drewN | apply Kd.R_drew)); exact HO186.out⟩, ⟨Z3⟩⟩
     exact absurd H (by simp)
    exact absurd H (by simp)
   simp only [Option.some.injEq, Prod.mk.injEq] at H
   obtain ⟨rfl, rfl⟩ := H
   go_wp2
   go_ret2
   exact ⟨Z4, Z3⟩
end Go.Proofs.Ytendgafpkeadhaa.Q
end
section
namespace Go.Proofs.Ytendgafpkeadhaa.Q
open Go.RowKit Go.Proofs.YtendgafpkeadhaaW.PrintWords Go.Proofs.YtendgafpkeadhaaW.PrintLast Go.Proofs.YtendgafpkeadhaaW.PrintMore
attribute [local go_sem] max2_int min2_int max_two min_two max_three min_three max_four min_four
set_option linter.unusedVariables false
set_option linter.unusedSimpArgs false
/-! ### dO: function 50 -/
def dO.j0 : Nat → ByteArray → Bool → Option (ByteArray)
 | 0, _, _ => none
 | k + 1, x0, x16 => if x16 = true then (if 0 ≤ 2 then (if 2 ≤ (x0.size : Int) then (some (x0.extract 0 2)) else (none)) else (none)) else (if 0 ≤ 1 then (if 1 ≤ (x0.size : Int) then ((bY.f k (⟨#[40, 41, 123, 125, 91, 93, 44, 59, 46, 47, 61, 60, 43, 45, 42, 37]⟩ : ByteArray) (x0.extract 0 1)).bind fun t188 => (if t188 = true then (some (x0.extract 0 1)) else (some (⟨#[]⟩ : ByteArray)))) else (none)) else (none))
def dO.f (k : Nat) (a0 : ByteArray) : Option (ByteArray) := if (a0.size : Int) > 1 then (if 0 ≤ 2 then (if 2 ≤ (a0.size : Int) then (if (a0.extract 0 2).size + 1 ≤ 9223372036854775807 then ((bY.f k (⟨#[61, 61, 32, 33, 61, 32, 60, 61, 32, 46, 46, 32]⟩ : ByteArray) ((a0.extract 0 2) ++ (⟨#[32]⟩ : ByteArray))).bind fun t187 => (if t187 = true then (if 1 < (a0.size : Int) then (dO.j0 k a0 ((bt a0 1) != 32)) else (none)) else (dO.j0 k a0 false))) else (none)) else (none)) else (none)) else (dO.j0 k a0 false)
theorem dO.mono_l : ∀ k, (∀ y0 y1, LeO (dO.j0 k y0 y1) (dO.j0 (k + 1) y0 y1))
 | 0 => fun _ _ r h => by simp [dO.j0] at h
 | k + 1 => by
  have ih0 := dO.mono_l k
  intro y0 y1
  unfold dO.j0
  have m0 := bY.mono
  exact yL
theorem dO.mono : ∀ a0 k, LeO (dO.f k a0) (dO.f (k + 1) a0) := by
 intro a0 k
 have ih0 := dO.mono_l k
 unfold dO.f
 have m0 := bY.mono
 exact yL
set_option maxHeartbeats 8000000 in
set_option maxRecDepth 100000 in
theorem dO.calls (k : Nat) (a0 : ByteArray) (r : ByteArray) (w : World) (h : dO.f k a0 = some r) :
 Calls Try.prog 50 #[.string a0] w fun e w' => e = .returned (.string r) ∧ dw w w' := by
 have H := h
 clear h
 unfold dO.f at H
 have HC2 := Aside0.mk H
 clear H
 go_enter Try.func50, Try.ntmps50
 go_upto_region 1 with (fail)
 go_cut [16] (fun v16 wc => ∃ (kq : Nat) (x16_1 : Bool), v16 = .bool x16_1 ∧ Aside0 (dO.j0 kq a0 x16_1 = some r) ∧ Aside0 (kq ≤ k) ∧ dw w wc)
 case first =>
  have H := HC2.out
  clear HC2
  revert H
  refine dX (fun c3 H => ?_) fun c3 H => ?_
  ·have c3b0 : decide (1 < (a0.size : Int)) = true := decide_eq_true c3
   have c3b1 : decide (1 < a0.size) = true := decide_eq_true (by omega)
   clear c3
   (first | rw [c3b0] | (simp only [dE, dM]; rw [c3b0]) | skip)
   revert H
   refine fU (fun c4b0 c4b1 H => ?_) fun c4 H => ?_
   ·revert H
    refine fU (fun c5b0 c5b1 H => ?_) fun c5 H => ?_
    ·revert H
     refine fB (fun c6 c6b0 c6b1 H => ?_) fun c6 H => ?_
     ·try have c6b2 : (9223372036854775807 < (a0.extract 0 2).size + 1) = False := eq_false (Nat.not_lt.2 c6)
      revert H
      refine yB1 fun t187 A7 H => ?_
      cases t187
      rotate_left
      ·replace H := yT H
       revert H
       refine jX (fun c9 c9b0 H => ?_) fun c9 H => ?_
       ·have c9b1 : decide (1 < a0.size) = true := decide_eq_true (by omega)
        clear c9
        have H' := Aside0.mk H
        clear H
        go_wp2_with (first | (go_at_call 68; (with_reducible refine (bY.calls k (⟨#[61, 61, 32, 33, 61, 32, 60, 61, 32, 46, 46, 32]⟩ : ByteArray) ((a0.extract 0 2) ++ (⟨#[32]⟩ : ByteArray)) true _ A7.out).mono ?_); rintro e w' ⟨rfl, ⟨nd, rfl⟩⟩; have p10 : 0 ≤ (1 : Int) := (by omega); have q10 : 1 < a0.size := (by have : (1 : Int) < (a0.size : Int) := of_decide_eq_true Z5; omega); have hx10 : ∀ h : 1 < a0.size, ((a0[1]'h).toNat : Int) = bt a0 1 := dL a0 1; clear p10; have qi10 : (1 < (a0.size : Int)) = True := eq_true (of_decide_eq_true Z5); replace q10 := eq_true q10))
        go_meet
        case rel => exact ⟨_, (((bt a0 1) != 32)), Z6, H', ⟨Z38⟩, Z8⟩
       exact absurd H (by simp)
      replace H := yF H
      have H' := Aside0.mk H
      clear H
      go_wp2_with (first | (go_at_call 68; (with_reducible refine (bY.calls k (⟨#[61, 61, 32, 33, 61, 32, 60, 61, 32, 46, 46, 32]⟩ : ByteArray) ((a0.extract 0 2) ++ (⟨#[32]⟩ : ByteArray)) false _ A7.out).mono ?_); rintro e w' ⟨rfl, ⟨nd, rfl⟩⟩))
      go_meet
      case rel => exact ⟨_, (false), Z6, H', ⟨Z38⟩, Z8⟩
     exact absurd H (by simp)
    exact absurd H (by simp)
   exact absurd H (by simp)
  have c3b0 : decide (1 < (a0.size : Int)) = false := decide_eq_false c3
  have c3b1 : decide (1 < a0.size) = false := decide_eq_false (by omega)
  clear c3
  (first | rw [c3b0] | (simp only [dE, dM]; rw [c3b0]) | skip)
  have H' := Aside0.mk H
  clear H
  go_wp2
  go_meet
  case rel => exact ⟨_, (false), Z6, H', ⟨Z38⟩, Z8⟩
 case rest =>
  clear HC2
  try clear p1
  try clear q1
  try clear hx1
  try clear qi1
  try clear p2
  try clear c3
  try clear c3b0
  try clear c3b1
  try clear c4
  try clear c4b0
  try clear c4b1
  try clear c5
  try clear c5b0
  try clear c5b1
  try clear c6
  try clear c6b0
  try clear c6b1
  try clear c6b2
  try clear c8
  try clear c9
  try clear c9b0
  try clear c9b1
  try clear p10
  try clear q10
  try clear hx10
  try clear qi10
  try clear p10
  try clear q10
  obtain ⟨kq, x16_1, rfl, HA, HJ1, ⟨mc1, rfl⟩⟩ := hcut
  cases kq with
  | zero => exact absurd HA.out (by simp [dO.j0])
  | succ kj1 =>
   have H := HA.out
   clear HA
   simp only [dO.j0] at H
   cases x16_1
   rotate_left
   ·replace H := yT H
    revert H
    refine fU (fun c12b0 c12b1 H => ?_) fun c12 H => ?_
    ·revert H
     refine fU (fun c13b0 c13b1 H => ?_) fun c13 H => ?_
     ·obtain rfl := Option.some.inj H
      go_wp2
      go_ret
      exact ⟨Z6, Z8⟩
     exact absurd H (by simp)
    exact absurd H (by simp)
   replace H := yF H
   revert H
   refine fU (fun c14b0 c14b1 H => ?_) fun c14 H => ?_
   ·revert H
    refine fU (fun c15b0 c15b1 H => ?_) fun c15 H => ?_
    ·revert H
     refine yB1 fun t188 A16 H => ?_
     cases t188
     rotate_left
     ·replace H := yT H
      have c18b0 := eq_true (of_decide_eq_true Z5 : 0 ≤ 1)
      have c19b0 := eq_true (of_decide_eq_true Z5 : 1 ≤ (a0.size : Int))
      obtain rfl := Option.some.inj H
      go_wp2_with (first | ((with_reducible refine gC 68 rfl ?_); refine gM 68 21 rfl Try.func68 (bY.calls kj1 (⟨#[40, 41, 123, 125, 91, 93, 44, 59, 46, 47, 61, 60, 43, 45, 42, 37]⟩ : ByteArray) (a0.extract 0 1) true _ A16.out) ?_; rintro _ w' ⟨rfl, ⟨nd, rfl⟩⟩; refine ⟨_, rfl, ?_⟩))
      go_ret
      exact ⟨Z6, Z8⟩
     replace H := yF H
     obtain rfl := Option.some.inj H
     go_wp2_with (first | ((with_reducible refine gC 68 rfl ?_); refine gM 68 21 rfl Try.func68 (bY.calls kj1 (⟨#[40, 41, 123, 125, 91, 93, 44, 59, 46, 47, 61, 60, 43, 45, 42, 37]⟩ : ByteArray) (a0.extract 0 1) false _ A16.out) ?_; rintro _ w' ⟨rfl, ⟨nd, rfl⟩⟩; refine ⟨_, rfl, ?_⟩))
     go_ret
     exact ⟨Z6, Z8⟩
    exact absurd H (by simp)
   exact absurd H (by simp)
end Go.Proofs.Ytendgafpkeadhaa.Q
end
