/- Walks over functions of the program, words for them, and what the functions come to; of each text only what this claim uses; no condition. -/
import Derived.Test.YtkbhkonenkgfoaaGreatZPX0
import Derived.Test.YtkbhkonenkgfoaaGreatZPX1
import Derived.Test.YtkbhkonenkgfoaaGreatZPX2
import Derived.Test.YtkbhkonenkgfoaaGreatProg
import Derived.Below
import Derived.Deep.Draws
import Derived.Deep.AppendLies
import Derived.Maps.AppendAt
import Derived.OwnWalk
import Derived.Laws.BytesArg
import Derived.Laws.MakeOwn
import Derived.Laws.OwnMore
import Derived.Deep.OwnRows
import Derived.Tactics
import Derived.Lib.ConvBytes
import Derived.Laws.Slices
import Derived.WalkKit
import Derived.KernelRfl
import Derived.RowKit3
import Derived.Deep.LoopGhost
import Derived.Deep.QuietTactic
import Derived.BigQuiet
import Derived.WideLaws
import Derived.Deep.DeepCutAuto
import Derived.Deep.CutBlock
import Derived.Deep.RegionHeld3
import Derived.Laws.Rows
import Derived.Lib.AppendStr
import Derived.ArgAppend
import Derived.Laws.IdiomCopy
import Derived.OrdersHeld
import Derived.Laws.BitsLemmas
import Derived.RowKit
section
namespace Go.Proofs.YtkbhkonenkgfoaaGreat.Q
open Go.RowKit Go.Proofs.YtkbhkonenkgfoaaGreatW.PrintWords Go.Proofs.YtkbhkonenkgfoaaGreatW.PrintLast Go.Proofs.YtkbhkonenkgfoaaGreatW.PrintMore
attribute [local go_sem] dJ dH dW dV dh df dI dG
set_option linter.unusedVariables false
set_option linter.unusedSimpArgs false
def LM : Option Int → Value
 | none => .nilIface
 | some c => .iface 0 (.int .i64 c)
theorem jm : LM none = .nilIface := rfl
theorem jl (c : Int) : LM (some c) = .iface 0 (.int .i64 c) := rfl
theorem info3 : (Tryz.prog.info? 3).map (fun i => (i.zero, i.size, i.bytes)) = some (some (.int .i64 0), 1, 8) := by kernel_rfl
theorem info5 : (Tryz.prog.info? 5).map (fun i => (i.zero, i.size, i.bytes)) = some (some (.int .u8 0), 1, 1) := by kernel_rfl
theorem info23 : (Tryz.prog.info? 23).map (fun i => (i.zero, i.size, i.bytes)) = some (some (.slice none 0 0), 1, 24) := by kernel_rfl
theorem uJ : (Tryz.prog.info? 29).map (fun i => (i.zero, i.size, i.bytes)) = some (some (.agg #[(.int .i64 0), (.int .i64 0), (.string ⟨#[]⟩), (.int .i64 0), (.string ⟨#[]⟩)]), 5, 56) := by kernel_rfl
theorem Gy : (Tryz.prog.info? 37).map (fun i => (i.zero, i.size, i.bytes)) = some (some (.agg #[(.int .i64 0), (.string ⟨#[]⟩), (.int .i64 0), (.int .i64 0)]), 4, 40) := by kernel_rfl
-- the values' own types
/-! #### struct type 37 -/
structure S37 where
 f0 : Int
 f1 : ByteArray
 f2 : Int
 f3 : Int
def z37 : S37 := ⟨(0 : Int), (⟨#[]⟩ : ByteArray), (0 : Int), (0 : Int)⟩
def k37 : Kd S37 := Kd.iso (Kd.pair (Kd.int .i64) (Kd.pair Kd.string (Kd.pair (Kd.int .i64) (Kd.int .i64)))) (fun x : S37 => (x.f0, x.f1, x.f2, x.f3))
theorem Gv {w : World} {x : S37} {cs : List Value} (h : k37.K w x cs) : cs = [.int .i64 x.f0, .string x.f1, .int .i64 x.f2, .int .i64 x.f3] := by
 obtain ⟨_, _, rfl, rfl, ⟨_, _, rfl, rfl, ⟨_, _, rfl, rfl, rfl⟩⟩⟩ := h
 exact rfl
theorem D6 (w : World) (base : Nat) (ok : Nat → Prop) (x : S37)  : k37.M w base ok x [.int .i64 x.f0, .string x.f1, .int .i64 x.f2, .int .i64 x.f3] := ⟨[.int .i64 x.f0], [.string x.f1, .int .i64 x.f2, .int .i64 x.f3], rfl, rfl, ⟨[.string x.f1], [.int .i64 x.f2, .int .i64 x.f3], rfl, rfl, ⟨[.int .i64 x.f2], [.int .i64 x.f3], rfl, rfl, rfl⟩⟩⟩
def fF (xs : List S37) (i : Int) : S37 := xs.getD i.toNat z37
theorem lM {w : World} {A : Option Addr} {n : Nat} {xs : List S37} (h : Kd.C k37 w A n xs) (i : Int) (h0 : 0 ≤ i) (h1 : i < n) : ∃ ad , A = some ad ∧ w.cell? (ad.add (i.toNat * 4)) = some (.int .i64 (fF xs i).f0) ∧ w.cell? ⟨(ad.add (i.toNat * 4)).block, (ad.add (i.toNat * 4)).off + 1, none⟩ = some (.string (fF xs i).f1) ∧ w.cell? ⟨(ad.add (i.toNat * 4)).block, (ad.add (i.toNat * 4)).off + 2, none⟩ = some (.int .i64 (fF xs i).f2) ∧ w.cell? ⟨(ad.add (i.toNat * 4)).block, (ad.add (i.toNat * 4)).off + 3, none⟩ = some (.int .i64 (fF xs i).f3) := by
 obtain ⟨ad, c, e, _, hK, hc0⟩ := Kd.yR h z37 i h0 h1
 have hc : ∀ j u, c[j]? = some u → w.cell? (ad.add (i.toNat * 4 + j)) = some u := hc0
 obtain rfl := Gv hK
 exact ⟨ad, e, hc 0 _ rfl, by rw [← ny _ _ 1 (by omega)]; exact hc 1 _ rfl, by rw [← ny _ _ 2 (by omega)]; exact hc 2 _ rfl, by rw [← ny _ _ 3 (by omega)]; exact hc 3 _ rfl⟩
/-! #### struct type 29 -/
structure S29 where
 f0 : Int
 f1 : Int
 f2 : ByteArray
 f3 : Int
 f4 : ByteArray
def z29 : S29 := ⟨(0 : Int), (0 : Int), (⟨#[]⟩ : ByteArray), (0 : Int), (⟨#[]⟩ : ByteArray)⟩
def k29 : Kd S29 := Kd.iso (Kd.pair (Kd.int .i64) (Kd.pair (Kd.int .i64) (Kd.pair Kd.string (Kd.pair (Kd.int .i64) Kd.string)))) (fun x : S29 => (x.f0, x.f1, x.f2, x.f3, x.f4))
theorem Gw {w : World} {x : S29} {cs : List Value} (h : k29.K w x cs) : cs = [.int .i64 x.f0, .int .i64 x.f1, .string x.f2, .int .i64 x.f3, .string x.f4] := by
 obtain ⟨_, _, rfl, rfl, ⟨_, _, rfl, rfl, ⟨_, _, rfl, rfl, ⟨_, _, rfl, rfl, rfl⟩⟩⟩⟩ := h
 exact rfl
theorem yx {w : World} {base : Nat} {ok : Nat → Prop} {x : S29} {cs : List Value} (h : k29.M w base ok x cs) : cs = [.int .i64 x.f0, .int .i64 x.f1, .string x.f2, .int .i64 x.f3, .string x.f4] := by
 obtain ⟨_, _, rfl, rfl, ⟨_, _, rfl, rfl, ⟨_, _, rfl, rfl, ⟨_, _, rfl, rfl, rfl⟩⟩⟩⟩ := h
 exact rfl
theorem vO (w : World) (base : Nat) (ok : Nat → Prop) (x : S29)  : k29.M w base ok x [.int .i64 x.f0, .int .i64 x.f1, .string x.f2, .int .i64 x.f3, .string x.f4] := ⟨[.int .i64 x.f0], [.int .i64 x.f1, .string x.f2, .int .i64 x.f3, .string x.f4], rfl, rfl, ⟨[.int .i64 x.f1], [.string x.f2, .int .i64 x.f3, .string x.f4], rfl, rfl, ⟨[.string x.f2], [.int .i64 x.f3, .string x.f4], rfl, rfl, ⟨[.int .i64 x.f3], [.string x.f4], rfl, rfl, rfl⟩⟩⟩⟩
def ax (xs : List S29) (i : Int) : S29 := xs.getD i.toNat z29
theorem ja {w : World} {A : Option Addr} {n : Nat} {xs : List S29} (h : Kd.C k29 w A n xs) (i : Int) (h0 : 0 ≤ i) (h1 : i < n) : ∃ ad , A = some ad ∧ w.cell? (ad.add (i.toNat * 5)) = some (.int .i64 (ax xs i).f0) ∧ w.cell? ⟨(ad.add (i.toNat * 5)).block, (ad.add (i.toNat * 5)).off + 1, none⟩ = some (.int .i64 (ax xs i).f1) ∧ w.cell? ⟨(ad.add (i.toNat * 5)).block, (ad.add (i.toNat * 5)).off + 2, none⟩ = some (.string (ax xs i).f2) ∧ w.cell? ⟨(ad.add (i.toNat * 5)).block, (ad.add (i.toNat * 5)).off + 3, none⟩ = some (.int .i64 (ax xs i).f3) ∧ w.cell? ⟨(ad.add (i.toNat * 5)).block, (ad.add (i.toNat * 5)).off + 4, none⟩ = some (.string (ax xs i).f4) := by
 obtain ⟨ad, c, e, _, hK, hc0⟩ := Kd.yR h z29 i h0 h1
 have hc : ∀ j u, c[j]? = some u → w.cell? (ad.add (i.toNat * 5 + j)) = some u := hc0
 obtain rfl := Gw hK
 exact ⟨ad, e, hc 0 _ rfl, by rw [← ny _ _ 1 (by omega)]; exact hc 1 _ rfl, by rw [← ny _ _ 2 (by omega)]; exact hc 2 _ rfl, by rw [← ny _ _ 3 (by omega)]; exact hc 3 _ rfl, by rw [← ny _ _ 4 (by omega)]; exact hc 4 _ rfl⟩
def nN (xs : List (List S29)) (i : Int) : (List S29) := xs.getD i.toNat ([] : List S29)
theorem J9 {w : World} {A : Option Addr} {n : Nat} {xs : List (List S29)} (h : Kd.C (Kd.slice 29 k29) w A n xs) (i : Int) (h0 : 0 ≤ i) (h1 : i < n) : ∃ ad A0 c0, A = some ad ∧ w.cell? (ad.add i.toNat) = some (.slice A0 (nN xs i).length c0) ∧ (nN xs i).length ≤ c0 ∧ k29.C w A0 (nN xs i).length (nN xs i) := by
 obtain ⟨ad, c, e, _, hK, hc0⟩ := Kd.yR h ([] : List S29) i h0 h1
 have hc : ∀ j u, c[j]? = some u → w.cell? (ad.add (i.toNat * 1 + j)) = some u := hc0
 obtain ⟨A0, c0, rfl, l0, g0⟩ := hK
 exact ⟨ad, A0, c0, e, by have hq := hc 0 _ rfl; rwa [Nat.mul_one, Nat.add_zero] at hq, l0, g0⟩
end Go.Proofs.YtkbhkonenkgfoaaGreat.Q
end
section
namespace Go.Proofs.YtkbhkonenkgfoaaGreat.Q
open Go.RowKit Go.Proofs.YtkbhkonenkgfoaaGreatW.PrintWords Go.Proofs.YtkbhkonenkgfoaaGreatW.PrintLast Go.Proofs.YtkbhkonenkgfoaaGreatW.PrintMore
attribute [local go_sem] dJ dH dW dV dh df dI dG
set_option linter.unusedVariables false
set_option linter.unusedSimpArgs false
/-- A state of type 40 at block g of W; what its slices lead to came in by w0. -/
def dB (w0 W : World) (g : Nat) (f0 : List (S37)) (f1 : Int) (f2 : Bool) : Prop := ∃ A0 c0, W.heap[g]? = some (.cells #[.slice A0 f0.length c0, .int .i64 f1, .bool f2] 40 (0, 0)) ∧ w0.heap.size ≤ g ∧ Kd.C k37 w0 A0 f0.length f0
theorem dB.grown {w0 W : World} {g : Nat} {f0 : List (S37)} {f1 : Int} {f2 : Bool} {W1 : World} {row : Option Nat} (h : dB w0 W g f0 f1 f2) (hw : W.grownBy W1 row) (hne : some g ≠ row) : dB w0 W1 g f0 f1 f2 := by
 obtain ⟨A0, c0, hb, hg, hr0⟩ := h
 exact ⟨A0, c0, kN hb hw hne, hg, hr0⟩
theorem dB.fresh {w0 W : World} {g : Nat} {f0 : List (S37)} {f1 : Int} {f2 : Bool} (h : dB w0 W g f0 f1 f2) : ∀ k, W.heap.size ≤ k → k ≠ g := by
 obtain ⟨A0, c0, hb, hg, hr0⟩ := h
 exact Kd.uK hb
theorem dB.kept {w0 W : World} {g : Nat} {f0 : List (S37)} {f1 : Int} {f2 : Bool} {W1 : World} {S : Nat → Prop} (h : dB w0 W g f0 f1 f2) (hk : Kept W W1 S) (hne : ¬ S g) : dB w0 W1 g f0 f1 f2 := by
 obtain ⟨A0, c0, hb, hg, hr0⟩ := h
 exact ⟨A0, c0, Bj hb hk hne, hg, hr0⟩
theorem dB.below {w0 W : World} {g : Nat} {f0 : List (S37)} {f1 : Int} {f2 : Bool} {W1 : World} (h : dB w0 W g f0 f1 f2) (hw : Below W.heap.size W W1) : dB w0 W1 g f0 f1 f2 := h.grown (oC hw none) (by simp)
theorem dB.alloc {w0 W : World} {g : Nat} {f0 : List (S37)} {f1 : Int} {f2 : Bool} (h : dB w0 W g f0 f1 f2) (o : Obj) : dB w0 (W.alloc o) g f0 f1 f2 := h.below (iF (Below.refl _ _) o)
theorem dB.drewN {w0 W : World} {g : Nat} {f0 : List (S37)} {f1 : Int} {f2 : Bool} (h : dB w0 W g f0 f1 f2) (m : Nat) : dB w0 (W.drewN m) g f0 f1 f2 := h
theorem dB.drew {w0 W : World} {g : Nat} {f0 : List (S37)} {f1 : Int} {f2 : Bool} (h : dB w0 W g f0 f1 f2) : dB w0 W.drew g f0 f1 f2 := h
theorem dB.at_ {w0 W : World} {g : Nat} {f0 : List (S37)} {f1 : Int} {f2 : Bool} {w' : World} {m : Nat} (hq : W.drewN m = w') (h : dB w0 W g f0 f1 f2) : dB w0 w' g f0 f1 f2 := by subst hq; exact dB.drewN h m
theorem dB.apart {w0 W : World} {g : Nat} {f0 : List (S37)} {f1 : Int} {f2 : Bool} {α : Type} {d : Kd α} {e : Nat} {base : Nat} {ok : Nat → Prop} {v : Value} {xs : List α} (h : dB w0 W g f0 f1 f2) (ho : d.R e W base ok v xs) (ht : ∀ q, q ∈ e :: d.E → q ≠ 40) : d.R e W base (fun k => ok k ∧ k ≠ g) v xs := by
 obtain ⟨A0, c0, hb, hg, hr0⟩ := h
 exact Kd.rD ho hb ht
theorem dB.own_ne {w0 W : World} {g : Nat} {f0 : List (S37)} {f1 : Int} {f2 : Bool} {α : Type} {d : Kd α} {e : Nat} {base : Nat} {ok : Nat → Prop} {v : Value} {xs : List α} (h : dB w0 W g f0 f1 f2) (ho : d.R e W base ok v xs) (ht : e ≠ 40) : some g ≠ v.ownBlock := by
 obtain ⟨A0, c0, hb, hg, hr0⟩ := h
 exact Kd.EM ho hb ht
theorem dB.lt {w0 W : World} {g : Nat} {f0 : List (S37)} {f1 : Int} {f2 : Bool} (h : dB w0 W g f0 f1 f2) : g < W.heap.size := by
 obtain ⟨A0, c0, hb, hg, hr0⟩ := h
 exact kY hb
theorem dB.ge {w0 W : World} {g : Nat} {f0 : List (S37)} {f1 : Int} {f2 : Bool} (h : dB w0 W g f0 f1 f2) : w0.heap.size ≤ g := by
 obtain ⟨A0, c0, hb, hg, hr0⟩ := h
 exact hg
theorem dB.far {w0 W : World} {g : Nat} {f0 : List (S37)} {f1 : Int} {f2 : Bool} {p : Addr} (h : dB w0 W g f0 f1 f2) (hne : g ≠ p.block) (u : Value) : dB w0 (W.setCell p u) g f0 f1 f2 := by
 obtain ⟨A0, c0, hb, hg, hr0⟩ := h
 exact ⟨A0, c0, jC hb hne u, hg, hr0⟩
theorem kM {W : World} {g : Nat} {A0 : Option Addr} {c0 : Nat} {f0 : List (S37)} {f1 : Int} {f2 : Bool} (h : W.heap[g]? = some (.cells #[.slice A0 f0.length c0, .int .i64 f1, .bool f2] 40 (0, 0))) : W.cell? ⟨g, 0, none⟩ = some (.slice A0 f0.length c0) := (aj h 0).trans rfl
theorem kL {W : World} {g : Nat} {A0 : Option Addr} {c0 : Nat} {f0 : List (S37)} {f1 : Int} {f2 : Bool} (h : W.heap[g]? = some (.cells #[.slice A0 f0.length c0, .int .i64 f1, .bool f2] 40 (0, 0))) : W.cell? ⟨g, 1, none⟩ = some (.int .i64 f1) := (aj h 1).trans rfl
theorem dB.uS {w0 W : World} {g : Nat} {f0 : List (S37)} {f1 : Int} {f2 : Bool} (h : dB w0 W g f0 f1 f2) (x : Int) : dB w0 (W.setCell ⟨g, 1, none⟩ (.int .i64 x)) g f0 x f2 := by
 obtain ⟨A0, c0, hb, hg, hr0⟩ := h
 exact ⟨A0, c0, by simpa using mM hb 1 (.int .i64 x), hg, hr0⟩
theorem kK {W : World} {g : Nat} {A0 : Option Addr} {c0 : Nat} {f0 : List (S37)} {f1 : Int} {f2 : Bool} (h : W.heap[g]? = some (.cells #[.slice A0 f0.length c0, .int .i64 f1, .bool f2] 40 (0, 0))) : W.cell? ⟨g, 2, none⟩ = some (.bool f2) := (aj h 2).trans rfl
theorem dB.wG {w0 W : World} {g : Nat} {f0 : List (S37)} {f1 : Int} {f2 : Bool} (h : dB w0 W g f0 f1 f2) (x : Bool) : dB w0 (W.setCell ⟨g, 2, none⟩ (.bool x)) g f0 f1 x := by
 obtain ⟨A0, c0, hb, hg, hr0⟩ := h
 exact ⟨A0, c0, by simpa using mM hb 2 (.bool x), hg, hr0⟩
theorem dB.new (w0 W : World) (A0 : Option Addr) (c0 : Nat) (f0 : List (S37)) (f1 : Int) (f2 : Bool) (hB : Below w0.heap.size w0 W) (hr0 : Kd.C k37 w0 A0 f0.length f0) : dB w0 (W.alloc (.cells #[.slice A0 f0.length c0, .int .i64 f1, .bool f2] 40)) W.heap.size f0 f1 f2 := ⟨A0, c0, by simpa using heap_alloc_new W _, hB.size, hr0⟩
theorem dB.G5 {w0 W : World} {g : Nat} {f0 : List (S37)} {f1 : Int} {f2 : Bool} {b j : Nat} {u : Value} (h : dB w0 W g f0 f1 f2) (hne : g ≠ b) : dB w0 (W.setCell ⟨b, j, none⟩ u) g f0 f1 f2 := dB.far h (p := ⟨b, j, none⟩) hne u
theorem iW (a : Int) (b : ByteArray) (c d : Int) (w : World) : (Instr.field 37 (.agg #[.int .i64 a, .string b, .int .i64 c, .int .i64 d]) 0).run Tryz.prog w = .ok (.int .i64 a) w := by kernel_rfl
theorem iV (a : Int) (b : ByteArray) (c d : Int) (w : World) : (Instr.field 37 (.agg #[.int .i64 a, .string b, .int .i64 c, .int .i64 d]) 1).run Tryz.prog w = .ok (.string b) w := by kernel_rfl
theorem iU (a : Int) (b : ByteArray) (c d : Int) (w : World) : (Instr.field 37 (.agg #[.int .i64 a, .string b, .int .i64 c, .int .i64 d]) 2).run Tryz.prog w = .ok (.int .i64 c) w := by kernel_rfl
theorem iR (a : Int) (b : ByteArray) (c d : Int) (w : World) : (Instr.field 37 (.agg #[.int .i64 a, .string b, .int .i64 c, .int .i64 d]) 3).run Tryz.prog w = .ok (.int .i64 d) w := by kernel_rfl
end Go.Proofs.YtkbhkonenkgfoaaGreat.Q
end
section
universe u
namespace Go.Proofs.YtkbhkonenkgfoaaGreat.Q
open Go Go.RowKit Go.Proofs.YtkbhkonenkgfoaaGreatW.PrintWords Go.Proofs.YtkbhkonenkgfoaaGreatW.PrintLast Go.Proofs.YtkbhkonenkgfoaaGreatW.PrintMore
theorem bT {s : Nat} {w W0 W : World} (H : ae (Below s w W0)) (f : Below s w W0 → Below s w W := by (intro h_; repeat (first | (with_reducible first | exact h_ | apply iF | apply gQ | apply jc | refine iZ ?_ (dB.ge HI0.out) | refine iZ ?_ (ae.out (by assumption))) | exact h_))) : Below s w W := f H.out
theorem kT {w W0 W : World} {g : Nat} {row : Option Nat} (H : ae (cO w W0 g row)) (f : cO w W0 g row → cO w W g row := by (intro h_; repeat (first | (with_reducible first | exact h_ | apply cO.BJ | apply o7 | apply rq | apply xh | refine qG ?_ (ae.out (by assumption)) _) | exact h_))) : cO w W g row := f H.out
theorem iT {w0 W0 W : World} {g : Nat} {f0 : List S37} {f1 e1 : Int} {f2 e2 : Bool} (H : ae (dB w0 W0 g f0 e1 e2)) (f : dB w0 W0 g f0 e1 e2 → dB w0 W g f0 f1 f2 := by (intro h_; repeat (first | (with_reducible first | exact h_ | apply dB.alloc | apply dB.drewN | apply dB.drew | apply dB.uS | apply dB.wG | (refine dB.G5 ?_ ?hne_; case hne_ => exact ae.out (by assumption))) | exact h_))) : dB w0 W g f0 f1 f2 := f H.out
theorem eT {α : Sort u} {a b : α} (h : a = b := by first | rfl | (simp [jm, jl] <;> rfl) | (simp [*, jm, jl] <;> rfl)) : a = b := h
theorem fT {p : Prop} (h : p := by first | rfl | (simp; done) | (simp [*]; done)) : p := h
theorem aT {p : Prop} (h : p := by first | (with_reducible assumption) | assumption) : p := h
section
variable {α : Type} {d : Kd α} {e : TypeId} {base : Nat} {ok : Nat → Prop} {v : Value} {xs : List α} {w0 w : World}
theorem qR (H : ae (Kd.R d e w0 base ok v xs)) (f : Kd.R d e w0 base ok v xs → Kd.R d e w base ok v xs := by (intro h_; (with_reducible repeat (first | apply Kd.iw | apply Kd.ik | apply Kd.jb)); exact h_)) : Kd.R d e w base ok v xs := f H.out
end
end Go.Proofs.YtkbhkonenkgfoaaGreat.Q
end
section
set_option linter.unusedVariables false
set_option linter.unusedSimpArgs false
namespace Go.Proofs.YtkbhkonenkgfoaaGreat.Q
open Go Go.RowKit Go.Proofs.YtkbhkonenkgfoaaGreatW.PrintWords Go.Proofs.YtkbhkonenkgfoaaGreatW.PrintLast Go.Proofs.YtkbhkonenkgfoaaGreatW.PrintMore
/-- The state (type T) at block g: a list that came in by w0, a place in it, and whether the token there can't stand. -/
def Rd (T : Nat) (w0 W : World) (g : Nat) (f0 : List S37) (f1 : Int) (f2 : Bool) : Prop := ∃ A0 c0, W.heap[g]? = some (.cells #[.slice A0 f0.length c0, .int .i64 f1, .bool f2] T (0, 0)) ∧ w0.heap.size ≤ g ∧ Kd.C k37 w0 A0 f0.length f0
/-- Rows of trees that were made since w; what a row leads to is none of the rows ahead of it. -/
def KL (W w : World) (g : Nat) : List (Value × List (List S29)) → Prop
 | [] => True
 | (v, xs) :: r => (∃ ok : Nat → Prop, Kd.N (Kd.slice 29 k29) 23 W w.heap.size ok v xs ∧ (∀ k, ok k → k ≠ g ∧ w.heap.size ≤ k) ∧ ∀ p ∈ r, ∀ k, ok k → some k ≠ p.1.ownBlock) ∧ KL W w g r
theorem KL.own {W w : World} {g : Nat} : ∀ {ks}, KL W w g ks → ∀ p ∈ ks, ∀ k, p.1.ownBlock = some k → k < W.heap.size ∧ ∃ cells, W.heap[k]? = some (.cells cells 23 (0, 0))
 | (v, xs) :: r, ⟨⟨ok, h, _⟩, _⟩, _, .head _, k, hk => ⟨Kd.Nb h k hk, Kd.Jo h k hk⟩
 | _ :: r, ⟨_, h⟩, p, .tail _ hp, k, hk => KL.own h p hp k hk
theorem KL.keep {W W' w : World} {g : Nat} (hk : cO W W' g none) : ∀ {ks}, KL W w g ks → KL W' w g ks
 | [], _ => trivial
 | (v, xs) :: r, ⟨⟨ok, h, h1, h2⟩, h3⟩ => ⟨⟨ok, Kd.Le h hk (fun k h => (h1 k h).1), h1, h2⟩, KL.keep hk h3⟩
/-- What stays as it is besides: blocks that are known whole, rows of texts. -/
structure Ext where
 bs : List (Nat × Obj)
 ss : List (Value × List ByteArray)
/-- With what was made since w: trees, and rows of trees. -/
structure St (T : Nat) (w0 w W : World) (g : Nat) (f0 : List S37) (f1 : Int) (f2 : Bool) (os : List (Value × List S29)) (ks : List (Value × List (List S29))) (Z : Ext) : Prop where
 t : T ≠ 29 ∧ T ≠ 23 ∧ T ≠ 9
 z : w0.heap.size ≤ w.heap.size
 rd : Rd T w0 W g f0 f1 f2
 below : Below w0.heap.size w0 W
 keep : cO w W g none
 o : ∀ p ∈ os, Kd.R k29 29 W w.heap.size (fun _ => True) p.1 p.2
 s : KL W w g ks
 b : ∀ p ∈ Z.bs, W.heap[p.1]? = some p.2 ∧ p.1 ≠ g
 ss : ∀ p ∈ Z.ss, Kd.R Kd.string 9 W w.heap.size (fun _ => True) p.1 p.2
section
variable {T : Nat} {w0 w W W' : World} {g : Nat} {f0 : List S37} {f1 q : Int} {f2 b : Bool} {os : List (Value × List S29)} {ks : List (Value × List (List S29))} {Z : Ext}
theorem Rd.types (h : Rd T w0 W g f0 f1 f2) (ht : T ≠ 29 ∧ T ≠ 23 ∧ T ≠ 9) {base : Nat} {v : Value} {xs : List S29} (ho : Kd.R k29 29 W base (fun _ => True) v xs) : Kd.R k29 29 W base (fun k => k ≠ g) v xs := by
 obtain ⟨A0, c0, hb, hg, hr⟩ := h
 refine Kd.iO (Kd.rD ho hb (fun q hq => ?_)) (fun _ hk => hk.2)
 have : q = 29 := by simpa [show k29.E = [] from rfl] using hq
 subst this
 exact fun e => ht.1 e.symm
theorem Rd.JJ (h : Rd T w0 W g f0 f1 f2) (ht : T ≠ 29 ∧ T ≠ 23 ∧ T ≠ 9) {base : Nat} {v : Value} {xs : List ByteArray} (ho : Kd.R Kd.string 9 W base (fun _ => True) v xs) : Kd.R Kd.string 9 W base (fun k => k ≠ g) v xs := by
 obtain ⟨A0, c0, hb, hg, hr⟩ := h
 refine Kd.iO (Kd.rD ho hb (fun q hq => ?_)) (fun _ hk => hk.2)
 have : q = 9 := by simpa [show Kd.string.E = [] from rfl] using hq
 subst this
 exact fun e => ht.2.2 e.symm
theorem Rd.lt (h : Rd T w0 W g f0 f1 f2) : g < W.heap.size := by
 obtain ⟨A0, c0, hb, hg, hr⟩ := h
 exact kY hb
theorem Rd.ge (h : Rd T w0 W g f0 f1 f2) : w0.heap.size ≤ g := by
 obtain ⟨A0, c0, hb, hg, hr⟩ := h
 exact hg
theorem Rd.below (h : Rd T w0 W g f0 f1 f2) (hw : Below W.heap.size W W') : Rd T w0 W' g f0 f1 f2 := by
 obtain ⟨A0, c0, hb, hg, hr⟩ := h
 exact ⟨A0, c0, iY hb hw, hg, hr⟩
theorem Rd.cell1 (h : Rd T w0 W g f0 f1 f2) : W.cell? ⟨g, 1, none⟩ = some (.int .i64 f1) := by
 obtain ⟨A0, c0, hb, hg, hr⟩ := h
 exact (aj hb 1).trans rfl
theorem Rd.cell2 (h : Rd T w0 W g f0 f1 f2) : W.cell? ⟨g, 2, none⟩ = some (.bool f2) := by
 obtain ⟨A0, c0, hb, hg, hr⟩ := h
 exact (aj hb 2).trans rfl
theorem Rd.fro (h : Rd T w0 W g f0 f1 f2) (i : Nat) : W.frozen? ⟨g, i, none⟩ = false := by
 obtain ⟨A0, c0, hb, hg, hr⟩ := h
 exact ag hb i
theorem St.new (ht : T ≠ 29 ∧ T ≠ 23 ∧ T ≠ 9) (hI : Rd T w0 w g f0 f1 f2) (hB : Below w0.heap.size w0 w) : St T w0 w w g f0 f1 f2 [] [] ⟨[], []⟩ := ⟨ht, hB.size, hI, hB, cO.refl w g none, fun _ h => (nomatch h), trivial, fun _ h => (nomatch h), fun _ h => (nomatch h)⟩
/-- The world went on: nothing but the state was written. -/
theorem St.step (h : St T w0 w W g f0 f1 f2 os ks Z) (hk : cO W W' g none) (hI : Rd T w0 W' g f0 q b) (hB : Below w0.heap.size w0 W') : St T w0 w W' g f0 q b os ks Z :=
 ⟨h.t, h.z, hI, hB, h.keep.trans hk (.inl rfl), fun p hp => Kd.iO (Kd.CS (h.rd.types h.t (h.o p hp)) hk (fun _ h => h)) (fun _ _ => trivial), KL.keep hk h.s, fun p hp => ⟨(hk.2 p.1 (kY (h.b p hp).1) (h.b p hp).2 (by simp)).trans (h.b p hp).1, (h.b p hp).2⟩, fun p hp => Kd.iO (Kd.CS (h.rd.JJ h.t (h.ss p hp)) hk (fun _ h => h)) (fun _ _ => trivial)⟩
theorem St.oK (h : St T w0 w W g f0 f1 f2 os ks Z) (hb : Below W.heap.size W W') : St T w0 w W' g f0 f1 f2 os ks Z :=
 h.step (cO.of_below hb g none) (h.rd.below hb) (aY h.below hb)
theorem St.drewN (h : St T w0 w W g f0 f1 f2 os ks Z) (n : Nat) : St T w0 w (W.drewN n) g f0 f1 f2 os ks Z := h.oK (gQ (Below.refl _ _) n)
theorem St.drew (h : St T w0 w W g f0 f1 f2 os ks Z) : St T w0 w W.drew g f0 f1 f2 os ks Z := h.oK (Below.refl _ _).drew
theorem St.alloc (h : St T w0 w W g f0 f1 f2 os ks Z) (o : Obj) : St T w0 w (W.alloc o) g f0 f1 f2 os ks Z := h.oK (iF (Below.refl _ _) o)
theorem St.set1 (h : St T w0 w W g f0 f1 f2 os ks Z) (x : Int) : St T w0 w (W.setCell ⟨g, 1, none⟩ (.int .i64 x)) g f0 x f2 os ks Z := by
 refine h.step ((cO.refl W g none).BJ 1 _) ?_ (iZ h.below h.rd.ge)
 obtain ⟨A0, c0, hb, hg, hr0⟩ := h.rd
 exact ⟨A0, c0, by simpa using mM hb 1 (.int .i64 x), hg, hr0⟩
theorem St.set2 (h : St T w0 w W g f0 f1 f2 os ks Z) (x : Bool) : St T w0 w (W.setCell ⟨g, 2, none⟩ (.bool x)) g f0 f1 x os ks Z := by
 refine h.step ((cO.refl W g none).BJ 2 _) ?_ (iZ h.below h.rd.ge)
 obtain ⟨A0, c0, hb, hg, hr0⟩ := h.rd
 exact ⟨A0, c0, by simpa using mM hb 2 (.bool x), hg, hr0⟩
theorem St.push (h : St T w0 w W g f0 f1 f2 os ks Z) {v : Value} {xs : List S29} {base : Nat} (hb : w.heap.size ≤ base) (ho : Kd.R k29 29 W base (fun _ => True) v xs) : St T w0 w W g f0 f1 f2 ((v, xs) :: os) ks Z :=
 ⟨h.t, h.z, h.rd, h.below, h.keep, fun p hp => (by
  rcases List.mem_cons.1 hp with rfl | hp
  ·exact Kd.ig ho hb
  exact h.o p hp), h.s, h.b, h.ss⟩
theorem St.Dn (h : St T w0 w W g f0 f1 f2 os ks Z) {v : Value} {xs : List (List S29)} {ok : Nat → Prop} (ho : Kd.N (Kd.slice 29 k29) 23 W w.heap.size ok v xs) (h1 : ∀ k, ok k → k ≠ g ∧ w.heap.size ≤ k) (h2 : ∀ p ∈ ks, ∀ k, ok k → some k ≠ p.1.ownBlock) : St T w0 w W g f0 f1 f2 os ((v, xs) :: ks) Z :=
 ⟨h.t, h.z, h.rd, h.below, h.keep, h.o, ⟨⟨ok, ho, h1, h2⟩, h.s⟩, h.b, h.ss⟩
theorem St.pop {p : Value × List (List S29)} (h : St T w0 w W g f0 f1 f2 os (p :: ks) Z) : St T w0 w W g f0 f1 f2 os ks Z := ⟨h.t, h.z, h.rd, h.below, h.keep, h.o, h.s.2, h.b, h.ss⟩
theorem St.clear (h : St T w0 w W g f0 f1 f2 os ks Z) : St T w0 w W g f0 f1 f2 [] [] Z := ⟨h.t, h.z, h.rd, h.below, h.keep, fun _ h => (nomatch h), trivial, h.b, h.ss⟩
theorem St.Bd {o : Value × List S29} (h : St T w0 w W g f0 f1 f2 (o :: os) ks Z) : St T w0 w W g f0 f1 f2 [o] [] ⟨[], []⟩ :=
 ⟨h.t, h.z, h.rd, h.below, h.keep, fun p hp => (by
  rcases List.mem_cons.1 hp with rfl | hp
  ·exact h.o _ (.head _)
  cases hp), trivial, fun _ h => (nomatch h), fun _ h => (nomatch h)⟩
theorem St.uG (h : St T w0 w W g f0 f1 f2 os ks Z) : St T w0 w W g f0 f1 f2 os ((.slice none 0 0, []) :: ks) Z := h.Dn (ok := fun _ => False) (Kd.JC _ _ _ _ _) (fun _ h => h.elim) (fun _ _ _ h => h.elim)
/-- A store into a struct of the call's own, while nothing else is held. -/
theorem St.setB {gb : Nat} {cs : Array Value} {t : TypeId} (h : St T w0 w W g f0 f1 f2 [] [] ⟨[(gb, .cells cs t (0, 0))], []⟩) (hge : w.heap.size ≤ gb) (i : Nat) (u : Value) : St T w0 w (W.setCell ⟨gb, i, none⟩ u) g f0 f1 f2 [] [] ⟨[(gb, .cells (cs.setIfInBounds i u) t (0, 0))], []⟩ := by
 obtain ⟨hc, hne⟩ := h.b _ (.head _)
 obtain ⟨A0, c0, hb, hg, hr⟩ := h.rd
 refine ⟨h.t, h.z, ⟨A0, c0, jC hb (p := ⟨gb, i, none⟩) (Ne.symm hne) u, hg, hr⟩, iZ h.below (Nat.le_trans h.z hge), qG h.keep hge u, fun _ h => (nomatch h), trivial, fun p hp => ?_, fun _ h => (nomatch h)⟩
 rcases List.mem_cons.1 hp with rfl | hp
 ·exact ⟨mM hc i u, hne⟩
 cases hp
theorem stB {W0 : World} {p : Int} {c : Bool} {gb : Nat} {cs cs' : Array Value} {t : TypeId} (hge : w.heap.size ≤ gb) (H : St T w0 w W0 g f0 p c [] [] ⟨[(gb, .cells cs t (0, 0))], []⟩) (f : St T w0 w W0 g f0 p c [] [] ⟨[(gb, .cells cs t (0, 0))], []⟩ → St T w0 w W g f0 f1 f2 [] [] ⟨[(gb, .cells cs' t (0, 0))], []⟩ := by (intro h_; repeat (first | (with_reducible exact h_) | apply St.drewN | apply St.drew | apply St.setB (hge := hge)))) : St T w0 w W g f0 f1 f2 [] [] ⟨[(gb, .cells cs' t (0, 0))], []⟩ := f H
theorem stT {W0 : World} {p : Int} {c : Bool} (H : St T w0 w W0 g f0 p c os ks Z) (f : St T w0 w W0 g f0 p c os ks Z → St T w0 w W g f0 f1 f2 os ks Z := by (intro h_; repeat (first | (with_reducible exact h_) | apply St.drewN | apply St.drew | apply St.set1 | apply St.set2 | apply St.alloc))) : St T w0 w W g f0 f1 f2 os ks Z := f H
end
section
variable {P : Program} {ops : Array Oper} {Q : Exit → Act → World → Prop} {T : Nat} {w0 w W : World} {g : Nat} {f0 : List S37} {f1 : Int} {f2 : Bool} {os : List (Value × List S29)} {ks : List (Value × List (List S29))} {Z : Ext}
 {rest : List Oper} {oi : Oper} {a : Act} {fn : Func} {ar : Array Operand} {ts : Array TypeId} {args : Array Value} {ρ β : Type} {R : β}
/-- What a call with the state gives back: E of the result and the world. -/
def Back (T : Nat) (w0 W : World) (g : Nat) (f0 : List S37) (q : Int) (b : Bool) (E : Ending → World → Prop) (e : Ending) (w' : World) : Prop := E e w' ∧ Rd T w0 w' g f0 q b ∧ Below w0.heap.size w0 w' ∧ cO W w' g none
theorem sB (f : FuncId) {N : Tmp} (hop : oi.op = .call { callee := .value (.func f), args := ar, argTypes := ts }) (hf : P.funcs[f]? = some fn) {F : Option (Bool × Int × Bool)} {K : Bool × Int × Bool → Option β}
 (HS : St T w0 w W g f0 f1 f2 os ks Z) (H : ae (F.bind K = some R))
 (hC : ∀ t q b, Rd T w0 W g f0 f1 f2 → Below w0.heap.size w0 W → F = some (t, q, b) → Calls P f args W (Back T w0 W g f0 q b fun e _ => e = .returned (.bool t)))
 (h : ∀ t q b w', St T w0 w w' g f0 q b os ks Z → ae (K (t, q, b) = some R) → wpList P ops Q rest (a.put (some N) (.bool t)) w')
 (hd : oi.dst = some N := by rfl) (hg : oi.guard = none := by rfl) (hname : (fn.name == "runtime.NumGoroutine") = false := by kernel_rfl) (hb : fn.body.isSome = true := by rfl)
 (hargs : ar.map a.eval = args := by ((try simp only [List.map_toArray, List.map_cons, List.map_nil]); first | done | rfl)) : wpList P ops Q (oi :: rest) a W := by
 obtain ⟨⟨t, q, b⟩, h1, h2⟩ := Option.bind_eq_some_iff.mp H.out
 refine kJ (some N) hd hg hf hname hb args hop hargs ((hC t q b HS.rd HS.below h1).mono ?_)
 rintro _ w' ⟨rfl, hi, hb, hk⟩
 exact ⟨_, rfl, h t q b w' (HS.step hk hi hb) ⟨h2⟩⟩
theorem sU (f : FuncId) {N : Tmp} (hop : oi.op = .call { callee := .value (.func f), args := ar, argTypes := ts }) (hf : P.funcs[f]? = some fn) {F : Option (Int × Bool)} {K : Int × Bool → Option β}
 (HS : St T w0 w W g f0 f1 f2 os ks Z) (H : ae (F.bind K = some R))
 (hC : ∀ q b, Rd T w0 W g f0 f1 f2 → Below w0.heap.size w0 W → F = some (q, b) → Calls P f args W (Back T w0 W g f0 q b fun e _ => e = .returned (.tuple #[])))
 (h : ∀ q b w', St T w0 w w' g f0 q b os ks Z → ae (K (q, b) = some R) → wpList P ops Q rest (a.put (some N) (.tuple #[])) w')
 (hd : oi.dst = some N := by rfl) (hg : oi.guard = none := by rfl) (hname : (fn.name == "runtime.NumGoroutine") = false := by kernel_rfl) (hb : fn.body.isSome = true := by rfl)
 (hargs : ar.map a.eval = args := by ((try simp only [List.map_toArray, List.map_cons, List.map_nil]); first | done | rfl)) : wpList P ops Q (oi :: rest) a W := by
 obtain ⟨⟨q, b⟩, h1, h2⟩ := Option.bind_eq_some_iff.mp H.out
 refine kJ (some N) hd hg hf hname hb args hop hargs ((hC q b HS.rd HS.below h1).mono ?_)
 rintro _ w' ⟨rfl, hi, hb, hk⟩
 exact ⟨_, rfl, h q b w' (HS.step hk hi hb) ⟨h2⟩⟩
/-- A token is given back. -/
theorem sN (f : FuncId) {N : Tmp} (hop : oi.op = .call { callee := .value (.func f), args := ar, argTypes := ts }) (hf : P.funcs[f]? = some fn) {F : Option (Int × ByteArray × Int × Int × Int × Bool)} {K : Int × ByteArray × Int × Int × Int × Bool → Option β}
 (HS : St T w0 w W g f0 f1 f2 os ks Z) (H : ae (F.bind K = some R))
 (hC : ∀ t1 t2 t3 t4 q b, Rd T w0 W g f0 f1 f2 → Below w0.heap.size w0 W → F = some (t1, t2, t3, t4, q, b) → Calls P f args W (Back T w0 W g f0 q b fun e _ => e = .returned (.agg #[.int .i64 t1, .string t2, .int .i64 t3, .int .i64 t4])))
 (h : ∀ t1 t2 t3 t4 q b w', St T w0 w w' g f0 q b os ks Z → ae (K (t1, t2, t3, t4, q, b) = some R) → wpList P ops Q rest (a.put (some N) (.agg #[.int .i64 t1, .string t2, .int .i64 t3, .int .i64 t4])) w')
 (hd : oi.dst = some N := by rfl) (hg : oi.guard = none := by rfl) (hname : (fn.name == "runtime.NumGoroutine") = false := by kernel_rfl) (hb : fn.body.isSome = true := by rfl)
 (hargs : ar.map a.eval = args := by ((try simp only [List.map_toArray, List.map_cons, List.map_nil]); first | done | rfl)) : wpList P ops Q (oi :: rest) a W := by
 obtain ⟨⟨t1, t2, t3, t4, q, b⟩, h1, h2⟩ := Option.bind_eq_some_iff.mp H.out
 refine kJ (some N) hd hg hf hname hb args hop hargs ((hC t1 t2 t3 t4 q b HS.rd HS.below h1).mono ?_)
 rintro _ w' ⟨rfl, hi, hb, hk⟩
 exact ⟨_, rfl, h t1 t2 t3 t4 q b w' (HS.step hk hi hb) ⟨h2⟩⟩
/-- A text is given back. -/
theorem sS (f : FuncId) {N : Tmp} (hop : oi.op = .call { callee := .value (.func f), args := ar, argTypes := ts }) (hf : P.funcs[f]? = some fn) {F : Option (ByteArray × Int × Bool)} {K : ByteArray × Int × Bool → Option β}
 (HS : St T w0 w W g f0 f1 f2 os ks Z) (H : ae (F.bind K = some R))
 (hC : ∀ t q b, Rd T w0 W g f0 f1 f2 → Below w0.heap.size w0 W → F = some (t, q, b) → Calls P f args W (Back T w0 W g f0 q b fun e _ => e = .returned (.string t)))
 (h : ∀ t q b w', St T w0 w w' g f0 q b os ks Z → ae (K (t, q, b) = some R) → wpList P ops Q rest (a.put (some N) (.string t)) w')
 (hd : oi.dst = some N := by rfl) (hg : oi.guard = none := by rfl) (hname : (fn.name == "runtime.NumGoroutine") = false := by kernel_rfl) (hb : fn.body.isSome = true := by rfl)
 (hargs : ar.map a.eval = args := by ((try simp only [List.map_toArray, List.map_cons, List.map_nil]); first | done | rfl)) : wpList P ops Q (oi :: rest) a W := by
 obtain ⟨⟨t, q, b⟩, h1, h2⟩ := Option.bind_eq_some_iff.mp H.out
 refine kJ (some N) hd hg hf hname hb args hop hargs ((hC t q b HS.rd HS.below h1).mono ?_)
 rintro _ w' ⟨rfl, hi, hb, hk⟩
 exact ⟨_, rfl, h t q b w' (HS.step hk hi hb) ⟨h2⟩⟩
/-- A tree is given back; a row of trees is. -/
def IsL (w : World) (r : List S29) (e : Ending) (w' : World) : Prop := ∃ v, e = .returned v ∧ Kd.R k29 29 w' w.heap.size (fun _ => True) v r
def IsK (w : World) (g : Nat) (r : List (List S29)) (e : Ending) (w' : World) : Prop := ∃ v, e = .returned v ∧ Kd.N (Kd.slice 29 k29) 23 w' w.heap.size (fun k => k ≠ g ∧ w.heap.size ≤ k) v r
theorem sL (f : FuncId) {N : Tmp} (hop : oi.op = .call { callee := .value (.func f), args := ar, argTypes := ts }) (hf : P.funcs[f]? = some fn) {F : Option (List S29 × Int × Bool)} {K : List S29 × Int × Bool → Option β}
 (HS : St T w0 w W g f0 f1 f2 os ks Z) (H : ae (F.bind K = some R))
 (hC : ∀ t q b, Rd T w0 W g f0 f1 f2 → Below w0.heap.size w0 W → F = some (t, q, b) → Calls P f args W (Back T w0 W g f0 q b (IsL W t)))
 (h : ∀ t q b w' A c, St T w0 w w' g f0 q b ((.slice A t.length c, t) :: os) ks Z → ae (K (t, q, b) = some R) → wpList P ops Q rest (a.put (some N) (.slice A t.length c)) w')
 (hd : oi.dst = some N := by rfl) (hg : oi.guard = none := by rfl) (hname : (fn.name == "runtime.NumGoroutine") = false := by kernel_rfl) (hb : fn.body.isSome = true := by rfl)
 (hargs : ar.map a.eval = args := by ((try simp only [List.map_toArray, List.map_cons, List.map_nil]); first | done | rfl)) : wpList P ops Q (oi :: rest) a W := by
 obtain ⟨⟨t, q, b⟩, h1, h2⟩ := Option.bind_eq_some_iff.mp H.out
 refine kJ (some N) hd hg hf hname hb args hop hargs ((hC t q b HS.rd HS.below h1).mono ?_)
 rintro _ w' ⟨⟨v, rfl, ho⟩, hi, hb, hk⟩
 obtain ⟨A, c, rfl⟩ := Kd.eU ho
 exact ⟨_, rfl, h t q b w' A c ((HS.step hk hi hb).push (fG HS.keep) ho) ⟨h2⟩⟩
theorem sK (f : FuncId) {N : Tmp} (hop : oi.op = .call { callee := .value (.func f), args := ar, argTypes := ts }) (hf : P.funcs[f]? = some fn) {F : Option (List (List S29) × Int × Bool)} {K : List (List S29) × Int × Bool → Option β}
 (HS : St T w0 w W g f0 f1 f2 os ks Z) (H : ae (F.bind K = some R))
 (hC : ∀ t q b, Rd T w0 W g f0 f1 f2 → Below w0.heap.size w0 W → F = some (t, q, b) → Calls P f args W (Back T w0 W g f0 q b (IsK W g t)))
 (h : ∀ t q b w' A c, St T w0 w w' g f0 q b os ((.slice A t.length c, t) :: ks) Z → ae (K (t, q, b) = some R) → wpList P ops Q rest (a.put (some N) (.slice A t.length c)) w')
 (hd : oi.dst = some N := by rfl) (hg : oi.guard = none := by rfl) (hname : (fn.name == "runtime.NumGoroutine") = false := by kernel_rfl) (hb : fn.body.isSome = true := by rfl)
 (hargs : ar.map a.eval = args := by ((try simp only [List.map_toArray, List.map_cons, List.map_nil]); first | done | rfl)) : wpList P ops Q (oi :: rest) a W := by
 obtain ⟨⟨t, q, b⟩, h1, h2⟩ := Option.bind_eq_some_iff.mp H.out
 refine kJ (some N) hd hg hf hname hb args hop hargs ((hC t q b HS.rd HS.below h1).mono ?_)
 rintro _ w' ⟨⟨v, rfl, ho⟩, hi, hb, hk⟩
 obtain ⟨A, c, rfl⟩ := Kd.zJ ho
 exact ⟨_, rfl, h t q b w' A c ((HS.step hk hi hb).Dn (Kd.zK ho (fG HS.keep)) (fun k h => ⟨h.1, Nat.le_trans (fG HS.keep) h.2⟩) (fun p hp k h e => by have := (KL.own HS.s p hp k e.symm).1; omega)) ⟨h2⟩⟩
/-- A tree is made of the row that was made last. -/
theorem sJ (f : FuncId) {N : Tmp} (hop : oi.op = .call { callee := .value (.func f), args := ar, argTypes := ts }) (hf : P.funcs[f]? = some fn) {F : Option (List S29)} {K : List S29 → Option β} {A : Option Addr} {c : Nat} {l : List (List S29)}
 (HS : St T w0 w W g f0 f1 f2 os ((.slice A l.length c, l) :: ks) Z) (H : ae (F.bind K = some R))
 (hC : ∀ t, Kd.C (Kd.slice 29 k29) W A l.length l → l.length ≤ c → F = some t → Calls P f args W (fun e w' => ∃ v, e = .returned v ∧ Kd.R k29 29 w' W.heap.size (fun _ => True) v t ∧ Below W.heap.size W w'))
 (h : ∀ t w' A c, St T w0 w w' g f0 f1 f2 ((.slice A t.length c, t) :: os) ks Z → ae (K t = some R) → wpList P ops Q rest (a.put (some N) (.slice A t.length c)) w')
 (hd : oi.dst = some N := by rfl) (hg : oi.guard = none := by rfl) (hname : (fn.name == "runtime.NumGoroutine") = false := by kernel_rfl) (hb : fn.body.isSome = true := by rfl)
 (hargs : ar.map a.eval = args := by ((try simp only [List.map_toArray, List.map_cons, List.map_nil]); first | done | rfl)) : wpList P ops Q (oi :: rest) a W := by
 obtain ⟨t, h1, h2⟩ := Option.bind_eq_some_iff.mp H.out
 obtain ⟨⟨ok, hn, _⟩, _⟩ := HS.s
 obtain ⟨_, hc, hr⟩ := Kd.uB hn
 refine kJ (some N) hd hg hf hname hb args hop hargs ((hC t hr hc h1).mono ?_)
 rintro _ w' ⟨v, rfl, ho, hb⟩
 obtain ⟨A, c, rfl⟩ := Kd.eU ho
 exact ⟨_, rfl, h t w' A c ((HS.pop.oK hb).push (fG HS.keep) ho) ⟨h2⟩⟩
/-- The end. -/
theorem St.back {q : Int} {b : Bool} {E : Ending → World → Prop} {e : Ending} (h : St T w0 w W g f0 q b os ks Z) (he : E e W) : Back T w0 w g f0 q b E e W := ⟨he, h.rd, h.below, h.keep⟩
theorem St.jD {q : Int} {b : Bool} {v : Value} {t : List S29} (h : St T w0 w W g f0 q b os ks Z) (ho : (v, t) ∈ os) : Back T w0 w g f0 q b (IsL w t) (.returned v) W := ⟨⟨v, rfl, h.o _ ho⟩, h.rd, h.below, h.keep⟩
theorem St.Bq {q : Int} {b : Bool} (h : St T w0 w W g f0 q b os ks Z) : Back T w0 w g f0 q b (IsL w []) (.returned (.slice none 0 0)) W := ⟨⟨_, rfl, Kd.oG _ _ _ _ _⟩, h.rd, h.below, h.keep⟩
theorem St.Bv {q : Int} {b : Bool} {v : Value} {t : List (List S29)} (h : St T w0 w W g f0 q b os ((v, t) :: ks) Z) : Back T w0 w g f0 q b (IsK w g t) (.returned v) W := by
 obtain ⟨⟨ok, hn, h1, _⟩, _⟩ := h.s
 exact ⟨⟨v, rfl, Kd.Ht hn h1⟩, h.rd, h.below, h.keep⟩
theorem hB {x : ρ} {K : ρ → Option β} (H : ae ((some x).bind K = some R)) : ae (K x = some R) := H
theorem hI {c : Prop} [Decidable c] {X Y : Option β} (hc : c) (H : ae ((if c then X else Y) = some R)) : ae (X = some R) := ⟨by have := H.out; rwa [if_pos hc] at this⟩
theorem hE {c : Prop} [Decidable c] {X Y : Option β} (hc : ¬c) (H : ae ((if c then X else Y) = some R)) : ae (Y = some R) := ⟨by have := H.out; rwa [if_neg hc] at this⟩
/-- A slice of one node, of rows. -/
theorem xe {N : Tmp} {a0 a1 a3 : Int} {a2 a4 : ByteArray} (HS : St T w0 w W g f0 f1 f2 os ks Z)
 (hrun : (execOp a.eval oi).run P W = .ok (.value (.slice (some ⟨W.heap.size, 0, none⟩) 1 1)) (W.alloc (.cells #[.int .i64 a0, .int .i64 a1, .string a2, .int .i64 a3, .string a4] 29)))
 (h : ∀ A c w', St T w0 w w' g f0 f1 f2 ((.slice A 1 c, [⟨a0, a1, a2, a3, a4⟩]) :: os) ks Z → wpList P ops Q rest (a.put (some N) (.slice A 1 c)) w')
 (hd : oi.dst = some N := by rfl) (hg : oi.guard = none := by rfl) : wpList P ops Q (oi :: rest) a W := by
 refine Kd.oH k29 W.heap.size 29 hg hd (xs := [⟨a0, a1, a2, a3, a4⟩]) (inner := [.int .i64 a0, .int .i64 a1, .string a2, .int .i64 a3, .string a4]) (ok := fun _ => True) (okp := fun _ => True) hrun ?_ (fun _ hk => hk) trivial (Below.refl _ _) (Nat.le_refl _) (by simp) ?_
 ·exact dQ.c5 (show Kd.M k29 _ _ _ (⟨a0, a1, a2, a3, a4⟩ : S29) [.int .i64 a0, .int .i64 a1, .string a2, .int .i64 a3, .string a4] from vO _ _ _ _) (dQ.none _ _)
 intro v1 w1 ho hb _ _
 obtain ⟨A, c, rfl⟩ := Kd.eU ho
 rw [hd]
 exact h A c w1 ((HS.oK hb).push (fG HS.keep) ho)
theorem St.fk (HS : St T w0 w W g f0 f1 f2 os ks Z) {A : Option Addr} {n c : Nat} {r : List S29} (hm : (.slice A n c, r) ∈ os) : Kd.FK (Kd.slice 29 k29) W (fun k => w.heap.size ≤ k ∧ ∃ cells, W.heap[k]? = some (.cells cells 29 (0, 0))) r [.slice A n c] := by
 have h := Kd.iO (ok' := fun k => w.heap.size ≤ k ∧ ∃ cells, W.heap[k]? = some (.cells cells 29 (0, 0))) (Kd.nR (HS.o _ hm)) (fun k ⟨_, h1, _, q, hq, cells, h2⟩ => ⟨h1, cells, by
  have : q = 29 := by simpa [show k29.E = [] from rfl] using hq
  rw [← this]; exact h2⟩)
 have hn : n = r.length := (Kd.dL h).1
 subst hn
 exact Kd.BB (Kd.dL h).2.1 fun W' hW => (Kd.dL (Kd.xM h hW)).2.2
theorem LC {N : Tmp} {n : Nat} (xs : List (List S29)) (inner : List Value) (HS : St T w0 w W g f0 f1 f2 os ks Z)
 (hrun : (execOp a.eval oi).run P W = .ok (.value (.slice (some ⟨W.heap.size, 0, none⟩) n n)) (W.alloc (.cells inner.toArray 23)))
 (hn : xs.length = n) (h3 : n ≤ 3) (hrep : dQ (Kd.FK (Kd.slice 29 k29) W fun k => w.heap.size ≤ k ∧ ∃ cells, W.heap[k]? = some (.cells cells 29 (0, 0))) 1 xs inner)
 (h : ∀ A c w', St T w0 w w' g f0 f1 f2 os ((.slice A n c, xs) :: ks) Z → wpList P ops Q rest (a.put (some N) (.slice A n c)) w')
 (hd : oi.dst = some N := by rfl) (hg : oi.guard = none := by rfl) : wpList P ops Q (oi :: rest) a W := by
 subst hn
 refine Kd.MF (Kd.slice 29 k29) W.heap.size 23 hg hd (xs := xs) (inner := inner) (ok := fun k => w.heap.size ≤ k ∧ ((∃ cells, W.heap[k]? = some (.cells cells 29 (0, 0))) ∨ W.heap.size ≤ k)) hrun hrep (fun _ hk => ⟨hk.1, .inl hk.2⟩) ⟨fG HS.keep, .inr (Nat.le_refl _)⟩ (Below.refl _ _) (Nat.le_refl _) (by omega) ?_
 intro v1 w1 ho hb _ _
 obtain ⟨A, c, rfl⟩ := Kd.zJ ho
 rw [hd]
 refine h A c w1 ((HS.oK hb).Dn (Kd.zK ho (fG HS.keep)) (fun k hk => ⟨?_, hk.1⟩) (fun p hp k hk e => ?_))
 ·rintro rfl
  rcases hk.2 with ⟨cells, hc⟩ | hk
  ·obtain ⟨A0, c0, hb, _⟩ := HS.rd
   rw [hb] at hc
   injection hc with hc
   injection hc with _ hc
   exact HS.t.1 hc
  exact absurd HS.rd.lt (by omega)
 obtain ⟨h1, c1, h2⟩ := KL.own HS.s p hp k e.symm
 rcases hk.2 with ⟨cells, hc⟩ | hk
 ·rw [h2] at hc
  injection hc with hc
  injection hc with _ hc
  exact absurd hc (by decide)
 omega
theorem kZ {N : Tmp} {A : Option Addr} {c n1 : Nat} {r : List S29} (HS : St T w0 w W g f0 f1 f2 os ks Z)
 (hrun : (execOp a.eval oi).run P W = .ok (.value (.slice (some ⟨W.heap.size, 0, none⟩) 1 1)) (W.alloc (.cells #[.slice A n1 c] 23)))
 (h : ∀ A' c' w', St T w0 w w' g f0 f1 f2 os ((.slice A' ([r] : List (List S29)).length c', [r]) :: ks) Z → wpList P ops Q rest (a.put (some N) (.slice A' 1 c')) w')
 (hm : (Value.slice A n1 c, r) ∈ os := by repeat (first | exact .head _ | apply List.Mem.tail)) (hd : oi.dst = some N := by rfl) (hg : oi.guard = none := by rfl) : wpList P ops Q (oi :: rest) a W :=
 LC [r] [.slice A n1 c] HS hrun rfl (by omega) (dQ.one (HS.fk hm) (dQ.none _ _)) h hd hg
theorem wZ {N : Tmp} {A B : Option Addr} {c d n1 n2 : Nat} {r s : List S29} (HS : St T w0 w W g f0 f1 f2 os ks Z)
 (hrun : (execOp a.eval oi).run P W = .ok (.value (.slice (some ⟨W.heap.size, 0, none⟩) 2 2)) (W.alloc (.cells #[.slice A n1 c, .slice B n2 d] 23)))
 (h : ∀ A' c' w', St T w0 w w' g f0 f1 f2 os ((.slice A' ([r, s] : List (List S29)).length c', [r, s]) :: ks) Z → wpList P ops Q rest (a.put (some N) (.slice A' 2 c')) w')
 (hm : (Value.slice A n1 c, r) ∈ os := by repeat (first | exact .head _ | apply List.Mem.tail)) (hm2 : (Value.slice B n2 d, s) ∈ os := by repeat (first | exact .head _ | apply List.Mem.tail)) (hd : oi.dst = some N := by rfl) (hg : oi.guard = none := by rfl) : wpList P ops Q (oi :: rest) a W :=
 LC [r, s] [.slice A n1 c, .slice B n2 d] HS hrun rfl (by omega) (dQ.one (HS.fk hm) (dQ.one (HS.fk hm2) (dQ.none _ _))) h hd hg
/-- A row that was made, and behind it the row that was made last: what an append asks, and what it gives back. -/
theorem St.grew {B : Option Addr} {m d : Nat} {v : Value} {r s : List (List S29)} (HS : St T w0 w W g f0 f1 f2 os ((.slice B m d, s) :: (v, r) :: ks) Z) : ∃ ok okp : Nat → Prop, Kd.N (Kd.slice 29 k29) 23 W w.heap.size ok v r ∧ Kd.F (Kd.slice 29 k29) W okp B m s ∧ (∀ k, okp k → ok k ∧ some k ≠ v.ownBlock) ∧ (∀ k, W.heap.size ≤ k → ok k) ∧ m = s.length ∧ w.heap.size ≤ W.heap.size ∧
 ∀ v1 w1 l, Kd.N (Kd.slice 29 k29) 23 w1 w.heap.size ok v1 l → Below w.heap.size W w1 → W.grownBy w1 v.ownBlock → (∀ p ∈ Z.bs, ∃ cs t, p.2 = .cells cs t (0, 0) ∧ t ≠ 23) → ∃ A c, v1 = .slice A l.length c ∧ St T w0 w w1 g f0 f1 f2 [] [(.slice A l.length c, l)] ⟨Z.bs, []⟩ := by
 obtain ⟨⟨ok, hu, u1, u2⟩, ⟨ok', hv, v1, _⟩, _⟩ := HS.s
 refine ⟨fun k => ok k ∨ ok' k ∨ W.heap.size ≤ k, ok, Kd.Ht hv fun k h => .inr (.inl h), Kd.N_F hu, fun k h => ⟨.inl h, u2 _ (.head _) k h⟩, fun k h => .inr (.inr h), (Kd.uB hu).1, fG HS.keep, ?_⟩
 intro v1' w1 l ho hb hgr hz
 obtain ⟨A, c, rfl⟩ := Kd.zJ ho
 obtain ⟨A0, c0, hb0, hg0, hr0⟩ := HS.rd
 have hne : some g ≠ v.ownBlock := Kd.MC hv hb0 (fun e => HS.t.2.1 e.symm)
 refine ⟨A, c, rfl, HS.t, HS.z, ⟨A0, c0, kN hb0 hgr hne, hg0, hr0⟩, zB HS.below HS.z hb, HS.keep.trans (cO.wS hgr g) (Kd.Jp hv), fun _ h => (nomatch h), ⟨⟨_, ho, fun k hk => ?_, fun _ h => (nomatch h)⟩, trivial⟩, fun p hp => ?_, fun _ h => (nomatch h)⟩
 ·rcases hk with hk | hk | hk
  ·exact u1 k hk
  ·exact v1 k hk
  exact ⟨by have := HS.rd.lt; omega, Nat.le_trans (fG HS.keep) hk⟩
 obtain ⟨h1, h2⟩ := HS.b p hp
 obtain ⟨cs, t, e, ht⟩ := hz p hp
 refine ⟨?_, h2⟩
 rw [e] at h1 ⊢
 exact kN h1 hgr (Kd.MC hv h1 (fun e => ht e.symm))
theorem zD {N : Tmp} (x y : Operand) {B : Option Addr} {m d : Nat} {v : Value} {r s : List (List S29)} {X : Option β} {cn : Prop} [Decidable cn] (ho : oi.op = .call { callee := .builtin .append, args := #[x, y], argTypes := #[55, 55] })
 (ht : P.underlying 55 = some (.slice 23)) (hinfo : (P.info? 23).map (fun i => (i.zero, i.size, i.bytes)) = some (some (.slice none 0 0), 1, 24))
 (HS : St T w0 w W g f0 f1 f2 os ((.slice B m d, s) :: (v, r) :: ks) Z) (hx : a.eval x = v) (hy : a.eval y = .slice B m d)
 (H : ae ((if cn then X else none) = some R))
 (h : ∀ A' c' w', St T w0 w w' g f0 f1 f2 [] [(.slice A' (r ++ s).length c', r ++ s)] ⟨Z.bs, []⟩ → ae (X = some R) → wpList P ops Q rest (a.put (some N) (.slice A' (r ++ s).length c')) w')
 (hcn : cn → r.length + s.length ≤ 5864062014805 := by (intro h_; simp only [List.length_cons, List.length_nil]; omega)) (hz : ∀ p ∈ Z.bs, ∃ cs t, p.2 = .cells cs t (0, 0) ∧ t ≠ 23 := by (intro p hp; first | (rcases List.mem_cons.1 hp with rfl | hp; exact ⟨_, _, rfl, by decide⟩; cases hp) | cases hp)) (hd : oi.dst = some N := by rfl) (hg : oi.guard = none := by rfl) : wpList P ops Q (oi :: rest) a W := by
 by_cases hl : cn
 ·have hle := hcn hl
  obtain ⟨ok, okp, h1, h2, h3, h4, h5, h6, h7⟩ := HS.grew
  refine Kd.xZ (Kd.slice 29 k29) w.heap.size hg x y 55 23 (.slice none 0 0) 24 ho ht hinfo rfl (by decide) (by omega) v r s B m d ok okp hx hy h1 h2 h3 h4 (Below.refl _ _) h6 (by omega) ?_
  intro v1' w1 ho hb hgr _
  obtain ⟨A, c, rfl, hs⟩ := h7 v1' w1 _ ho hb hgr hz
  rw [hd]
  exact h A c w1 hs (hI hl H)
 exact absurd (hE hl H).out (by simp)
/-- The same in a region whose operations go in any order. -/
theorem Na {Kc : Act → World → Prop} {N : Tmp} (x y : Operand) {B : Option Addr} {m d : Nat} {v : Value} {r s : List (List S29)} {X : Option β} {cn : Prop} [Decidable cn] (ho : oi.op = .call { callee := .builtin .append, args := #[x, y], argTypes := #[55, 55] })
 (ht : P.underlying 55 = some (.slice 23)) (hinfo : (P.info? 23).map (fun i => (i.zero, i.size, i.bytes)) = some (some (.slice none 0 0), 1, 24))
 (HS : St T w0 w W g f0 f1 f2 os ((.slice B m d, s) :: (v, r) :: ks) Z) (hw : Region.wanted oi (yielded ops a.tmps) = true) (hx : a.eval x = v) (hy : a.eval y = .slice B m d)
 (H : ae ((if cn then X else none) = some R))
 (h : ∀ A' c' w' n, ae (n = (r ++ s).length) → St T w0 w w' g f0 f1 f2 [] [(.slice A' n c', r ++ s)] ⟨Z.bs, []⟩ → ae (X = some R) → Kc (a.put (some N) (.slice A' n c')) w')
 (hcn : cn → r.length + s.length ≤ 5864062014805 := by (intro h_; simp only [List.length_cons, List.length_nil]; omega)) (hz : ∀ p ∈ Z.bs, ∃ cs t, p.2 = .cells cs t (0, 0) ∧ t ≠ 23 := by (intro p hp; first | (rcases List.mem_cons.1 hp with rfl | hp; exact ⟨_, _, rfl, by decide⟩; cases hp) | cases hp)) (hd : oi.dst = some N := by rfl) : if Region.wanted oi (yielded ops a.tmps) = true then Oper.wp P oi a W Kc Q else Kc (a.put oi.dst undef) W := by
 by_cases hl : cn
 ·have hle := hcn hl
  obtain ⟨ok, okp, h1, h2, h3, h4, h5, h6, h7⟩ := HS.grew
  refine Kd.sH (Kd.slice 29 k29) w.heap.size hw x y 55 23 (.slice none 0 0) 24 ho ht hinfo rfl (by decide) (by omega) v r s B m d ok okp hx hy h1 h2 h3 h4 (Below.refl _ _) h6 (by omega) ?_
  intro v1' w1 ho hb hgr _
  obtain ⟨A, c, rfl, hs⟩ := h7 v1' w1 _ ho hb hgr hz
  rw [hd]
  exact h A c w1 _ ⟨rfl⟩ hs (hI hl H)
 exact absurd (hE hl H).out (by simp)
theorem app {N : Tmp} (x y : Operand) {B : Option Addr} {m d : Nat} {v : Value} {r s : List (List S29)} {X : Option β} {cn : Prop} [Decidable cn] (ho : oi.op = .call { callee := .builtin .append, args := #[x, y], argTypes := #[55, 55] })
 (ht : P.underlying 55 = some (.slice 23)) (hinfo : (P.info? 23).map (fun i => (i.zero, i.size, i.bytes)) = some (some (.slice none 0 0), 1, 24))
 (HS : St T w0 w W g f0 f1 f2 os ((.slice B m d, s) :: (v, r) :: ks) Z) (hx : a.eval x = v) (hy : a.eval y = .slice B m d)
 (H : ae ((if cn then X else none) = some R))
 (h : ∀ A' c' w', St T w0 w w' g f0 f1 f2 [] [(.slice A' (r ++ s).length c', r ++ s)] ⟨[], []⟩ → ae (X = some R) → wpList P ops Q rest (a.put (some N) (.slice A' (r ++ s).length c')) w')
 (hcn : cn → r.length + s.length ≤ 5864062014805 := by (intro h_; simp only [List.length_cons, List.length_nil]; omega)) (hd : oi.dst = some N := by rfl) (hg : oi.guard = none := by rfl) : wpList P ops Q (oi :: rest) a W :=
 zD x y ho ht hinfo (Z := ⟨[], []⟩) ⟨HS.t, HS.z, HS.rd, HS.below, HS.keep, HS.o, HS.s, fun _ h => (nomatch h), fun _ h => (nomatch h)⟩ hx hy H h hcn (fun _ h => (nomatch h)) hd hg
theorem cB {f : FuncId} {post : Ending → World → Prop} {F : Option (Bool × Int × Bool)} {K : Bool × Int × Bool → Option β} (HS : St T w0 w W g f0 f1 f2 os ks Z) (H : ae (F.bind K = some R))
 (hC : ∀ t q b, Rd T w0 W g f0 f1 f2 → Below w0.heap.size w0 W → F = some (t, q, b) → Calls P f args W (Back T w0 W g f0 q b fun e _ => e = .returned (.bool t)))
 (h : ∀ t q b w', St T w0 w w' g f0 q b os ks Z → ae (K (t, q, b) = some R) → post (.returned (.bool t)) w') : Calls P f args W post := by
 obtain ⟨⟨t, q, b⟩, h1, h2⟩ := Option.bind_eq_some_iff.mp H.out
 refine (hC t q b HS.rd HS.below h1).mono ?_
 rintro _ w' ⟨rfl, hi, hb, hk⟩
 exact h t q b w' (HS.step hk hi hb) ⟨h2⟩
theorem MN {α : Type} (d : Kd α) {W : World} {base e : Nat} {xs : List α} {inner : List Value} {ok okp : Nat → Prop} (hrep : dQ (d.M W base okp) d.sz xs inner) (hok : ∀ k, okp k → ok k) (hfresh : ok W.heap.size) (hbase : base ≤ W.heap.size) (hm : xs.length ≤ 9223372036854775807) :
 Kd.R d e (W.alloc (.cells inner.toArray e)) base ok (.slice (some ⟨W.heap.size, 0, none⟩) xs.length xs.length) xs := by
 refine ⟨fun k hk => ?_, inner, ?_, ?_⟩
 ·have : W.heap.size = k := by simpa [Value.ownBlock] using hk
  subst this
  exact hfresh
 ·have h2 := World.ownsRow_lit (base := base) (e := e) (size := d.sz) W inner.toArray xs.length hbase (by simpa [maxLen] using hm) (by simpa using hrep.1)
  simpa using h2
 refine hrep.pW (fun p c hp => d.M_mono (fun k hk => ⟨hok k hk.1, fun he => ?_⟩) (Kd.DT (d.M_bound hp) (iF (Below.refl _ _) _)))
 have h3 : k = W.heap.size := by simpa [Value.ownBlock] using he
 have := hk.2.2.1
 omega
theorem MO {α : Type} (d : Kd α) {W : World} {base e : Nat} {xs : List α} {inner : List Value} {ok okp : Nat → Prop} (hrep : dQ (Kd.FK d W okp) d.sz xs inner) (hok : ∀ k, okp k → ok k) (hfresh : ok W.heap.size) (hbase : base ≤ W.heap.size) (hm : xs.length ≤ 9223372036854775807) :
 Kd.N d e (W.alloc (.cells inner.toArray e)) base ok (.slice (some ⟨W.heap.size, 0, none⟩) xs.length xs.length) xs := by
 have hr := MN (Kd.raw d.sz) (W := W) (base := base) (e := e) (xs := Kd.chunks d.sz xs.length inner) (inner := inner) (ok := fun k => k = W.heap.size) (okp := fun _ => False) (Kd.wK hrep (fun y c hk => ⟨d.K_len (Kd.qj hk), d.K_one (Kd.qj hk)⟩)) (fun _ hk => hk.elim) rfl hbase (by rw [Kd.iy]; exact hm)
 rw [Kd.iy] at hr
 exact Kd.Hu hr (World.grownBy_alloc W _ none) ⟨_, rfl, Nat.le_refl _⟩ (Kd.iy _ _ _) (fun j y c hy hc => by rw [Kd.mZ hc]; exact hrep.2 j y hy) hok hfresh
/-- A row of trees that is made just now. -/
theorem St.lits {n : Nat} {xs : List (List S29)} {inner : List Value} (HS : St T w0 w W g f0 f1 f2 os ks Z) (hn : xs.length = n) (h3 : n ≤ 3) (hrep : dQ (Kd.FK (Kd.slice 29 k29) W fun k => w.heap.size ≤ k ∧ ∃ cells, W.heap[k]? = some (.cells cells 29 (0, 0))) 1 xs inner) :
 St T w0 w (W.alloc (.cells inner.toArray 23)) g f0 f1 f2 os ((.slice (some ⟨W.heap.size, 0, none⟩) n n, xs) :: ks) Z := by
 subst hn
 have ho := MO (Kd.slice 29 k29) (W := W) (base := W.heap.size) (e := 23) (xs := xs) (inner := inner) (ok := fun k => w.heap.size ≤ k ∧ ((∃ cells, W.heap[k]? = some (.cells cells 29 (0, 0))) ∨ W.heap.size ≤ k)) hrep (fun _ hk => ⟨hk.1, .inl hk.2⟩) ⟨fG HS.keep, .inr (Nat.le_refl _)⟩ (Nat.le_refl _) (by omega)
 refine (HS.alloc _).Dn (Kd.zK ho (fG HS.keep)) (fun k hk => ⟨?_, hk.1⟩) (fun p hp k hk e => ?_)
 ·rintro rfl
  rcases hk.2 with ⟨cells, hc⟩ | hk
  ·obtain ⟨A0, c0, hb, _⟩ := HS.rd
   rw [hb] at hc
   injection hc with hc
   injection hc with _ hc
   exact HS.t.1 hc
  exact absurd HS.rd.lt (by omega)
 obtain ⟨h1, c1, h2⟩ := KL.own HS.s p hp k e.symm
 rcases hk.2 with ⟨cells, hc⟩ | hk
 ·rw [h2] at hc
  injection hc with hc
  injection hc with _ hc
  exact absurd hc (by decide)
 omega
theorem St.J6 {A : Option Addr} {c n1 : Nat} {r : List S29} (HS : St T w0 w W g f0 f1 f2 os ks Z) (hm : (Value.slice A n1 c, r) ∈ os := by repeat (first | exact .head _ | apply List.Mem.tail)) :
 St T w0 w (W.alloc (.cells #[.slice A n1 c] 23)) g f0 f1 f2 os ((.slice (some ⟨W.heap.size, 0, none⟩) ([r] : List (List S29)).length 1, [r]) :: ks) Z := HS.lits (inner := [.slice A n1 c]) rfl (by simp) (dQ.one (HS.fk hm) (dQ.none _ _))
theorem St.J5 {A B C : Option Addr} {c d e n1 n2 n3 : Nat} {r s t : List S29} (HS : St T w0 w W g f0 f1 f2 os ks Z) (hm : (Value.slice A n1 c, r) ∈ os := by repeat (first | exact .head _ | apply List.Mem.tail)) (hm2 : (Value.slice B n2 d, s) ∈ os := by repeat (first | exact .head _ | apply List.Mem.tail)) (hm3 : (Value.slice C n3 e, t) ∈ os := by repeat (first | exact .head _ | apply List.Mem.tail)) :
 St T w0 w (W.alloc (.cells #[.slice A n1 c, .slice B n2 d, .slice C n3 e] 23)) g f0 f1 f2 os ((.slice (some ⟨W.heap.size, 0, none⟩) ([r, s, t] : List (List S29)).length 3, [r, s, t]) :: ks) Z := HS.lits (inner := [.slice A n1 c, .slice B n2 d, .slice C n3 e]) rfl (by simp) (dQ.one (HS.fk hm) (dQ.one (HS.fk hm2) (dQ.one (HS.fk hm3) (dQ.none _ _))))
theorem cL {f : FuncId} {post : Ending → World → Prop} {F : Option (List S29 × Int × Bool)} {K : List S29 × Int × Bool → Option β} (HS : St T w0 w W g f0 f1 f2 os ks Z) (H : ae (F.bind K = some R))
 (hC : ∀ t q b, Rd T w0 W g f0 f1 f2 → Below w0.heap.size w0 W → F = some (t, q, b) → Calls P f args W (Back T w0 W g f0 q b (IsL W t)))
 (h : ∀ t q b w' A c, St T w0 w w' g f0 q b ((.slice A t.length c, t) :: os) ks Z → ae (K (t, q, b) = some R) → post (.returned (.slice A t.length c)) w') : Calls P f args W post := by
 obtain ⟨⟨t, q, b⟩, h1, h2⟩ := Option.bind_eq_some_iff.mp H.out
 refine (hC t q b HS.rd HS.below h1).mono ?_
 rintro _ w' ⟨⟨v, rfl, ho⟩, hi, hb, hk⟩
 obtain ⟨A, c, rfl⟩ := Kd.eU ho
 exact h t q b w' A c ((HS.step hk hi hb).push (fG HS.keep) ho) ⟨h2⟩
theorem vH {W : World} {o : Obj} {p : Addr} {v : Value} (h : W.cell? p = some v) : (W.alloc o).cell? p = some v := (World.cell?_alloc_lt W o p (World.block_lt_of_cell? _ _ h)).trans h
theorem cJ {f : FuncId} {post : Ending → World → Prop} {F : Option (List S29)} {K : List S29 → Option β} {A : Option Addr} {c : Nat} {l : List (List S29)}
 (HS : St T w0 w W g f0 f1 f2 os ((.slice A l.length c, l) :: ks) Z) (H : ae (F.bind K = some R))
 (hC : ∀ t, Kd.C (Kd.slice 29 k29) W A l.length l → l.length ≤ c → F = some t → Calls P f args W (fun e w' => ∃ v, e = .returned v ∧ Kd.R k29 29 w' W.heap.size (fun _ => True) v t ∧ Below W.heap.size W w'))
 (h : ∀ t w' A c, St T w0 w w' g f0 f1 f2 ((.slice A t.length c, t) :: os) ks Z → Below W.heap.size W w' → ae (K t = some R) → post (.returned (.slice A t.length c)) w') : Calls P f args W post := by
 obtain ⟨t, h1, h2⟩ := Option.bind_eq_some_iff.mp H.out
 obtain ⟨⟨ok, hn, _⟩, _⟩ := HS.s
 obtain ⟨_, hc, hr⟩ := Kd.uB hn
 refine (hC t hr hc h1).mono ?_
 rintro _ w' ⟨v, rfl, ho, hb⟩
 obtain ⟨A, c, rfl⟩ := Kd.eU ho
 exact h t w' A c ((HS.pop.oK hb).push (fG HS.keep) ho) hb ⟨h2⟩
/-- A tree is made of one that was made. -/
theorem cS {f : FuncId} {post : Ending → World → Prop} {F : Option (List S29)} {K : List S29 → Option β} {A : Option Addr} {n c : Nat} {l : List S29}
 (HS : St T w0 w W g f0 f1 f2 os ks Z) (H : ae (F.bind K = some R)) (hm : (Value.slice A n c, l) ∈ os)
 (hC : ∀ t, n = l.length → Kd.C k29 W A l.length l → l.length ≤ c → F = some t → Calls P f args W (fun e w' => ∃ v, e = .returned v ∧ Kd.R k29 29 w' W.heap.size (fun _ => True) v t ∧ Below W.heap.size W w'))
 (h : ∀ t w' A c, St T w0 w w' g f0 f1 f2 ((.slice A t.length c, t) :: os) ks Z → Below W.heap.size W w' → ae (K t = some R) → post (.returned (.slice A t.length c)) w') : Calls P f args W post := by
 obtain ⟨t, h1, h2⟩ := Option.bind_eq_some_iff.mp H.out
 obtain ⟨hn, hc, hr⟩ := Kd.dL (HS.o _ hm)
 refine (hC t hn hr (by rw [← hn]; exact hc) h1).mono ?_
 rintro _ w' ⟨v, rfl, ho, hb⟩
 obtain ⟨A, c, rfl⟩ := Kd.eU ho
 exact h t w' A c ((HS.oK hb).push (fG HS.keep) ho) hb ⟨h2⟩
/-- The first node of a tree that was made. -/
theorem St.node {A : Option Addr} {n c : Nat} {t : List S29} (HS : St T w0 w W g f0 f1 f2 os ks Z) (hm : (Value.slice A n c, t) ∈ os) (h : 0 < (t.length : Int)) : ∃ ad, A = some ad ∧ W.cell? ad = some (.int .i64 (ax t 0).f0) ∧ W.cell? ⟨ad.block, ad.off + 2, none⟩ = some (.string (ax t 0).f2) := by
 obtain ⟨ad, e, h0, h1, h2, h3, h4⟩ := ja (Kd.dL (HS.o _ hm)).2.2 0 (by omega) h
 refine ⟨ad, e, ?_, ?_⟩
 ·rwa [show (0 : Int).toNat * 5 = 0 from rfl, Addr.add_zero'] at h0
 rwa [show (0 : Int).toNat * 5 = 0 from rfl, Addr.add_zero'] at h2
theorem St.J4 {ad : Addr} {n c : Nat} {t : List S29} (HS : St T w0 w W g f0 f1 f2 os ks Z) (hm : (Value.slice (some ad) n c, t) ∈ os) (h : (0 < (t.length : Int)) = True) : W.cell? ad = some (.int .i64 (ax t 0).f0) ∧ W.cell? ⟨ad.block, ad.off + 2, none⟩ = some (.string (ax t 0).f2) := by
 obtain ⟨ad', e, h1⟩ := HS.node hm (of_eq_true h)
 cases e
 exact h1
/-- Numbers are made of a tree that was made. -/
theorem sI (f : FuncId) {N : Tmp} (hop : oi.op = .call { callee := .value (.func f), args := ar, argTypes := ts }) (hf : P.funcs[f]? = some fn) {F : Option (List Int)} {K : List Int → Option β} {A : Option Addr} {n c : Nat} {l : List S29}
 (HS : St T w0 w W g f0 f1 f2 os ks Z) (H : ae (F.bind K = some R)) (hm : (Value.slice A n c, l) ∈ os)
 (hC : ∀ t, n = l.length → Kd.C k29 W A l.length l → l.length ≤ c → F = some t → Calls P f args W (fun e w' => ∃ v, e = .returned v ∧ Kd.R (Kd.int .i64) 3 w' W.heap.size (fun _ => True) v t ∧ Below W.heap.size W w'))
 (h : ∀ t w' A c, St T w0 w w' g f0 f1 f2 os ks Z → Kd.C (Kd.int .i64) w' A t.length t → ae (K t = some R) → wpList P ops Q rest (a.put (some N) (.slice A t.length c)) w')
 (hd : oi.dst = some N := by rfl) (hg : oi.guard = none := by rfl) (hname : (fn.name == "runtime.NumGoroutine") = false := by kernel_rfl) (hb : fn.body.isSome = true := by rfl)
 (hargs : ar.map a.eval = args := by ((try simp only [List.map_toArray, List.map_cons, List.map_nil]); first | done | rfl)) : wpList P ops Q (oi :: rest) a W := by
 obtain ⟨t, h1, h2⟩ := Option.bind_eq_some_iff.mp H.out
 obtain ⟨hn, hc, hr⟩ := Kd.dL (HS.o _ hm)
 refine kJ (some N) hd hg hf hname hb args hop hargs ((hC t hn hr (by rw [← hn]; exact hc) h1).mono ?_)
 rintro _ w' ⟨v, rfl, ho, hb⟩
 obtain ⟨A, c, rfl⟩ := Kd.eU ho
 exact ⟨_, rfl, h t w' A c (HS.oK hb) (Kd.dL ho).2.2 ⟨h2⟩⟩
structure DN (p : Prop) : Prop where
 h : p
/-- A struct that is boxed. -/
theorem boxS {N : Tmp} {cs : Array Value} {t : TypeId} (HS : St T w0 w W g f0 f1 f2 os ks Z) (hrun : (execOp a.eval oi).run P W = .ok (.value (.pointer (some ⟨W.heap.size, 0, none⟩))) (W.alloc (.cells cs t (0, 0))))
 (h : ∀ gb w', St T w0 w w' g f0 f1 f2 os ks ⟨(gb, .cells cs t (0, 0)) :: Z.bs, Z.ss⟩ → gb ≠ g → w.heap.size ≤ gb → wpList P ops Q rest (a.put (some N) (.pointer (some ⟨gb, 0, none⟩))) w')
 (hd : oi.dst = some N := by rfl) (hg : oi.guard = none := by rfl) : wpList P ops Q (oi :: rest) a W := by
 refine gp hg hd hrun ?_
 intro gb hgb w1 hc hb
 have hne : gb ≠ g := by rw [hgb]; exact Nat.ne_of_gt HS.rd.lt
 have h1 := HS.oK hb
 rw [hd]
 exact h gb w1 ⟨h1.t, h1.z, h1.rd, h1.below, h1.keep, h1.o, h1.s, fun p hp => (by
  rcases List.mem_cons.1 hp with rfl | hp
  ·exact ⟨hc, hne⟩
  exact h1.b p hp), h1.ss⟩ hne (by rw [hgb]; exact fG HS.keep)
theorem St.boxed (HS : St T w0 w W g f0 f1 f2 os ks Z) (cs : Array Value) (t : TypeId) : ∃ gb w', W.heap.size = gb ∧ (W.alloc (.cells cs t)).drew = w' ∧ St T w0 w w' g f0 f1 f2 os ks ⟨(gb, .cells cs t (0, 0)) :: Z.bs, Z.ss⟩ ∧ gb ≠ g := by
 have h1 := (HS.alloc (.cells cs t)).drew
 have hne : W.heap.size ≠ g := Nat.ne_of_gt HS.rd.lt
 exact ⟨_, _, rfl, rfl, ⟨h1.t, h1.z, h1.rd, h1.below, h1.keep, h1.o, h1.s, fun p hp => (by
  rcases List.mem_cons.1 hp with rfl | hp
  ·exact ⟨jk (DK W _), hne⟩
  exact h1.b p hp), h1.ss⟩, hne⟩
/-- Texts are made. -/
theorem sG (f : FuncId) {N : Tmp} (hop : oi.op = .call { callee := .value (.func f), args := ar, argTypes := ts }) (hf : P.funcs[f]? = some fn) {F : Option (List ByteArray)} {K : List ByteArray → Option β}
 (HS : St T w0 w W g f0 f1 f2 os ks Z) (H : ae (F.bind K = some R))
 (hC : ∀ t, F = some t → Calls P f args W (fun e w' => ∃ v, e = .returned v ∧ Kd.R Kd.string 9 w' W.heap.size (fun _ => True) v t ∧ Below W.heap.size W w'))
 (h : ∀ t w' A c, St T w0 w w' g f0 f1 f2 os ks ⟨Z.bs, (.slice A t.length c, t) :: Z.ss⟩ → ae (K t = some R) → wpList P ops Q rest (a.put (some N) (.slice A t.length c)) w')
 (hd : oi.dst = some N := by rfl) (hg : oi.guard = none := by rfl) (hname : (fn.name == "runtime.NumGoroutine") = false := by kernel_rfl) (hb : fn.body.isSome = true := by rfl)
 (hargs : ar.map a.eval = args := by ((try simp only [List.map_toArray, List.map_cons, List.map_nil]); first | done | rfl)) : wpList P ops Q (oi :: rest) a W := by
 obtain ⟨t, h1, h2⟩ := Option.bind_eq_some_iff.mp H.out
 refine kJ (some N) hd hg hf hname hb args hop hargs ((hC t h1).mono ?_)
 rintro _ w' ⟨v, rfl, ho, hb⟩
 obtain ⟨A, c, rfl⟩ := Kd.eU ho
 have h3 := HS.oK hb
 exact ⟨_, rfl, h t w' A c ⟨h3.t, h3.z, h3.rd, h3.below, h3.keep, h3.o, h3.s, h3.b, fun p hp => (by
  rcases List.mem_cons.1 hp with rfl | hp
  ·exact Kd.ig ho (fG HS.keep)
  exact h3.ss p hp)⟩ ⟨h2⟩⟩
theorem MP {N : Tmp} {x y z : ByteArray} (HS : St T w0 w W g f0 f1 f2 os ks Z)
 (hrun : (execOp a.eval oi).run P W = .ok (.value (.slice (some ⟨W.heap.size, 0, none⟩) 3 3)) (W.alloc (.cells #[.string x, .string y, .string z] 9)))
 (h : ∀ A c w', St T w0 w w' g f0 f1 f2 os ks ⟨Z.bs, (.slice A ([x, y, z] : List ByteArray).length c, [x, y, z]) :: Z.ss⟩ → wpList P ops Q rest (a.put (some N) (.slice A 3 c)) w')
 (hd : oi.dst = some N := by rfl) (hg : oi.guard = none := by rfl) : wpList P ops Q (oi :: rest) a W := by
 refine Kd.oH Kd.string W.heap.size 9 hg hd (xs := [x, y, z]) (inner := [.string x, .string y, .string z]) (ok := fun _ => True) (okp := fun _ => True) hrun ?_ (fun _ hk => hk) trivial (Below.refl _ _) (Nat.le_refl _) (by simp) ?_
 ·exact dQ.one rfl (dQ.one rfl (dQ.one rfl (dQ.none _ _)))
 intro v1 w1 ho hb _ _
 obtain ⟨A, c, rfl⟩ := Kd.eU ho
 have h3 := HS.oK hb
 rw [hd]
 exact h A c w1 ⟨h3.t, h3.z, h3.rd, h3.below, h3.keep, h3.o, h3.s, h3.b, fun p hp => (by
  rcases List.mem_cons.1 hp with rfl | hp
  ·exact Kd.ig ho (fG HS.keep)
  exact h3.ss p hp)⟩
theorem St.str {A : Option Addr} {n c : Nat} {xs : List ByteArray} {bs : List (Nat × Obj)} {l : List (Value × List ByteArray)} (HS : St T w0 w W g f0 f1 f2 os ks ⟨bs, (.slice A n c, xs) :: l⟩) (i : Int) (h0 : 0 ≤ i) (h1 : i < (xs.length : Int)) : ∃ ad, A = some ad ∧ W.cell? (ad.add i.toNat) = some (.string (lZ ByteArray.empty xs i)) :=
 Kd.jI (Kd.dL (HS.ss _ (.head _))).2.2 i h0 (by simpa using h1)
theorem St.EZ {ad : Addr} {n c : Nat} {xs : List ByteArray} {bs : List (Nat × Obj)} {l : List (Value × List ByteArray)} (HS : St T w0 w W g f0 f1 f2 os ks ⟨bs, (.slice (some ad) n c, xs) :: l⟩) {i : Int} (h0 : 0 ≤ i) (h1 : i < (xs.length : Int)) : W.cell? (ad.add i.toNat) = some (.string (lZ ByteArray.empty xs i)) := by
 obtain ⟨ad', e, h⟩ := HS.str i h0 h1
 cases e
 exact h
theorem St.box (HS : St T w0 w W g f0 f1 f2 os ks Z) {gb : Nat} {cs : Array Value} {t : TypeId} {l : List (Nat × Obj)} {ss : List (Value × List ByteArray)} (hZ : Z = ⟨(gb, .cells cs t (0, 0)) :: l, ss⟩) : W.heap[gb]? = some (.cells cs t (0, 0)) := by
 subst hZ
 exact (HS.b _ (.head _)).1
end
theorem lK (a : Int) (b : ByteArray) (c d : Int) (w : World) : (Instr.field 37 (.agg #[.int .i64 a, .string b, .int .i64 c, .int .i64 d]) 0).run Tryz.prog w = .ok (.int .i64 a) w := by kernel_rfl
theorem lJ (a : Int) (b : ByteArray) (c d : Int) (w : World) : (Instr.field 37 (.agg #[.int .i64 a, .string b, .int .i64 c, .int .i64 d]) 1).run Tryz.prog w = .ok (.string b) w := by kernel_rfl
theorem lI (a : Int) (b : ByteArray) (c d : Int) (w : World) : (Instr.field 37 (.agg #[.int .i64 a, .string b, .int .i64 c, .int .i64 d]) 2).run Tryz.prog w = .ok (.int .i64 c) w := by kernel_rfl
theorem lH (a : Int) (b : ByteArray) (c d : Int) (w : World) : (Instr.field 37 (.agg #[.int .i64 a, .string b, .int .i64 c, .int .i64 d]) 3).run Tryz.prog w = .ok (.int .i64 d) w := by kernel_rfl
end Go.Proofs.YtkbhkonenkgfoaaGreat.Q
end
section
set_option linter.unusedVariables false
namespace Go.Proofs.YtkbhkonenkgfoaaGreat.Q
open Go Go.RowKit Go.Proofs.YtkbhkonenkgfoaaGreatW.PrintWords Go.Proofs.YtkbhkonenkgfoaaGreatW.PrintLast Go.Proofs.YtkbhkonenkgfoaaGreatW.PrintMore
theorem toL {P : Program} {f : FuncId} {args : Array Value} {w0 w : World} {g : Nat} {s0 : List S37} {q : Int} {b : Bool} {r : List S29}
 (h : Calls P f args w fun e w' => ∃ v0_ : Value, e = .returned (v0_) ∧ Kd.R k29 29 w' w.heap.size (fun _ => True) v0_ r ∧ dB w0 w' g s0 q b ∧ Below w0.heap.size w0 w' ∧ cO w w' g none) : Calls P f args w (Back 40 w0 w g s0 q b (IsL w r)) :=
 h.mono fun e w' ⟨v, h1, h2, h3, h4, h5⟩ => ⟨⟨v, h1, h2⟩, h3, h4, h5⟩
theorem ofL {P : Program} {f : FuncId} {args : Array Value} {w0 w : World} {g : Nat} {s0 : List S37} {q : Int} {b : Bool} {r : List S29}
 (h : Calls P f args w (Back 40 w0 w g s0 q b (IsL w r))) : Calls P f args w fun e w' => ∃ v0_ : Value, e = .returned (v0_) ∧ Kd.R k29 29 w' w.heap.size (fun _ => True) v0_ r ∧ dB w0 w' g s0 q b ∧ Below w0.heap.size w0 w' ∧ cO w w' g none :=
 h.mono fun e w' ⟨⟨v, h1, h2⟩, h3, h4, h5⟩ => ⟨v, h1, h2, h3, h4, h5⟩
section
variable {P : Program} {ops : Array Oper} {Q : Exit → Act → World → Prop} {T : Nat} {w0 w W : World} {g : Nat} {f0 : List S37} {f1 : Int} {f2 : Bool} {os : List (Value × List S29)} {ks : List (Value × List (List S29))} {Z : Ext}
 {rest : List Oper} {oi : Oper} {a : Act} {fn : Func} {ar : Array Operand} {ts : Array TypeId} {args : Array Value} {ρ β : Type} {R : β}
/-- A text is what it is asked for, or isn't. -/
theorem tS (t : ByteArray) (K : List UInt8) : (t.toList = K ∧ (t.toList == K) = true ∧ (t.toList != K) = false) ∨ (t.toList ≠ K ∧ (t.toList == K) = false ∧ (t.toList != K) = true) := by
 by_cases h : t.toList = K
 ·exact .inl ⟨h, beq_iff_eq.mpr h, bne_eq_false_iff_eq.mpr h⟩
 exact .inr ⟨h, beq_eq_false_iff_ne.mpr h, bne_iff_ne.mpr h⟩
theorem nS (x y : Int) : (x = y ∧ (x == y) = true ∧ (x != y) = false) ∨ (x ≠ y ∧ (x == y) = false ∧ (x != y) = true) := by
 by_cases h : x = y
 ·exact .inl ⟨h, beq_iff_eq.mpr h, bne_eq_false_iff_eq.mpr h⟩
 exact .inr ⟨h, beq_eq_false_iff_ne.mpr h, bne_iff_ne.mpr h⟩
/-- The state goes on over stores into it or into a struct of the call's own, draws, blocks that are made. -/
theorem stX {W0 : World} {p : Int} {c : Bool} {os' : List (Value × List S29)} {ks' : List (Value × List (List S29))} {Z' : Ext} (H : St T w0 w W0 g f0 p c os ks Z) (f : St T w0 w W0 g f0 p c os ks Z → St T w0 w W g f0 f1 f2 os' ks' Z' := by (intro h_; repeat (first | (with_reducible exact h_) | apply St.drewN | apply St.drew | apply St.set1 | apply St.set2 | apply St.alloc | apply St.setB (hge := by assumption)))) : St T w0 w W g f0 f1 f2 os' ks' Z' := f H
theorem St.cB {gb : Nat} {cs : Array Value} {t : TypeId} (h : St T w0 w W g f0 f1 f2 os ks Z) (hm : (gb, .cells cs t (0, 0)) ∈ Z.bs) (i : Nat) : W.cell? ⟨gb, i, none⟩ = cs[i]? ∧ W.frozen? ⟨gb, i, none⟩ = false :=
 ⟨aj (h.b _ hm).1 i, ag (h.b _ hm).1 i⟩
theorem cX {f : FuncId} {post : Ending → World → Prop} {F : Option (ByteArray × Int × Bool)} {K : ByteArray × Int × Bool → Option β} (HS : St T w0 w W g f0 f1 f2 os ks Z) (H : ae (F.bind K = some R))
 (hC : ∀ t q b, Rd T w0 W g f0 f1 f2 → Below w0.heap.size w0 W → F = some (t, q, b) → Calls P f args W (Back T w0 W g f0 q b fun e _ => e = .returned (.string t)))
 (h : ∀ t q b w', St T w0 w w' g f0 q b os ks Z → ae (K (t, q, b) = some R) → post (.returned (.string t)) w') : Calls P f args W post := by
 obtain ⟨⟨t, q, b⟩, h1, h2⟩ := Option.bind_eq_some_iff.mp H.out
 refine (hC t q b HS.rd HS.below h1).mono ?_
 rintro _ w' ⟨rfl, hi, hb, hk⟩
 exact h t q b w' (HS.step hk hi hb) ⟨h2⟩
/-- A token, and whether there is one. -/
theorem sX (f : FuncId) {N : Tmp} (hop : oi.op = .call { callee := .value (.func f), args := ar, argTypes := ts }) (hf : P.funcs[f]? = some fn) {F : Option (Int × ByteArray × Int × Int × Bool × Int × Bool)} {K : Int × ByteArray × Int × Int × Bool × Int × Bool → Option β}
 (HS : St T w0 w W g f0 f1 f2 os ks Z) (H : ae (F.bind K = some R))
 (hC : ∀ t1 t2 t3 t4 o q b, Rd T w0 W g f0 f1 f2 → Below w0.heap.size w0 W → F = some (t1, t2, t3, t4, o, q, b) → Calls P f args W (Back T w0 W g f0 q b fun e _ => e = .returned (.tuple #[.agg #[.int .i64 t1, .string t2, .int .i64 t3, .int .i64 t4], .bool o])))
 (h : ∀ t1 t2 t3 t4 o q b w', St T w0 w w' g f0 q b os ks Z → ae (K (t1, t2, t3, t4, o, q, b) = some R) → wpList P ops Q rest (a.put (some N) (.tuple #[.agg #[.int .i64 t1, .string t2, .int .i64 t3, .int .i64 t4], .bool o])) w')
 (hd : oi.dst = some N := by rfl) (hg : oi.guard = none := by rfl) (hname : (fn.name == "runtime.NumGoroutine") = false := by kernel_rfl) (hb : fn.body.isSome = true := by rfl)
 (hargs : ar.map a.eval = args := by ((try simp only [List.map_toArray, List.map_cons, List.map_nil]); first | done | rfl)) : wpList P ops Q (oi :: rest) a W := by
 obtain ⟨⟨t1, t2, t3, t4, o, q, b⟩, h1, h2⟩ := Option.bind_eq_some_iff.mp H.out
 refine kJ (some N) hd hg hf hname hb args hop hargs ((hC t1 t2 t3 t4 o q b HS.rd HS.below h1).mono ?_)
 rintro _ w' ⟨rfl, hi, hb, hk⟩
 exact ⟨_, rfl, h t1 t2 t3 t4 o q b w' (HS.step hk hi hb) ⟨h2⟩⟩
/-- A number that hangs on no world. -/
theorem sV (f : FuncId) {N : Tmp} (hop : oi.op = .call { callee := .value (.func f), args := ar, argTypes := ts }) (hf : P.funcs[f]? = some fn) {F : Option Int} {K : Int → Option β}
 (HS : St T w0 w W g f0 f1 f2 os ks Z) (H : ae (F.bind K = some R))
 (hC : ∀ t, F = some t → Calls P f args W (fun e w' => e = .returned (.int .i64 t) ∧ eF W w'))
 (h : ∀ t w', St T w0 w w' g f0 f1 f2 os ks Z → ae (K t = some R) → wpList P ops Q rest (a.put (some N) (.int .i64 t)) w')
 (hd : oi.dst = some N := by rfl) (hg : oi.guard = none := by rfl) (hname : (fn.name == "runtime.NumGoroutine") = false := by kernel_rfl) (hb : fn.body.isSome = true := by rfl)
 (hargs : ar.map a.eval = args := by ((try simp only [List.map_toArray, List.map_cons, List.map_nil]); first | done | rfl)) : wpList P ops Q (oi :: rest) a W := by
 obtain ⟨t, h1, h2⟩ := Option.bind_eq_some_iff.mp H.out
 refine kJ (some N) hd hg hf hname hb args hop hargs ((hC t h1).mono ?_)
 rintro _ w' ⟨rfl, hk⟩
 exact ⟨_, rfl, h t w' (HS.oK hk.below) ⟨h2⟩⟩
/-- Numbers are made of a tree that was made; what they lead to stays. -/
theorem sI2 (f : FuncId) {N : Tmp} (hop : oi.op = .call { callee := .value (.func f), args := ar, argTypes := ts }) (hf : P.funcs[f]? = some fn) {F : Option (List Int)} {K : List Int → Option β} {A : Option Addr} {n c : Nat} {l : List S29}
 (HS : St T w0 w W g f0 f1 f2 os ks Z) (H : ae (F.bind K = some R)) (hm : (Value.slice A n c, l) ∈ os)
 (hC : ∀ t, n = l.length → Kd.C k29 W A l.length l → l.length ≤ c → F = some t → Calls P f args W (fun e w' => ∃ v, e = .returned v ∧ Kd.R (Kd.int .i64) 3 w' W.heap.size (fun _ => True) v t ∧ Below W.heap.size W w'))
 (h : ∀ t w' A c, St T w0 w w' g f0 f1 f2 os ks Z → Kd.R (Kd.int .i64) 3 w' W.heap.size (fun _ => True) (.slice A t.length c) t → ae (K t = some R) → wpList P ops Q rest (a.put (some N) (.slice A t.length c)) w')
 (hd : oi.dst = some N := by rfl) (hg : oi.guard = none := by rfl) (hname : (fn.name == "runtime.NumGoroutine") = false := by kernel_rfl) (hb : fn.body.isSome = true := by rfl)
 (hargs : ar.map a.eval = args := by ((try simp only [List.map_toArray, List.map_cons, List.map_nil]); first | done | rfl)) : wpList P ops Q (oi :: rest) a W := by
 obtain ⟨t, h1, h2⟩ := Option.bind_eq_some_iff.mp H.out
 obtain ⟨hn, hc, hr⟩ := Kd.dL (HS.o _ hm)
 refine kJ (some N) hd hg hf hname hb args hop hargs ((hC t hn hr (by rw [← hn]; exact hc) h1).mono ?_)
 rintro _ w' ⟨v, rfl, ho, hb⟩
 obtain ⟨A, c, rfl⟩ := Kd.eU ho
 exact ⟨_, rfl, h t w' A c (HS.oK hb) ho ⟨h2⟩⟩
theorem St.ints {W' : World} {base : Nat} {v : Value} {xs : List Int} (h : St T w0 w W g f0 f1 f2 os ks Z) (ht : T ≠ 3) (ho : Kd.R (Kd.int .i64) 3 W base (fun _ => True) v xs) (hk : cO W W' g none) : Kd.R (Kd.int .i64) 3 W' base (fun k => k ≠ g) v xs := by
 obtain ⟨A0, c0, hb, hg, hr⟩ := h.rd
 refine Kd.CS (Kd.iO (Kd.rD ho hb (fun q hq => ?_)) (fun _ hk => hk.2)) hk (fun _ h => h)
 have : q = 3 := by simpa [show (Kd.int .i64).E = [] from rfl] using hq
 subst this
 exact fun e => ht e.symm
end
end Go.Proofs.YtkbhkonenkgfoaaGreat.Q
end
section
set_option linter.unusedVariables false
set_option linter.unusedSimpArgs false
namespace Go.Proofs.YtkbhkonenkgfoaaGreat.Q
open Go.RowKit Go.Proofs.YtkbhkonenkgfoaaGreatW.PrintWords Go.Proofs.YtkbhkonenkgfoaaGreatW.PrintLast Go.Proofs.YtkbhkonenkgfoaaGreatW.PrintMore
structure Fam where
 expr : List S37 → Int → Bool → Option (List S29 × Int × Bool)
 block : List S37 → Int → Bool → Option (List S29 × Int × Bool)
 bound : List S37 → Int → Bool → Int → Option (List S29 × Int × Bool)
 unary : List S37 → Int → Bool → Option (List S29 × Int × Bool)
/-- What a call of the reader's does: nodes are made, the reader goes on. -/
def Reads (f : Nat) (args : Array Value) (g : Nat) (s0 : List S37) (r1 : List S29) (r2 : Int) (r3 : Bool) (w0 w : World) : Prop :=
 Calls Tryz.prog f (#[.pointer (some ⟨g, 0, none⟩)] ++ args) w fun e w' => ∃ v0_ : Value, e = .returned (v0_) ∧ Kd.R k29 29 w' w.heap.size (fun _ => True) v0_ r1 ∧ dB w0 w' g s0 r2 r3 ∧ Below w0.heap.size w0 w' ∧ cO w w' g none
structure lL (F : Fam) : Prop where
 expr : ∀ g s0 s1 s2 r1 r2 r3 w0 w, dB w0 w g s0 s1 s2 → Below w0.heap.size w0 w → F.expr s0 s1 s2 = some (r1, r2, r3) → Reads 96 #[] g s0 r1 r2 r3 w0 w
 block : ∀ g s0 s1 s2 r1 r2 r3 w0 w, dB w0 w g s0 s1 s2 → Below w0.heap.size w0 w → F.block s0 s1 s2 = some (r1, r2, r3) → Reads 67 #[] g s0 r1 r2 r3 w0 w
 bound : ∀ g s0 s1 s2 a1 r1 r2 r3 w0 w, dB w0 w g s0 s1 s2 → Below w0.heap.size w0 w → F.bound s0 s1 s2 a1 = some (r1, r2, r3) → Reads 102 #[.int .i64 a1] g s0 r1 r2 r3 w0 w
 unary : ∀ g s0 s1 s2 r1 r2 r3 w0 w, dB w0 w g s0 s1 s2 → Below w0.heap.size w0 w → F.unary s0 s1 s2 = some (r1, r2, r3) → Reads 105 #[] g s0 r1 r2 r3 w0 w
structure lg (F F' : Fam) : Prop where
 expr : ∀ a b c, LeO (F.expr a b c) (F'.expr a b c)
 block : ∀ a b c, LeO (F.block a b c) (F'.block a b c)
 bound : ∀ a b c d, LeO (F.bound a b c d) (F'.bound a b c d)
 unary : ∀ a b c, LeO (F.unary a b c) (F'.unary a b c)
def jV.f (F : Fam) (_k : Nat) (s0 : List S37) (s1 : Int) (s2 : Bool) : Option (List S29 × Int × Bool) := F.expr s0 s1 s2
def mg.f (F : Fam) (_k : Nat) (s0 : List S37) (s1 : Int) (s2 : Bool) : Option (List S29 × Int × Bool) := F.block s0 s1 s2
def pR.f (F : Fam) (_k : Nat) (s0 : List S37) (s1 : Int) (s2 : Bool) (a1 : Int) : Option (List S29 × Int × Bool) := F.bound s0 s1 s2 a1
def oV.f (F : Fam) (_k : Nat) (s0 : List S37) (s1 : Int) (s2 : Bool) : Option (List S29 × Int × Bool) := F.unary s0 s1 s2
theorem jV.mono {F F' : Fam} (HLE : lg F F') (a b c) (k : Nat) : LeO (jV.f F k a b c) (jV.f F' (k + 1) a b c) := HLE.expr a b c
theorem mg.mono {F F' : Fam} (HLE : lg F F') (a b c) (k : Nat) : LeO (mg.f F k a b c) (mg.f F' (k + 1) a b c) := HLE.block a b c
theorem pR.mono {F F' : Fam} (HLE : lg F F') (a b c d) (k : Nat) : LeO (pR.f F k a b c d) (pR.f F' (k + 1) a b c d) := HLE.bound a b c d
theorem oV.mono {F F' : Fam} (HLE : lg F F') (a b c) (k : Nat) : LeO (oV.f F k a b c) (oV.f F' (k + 1) a b c) := HLE.unary a b c
theorem jV.calls (F : Fam) (HF : lL F) (k : Nat) (g : Nat) (s0_0 : List S37) (s0_1 : Int) (s0_2 : Bool) (r1 : List S29) (r2 : Int) (r3 : Bool) (w0 w : World) (hI : dB w0 w g s0_0 s0_1 s0_2) (hB : Below w0.heap.size w0 w) (h : jV.f F k s0_0 s0_1 s0_2 = some (r1, r2, r3)) :
 Calls Tryz.prog 96 #[.pointer (some ⟨g, 0, none⟩)] w fun e w' => ∃ v0_ : Value, e = .returned (v0_) ∧ Kd.R k29 29 w' w.heap.size (fun _ => True) v0_ r1 ∧ dB w0 w' g s0_0 r2 r3 ∧ Below w0.heap.size w0 w' ∧ cO w w' g none := HF.expr g s0_0 s0_1 s0_2 r1 r2 r3 w0 w hI hB h
theorem mg.calls (F : Fam) (HF : lL F) (k : Nat) (g : Nat) (s0_0 : List S37) (s0_1 : Int) (s0_2 : Bool) (r1 : List S29) (r2 : Int) (r3 : Bool) (w0 w : World) (hI : dB w0 w g s0_0 s0_1 s0_2) (hB : Below w0.heap.size w0 w) (h : mg.f F k s0_0 s0_1 s0_2 = some (r1, r2, r3)) :
 Calls Tryz.prog 67 #[.pointer (some ⟨g, 0, none⟩)] w fun e w' => ∃ v0_ : Value, e = .returned (v0_) ∧ Kd.R k29 29 w' w.heap.size (fun _ => True) v0_ r1 ∧ dB w0 w' g s0_0 r2 r3 ∧ Below w0.heap.size w0 w' ∧ cO w w' g none := HF.block g s0_0 s0_1 s0_2 r1 r2 r3 w0 w hI hB h
theorem oV.calls (F : Fam) (HF : lL F) (k : Nat) (g : Nat) (s0_0 : List S37) (s0_1 : Int) (s0_2 : Bool) (r1 : List S29) (r2 : Int) (r3 : Bool) (w0 w : World) (hI : dB w0 w g s0_0 s0_1 s0_2) (hB : Below w0.heap.size w0 w) (h : oV.f F k s0_0 s0_1 s0_2 = some (r1, r2, r3)) :
 Calls Tryz.prog 105 #[.pointer (some ⟨g, 0, none⟩)] w fun e w' => ∃ v0_ : Value, e = .returned (v0_) ∧ Kd.R k29 29 w' w.heap.size (fun _ => True) v0_ r1 ∧ dB w0 w' g s0_0 r2 r3 ∧ Below w0.heap.size w0 w' ∧ cO w w' g none := HF.unary g s0_0 s0_1 s0_2 r1 r2 r3 w0 w hI hB h
theorem pR.calls (F : Fam) (HF : lL F) (k : Nat) (g : Nat) (s0_0 : List S37) (s0_1 : Int) (s0_2 : Bool) (a1 : Int) (r1 : List S29) (r2 : Int) (r3 : Bool) (w0 w : World) (hI : dB w0 w g s0_0 s0_1 s0_2) (hB : Below w0.heap.size w0 w) (h : pR.f F k s0_0 s0_1 s0_2 a1 = some (r1, r2, r3)) :
 Calls Tryz.prog 102 #[.pointer (some ⟨g, 0, none⟩), .int .i64 a1] w fun e w' => ∃ v0_ : Value, e = .returned (v0_) ∧ Kd.R k29 29 w' w.heap.size (fun _ => True) v0_ r1 ∧ dB w0 w' g s0_0 r2 r3 ∧ Below w0.heap.size w0 w' ∧ cO w w' g none := HF.bound g s0_0 s0_1 s0_2 a1 r1 r2 r3 w0 w hI hB h
end Go.Proofs.YtkbhkonenkgfoaaGreat.Q
end
section
set_option linter.unusedVariables false
set_option linter.unusedSimpArgs false
namespace Go.Proofs.YtkbhkonenkgfoaaGreat.Q
open Go Go.RowKit Go.Proofs.YtkbhkonenkgfoaaGreatW.PrintWords Go.Proofs.YtkbhkonenkgfoaaGreatW.PrintLast Go.Proofs.YtkbhkonenkgfoaaGreatW.PrintMore
/-- What is left of a printed function, parted at its test. -/
theorem qB {β : Type} {b : Bool} {D : Decidable (b = true)} {X Y : Option β} {R : β} {Gl : Prop} (H : ae ((if b = true then X else Y) = some R)) (h1 : b = true → ae (X = some R) → Gl) (h2 : b = false → ae (Y = some R) → Gl) : Gl := by
 have h := H.out
 cases b
 ·rw [if_neg Bool.false_ne_true] at h; exact h2 rfl ⟨h⟩
 rw [if_pos rfl] at h; exact h1 rfl ⟨h⟩
theorem qE {τ β : Type} [BEq τ] [LawfulBEq τ] {a b : τ} {D : Decidable (a = b)} {X Y : Option β} {R : β} {Gl : Prop} (H : ae ((if a = b then X else Y) = some R)) (h1 : (a == b) = true → (a != b) = false → ae (X = some R) → Gl) (h2 : (a == b) = false → (a != b) = true → ae (Y = some R) → Gl) : Gl := by
 by_cases c : a = b
 ·have h := H.out
  rw [if_pos c] at h
  exact h1 (beq_iff_eq.mpr c) (bne_eq_false_iff_eq.mpr c) ⟨h⟩
 have h := H.out
 rw [if_neg c] at h
 exact h2 (beq_eq_false_iff_ne.mpr c) (bne_iff_ne.mpr c) ⟨h⟩
theorem qD {β : Type} {p : Prop} {D : Decidable p} {X Y : Option β} {R : β} {Gl : Prop} (H : ae ((if p then X else Y) = some R)) (h1 : p = True → decide p = true → ae (X = some R) → Gl) (h2 : p = False → decide p = false → ae (Y = some R) → Gl) : Gl := by
 by_cases c : p
 ·have h := H.out
  rw [if_pos c] at h
  exact h1 (eq_true c) (decide_eq_true c) ⟨h⟩
 have h := H.out
 rw [if_neg c] at h
 exact h2 (eq_false c) (decide_eq_false c) ⟨h⟩
section
variable {τ β : Type} [BEq τ] [LawfulBEq τ] {a b : τ} {p : Prop} {c : Bool} {X Y : Option β} {R : β}
theorem qB1 {D : Decidable (c = true)} (H : ae ((if c = true then X else Y) = some R)) (h : c = true) : ae (X = some R) := ⟨by have := H.out; rwa [if_pos h] at this⟩
theorem qB0 {D : Decidable (c = true)} (H : ae ((if c = true then X else Y) = some R)) (h : c = false) : ae (Y = some R) := ⟨by have := H.out; rwa [if_neg (by rw [h]; exact Bool.false_ne_true)] at this⟩
theorem qE1 {D : Decidable (a = b)} (H : ae ((if a = b then X else Y) = some R)) (h : (a == b) = true) : ae (X = some R) := ⟨by have := H.out; rwa [if_pos (beq_iff_eq.mp h)] at this⟩
theorem qE0 {D : Decidable (a = b)} (H : ae ((if a = b then X else Y) = some R)) (h : (a == b) = false) : ae (Y = some R) := ⟨by have := H.out; rwa [if_neg (beq_eq_false_iff_ne.mp h)] at this⟩
theorem qD1 {D : Decidable p} (H : ae ((if p then X else Y) = some R)) (h : p = True) : ae (X = some R) := ⟨by have := H.out; rwa [if_pos (of_eq_true h)] at this⟩
theorem qD0 {D : Decidable p} (H : ae ((if p then X else Y) = some R)) (h : p = False) : ae (Y = some R) := ⟨by have := H.out; rwa [if_neg (of_eq_false h)] at this⟩
end
/-- Since w: nothing that was there was written; boxes of the call's own are known whole. -/
structure PS (w W : World) (bs : List (Nat × Obj)) : Prop where
 below : Below w.heap.size w W
 b : ∀ p ∈ bs, W.heap[p.1]? = some p.2 ∧ w.heap.size ≤ p.1
 d : bs.Pairwise fun p q => p.1 ≠ q.1
theorem PS.new (w : World) : PS w w [] := ⟨Below.refl _ _, fun _ h => (nomatch h), .nil⟩
section
variable {w W W' : World} {bs : List (Nat × Obj)}
theorem PS.step (h : PS w W bs) (hb : Below W.heap.size W W') : PS w W' bs := ⟨aY h.below hb, fun p hp => ⟨iY (h.b p hp).1 hb, (h.b p hp).2⟩, h.d⟩
theorem PS.Jz (hb : Below W.heap.size W W') (h : PS w W bs) : PS w W' bs := h.step hb
theorem PS.drewN (h : PS w W bs) (n : Nat) : PS w (W.drewN n) bs := h.step (gQ (Below.refl _ _) n)
theorem PS.drew (h : PS w W bs) : PS w W.drew bs := h.step (Below.refl _ _).drew
theorem PS.alloc (h : PS w W bs) (o : Obj) : PS w (W.alloc o) bs := h.step (iF (Below.refl _ _) o)
/-- A store into the box that was made last. -/
theorem PS.setH {g : Nat} {cs : Array Value} {t : TypeId} (h : PS w W ((g, .cells cs t (0, 0)) :: bs)) (i : Nat) (u : Value) : PS w (W.setCell ⟨g, i, none⟩ u) ((g, .cells (cs.setIfInBounds i u) t (0, 0)) :: bs) := by
 obtain ⟨h1, h2⟩ := h.b _ (.head _)
 have hd := List.pairwise_cons.1 h.d
 refine ⟨iZ h.below h2, fun p hp => ?_, List.pairwise_cons.2 ⟨hd.1, hd.2⟩⟩
 rcases List.mem_cons.1 hp with rfl | hp
 ·exact ⟨mM h1 i u, h2⟩
 obtain ⟨h3, h4⟩ := h.b p (.tail _ hp)
 exact ⟨(Below.heap_setCell W ⟨g, i, none⟩ u p.1 (fun e => hd.1 p hp e.symm)).trans h3, h4⟩
/-- A store into the box ahead of it. -/
theorem PS.MK {g : Nat} {q : Nat × Obj} {cs : Array Value} {t : TypeId} (h : PS w W (q :: (g, .cells cs t (0, 0)) :: bs)) (i : Nat) (u : Value) : PS w (W.setCell ⟨g, i, none⟩ u) (q :: (g, .cells (cs.setIfInBounds i u) t (0, 0)) :: bs) := by
 have hd := List.pairwise_cons.1 h.d
 have hd2 := List.pairwise_cons.1 hd.2
 obtain ⟨h1, h2⟩ := h.b _ (.tail _ (.head _))
 have hq := hd.1 _ (.head _)
 refine ⟨iZ h.below h2, fun p hp => ?_, List.pairwise_cons.2 ⟨fun p hp => ?_, List.pairwise_cons.2 ⟨hd2.1, hd2.2⟩⟩⟩
 ·rcases List.mem_cons.1 hp with rfl | hp
  ·obtain ⟨h3, h4⟩ := h.b p (.head _)
   exact ⟨(Below.heap_setCell W ⟨g, i, none⟩ u p.1 hq).trans h3, h4⟩
  rcases List.mem_cons.1 hp with rfl | hp
  ·exact ⟨mM h1 i u, h2⟩
  obtain ⟨h3, h4⟩ := h.b p (.tail _ (.tail _ hp))
  exact ⟨(Below.heap_setCell W ⟨g, i, none⟩ u p.1 (fun e => hd2.1 p hp e.symm)).trans h3, h4⟩
 rcases List.mem_cons.1 hp with rfl | hp
 ·exact hq
 exact hd.1 p (.tail _ hp)
theorem stP {W0 : World} {bs0 : List (Nat × Obj)} (H : PS w W0 bs0) (f : PS w W0 bs0 → PS w W bs := by (intro h_; repeat (first | (with_reducible exact h_) | apply PS.drewN | apply PS.drew | apply PS.setH | apply PS.MK | apply PS.alloc))) : PS w W bs := f H
theorem PS.hd {g : Nat} {o : Obj} (h : PS w W ((g, o) :: bs)) : W.heap[g]? = some o := (h.b _ (.head _)).1
theorem PS.tl {p : Nat × Obj} (h : PS w W (p :: bs)) : PS w W bs := ⟨h.below, fun q hq => h.b q (.tail _ hq), (List.pairwise_cons.1 h.d).2⟩
theorem PS.ne {g g' : Nat} {o o' : Obj} (h : PS w W ((g, o) :: (g', o') :: bs)) : g ≠ g' ∧ g' ≠ g := by
 have := (List.pairwise_cons.1 h.d).1 _ (.head _)
 exact ⟨this, Ne.symm this⟩
end
/-- A box of five: its cells. -/
theorem c5 {W : World} {g : Nat} {t : TypeId} {a b c d e : Value} (h : W.heap[g]? = some (.cells #[a, b, c, d, e] t (0, 0))) : W.cell? ⟨g, 0, none⟩ = some a ∧ W.cell? ⟨g, 1, none⟩ = some b ∧ W.cell? ⟨g, 2, none⟩ = some c ∧ W.cell? ⟨g, 3, none⟩ = some d ∧ W.cell? ⟨g, 4, none⟩ = some e ∧ W.frozen? ⟨g, 0, none⟩ = false ∧ W.frozen? ⟨g, 1, none⟩ = false ∧ W.frozen? ⟨g, 2, none⟩ = false ∧ W.frozen? ⟨g, 3, none⟩ = false ∧ W.frozen? ⟨g, 4, none⟩ = false :=
 ⟨aj h 0, aj h 1, aj h 2, aj h 3, aj h 4, ag h 0, ag h 1, ag h 2, ag h 3, ag h 4⟩
theorem c4 {W : World} {g : Nat} {t : TypeId} {a b c d : Value} (h : W.heap[g]? = some (.cells #[a, b, c, d] t (0, 0))) : W.cell? ⟨g, 0, none⟩ = some a ∧ W.cell? ⟨g, 1, none⟩ = some b ∧ W.cell? ⟨g, 2, none⟩ = some c ∧ W.cell? ⟨g, 3, none⟩ = some d ∧ W.frozen? ⟨g, 0, none⟩ = false ∧ W.frozen? ⟨g, 1, none⟩ = false ∧ W.frozen? ⟨g, 2, none⟩ = false ∧ W.frozen? ⟨g, 3, none⟩ = false :=
 ⟨aj h 0, aj h 1, aj h 2, aj h 3, ag h 0, ag h 1, ag h 2, ag h 3⟩
section
variable {P : Program} {ops : Array Oper} {Q : Exit → Act → World → Prop} {w W : World} {bs : List (Nat × Obj)}
 {rest : List Oper} {oi : Oper} {a : Act} {fn : Func} {ar : Array Operand} {ts : Array TypeId} {args : Array Value} {ρ β : Type} {R : β}
theorem MV {c : Code} (HS : PS w W bs) (h : ∀ W', PS w W' bs → Code.wp P c Q a W') : Code.wp P c Q a W := h W HS
theorem GH {N : Tmp} {cs : Array Value} {t : TypeId} (HS : PS w W bs) (hrun : (execOp a.eval oi).run P W = .ok (.value (.pointer (some ⟨W.heap.size, 0, none⟩))) (W.alloc (.cells cs t (0, 0))))
 (h : ∀ gb w', PS w w' ((gb, .cells cs t (0, 0)) :: bs) → wpList P ops Q rest (a.put (some N) (.pointer (some ⟨gb, 0, none⟩))) w')
 (hd : oi.dst = some N := by rfl) (hg : oi.guard = none := by rfl) : wpList P ops Q (oi :: rest) a W := by
 refine gp hg hd hrun ?_
 intro gb hgb w1 hc hb
 have h1 := HS.step hb
 rw [hd]
 refine h gb w1 ⟨h1.below, fun p hp => ?_, List.pairwise_cons.2 ⟨fun p hp e => ?_, h1.d⟩⟩
 ·rcases List.mem_cons.1 hp with rfl | hp
  ·exact ⟨hc, by rw [hgb]; exact HS.below.size⟩
  exact h1.b p hp
 have := kY (HS.b p hp).1
 dsimp only at e
 omega
/-- A call whose answer is val of what its function says. -/
theorem pV (val : ρ → Value) (f : FuncId) {N : Tmp} (hop : oi.op = .call { callee := .value (.func f), args := ar, argTypes := ts }) (hf : P.funcs[f]? = some fn) {F : Option ρ} {K : ρ → Option β}
 (HS : PS w W bs) (H : ae (F.bind K = some R)) (hC : ∀ t, F = some t → Calls P f args W (fun e w' => e = .returned (val t) ∧ Below W.heap.size W w'))
 (h : ∀ t w', PS w w' bs → ae (K t = some R) → wpList P ops Q rest (a.put (some N) (val t)) w')
 (hd : oi.dst = some N := by rfl) (hg : oi.guard = none := by rfl) (hname : (fn.name == "runtime.NumGoroutine") = false := by kernel_rfl) (hb : fn.body.isSome = true := by rfl)
 (hargs : ar.map a.eval = args := by ((try simp only [List.map_toArray, List.map_cons, List.map_nil]); first | done | rfl)) : wpList P ops Q (oi :: rest) a W := by
 obtain ⟨t, h1, h2⟩ := Option.bind_eq_some_iff.mp H.out
 refine kJ (some N) hd hg hf hname hb args hop hargs ((hC t h1).mono ?_)
 rintro _ w' ⟨rfl, hb⟩
 exact ⟨_, rfl, h t w' (HS.step hb) ⟨h2⟩⟩
theorem cV (val : ρ → Value) {f : FuncId} {post : Ending → World → Prop} {F : Option ρ} {K : ρ → Option β} (HS : PS w W bs) (H : ae (F.bind K = some R))
 (hC : ∀ t, F = some t → Calls P f args W (fun e w' => e = .returned (val t) ∧ Below W.heap.size W w')) (h : ∀ t w', PS w w' bs → ae (K t = some R) → post (.returned (val t)) w') : Calls P f args W post := by
 obtain ⟨t, h1, h2⟩ := Option.bind_eq_some_iff.mp H.out
 refine (hC t h1).mono ?_
 rintro _ w' ⟨rfl, hb⟩
 exact h t w' (HS.step hb) ⟨h2⟩
/-- Calls after which only draws were made. -/
theorem pD (val : ρ → Value) (f : FuncId) {N : Tmp} (hop : oi.op = .call { callee := .value (.func f), args := ar, argTypes := ts }) (hf : P.funcs[f]? = some fn) {F : Option ρ} {K : ρ → Option β}
 (H : ae (F.bind K = some R)) (hC : ∀ t, F = some t → Calls P f args W (fun e w' => e = .returned (val t) ∧ eF W w'))
 (h : ∀ t n, ae (K t = some R) → wpList P ops Q rest (a.put (some N) (val t)) (W.drewN n))
 (hd : oi.dst = some N := by rfl) (hg : oi.guard = none := by rfl) (hname : (fn.name == "runtime.NumGoroutine") = false := by kernel_rfl) (hb : fn.body.isSome = true := by rfl)
 (hargs : ar.map a.eval = args := by ((try simp only [List.map_toArray, List.map_cons, List.map_nil]); first | done | rfl)) : wpList P ops Q (oi :: rest) a W := by
 obtain ⟨t, h1, h2⟩ := Option.bind_eq_some_iff.mp H.out
 refine kJ (some N) hd hg hf hname hb args hop hargs ((hC t h1).mono ?_)
 rintro _ w' ⟨rfl, ⟨n, rfl⟩⟩
 exact ⟨_, rfl, h t n ⟨h2⟩⟩
theorem cD (val : ρ → Value) {f : FuncId} {post : Ending → World → Prop} {F : Option ρ} {K : ρ → Option β} (H : ae (F.bind K = some R))
 (hC : ∀ t, F = some t → Calls P f args W (fun e w' => e = .returned (val t) ∧ eF W w')) (h : ∀ t n, ae (K t = some R) → post (.returned (val t)) (W.drewN n)) : Calls P f args W post := by
 obtain ⟨t, h1, h2⟩ := Option.bind_eq_some_iff.mp H.out
 refine (hC t h1).mono ?_
 rintro _ w' ⟨rfl, ⟨n, rfl⟩⟩
 exact h t n ⟨h2⟩
theorem dT (h : eF w W := by repeat (first | exact eF.refl _ | apply eF.step)) : eF w W := h
theorem cT {α : Type} {d : Kd α} {A : Option Addr} {n : Nat} {xs : List α} (H : ae (d.C w A n xs)) (f : d.C w A n xs → d.C W A n xs := by (intro h_; repeat (first | exact h_ | (with_reducible refine Kd.jY ?_ _) | (with_reducible refine Kd.jX ?_ _) | (with_reducible refine Kd.lu ?_)))) : d.C W A n xs := f H.out
theorem at0 {A : Option Addr} {xs : List Int} {n : Nat} (HR : ae (Kd.C (Kd.int .i64) w A n xs)) (h : (0 < (n : Int)) = True) : ∃ ad, A = some ad ∧ w.cell? ad = some (.int .i64 (rd xs 0)) ∧ (0 < n) = True := by
 have h := of_eq_true h
 obtain ⟨ad, e, hx⟩ := Kd.jv HR.out 0 (by decide) h
 rw [show (0 : Int).toNat = 0 from rfl, Addr.add_zero'] at hx
 exact ⟨ad, e, hx, eq_true (by omega)⟩
theorem L9 {n : Nat} (h : (2 < (n : Int)) = True) : (0 < (n : Int)) = True := eq_true (by have := of_eq_true h; omega)
theorem atN {ad : Addr} {xs : List Int} {n : Nat} (i : Nat) (HR : ae (Kd.C (Kd.int .i64) w (some ad) n xs)) (h : ((i : Int) < (n : Int)) = True) : w.cell? (ad.add i) = some (.int .i64 (rd xs i)) ∧ (i < n) = True := by
 have h := of_eq_true h
 obtain ⟨ad, e, hx⟩ := Kd.jv HR.out i (by omega) h
 cases e
 rw [Int.toNat_natCast] at hx
 exact ⟨hx, eq_true (by omega)⟩
theorem atI {ad : Addr} {xs : List Int} {n : Nat} {i : Int} (HR : ae (Kd.C (Kd.int .i64) w (some ad) n xs)) (h0 : (0 ≤ i) = True) (h : (i < (n : Int)) = True) : w.cell? (ad.add i.toNat) = some (.int .i64 (rd xs i)) := by
 obtain ⟨ad, e, hx⟩ := Kd.jv HR.out i (of_eq_true h0) (of_eq_true h)
 cases e
 exact hx
theorem atS {A : Option Addr} {xs : List Int} {n : Nat} {i : Int} (HR : ae (Kd.C (Kd.int .i64) w A n xs)) (h0 : (0 ≤ i) = True) (h : (i < (n : Int)) = True) : ∃ ad, A = some ad ∧ w.cell? (ad.add i.toNat) = some (.int .i64 (rd xs i)) := Kd.jv HR.out i (of_eq_true h0) (of_eq_true h)
theorem ofD {f : FuncId} {e0 : Ending} (h : Calls P f args W fun e w' => e = e0 ∧ eF W w') : Calls P f args W fun e w' => e = e0 ∧ Below W.heap.size W w' := h.mono fun _ _ ⟨a, b⟩ => ⟨a, b.below⟩
end
end Go.Proofs.YtkbhkonenkgfoaaGreat.Q
end
section
namespace Go.Proofs.YtkbhkonenkgfoaaGreat.Q
open Go.RowKit Go.Proofs.YtkbhkonenkgfoaaGreatW.PrintWords Go.Proofs.YtkbhkonenkgfoaaGreatW.PrintLast Go.Proofs.YtkbhkonenkgfoaaGreatW.PrintMore
attribute [local go_sem] dJ dH dW dV dh df dI dG
set_option linter.unusedVariables false
set_option linter.unusedSimpArgs false
-- BY HAND: function 10 (parse_Tree)
-- BY HAND: function 19 (lex_pass)
-- NOT PRINTED: function 44 (lex_head)
/-! ### jL: function 47 -/
def jL.f (a0 : Int) : Option (Bool) := if a0 ≥ 97 then (some (decide (a0 ≤ 122))) else (some false)
set_option maxHeartbeats 8000000 in
set_option maxRecDepth 100000 in
theorem jL.calls (a0 : Int) (r : Bool) (w : World) (h : jL.f a0 = some r) :
 Calls Tryz.prog 47 #[.int .i32 a0] w fun e w' => e = .returned (.bool r) ∧ eF w w' := by
 have H := h
 clear h
 unfold jL.f at H
 revert H
 refine iC (fun c2 H => ?_) fun c2 H => ?_
 ·have c2b0 : decide (97 ≤ a0) = true := decide_eq_true c2
  clear c2
  obtain rfl := Option.some.inj H
  go_enter Tryz.func47, Tryz.ntmps47
  go_wp2
  go_ret
  exact ⟨fT, Z0⟩
 have c2b0 : decide (97 ≤ a0) = false := decide_eq_false c2
 clear c2
 obtain rfl := Option.some.inj H
 go_enter Tryz.func47, Tryz.ntmps47
 go_wp2
 go_ret
 exact ⟨fT, Z0⟩
/-! ### lW: function 51 -/
def lW.f (a0 : Int) : Option (Bool) := if a0 ≥ 48 then (some (decide (a0 ≤ 57))) else (some false)
set_option maxHeartbeats 8000000 in
set_option maxRecDepth 100000 in
theorem lW.calls (a0 : Int) (r : Bool) (w : World) (h : lW.f a0 = some r) :
 Calls Tryz.prog 51 #[.int .i32 a0] w fun e w' => e = .returned (.bool r) ∧ eF w w' := by
 have H := h
 clear h
 unfold lW.f at H
 revert H
 refine iC (fun c2 H => ?_) fun c2 H => ?_
 ·have c2b0 : decide (48 ≤ a0) = true := decide_eq_true c2
  clear c2
  obtain rfl := Option.some.inj H
  go_enter Tryz.func51, Tryz.ntmps51
  go_wp2
  go_ret
  exact ⟨fT, Z0⟩
 have c2b0 : decide (48 ≤ a0) = false := decide_eq_false c2
 clear c2
 obtain rfl := Option.some.inj H
 go_enter Tryz.func51, Tryz.ntmps51
 go_wp2
 go_ret
 exact ⟨fT, Z0⟩
/-! ### lex_inner: function 48 -/
/-! ### kG: function 88 -/
def kG.f (a0 : ByteArray) : Option (Bool) := if a0.toList = ([] : List UInt8) then (some false) else (if 0 < (a0.size : Int) then ((jL.f (wrap32 (bt a0 0))).bind fun t103 => (if t103 = true then ((lC.f a0).bind fun t104 => (some ((t104.size : Int) == (a0.size : Int)))) else (some false))) else (none))
set_option maxHeartbeats 8000000 in
set_option maxRecDepth 100000 in
theorem kG.calls (a0 : ByteArray) (r : Bool) (w : World) (h : kG.f a0 = some r) :
 Calls Tryz.prog 88 #[.string a0] w fun e w' => e = .returned (.bool r) ∧ Below w.heap.size w w' := by
 have HB := ae.mk (Below.refl w.heap.size w)
 have H := h
 clear h
 unfold kG.f at H
 revert H
 refine cZ (fun c2b0 c2b1 H => ?_) fun c2 c2b0 c2b1 H => ?_
 ·obtain rfl := Option.some.inj H
  go_enter Tryz.func88, Tryz.ntmps88
  go_wp2
  go_ret
  exact ⟨eT, bT HB⟩
 revert H
 refine pX (fun c3 c3b0 H => ?_) fun c3 H => ?_
 ·have c3b1 : decide (0 < a0.size) = true := decide_eq_true (by omega)
  clear c3
  revert H
  refine yB1 fun t103 A5 H => ?_
  cases t103
  rotate_left
  ·replace H := yT H
   revert H
   refine yB1 fun t104 A7 H => ?_
   obtain rfl := Option.some.inj H
   have p4 : 0 ≤ (0 : Int) := (by omega)
   have q4 : 0 < a0.size := (by have : (0 : Int) < (a0.size : Int) := of_decide_eq_true aT; omega)
   have hx4 : ∀ h : 0 < a0.size, ((a0[0]'h).toNat : Int) = bt a0 0 := iE a0 0
   clear p4
   have qi4 : (0 < (a0.size : Int)) = True := eq_true (of_decide_eq_true aT)
   replace q4 := eq_true q4
   go_enter Tryz.func88, Tryz.ntmps88
   go_wp2_with (first | (go_at_call 47; (with_reducible refine (jL.calls (wrap32 (bt a0 0)) true _ A5.out).mono ?_); rintro e w' ⟨rfl, ⟨nd, rfl⟩⟩) | (go_at_call 44; (with_reducible refine (lC.calls a0 t104 _ A7.out).mono ?_); rintro e w8 ⟨rfl, hb⟩; refine yA1 (aY (bT HB) hb) ?_; clear HB; intro HB; (try clear hb)))
   go_ret
   exact ⟨eT, bT HB⟩
  replace H := yF H
  obtain rfl := Option.some.inj H
  have p4 : 0 ≤ (0 : Int) := (by omega)
  have q4 : 0 < a0.size := (by have : (0 : Int) < (a0.size : Int) := of_decide_eq_true aT; omega)
  have hx4 : ∀ h : 0 < a0.size, ((a0[0]'h).toNat : Int) = bt a0 0 := iE a0 0
  clear p4
  have qi4 : (0 < (a0.size : Int)) = True := eq_true (of_decide_eq_true aT)
  replace q4 := eq_true q4
  go_enter Tryz.func88, Tryz.ntmps88
  go_wp2_with (first | (go_at_call 47; (with_reducible refine (jL.calls (wrap32 (bt a0 0)) false _ A5.out).mono ?_); rintro e w' ⟨rfl, ⟨nd, rfl⟩⟩))
  go_ret
  exact ⟨eT, bT HB⟩
 exact absurd H (by simp)
/-! ### eH: function 89 -/
def eH.l0 : Nat → ByteArray → ByteArray → Int → Option (Bool)
 | 0, _, _, _ => none
 | k + 1, x0, x1, x5 => if (wrap64 (x5 + (x1.size : Int))) ≤ (x0.size : Int) then (if 0 ≤ x5 then (if x5 ≤ (wrap64 (x5 + (x1.size : Int))) then (if (x0.extract (x5 : Int).toNat ((wrap64 (x5 + (x1.size : Int))) : Int).toNat).toList = x1.toList then (some true) else (eH.l0 k x0 x1 (wrap64 (x5 + 1)))) else (none)) else (none)) else (some false)
def eH.f (k : Nat) (a0 : ByteArray) (a1 : ByteArray) : Option (Bool) := eH.l0 k a0 a1 0
theorem eH.bP : ∀ k, (∀ y0 y1 y2, LeO (eH.l0 k y0 y1 y2) (eH.l0 (k + 1) y0 y1 y2))
 | 0 => fun _ _ _ r h => by simp [eH.l0] at h
 | k + 1 => by
  have ih0 := eH.bP k
  intro y0 y1 y2
  unfold eH.l0
  exact yL
theorem eH.mono : ∀ a0 a1 k, LeO (eH.f k a0 a1) (eH.f (k + 1) a0 a1) := by
 intro a0 a1 k
 have ih0 := eH.bP k
 unfold eH.f
 exact yL
set_option maxHeartbeats 8000000 in
set_option maxRecDepth 100000 in
theorem eH.calls (k : Nat) (a0 : ByteArray) (a1 : ByteArray) (r : Bool) (w : World) (h : eH.f k a0 a1 = some r) :
 Calls Tryz.prog 89 #[.string a0, .string a1] w fun e w' => e = .returned (.bool r) ∧ eF w w' := by
 have H := h
 clear h
 unfold eH.f at H
 have H' := ae.mk H
 clear H
 go_enter Tryz.func89, Tryz.ntmps89
 go_wp2
 go_loopg [5] k (fun kq v5 w' => ∃ (x5_1 : Int), v5 = .int .i64 x5_1 ∧ ae (eH.l0 kq a0 a1 x5_1 = some r) ∧ ae (kq ≤ k) ∧ eF w w')
 case atStart => exact ⟨(0), fT, H', ⟨Nat.le_refl _⟩, Z0⟩
 case round =>
  clear H'
  try clear p2
  obtain ⟨x5_1, rfl, HA, HK1, ⟨m1, rfl⟩⟩ := hrel
  cases gk with
  | zero => exact absurd HA.out (by simp [eH.l0])
  | succ k1 =>
   have H := HA.out
   clear HA
   simp only [eH.l0] at H
   revert H
   refine iQ (fun c3b0 H => ?_) fun c3b0 H => ?_
   ·revert H
    refine jO (fun c4b0 c4b1 H => ?_) fun c4 H => ?_
    ·revert H
     refine nD (fun c5 c5b0 c5b1 H => ?_) fun c5 H => ?_
     ·have c6b0 := eq_true (of_decide_eq_true aT : (wrap64 (x5_1 + (a1.size : Int))) ≤ (a0.size : Int))
      revert H
      refine cZ (fun c7b0 c7b1 H => ?_) fun c7 c7b0 c7b1 H => ?_
      ·obtain rfl := Option.some.inj H
       go_wp2
       go_ret
       exact ⟨fT, Z0⟩
      have H' := ae.mk H
      clear H
      go_wp2
      go_roundg k1
      case measure => have := HK1.out; omega
      case rel => exact ⟨(wrap64 (x5_1 + 1)), fT, H', ⟨by have := HK1.out; omega⟩, Z0⟩
     exact absurd H (by simp)
    exact absurd H (by simp)
   obtain rfl := Option.some.inj H
   go_wp2
   go_ret
   exact ⟨fT, Z0⟩
end Go.Proofs.YtkbhkonenkgfoaaGreat.Q
end
