/- Walks over functions of the program, words for them, and what the functions come to; of each text only what this claim uses; no condition. -/
import Derived.Test.YtkbhkonenkgfoaaGreatZPT0
import Derived.Test.YtkbhkonenkgfoaaGreatZPT1
import Derived.Test.YtkbhkonenkgfoaaGreatZPT2
import Derived.Test.YtkbhkonenkgfoaaGreatProg
import Derived.Below
import Derived.Deep.Draws
import Derived.Deep.AppendLies
import Derived.Maps.AppendAt
import Derived.OwnWalk
import Derived.Laws.BytesArg
import Derived.Laws.MakeOwn
import Derived.Laws.OwnMore
import Derived.Deep.OwnRows
import Derived.Tactics
import Derived.Lib.ConvBytes
import Derived.Laws.Slices
import Derived.WalkKit
import Derived.KernelRfl
import Derived.RowKit3
import Derived.Deep.LoopGhost
import Derived.Deep.QuietTactic
import Derived.BigQuiet
import Derived.WideLaws
import Derived.Deep.DeepCutAuto
import Derived.Deep.CutBlock
import Derived.Deep.RegionHeld3
import Derived.Laws.Rows
import Derived.Lib.AppendStr
import Derived.ArgAppend
import Derived.Laws.IdiomCopy
import Derived.OrdersHeld
import Derived.Laws.BitsLemmas
import Derived.RowKit
section
namespace Go.Proofs.YtkbhkonenkgfoaaGreat.Q
open Go.RowKit Go.Proofs.YtkbhkonenkgfoaaGreatW.PrintWords Go.Proofs.YtkbhkonenkgfoaaGreatW.PrintLast Go.Proofs.YtkbhkonenkgfoaaGreatW.PrintMore
attribute [local go_sem] dJ dH dS dR cZ cO dI dG
set_option linter.unusedVariables false
set_option linter.unusedSimpArgs false
def Js : Option Int → Value
 | none => .nilIface
 | some c => .iface 0 (.int .i64 c)
theorem jA : Js none = .nilIface := rfl
theorem jy (c : Int) : Js (some c) = .iface 0 (.int .i64 c) := rfl
theorem info3 : (Tryz.prog.info? 3).map (fun i => (i.zero, i.size, i.bytes)) = some (some (.int .i64 0), 1, 8) := by kernel_rfl
theorem info5 : (Tryz.prog.info? 5).map (fun i => (i.zero, i.size, i.bytes)) = some (some (.int .u8 0), 1, 1) := by kernel_rfl
theorem info23 : (Tryz.prog.info? 23).map (fun i => (i.zero, i.size, i.bytes)) = some (some (.slice none 0 0), 1, 24) := by kernel_rfl
theorem tC : (Tryz.prog.info? 29).map (fun i => (i.zero, i.size, i.bytes)) = some (some (.agg #[(.int .i64 0), (.int .i64 0), (.string ⟨#[]⟩), (.int .i64 0), (.string ⟨#[]⟩)]), 5, 56) := by kernel_rfl
theorem IP : (Tryz.prog.info? 37).map (fun i => (i.zero, i.size, i.bytes)) = some (some (.agg #[(.int .i64 0), (.string ⟨#[]⟩), (.int .i64 0), (.int .i64 0)]), 4, 40) := by kernel_rfl
-- the values' own types
/-! #### struct type 37 -/
structure S37 where
 f0 : Int
 f1 : ByteArray
 f2 : Int
 f3 : Int
def z37 : S37 := ⟨(0 : Int), (⟨#[]⟩ : ByteArray), (0 : Int), (0 : Int)⟩
def k37 : Kd S37 := Kd.iso (Kd.pair (Kd.int .i64) (Kd.pair Kd.string (Kd.pair (Kd.int .i64) (Kd.int .i64)))) (fun x : S37 => (x.f0, x.f1, x.f2, x.f3))
theorem Ew {w : World} {x : S37} {cs : List Value} (h : k37.K w x cs) : cs = [.int .i64 x.f0, .string x.f1, .int .i64 x.f2, .int .i64 x.f3] := by
 obtain ⟨_, _, rfl, rfl, ⟨_, _, rfl, rfl, ⟨_, _, rfl, rfl, rfl⟩⟩⟩ := h
 exact rfl
theorem Gy (w : World) (base : Nat) (ok : Nat → Prop) (x : S37)  : k37.M w base ok x [.int .i64 x.f0, .string x.f1, .int .i64 x.f2, .int .i64 x.f3] := ⟨[.int .i64 x.f0], [.string x.f1, .int .i64 x.f2, .int .i64 x.f3], rfl, rfl, ⟨[.string x.f1], [.int .i64 x.f2, .int .i64 x.f3], rfl, rfl, ⟨[.int .i64 x.f2], [.int .i64 x.f3], rfl, rfl, rfl⟩⟩⟩
def dY (xs : List S37) (i : Int) : S37 := xs.getD i.toNat z37
theorem jS {w : World} {A : Option Addr} {n : Nat} {xs : List S37} (h : Kd.C k37 w A n xs) (i : Int) (h0 : 0 ≤ i) (h1 : i < n) : ∃ ad , A = some ad ∧ w.cell? (ad.add (i.toNat * 4)) = some (.int .i64 (dY xs i).f0) ∧ w.cell? ⟨(ad.add (i.toNat * 4)).block, (ad.add (i.toNat * 4)).off + 1, none⟩ = some (.string (dY xs i).f1) ∧ w.cell? ⟨(ad.add (i.toNat * 4)).block, (ad.add (i.toNat * 4)).off + 2, none⟩ = some (.int .i64 (dY xs i).f2) ∧ w.cell? ⟨(ad.add (i.toNat * 4)).block, (ad.add (i.toNat * 4)).off + 3, none⟩ = some (.int .i64 (dY xs i).f3) := by
 obtain ⟨ad, c, e, _, hK, hc0⟩ := Kd.xq h z37 i h0 h1
 have hc : ∀ j u, c[j]? = some u → w.cell? (ad.add (i.toNat * 4 + j)) = some u := hc0
 obtain rfl := Ew hK
 exact ⟨ad, e, hc 0 _ rfl, by rw [← mG _ _ 1 (by omega)]; exact hc 1 _ rfl, by rw [← mG _ _ 2 (by omega)]; exact hc 2 _ rfl, by rw [← mG _ _ 3 (by omega)]; exact hc 3 _ rfl⟩
/-! #### struct type 29 -/
structure S29 where
 f0 : Int
 f1 : Int
 f2 : ByteArray
 f3 : Int
 f4 : ByteArray
def z29 : S29 := ⟨(0 : Int), (0 : Int), (⟨#[]⟩ : ByteArray), (0 : Int), (⟨#[]⟩ : ByteArray)⟩
def k29 : Kd S29 := Kd.iso (Kd.pair (Kd.int .i64) (Kd.pair (Kd.int .i64) (Kd.pair Kd.string (Kd.pair (Kd.int .i64) Kd.string)))) (fun x : S29 => (x.f0, x.f1, x.f2, x.f3, x.f4))
theorem Ey {w : World} {x : S29} {cs : List Value} (h : k29.K w x cs) : cs = [.int .i64 x.f0, .int .i64 x.f1, .string x.f2, .int .i64 x.f3, .string x.f4] := by
 obtain ⟨_, _, rfl, rfl, ⟨_, _, rfl, rfl, ⟨_, _, rfl, rfl, ⟨_, _, rfl, rfl, rfl⟩⟩⟩⟩ := h
 exact rfl
theorem xJ (w : World) (base : Nat) (ok : Nat → Prop) (x : S29)  : k29.M w base ok x [.int .i64 x.f0, .int .i64 x.f1, .string x.f2, .int .i64 x.f3, .string x.f4] := ⟨[.int .i64 x.f0], [.int .i64 x.f1, .string x.f2, .int .i64 x.f3, .string x.f4], rfl, rfl, ⟨[.int .i64 x.f1], [.string x.f2, .int .i64 x.f3, .string x.f4], rfl, rfl, ⟨[.string x.f2], [.int .i64 x.f3, .string x.f4], rfl, rfl, ⟨[.int .i64 x.f3], [.string x.f4], rfl, rfl, rfl⟩⟩⟩⟩
def ax (xs : List S29) (i : Int) : S29 := xs.getD i.toNat z29
theorem iO {w : World} {A : Option Addr} {n : Nat} {xs : List S29} (h : Kd.C k29 w A n xs) (i : Int) (h0 : 0 ≤ i) (h1 : i < n) : ∃ ad , A = some ad ∧ w.cell? (ad.add (i.toNat * 5)) = some (.int .i64 (ax xs i).f0) ∧ w.cell? ⟨(ad.add (i.toNat * 5)).block, (ad.add (i.toNat * 5)).off + 1, none⟩ = some (.int .i64 (ax xs i).f1) ∧ w.cell? ⟨(ad.add (i.toNat * 5)).block, (ad.add (i.toNat * 5)).off + 2, none⟩ = some (.string (ax xs i).f2) ∧ w.cell? ⟨(ad.add (i.toNat * 5)).block, (ad.add (i.toNat * 5)).off + 3, none⟩ = some (.int .i64 (ax xs i).f3) ∧ w.cell? ⟨(ad.add (i.toNat * 5)).block, (ad.add (i.toNat * 5)).off + 4, none⟩ = some (.string (ax xs i).f4) := by
 obtain ⟨ad, c, e, _, hK, hc0⟩ := Kd.xq h z29 i h0 h1
 have hc : ∀ j u, c[j]? = some u → w.cell? (ad.add (i.toNat * 5 + j)) = some u := hc0
 obtain rfl := Ey hK
 exact ⟨ad, e, hc 0 _ rfl, by rw [← mG _ _ 1 (by omega)]; exact hc 1 _ rfl, by rw [← mG _ _ 2 (by omega)]; exact hc 2 _ rfl, by rw [← mG _ _ 3 (by omega)]; exact hc 3 _ rfl, by rw [← mG _ _ 4 (by omega)]; exact hc 4 _ rfl⟩
def mZ (xs : List (List S29)) (i : Int) : (List S29) := xs.getD i.toNat ([] : List S29)
theorem Hy {w : World} {A : Option Addr} {n : Nat} {xs : List (List S29)} (h : Kd.C (Kd.slice 29 k29) w A n xs) (i : Int) (h0 : 0 ≤ i) (h1 : i < n) : ∃ ad A0 c0, A = some ad ∧ w.cell? (ad.add i.toNat) = some (.slice A0 (mZ xs i).length c0) ∧ (mZ xs i).length ≤ c0 ∧ k29.C w A0 (mZ xs i).length (mZ xs i) := by
 obtain ⟨ad, c, e, _, hK, hc0⟩ := Kd.xq h ([] : List S29) i h0 h1
 have hc : ∀ j u, c[j]? = some u → w.cell? (ad.add (i.toNat * 1 + j)) = some u := hc0
 obtain ⟨A0, c0, rfl, l0, g0⟩ := hK
 exact ⟨ad, A0, c0, e, by have hq := hc 0 _ rfl; rwa [Nat.mul_one, Nat.add_zero] at hq, l0, g0⟩
end Go.Proofs.YtkbhkonenkgfoaaGreat.Q
end
section
namespace Go.Proofs.YtkbhkonenkgfoaaGreat.Q
open Go.RowKit Go.Proofs.YtkbhkonenkgfoaaGreatW.PrintWords Go.Proofs.YtkbhkonenkgfoaaGreatW.PrintLast Go.Proofs.YtkbhkonenkgfoaaGreatW.PrintMore
attribute [local go_sem] dJ dH dS dR cZ cO dI dG
set_option linter.unusedVariables false
set_option linter.unusedSimpArgs false
/-- A state of type 40 at block g of W; what its slices lead to came in by w0. -/
def dn (w0 W : World) (g : Nat) (f0 : List (S37)) (f1 : Int) (f2 : Bool) : Prop := ∃ A0 c0, W.heap[g]? = some (.cells #[.slice A0 f0.length c0, .int .i64 f1, .bool f2] 40 (0, 0)) ∧ w0.heap.size ≤ g ∧ Kd.C k37 w0 A0 f0.length f0
theorem dn.grown {w0 W : World} {g : Nat} {f0 : List (S37)} {f1 : Int} {f2 : Bool} {W1 : World} {row : Option Nat} (h : dn w0 W g f0 f1 f2) (hw : W.grownBy W1 row) (hne : some g ≠ row) : dn w0 W1 g f0 f1 f2 := by
 obtain ⟨A0, c0, hb, hg, hr0⟩ := h
 exact ⟨A0, c0, kN hb hw hne, hg, hr0⟩
theorem dn.fresh {w0 W : World} {g : Nat} {f0 : List (S37)} {f1 : Int} {f2 : Bool} (h : dn w0 W g f0 f1 f2) : ∀ k, W.heap.size ≤ k → k ≠ g := by
 obtain ⟨A0, c0, hb, hg, hr0⟩ := h
 exact Kd.vM hb
theorem dn.kept {w0 W : World} {g : Nat} {f0 : List (S37)} {f1 : Int} {f2 : Bool} {W1 : World} {S : Nat → Prop} (h : dn w0 W g f0 f1 f2) (hk : Kept W W1 S) (hne : ¬ S g) : dn w0 W1 g f0 f1 f2 := by
 obtain ⟨A0, c0, hb, hg, hr0⟩ := h
 exact ⟨A0, c0, zt hb hk hne, hg, hr0⟩
theorem dn.below {w0 W : World} {g : Nat} {f0 : List (S37)} {f1 : Int} {f2 : Bool} {W1 : World} (h : dn w0 W g f0 f1 f2) (hw : Below W.heap.size W W1) : dn w0 W1 g f0 f1 f2 := h.grown (nO hw none) (by simp)
theorem dn.alloc {w0 W : World} {g : Nat} {f0 : List (S37)} {f1 : Int} {f2 : Bool} (h : dn w0 W g f0 f1 f2) (o : Obj) : dn w0 (W.alloc o) g f0 f1 f2 := h.below (iE (Below.refl _ _) o)
theorem dn.drewN {w0 W : World} {g : Nat} {f0 : List (S37)} {f1 : Int} {f2 : Bool} (h : dn w0 W g f0 f1 f2) (m : Nat) : dn w0 (W.drewN m) g f0 f1 f2 := h
theorem dn.drew {w0 W : World} {g : Nat} {f0 : List (S37)} {f1 : Int} {f2 : Bool} (h : dn w0 W g f0 f1 f2) : dn w0 W.drew g f0 f1 f2 := h
theorem dn.at_ {w0 W : World} {g : Nat} {f0 : List (S37)} {f1 : Int} {f2 : Bool} {w' : World} {m : Nat} (hq : W.drewN m = w') (h : dn w0 W g f0 f1 f2) : dn w0 w' g f0 f1 f2 := by subst hq; exact dn.drewN h m
theorem dn.apart {w0 W : World} {g : Nat} {f0 : List (S37)} {f1 : Int} {f2 : Bool} {α : Type} {d : Kd α} {e : Nat} {base : Nat} {ok : Nat → Prop} {v : Value} {xs : List α} (h : dn w0 W g f0 f1 f2) (ho : d.R e W base ok v xs) (ht : ∀ q, q ∈ e :: d.E → q ≠ 40) : d.R e W base (fun k => ok k ∧ k ≠ g) v xs := by
 obtain ⟨A0, c0, hb, hg, hr0⟩ := h
 exact Kd.qI ho hb ht
theorem dn.own_ne {w0 W : World} {g : Nat} {f0 : List (S37)} {f1 : Int} {f2 : Bool} {α : Type} {d : Kd α} {e : Nat} {base : Nat} {ok : Nat → Prop} {v : Value} {xs : List α} (h : dn w0 W g f0 f1 f2) (ho : d.R e W base ok v xs) (ht : e ≠ 40) : some g ≠ v.ownBlock := by
 obtain ⟨A0, c0, hb, hg, hr0⟩ := h
 exact Kd.Dn ho hb ht
theorem dn.lt {w0 W : World} {g : Nat} {f0 : List (S37)} {f1 : Int} {f2 : Bool} (h : dn w0 W g f0 f1 f2) : g < W.heap.size := by
 obtain ⟨A0, c0, hb, hg, hr0⟩ := h
 exact kH hb
theorem dn.ge {w0 W : World} {g : Nat} {f0 : List (S37)} {f1 : Int} {f2 : Bool} (h : dn w0 W g f0 f1 f2) : w0.heap.size ≤ g := by
 obtain ⟨A0, c0, hb, hg, hr0⟩ := h
 exact hg
theorem dn.far {w0 W : World} {g : Nat} {f0 : List (S37)} {f1 : Int} {f2 : Bool} {p : Addr} (h : dn w0 W g f0 f1 f2) (hne : g ≠ p.block) (u : Value) : dn w0 (W.setCell p u) g f0 f1 f2 := by
 obtain ⟨A0, c0, hb, hg, hr0⟩ := h
 exact ⟨A0, c0, fZ hb hne u, hg, hr0⟩
theorem kC {W : World} {g : Nat} {A0 : Option Addr} {c0 : Nat} {f0 : List (S37)} {f1 : Int} {f2 : Bool} (h : W.heap[g]? = some (.cells #[.slice A0 f0.length c0, .int .i64 f1, .bool f2] 40 (0, 0))) : W.cell? ⟨g, 0, none⟩ = some (.slice A0 f0.length c0) := (ag h 0).trans rfl
theorem kz {W : World} {g : Nat} {A0 : Option Addr} {c0 : Nat} {f0 : List (S37)} {f1 : Int} {f2 : Bool} (h : W.heap[g]? = some (.cells #[.slice A0 f0.length c0, .int .i64 f1, .bool f2] 40 (0, 0))) : W.cell? ⟨g, 1, none⟩ = some (.int .i64 f1) := (ag h 1).trans rfl
theorem dn.tY {w0 W : World} {g : Nat} {f0 : List (S37)} {f1 : Int} {f2 : Bool} (h : dn w0 W g f0 f1 f2) (x : Int) : dn w0 (W.setCell ⟨g, 1, none⟩ (.int .i64 x)) g f0 x f2 := by
 obtain ⟨A0, c0, hb, hg, hr0⟩ := h
 exact ⟨A0, c0, by simpa using o7 hb 1 (.int .i64 x), hg, hr0⟩
theorem kw {W : World} {g : Nat} {A0 : Option Addr} {c0 : Nat} {f0 : List (S37)} {f1 : Int} {f2 : Bool} (h : W.heap[g]? = some (.cells #[.slice A0 f0.length c0, .int .i64 f1, .bool f2] 40 (0, 0))) : W.cell? ⟨g, 2, none⟩ = some (.bool f2) := (ag h 2).trans rfl
theorem dn.uO {w0 W : World} {g : Nat} {f0 : List (S37)} {f1 : Int} {f2 : Bool} (h : dn w0 W g f0 f1 f2) (x : Bool) : dn w0 (W.setCell ⟨g, 2, none⟩ (.bool x)) g f0 f1 x := by
 obtain ⟨A0, c0, hb, hg, hr0⟩ := h
 exact ⟨A0, c0, by simpa using o7 hb 2 (.bool x), hg, hr0⟩
theorem dn.new (w0 W : World) (A0 : Option Addr) (c0 : Nat) (f0 : List (S37)) (f1 : Int) (f2 : Bool) (hB : Below w0.heap.size w0 W) (hr0 : Kd.C k37 w0 A0 f0.length f0) : dn w0 (W.alloc (.cells #[.slice A0 f0.length c0, .int .i64 f1, .bool f2] 40)) W.heap.size f0 f1 f2 := ⟨A0, c0, by simpa using heap_alloc_new W _, hB.size, hr0⟩
theorem dn.EC {w0 W : World} {g : Nat} {f0 : List (S37)} {f1 : Int} {f2 : Bool} {b j : Nat} {u : Value} (h : dn w0 W g f0 f1 f2) (hne : g ≠ b) : dn w0 (W.setCell ⟨b, j, none⟩ u) g f0 f1 f2 := dn.far h (p := ⟨b, j, none⟩) hne u
theorem iM (a : Int) (b : ByteArray) (c d : Int) (w : World) : (Instr.field 37 (.agg #[.int .i64 a, .string b, .int .i64 c, .int .i64 d]) 0).run Tryz.prog w = .ok (.int .i64 a) w := by kernel_rfl
theorem iL (a : Int) (b : ByteArray) (c d : Int) (w : World) : (Instr.field 37 (.agg #[.int .i64 a, .string b, .int .i64 c, .int .i64 d]) 1).run Tryz.prog w = .ok (.string b) w := by kernel_rfl
theorem iK (a : Int) (b : ByteArray) (c d : Int) (w : World) : (Instr.field 37 (.agg #[.int .i64 a, .string b, .int .i64 c, .int .i64 d]) 2).run Tryz.prog w = .ok (.int .i64 c) w := by kernel_rfl
theorem iJ (a : Int) (b : ByteArray) (c d : Int) (w : World) : (Instr.field 37 (.agg #[.int .i64 a, .string b, .int .i64 c, .int .i64 d]) 3).run Tryz.prog w = .ok (.int .i64 d) w := by kernel_rfl
end Go.Proofs.YtkbhkonenkgfoaaGreat.Q
end
section
universe u
namespace Go.Proofs.YtkbhkonenkgfoaaGreat.Q
open Go Go.RowKit Go.Proofs.YtkbhkonenkgfoaaGreatW.PrintWords Go.Proofs.YtkbhkonenkgfoaaGreatW.PrintLast Go.Proofs.YtkbhkonenkgfoaaGreatW.PrintMore
theorem bT {s : Nat} {w W0 W : World} (H : af (Below s w W0)) (f : Below s w W0 → Below s w W := by (intro h_; repeat (first | (with_reducible first | exact h_ | apply iE | apply gI | apply fV | refine jc ?_ (dn.ge HI0.out) | refine jc ?_ (af.out (by assumption))) | exact h_))) : Below s w W := f H.out
theorem kT {w W0 W : World} {g : Nat} {row : Option Nat} (H : af (bY w W0 g row)) (f : bY w W0 g row → bY w W g row := by (intro h_; repeat (first | (with_reducible first | exact h_ | apply bY.zQ | apply nK | apply qE | apply vH | refine qg ?_ (af.out (by assumption)) _) | exact h_))) : bY w W g row := f H.out
theorem iT {w0 W0 W : World} {g : Nat} {f0 : List S37} {f1 e1 : Int} {f2 e2 : Bool} (H : af (dn w0 W0 g f0 e1 e2)) (f : dn w0 W0 g f0 e1 e2 → dn w0 W g f0 f1 f2 := by (intro h_; repeat (first | (with_reducible first | exact h_ | apply dn.alloc | apply dn.drewN | apply dn.drew | apply dn.tY | apply dn.uO | (refine dn.EC ?_ ?hne_; case hne_ => exact af.out (by assumption))) | exact h_))) : dn w0 W g f0 f1 f2 := f H.out
theorem eT {α : Sort u} {a b : α} (h : a = b := by first | rfl | (simp [jA, jy] <;> rfl) | (simp [*, jA, jy] <;> rfl)) : a = b := h
theorem fT {p : Prop} (h : p := by first | rfl | (simp; done) | (simp [*]; done)) : p := h
theorem aT {p : Prop} (h : p := by first | (with_reducible assumption) | assumption) : p := h
section
variable {α : Type} {d : Kd α} {e : TypeId} {base : Nat} {ok : Nat → Prop} {v : Value} {xs : List α} {w0 w : World}
theorem qR (H : af (Kd.R d e w0 base ok v xs)) (f : Kd.R d e w0 base ok v xs → Kd.R d e w base ok v xs := by (intro h_; (with_reducible repeat (first | apply Kd.iP | apply Kd.iI | apply Kd.jf)); exact h_)) : Kd.R d e w base ok v xs := f H.out
end
end Go.Proofs.YtkbhkonenkgfoaaGreat.Q
end
section
namespace Go.Proofs.YtkbhkonenkgfoaaGreat.Q
open Go.RowKit Go.Proofs.YtkbhkonenkgfoaaGreatW.PrintWords Go.Proofs.YtkbhkonenkgfoaaGreatW.PrintLast Go.Proofs.YtkbhkonenkgfoaaGreatW.PrintMore
attribute [local go_sem] dJ dH dS dR cZ cO dI dG
set_option linter.unusedVariables false
set_option linter.unusedSimpArgs false
/-! ### dP: function 29 -/
mutual
def dP.l0 : Nat → List (S29) → Int → Int → Option (Int)
 | 0, _, _, _ => none
 | k + 1, x0, x1, x5 => if x1 < (x0.length : Int) then (if 0 ≤ x1 then (if ((ax x0 x1).f1) < 0 then (dP.j1 k x0 x1 x5 ((ax x0 x1).f1) true) else (dP.j1 k x0 x1 x5 ((ax x0 x1).f1) (decide (((ax x0 x1).f1) > (x0.length : Int))))) else (none)) else (some (-1))
def dP.j1 : Nat → List (S29) → Int → Int → Int → Bool → Option (Int)
 | 0, _, _, _, _, _ => none
 | k + 1, x0, x1, x5, x6, x27 => if x27 = true then (some (-1)) else (if (wrap64 (x5 + (wrap64 (x6 - 1)))) = 0 then (some (wrap64 (x1 + 1))) else (dP.l0 k x0 (wrap64 (x1 + 1)) (wrap64 (x5 + (wrap64 (x6 - 1))))))
end
def dP.f (k : Nat) (l0 : List (S29)) (a1 : Int) : Option (Int) := if a1 < 0 then (some (-1)) else (dP.l0 k l0 a1 1)
theorem dP.bZ : ∀ k, (∀ y0 y1 y2, LeO (dP.l0 k y0 y1 y2) (dP.l0 (k + 1) y0 y1 y2)) ∧ (∀ y0 y1 y2 y3 y4, LeO (dP.j1 k y0 y1 y2 y3 y4) (dP.j1 (k + 1) y0 y1 y2 y3 y4))
 | 0 => ⟨fun _ _ _ r h => by simp [dP.l0] at h, fun _ _ _ _ _ r h => by simp [dP.j1] at h⟩
 | k + 1 => by
  obtain ⟨ih0, ih1⟩ := dP.bZ k
  refine ⟨?_, ?_⟩
  ·intro y0 y1 y2
   unfold dP.l0
   exact yL
  intro y0 y1 y2 y3 y4
  unfold dP.j1
  exact yL
theorem dP.mono : ∀ a0 a1 k, LeO (dP.f k a0 a1) (dP.f (k + 1) a0 a1) := by
 intro a0 a1 k
 obtain ⟨ih0, ih1⟩ := dP.bZ k
 unfold dP.f
 exact yL
set_option maxHeartbeats 8000000 in
set_option maxRecDepth 100000 in
theorem dP.calls (k : Nat) (A0 : Option Addr) (c0 : Nat) (l0 : List (S29)) (a1 : Int) (r : Int) (w : World) (hr0 : Kd.C k29 w A0 l0.length l0) (hc0 : l0.length ≤ c0) (h : dP.f k l0 a1 = some r) :
 Calls Tryz.prog 29 #[.slice A0 l0.length c0, .int .i64 a1] w fun e w' => e = .returned (.int .i64 r) ∧ dZ w w' := by
 have HR0 := af.mk hr0
 have HC0 := af.mk hc0
 clear hr0 hc0
 have H := h
 clear h
 unfold dP.f at H
 revert H
 refine iR (fun c3b0 H => ?_) fun c3b0 H => ?_
 ·obtain rfl := Option.some.inj H
  go_enter Tryz.func29, Tryz.ntmps29
  go_wp2
  go_ret
  exact ⟨fT, Z0⟩
 have H' := af.mk H
 clear H
 go_enter Tryz.func29, Tryz.ntmps29
 go_wp2
 go_loopg [1, 5] k (fun kq v1 v5 w' => ∃ (x1_1 : Int) (x5_1 : Int), v1 = .int .i64 x1_1 ∧ v5 = .int .i64 x5_1 ∧ af (dP.l0 kq l0 x1_1 x5_1 = some r) ∧ af (kq ≤ k) ∧ dZ w w')
 case atStart => exact ⟨(a1), (1), fT, fT, H', ⟨Nat.le_refl _⟩, Z0⟩
 case round =>
  clear H'
  try clear c2
  try clear p2
  try clear c3
  try clear c3b0
  obtain ⟨x1_1, x5_1, rfl, rfl, HA, HK1, ⟨m1, rfl⟩⟩ := hrel
  cases gk with
  | zero => exact absurd HA.out (by simp [dP.l0])
  | succ k1 =>
   have H := HA.out
   clear HA
   simp only [dP.l0] at H
   revert H
   refine iR (fun c4b0 H => ?_) fun c4b0 H => ?_
   ·revert H
    refine gB (fun c5b0 H => ?_) fun c5 H => ?_
    ·have HC6 := af.mk H
     clear H
     have p221 : 0 ≤ (x1_1 : Int) := of_decide_eq_true aT
     have q221 : x1_1 < (l0.length : Int) := of_decide_eq_true aT
     obtain ⟨ad221, e221, hx221_0, hx221_1, hx221_2, hx221_3, hx221_4⟩ := iO HR0.out x1_1 p221 q221
     cases e221
     replace p221 := eq_true p221
     replace q221 := eq_true q221
     go_upto_region 7 with (fail)
     go_cut [27] (fun v27 wc => ∃ (kq : Nat) (x27_5 : Bool), v27 = .bool x27_5 ∧ af (dP.j1 kq l0 x1_1 x5_1 ((ax l0 x1_1).f1) x27_5 = some r) ∧ af (kq ≤ k1) ∧ dZ w wc)
     case first =>
      have H := HC6.out
      clear HC6
      revert H
      refine iR (fun c7b0 H => ?_) fun c7b0 H => ?_
      ·(first | rw [c7b0] | (simp only [fP, gG]; rw [c7b0]) | skip)
       have H' := af.mk H
       clear H
       go_wp2
       go_meet
       case rel => exact ⟨_, (true), fT, H', ⟨by have := HK1.out; first | omega | exact Nat.le_refl _⟩, Z0⟩
      (first | rw [c7b0] | (simp only [fP, gG]; rw [c7b0]) | skip)
      have H' := af.mk H
      clear H
      go_wp2
      go_meet
      case rel => exact ⟨_, (decide (((ax l0 x1_1).f1) > (l0.length : Int))), fT, H', ⟨by have := HK1.out; first | omega | exact Nat.le_refl _⟩, Z0⟩
     case rest =>
      clear HC6
      try clear c2
      try clear p2
      try clear q2
      try clear hx2
      try clear c3
      try clear c3b0
      try clear c4
      try clear c4b0
      try clear c5
      try clear c5b0
      try clear c7
      try clear c7b0
      try clear hx221_0
      try clear hx221_1
      try clear hx221_2
      try clear hx221_3
      try clear hx221_4
      try clear p2
      try clear p221
      try clear q221
      obtain ⟨kq, x27_5, rfl, HA, HJ5, ⟨mc5, rfl⟩⟩ := hcut
      cases kq with
      | zero => exact absurd HA.out (by simp [dP.j1])
      | succ kj5 =>
       have H := HA.out
       clear HA
       simp only [dP.j1] at H
       cases x27_5
       rotate_left
       ·replace H := yT H
        obtain rfl := Option.some.inj H
        go_wp2
        go_ret
        exact ⟨fT, Z0⟩
       replace H := yF H
       revert H
       refine aU (fun c9b0 c9b1 H => ?_) fun c9 c9b0 c9b1 H => ?_
       ·obtain rfl := Option.some.inj H
        go_wp2
        go_ret
        exact ⟨fT, Z0⟩
       have H' := af.mk H
       clear H
       go_wp2
       go_roundg kj5
       case measure => have := HK1.out; have := HJ5.out; omega
       case rel => exact ⟨(wrap64 (x1_1 + 1)), (wrap64 (x5_1 + (wrap64 (((ax l0 x1_1).f1) - 1)))), fT, fT, H', ⟨by have := HK1.out; have := HJ5.out; omega⟩, Z0⟩
    exact absurd H (by simp)
   obtain rfl := Option.some.inj H
   go_wp2
   go_ret
   exact ⟨fT, Z0⟩
end Go.Proofs.YtkbhkonenkgfoaaGreat.Q
end
section
namespace Go.Proofs.YtkbhkonenkgfoaaGreat.Q
open Go.RowKit Go.Proofs.YtkbhkonenkgfoaaGreatW.PrintWords Go.Proofs.YtkbhkonenkgfoaaGreatW.PrintLast Go.Proofs.YtkbhkonenkgfoaaGreatW.PrintMore
attribute [local go_sem] dJ dH dS dR cZ cO dI dG
set_option linter.unusedVariables false
set_option linter.unusedSimpArgs false
/-! ### eX: function 31 -/
def eX.l0 : Nat → List (S29) → Int → List Int → Int → Option (List Int)
 | 0, _, _, _, _ => none
 | k + 1, x0, x1, x5, x6 => if 0 ≤ x1 then (if x1 < (x0.length : Int) then (if (x5.length : Int) < ((ax x0 x1).f1) then (if x5.length < 17592186044416 then ((dP.f k x0 x6).bind fun t227 => (eX.l0 k x0 x1 (x5 ++ [x6]) t227)) else (none)) else (some x5)) else (none)) else (none)
def eX.f (k : Nat) (l0 : List (S29)) (a1 : Int) : Option (List Int) := (dP.f k l0 a1).bind fun t222 => (if t222 < 0 then (some ([] : List Int)) else (eX.l0 k l0 a1 ([] : List Int) (wrap64 (a1 + 1))))
theorem eX.bZ : ∀ k, (∀ y0 y1 y2 y3, LeO (eX.l0 k y0 y1 y2 y3) (eX.l0 (k + 1) y0 y1 y2 y3))
 | 0 => fun _ _ _ _ r h => by simp [eX.l0] at h
 | k + 1 => by
  have ih0 := eX.bZ k
  intro y0 y1 y2 y3
  unfold eX.l0
  have m0 := dP.mono
  exact yL
theorem eX.mono : ∀ a0 a1 k, LeO (eX.f k a0 a1) (eX.f (k + 1) a0 a1) := by
 intro a0 a1 k
 have ih0 := eX.bZ k
 unfold eX.f
 have m0 := dP.mono
 exact yL
set_option maxHeartbeats 8000000 in
set_option maxRecDepth 100000 in
theorem eX.calls (k : Nat) (A0 : Option Addr) (c0 : Nat) (l0 : List (S29)) (a1 : Int) (r : List Int) (w : World) (hr0 : Kd.C k29 w A0 l0.length l0) (hc0 : l0.length ≤ c0) (h : eX.f k l0 a1 = some r) :
 Calls Tryz.prog 31 #[.slice A0 l0.length c0, .int .i64 a1] w fun e w' => ∃ v0_ : Value, e = .returned (v0_) ∧ Kd.R (Kd.int .i64) 3 w' w.heap.size (fun _ => True) v0_ r ∧ Below w.heap.size w w' := by
 have HR0 := af.mk hr0
 have HC0 := af.mk hc0
 clear hr0 hc0
 have HB := af.mk (Below.refl w.heap.size w)
 have H := h
 clear h
 unfold eX.f at H
 revert H
 refine yB1 fun t222 A3 H => ?_
 revert H
 refine iR (fun c4b0 H => ?_) fun c4b0 H => ?_
 ·obtain rfl := Option.some.inj H
  go_enter Tryz.func31, Tryz.ntmps31
  go_wp2_with (first | ((with_reducible refine gC 29 rfl ?_); refine gM 29 9 rfl Tryz.func29 (dP.calls k _ _ l0 a1 t222 _ Z5 HC0.out A3.out) ?_; rintro _ w' ⟨rfl, ⟨nd, rfl⟩⟩; refine ⟨_, rfl, ?_⟩))
  go_ret
  exact ⟨_, eT, Z7, bT HB⟩
 have H' := af.mk H
 clear H
 go_enter Tryz.func31, Tryz.ntmps31
 go_wp2_with (first | ((with_reducible refine gC 29 rfl ?_); refine gM 29 9 rfl Tryz.func29 (dP.calls k _ _ l0 a1 t222 _ Z5 HC0.out A3.out) ?_; rintro _ w' ⟨rfl, ⟨nd, rfl⟩⟩; refine ⟨_, rfl, ?_⟩))
 go_loopg [5, 6] k (fun kq v5 v6 w' => ∃ (x5_1 : List Int) (x6_1 : Int), v6 = .int .i64 x6_1 ∧ af (eX.l0 kq l0 a1 x5_1 x6_1 = some r) ∧ af (kq ≤ k) ∧ af (Kd.R (Kd.int .i64) 3 w' w.heap.size (fun _ => True) v5 x5_1) ∧ af (Below w.heap.size w w'))
 case atStart => exact ⟨(([] : List Int)), (wrap64 (a1 + 1)), fT, H', ⟨Nat.le_refl _⟩, ⟨Z7⟩, ⟨bT HB⟩⟩
 case round =>
  clear H'
  try clear c2
  try clear p2
  try clear c3
  try clear c4
  try clear c4b0
  obtain ⟨x5_1, x6_1, rfl, HA, HK1, HO_5, HB⟩ := hrel
  cases gk with
  | zero => exact absurd HA.out (by simp [eX.l0])
  | succ k1 =>
   have H := HA.out
   clear HA
   simp only [eX.l0] at H
   revert H
   refine gB (fun c5b0 H => ?_) fun c5 H => ?_
   ·revert H
    refine gB (fun c6b0 H => ?_) fun c6 H => ?_
    ·revert H
     refine iR (fun c7b0 H => ?_) fun c7b0 H => ?_
     ·revert H
      refine gU (fun c8 H => ?_) fun c8 H => ?_
      ·have LMc8 := af.mk c8
       clear c8
       obtain ⟨y224, hy224⟩ : ∃ y_ : List Int, y_ = (x5_1 ++ [x6_1]) := ⟨_, rfl⟩
       replace H : ((dP.f k1 l0 x6_1).bind fun t227 => (eX.l0 k1 l0 a1 y224 t227)) = some r := by first | (rw [hy224]; with_reducible exact H) | (have H2_ := (Option.bind_some _ _).symm.trans H; rw [hy224]; with_reducible exact H2_) | (have H2_ := (Option.bind_some _ _).symm.trans H; with_reducible exact H2_) | with_reducible exact H | (rw [hy224]; exact H) | exact H
       have Ny224 := af.mk hy224
       clear hy224
       revert H
       refine yB1 fun t227 A9 H => ?_
       have H' := af.mk H
       clear H
       obtain ⟨Ao10, co10, eo10⟩ := Kd.fG HO_5.out
       subst eo10
       have p223 : 0 ≤ (a1 : Int) := of_decide_eq_true aT
       have q223 : a1 < (l0.length : Int) := of_decide_eq_true aT
       obtain ⟨ad223, e223, hx223_0, hx223_1, hx223_2, hx223_3, hx223_4⟩ := iO HR0.out a1 p223 q223
       cases e223
       replace hx223_0 := (HB.out.cell (World.block_lt_of_cell? w _ hx223_0)).trans hx223_0
       replace hx223_1 := (HB.out.cell (World.block_lt_of_cell? w _ hx223_1)).trans hx223_1
       replace hx223_2 := (HB.out.cell (World.block_lt_of_cell? w _ hx223_2)).trans hx223_2
       replace hx223_3 := (HB.out.cell (World.block_lt_of_cell? w _ hx223_3)).trans hx223_3
       replace hx223_4 := (HB.out.cell (World.block_lt_of_cell? w _ hx223_4)).trans hx223_4
       replace p223 := eq_true p223
       replace q223 := eq_true q223
       go_wp2_with (first | ((with_reducible refine ed (b := .append) (xs := #[.tmp 24, .tmp 26]) rfl ?_); at_builtin; refine Kd.lZ (Kd.int .i64) (w0 := w) w.heap.size rfl (.tmp 24) (.tmp 26) 60 3 (.int .i64 0) 8 rfl Tryz.underlying60 info3 rfl (by decide) (by omega) (.slice Ao10 x5_1.length co10) x5_1 x6_1 [.int .i64 x6_1] (fun _ => True) (fun _ => False) rfl rfl ?aP (fun _ hk => hk.elim) ?aF ?aO ?aB ?aS ?aL ?_; (case aP => exact rfl); (case aB => exact (bT HB)); (case aF => exact (fun _ _ => trivial)); (case aO => exact (qR HO_5)); (case aS => exact (bD (bT HB))); (case aL => have := LMc8.out; omega); intro v225 w11 ho hb hg hat; rw [← Ny224.out] at ho; refine yA2 (hb) (ho) ?_; clear HB HO_5; intro HB HO226; clear ho hb hg hat) | ((with_reducible refine gC 29 rfl ?_); refine gM 29 23 rfl Tryz.func29 (dP.calls k1 _ _ l0 x6_1 t227 _ Z3 HC0.out A9.out) ?_; rintro _ w' ⟨rfl, ⟨nd, rfl⟩⟩; refine ⟨_, rfl, ?_⟩))
       go_roundg k1
       case measure => have := HK1.out; omega
       case rel => exact ⟨(y224), (t227), fT, H', ⟨by have := HK1.out; omega⟩, ⟨qR HO226⟩, ⟨bT HB⟩⟩
      exact absurd H (by simp)
     obtain rfl := Option.some.inj H
     obtain ⟨Ao12, co12, eo12⟩ := Kd.fG HO_5.out
     subst eo12
     have p223 : 0 ≤ (a1 : Int) := of_decide_eq_true aT
     have q223 : a1 < (l0.length : Int) := of_decide_eq_true aT
     obtain ⟨ad223, e223, hx223_0, hx223_1, hx223_2, hx223_3, hx223_4⟩ := iO HR0.out a1 p223 q223
     cases e223
     replace hx223_0 := (HB.out.cell (World.block_lt_of_cell? w _ hx223_0)).trans hx223_0
     replace hx223_1 := (HB.out.cell (World.block_lt_of_cell? w _ hx223_1)).trans hx223_1
     replace hx223_2 := (HB.out.cell (World.block_lt_of_cell? w _ hx223_2)).trans hx223_2
     replace hx223_3 := (HB.out.cell (World.block_lt_of_cell? w _ hx223_3)).trans hx223_3
     replace hx223_4 := (HB.out.cell (World.block_lt_of_cell? w _ hx223_4)).trans hx223_4
     replace p223 := eq_true p223
     replace q223 := eq_true q223
     go_wp2
     go_ret
     exact ⟨_, eT, qR HO_5, bT HB⟩
    exact absurd H (by simp)
   exact absurd H (by simp)
/-! ### jg: function 103 -/
def jg.f (k : Nat) (l0 : List (S29)) (a1 : Int) : Option ((List (S29))) := (dP.f k l0 a1).bind fun t228 => (if t228 < 0 then (some ([] : List (S29))) else (if 0 ≤ a1 then (if a1 ≤ t228 then (if t228 ≤ (l0.length : Int) then ((some ((l0.take (t228 : Int).toNat).drop (a1 : Int).toNat : List (S29))).bind fun y229 => (if ([] : List (S29)).length + y229.length < 2513169434916 then (some (([] : List (S29)) ++ y229)) else (none))) else (none)) else (none)) else (none)))
theorem jg.mono : ∀ a0 a1 k, LeO (jg.f k a0 a1) (jg.f (k + 1) a0 a1) := by
 intro a0 a1 k
 unfold jg.f
 have m0 := dP.mono
 exact yL
set_option maxHeartbeats 8000000 in
set_option maxRecDepth 100000 in
theorem jg.calls (k : Nat) (A0 : Option Addr) (c0 : Nat) (l0 : List (S29)) (a1 : Int) (r : List (S29)) (w : World) (hr0 : Kd.C k29 w A0 l0.length l0) (hc0 : l0.length ≤ c0) (h : jg.f k l0 a1 = some r) :
 Calls Tryz.prog 103 #[.slice A0 l0.length c0, .int .i64 a1] w fun e w' => ∃ v0_ : Value, e = .returned (v0_) ∧ Kd.R k29 29 w' w.heap.size (fun _ => True) v0_ r ∧ Below w.heap.size w w' := by
 have HR0 := af.mk hr0
 have HC0 := af.mk hc0
 clear hr0 hc0
 have HB := af.mk (Below.refl w.heap.size w)
 have H := h
 clear h
 unfold jg.f at H
 revert H
 refine yB1 fun t228 A3 H => ?_
 revert H
 refine iR (fun c4b0 H => ?_) fun c4b0 H => ?_
 ·obtain rfl := Option.some.inj H
  go_enter Tryz.func103, Tryz.ntmps103
  go_wp2_with (first | ((with_reducible refine gC 29 rfl ?_); refine gM 29 8 rfl Tryz.func29 (dP.calls k _ _ l0 a1 t228 _ Z5 HC0.out A3.out) ?_; rintro _ w' ⟨rfl, ⟨nd, rfl⟩⟩; refine ⟨_, rfl, ?_⟩))
  go_ret
  exact ⟨_, eT, Z7, bT HB⟩
 revert H
 refine jm (fun c5b0 c5b1 H => ?_) fun c5 H => ?_
 ·revert H
  refine jm (fun c6b0 c6b1 H => ?_) fun c6 H => ?_
  ·revert H
   refine jm (fun c7b0 c7b1 H => ?_) fun c7 H => ?_
   ·obtain ⟨y229, hy229⟩ : ∃ y_ : List (S29), y_ = ((l0.take (t228 : Int).toNat).drop (a1 : Int).toNat) := ⟨_, rfl⟩
    replace H : (if ([] : List (S29)).length + y229.length < 2513169434916 then (some (([] : List (S29)) ++ y229)) else (none)) = some r := by first | (rw [hy229]; with_reducible exact H) | (have H2_ := (Option.bind_some _ _).symm.trans H; rw [hy229]; with_reducible exact H2_) | (have H2_ := (Option.bind_some _ _).symm.trans H; with_reducible exact H2_) | with_reducible exact H | (rw [hy229]; exact H) | exact H
    have Ny229 := af.mk hy229
    clear hy229
    revert H
    refine gU (fun c8 H => ?_) fun c8 H => ?_
    ·have LMc8 := af.mk c8
     clear c8
     obtain ⟨y233, hy233⟩ : ∃ y_ : List (S29), y_ = (([] : List (S29)) ++ y229) := ⟨_, rfl⟩
     replace H : (some y233) = some r := by first | (rw [hy233]; with_reducible exact H) | (have H2_ := (Option.bind_some _ _).symm.trans H; rw [hy233]; with_reducible exact H2_) | (have H2_ := (Option.bind_some _ _).symm.trans H; with_reducible exact H2_) | with_reducible exact H | (rw [hy233]; exact H) | exact H
     have Ny233 := af.mk hy233
     clear hy233
     obtain rfl := Option.some.inj H
     go_enter Tryz.func103, Tryz.ntmps103
     go_wp2_with (first | ((with_reducible refine gC 29 rfl ?_); refine gM 29 8 rfl Tryz.func29 (dP.calls k _ _ l0 a1 t228 _ Z5 HC0.out A3.out) ?_; rintro _ w' ⟨rfl, ⟨nd, rfl⟩⟩; refine ⟨_, rfl, ?_⟩; have q9 : (t228 : Int) ≤ ((l0.length : Int) : Int) := of_decide_eq_true aT; obtain ⟨i09, hi09, _, hsz9, _⟩ := info_parts tC; have hroom9 : l0.length ≤ c0 := HC0.out; have hC9 : Kd.C k29 _ A0 l0.length l0 := HR0.out; have ql9 : (a1 : Int) ≤ (t228 : Int) := of_decide_eq_true aT; have q09 : (0 : Int) ≤ (a1 : Int) := of_decide_eq_true aT; have hcut9 := BD (P := Tryz.prog) 23 29 .i64 .i64 Tryz.underlying23 hi09 5 hsz9 A0 l0.length c0 a1 t228 q09 ql9 q9 hroom9; have hr9 := Kd.H8 (lo := (a1 : Int).toNat) (hi := (t228 : Int).toNat) (c := c0) hC9 (by omega) (by omega) hroom9; obtain ⟨A9, hA9⟩ : ∃ A1, A1 = (if c0 = (a1 : Int).toNat then A0 else (A0 : Option Addr).map (·.add ((a1 : Int).toNat * 5))) := ⟨_, rfl⟩; obtain ⟨c9, hc9⟩ : ∃ c1, c1 = c0 - (a1 : Int).toNat := ⟨_, rfl⟩; have hy9 : y229.length = (t228 : Int).toNat - (a1 : Int).toNat := (by rw [Ny229.out, List.length_drop, List.length_take] <;> omega); rw [show ((l0).take (t228 : Int).toNat).drop (a1 : Int).toNat = y229 from Ny229.out.symm] at hr9; replace hr9 : Kd.C k29 _ A9 y229.length y229 := (by rw [hA9]; exact hr9); rw [← hy9, ← hA9, ← hc9] at hcut9; have HR232 := af.mk hr9; have HC232 := af.mk (show y229.length ≤ c9 from by rw [hy9, hc9]; exact Nat.sub_le_sub_right (Nat.le_trans (by omega) hroom9) _); clear hr9 hC9 hroom9 hi09 hsz9 hc9; have KY9 := af.mk hy9; have KA9 := af.mk hA9; clear hy9 hA9; replace q9 := eq_true q9) | ((with_reducible refine ed (b := .append) (xs := #[.const (.slice none 0 0), .tmp 14]) rfl ?_); at_builtin; refine Kd.lD k29 (w0 := w) w.heap.size rfl (.const (.slice none 0 0)) (.tmp 14) 23 29 (.agg #[(.int .i64 0), (.int .i64 0), (.string ⟨#[]⟩), (.int .i64 0), (.string ⟨#[]⟩)]) 56 rfl Tryz.underlying23 tC rfl (by decide) (by omega) (.slice none 0 0) ([] : List (S29)) y229 _ _ _ (fun _ => True) (fun _ => False) rfl rfl ?aO ?aR (fun _ _ h => h) (fun _ h => h.elim) ?aF ?aB ?aS ?aL ?_; (case aR => repeat (first | exact HR232.out | (with_reducible refine Kd.jR ?_ _) | (with_reducible refine Kd.jQ ?_ _) | (with_reducible refine Kd.kV ?_))); (case aB => exact (bT HB)); (case aF => exact (fun _ _ => trivial)); (case aO => exact ((Kd.nR _ _ _ _ (fun _ => True)))); (case aS => exact (bD (bT HB))); (case aL => have := LMc8.out; omega); intro v234 w10 ho hb hg hat; rw [← Ny233.out] at ho; refine yA2 (hb) (ho) ?_; clear HB; intro HB HO235; clear ho hb hg hat))
     go_ret
     exact ⟨_, eT, qR HO235, bT HB⟩
    exact absurd H (by simp)
   exact absurd H (by simp)
  exact absurd H (by simp)
 exact absurd H (by simp)
end Go.Proofs.YtkbhkonenkgfoaaGreat.Q
end
section
namespace Go.Proofs.YtkbhkonenkgfoaaGreat.Q
open Go.RowKit Go.Proofs.YtkbhkonenkgfoaaGreatW.PrintWords Go.Proofs.YtkbhkonenkgfoaaGreatW.PrintLast Go.Proofs.YtkbhkonenkgfoaaGreatW.PrintMore
attribute [local go_sem] dJ dH dS dR cZ cO dI dG
set_option linter.unusedVariables false
set_option linter.unusedSimpArgs false
/-! ### dD: function 30 -/
mutual
def dD.l0 : Nat → List (S29) → Int → List Int → List (S29) → Int → Int → Option (Int)
 | 0, _, _, _, _, _, _ => none
 | k + 1, x0, x3, x4, x8, x9, x10 => if x10 < x9 then (if 0 ≤ x10 then (if x10 < (x8.length : Int) then ((dP.f k x0 x10).bind fun t517 => (if t517 < 0 then (some (-1)) else (if x4.length < 17592186044416 then ((some (x4 ++ [(ax x8 x10).f1] : List Int)).bind fun y518 => (dD.l1 k x0 (mx x3 (y518.length : Int)) y518 x8 x9 x10)) else (none)))) else (none)) else (none)) else (some x3)
def dD.l1 : Nat → List (S29) → Int → List Int → List (S29) → Int → Int → Option (Int)
 | 0, _, _, _, _, _, _ => none
 | k + 1, x0, x3, x4, x8, x9, x10 => if 0 ≤ (wrap64 ((x4.length : Int) - 1)) then (if (wrap64 ((x4.length : Int) - 1)) < (x4.length : Int) then (if (rd x4 (wrap64 ((x4.length : Int) - 1))) > 0 then (dD.l0 k x0 x3 (x4.set ((wrap64 ((x4.length : Int) - 1)) : Int).toNat (wrap64 ((rd x4 (wrap64 ((x4.length : Int) - 1))) - 1))) x8 x9 (wrap64 (x10 + 1))) else (if (wrap64 ((x4.length : Int) - 1)) ≤ (x4.length : Int) then ((some (x4.take ((wrap64 ((x4.length : Int) - 1)) : Int).toNat : List Int)).bind fun y524 => (if (wrap64 ((x4.length : Int) - 1)) = 0 then (dD.l0 k x0 x3 y524 x8 x9 (wrap64 (x10 + 1))) else (dD.l1 k x0 x3 y524 x8 x9 x10))) else (none))) else (none)) else (none)
end
def dD.f (k : Nat) (l0 : List (S29)) : Option (Int) := dD.l0 k l0 0 ([] : List Int) l0 (l0.length : Int) 0
theorem dD.bZ : ∀ k, (∀ y0 y1 y2 y3 y4 y5, LeO (dD.l0 k y0 y1 y2 y3 y4 y5) (dD.l0 (k + 1) y0 y1 y2 y3 y4 y5)) ∧ (∀ y0 y1 y2 y3 y4 y5, LeO (dD.l1 k y0 y1 y2 y3 y4 y5) (dD.l1 (k + 1) y0 y1 y2 y3 y4 y5))
 | 0 => ⟨fun _ _ _ _ _ _ r h => by simp [dD.l0] at h, fun _ _ _ _ _ _ r h => by simp [dD.l1] at h⟩
 | k + 1 => by
  obtain ⟨ih0, ih1⟩ := dD.bZ k
  refine ⟨?_, ?_⟩
  ·intro y0 y1 y2 y3 y4 y5
   unfold dD.l0
   have m0 := dP.mono
   exact yL
  intro y0 y1 y2 y3 y4 y5
  unfold dD.l1
  have m0 := dP.mono
  exact yL
theorem dD.mono : ∀ a0 k, LeO (dD.f k a0) (dD.f (k + 1) a0) := by
 intro a0 k
 obtain ⟨ih0, ih1⟩ := dD.bZ k
 unfold dD.f
 have m0 := dP.mono
 exact yL
set_option maxHeartbeats 8000000 in
set_option maxRecDepth 100000 in
theorem dD.calls (k : Nat) (A0 : Option Addr) (c0 : Nat) (l0 : List (S29)) (r : Int) (w : World) (hr0 : Kd.C k29 w A0 l0.length l0) (hc0 : l0.length ≤ c0) (h : dD.f k l0 = some r) :
 Calls Tryz.prog 30 #[.slice A0 l0.length c0] w fun e w' => e = .returned (.int .i64 r) ∧ Below w.heap.size w w' := by
 have hu29 := Tryz.underlying29
 have HR0 := af.mk hr0
 have HC0 := af.mk hc0
 clear hr0 hc0
 have HB := af.mk (Below.refl w.heap.size w)
 have H := h
 clear h
 unfold dD.f at H
 have H' := af.mk H
 clear H
 go_enter Tryz.func30, Tryz.ntmps30
 go_wp2
 go_step3
 go_wp2
 go_step3
 go_wp2
 go_loopg [3, 4, 10] k (fun kq v3 v4 v10 w' => ∃ (x3_1 : Int) (x4_1 : List Int) (x10_1 : Int), v3 = .int .i64 x3_1 ∧ v10 = .int .i64 x10_1 ∧ af (dD.l0 kq l0 x3_1 x4_1 l0 (l0.length : Int) x10_1 = some r) ∧ af (kq ≤ k) ∧ af (Kd.R (Kd.int .i64) 3 w' w.heap.size (fun _ => True) v4 x4_1) ∧ af (Below w.heap.size w w'))
 case atStart => exact ⟨(0), (([] : List Int)), (0), fT, fT, H', ⟨Nat.le_refl _⟩, ⟨Z7⟩, ⟨bT HB⟩⟩
 case round =>
  clear H'
  obtain ⟨x3_1, x4_1, x10_1, rfl, rfl, HA, HK1, HO_4, HB⟩ := hrel
  cases gk with
  | zero => exact absurd HA.out (by simp [dD.l0])
  | succ k1 =>
   have H := HA.out
   clear HA
   simp only [dD.l0] at H
   revert H
   refine iR (fun c2b0 H => ?_) fun c2b0 H => ?_
   ·revert H
    refine gB (fun c3b0 H => ?_) fun c3 H => ?_
    ·revert H
     refine gB (fun c4b0 H => ?_) fun c4 H => ?_
     ·revert H
      refine yB1 fun t517 A5 H => ?_
      revert H
      refine iR (fun c6b0 H => ?_) fun c6b0 H => ?_
      ·obtain rfl := Option.some.inj H
       have p515 : 0 ≤ (x10_1 : Int) := of_decide_eq_true aT
       have q515 : x10_1 < (l0.length : Int) := of_decide_eq_true aT
       obtain ⟨ad515, e515, hx515_0, hx515_1, hx515_2, hx515_3, hx515_4⟩ := iO HR0.out x10_1 p515 q515
       cases e515
       replace hx515_0 := (HB.out.cell (World.block_lt_of_cell? w _ hx515_0)).trans hx515_0
       replace hx515_1 := (HB.out.cell (World.block_lt_of_cell? w _ hx515_1)).trans hx515_1
       replace hx515_2 := (HB.out.cell (World.block_lt_of_cell? w _ hx515_2)).trans hx515_2
       replace hx515_3 := (HB.out.cell (World.block_lt_of_cell? w _ hx515_3)).trans hx515_3
       replace hx515_4 := (HB.out.cell (World.block_lt_of_cell? w _ hx515_4)).trans hx515_4
       replace p515 := eq_true p515
       replace q515 := eq_true q515
       go_wp2_with (first | ((with_reducible refine bH (N := 6) rfl ?_); refine fA ?hg (N := 6) ?hd (cs := #[.int .i64 0, .int .i64 0, .string (⟨#[]⟩ : ByteArray), .int .i64 0, .string (⟨#[]⟩ : ByteArray)]) (t := 29) ?hr ?_; (case hd => rfl); (case hg => rfl); (case hr => first | (go_simp; done) | (go_simp; rfl)); intro gb516 hg w7 hbox hb; refine yA5 (Kd.gW (qR HO_4) hb) (aA (bT HB) hb) (hbox) ((by rw [hg]; exact (bD (bT HB)) : w.heap.size ≤ gb516)) ((by rw [hg]; exact (bD (bT HB)) : w.heap.size ≤ gb516)) ?_; clear HO_4 HB; intro HO_4 HB BK516 GW516 GE516; clear hb hbox hg; have hcz8_0 : w7.cell? ⟨gb516, 0, none⟩ = some (.int .i64 0) := (ag BK516.out 0).trans rfl; have hcz8_1 : w7.cell? ⟨gb516, 1, none⟩ = some (.int .i64 0) := (ag BK516.out 1).trans rfl; have hcz8_2 : w7.cell? ⟨gb516, 2, none⟩ = some (.string (⟨#[]⟩ : ByteArray)) := (ag BK516.out 2).trans rfl; have hcz8_3 : w7.cell? ⟨gb516, 3, none⟩ = some (.int .i64 0) := (ag BK516.out 3).trans rfl; have hcz8_4 : w7.cell? ⟨gb516, 4, none⟩ = some (.string (⟨#[]⟩ : ByteArray)) := (ag BK516.out 4).trans rfl; have hfz8_0 := ae BK516.out 0; have hfz8_1 := ae BK516.out 1; have hfz8_2 := ae BK516.out 2; have hfz8_3 := ae BK516.out 3; have hfz8_4 := ae BK516.out 4) | ((with_reducible refine gC 29 rfl ?_); refine gM 29 17 rfl Tryz.func29 (dP.calls k1 _ _ l0 x10_1 t517 _ (Kd.jW HR0.out (bT HB)) HC0.out A5.out) ?_; rintro _ w' ⟨rfl, ⟨nd, rfl⟩⟩; refine ⟨_, rfl, ?_⟩))
       go_ret
       exact ⟨eT, bT HB⟩
      revert H
      refine gU (fun c9 H => ?_) fun c9 H => ?_
      ·have LMc9 := af.mk c9
       clear c9
       obtain ⟨y518, hy518⟩ : ∃ y_ : List Int, y_ = (x4_1 ++ [(ax l0 x10_1).f1]) := ⟨_, rfl⟩
       replace H : (dD.l1 k1 l0 (mx x3_1 (y518.length : Int)) y518 l0 (l0.length : Int) x10_1) = some r := by first | (rw [hy518]; with_reducible exact H) | (have H2_ := (Option.bind_some _ _).symm.trans H; rw [hy518]; with_reducible exact H2_) | (have H2_ := (Option.bind_some _ _).symm.trans H; with_reducible exact H2_) | with_reducible exact H | (rw [hy518]; exact H) | exact H
       have Ny518 := af.mk hy518
       clear hy518
       obtain ⟨ji10, hji10⟩ : ∃ j_ : Int, (mx x3_1 (y518.length : Int)) = j_ := ⟨_, rfl⟩
       replace H : (dD.l1 k1 l0 ji10 y518 l0 (l0.length : Int) x10_1) = some r := by first | (rw [hji10] at H; exact H) | (simp only [hji10] at H ⊢; exact H)
       (try rw [hji10] at A5)
       have hji10_ : (if x3_1 < (y518.length : Int) then (y518.length : Int) else x3_1) = ji10 := hji10
       have H' := af.mk H
       clear H
       have p515 : 0 ≤ (x10_1 : Int) := of_decide_eq_true aT
       have q515 : x10_1 < (l0.length : Int) := of_decide_eq_true aT
       obtain ⟨ad515, e515, hx515_0, hx515_1, hx515_2, hx515_3, hx515_4⟩ := iO HR0.out x10_1 p515 q515
       cases e515
       replace hx515_0 := (HB.out.cell (World.block_lt_of_cell? w _ hx515_0)).trans hx515_0
       replace hx515_1 := (HB.out.cell (World.block_lt_of_cell? w _ hx515_1)).trans hx515_1
       replace hx515_2 := (HB.out.cell (World.block_lt_of_cell? w _ hx515_2)).trans hx515_2
       replace hx515_3 := (HB.out.cell (World.block_lt_of_cell? w _ hx515_3)).trans hx515_3
       replace hx515_4 := (HB.out.cell (World.block_lt_of_cell? w _ hx515_4)).trans hx515_4
       replace p515 := eq_true p515
       replace q515 := eq_true q515
       go_wp2_with (first | ((with_reducible refine bH (N := 6) rfl ?_); refine fA ?hg (N := 6) ?hd (cs := #[.int .i64 0, .int .i64 0, .string (⟨#[]⟩ : ByteArray), .int .i64 0, .string (⟨#[]⟩ : ByteArray)]) (t := 29) ?hr ?_; (case hd => rfl); (case hg => rfl); (case hr => first | (go_simp; done) | (go_simp; rfl)); intro gb516 hg w11 hbox hb; refine yA5 (Kd.gW (qR HO_4) hb) (aA (bT HB) hb) (hbox) ((by rw [hg]; exact (bD (bT HB)) : w.heap.size ≤ gb516)) ((by rw [hg]; exact (bD (bT HB)) : w.heap.size ≤ gb516)) ?_; clear HO_4 HB; intro HO_4 HB BK516 GW516 GE516; clear hb hbox hg; have hcz12_0 : w11.cell? ⟨gb516, 0, none⟩ = some (.int .i64 0) := (ag BK516.out 0).trans rfl; have hcz12_1 : w11.cell? ⟨gb516, 1, none⟩ = some (.int .i64 0) := (ag BK516.out 1).trans rfl; have hcz12_2 : w11.cell? ⟨gb516, 2, none⟩ = some (.string (⟨#[]⟩ : ByteArray)) := (ag BK516.out 2).trans rfl; have hcz12_3 : w11.cell? ⟨gb516, 3, none⟩ = some (.int .i64 0) := (ag BK516.out 3).trans rfl; have hcz12_4 : w11.cell? ⟨gb516, 4, none⟩ = some (.string (⟨#[]⟩ : ByteArray)) := (ag BK516.out 4).trans rfl; have hfz12_0 := ae BK516.out 0; have hfz12_1 := ae BK516.out 1; have hfz12_2 := ae BK516.out 2; have hfz12_3 := ae BK516.out 3; have hfz12_4 := ae BK516.out 4) | ((with_reducible refine gC 29 rfl ?_); refine gM 29 17 rfl Tryz.func29 (dP.calls k1 _ _ l0 x10_1 t517 _ (Kd.jW HR0.out (bT HB)) HC0.out A5.out) ?_; rintro _ w' ⟨rfl, ⟨nd, rfl⟩⟩; refine ⟨_, rfl, ?_⟩) | ((with_reducible refine ed (b := .append) (xs := #[.tmp 19, .tmp 22]) rfl ?_); at_builtin; refine Kd.lZ (Kd.int .i64) (w0 := w) w.heap.size rfl (.tmp 19) (.tmp 22) 60 3 (.int .i64 0) 8 rfl Tryz.underlying60 info3 rfl (by decide) (by omega) u4 x4_1 ((ax l0 x10_1).f1) [.int .i64 ((ax l0 x10_1).f1)] (fun _ => True) (fun _ => False) rfl (by first | (go_simp; done) | (go_simp; rfl)) ?aP (fun _ hk => hk.elim) ?aF ?aO ?aB ?aS ?aL ?_; (case aP => exact rfl); (case aB => exact (bT HB)); (case aF => exact (fun _ _ => trivial)); (case aO => exact (by (with_reducible repeat (first | apply Kd.iP | apply Kd.iI | apply Kd.jf)); exact Kd.jb (Kd.qP (p := ⟨gb516, 4, none⟩) (Kd.qP (p := ⟨gb516, 3, none⟩) (Kd.qP (p := ⟨gb516, 2, none⟩) (Kd.qP (p := ⟨gb516, 1, none⟩) (Kd.qP (p := ⟨gb516, 0, none⟩) (Kd.qI HO_4.out BK516.out (by decide)) (fun _ hk => hk.2) (.int .i64 ((ax l0 x10_1).f0))) (fun _ hk => hk.2) (.int .i64 ((ax l0 x10_1).f1))) (fun _ hk => hk.2) (.string ((ax l0 x10_1).f2))) (fun _ hk => hk.2) (.int .i64 ((ax l0 x10_1).f3))) (fun _ hk => hk.2) (.string ((ax l0 x10_1).f4))) (fun _ hk => trivial))); (case aS => exact (bD (bT HB))); (case aL => have := LMc9.out; omega); intro v519 w13 ho hb hg hat; rw [← Ny518.out] at ho; refine yA3 (kN (g := gb516) (o := .cells #[.int .i64 ((ax l0 x10_1).f0), .int .i64 ((ax l0 x10_1).f1), .string ((ax l0 x10_1).f2), .int .i64 ((ax l0 x10_1).f3), .string ((ax l0 x10_1).f4)] 29 (0, 0)) (by refine bW (cs := #[.int .i64 ((ax l0 x10_1).f0), .int .i64 ((ax l0 x10_1).f1), .string ((ax l0 x10_1).f2), .int .i64 ((ax l0 x10_1).f3), .string (⟨#[]⟩ : ByteArray)]) ?_ 4 _ rfl; refine bW (cs := #[.int .i64 ((ax l0 x10_1).f0), .int .i64 ((ax l0 x10_1).f1), .string ((ax l0 x10_1).f2), .int .i64 0, .string (⟨#[]⟩ : ByteArray)]) ?_ 3 _ rfl; refine bW (cs := #[.int .i64 ((ax l0 x10_1).f0), .int .i64 ((ax l0 x10_1).f1), .string (⟨#[]⟩ : ByteArray), .int .i64 0, .string (⟨#[]⟩ : ByteArray)]) ?_ 2 _ rfl; refine bW (cs := #[.int .i64 ((ax l0 x10_1).f0), .int .i64 0, .string (⟨#[]⟩ : ByteArray), .int .i64 0, .string (⟨#[]⟩ : ByteArray)]) ?_ 1 _ rfl; refine bW (cs := #[.int .i64 0, .int .i64 0, .string (⟨#[]⟩ : ByteArray), .int .i64 0, .string (⟨#[]⟩ : ByteArray)]) ?_ 0 _ rfl; exact BK516.out) hg (Kd.Dn HO_4.out BK516.out (by decide))) (hb) (ho) ?_; clear BK516 HB HO_4; intro BK516 HB HO520; clear ho hb hg hat; obtain ⟨Ao14, co14, rfl⟩ := Kd.fG HO520.out))
       go_loopg [4] k1 (fun kq v4 w' => ∃ (x4_2 : List Int), af (dD.l1 kq l0 ji10 x4_2 l0 (l0.length : Int) x10_1 = some r) ∧ af (kq ≤ k1) ∧ af (Kd.R (Kd.int .i64) 3 w' w.heap.size (fun _ => True) v4 x4_2) ∧ af (w'.heap[gb516]? = some (.cells #[.int .i64 ((ax l0 x10_1).f0), .int .i64 ((ax l0 x10_1).f1), .string ((ax l0 x10_1).f2), .int .i64 ((ax l0 x10_1).f3), .string ((ax l0 x10_1).f4)] 29 (0, 0))) ∧ af (Below w.heap.size w w'))
       case atStart => exact ⟨(y518), H', ⟨Nat.le_refl _⟩, ⟨qR HO520⟩, ⟨by exact BK516.out⟩, ⟨bT HB⟩⟩
       case round =>
        clear H'
        try clear c2
        try clear c2b0
        try clear p2
        try clear c3
        try clear c3b0
        try clear c4
        try clear c4b0
        try clear p5
        try clear q5
        try clear hx5
        try clear c6
        try clear c6b0
        try clear c9
        try clear hcz12_0
        try clear hcz12_1
        try clear hcz12_2
        try clear hcz12_3
        try clear hcz12_4
        try clear hcz8_0
        try clear hcz8_1
        try clear hcz8_2
        try clear hcz8_3
        try clear hcz8_4
        try clear hfz12_0
        try clear hfz12_1
        try clear hfz12_2
        try clear hfz12_3
        try clear hfz12_4
        try clear hfz8_0
        try clear hfz8_1
        try clear hfz8_2
        try clear hfz8_3
        try clear hfz8_4
        try clear hx515_0
        try clear hx515_1
        try clear hx515_2
        try clear hx515_3
        try clear hx515_4
        try clear p515
        try clear q515
        obtain ⟨x4_2, HA, HK2, HO_4, BK516, HB⟩ := hrel
        cases gk with
        | zero => exact absurd HA.out (by simp [dD.l1])
        | succ k2 =>
         have H := HA.out
         clear HA
         simp only [dD.l1] at H
         obtain ⟨ji15, hji15⟩ : ∃ j_ : Int, (wrap64 ((x4_2.length : Int) - 1)) = j_ := ⟨_, rfl⟩
         replace H : (if 0 ≤ (ji15) then (if (ji15) < (x4_2.length : Int) then (if (rd x4_2 (ji15)) > 0 then (dD.l0 k2 l0 ji10 (x4_2.set ((ji15) : Int).toNat (wrap64 ((rd x4_2 (ji15)) - 1))) l0 (l0.length : Int) (wrap64 (x10_1 + 1))) else (if (ji15) ≤ (x4_2.length : Int) then ((some (x4_2.take ((ji15) : Int).toNat : List Int)).bind fun y524 => (if (ji15) = 0 then (dD.l0 k2 l0 ji10 y524 l0 (l0.length : Int) (wrap64 (x10_1 + 1))) else (dD.l1 k2 l0 ji10 y524 l0 (l0.length : Int) x10_1))) else (none))) else (none)) else (none)) = some r := by first | (rw [hji15] at H; exact H) | (simp only [hji15] at H ⊢; exact H)
         have hji15w : (IntKind.i64.wrap ((x4_2.length : Int) - 1)) = ji15 := (fP _).trans hji15
         revert H
         refine gB (fun c16b0 H => ?_) fun c16 H => ?_
         ·revert H
          refine gB (fun c17b0 H => ?_) fun c17 H => ?_
          ·revert H
           refine gU (fun c18 H => ?_) fun c18 H => ?_
           ·have c18b0 : decide (0 < (rd x4_2 (ji15))) = true := decide_eq_true c18
            clear c18
            obtain ⟨y523, hy523⟩ : ∃ y_ : List Int, y_ = (x4_2.set ((ji15) : Int).toNat (wrap64 ((rd x4_2 (ji15)) - 1))) := ⟨_, rfl⟩
            replace H : (dD.l0 k2 l0 ji10 y523 l0 (l0.length : Int) (wrap64 (x10_1 + 1))) = some r := by first | (rw [hy523]; with_reducible exact H) | (have H2_ := (Option.bind_some _ _).symm.trans H; rw [hy523]; with_reducible exact H2_) | (have H2_ := (Option.bind_some _ _).symm.trans H; with_reducible exact H2_) | with_reducible exact H | (rw [hy523]; exact H) | exact H
            have Ny523 := af.mk hy523
            clear hy523
            have H' := af.mk H
            clear H
            obtain ⟨Ao20, co20, eo20⟩ := Kd.fG HO_4.out
            subst eo20
            have p521 : 0 ≤ ((ji15) : Int) := of_decide_eq_true aT
            have q521 : (ji15) < (x4_2.length : Int) := of_decide_eq_true aT
            obtain ⟨ad521, e521, hx521_0⟩ := Kd.fO (Kd.dU HO_4.out).2.2 (ji15) p521 q521
            cases e521
            replace p521 := eq_true p521
            replace q521 := eq_true q521
            have p522 : 0 ≤ ((ji15) : Int) := of_decide_eq_true aT
            have q522 : (ji15) < (x4_2.length : Int) := of_decide_eq_true aT
            obtain ⟨ad522, e522, hx522_0⟩ := Kd.fO (Kd.dU HO_4.out).2.2 (ji15) p522 q522
            obtain rfl : ad521 = ad522 := (by injection e522)
            replace p522 := eq_true p522
            replace q522 := eq_true q522
            have p19 : 0 ≤ ((ji15) : Int) := of_decide_eq_true aT
            have q19 : ((ji15) : Int) < ((x4_2.length : Int) : Int) := of_decide_eq_true aT
            obtain ⟨go19, co19, eo19, gb19, gl19, cl19, HG19⟩ := Kd.EZ HO_4.out (by omega)
            (first | cases eo19 | (injection eo19 with ea_ en_ ec_; (first | subst ea_ | (injection ea_ with ea_; subst ea_)); subst ec_; clear en_))
            have GB19 := af.mk gb19
            have GG19 := af.mk HG19
            clear gb19 gl19 HG19
            (first | simp only [add_plain] at hx521_0 | skip)
            (first | simp only [add_plain] at hx522_0 | skip)
            obtain ⟨hx19_0, hf19_0⟩ := Kd.BM 0 HO_4.out ((ji15) : Int) p19 q19
            replace p19 := eq_true p19
            replace q19 := eq_true q19
            have HP21 := Kd.EW HO_4.out ((ji15) : Int) (wrap64 ((rd x4_2 (ji15)) - 1))
            go_wp2_with (first | ((with_reducible refine Ah (t := 3) (p := 41) rfl ?_); refine yA (t := 3) (p := 41) (v := ?vo_w22) (w1 := (wr.setCell ⟨go19, ((ji15) : Int).toNat, none⟩ (.int .i64 (wrap64 ((rd x4_2 (ji15)) - 1))))) ?hg ?ho ?hn ?hr ?_; (case ho => rfl); (case hg => rfl); (case hn => rfl); (case hr => first | (go_simp; done) | (go_simp; rfl)); intro w22 hw; have hg : wr.grownBy w22 (some go19) := (by rw [hw]; exact HP21.2); have hp_ : Kd.R (Kd.int .i64) 3 w22 w.heap.size (fun _ => True) (.slice (some ⟨go19, 0, none⟩) x4_2.length co20) y523 := (by rw [hw, Ny523.out]; exact HP21.1); clear HP21; refine yA3 (hp_) (kN (g := gb516) (o := .cells #[.int .i64 ((ax l0 x10_1).f0), .int .i64 ((ax l0 x10_1).f1), .string ((ax l0 x10_1).f2), .int .i64 ((ax l0 x10_1).f3), .string ((ax l0 x10_1).f4)] 29 (0, 0)) (by exact BK516.out) hg (Kd.Dn HO_4.out BK516.out (by decide))) ((by rw [hw]; exact jc (HB.out) GB19.out : Below w.heap.size w w22)) ?_; clear HO_4 BK516 HB; intro HO_4 BK516 HB; clear hg hw hp_))
            go_roundg k2
            case measure => have := HK1.out; have := HK2.out; omega
            case rel => exact ⟨(ji10), (y523), (wrap64 (x10_1 + 1)), (by first | rfl | (simp; done) | (simp only [← hji10] <;> (first | rfl | simp)) | (simp [*]; done)), fT, H', ⟨by have := HK1.out; have := HK2.out; omega⟩, ⟨qR HO_4⟩, ⟨bT HB⟩⟩
           have c18b0 : decide (0 < (rd x4_2 (ji15))) = false := decide_eq_false c18
           clear c18
           revert H
           refine jm (fun c23b0 c23b1 H => ?_) fun c23 H => ?_
           ·obtain ⟨y524, hy524⟩ : ∃ y_ : List Int, y_ = (x4_2.take ((ji15) : Int).toNat) := ⟨_, rfl⟩
            replace H : (if (ji15) = 0 then (dD.l0 k2 l0 ji10 y524 l0 (l0.length : Int) (wrap64 (x10_1 + 1))) else (dD.l1 k2 l0 ji10 y524 l0 (l0.length : Int) x10_1)) = some r := by first | (rw [hy524]; with_reducible exact H) | (have H2_ := (Option.bind_some _ _).symm.trans H; rw [hy524]; with_reducible exact H2_) | (have H2_ := (Option.bind_some _ _).symm.trans H; with_reducible exact H2_) | with_reducible exact H | (rw [hy524]; exact H) | exact H
            have Ny524 := af.mk hy524
            clear hy524
            revert H
            refine aU (fun c24b0 c24b1 H => ?_) fun c24 c24b0 c24b1 H => ?_
            ·have H' := af.mk H
             clear H
             obtain ⟨Ao25, co25, eo25⟩ := Kd.fG HO_4.out
             subst eo25
             have p521 : 0 ≤ ((ji15) : Int) := of_decide_eq_true aT
             have q521 : (ji15) < (x4_2.length : Int) := of_decide_eq_true aT
             obtain ⟨ad521, e521, hx521_0⟩ := Kd.fO (Kd.dU HO_4.out).2.2 (ji15) p521 q521
             cases e521
             replace p521 := eq_true p521
             replace q521 := eq_true q521
             have q26 : ((ji15) : Int) ≤ ((x4_2.length : Int) : Int) := of_decide_eq_true aT
             obtain ⟨i026, hi026, _, hsz26, _⟩ := info_parts info3
             have hcut26 := Au (P := Tryz.prog) 60 3 .i64 Tryz.underlying60 hi026 (some ad521) x4_2.length co25 (ji15) (of_decide_eq_true aT) q26 (Kd.dU HO_4.out).2.1
             have hr26 := Kd.AB (m := ((ji15) : Int).toNat) HO_4.out (by omega)
             have hy26 : y524.length = ((ji15) : Int).toNat := (by rw [Ny524.out, List.length_take]; omega)
             rw [← Ny524.out] at hr26
             rw [← hy26] at hr26 hcut26
             clear hy26 hi026 hsz26 HO_4
             have HO526 := af.mk hr26
             clear hr26
             replace q26 := eq_true q26
             go_wp2
             go_roundg k2
             case measure => have := HK1.out; have := HK2.out; omega
             case rel => exact ⟨(ji10), (y524), (wrap64 (x10_1 + 1)), (by first | rfl | (simp; done) | (simp only [← hji10] <;> (first | rfl | simp)) | (simp [*]; done)), fT, H', ⟨by have := HK1.out; have := HK2.out; omega⟩, ⟨qR HO526⟩, ⟨bT HB⟩⟩
            have H' := af.mk H
            clear H
            obtain ⟨Ao27, co27, eo27⟩ := Kd.fG HO_4.out
            subst eo27
            have p521 : 0 ≤ ((ji15) : Int) := of_decide_eq_true aT
            have q521 : (ji15) < (x4_2.length : Int) := of_decide_eq_true aT
            obtain ⟨ad521, e521, hx521_0⟩ := Kd.fO (Kd.dU HO_4.out).2.2 (ji15) p521 q521
            cases e521
            replace p521 := eq_true p521
            replace q521 := eq_true q521
            have q28 : ((ji15) : Int) ≤ ((x4_2.length : Int) : Int) := of_decide_eq_true aT
            obtain ⟨i028, hi028, _, hsz28, _⟩ := info_parts info3
            have hcut28 := Au (P := Tryz.prog) 60 3 .i64 Tryz.underlying60 hi028 (some ad521) x4_2.length co27 (ji15) (of_decide_eq_true aT) q28 (Kd.dU HO_4.out).2.1
            have hr28 := Kd.AB (m := ((ji15) : Int).toNat) HO_4.out (by omega)
            have hy28 : y524.length = ((ji15) : Int).toNat := (by rw [Ny524.out, List.length_take]; omega)
            rw [← Ny524.out] at hr28
            rw [← hy28] at hr28 hcut28
            clear hy28 hi028 hsz28 HO_4
            have HO526 := af.mk hr28
            clear hr28
            replace q28 := eq_true q28
            go_wp2
            go_roundg k2
            case measure => have := HK1.out; have := HK2.out; omega
            case rel => exact ⟨(y524), H', ⟨by have := HK1.out; have := HK2.out; omega⟩, ⟨qR HO526⟩, ⟨by exact BK516.out⟩, ⟨bT HB⟩⟩
           exact absurd H (by simp)
          exact absurd H (by simp)
         exact absurd H (by simp)
      exact absurd H (by simp)
     exact absurd H (by simp)
    exact absurd H (by simp)
   obtain rfl := Option.some.inj H
   go_wp2
   go_ret
   exact ⟨eT, bT HB⟩
end Go.Proofs.YtkbhkonenkgfoaaGreat.Q
end
section
set_option linter.unusedVariables false
set_option linter.unusedSimpArgs false
namespace Go.Proofs.YtkbhkonenkgfoaaGreat.Q
open Go.RowKit Go.Proofs.YtkbhkonenkgfoaaGreatW.PrintWords Go.Proofs.YtkbhkonenkgfoaaGreatW.PrintLast Go.Proofs.YtkbhkonenkgfoaaGreatW.PrintMore
structure Fam where
 expr : List S37 → Int → Bool → Option (List S29 × Int × Bool)
 block : List S37 → Int → Bool → Option (List S29 × Int × Bool)
 bound : List S37 → Int → Bool → Int → Option (List S29 × Int × Bool)
 unary : List S37 → Int → Bool → Option (List S29 × Int × Bool)
/-- What a call of the reader's does: nodes are made, the reader goes on. -/
def Reads (f : Nat) (args : Array Value) (g : Nat) (s0 : List S37) (r1 : List S29) (r2 : Int) (r3 : Bool) (w0 w : World) : Prop :=
 Calls Tryz.prog f (#[.pointer (some ⟨g, 0, none⟩)] ++ args) w fun e w' => ∃ v0_ : Value, e = .returned (v0_) ∧ Kd.R k29 29 w' w.heap.size (fun _ => True) v0_ r1 ∧ dn w0 w' g s0 r2 r3 ∧ Below w0.heap.size w0 w' ∧ bY w w' g none
structure l9 (F : Fam) : Prop where
 expr : ∀ g s0 s1 s2 r1 r2 r3 w0 w, dn w0 w g s0 s1 s2 → Below w0.heap.size w0 w → F.expr s0 s1 s2 = some (r1, r2, r3) → Reads 96 #[] g s0 r1 r2 r3 w0 w
 block : ∀ g s0 s1 s2 r1 r2 r3 w0 w, dn w0 w g s0 s1 s2 → Below w0.heap.size w0 w → F.block s0 s1 s2 = some (r1, r2, r3) → Reads 67 #[] g s0 r1 r2 r3 w0 w
 bound : ∀ g s0 s1 s2 a1 r1 r2 r3 w0 w, dn w0 w g s0 s1 s2 → Below w0.heap.size w0 w → F.bound s0 s1 s2 a1 = some (r1, r2, r3) → Reads 102 #[.int .i64 a1] g s0 r1 r2 r3 w0 w
 unary : ∀ g s0 s1 s2 r1 r2 r3 w0 w, dn w0 w g s0 s1 s2 → Below w0.heap.size w0 w → F.unary s0 s1 s2 = some (r1, r2, r3) → Reads 105 #[] g s0 r1 r2 r3 w0 w
structure kS (F F' : Fam) : Prop where
 expr : ∀ a b c, LeO (F.expr a b c) (F'.expr a b c)
 block : ∀ a b c, LeO (F.block a b c) (F'.block a b c)
 bound : ∀ a b c d, LeO (F.bound a b c d) (F'.bound a b c d)
 unary : ∀ a b c, LeO (F.unary a b c) (F'.unary a b c)
def jM.f (F : Fam) (_k : Nat) (s0 : List S37) (s1 : Int) (s2 : Bool) : Option (List S29 × Int × Bool) := F.expr s0 s1 s2
def lT.f (F : Fam) (_k : Nat) (s0 : List S37) (s1 : Int) (s2 : Bool) : Option (List S29 × Int × Bool) := F.block s0 s1 s2
def oW.f (F : Fam) (_k : Nat) (s0 : List S37) (s1 : Int) (s2 : Bool) (a1 : Int) : Option (List S29 × Int × Bool) := F.bound s0 s1 s2 a1
def o9.f (F : Fam) (_k : Nat) (s0 : List S37) (s1 : Int) (s2 : Bool) : Option (List S29 × Int × Bool) := F.unary s0 s1 s2
theorem jM.mono {F F' : Fam} (HLE : kS F F') (a b c) (k : Nat) : LeO (jM.f F k a b c) (jM.f F' (k + 1) a b c) := HLE.expr a b c
theorem lT.mono {F F' : Fam} (HLE : kS F F') (a b c) (k : Nat) : LeO (lT.f F k a b c) (lT.f F' (k + 1) a b c) := HLE.block a b c
theorem oW.mono {F F' : Fam} (HLE : kS F F') (a b c d) (k : Nat) : LeO (oW.f F k a b c d) (oW.f F' (k + 1) a b c d) := HLE.bound a b c d
theorem o9.mono {F F' : Fam} (HLE : kS F F') (a b c) (k : Nat) : LeO (o9.f F k a b c) (o9.f F' (k + 1) a b c) := HLE.unary a b c
theorem jM.calls (F : Fam) (HF : l9 F) (k : Nat) (g : Nat) (s0_0 : List S37) (s0_1 : Int) (s0_2 : Bool) (r1 : List S29) (r2 : Int) (r3 : Bool) (w0 w : World) (hI : dn w0 w g s0_0 s0_1 s0_2) (hB : Below w0.heap.size w0 w) (h : jM.f F k s0_0 s0_1 s0_2 = some (r1, r2, r3)) :
 Calls Tryz.prog 96 #[.pointer (some ⟨g, 0, none⟩)] w fun e w' => ∃ v0_ : Value, e = .returned (v0_) ∧ Kd.R k29 29 w' w.heap.size (fun _ => True) v0_ r1 ∧ dn w0 w' g s0_0 r2 r3 ∧ Below w0.heap.size w0 w' ∧ bY w w' g none := HF.expr g s0_0 s0_1 s0_2 r1 r2 r3 w0 w hI hB h
theorem lT.calls (F : Fam) (HF : l9 F) (k : Nat) (g : Nat) (s0_0 : List S37) (s0_1 : Int) (s0_2 : Bool) (r1 : List S29) (r2 : Int) (r3 : Bool) (w0 w : World) (hI : dn w0 w g s0_0 s0_1 s0_2) (hB : Below w0.heap.size w0 w) (h : lT.f F k s0_0 s0_1 s0_2 = some (r1, r2, r3)) :
 Calls Tryz.prog 67 #[.pointer (some ⟨g, 0, none⟩)] w fun e w' => ∃ v0_ : Value, e = .returned (v0_) ∧ Kd.R k29 29 w' w.heap.size (fun _ => True) v0_ r1 ∧ dn w0 w' g s0_0 r2 r3 ∧ Below w0.heap.size w0 w' ∧ bY w w' g none := HF.block g s0_0 s0_1 s0_2 r1 r2 r3 w0 w hI hB h
theorem o9.calls (F : Fam) (HF : l9 F) (k : Nat) (g : Nat) (s0_0 : List S37) (s0_1 : Int) (s0_2 : Bool) (r1 : List S29) (r2 : Int) (r3 : Bool) (w0 w : World) (hI : dn w0 w g s0_0 s0_1 s0_2) (hB : Below w0.heap.size w0 w) (h : o9.f F k s0_0 s0_1 s0_2 = some (r1, r2, r3)) :
 Calls Tryz.prog 105 #[.pointer (some ⟨g, 0, none⟩)] w fun e w' => ∃ v0_ : Value, e = .returned (v0_) ∧ Kd.R k29 29 w' w.heap.size (fun _ => True) v0_ r1 ∧ dn w0 w' g s0_0 r2 r3 ∧ Below w0.heap.size w0 w' ∧ bY w w' g none := HF.unary g s0_0 s0_1 s0_2 r1 r2 r3 w0 w hI hB h
theorem oW.calls (F : Fam) (HF : l9 F) (k : Nat) (g : Nat) (s0_0 : List S37) (s0_1 : Int) (s0_2 : Bool) (a1 : Int) (r1 : List S29) (r2 : Int) (r3 : Bool) (w0 w : World) (hI : dn w0 w g s0_0 s0_1 s0_2) (hB : Below w0.heap.size w0 w) (h : oW.f F k s0_0 s0_1 s0_2 a1 = some (r1, r2, r3)) :
 Calls Tryz.prog 102 #[.pointer (some ⟨g, 0, none⟩), .int .i64 a1] w fun e w' => ∃ v0_ : Value, e = .returned (v0_) ∧ Kd.R k29 29 w' w.heap.size (fun _ => True) v0_ r1 ∧ dn w0 w' g s0_0 r2 r3 ∧ Below w0.heap.size w0 w' ∧ bY w w' g none := HF.bound g s0_0 s0_1 s0_2 a1 r1 r2 r3 w0 w hI hB h
end Go.Proofs.YtkbhkonenkgfoaaGreat.Q
end
section
set_option linter.unusedVariables false
set_option linter.unusedSimpArgs false
namespace Go.Proofs.YtkbhkonenkgfoaaGreat.Q
open Go.RowKit Go.Proofs.YtkbhkonenkgfoaaGreatW.PrintWords Go.Proofs.YtkbhkonenkgfoaaGreatW.PrintLast Go.Proofs.YtkbhkonenkgfoaaGreatW.PrintMore
def kF.f (s0 : List S37) (s1 : Int) (s2 : Bool) : Option (Int × ByteArray × Int × Int × Bool × Int × Bool) :=
 if s2 = true then some (0, (⟨#[]⟩ : ByteArray), 0, 0, false, s1, s2) else if s1 ≥ (s0.length : Int) then some (0, (⟨#[]⟩ : ByteArray), 0, 0, false, s1, s2)
 else if 0 ≤ s1 then some ((dY s0 s1).f0, (dY s0 s1).f1, (dY s0 s1).f2, (dY s0 s1).f3, true, s1, s2) else none
set_option maxHeartbeats 8000000 in
set_option maxRecDepth 100000 in
theorem kF.calls (g : Nat) (s0_0 : List S37) (s0_1 : Int) (s0_2 : Bool) (r1 : Int) (r2 : ByteArray) (r3 : Int) (r4 : Int) (r5 : Bool) (r6 : Int) (r7 : Bool) (w0 w : World) (hI : dn w0 w g s0_0 s0_1 s0_2) (hB : Below w0.heap.size w0 w) (h : kF.f s0_0 s0_1 s0_2 = some (r1, r2, r3, r4, r5, r6, r7)) :
 Calls Tryz.prog 63 #[.pointer (some ⟨g, 0, none⟩)] w fun e w' => e = .returned (.tuple #[.agg #[.int .i64 r1, .string r2, .int .i64 r3, .int .i64 r4], .bool r5]) ∧ dn w0 w' g s0_0 r6 r7 ∧ Below w0.heap.size w0 w' ∧ bY w w' g none := by
 have HI0 := af.mk hI
 have HB := af.mk hB
 clear hI hB
 unfold kF.f at h
 have HQ := af.mk h
 clear h
 go_enter Tryz.func63, Tryz.ntmps63
 go_upto_region 1 with (first | ((with_reducible refine bH (N := 2) rfl ?_); refine fA ?hg (N := 2) ?hd (cs := #[.int .i64 0, .string (⟨#[]⟩ : ByteArray), .int .i64 0, .int .i64 0]) (t := 37) ?hr ?_; (case hd => rfl); (case hg => rfl); (case hr => first | (go_simp; done) | (go_simp; rfl)); intro gb hg w1 hbox hb; have HI1 := af.mk (HI0.out.below hb); have HB1 := af.mk (aA HB.out hb); have HK1 := af.mk (bY.of_below hb g none); have BX := af.mk hbox; have GB := af.mk (show w.heap.size ≤ gb by rw [hg]; exact Nat.le_refl _); have GW := af.mk (show w0.heap.size ≤ gb by rw [hg]; exact HB.out.size); have GN := af.mk (show gb ≠ g by rw [hg]; exact HI0.out.fresh _ (Nat.le_refl _)); clear hbox hb hg))
 obtain ⟨ASz, cSz, HGz, hgz, HSz⟩ := HI1.out
 have hcz0 := kC HGz
 have hcz1 := kz HGz
 have hcz2 := kw HGz
 clear HGz hgz
 have hcb0 : w1.cell? ⟨gb, 0, none⟩ = some (.int .i64 0) := (ag BX.out 0).trans rfl
 have hcb1 : w1.cell? ⟨gb, 1, none⟩ = some (.string (⟨#[]⟩ : ByteArray)) := (ag BX.out 1).trans rfl
 have hcb2 : w1.cell? ⟨gb, 2, none⟩ = some (.int .i64 0) := (ag BX.out 2).trans rfl
 have hcb3 : w1.cell? ⟨gb, 3, none⟩ = some (.int .i64 0) := (ag BX.out 3).trans rfl
 have hfb0 := ae BX.out 0
 have hfb1 := ae BX.out 1
 have hfb2 := ae BX.out 2
 have hfb3 := ae BX.out 3
 have h := HQ.out
 clear HQ
 by_cases c1 : s0_2 = true
 ·rw [if_pos c1] at h
  subst c1
  cases h
  go_quiet (fail)
  go_wp2
  refine bodyPost_ret (qU rfl _ _ gb 37 #[.int .i64 0, .string (⟨#[]⟩ : ByteArray), .int .i64 0, .int .i64 0] (0, 0) _ rfl (by (with_reducible repeat (first | refine iQ ?_ _ | refine ja ?_)); refine bW (cs := #[.int .i64 0, .string (⟨#[]⟩ : ByteArray), .int .i64 0, .int .i64 0]) ?_ 3 _ rfl; refine bW (cs := #[.int .i64 0, .string (⟨#[]⟩ : ByteArray), .int .i64 0, .int .i64 0]) ?_ 2 _ rfl; refine bW (cs := #[.int .i64 0, .string (⟨#[]⟩ : ByteArray), .int .i64 0, .int .i64 0]) ?_ 1 _ rfl; refine bW (cs := #[.int .i64 0, .string (⟨#[]⟩ : ByteArray), .int .i64 0, .int .i64 0]) ?_ 0 _ rfl; (with_reducible repeat (first | refine iQ ?_ _ | refine ja ?_)); exact BX.out) Tryz.underlying37 rfl (by kernel_rfl)) rfl ?_
  exact ⟨rfl, Z30, Z32, Z33⟩
 have c1' : s0_2 = false := Bool.eq_false_iff.2 c1
 rw [if_neg c1] at h
 subst c1'
 clear c1
 by_cases c2 : s0_1 ≥ (s0_0.length : Int)
 ·rw [if_pos c2] at h
  cases h
  have c2b : decide ((s0_0.length : Int) ≤ s0_1) = true := decide_eq_true c2
  go_quiet (fail)
  go_wp2
  refine bodyPost_ret (qU rfl _ _ gb 37 #[.int .i64 0, .string (⟨#[]⟩ : ByteArray), .int .i64 0, .int .i64 0] (0, 0) _ rfl (by (with_reducible repeat (first | refine iQ ?_ _ | refine ja ?_)); refine bW (cs := #[.int .i64 0, .string (⟨#[]⟩ : ByteArray), .int .i64 0, .int .i64 0]) ?_ 3 _ rfl; refine bW (cs := #[.int .i64 0, .string (⟨#[]⟩ : ByteArray), .int .i64 0, .int .i64 0]) ?_ 2 _ rfl; refine bW (cs := #[.int .i64 0, .string (⟨#[]⟩ : ByteArray), .int .i64 0, .int .i64 0]) ?_ 1 _ rfl; refine bW (cs := #[.int .i64 0, .string (⟨#[]⟩ : ByteArray), .int .i64 0, .int .i64 0]) ?_ 0 _ rfl; (with_reducible repeat (first | refine iQ ?_ _ | refine ja ?_)); exact BX.out) Tryz.underlying37 rfl (by kernel_rfl)) rfl ?_
  exact ⟨rfl, Z30, Z32, Z33⟩
 rw [if_neg c2] at h
 have c2b : decide ((s0_0.length : Int) ≤ s0_1) = false := decide_eq_false c2
 by_cases c3 : 0 ≤ s0_1
 ·rw [if_pos c3] at h
  cases h
  obtain ⟨ad, ead, hx0, hx1, hx2, hx3⟩ := jS HSz s0_1 c3 (by omega)
  cases ead
  replace hx0 := bG HB1.out hx0
  replace hx1 := bG HB1.out hx1
  replace hx2 := bG HB1.out hx2
  replace hx3 := bG HB1.out hx3
  have p3 := eq_true c3
  have q3 := eq_true (show s0_1 < (s0_0.length : Int) by omega)
  clear c2 c3
  go_quiet (fail)
  go_wp2
  go_region
  go_wp2
  refine bodyPost_ret (qU rfl _ _ gb 37 #[.int .i64 (dY s0_0 s0_1).f0, .string (dY s0_0 s0_1).f1, .int .i64 (dY s0_0 s0_1).f2, .int .i64 (dY s0_0 s0_1).f3] (0, 0) _ rfl (by (with_reducible repeat (first | refine iQ ?_ _ | refine ja ?_)); refine bW (cs := #[.int .i64 (dY s0_0 s0_1).f0, .string (dY s0_0 s0_1).f1, .int .i64 (dY s0_0 s0_1).f2, .int .i64 0]) ?_ 3 _ rfl; refine bW (cs := #[.int .i64 (dY s0_0 s0_1).f0, .string (dY s0_0 s0_1).f1, .int .i64 0, .int .i64 0]) ?_ 2 _ rfl; refine bW (cs := #[.int .i64 (dY s0_0 s0_1).f0, .string (⟨#[]⟩ : ByteArray), .int .i64 0, .int .i64 0]) ?_ 1 _ rfl; refine bW (cs := #[.int .i64 0, .string (⟨#[]⟩ : ByteArray), .int .i64 0, .int .i64 0]) ?_ 0 _ rfl; (with_reducible repeat (first | refine iQ ?_ _ | refine ja ?_)); exact BX.out) Tryz.underlying37 rfl (by kernel_rfl)) rfl ?_
  exact ⟨rfl, Z30, Z32, Z33⟩
 rw [if_neg c3] at h
 cases h
end Go.Proofs.YtkbhkonenkgfoaaGreat.Q
end
section
namespace Go.Proofs.YtkbhkonenkgfoaaGreat.Q
open Go.RowKit Go.Proofs.YtkbhkonenkgfoaaGreatW.PrintWords Go.Proofs.YtkbhkonenkgfoaaGreatW.PrintLast Go.Proofs.YtkbhkonenkgfoaaGreatW.PrintMore
attribute [local go_sem] dJ dH dS dR cZ cO dI dG
set_option linter.unusedVariables false
set_option linter.unusedSimpArgs false
-- BY HAND: function 10 (parse_Tree)
-- BY HAND: function 19 (lex_pass)
-- NOT PRINTED: function 44 (lex_head)
/-! ### ig: function 47 -/
def ig.f (a0 : Int) : Option (Bool) := if a0 ≥ 97 then (some (decide (a0 ≤ 122))) else (some false)
set_option maxHeartbeats 8000000 in
set_option maxRecDepth 100000 in
theorem ig.calls (a0 : Int) (r : Bool) (w : World) (h : ig.f a0 = some r) :
 Calls Tryz.prog 47 #[.int .i32 a0] w fun e w' => e = .returned (.bool r) ∧ dZ w w' := by
 have H := h
 clear h
 unfold ig.f at H
 revert H
 refine gU (fun c2 H => ?_) fun c2 H => ?_
 ·have c2b0 : decide (97 ≤ a0) = true := decide_eq_true c2
  clear c2
  obtain rfl := Option.some.inj H
  go_enter Tryz.func47, Tryz.ntmps47
  go_wp2
  go_ret
  exact ⟨fT, Z0⟩
 have c2b0 : decide (97 ≤ a0) = false := decide_eq_false c2
 clear c2
 obtain rfl := Option.some.inj H
 go_enter Tryz.func47, Tryz.ntmps47
 go_wp2
 go_ret
 exact ⟨fT, Z0⟩
/-! ### jw: function 51 -/
def jw.f (a0 : Int) : Option (Bool) := if a0 ≥ 48 then (some (decide (a0 ≤ 57))) else (some false)
set_option maxHeartbeats 8000000 in
set_option maxRecDepth 100000 in
theorem jw.calls (a0 : Int) (r : Bool) (w : World) (h : jw.f a0 = some r) :
 Calls Tryz.prog 51 #[.int .i32 a0] w fun e w' => e = .returned (.bool r) ∧ dZ w w' := by
 have H := h
 clear h
 unfold jw.f at H
 revert H
 refine gU (fun c2 H => ?_) fun c2 H => ?_
 ·have c2b0 : decide (48 ≤ a0) = true := decide_eq_true c2
  clear c2
  obtain rfl := Option.some.inj H
  go_enter Tryz.func51, Tryz.ntmps51
  go_wp2
  go_ret
  exact ⟨fT, Z0⟩
 have c2b0 : decide (48 ≤ a0) = false := decide_eq_false c2
 clear c2
 obtain rfl := Option.some.inj H
 go_enter Tryz.func51, Tryz.ntmps51
 go_wp2
 go_ret
 exact ⟨fT, Z0⟩
/-! ### lex_inner: function 48 -/
/-! ### jY: function 88 -/
def jY.f (a0 : ByteArray) : Option (Bool) := if a0.toList = ([] : List UInt8) then (some false) else (if 0 < (a0.size : Int) then ((ig.f (wrap32 (bt a0 0))).bind fun t103 => (if t103 = true then ((kX.f a0).bind fun t104 => (some ((t104.size : Int) == (a0.size : Int)))) else (some false))) else (none))
set_option maxHeartbeats 8000000 in
set_option maxRecDepth 100000 in
theorem jY.calls (a0 : ByteArray) (r : Bool) (w : World) (h : jY.f a0 = some r) :
 Calls Tryz.prog 88 #[.string a0] w fun e w' => e = .returned (.bool r) ∧ Below w.heap.size w w' := by
 have HB := af.mk (Below.refl w.heap.size w)
 have H := h
 clear h
 unfold jY.f at H
 revert H
 refine aU (fun c2b0 c2b1 H => ?_) fun c2 c2b0 c2b1 H => ?_
 ·obtain rfl := Option.some.inj H
  go_enter Tryz.func88, Tryz.ntmps88
  go_wp2
  go_ret
  exact ⟨eT, bT HB⟩
 revert H
 refine kP (fun c3 c3b0 H => ?_) fun c3 H => ?_
 ·have c3b1 : decide (0 < a0.size) = true := decide_eq_true (by omega)
  clear c3
  revert H
  refine yB1 fun t103 A5 H => ?_
  cases t103
  rotate_left
  ·replace H := yT H
   revert H
   refine yB1 fun t104 A7 H => ?_
   obtain rfl := Option.some.inj H
   have p4 : 0 ≤ (0 : Int) := (by omega)
   have q4 : 0 < a0.size := (by have : (0 : Int) < (a0.size : Int) := of_decide_eq_true aT; omega)
   have hx4 : ∀ h : 0 < a0.size, ((a0[0]'h).toNat : Int) = bt a0 0 := jr a0 0
   clear p4
   have qi4 : (0 < (a0.size : Int)) = True := eq_true (of_decide_eq_true aT)
   replace q4 := eq_true q4
   go_enter Tryz.func88, Tryz.ntmps88
   go_wp2_with (first | (go_at_call 47; (with_reducible refine (ig.calls (wrap32 (bt a0 0)) true _ A5.out).mono ?_); rintro e w' ⟨rfl, ⟨nd, rfl⟩⟩) | (go_at_call 44; (with_reducible refine (kX.calls a0 t104 _ A7.out).mono ?_); rintro e w8 ⟨rfl, hb⟩; refine yA1 (aA (bT HB) hb) ?_; clear HB; intro HB; (try clear hb)))
   go_ret
   exact ⟨eT, bT HB⟩
  replace H := yF H
  obtain rfl := Option.some.inj H
  have p4 : 0 ≤ (0 : Int) := (by omega)
  have q4 : 0 < a0.size := (by have : (0 : Int) < (a0.size : Int) := of_decide_eq_true aT; omega)
  have hx4 : ∀ h : 0 < a0.size, ((a0[0]'h).toNat : Int) = bt a0 0 := jr a0 0
  clear p4
  have qi4 : (0 < (a0.size : Int)) = True := eq_true (of_decide_eq_true aT)
  replace q4 := eq_true q4
  go_enter Tryz.func88, Tryz.ntmps88
  go_wp2_with (first | (go_at_call 47; (with_reducible refine (ig.calls (wrap32 (bt a0 0)) false _ A5.out).mono ?_); rintro e w' ⟨rfl, ⟨nd, rfl⟩⟩))
  go_ret
  exact ⟨eT, bT HB⟩
 exact absurd H (by simp)
/-! ### dW: function 89 -/
def dW.l0 : Nat → ByteArray → ByteArray → Int → Option (Bool)
 | 0, _, _, _ => none
 | k + 1, x0, x1, x5 => if (wrap64 (x5 + (x1.size : Int))) ≤ (x0.size : Int) then (if 0 ≤ x5 then (if x5 ≤ (wrap64 (x5 + (x1.size : Int))) then (if (x0.extract (x5 : Int).toNat ((wrap64 (x5 + (x1.size : Int))) : Int).toNat).toList = x1.toList then (some true) else (dW.l0 k x0 x1 (wrap64 (x5 + 1)))) else (none)) else (none)) else (some false)
def dW.f (k : Nat) (a0 : ByteArray) (a1 : ByteArray) : Option (Bool) := dW.l0 k a0 a1 0
theorem dW.bZ : ∀ k, (∀ y0 y1 y2, LeO (dW.l0 k y0 y1 y2) (dW.l0 (k + 1) y0 y1 y2))
 | 0 => fun _ _ _ r h => by simp [dW.l0] at h
 | k + 1 => by
  have ih0 := dW.bZ k
  intro y0 y1 y2
  unfold dW.l0
  exact yL
theorem dW.mono : ∀ a0 a1 k, LeO (dW.f k a0 a1) (dW.f (k + 1) a0 a1) := by
 intro a0 a1 k
 have ih0 := dW.bZ k
 unfold dW.f
 exact yL
set_option maxHeartbeats 8000000 in
set_option maxRecDepth 100000 in
theorem dW.calls (k : Nat) (a0 : ByteArray) (a1 : ByteArray) (r : Bool) (w : World) (h : dW.f k a0 a1 = some r) :
 Calls Tryz.prog 89 #[.string a0, .string a1] w fun e w' => e = .returned (.bool r) ∧ dZ w w' := by
 have H := h
 clear h
 unfold dW.f at H
 have H' := af.mk H
 clear H
 go_enter Tryz.func89, Tryz.ntmps89
 go_wp2
 go_loopg [5] k (fun kq v5 w' => ∃ (x5_1 : Int), v5 = .int .i64 x5_1 ∧ af (dW.l0 kq a0 a1 x5_1 = some r) ∧ af (kq ≤ k) ∧ dZ w w')
 case atStart => exact ⟨(0), fT, H', ⟨Nat.le_refl _⟩, Z0⟩
 case round =>
  clear H'
  try clear p2
  obtain ⟨x5_1, rfl, HA, HK1, ⟨m1, rfl⟩⟩ := hrel
  cases gk with
  | zero => exact absurd HA.out (by simp [dW.l0])
  | succ k1 =>
   have H := HA.out
   clear HA
   simp only [dW.l0] at H
   revert H
   refine iR (fun c3b0 H => ?_) fun c3b0 H => ?_
   ·revert H
    refine jm (fun c4b0 c4b1 H => ?_) fun c4 H => ?_
    ·revert H
     refine oz (fun c5 c5b0 c5b1 H => ?_) fun c5 H => ?_
     ·have c6b0 := eq_true (of_decide_eq_true aT : (wrap64 (x5_1 + (a1.size : Int))) ≤ (a0.size : Int))
      revert H
      refine aU (fun c7b0 c7b1 H => ?_) fun c7 c7b0 c7b1 H => ?_
      ·obtain rfl := Option.some.inj H
       go_wp2
       go_ret
       exact ⟨fT, Z0⟩
      have H' := af.mk H
      clear H
      go_wp2
      go_roundg k1
      case measure => have := HK1.out; omega
      case rel => exact ⟨(wrap64 (x5_1 + 1)), fT, H', ⟨by have := HK1.out; omega⟩, Z0⟩
     exact absurd H (by simp)
    exact absurd H (by simp)
   obtain rfl := Option.some.inj H
   go_wp2
   go_ret
   exact ⟨fT, Z0⟩
end Go.Proofs.YtkbhkonenkgfoaaGreat.Q
end
section
namespace Go.Proofs.YtkbhkonenkgfoaaGreat.Q
open Go.RowKit Go.Proofs.YtkbhkonenkgfoaaGreatW.PrintWords Go.Proofs.YtkbhkonenkgfoaaGreatW.PrintLast Go.Proofs.YtkbhkonenkgfoaaGreatW.PrintMore
attribute [local go_sem] dJ dH dS dR cZ cO dI dG
set_option linter.unusedVariables false
set_option linter.unusedSimpArgs false
/-! ### jG: function 49 -/
def jG.f (k : Nat) (a0 : ByteArray) : Option (Bool) := (jY.f a0).bind fun t105 => (if t105 = true then (if 1 + a0.size ≤ 9223372036854775807 then (if ((⟨#[32]⟩ : ByteArray) ++ a0).size + 1 ≤ 9223372036854775807 then ((dW.f k (⟨#[32, 109, 111, 100, 117, 108, 101, 32, 117, 115, 101, 32, 102, 110, 32, 108, 101, 116, 32, 105, 102, 32, 101, 108, 115, 101, 32, 119, 104, 105, 108, 101, 32, 98, 114, 101, 97, 107, 32, 99, 111, 110, 116, 105, 110, 117, 101, 32, 114, 101, 116, 117, 114, 110, 32, 112, 117, 116, 32, 101, 109, 105, 116, 32, 121, 105, 101, 108, 100, 32, 110, 105, 108, 32, 115, 116, 97, 116, 101, 32, 115, 112, 97, 119, 110, 32, 108, 101, 110, 32, 110, 111, 116, 32, 97, 110, 100, 32, 111, 114, 32]⟩ : ByteArray) (((⟨#[32]⟩ : ByteArray) ++ a0) ++ (⟨#[32]⟩ : ByteArray))).bind fun t106 => (some t106)) else (none)) else (none)) else (some false))
theorem jG.mono : ∀ a0 k, LeO (jG.f k a0) (jG.f (k + 1) a0) := by
 intro a0 k
 unfold jG.f
 have m0 := dW.mono
 exact yL
set_option maxHeartbeats 8000000 in
set_option maxRecDepth 100000 in
theorem jG.calls (k : Nat) (a0 : ByteArray) (r : Bool) (w : World) (h : jG.f k a0 = some r) :
 Calls Tryz.prog 49 #[.string a0] w fun e w' => e = .returned (.bool r) ∧ Below w.heap.size w w' := by
 have HB := af.mk (Below.refl w.heap.size w)
 have H := h
 clear h
 unfold jG.f at H
 revert H
 refine yB1 fun t105 A2 H => ?_
 cases t105
 rotate_left
 ·replace H := yT H
  revert H
  refine oz (fun c4 c4b0 c4b1 H => ?_) fun c4 H => ?_
  ·try have c4b2 : (9223372036854775807 < 1 + a0.size) = False := eq_false (Nat.not_lt.2 c4)
   revert H
   refine oz (fun c5 c5b0 c5b1 H => ?_) fun c5 H => ?_
   ·have c5s := c5
    simp only [ByteArray.size_append, show ((⟨#[32]⟩ : ByteArray)).size = 1 from rfl] at c5s
    have c5t := eq_true c5s
    have c5u := eq_false (Nat.not_lt.2 c5s)
    clear c5s
    try have c5b2 : (9223372036854775807 < ((⟨#[32]⟩ : ByteArray) ++ a0).size + 1) = False := eq_false (Nat.not_lt.2 c5)
    revert H
    refine yB1 fun t106 A6 H => ?_
    obtain rfl := Option.some.inj H
    go_enter Tryz.func49, Tryz.ntmps49
    go_wp2_with (first | ((with_reducible refine gC 88 rfl ?_); refine gM 88 4 rfl Tryz.func88 (jY.calls a0 true _ A2.out) ?_; rintro _ w7 ⟨rfl, hb⟩; refine ⟨_, rfl, yA1 (aA (bT HB) hb) ?_⟩; clear HB hb; intro HB) | (go_at_call 89; (with_reducible refine (dW.calls k (⟨#[32, 109, 111, 100, 117, 108, 101, 32, 117, 115, 101, 32, 102, 110, 32, 108, 101, 116, 32, 105, 102, 32, 101, 108, 115, 101, 32, 119, 104, 105, 108, 101, 32, 98, 114, 101, 97, 107, 32, 99, 111, 110, 116, 105, 110, 117, 101, 32, 114, 101, 116, 117, 114, 110, 32, 112, 117, 116, 32, 101, 109, 105, 116, 32, 121, 105, 101, 108, 100, 32, 110, 105, 108, 32, 115, 116, 97, 116, 101, 32, 115, 112, 97, 119, 110, 32, 108, 101, 110, 32, 110, 111, 116, 32, 97, 110, 100, 32, 111, 114, 32]⟩ : ByteArray) (((⟨#[32]⟩ : ByteArray) ++ a0) ++ (⟨#[32]⟩ : ByteArray)) t106 _ A6.out).mono ?_); rintro e w' ⟨rfl, ⟨nd, rfl⟩⟩))
    go_ret
    exact ⟨eT, bT HB⟩
   exact absurd H (by simp)
  exact absurd H (by simp)
 replace H := yF H
 obtain rfl := Option.some.inj H
 go_enter Tryz.func49, Tryz.ntmps49
 go_wp2_with (first | ((with_reducible refine gC 88 rfl ?_); refine gM 88 4 rfl Tryz.func88 (jY.calls a0 false _ A2.out) ?_; rintro _ w8 ⟨rfl, hb⟩; refine ⟨_, rfl, yA1 (aA (bT HB) hb) ?_⟩; clear HB hb; intro HB))
 go_ret
 exact ⟨eT, bT HB⟩
/-! ### iy: function 50 -/
def iy.f (k : Nat) (a0 : ByteArray) : Option (Bool) := (jY.f a0).bind fun t107 => (if t107 = true then (if (a0.size : Int) ≤ 16 then ((jG.f k a0).bind fun t108 => (some (!t108))) else (some false)) else (some false))
theorem iy.mono : ∀ a0 k, LeO (iy.f k a0) (iy.f (k + 1) a0) := by
 intro a0 k
 unfold iy.f
 have m0 := jG.mono
 exact yL
set_option maxHeartbeats 8000000 in
set_option maxRecDepth 100000 in
theorem iy.calls (k : Nat) (a0 : ByteArray) (r : Bool) (w : World) (h : iy.f k a0 = some r) :
 Calls Tryz.prog 50 #[.string a0] w fun e w' => e = .returned (.bool r) ∧ Below w.heap.size w w' := by
 have HB := af.mk (Below.refl w.heap.size w)
 have H := h
 clear h
 unfold iy.f at H
 revert H
 refine yB1 fun t107 A2 H => ?_
 cases t107
 rotate_left
 ·replace H := yT H
  revert H
  refine qF (fun c4 c4b0 H => ?_) fun c4 c4b0 H => ?_
  ·have c4b1 : decide (a0.size ≤ 16) = true := decide_eq_true (by omega)
   clear c4
   revert H
   refine yB1 fun t108 A5 H => ?_
   obtain rfl := Option.some.inj H
   go_enter Tryz.func50, Tryz.ntmps50
   go_wp2_with (first | ((with_reducible refine gC 88 rfl ?_); refine gM 88 4 rfl Tryz.func88 (jY.calls a0 true _ A2.out) ?_; rintro _ w6 ⟨rfl, hb⟩; refine ⟨_, rfl, yA1 (aA (bT HB) hb) ?_⟩; clear HB hb; intro HB) | (go_at_call 49; (with_reducible refine (jG.calls k a0 t108 _ A5.out).mono ?_); rintro e w7 ⟨rfl, hb⟩; refine yA1 (aA (bT HB) hb) ?_; clear HB; intro HB; (try clear hb)))
   go_ret
   exact ⟨eT, bT HB⟩
  have c4b1 : decide (a0.size ≤ 16) = false := decide_eq_false (by omega)
  clear c4
  obtain rfl := Option.some.inj H
  go_enter Tryz.func50, Tryz.ntmps50
  go_wp2_with (first | ((with_reducible refine gC 88 rfl ?_); refine gM 88 4 rfl Tryz.func88 (jY.calls a0 true _ A2.out) ?_; rintro _ w8 ⟨rfl, hb⟩; refine ⟨_, rfl, yA1 (aA (bT HB) hb) ?_⟩; clear HB hb; intro HB))
  go_ret
  exact ⟨eT, bT HB⟩
 replace H := yF H
 obtain rfl := Option.some.inj H
 go_enter Tryz.func50, Tryz.ntmps50
 go_wp2_with (first | ((with_reducible refine gC 88 rfl ?_); refine gM 88 4 rfl Tryz.func88 (jY.calls a0 false _ A2.out) ?_; rintro _ w9 ⟨rfl, hb⟩; refine ⟨_, rfl, yA1 (aA (bT HB) hb) ?_⟩; clear HB hb; intro HB))
 go_ret
 exact ⟨eT, bT HB⟩
end Go.Proofs.YtkbhkonenkgfoaaGreat.Q
end
section
namespace Go.Proofs.YtkbhkonenkgfoaaGreat.Q
open Go.RowKit Go.Proofs.YtkbhkonenkgfoaaGreatW.PrintWords Go.Proofs.YtkbhkonenkgfoaaGreatW.PrintLast Go.Proofs.YtkbhkonenkgfoaaGreatW.PrintMore
attribute [local go_sem] dJ dH dS dR cZ cO dI dG
set_option linter.unusedVariables false
set_option linter.unusedSimpArgs false
/-! ### eu: function 52 -/
mutual
def eu.j0 : Nat → ByteArray → Bool → Option (Int × Bool)
 | 0, _, _ => none
 | k + 1, x0, x18 => if x18 = true then (some (0, false)) else (eu.l0 k x0 0 (x0.size : Int) 0)
def eu.l0 : Nat → ByteArray → Int → Int → Int → Option (Int × Bool)
 | 0, _, _, _, _ => none
 | k + 1, x0, x4, x20, x21 => if x21 < x20 then (if 0 ≤ x21 then (if x21 < (x0.size : Int) then (eu.l0 k x0 (IntKind.u64.wrap ((IntKind.u64.wrap (10 * x4)) + (((bt x0 x21) - 48) % 256))) x20 (wrap64 (x21 + 1))) else (none)) else (none)) else (some (wrap64 (x4), ((x4 / 9223372036854775808) == 0)))
end
def eu.f (k : Nat) (a0 : ByteArray) : Option (Int × Bool) := if (a0.size : Int) > 19 then (eu.j0 k a0 true) else (if (a0.size : Int) > 1 then (if 0 < (a0.size : Int) then (eu.j0 k a0 ((bt a0 0) == 48)) else (none)) else (eu.j0 k a0 false))
theorem eu.bZ : ∀ k, (∀ y0 y1, LeO (eu.j0 k y0 y1) (eu.j0 (k + 1) y0 y1)) ∧ (∀ y0 y1 y2 y3, LeO (eu.l0 k y0 y1 y2 y3) (eu.l0 (k + 1) y0 y1 y2 y3))
 | 0 => ⟨fun _ _ r h => by simp [eu.j0] at h, fun _ _ _ _ r h => by simp [eu.l0] at h⟩
 | k + 1 => by
  obtain ⟨ih0, ih1⟩ := eu.bZ k
  refine ⟨?_, ?_⟩
  ·intro y0 y1
   unfold eu.j0
   exact yL
  intro y0 y1 y2 y3
  unfold eu.l0
  exact yL
theorem eu.mono : ∀ a0 k, LeO (eu.f k a0) (eu.f (k + 1) a0) := by
 intro a0 k
 obtain ⟨ih0, ih1⟩ := eu.bZ k
 unfold eu.f
 exact yL
set_option maxHeartbeats 8000000 in
set_option maxRecDepth 100000 in
theorem eu.calls (k : Nat) (a0 : ByteArray) (r1 : Int) (r2 : Bool) (w : World) (h : eu.f k a0 = some (r1, r2)) :
 Calls Tryz.prog 52 #[.string a0] w fun e w' => e = .returned (.tuple #[.int .i64 r1, .bool r2]) ∧ dZ w w' := by
 have H := h
 clear h
 unfold eu.f at H
 have HC2 := af.mk H
 clear H
 go_enter Tryz.func52, Tryz.ntmps52
 go_upto_region 1 with (fail)
 go_cut [18] (fun v18 wc => ∃ (kq : Nat) (x18_1 : Bool), v18 = .bool x18_1 ∧ af (eu.j0 kq a0 x18_1 = some (r1, r2)) ∧ af (kq ≤ k) ∧ dZ w wc)
 case first =>
  have H := HC2.out
  clear HC2
  revert H
  refine gU (fun c3 H => ?_) fun c3 H => ?_
  ·have c3b0 : decide (19 < (a0.size : Int)) = true := decide_eq_true c3
   have c3b1 : decide (19 < a0.size) = true := decide_eq_true (by omega)
   clear c3
   (first | rw [c3b0] | (simp only [fP, gG]; rw [c3b0]) | skip)
   have H' := af.mk H
   clear H
   go_wp2
   go_meet
   case rel => exact ⟨_, (true), fT, H', ⟨Z11⟩, Z0⟩
  have c3b0 : decide (19 < (a0.size : Int)) = false := decide_eq_false c3
  have c3b1 : decide (19 < a0.size) = false := decide_eq_false (by omega)
  clear c3
  (first | rw [c3b0] | (simp only [fP, gG]; rw [c3b0]) | skip)
  revert H
  refine gU (fun c4 H => ?_) fun c4 H => ?_
  ·have c4b0 : decide (1 < (a0.size : Int)) = true := decide_eq_true c4
   have c4b1 : decide (1 < a0.size) = true := decide_eq_true (by omega)
   clear c4
   revert H
   refine kP (fun c5 c5b0 H => ?_) fun c5 H => ?_
   ·have c5b1 : decide (0 < a0.size) = true := decide_eq_true (by omega)
    clear c5
    have H' := af.mk H
    clear H
    have p6 : 0 ≤ (0 : Int) := (by omega)
    have q6 : 0 < a0.size := (by have : (0 : Int) < (a0.size : Int) := of_decide_eq_true aT; omega)
    have hx6 : ∀ h : 0 < a0.size, ((a0[0]'h).toNat : Int) = bt a0 0 := jr a0 0
    clear p6
    have qi6 : (0 < (a0.size : Int)) = True := eq_true (of_decide_eq_true aT)
    replace q6 := eq_true q6
    go_wp2
    go_meet
    case rel => exact ⟨_, (((bt a0 0) == 48)), fT, H', ⟨Z11⟩, Z0⟩
   exact absurd H (by simp)
  have c4b0 : decide (1 < (a0.size : Int)) = false := decide_eq_false c4
  have c4b1 : decide (1 < a0.size) = false := decide_eq_false (by omega)
  clear c4
  have H' := af.mk H
  clear H
  go_wp2
  go_meet
  case rel => exact ⟨_, (false), fT, H', ⟨Z11⟩, Z0⟩
 case rest =>
  clear HC2
  try clear p2
  try clear c3
  try clear c3b0
  try clear c3b1
  try clear c4
  try clear c4b0
  try clear c4b1
  try clear c5
  try clear c5b0
  try clear c5b1
  try clear p6
  try clear q6
  try clear hx6
  try clear qi6
  try clear p6
  try clear q6
  obtain ⟨kq, x18_1, rfl, HA, HJ1, ⟨mc1, rfl⟩⟩ := hcut
  cases kq with
  | zero => exact absurd HA.out (by simp [eu.j0])
  | succ kj1 =>
   have H := HA.out
   clear HA
   simp only [eu.j0] at H
   cases x18_1
   rotate_left
   ·replace H := yT H
    simp only [Option.some.injEq, Prod.mk.injEq] at H
    obtain ⟨rfl, rfl⟩ := H
    go_wp2
    go_ret2
    exact ⟨fT, Z0⟩
   replace H := yF H
   have H' := af.mk H
   clear H
   go_wp2
   go_loopg [4, 21] kj1 (fun kq v4 v21 w' => ∃ (x4_2 : Int) (x21_2 : Int), v4 = .int .u64 x4_2 ∧ v21 = .int .i64 x21_2 ∧ af (eu.l0 kq a0 x4_2 (a0.size : Int) x21_2 = some (r1, r2)) ∧ af (kq ≤ kj1) ∧ dZ w w')
   case atStart => exact ⟨(0), (0), fT, fT, H', ⟨Nat.le_refl _⟩, Z0⟩
   case round =>
    clear H'
    try clear c1
    try clear p2
    try clear c3
    try clear c3b0
    try clear c3b1
    try clear c4
    try clear c4b0
    try clear c4b1
    try clear c5
    try clear c5b0
    try clear c5b1
    try clear p6
    try clear q6
    try clear hx6
    try clear qi6
    try clear c7
    try clear p2
    try clear p6
    try clear q6
    obtain ⟨x4_2, x21_2, rfl, rfl, HA, HK2, ⟨m2, rfl⟩⟩ := hrel
    cases gk with
    | zero => exact absurd HA.out (by simp [eu.l0])
    | succ k2 =>
     have H := HA.out
     clear HA
     simp only [eu.l0] at H
     revert H
     refine iR (fun c8b0 H => ?_) fun c8b0 H => ?_
     ·revert H
      refine gB (fun c9b0 H => ?_) fun c9 H => ?_
      ·revert H
       refine gB (fun c10b0 H => ?_) fun c10 H => ?_
       ·have H' := af.mk H
        clear H
        have p11 : 0 ≤ (x21_2 : Int) := of_decide_eq_true aT
        have q11 : x21_2 < (a0.size : Int) := of_decide_eq_true aT
        have hx11 := jr a0 x21_2
        replace p11 := eq_true p11
        replace q11 := eq_true q11
        go_wp2
        go_roundg k2
        case measure => have := HJ1.out; have := HK2.out; omega
        case rel => exact ⟨(IntKind.u64.wrap ((IntKind.u64.wrap (10 * x4_2)) + (((bt a0 x21_2) - 48) % 256))), (wrap64 (x21_2 + 1)), fT, fT, H', ⟨by have := HJ1.out; have := HK2.out; omega⟩, Z0⟩
       exact absurd H (by simp)
      exact absurd H (by simp)
     simp only [Option.some.injEq, Prod.mk.injEq] at H
     obtain ⟨rfl, rfl⟩ := H
     go_wp2
     go_ret2
     exact ⟨fT, Z0⟩
/-! ### lJ: function 90 -/
def lJ.f (a0 : Int) : Option (Int × Bool) := if a0 = 110 then (some (10, true)) else (if a0 = 34 then (some (a0, true)) else (if a0 = 92 then (some (a0, true)) else (some (0, false))))
set_option maxHeartbeats 8000000 in
set_option maxRecDepth 100000 in
theorem lJ.calls (a0 : Int) (r1 : Int) (r2 : Bool) (w : World) (h : lJ.f a0 = some (r1, r2)) :
 Calls Tryz.prog 90 #[.int .u8 a0] w fun e w' => e = .returned (.tuple #[.int .u8 r1, .bool r2]) ∧ dZ w w' := by
 have H := h
 clear h
 unfold lJ.f at H
 revert H
 refine aU (fun c2b0 c2b1 H => ?_) fun c2 c2b0 c2b1 H => ?_
 ·simp only [Option.some.injEq, Prod.mk.injEq] at H
  obtain ⟨rfl, rfl⟩ := H
  go_enter Tryz.func90, Tryz.ntmps90
  go_wp2
  go_ret2
  exact ⟨fT, Z0⟩
 revert H
 refine aU (fun c3b0 c3b1 H => ?_) fun c3 c3b0 c3b1 H => ?_
 ·simp only [Option.some.injEq, Prod.mk.injEq] at H
  obtain ⟨rfl, rfl⟩ := H
  go_enter Tryz.func90, Tryz.ntmps90
  go_wp2
  go_ret2
  exact ⟨fT, Z0⟩
 revert H
 refine aU (fun c4b0 c4b1 H => ?_) fun c4 c4b0 c4b1 H => ?_
 ·simp only [Option.some.injEq, Prod.mk.injEq] at H
  obtain ⟨rfl, rfl⟩ := H
  go_enter Tryz.func90, Tryz.ntmps90
  go_wp2
  go_ret2
  exact ⟨fT, Z0⟩
 simp only [Option.some.injEq, Prod.mk.injEq] at H
 obtain ⟨rfl, rfl⟩ := H
 go_enter Tryz.func90, Tryz.ntmps90
 go_wp2
 go_ret2
 exact ⟨fT, Z0⟩
end Go.Proofs.YtkbhkonenkgfoaaGreat.Q
end
