/- Walks over functions of the program, words for them, and what the functions come to; of each text only what this claim uses; no condition. -/
import Derived.Test.YtlenihbmafkegaaZSA0
import Derived.Test.YtlenihbmafkegaaZSA1
import Derived.Test.YtlenihbmafkegaaZSA2
import Derived.Test.YtlenihbmafkegaaProg
import Derived.Below
import Derived.Deep.Draws
import Derived.Deep.AppendLies
import Derived.Maps.AppendAt
import Derived.OwnWalk
import Derived.Laws.BytesArg
import Derived.Laws.MakeOwn
import Derived.Laws.OwnMore
import Derived.Deep.OwnRows
import Derived.Tactics
import Derived.Lib.ConvBytes
import Derived.Laws.Slices
import Derived.WalkKit
import Derived.KernelRfl
import Derived.RowKit3
import Derived.Deep.LoopGhost
import Derived.Deep.QuietTactic
import Derived.BigQuiet
import Derived.WideLaws
import Derived.Deep.DeepCutAuto
import Derived.Deep.CutBlock
import Derived.Deep.RegionHeld3
import Derived.Laws.Rows
import Derived.Lib.AppendStr
import Derived.ArgAppend
import Derived.Laws.IdiomCopy
import Derived.OrdersHeld
import Derived.Laws.BitsLemmas
import Derived.RowKit
import Derived.Deep.RegionLaw
import Derived.Lib.Hide
import Derived.LoopTactic
import Derived.Deep.WholeRow
section
namespace Go.Proofs.Ytlenihbmafkegaa.Q
open Go.RowKit Go.Proofs.YtlenihbmafkegaaW.PrintWords Go.Proofs.YtlenihbmafkegaaW.PrintLast Go.Proofs.YtlenihbmafkegaaW.PrintMore
attribute [local go_sem] dC dA dP dO cZ cO dB dw
set_option linter.unusedVariables false
set_option linter.unusedSimpArgs false
def Oa : Option Int → Value
 | none => .nilIface
 | some c => .iface 0 (.int .i64 c)
theorem jl : Oa none = .nilIface := rfl
theorem jk (c : Int) : Oa (some c) = .iface 0 (.int .i64 c) := rfl
theorem info3 : (Try.prog.info? 3).map (fun i => (i.zero, i.size, i.bytes)) = some (some (.int .i64 0), 1, 8) := by kernel_rfl
theorem info5 : (Try.prog.info? 5).map (fun i => (i.zero, i.size, i.bytes)) = some (some (.int .u8 0), 1, 1) := by kernel_rfl
theorem info22 : (Try.prog.info? 22).map (fun i => (i.zero, i.size, i.bytes)) = some (some (.slice none 0 0), 1, 24) := by kernel_rfl
theorem yO : (Try.prog.info? 40).map (fun i => (i.zero, i.size, i.bytes)) = some (some (.agg #[(.int .i64 0), (.int .i64 0), (.string ⟨#[]⟩), (.int .i64 0), (.string ⟨#[]⟩)]), 5, 56) := by kernel_rfl
theorem yN : (Try.prog.info? 56).map (fun i => (i.zero, i.size, i.bytes)) = some (some (.agg #[(.int .i64 0), (.string ⟨#[]⟩), (.int .i64 0), (.int .i64 0)]), 4, 40) := by kernel_rfl
-- the values' own types
/-! #### struct type 40 -/
structure S40 where
 f0 : Int
 f1 : Int
 f2 : ByteArray
 f3 : Int
 f4 : ByteArray
def z40 : S40 := ⟨(0 : Int), (0 : Int), (⟨#[]⟩ : ByteArray), (0 : Int), (⟨#[]⟩ : ByteArray)⟩
def k40 : Kd S40 := Kd.iso (Kd.pair (Kd.int .i64) (Kd.pair (Kd.int .i64) (Kd.pair Kd.string (Kd.pair (Kd.int .i64) Kd.string)))) (fun x : S40 => (x.f0, x.f1, x.f2, x.f3, x.f4))
theorem Af {w : World} {x : S40} {cs : List Value} (h : k40.K w x cs) : cs = [.int .i64 x.f0, .int .i64 x.f1, .string x.f2, .int .i64 x.f3, .string x.f4] := by
 obtain ⟨_, _, rfl, rfl, ⟨_, _, rfl, rfl, ⟨_, _, rfl, rfl, ⟨_, _, rfl, rfl, rfl⟩⟩⟩⟩ := h
 exact rfl
theorem tu (w : World) (base : Nat) (ok : Nat → Prop) (x : S40)  : k40.M w base ok x [.int .i64 x.f0, .int .i64 x.f1, .string x.f2, .int .i64 x.f3, .string x.f4] := ⟨[.int .i64 x.f0], [.int .i64 x.f1, .string x.f2, .int .i64 x.f3, .string x.f4], rfl, rfl, ⟨[.int .i64 x.f1], [.string x.f2, .int .i64 x.f3, .string x.f4], rfl, rfl, ⟨[.string x.f2], [.int .i64 x.f3, .string x.f4], rfl, rfl, ⟨[.int .i64 x.f3], [.string x.f4], rfl, rfl, rfl⟩⟩⟩⟩
def au (xs : List S40) (i : Int) : S40 := xs.getD i.toNat z40
theorem kF {w : World} {A : Option Addr} {n : Nat} {xs : List S40} (h : Kd.C k40 w A n xs) (i : Int) (h0 : 0 ≤ i) (h1 : i < n) : ∃ ad , A = some ad ∧ w.cell? (ad.add (i.toNat * 5)) = some (.int .i64 (au xs i).f0) ∧ w.cell? ⟨(ad.add (i.toNat * 5)).block, (ad.add (i.toNat * 5)).off + 1, none⟩ = some (.int .i64 (au xs i).f1) ∧ w.cell? ⟨(ad.add (i.toNat * 5)).block, (ad.add (i.toNat * 5)).off + 2, none⟩ = some (.string (au xs i).f2) ∧ w.cell? ⟨(ad.add (i.toNat * 5)).block, (ad.add (i.toNat * 5)).off + 3, none⟩ = some (.int .i64 (au xs i).f3) ∧ w.cell? ⟨(ad.add (i.toNat * 5)).block, (ad.add (i.toNat * 5)).off + 4, none⟩ = some (.string (au xs i).f4) := by
 obtain ⟨ad, c, e, _, hK, hc0⟩ := Kd.yf h z40 i h0 h1
 have hc : ∀ j u, c[j]? = some u → w.cell? (ad.add (i.toNat * 5 + j)) = some u := hc0
 obtain rfl := Af hK
 exact ⟨ad, e, hc 0 _ rfl, by rw [← lL _ _ 1 (by omega)]; exact hc 1 _ rfl, by rw [← lL _ _ 2 (by omega)]; exact hc 2 _ rfl, by rw [← lL _ _ 3 (by omega)]; exact hc 3 _ rfl, by rw [← lL _ _ 4 (by omega)]; exact hc 4 _ rfl⟩
/-! #### struct type 56 -/
structure S56 where
 f0 : Int
 f1 : ByteArray
 f2 : Int
 f3 : Int
def z56 : S56 := ⟨(0 : Int), (⟨#[]⟩ : ByteArray), (0 : Int), (0 : Int)⟩
def k56 : Kd S56 := Kd.iso (Kd.pair (Kd.int .i64) (Kd.pair Kd.string (Kd.pair (Kd.int .i64) (Kd.int .i64)))) (fun x : S56 => (x.f0, x.f1, x.f2, x.f3))
theorem Ha {w : World} {x : S56} {cs : List Value} (h : k56.K w x cs) : cs = [.int .i64 x.f0, .string x.f1, .int .i64 x.f2, .int .i64 x.f3] := by
 obtain ⟨_, _, rfl, rfl, ⟨_, _, rfl, rfl, ⟨_, _, rfl, rfl, rfl⟩⟩⟩ := h
 exact rfl
theorem yJ (w : World) (base : Nat) (ok : Nat → Prop) (x : S56)  : k56.M w base ok x [.int .i64 x.f0, .string x.f1, .int .i64 x.f2, .int .i64 x.f3] := ⟨[.int .i64 x.f0], [.string x.f1, .int .i64 x.f2, .int .i64 x.f3], rfl, rfl, ⟨[.string x.f1], [.int .i64 x.f2, .int .i64 x.f3], rfl, rfl, ⟨[.int .i64 x.f2], [.int .i64 x.f3], rfl, rfl, rfl⟩⟩⟩
def dD (xs : List S56) (i : Int) : S56 := xs.getD i.toNat z56
theorem eU {w : World} {A : Option Addr} {n : Nat} {xs : List S56} (h : Kd.C k56 w A n xs) (i : Int) (h0 : 0 ≤ i) (h1 : i < n) : ∃ ad , A = some ad ∧ w.cell? (ad.add (i.toNat * 4)) = some (.int .i64 (dD xs i).f0) ∧ w.cell? ⟨(ad.add (i.toNat * 4)).block, (ad.add (i.toNat * 4)).off + 1, none⟩ = some (.string (dD xs i).f1) ∧ w.cell? ⟨(ad.add (i.toNat * 4)).block, (ad.add (i.toNat * 4)).off + 2, none⟩ = some (.int .i64 (dD xs i).f2) ∧ w.cell? ⟨(ad.add (i.toNat * 4)).block, (ad.add (i.toNat * 4)).off + 3, none⟩ = some (.int .i64 (dD xs i).f3) := by
 obtain ⟨ad, c, e, _, hK, hc0⟩ := Kd.yf h z56 i h0 h1
 have hc : ∀ j u, c[j]? = some u → w.cell? (ad.add (i.toNat * 4 + j)) = some u := hc0
 obtain rfl := Ha hK
 exact ⟨ad, e, hc 0 _ rfl, by rw [← lL _ _ 1 (by omega)]; exact hc 1 _ rfl, by rw [← lL _ _ 2 (by omega)]; exact hc 2 _ rfl, by rw [← lL _ _ 3 (by omega)]; exact hc 3 _ rfl⟩
def qX (xs : List (List S40)) (i : Int) : (List S40) := xs.getD i.toNat ([] : List S40)
theorem Oh {w : World} {A : Option Addr} {n : Nat} {xs : List (List S40)} (h : Kd.C (Kd.slice 40 k40) w A n xs) (i : Int) (h0 : 0 ≤ i) (h1 : i < n) : ∃ ad A0 c0, A = some ad ∧ w.cell? (ad.add i.toNat) = some (.slice A0 (qX xs i).length c0) ∧ (qX xs i).length ≤ c0 ∧ k40.C w A0 (qX xs i).length (qX xs i) := by
 obtain ⟨ad, c, e, _, hK, hc0⟩ := Kd.yf h ([] : List S40) i h0 h1
 have hc : ∀ j u, c[j]? = some u → w.cell? (ad.add (i.toNat * 1 + j)) = some u := hc0
 obtain ⟨A0, c0, rfl, l0, g0⟩ := hK
 exact ⟨ad, A0, c0, e, by have hq := hc 0 _ rfl; rwa [Nat.mul_one, Nat.add_zero] at hq, l0, g0⟩
end Go.Proofs.Ytlenihbmafkegaa.Q
end
section
set_option linter.unusedVariables false
set_option linter.unusedSimpArgs false
namespace Go.Proofs.Ytlenihbmafkegaa.Q
open Go Go.RowKit Go.Proofs.YtlenihbmafkegaaW.PrintWords Go.Proofs.YtlenihbmafkegaaW.PrintLast Go.Proofs.YtlenihbmafkegaaW.PrintMore
/-- What stays: every block but the writer's that holds no tokens. -/
def KT (w W : World) (g : Nat) : Prop := w.heap.size ≤ W.heap.size ∧ ∀ k, k < w.heap.size → k ≠ g → (∃ cells t, w.heap[k]? = some (.cells cells t (0, 0)) ∧ t ≠ 56) → W.heap[k]? = w.heap[k]?
theorem KT.refl (w : World) (g : Nat) : KT w w g := ⟨Nat.le_refl _, fun _ _ _ _ => rfl⟩
theorem KT.trans {w W W' : World} {g : Nat} (h : KT w W g) (k : KT W W' g) : KT w W' g :=
 ⟨Nat.le_trans h.1 k.1, fun i hi hg hc => by
  have e := h.2 i hi hg hc
  obtain ⟨cells, t, h1, h2⟩ := hc
  exact (k.2 i (Nat.lt_of_lt_of_le hi h.1) hg ⟨cells, t, e.trans h1, h2⟩).trans e⟩
theorem KT.below {w W : World} {g : Nat} (h : Below w.heap.size w W) : KT w W g := ⟨h.size, fun i hi _ _ => h.block i hi⟩
theorem KT.set {w : World} {g : Nat} (i : Nat) (u : Value) : KT w (w.setCell ⟨g, i, none⟩ u) g := ⟨(aX.refl w g none).Ez i u |>.1, fun k hk hg _ => ((aX.refl w g none).Ez i u).2 k hk hg (by simp)⟩
theorem KT.grown {w W : World} {g base : Nat} {v : Value} {ok : Nat → Prop} {xs : List S56} (h : w.grownBy W v.ownBlock) (hv : Kd.R k56 56 w base ok v xs) : KT w W g :=
 ⟨h.size, fun i hi _ hc => h.block i hi (fun e => by
  obtain ⟨cells, t, h1, h2⟩ := hc
  obtain ⟨c2, h3⟩ := Kd.Ej hv i e.symm
  rw [h1] at h3
  injection h3 with h3
  injection h3 with _ h3
  exact h2 h3)⟩
theorem KT.blk {w W : World} {g b : Nat} {cs : Array Value} {t : TypeId} (h : KT w W g) (hb : w.heap[b]? = some (.cells cs t (0, 0))) (ht : t ≠ 56) (hg : b ≠ g) : W.heap[b]? = some (.cells cs t (0, 0)) := (h.2 b (jO hb) hg ⟨cs, t, hb, ht⟩).trans hb
/-- The writer at block g: nodes that came in by w0, tokens that were made. -/
def Wv (w0 W : World) (g : Nat) (l : List S40) (A0 : Option Addr) (c0 : Nat) (out : List S56) (v : Value) : Prop :=
 W.heap[g]? = some (.cells #[.slice A0 l.length c0, v] 52 (0, 0)) ∧ w0.heap.size ≤ g ∧ Kd.C k40 w0 A0 l.length l ∧ l.length ≤ c0 ∧ Kd.R k56 56 W w0.heap.size (fun _ => True) v out
def Wr (w0 W : World) (g : Nat) (l : List S40) (out : List S56) : Prop := ∃ A0 c0 v, Wv w0 W g l A0 c0 out v
/-- A row that is read, of a known type. -/
def RI {α : Type} (d : Kd α) (e : Nat) (W : World) (A : Option Addr) (xs : List α) : Prop := d.C W A xs.length xs ∧ (0 < xs.length → ∃ ad cells, A = some ad ∧ W.heap[ad.block]? = some (.cells cells e (0, 0)))
theorem RI.kt {α : Type} {d : Kd α} {e : Nat} {w W : World} {g : Nat} {cg : Array Value} {A : Option Addr} {xs : List α} (h : RI d e w A xs) (hk : KT w W g) (hg : w.heap[g]? = some (.cells cg 52 (0, 0))) (he : e ≠ 56 ∧ e ≠ 52) (hd : ∀ x cs, d.K w x cs → d.K W x cs) : RI d e W A xs := by
 obtain ⟨⟨h1, h2, h3⟩, h4⟩ := h
 refine ⟨⟨h1, h2, fun hn => ?_⟩, fun hn => ?_⟩
 ·obtain ⟨ad, cells, rfl, hb⟩ := h4 hn
  obtain ⟨ad', e', hc⟩ := h3 hn
  cases e'
  have hne : ad.block ≠ g := fun e1 => by
   rw [e1, hg] at hb
   injection hb with hb
   injection hb with _ hb
   exact he.2 hb.symm
  have hs := hk.blk hb he.1 hne
  refine ⟨ad, rfl, fun j p hj => ?_⟩
  obtain ⟨c, h5, h6, h7⟩ := hc j p hj
  refine ⟨c, h5, hd _ _ h6, fun i u hu => ?_⟩
  have := h7 i u hu
  have hab : (ad.add (j * d.sz + i)).block = ad.block := by unfold Addr.add; split <;> rfl
  unfold World.cell? at this ⊢
  rw [hab] at this ⊢
  rw [hs]
  rwa [hb] at this
 obtain ⟨ad, cells, rfl, hb⟩ := h4 hn
 have hne : ad.block ≠ g := fun e1 => by
  rw [e1, hg] at hb
  injection hb with hb
  injection hb with _ hb
  exact he.2 hb.symm
 exact ⟨ad, cells, rfl, hk.blk hb he.1 hne⟩
section
variable {w0 w W W' : World} {g : Nat} {l : List S40} {A0 : Option Addr} {c0 : Nat} {out out' : List S56} {v : Value}
theorem Wv.lt (h : Wv w0 W g l A0 c0 out v) : g < W.heap.size := jO h.1
theorem Wv.below (h : Wv w0 W g l A0 c0 out v) (hb : Below W.heap.size W W') : Wv w0 W' g l A0 c0 out v := ⟨eH h.1 hb, h.2.1, h.2.2.1, h.2.2.2.1, Kd.aQ h.2.2.2.2 hb⟩
theorem Wv.drewN (h : Wv w0 W g l A0 c0 out v) (n : Nat) : Wv w0 (W.drewN n) g l A0 c0 out v := h.below (fH (Below.refl _ _) n)
theorem Wv.drew (h : Wv w0 W g l A0 c0 out v) : Wv w0 W.drew g l A0 c0 out v := h.below (Below.refl _ _).drew
theorem Wv.alloc (h : Wv w0 W g l A0 c0 out v) (o : Obj) : Wv w0 (W.alloc o) g l A0 c0 out v := h.below (fB (Below.refl _ _) o)
theorem wvT {W0 : World} (H : ae (Wv w0 W0 g l A0 c0 out v)) (f : Wv w0 W0 g l A0 c0 out v → Wv w0 W g l A0 c0 out v := by (intro h_; repeat (first | (with_reducible exact h_) | apply Wv.drewN | apply Wv.drew | apply Wv.alloc))) : Wv w0 W g l A0 c0 out v := f H.out
theorem Wv.g0 (h : Wv w0 W g l A0 c0 out v) : W.cell? ⟨g, 0, none⟩ = some (.slice A0 l.length c0) := (ah h.1 0).trans rfl
theorem Wv.g1 (h : Wv w0 W g l A0 c0 out v) : W.cell? ⟨g, 1, none⟩ = some v := (ah h.1 1).trans rfl
theorem Wv.f (h : Wv w0 W g l A0 c0 out v) (i : Nat) : W.frozen? ⟨g, i, none⟩ = false := af h.1 i
theorem Wv.wr (h : Wv w0 W g l A0 c0 out v) : Wr w0 W g l out := ⟨_, _, _, h⟩
/-- Tokens were appended, and the row is written back. -/
theorem Wv.put {v1 : Value} (h : Wv w0 W g l A0 c0 out v) (hg : W.grownBy W' v.ownBlock) (hr : Kd.R k56 56 W' w0.heap.size (fun _ => True) v1 out') : Wv w0 (W'.setCell ⟨g, 1, none⟩ v1) g l A0 c0 out' v1 := by
 have hne : some g ≠ v.ownBlock := Kd.Be h.2.2.2.2 h.1 (by decide)
 have h1 := (hg.block g h.lt hne).trans h.1
 refine ⟨by simpa using mP h1 1 v1, h.2.1, h.2.2.1, h.2.2.2.1, ?_⟩
 exact Kd.Oq hr h1 (fun q hq => by
  have : q = 56 := by simpa [show k56.E = [] from rfl] using hq
  subst this
  decide) 1 v1
/-- What is known of the writer's world, and what stays besides: blocks that are known whole; rows that are read. -/
structure Ws (w0 w W : World) (g : Nat) (l : List S40) (out : List S56) (bs : List (Nat × Array Value × TypeId)) (is : List (Option Addr × List Int)) (ss : List (Option Addr × List ByteArray)) : Prop where
 z : w0.heap.size ≤ w.heap.size
 wr : Wr w0 W g l out
 below : Below w0.heap.size w0 W
 kt : KT w W g
 b : ∀ p ∈ bs, W.heap[p.1]? = some (.cells p.2.1 p.2.2 (0, 0)) ∧ p.2.2 ≠ 56 ∧ p.2.2 ≠ 52
 i : ∀ p ∈ is, RI (Kd.int .i64) 3 W p.1 p.2
 s : ∀ p ∈ ss, RI Kd.string 9 W p.1 p.2
variable {bs : List (Nat × Array Value × TypeId)} {is : List (Option Addr × List Int)} {ss : List (Option Addr × List ByteArray)}
theorem Ws.new (hI : Wr w0 w g l out) (hB : Below w0.heap.size w0 w) : Ws w0 w w g l out [] [] [] := ⟨hB.size, hI, hB, KT.refl w g, fun _ h => (nomatch h), fun _ h => (nomatch h), fun _ h => (nomatch h)⟩
theorem Ws.step (h : Ws w0 w W g l out bs is ss) (hk : KT W W' g) (hI : Wr w0 W' g l out') (hB : Below w0.heap.size w0 W') : Ws w0 w W' g l out' bs is ss := by
 obtain ⟨A0, c0, v, hv⟩ := h.wr
 refine ⟨h.z, hI, hB, h.kt.trans hk, fun p hp => ?_, fun p hp => (h.i p hp).kt hk hv.1 (by decide) (fun _ _ h => h), fun p hp => (h.s p hp).kt hk hv.1 (by decide) (fun _ _ h => h)⟩
 obtain ⟨h1, h2, h3⟩ := h.b p hp
 refine ⟨hk.blk h1 h2 (fun e => ?_), h2, h3⟩
 rw [e, hv.1] at h1
 injection h1 with h1
 injection h1 with _ h1
 exact h3 h1.symm
theorem Ws.jT (h : Ws w0 w W g l out bs is ss) (hb : Below W.heap.size W W') : Ws w0 w W' g l out bs is ss := by
 obtain ⟨A0, c0, v, hv⟩ := h.wr
 exact h.step (KT.below hb) (hv.below hb).wr (aj h.below hb)
theorem Ws.drewN (h : Ws w0 w W g l out bs is ss) (n : Nat) : Ws w0 w (W.drewN n) g l out bs is ss := h.jT (fH (Below.refl _ _) n)
theorem Ws.drew (h : Ws w0 w W g l out bs is ss) : Ws w0 w W.drew g l out bs is ss := h.jT (Below.refl _ _).drew
theorem Ws.alloc (h : Ws w0 w W g l out bs is ss) (o : Obj) : Ws w0 w (W.alloc o) g l out bs is ss := h.jT (fB (Below.refl _ _) o)
theorem wsT {W0 : World} (H : Ws w0 w W0 g l out bs is ss) (f : Ws w0 w W0 g l out bs is ss → Ws w0 w W g l out bs is ss := by (intro h_; repeat (first | (with_reducible exact h_) | apply Ws.drewN | apply Ws.drew | apply Ws.alloc))) : Ws w0 w W g l out bs is ss := f H
theorem Ws.box (h : Ws w0 w W g l out bs is ss) {b : Nat} {cs : Array Value} {t : TypeId} (hb : W.heap[b]? = some (.cells cs t (0, 0))) (h1 : t ≠ 56) (h2 : t ≠ 52) : Ws w0 w W g l out ((b, cs, t) :: bs) is ss :=
 ⟨h.z, h.wr, h.below, h.kt, fun p hp => (by
  rcases List.mem_cons.1 hp with rfl | hp
  ·exact ⟨hb, h1, h2⟩
  exact h.b p hp), h.i, h.s⟩
theorem Ws.int (h : Ws w0 w W g l out bs is ss) {A : Option Addr} {xs : List Int} (hi : RI (Kd.int .i64) 3 W A xs) : Ws w0 w W g l out bs ((A, xs) :: is) ss :=
 ⟨h.z, h.wr, h.below, h.kt, h.b, fun p hp => (by
  rcases List.mem_cons.1 hp with rfl | hp
  ·exact hi
  exact h.i p hp), h.s⟩
theorem Ws.strs (h : Ws w0 w W g l out bs is ss) {A : Option Addr} {xs : List ByteArray} (hi : RI Kd.string 9 W A xs) : Ws w0 w W g l out bs is ((A, xs) :: ss) :=
 ⟨h.z, h.wr, h.below, h.kt, h.b, h.i, fun p hp => (by
  rcases List.mem_cons.1 hp with rfl | hp
  ·exact hi
  exact h.s p hp)⟩
end
/-- Words that are made just now. -/
theorem RI.words (W : World) (ws : List ByteArray) (hm : ws.length ≤ 9223372036854775807) : RI Kd.string 9 (W.alloc (.cells (ws.map Value.string).toArray 9)) (some ⟨W.heap.size, 0, none⟩) ws := by
 have h1 := BI (enc := Value.string) W W.heap.size 9 ws (Nat.le_refl _) (by simpa using hm)
 have h2 := Kd.Bd (ok := fun _ => True) (h1 := fun _ => rfl) h1 (fun _ _ => trivial)
 exact ⟨(Kd.aI h2).2.2, fun _ => ⟨_, _, rfl, heap_alloc_new W _⟩⟩
theorem RI.kid {W : World} {A : Option Addr} {xs : List Int} (h : RI (Kd.int .i64) 3 W A xs) (j : Nat) (hj : j < xs.length) : ∃ ad, A = some ad ∧ W.cell? (ad.add j) = some (.int .i64 (xs.getD j 0)) := by
 obtain ⟨ad, h1, h2⟩ := (Kd.jA (d := (0 : Int)) h.1).at_ (j : Int) (show (0 : Int) ≤ (j : Int) by omega) (show (j : Int) < ((xs.length : Nat) : Int) by omega)
 rw [Int.toNat_natCast] at h2
 refine ⟨ad, h1, h2.trans ?_⟩
 simp [vW]
/-- What a call with the writer leaves. -/
def kC (w0 W : World) (g : Nat) (l : List S40) (out : List S56) (e : Ending) (w' : World) : Prop := e = .returned (.tuple #[]) ∧ Wr w0 w' g l out ∧ Below w0.heap.size w0 w' ∧ KT W w' g
theorem Ws.back {w0 w W : World} {g : Nat} {l : List S40} {out : List S56} {bs is ss} (h : Ws w0 w W g l out bs is ss) : kC w0 w g l out (.returned (.tuple #[])) W := ⟨rfl, h.wr, h.below, h.kt⟩
section
variable {P : Program} {ops : Array Oper} {Q : Exit → Act → World → Prop} {w0 w W : World} {g : Nat} {l : List S40} {out : List S56} {bs : List (Nat × Array Value × TypeId)} {is : List (Option Addr × List Int)} {ss : List (Option Addr × List ByteArray)}
 {rest : List Oper} {oi : Oper} {a : Act} {fn : Func} {ar : Array Operand} {ts : Array TypeId} {args : Array Value} {ρ β : Type} {R : β}
theorem DL {Kc : Act → World → Prop} {N : Tmp} (hd : oi.dst = some N) (h : if Region.wanted oi (yielded ops a.tmps) = true then Oper.wp P oi a W Kc Q else Kc (a.put oi.dst undef) W) : if Region.wanted oi (yielded ops a.tmps) = true then Oper.wp P oi a W Kc Q else Kc (a.put oi.dst undef) W := h
/-- A token is appended, in a region whose operations go in any order; what is left is to write the row back. -/
theorem Oj {Kc : Act → World → Prop} {N : Tmp} {A0 : Option Addr} {c0 : Nat} {v : Value} {t : S56} (x y : Operand) (hd : oi.dst = some N) (ho : oi.op = .call { callee := .builtin .append, args := #[x, y], argTypes := #[33, 33] })
 (ht : P.underlying 33 = some (.slice 56)) (hinfo : (P.info? 56).map (fun i => (i.zero, i.size, i.bytes)) = some (some (.agg #[.int .i64 0, .string (⟨#[]⟩ : ByteArray), .int .i64 0, .int .i64 0]), 4, 40))
 (HS : Ws w0 w W g l out bs is ss) (HV : Wv w0 W g l A0 c0 out v) (hl : out.length + 1 ≤ 3000000000000) (hw : Region.wanted oi (yielded ops a.tmps) = true) (hx : a.eval x = v) (hy : a.eval y = .slice (some ⟨W.heap.size, 0, none⟩) 1 1)
 (h : ∀ A' n' c' w', w'.cell? ⟨g, 1, none⟩ = some v → w'.frozen? ⟨g, 1, none⟩ = false → Ws w0 w (w'.setCell ⟨g, 1, none⟩ (.slice A' n' c')) g l (out ++ [t]) bs is ss → Kc (a.put (some N) (.slice A' n' c')) w') : if Region.wanted oi (yielded ops a.tmps) = true then Oper.wp P oi a (W.alloc (.cells #[.int .i64 t.f0, .string t.f1, .int .i64 t.f2, .int .i64 t.f3] 56)) Kc Q else Kc (a.put oi.dst undef) (W.alloc (.cells #[.int .i64 t.f0, .string t.f1, .int .i64 t.f2, .int .i64 t.f3] 56)) := by
 refine Kd.rC k56 w0.heap.size hw x y 33 56 _ 40 ho ht hinfo (by rfl) (by decide) (by decide) v out t _ (fun _ => True) (fun _ => False) hx hy (yJ W w0.heap.size _ t) (fun _ h => h.elim) (fun _ _ => trivial) HV.2.2.2.2 HS.below HS.below.size (by omega) ?_
 intro v1 w' hr hb hg _
 rw [hd]
 have hne : some g ≠ v.ownBlock := Kd.Be HV.2.2.2.2 HV.1 (by decide)
 have h1 := (hg.block g HV.lt hne).trans HV.1
 obtain ⟨A', c', rfl⟩ := Kd.bY hr
 refine h A' _ c' w' ((ah h1 1).trans rfl) (af h1 1) (HS.step ((KT.grown hg HV.2.2.2.2).trans (KT.set 1 _)) (HV.put hg hr).wr (gQ hb HV.2.1))
/-- The same, and what is known whole stays as it is. -/
theorem Oi {Kc : Act → World → Prop} {N : Tmp} {A0 : Option Addr} {c0 : Nat} {v : Value} {t : S56} (x y : Operand) (hd : oi.dst = some N) (ho : oi.op = .call { callee := .builtin .append, args := #[x, y], argTypes := #[33, 33] })
 (ht : P.underlying 33 = some (.slice 56)) (hinfo : (P.info? 56).map (fun i => (i.zero, i.size, i.bytes)) = some (some (.agg #[.int .i64 0, .string (⟨#[]⟩ : ByteArray), .int .i64 0, .int .i64 0]), 4, 40))
 (HS : Ws w0 w W g l out bs is ss) (HV : Wv w0 W g l A0 c0 out v) (hl : out.length + 1 ≤ 3000000000000) (hw : Region.wanted oi (yielded ops a.tmps) = true) (hx : a.eval x = v) (hy : a.eval y = .slice (some ⟨W.heap.size, 0, none⟩) 1 1)
 (h : ∀ A' n' c' w', w'.cell? ⟨g, 1, none⟩ = some v → w'.frozen? ⟨g, 1, none⟩ = false → (∀ b cs t, (b, cs, t) ∈ bs → ∀ i, w'.cell? ⟨b, i, none⟩ = cs[i]?) → Ws w0 w (w'.setCell ⟨g, 1, none⟩ (.slice A' n' c')) g l (out ++ [t]) bs is ss → Kc (a.put (some N) (.slice A' n' c')) w') : if Region.wanted oi (yielded ops a.tmps) = true then Oper.wp P oi a (W.alloc (.cells #[.int .i64 t.f0, .string t.f1, .int .i64 t.f2, .int .i64 t.f3] 56)) Kc Q else Kc (a.put oi.dst undef) (W.alloc (.cells #[.int .i64 t.f0, .string t.f1, .int .i64 t.f2, .int .i64 t.f3] 56)) := by
 refine Kd.rC k56 w0.heap.size hw x y 33 56 _ 40 ho ht hinfo (by rfl) (by decide) (by decide) v out t _ (fun _ => True) (fun _ => False) hx hy (yJ W w0.heap.size _ t) (fun _ h => h.elim) (fun _ _ => trivial) HV.2.2.2.2 HS.below HS.below.size (by omega) ?_
 intro v1 w' hr hb hg _
 rw [hd]
 have hne : some g ≠ v.ownBlock := Kd.Be HV.2.2.2.2 HV.1 (by decide)
 have h1 := (hg.block g HV.lt hne).trans HV.1
 obtain ⟨A', c', rfl⟩ := Kd.bY hr
 refine h A' _ c' w' ((ah h1 1).trans rfl) (af h1 1) (fun b cs t hm i => ?_) (HS.step ((KT.grown hg HV.2.2.2.2).trans (KT.set 1 _)) (HV.put hg hr).wr (gQ hb HV.2.1))
 obtain ⟨h2, h3, h4⟩ := HS.b _ hm
 refine ah ((KT.grown hg HV.2.2.2.2).blk (g := g) h2 h3 (fun e => ?_)) i
 rw [show b = g from e, HV.1] at h2
 injection h2 with h2
 injection h2 with _ h2
 exact h4 h2.symm
theorem Ws.lit (HS : Ws w0 w W g l out bs is ss) {c : Array Value} (ws : List ByteArray) (hc : c = (ws.map Value.string).toArray) (hm : ws.length ≤ 9223372036854775807) : Ws w0 w (W.alloc (.cells c 9)) g l out bs is ((some ⟨W.heap.size, 0, none⟩, ws) :: ss) := by
 subst hc
 exact (HS.alloc _).strs (RI.words W ws hm)
/-- A call that writes. -/
theorem wC (f : FuncId) {N : Tmp} (hop : oi.op = .call { callee := .value (.func f), args := ar, argTypes := ts }) (hf : P.funcs[f]? = some fn) {F : Option (List S56)} {K : List S56 → Option β}
 (HS : Ws w0 w W g l out bs is ss) (H : ae (F.bind K = some R))
 (hC : ∀ q, Ws w0 w W g l out bs is ss → F = some q → Calls P f args W (kC w0 W g l q))
 (h : ∀ q w', Ws w0 w w' g l q bs is ss → ae (K q = some R) → wpList P ops Q rest (a.put (some N) (.tuple #[])) w')
 (hd : oi.dst = some N := by rfl) (hg : oi.guard = none := by rfl) (hname : (fn.name == "runtime.NumGoroutine") = false := by kernel_rfl) (hb : fn.body.isSome = true := by rfl)
 (hargs : ar.map a.eval = args := by ((try simp only [List.map_toArray, List.map_cons, List.map_nil]); first | done | rfl)) : wpList P ops Q (oi :: rest) a W := by
 obtain ⟨q, h1, h2⟩ := Option.bind_eq_some_iff.mp H.out
 refine jM (some N) hd hg hf hname hb args hop hargs ((hC q HS h1).mono ?_)
 rintro _ w' ⟨rfl, hi, hb, hk⟩
 exact ⟨_, rfl, h q w' (HS.step hk hi hb) ⟨h2⟩⟩
theorem wCc {f : FuncId} {post : Ending → World → Prop} {F : Option (List S56)} {K : List S56 → Option β} (HS : Ws w0 w W g l out bs is ss) (H : ae (F.bind K = some R))
 (hC : ∀ q, Ws w0 w W g l out bs is ss → F = some q → Calls P f args W (kC w0 W g l q))
 (h : ∀ q w', Ws w0 w w' g l q bs is ss → ae (K q = some R) → post (.returned (.tuple #[])) w') : Calls P f args W post := by
 obtain ⟨q, h1, h2⟩ := Option.bind_eq_some_iff.mp H.out
 refine (hC q HS h1).mono ?_
 rintro _ w' ⟨rfl, hi, hb, hk⟩
 exact h q w' (HS.step hk hi hb) ⟨h2⟩
end
end Go.Proofs.Ytlenihbmafkegaa.Q
end
section
namespace Go.Proofs.Ytlenihbmafkegaa.Q
open Go.RowKit Go.Proofs.YtlenihbmafkegaaW.PrintWords Go.Proofs.YtlenihbmafkegaaW.PrintLast Go.Proofs.YtlenihbmafkegaaW.PrintMore
attribute [local go_sem] dC dA dP dO cZ cO dB dw
set_option linter.unusedVariables false
set_option linter.unusedSimpArgs false
/-- A state of type 72 at block g of W; what its slices lead to came in by w0. -/
def bf (w0 W : World) (g : Nat) (f0 : List (S56)) (f1 : Int) (f2 : Bool) : Prop := ∃ A0 c0, W.heap[g]? = some (.cells #[.slice A0 f0.length c0, .int .i64 f1, .bool f2] 72 (0, 0)) ∧ w0.heap.size ≤ g ∧ Kd.C k56 w0 A0 f0.length f0
theorem bf.grown {w0 W : World} {g : Nat} {f0 : List (S56)} {f1 : Int} {f2 : Bool} {W1 : World} {row : Option Nat} (h : bf w0 W g f0 f1 f2) (hw : W.grownBy W1 row) (hne : some g ≠ row) : bf w0 W1 g f0 f1 f2 := by
 obtain ⟨A0, c0, hb, hg, hr0⟩ := h
 exact ⟨A0, c0, kV hb hw hne, hg, hr0⟩
theorem bf.fresh {w0 W : World} {g : Nat} {f0 : List (S56)} {f1 : Int} {f2 : Bool} (h : bf w0 W g f0 f1 f2) : ∀ k, W.heap.size ≤ k → k ≠ g := by
 obtain ⟨A0, c0, hb, hg, hr0⟩ := h
 exact Kd.CE hb
theorem bf.kept {w0 W : World} {g : Nat} {f0 : List (S56)} {f1 : Int} {f2 : Bool} {W1 : World} {S : Nat → Prop} (h : bf w0 W g f0 f1 f2) (hk : Kept W W1 S) (hne : ¬ S g) : bf w0 W1 g f0 f1 f2 := by
 obtain ⟨A0, c0, hb, hg, hr0⟩ := h
 exact ⟨A0, c0, Ia hb hk hne, hg, hr0⟩
theorem bf.below {w0 W : World} {g : Nat} {f0 : List (S56)} {f1 : Int} {f2 : Bool} {W1 : World} (h : bf w0 W g f0 f1 f2) (hw : Below W.heap.size W W1) : bf w0 W1 g f0 f1 f2 := h.grown (qm hw none) (by simp)
theorem bf.alloc {w0 W : World} {g : Nat} {f0 : List (S56)} {f1 : Int} {f2 : Bool} (h : bf w0 W g f0 f1 f2) (o : Obj) : bf w0 (W.alloc o) g f0 f1 f2 := h.below (fB (Below.refl _ _) o)
theorem bf.drewN {w0 W : World} {g : Nat} {f0 : List (S56)} {f1 : Int} {f2 : Bool} (h : bf w0 W g f0 f1 f2) (m : Nat) : bf w0 (W.drewN m) g f0 f1 f2 := h
theorem bf.drew {w0 W : World} {g : Nat} {f0 : List (S56)} {f1 : Int} {f2 : Bool} (h : bf w0 W g f0 f1 f2) : bf w0 W.drew g f0 f1 f2 := h
theorem bf.at_ {w0 W : World} {g : Nat} {f0 : List (S56)} {f1 : Int} {f2 : Bool} {w' : World} {m : Nat} (hq : W.drewN m = w') (h : bf w0 W g f0 f1 f2) : bf w0 w' g f0 f1 f2 := by subst hq; exact bf.drewN h m
theorem bf.apart {w0 W : World} {g : Nat} {f0 : List (S56)} {f1 : Int} {f2 : Bool} {α : Type} {d : Kd α} {e : Nat} {base : Nat} {ok : Nat → Prop} {v : Value} {xs : List α} (h : bf w0 W g f0 f1 f2) (ho : d.R e W base ok v xs) (ht : ∀ q, q ∈ e :: d.E → q ≠ 72) : d.R e W base (fun k => ok k ∧ k ≠ g) v xs := by
 obtain ⟨A0, c0, hb, hg, hr0⟩ := h
 exact Kd.qQ ho hb ht
theorem bf.own_ne {w0 W : World} {g : Nat} {f0 : List (S56)} {f1 : Int} {f2 : Bool} {α : Type} {d : Kd α} {e : Nat} {base : Nat} {ok : Nat → Prop} {v : Value} {xs : List α} (h : bf w0 W g f0 f1 f2) (ho : d.R e W base ok v xs) (ht : e ≠ 72) : some g ≠ v.ownBlock := by
 obtain ⟨A0, c0, hb, hg, hr0⟩ := h
 exact Kd.Be ho hb ht
theorem bf.lt {w0 W : World} {g : Nat} {f0 : List (S56)} {f1 : Int} {f2 : Bool} (h : bf w0 W g f0 f1 f2) : g < W.heap.size := by
 obtain ⟨A0, c0, hb, hg, hr0⟩ := h
 exact jO hb
theorem bf.ge {w0 W : World} {g : Nat} {f0 : List (S56)} {f1 : Int} {f2 : Bool} (h : bf w0 W g f0 f1 f2) : w0.heap.size ≤ g := by
 obtain ⟨A0, c0, hb, hg, hr0⟩ := h
 exact hg
theorem bf.far {w0 W : World} {g : Nat} {f0 : List (S56)} {f1 : Int} {f2 : Bool} {p : Addr} (h : bf w0 W g f0 f1 f2) (hne : g ≠ p.block) (u : Value) : bf w0 (W.setCell p u) g f0 f1 f2 := by
 obtain ⟨A0, c0, hb, hg, hr0⟩ := h
 exact ⟨A0, c0, iW hb hne u, hg, hr0⟩
theorem jq {W : World} {g : Nat} {A0 : Option Addr} {c0 : Nat} {f0 : List (S56)} {f1 : Int} {f2 : Bool} (h : W.heap[g]? = some (.cells #[.slice A0 f0.length c0, .int .i64 f1, .bool f2] 72 (0, 0))) : W.cell? ⟨g, 0, none⟩ = some (.slice A0 f0.length c0) := (ah h 0).trans rfl
theorem jo {W : World} {g : Nat} {A0 : Option Addr} {c0 : Nat} {f0 : List (S56)} {f1 : Int} {f2 : Bool} (h : W.heap[g]? = some (.cells #[.slice A0 f0.length c0, .int .i64 f1, .bool f2] 72 (0, 0))) : W.cell? ⟨g, 1, none⟩ = some (.int .i64 f1) := (ah h 1).trans rfl
theorem bf.Dq {w0 W : World} {g : Nat} {f0 : List (S56)} {f1 : Int} {f2 : Bool} (h : bf w0 W g f0 f1 f2) (x : Int) : bf w0 (W.setCell ⟨g, 1, none⟩ (.int .i64 x)) g f0 x f2 := by
 obtain ⟨A0, c0, hb, hg, hr0⟩ := h
 exact ⟨A0, c0, by simpa using mP hb 1 (.int .i64 x), hg, hr0⟩
theorem jm {W : World} {g : Nat} {A0 : Option Addr} {c0 : Nat} {f0 : List (S56)} {f1 : Int} {f2 : Bool} (h : W.heap[g]? = some (.cells #[.slice A0 f0.length c0, .int .i64 f1, .bool f2] 72 (0, 0))) : W.cell? ⟨g, 2, none⟩ = some (.bool f2) := (ah h 2).trans rfl
theorem bf.Dp {w0 W : World} {g : Nat} {f0 : List (S56)} {f1 : Int} {f2 : Bool} (h : bf w0 W g f0 f1 f2) (x : Bool) : bf w0 (W.setCell ⟨g, 2, none⟩ (.bool x)) g f0 f1 x := by
 obtain ⟨A0, c0, hb, hg, hr0⟩ := h
 exact ⟨A0, c0, by simpa using mP hb 2 (.bool x), hg, hr0⟩
theorem bf.new (w0 W : World) (A0 : Option Addr) (c0 : Nat) (f0 : List (S56)) (f1 : Int) (f2 : Bool) (hB : Below w0.heap.size w0 W) (hr0 : Kd.C k56 w0 A0 f0.length f0) : bf w0 (W.alloc (.cells #[.slice A0 f0.length c0, .int .i64 f1, .bool f2] 72)) W.heap.size f0 f1 f2 := ⟨A0, c0, by simpa using heap_alloc_new W _, hB.size, hr0⟩
theorem bf.JE {w0 W : World} {g : Nat} {f0 : List (S56)} {f1 : Int} {f2 : Bool} {b j : Nat} {u : Value} (h : bf w0 W g f0 f1 f2) (hne : g ≠ b) : bf w0 (W.setCell ⟨b, j, none⟩ u) g f0 f1 f2 := bf.far h (p := ⟨b, j, none⟩) hne u
theorem jH (a : Int) (b : ByteArray) (c d : Int) (w : World) : (Instr.field 56 (.agg #[.int .i64 a, .string b, .int .i64 c, .int .i64 d]) 0).run Try.prog w = .ok (.int .i64 a) w := by kernel_rfl
theorem jG (a : Int) (b : ByteArray) (c d : Int) (w : World) : (Instr.field 56 (.agg #[.int .i64 a, .string b, .int .i64 c, .int .i64 d]) 1).run Try.prog w = .ok (.string b) w := by kernel_rfl
theorem jF (a : Int) (b : ByteArray) (c d : Int) (w : World) : (Instr.field 56 (.agg #[.int .i64 a, .string b, .int .i64 c, .int .i64 d]) 2).run Try.prog w = .ok (.int .i64 c) w := by kernel_rfl
theorem jE (a : Int) (b : ByteArray) (c d : Int) (w : World) : (Instr.field 56 (.agg #[.int .i64 a, .string b, .int .i64 c, .int .i64 d]) 3).run Try.prog w = .ok (.int .i64 d) w := by kernel_rfl
end Go.Proofs.Ytlenihbmafkegaa.Q
end
section
universe u
namespace Go.Proofs.Ytlenihbmafkegaa.Q
open Go Go.RowKit Go.Proofs.YtlenihbmafkegaaW.PrintWords Go.Proofs.YtlenihbmafkegaaW.PrintLast Go.Proofs.YtlenihbmafkegaaW.PrintMore
theorem bT {s : Nat} {w W0 W : World} (H : ae (Below s w W0)) (f : Below s w W0 → Below s w W := by (intro h_; repeat (first | (with_reducible first | exact h_ | apply fB | apply fH | apply iC | refine gQ ?_ (bf.ge HI0.out) | refine gQ ?_ (ae.out (by assumption))) | exact h_))) : Below s w W := f H.out
theorem kT {w W0 W : World} {g : Nat} {row : Option Nat} (H : ae (aX w W0 g row)) (f : aX w W0 g row → aX w W g row := by (intro h_; repeat (first | (with_reducible first | exact h_ | apply aX.Ez | apply wH | apply EO | apply BV | refine wG ?_ (ae.out (by assumption)) _) | exact h_))) : aX w W g row := f H.out
theorem iT {w0 W0 W : World} {g : Nat} {f0 : List S56} {f1 e1 : Int} {f2 e2 : Bool} (H : ae (bf w0 W0 g f0 e1 e2)) (f : bf w0 W0 g f0 e1 e2 → bf w0 W g f0 f1 f2 := by (intro h_; repeat (first | (with_reducible first | exact h_ | apply bf.alloc | apply bf.drewN | apply bf.drew | apply bf.Dq | apply bf.Dp | (refine bf.JE ?_ ?hne_; case hne_ => exact ae.out (by assumption))) | exact h_))) : bf w0 W g f0 f1 f2 := f H.out
theorem eT {α : Sort u} {a b : α} (h : a = b := by first | rfl | (simp [jl, jk] <;> rfl) | (simp [*, jl, jk] <;> rfl)) : a = b := h
theorem fT {p : Prop} (h : p := by first | rfl | (simp; done) | (simp [*]; done)) : p := h
theorem aT {p : Prop} (h : p := by first | (with_reducible assumption) | assumption) : p := h
section
variable {α : Type} {d : Kd α} {e : TypeId} {base : Nat} {ok : Nat → Prop} {v : Value} {xs : List α} {w0 w : World}
theorem qR (H : ae (Kd.R d e w0 base ok v xs)) (f : Kd.R d e w0 base ok v xs → Kd.R d e w base ok v xs := by (intro h_; (with_reducible repeat (first | apply Kd.jQ | apply Kd.kw | apply Kd.lM)); exact h_)) : Kd.R d e w base ok v xs := f H.out
end
end Go.Proofs.Ytlenihbmafkegaa.Q
end
section
namespace Go.Proofs.Ytlenihbmafkegaa.Q
open Go.RowKit Go.Proofs.YtlenihbmafkegaaW.PrintWords Go.Proofs.YtlenihbmafkegaaW.PrintLast Go.Proofs.YtlenihbmafkegaaW.PrintMore
attribute [local go_sem] dC dA dP dO cZ cO dB dw
set_option linter.unusedVariables false
set_option linter.unusedSimpArgs false
/-! ### iU: function 29 -/
def iU.f (a0 : Int) : Option (Int × Int) := if a0 = 1 then (some (1, 2147483647)) else (if a0 = 2 then (some (0, 8)) else (some (0, 9223372036854775807)))
set_option maxHeartbeats 8000000 in
set_option maxRecDepth 100000 in
theorem iU.calls (a0 : Int) (r1 : Int) (r2 : Int) (w : World) (h : iU.f a0 = some (r1, r2)) :
 Calls Try.prog 29 #[.int .i64 a0] w fun e w' => e = .returned (.tuple #[.int .i64 r1, .int .i64 r2]) ∧ dQ w w' := by
 have H := h
 clear h
 unfold iU.f at H
 revert H
 refine bn (fun c2b0 c2b1 H => ?_) fun c2 c2b0 c2b1 H => ?_
 ·simp only [Option.some.injEq, Prod.mk.injEq] at H
  obtain ⟨rfl, rfl⟩ := H
  go_enter Try.func29, Try.ntmps29
  go_wp2
  go_ret2
  exact ⟨fT, Z0⟩
 revert H
 refine bn (fun c3b0 c3b1 H => ?_) fun c3 c3b0 c3b1 H => ?_
 ·simp only [Option.some.injEq, Prod.mk.injEq] at H
  obtain ⟨rfl, rfl⟩ := H
  go_enter Try.func29, Try.ntmps29
  go_wp2
  go_ret2
  exact ⟨fT, Z0⟩
 simp only [Option.some.injEq, Prod.mk.injEq] at H
 obtain ⟨rfl, rfl⟩ := H
 go_enter Try.func29, Try.ntmps29
 go_wp2
 go_ret2
 exact ⟨fT, Z0⟩
-- NOT PRINTED: function 43 (lex_head)
/-! ### iI: function 46 -/
def iI.f (a0 : Int) : Option (Bool) := if a0 ≥ 97 then (some (decide (a0 ≤ 122))) else (some false)
set_option maxHeartbeats 8000000 in
set_option maxRecDepth 100000 in
theorem iI.calls (a0 : Int) (r : Bool) (w : World) (h : iI.f a0 = some r) :
 Calls Try.prog 46 #[.int .i32 a0] w fun e w' => e = .returned (.bool r) ∧ dQ w w' := by
 have H := h
 clear h
 unfold iI.f at H
 revert H
 refine gZ (fun c2 H => ?_) fun c2 H => ?_
 ·have c2b0 : decide (97 ≤ a0) = true := decide_eq_true c2
  clear c2
  obtain rfl := Option.some.inj H
  go_enter Try.func46, Try.ntmps46
  go_wp2
  go_ret
  exact ⟨fT, Z0⟩
 have c2b0 : decide (97 ≤ a0) = false := decide_eq_false c2
 clear c2
 obtain rfl := Option.some.inj H
 go_enter Try.func46, Try.ntmps46
 go_wp2
 go_ret
 exact ⟨fT, Z0⟩
/-! ### kS: function 49 -/
def kS.f (a0 : Int) : Option (Bool) := if a0 ≥ 48 then (some (decide (a0 ≤ 57))) else (some false)
set_option maxHeartbeats 8000000 in
set_option maxRecDepth 100000 in
theorem kS.calls (a0 : Int) (r : Bool) (w : World) (h : kS.f a0 = some r) :
 Calls Try.prog 49 #[.int .i32 a0] w fun e w' => e = .returned (.bool r) ∧ dQ w w' := by
 have H := h
 clear h
 unfold kS.f at H
 revert H
 refine gZ (fun c2 H => ?_) fun c2 H => ?_
 ·have c2b0 : decide (48 ≤ a0) = true := decide_eq_true c2
  clear c2
  obtain rfl := Option.some.inj H
  go_enter Try.func49, Try.ntmps49
  go_wp2
  go_ret
  exact ⟨fT, Z0⟩
 have c2b0 : decide (48 ≤ a0) = false := decide_eq_false c2
 clear c2
 obtain rfl := Option.some.inj H
 go_enter Try.func49, Try.ntmps49
 go_wp2
 go_ret
 exact ⟨fT, Z0⟩
/-! ### lex_inner: function 47 -/
/-! ### ji: function 54 -/
def ji.f (a0 : ByteArray) : Option (Bool) := if a0.toList = ([] : List UInt8) then (some false) else (if 0 < (a0.size : Int) then ((iI.f (wrap32 (bt a0 0))).bind fun t124 => (if t124 = true then ((jZ.f a0).bind fun t125 => (some ((t125.size : Int) == (a0.size : Int)))) else (some false))) else (none))
set_option maxHeartbeats 8000000 in
set_option maxRecDepth 100000 in
theorem ji.calls (a0 : ByteArray) (r : Bool) (w : World) (h : ji.f a0 = some r) :
 Calls Try.prog 54 #[.string a0] w fun e w' => e = .returned (.bool r) ∧ Below w.heap.size w w' := by
 have HB := ae.mk (Below.refl w.heap.size w)
 have H := h
 clear h
 unfold ji.f at H
 revert H
 refine bn (fun c2b0 c2b1 H => ?_) fun c2 c2b0 c2b1 H => ?_
 ·obtain rfl := Option.some.inj H
  go_enter Try.func54, Try.ntmps54
  go_wp2
  go_ret
  exact ⟨eT, bT HB⟩
 revert H
 refine yP (fun c3 c3b0 H => ?_) fun c3 H => ?_
 ·have c3b1 : decide (0 < a0.size) = true := decide_eq_true (by omega)
  clear c3
  revert H
  refine yB1 fun t124 A5 H => ?_
  cases t124
  rotate_left
  ·replace H := yT H
   revert H
   refine yB1 fun t125 A7 H => ?_
   obtain rfl := Option.some.inj H
   have p4 : 0 ≤ (0 : Int) := (by omega)
   have q4 : 0 < a0.size := (by have : (0 : Int) < (a0.size : Int) := of_decide_eq_true aT; omega)
   have hx4 : ∀ h : 0 < a0.size, ((a0[0]'h).toNat : Int) = bt a0 0 := l9 a0 0
   clear p4
   have qi4 : (0 < (a0.size : Int)) = True := eq_true (of_decide_eq_true aT)
   replace q4 := eq_true q4
   go_enter Try.func54, Try.ntmps54
   go_wp2_with (first | (go_at_call 46; (with_reducible refine (iI.calls (wrap32 (bt a0 0)) true _ A5.out).mono ?_); rintro e w' ⟨rfl, ⟨nd, rfl⟩⟩) | (go_at_call 43; (with_reducible refine (jZ.calls a0 t125 _ A7.out).mono ?_); rintro e w8 ⟨rfl, hb⟩; refine yA1 (aj (bT HB) hb) ?_; clear HB; intro HB; (try clear hb)))
   go_ret
   exact ⟨eT, bT HB⟩
  replace H := yF H
  obtain rfl := Option.some.inj H
  have p4 : 0 ≤ (0 : Int) := (by omega)
  have q4 : 0 < a0.size := (by have : (0 : Int) < (a0.size : Int) := of_decide_eq_true aT; omega)
  have hx4 : ∀ h : 0 < a0.size, ((a0[0]'h).toNat : Int) = bt a0 0 := l9 a0 0
  clear p4
  have qi4 : (0 < (a0.size : Int)) = True := eq_true (of_decide_eq_true aT)
  replace q4 := eq_true q4
  go_enter Try.func54, Try.ntmps54
  go_wp2_with (first | (go_at_call 46; (with_reducible refine (iI.calls (wrap32 (bt a0 0)) false _ A5.out).mono ?_); rintro e w' ⟨rfl, ⟨nd, rfl⟩⟩))
  go_ret
  exact ⟨eT, bT HB⟩
 exact absurd H (by simp)
end Go.Proofs.Ytlenihbmafkegaa.Q
end
section
namespace Go.Proofs.Ytlenihbmafkegaa.Q
open Go.RowKit Go.Proofs.YtlenihbmafkegaaW.PrintWords Go.Proofs.YtlenihbmafkegaaW.PrintLast Go.Proofs.YtlenihbmafkegaaW.PrintMore
attribute [local go_sem] dC dA dP dO cZ cO dB dw
set_option linter.unusedVariables false
set_option linter.unusedSimpArgs false
/-! ### df: function 72 -/
def df.l0 : Nat → ByteArray → ByteArray → Int → Option (Bool)
 | 0, _, _, _ => none
 | k + 1, x0, x1, x5 => if (wrap64 (x5 + (x1.size : Int))) ≤ (x0.size : Int) then (if 0 ≤ x5 then (if x5 ≤ (wrap64 (x5 + (x1.size : Int))) then (if (x0.extract (x5 : Int).toNat ((wrap64 (x5 + (x1.size : Int))) : Int).toNat).toList = x1.toList then (some true) else (df.l0 k x0 x1 (wrap64 (x5 + 1)))) else (none)) else (none)) else (some false)
def df.f (k : Nat) (a0 : ByteArray) (a1 : ByteArray) : Option (Bool) := df.l0 k a0 a1 0
theorem df.cu : ∀ k, (∀ y0 y1 y2, LeO (df.l0 k y0 y1 y2) (df.l0 (k + 1) y0 y1 y2))
 | 0 => fun _ _ _ r h => by simp [df.l0] at h
 | k + 1 => by
  have ih0 := df.cu k
  intro y0 y1 y2
  unfold df.l0
  exact yL
theorem df.mono : ∀ a0 a1 k, LeO (df.f k a0 a1) (df.f (k + 1) a0 a1) := by
 intro a0 a1 k
 have ih0 := df.cu k
 unfold df.f
 exact yL
set_option maxHeartbeats 8000000 in
set_option maxRecDepth 100000 in
theorem df.calls (k : Nat) (a0 : ByteArray) (a1 : ByteArray) (r : Bool) (w : World) (h : df.f k a0 a1 = some r) :
 Calls Try.prog 72 #[.string a0, .string a1] w fun e w' => e = .returned (.bool r) ∧ dQ w w' := by
 have H := h
 clear h
 unfold df.f at H
 have H' := ae.mk H
 clear H
 go_enter Try.func72, Try.ntmps72
 go_wp2
 go_loopg [5] k (fun kq v5 w' => ∃ (x5_1 : Int), v5 = .int .i64 x5_1 ∧ ae (df.l0 kq a0 a1 x5_1 = some r) ∧ ae (kq ≤ k) ∧ dQ w w')
 case atStart => exact ⟨(0), fT, H', ⟨Nat.le_refl _⟩, Z0⟩
 case round =>
  clear H'
  try clear p2
  obtain ⟨x5_1, rfl, HA, HK1, ⟨m1, rfl⟩⟩ := hrel
  cases gk with
  | zero => exact absurd HA.out (by simp [df.l0])
  | succ k1 =>
   have H := HA.out
   clear HA
   simp only [df.l0] at H
   revert H
   refine jU (fun c3b0 H => ?_) fun c3b0 H => ?_
   ·revert H
    refine jL (fun c4b0 c4b1 H => ?_) fun c4 H => ?_
    ·revert H
     refine jY (fun c5 c5b0 c5b1 H => ?_) fun c5 H => ?_
     ·have c6b0 := eq_true (of_decide_eq_true aT : (wrap64 (x5_1 + (a1.size : Int))) ≤ (a0.size : Int))
      revert H
      refine bn (fun c7b0 c7b1 H => ?_) fun c7 c7b0 c7b1 H => ?_
      ·obtain rfl := Option.some.inj H
       go_wp2
       go_ret
       exact ⟨fT, Z0⟩
      have H' := ae.mk H
      clear H
      go_wp2
      go_roundg k1
      case measure => have := HK1.out; omega
      case rel => exact ⟨(wrap64 (x5_1 + 1)), fT, H', ⟨by have := HK1.out; omega⟩, Z0⟩
     exact absurd H (by simp)
    exact absurd H (by simp)
   obtain rfl := Option.some.inj H
   go_wp2
   go_ret
   exact ⟨fT, Z0⟩
/-! ### gW: function 48 -/
def gW.f (k : Nat) (a0 : ByteArray) : Option (Bool) := (ji.f a0).bind fun t126 => (if t126 = true then (if 1 + a0.size ≤ 9223372036854775807 then (if ((⟨#[32]⟩ : ByteArray) ++ a0).size + 1 ≤ 9223372036854775807 then ((df.f k (⟨#[32, 109, 111, 100, 117, 108, 101, 32, 117, 115, 101, 32, 102, 110, 32, 108, 101, 116, 32, 105, 102, 32, 101, 108, 115, 101, 32, 119, 104, 105, 108, 101, 32, 98, 114, 101, 97, 107, 32, 99, 111, 110, 116, 105, 110, 117, 101, 32, 114, 101, 116, 117, 114, 110, 32, 112, 117, 116, 32, 101, 109, 105, 116, 32, 121, 105, 101, 108, 100, 32, 110, 105, 108, 32, 115, 116, 97, 116, 101, 32, 115, 112, 97, 119, 110, 32, 108, 101, 110, 32, 110, 111, 116, 32, 97, 110, 100, 32, 111, 114, 32]⟩ : ByteArray) (((⟨#[32]⟩ : ByteArray) ++ a0) ++ (⟨#[32]⟩ : ByteArray))).bind fun t127 => (some t127)) else (none)) else (none)) else (some false))
theorem gW.mono : ∀ a0 k, LeO (gW.f k a0) (gW.f (k + 1) a0) := by
 intro a0 k
 unfold gW.f
 have m0 := df.mono
 exact yL
set_option maxHeartbeats 8000000 in
set_option maxRecDepth 100000 in
theorem gW.calls (k : Nat) (a0 : ByteArray) (r : Bool) (w : World) (h : gW.f k a0 = some r) :
 Calls Try.prog 48 #[.string a0] w fun e w' => e = .returned (.bool r) ∧ Below w.heap.size w w' := by
 have HB := ae.mk (Below.refl w.heap.size w)
 have H := h
 clear h
 unfold gW.f at H
 revert H
 refine yB1 fun t126 A2 H => ?_
 cases t126
 rotate_left
 ·replace H := yT H
  revert H
  refine jY (fun c4 c4b0 c4b1 H => ?_) fun c4 H => ?_
  ·try have c4b2 : (9223372036854775807 < 1 + a0.size) = False := eq_false (Nat.not_lt.2 c4)
   revert H
   refine jY (fun c5 c5b0 c5b1 H => ?_) fun c5 H => ?_
   ·have c5s := c5
    simp only [ByteArray.size_append, show ((⟨#[32]⟩ : ByteArray)).size = 1 from rfl] at c5s
    have c5t := eq_true c5s
    have c5u := eq_false (Nat.not_lt.2 c5s)
    clear c5s
    try have c5b2 : (9223372036854775807 < ((⟨#[32]⟩ : ByteArray) ++ a0).size + 1) = False := eq_false (Nat.not_lt.2 c5)
    revert H
    refine yB1 fun t127 A6 H => ?_
    obtain rfl := Option.some.inj H
    go_enter Try.func48, Try.ntmps48
    go_wp2_with (first | ((with_reducible refine gC 54 rfl ?_); refine gM 54 4 rfl Try.func54 (ji.calls a0 true _ A2.out) ?_; rintro _ w7 ⟨rfl, hb⟩; refine ⟨_, rfl, yA1 (aj (bT HB) hb) ?_⟩; clear HB hb; intro HB) | (go_at_call 72; (with_reducible refine (df.calls k (⟨#[32, 109, 111, 100, 117, 108, 101, 32, 117, 115, 101, 32, 102, 110, 32, 108, 101, 116, 32, 105, 102, 32, 101, 108, 115, 101, 32, 119, 104, 105, 108, 101, 32, 98, 114, 101, 97, 107, 32, 99, 111, 110, 116, 105, 110, 117, 101, 32, 114, 101, 116, 117, 114, 110, 32, 112, 117, 116, 32, 101, 109, 105, 116, 32, 121, 105, 101, 108, 100, 32, 110, 105, 108, 32, 115, 116, 97, 116, 101, 32, 115, 112, 97, 119, 110, 32, 108, 101, 110, 32, 110, 111, 116, 32, 97, 110, 100, 32, 111, 114, 32]⟩ : ByteArray) (((⟨#[32]⟩ : ByteArray) ++ a0) ++ (⟨#[32]⟩ : ByteArray)) t127 _ A6.out).mono ?_); rintro e w' ⟨rfl, ⟨nd, rfl⟩⟩))
    go_ret
    exact ⟨eT, bT HB⟩
   exact absurd H (by simp)
  exact absurd H (by simp)
 replace H := yF H
 obtain rfl := Option.some.inj H
 go_enter Try.func48, Try.ntmps48
 go_wp2_with (first | ((with_reducible refine gC 54 rfl ?_); refine gM 54 4 rfl Try.func54 (ji.calls a0 false _ A2.out) ?_; rintro _ w8 ⟨rfl, hb⟩; refine ⟨_, rfl, yA1 (aj (bT HB) hb) ?_⟩; clear HB hb; intro HB))
 go_ret
 exact ⟨eT, bT HB⟩
/-! ### eP: function 31 -/
def eP.f (k : Nat) (a0 : ByteArray) : Option (Bool) := (ji.f a0).bind fun t128 => (if t128 = true then (if (a0.size : Int) ≤ 16 then ((gW.f k a0).bind fun t129 => (some (!t129))) else (some false)) else (some false))
theorem eP.mono : ∀ a0 k, LeO (eP.f k a0) (eP.f (k + 1) a0) := by
 intro a0 k
 unfold eP.f
 have m0 := gW.mono
 exact yL
set_option maxHeartbeats 8000000 in
set_option maxRecDepth 100000 in
theorem eP.calls (k : Nat) (a0 : ByteArray) (r : Bool) (w : World) (h : eP.f k a0 = some r) :
 Calls Try.prog 31 #[.string a0] w fun e w' => e = .returned (.bool r) ∧ Below w.heap.size w w' := by
 have HB := ae.mk (Below.refl w.heap.size w)
 have H := h
 clear h
 unfold eP.f at H
 revert H
 refine yB1 fun t128 A2 H => ?_
 cases t128
 rotate_left
 ·replace H := yT H
  revert H
  refine JA (fun c4 c4b0 H => ?_) fun c4 c4b0 H => ?_
  ·have c4b1 : decide (a0.size ≤ 16) = true := decide_eq_true (by omega)
   clear c4
   revert H
   refine yB1 fun t129 A5 H => ?_
   obtain rfl := Option.some.inj H
   go_enter Try.func31, Try.ntmps31
   go_wp2_with (first | ((with_reducible refine gC 54 rfl ?_); refine gM 54 4 rfl Try.func54 (ji.calls a0 true _ A2.out) ?_; rintro _ w6 ⟨rfl, hb⟩; refine ⟨_, rfl, yA1 (aj (bT HB) hb) ?_⟩; clear HB hb; intro HB) | (go_at_call 48; (with_reducible refine (gW.calls k a0 t129 _ A5.out).mono ?_); rintro e w7 ⟨rfl, hb⟩; refine yA1 (aj (bT HB) hb) ?_; clear HB; intro HB; (try clear hb)))
   go_ret
   exact ⟨eT, bT HB⟩
  have c4b1 : decide (a0.size ≤ 16) = false := decide_eq_false (by omega)
  clear c4
  obtain rfl := Option.some.inj H
  go_enter Try.func31, Try.ntmps31
  go_wp2_with (first | ((with_reducible refine gC 54 rfl ?_); refine gM 54 4 rfl Try.func54 (ji.calls a0 true _ A2.out) ?_; rintro _ w8 ⟨rfl, hb⟩; refine ⟨_, rfl, yA1 (aj (bT HB) hb) ?_⟩; clear HB hb; intro HB))
  go_ret
  exact ⟨eT, bT HB⟩
 replace H := yF H
 obtain rfl := Option.some.inj H
 go_enter Try.func31, Try.ntmps31
 go_wp2_with (first | ((with_reducible refine gC 54 rfl ?_); refine gM 54 4 rfl Try.func54 (ji.calls a0 false _ A2.out) ?_; rintro _ w9 ⟨rfl, hb⟩; refine ⟨_, rfl, yA1 (aj (bT HB) hb) ?_⟩; clear HB hb; intro HB))
 go_ret
 exact ⟨eT, bT HB⟩
end Go.Proofs.Ytlenihbmafkegaa.Q
end
section
set_option linter.unusedVariables false
set_option linter.unusedSimpArgs false
namespace Go.Proofs.Ytlenihbmafkegaa.Q
open Go Go.RowKit Go.Proofs.YtlenihbmafkegaaW.PrintWords Go.Proofs.YtlenihbmafkegaaW.PrintLast Go.Proofs.YtlenihbmafkegaaW.PrintMore
/-- A word's kind. -/
def oD (k : Nat) (s : ByteArray) : Option Int := (gW.f k s).bind fun b => if b = true then some 5 else (eP.f k s).bind fun c => if c = true then some 1 else some 4
theorem oD.mono (s : ByteArray) (k : Nat) : LeO (oD k s) (oD (k + 1) s) := by
 unfold oD
 repeat' first
 | exact gW.mono _ k
 | exact eP.mono _ k
 | exact LeO.refl _
 | refine LeO.ite ?_ ?_
 | refine LeO.bind ?_ (fun _ => ?_)
set_option maxHeartbeats 8000000 in
set_option maxRecDepth 100000 in
theorem oD.calls (k : Nat) (s : ByteArray) (r : Int) (w : World) (h : oD k s = some r) :
 Calls Try.prog 79 #[.string s] w fun e w' => e = .returned (.int .i64 r) ∧ Below w.heap.size w w' := by
 unfold oD at h
 have HB := ae.mk (Below.refl w.heap.size w)
 obtain ⟨b, hb, h⟩ := Option.bind_eq_some_iff.mp h
 have A1 := ae.mk hb
 clear hb
 go_enter Try.func79, Try.ntmps79
 cases b
 ·rw [if_neg (by decide)] at h
  obtain ⟨c, hc, h⟩ := Option.bind_eq_some_iff.mp h
  have A2 := ae.mk hc
  clear hc
  cases c
  all_goals cases h
  all_goals go_wp2_with (first | (go_at_call 48; refine (gW.calls k s _ _ A1.out).mono ?_; rintro _ w1 ⟨rfl, hb⟩; have HB1 := ae.mk (aj (bT HB) hb); clear hb HB; have HB := HB1; clear HB1) | (go_at_call 31; refine (eP.calls k s _ _ A2.out).mono ?_; rintro _ w1 ⟨rfl, hb⟩; have HB1 := ae.mk (aj (bT HB) hb); clear hb HB; have HB := HB1; clear HB1))
  all_goals go_ret
  all_goals exact ⟨rfl, HB.out⟩
 rw [if_pos rfl] at h
 cases h
 go_wp2_with (first | (go_at_call 48; refine (gW.calls k s _ _ A1.out).mono ?_; rintro _ w1 ⟨rfl, hb⟩; have HB1 := ae.mk (aj (bT HB) hb); clear hb HB; have HB := HB1; clear HB1))
 go_ret
 exact ⟨rfl, HB.out⟩
/-- Words become tokens. -/
def fD (k : Nat) : List ByteArray → List S56 → Option (List S56)
 | [], out => some out
 | s :: ss, out => (oD k s).bind fun t => if out.length + 1 ≤ 3000000000000 then fD k ss (out ++ [⟨t, s, 0, 0⟩]) else none
theorem fD.mono (k : Nat) : ∀ (ss : List ByteArray) (out : List S56), LeO (fD k ss out) (fD (k + 1) ss out)
 | [], out => LeO.refl _
 | s :: ss, out => LeO.bind (oD.mono s k) (fun t => LeO.ite (fD.mono k ss _) (LeO.refl _))
theorem EE {k : Nat} {ss : List ByteArray} {i : Nat} {out : List S56} {r : List S56} (hi : i < ss.length) (h : fD k (ss.drop i) out = some r) : ∃ t, oD k (vW ByteArray.empty ss (i : Int)) = some t ∧ out.length + 1 ≤ 3000000000000 ∧ fD k (ss.drop (i + 1)) (out ++ [⟨t, vW ByteArray.empty ss (i : Int), 0, 0⟩]) = some r := by
 rw [List.drop_eq_getElem_cons hi, fD] at h
 obtain ⟨t, h1, h2⟩ := Option.bind_eq_some_iff.mp h
 have e : vW ByteArray.empty ss (i : Int) = ss[i] := by simp [vW, hi]
 rw [e]
 by_cases c : out.length + 1 ≤ 3000000000000
 ·rw [if_pos c] at h2
  exact ⟨t, h1, c, h2⟩
 rw [if_neg c] at h2
 cases h2
set_option maxHeartbeats 8000000 in
set_option maxRecDepth 100000 in
theorem Ji (k g : Nat) (l : List S40) (out r : List S56) (A : Option Addr) (c : Nat) (ss : List ByteArray) (w0 w : World) (hI : Wr w0 w g l out) (hB : Below w0.heap.size w0 w) (hs : RI Kd.string 9 w A ss) (h : fD k ss out = some r) :
 Calls Try.prog 64 #[.pointer (some ⟨g, 0, none⟩), .slice A ss.length c] w (kC w0 w g l r) := by
 have HS := (Ws.new hI hB).strs hs
 have H := ae.mk h
 clear h hI hB hs
 go_enter Try.func64, Try.ntmps64
 go_wp2
 go_loopw [9] (fun v9 w' => ∃ (i : Nat) (q : List S56), v9 = .int .i64 (i : Int) ∧ ae (i ≤ ss.length) ∧ ae (fD k (ss.drop i) q = some r) ∧ Ws w0 w w' g l q [] [] [(A, ss)]) (fun v9 _ => match v9 with | .int _ x => ss.length - x.toNat | _ => 0)
 case atStart => exact ⟨0, out, rfl, ⟨Nat.zero_le _⟩, H, wsT HS⟩
 case round =>
  clear HS H
  obtain ⟨i, q, rfl, HL, H, HS⟩ := hrel
  have HC := (HS.s _ (.head _)).1
  by_cases hi : i < ss.length
  ·have hd : decide ((i : Int) < (ss.length : Int)) = true := decide_eq_true (by omega)
   obtain ⟨t, ht, hM, H2⟩ := EE hi H.out
   have HT := ae.mk ht
   have HN := ae.mk H2
   have HMM := ae.mk hM
   obtain ⟨ad, rfl, hx⟩ := (Kd.jA (d := ByteArray.empty) HC).at_ (i : Int) (show (0 : Int) ≤ (i : Int) by omega) (show (i : Int) < ((ss.length : Nat) : Int) by omega)
   rw [Int.toNat_natCast] at hx
   have p3 := eq_true (show (0 : Int) ≤ (i : Int) by omega)
   have q3 := eq_true (show (i : Int) < (ss.length : Int) by omega)
   have q4 := eq_true hi
   obtain ⟨A0, c0, v, HV⟩ := HS.wr
   have hc1 := HV.g1
   have hf1 := HV.f 1
   have HV0 := ae.mk HV
   have hw1 : IntKind.i64.wrap ((i : Int) + 1) = (i : Int) + 1 := by have h2 : ss.length ≤ 9223372036854775807 := HC.2.1; rw [gB]; unfold wrap64; omega
   have HI := ae.mk hi
   clear ht H2 hM HC hi HV H
   go_wp2
   go_region_law (first | ((with_reducible refine DL (N := 20) rfl ?_); go_simp; refine (oD.calls k _ t _ HT.out).mono ?_; rintro _ w1 ⟨rfl, hb⟩; have HV1 := ae.mk (Wv.below (wvT HV0) hb); have HS1 := Ws.jT (wsT HS) hb; clear hc1 hf1 HV0 HS hb; have hc1 := HV1.out.g1; have hf1 := HV1.out.f 1; have HV0 := HV1; have HS := HS1; clear HV1 HS1; have hca : ∀ o, (w1.alloc o).cell? ⟨g, 1, none⟩ = some v := fun o => (HV0.out.alloc o).g1) | ((with_reducible refine DL (N := 24) rfl ?_); refine Oj (N := 24) (t := ⟨t, vW ByteArray.empty ss (i : Int), 0, 0⟩) (.tmp 17) (.tmp 23) rfl rfl Try.underlying33 yN HS HV0.out HMM.out (by rfl) rfl rfl ?_; clear hc1 hf1 HV0 HS hca; intro A' n' c' w' hc1 hf1 HS))
   all_goals go_wp2
   all_goals (go_roundw; (case rel => exact ⟨i + 1, _, by simp, ⟨by have := HI.out; omega⟩, HN, wsT HS⟩); (case measure => have := HI.out; show ss.length - ((i : Int) + 1).toNat < ss.length - ((i : Int)).toNat; omega))
  have hd : decide ((i : Int) < (ss.length : Int)) = false := decide_eq_false (by omega)
  have H2 := H.out
  rw [List.drop_eq_nil_of_le (by omega), fD] at H2
  cases H2
  have q4 := eq_false hi
  clear hi
  go_wp2
  go_end0
  exact (wsT HS).back
end Go.Proofs.Ytlenihbmafkegaa.Q
end
section
set_option linter.unusedVariables false
set_option linter.unusedSimpArgs false
namespace Go.Proofs.Ytlenihbmafkegaa
open Go.RowKit Go.Proofs.YtlenihbmafkegaaW.PrintWords Go.Proofs.YtlenihbmafkegaaW.PrintLast Go.Proofs.YtlenihbmafkegaaW.PrintMore
/-- The digits of a number, the least one last, ahead of others. -/
def rU : Nat → Nat → List Int → List Int
 | 0, _, acc => acc
 | f + 1, u, acc => if u / 10 = 0 then (48 + (u : Int) % 10) :: acc else rU f (u / 10) ((48 + (u : Int) % 10) :: acc)
/-- The array, its last cells being these. -/
def jJ (acc : List Int) : Array Value := ((List.replicate (20 - acc.length) (0 : Int) ++ acc).map (Value.int .u8)).toArray
theorem yY : jJ [] = #[.int .u8 0, .int .u8 0, .int .u8 0, .int .u8 0, .int .u8 0, .int .u8 0, .int .u8 0, .int .u8 0, .int .u8 0, .int .u8 0, .int .u8 0, .int .u8 0, .int .u8 0, .int .u8 0, .int .u8 0, .int .u8 0, .int .u8 0, .int .u8 0, .int .u8 0, .int .u8 0] := by rfl
theorem yX (acc : List Int) (x : Int) (h : acc.length < 20) : (jJ acc).setIfInBounds (20 - acc.length - 1) (.int .u8 x) = jJ (x :: acc) := by
 unfold jJ
 obtain ⟨m, hm⟩ : ∃ m, 20 - acc.length = m + 1 := ⟨20 - acc.length - 1, by omega⟩
 have h2 : 20 - (x :: acc).length = m := by simp; omega
 rw [h2, hm]
 apply Array.ext'
 simp only [Array.toList_setIfInBounds, Nat.add_sub_cancel, List.map_append, List.map_cons]
 rw [List.replicate_succ', List.map_append, List.append_assoc, List.set_append]
 simp
theorem xx (acc : List Int) (i : Nat) (hi : i < 20 - acc.length) : (jJ acc)[i]? = some (.int .u8 0) := by
 unfold jJ
 have h : i < (List.replicate (20 - acc.length) (Value.int .u8 0)).length := by simpa using hi
 simp [List.getElem?_append_left, hi]
theorem yZ (acc : List Int) (h : acc.length ≤ 20) (i : Nat) (hi : i < acc.length) : (jJ acc)[20 - acc.length + i]? = some (.int .u8 (acc.getD i 0)) := by
 unfold jJ
 simp [List.getElem?_append_right, hi]
/-- A whole array is stored that is there already. -/
theorem Bo {P : Program} {ops : Array Oper} {Q : Exit → Act → World → Prop} {rest : List Oper} {oi : Oper} {a : Act} {W : World} (p x : Operand) (T : TypeId) {gb : Nat} {c : Array Value} (hd : oi.dst = none) (hop : oi.op = .store T p x) (hg : oi.guard = none)
 (hp : a.eval p = .pointer (some ⟨gb, 0, none⟩)) (hx : a.eval x = .agg c) (hb : W.heap[gb]? = some (.cells c T (0, 0))) (hi : (P.info? T).map (·.size) = some c.size) (h1 : c.all (·.oneCell') = true) (h : wpList P ops Q rest a W) : wpList P ops Q (oi :: rest) a W := by
 have hs : W.setRow gb c = W := by
  simp only [World.setRow]
  congr 1
  apply Array.ext_getElem?
  intro i
  rw [Array.getElem?_modify]
  by_cases e : gb = i
  ·subst e
   simp [hb]
  simp [e]
 have hr := run_storeVar_row (P := P) W gb T T c c hb hi rfl h1
 rw [hs] at hr
 have hrun : (execOp a.eval oi).run P W = .ok .skip W := by
  unfold execOp
  simp [hop, hp, hx, Instr.storeAt, Instr.sureAddr, hr, Result.andThen]
 refine wpList_plain hg fun K hK => ?_
 unfold Oper.wp
 rw [hrun, Oper.upon_skip, hd]
 exact hK _ _ h
set_option maxHeartbeats 4000000 in
set_option maxRecDepth 100000 in
theorem CJ (n : Int) (w : World) (hn : 0 ≤ n) (hn2 : n ≤ 9223372036854775807) : Calls Try.prog 80 #[.int .i64 n] w fun e w' => e = .returned (.string (strOfNums (rU 20 n.natAbs []))) ∧ Below w.heap.size w w' := by
 obtain ⟨m, rfl⟩ : ∃ m : Nat, n = m := ⟨n.toNat, by omega⟩
 have hm : m ≤ 9223372036854775807 := by omega
 have HR : Hid (rU 20 (m : Int).natAbs [] = rU 20 m []) := Lib.hid (by simp)
 rw [HR.out]
 clear HR
 have HB := ae.mk (Below.refl w.heap.size w)
 go_enter Try.func80, Try.ntmps80
 go_wp2_with (first | ((with_reducible refine bI (N := 3) rfl ?_); refine dW ?hg (N := 3) ?hd (cs := jJ []) (t := 106) ?hr ?_; (case hd => rfl); (case hg => rfl); (case hr => rw [yY]; first | (go_simp; done) | (go_simp; rfl)); intro gb hg w_ hbox hb; have n0_ := ae.mk (aj Z14 hb); have n1_ := ae.mk (hbox); have n2_ := ae.mk ((by rw [hg]; exact (aG Z14) : w.heap.size ≤ gb)); clear HB; have HB := n0_; have BK := n1_; have GE := n2_; clear n0_ n1_ n2_; clear hb hbox hg; refine Bo (.tmp 3) (.tmp 5) 106 (c := jJ []) rfl rfl rfl rfl rfl BK.out (by kernel_rfl) (by kernel_rfl) ?_))
 go_loopw [0, 4] (fun v5 v4 w' => ∃ (acc : List Int) (a u : Nat), v4 = .int .i64 ((a : Int) + 1) ∧ v5 = .int .i64 (u : Int) ∧ Hid (acc.length + a = 19 ∧ 1 ≤ a ∧ u < 10 ^ a ∧ u ≤ 9223372036854775807) ∧ Hid (w'.heap[gb]? = some (.cells (jJ acc) 106 (0, 0))) ∧ Hid (rU (a + 1) u acc = rU 20 m []) ∧ ae (Below w.heap.size w w')) (fun _ v4 _ => match v4 with | .int _ x => x.toNat | _ => 0)
 case atStart => exact ⟨[], 19, m, rfl, rfl, Lib.hid ⟨rfl, by omega, by omega, by omega⟩, Lib.hid BK.out, Lib.hid rfl, HB⟩
 case round =>
  obtain ⟨acc, a, u, rfl, rfl, H1, BK1, HD, HB1⟩ := hrel
  clear BK HB
  obtain ⟨hla, ha1, hua, hum⟩ := H1.out
  clear H1
  have ha := eq_true (show (a : Int) < 20 by omega)
  have h20 := eq_false (show ¬ (20 = a) by omega)
  have ha0 := eq_true (show (0 : Int) ≤ (a : Int) by omega)
  have hal := eq_true (show (a : Int) ≤ 20 by omega)
  have hw1 : wrap64 (a : Int) = a := by unfold wrap64; omega
  have h2al : 20 - acc.length - 1 = a := by omega
  have hcz0 : wr.cell? ⟨gb, a, none⟩ = some (.int .u8 0) := by
   rw [ah BK1.out a]
   exact xx acc a (by omega)
  have hfz0 := af BK1.out a
  have hq : wrap64 ((u : Int) / 10) = (u : Int) / 10 := by
   unfold wrap64; omega
  have hx1 : 10 ^ a = 10 * 10 ^ (a - 1) := by
   obtain ⟨b, rfl⟩ : ∃ b, a = b + 1 := ⟨a - 1, by omega⟩
   rw [Nat.pow_succ]; simp; omega
  have BK2 : Hid ((wr.setCell ⟨gb, a, none⟩ (.int .u8 (48 + (u : Int) % 10))).heap[gb]? = some (.cells (jJ ((48 + (u : Int) % 10) :: acc)) 106 (0, 0))) :=
   Lib.hid (dE BK1.out a _ (by rw [← yX acc _ (by omega), h2al]))
  have HLEN : Hid (((48 + (u : Int) % 10) :: acc).length = 20 - a) := Lib.hid (by simp; omega)
  have HCONV : Hid (∀ i, i < 20 - a → (wr.setCell ⟨gb, a, none⟩ (.int .u8 (48 + (u : Int) % 10))).cell? ⟨gb, a + i, none⟩ = some (.int .u8 (((48 + (u : Int) % 10) :: acc).getD i 0))) := Lib.hid (fun i hi => by
   rw [ah BK2.out (a + i)]
   have := yZ ((48 + (u : Int) % 10) :: acc) (by rw [HLEN.out]; omega) i (by rw [HLEN.out]; exact hi)
   rw [HLEN.out, show 20 - (20 - a) + i = a + i by omega] at this
   exact this)
  have HU : Hid (1 ≤ a ∧ u < 10 ^ a ∧ 10 ^ a = 10 * 10 ^ (a - 1) ∧ acc.length + a = 19 ∧ u ≤ 9223372036854775807) := Lib.hid ⟨ha1, hua, hx1, hla, hum⟩
  clear hla ha1 hua hx1 h2al
  by_cases c : u / 10 = 0
  ·have hc : ((u : Int) / 10 == 0) = true := beq_iff_eq.mpr (by omega)
   have HR : Hid (rU 20 m [] = (48 + (u : Int) % 10) :: acc) := Lib.hid (by rw [← HD.out]; unfold rU; rw [if_pos c])
   rw [HR.out]
   have hconv := run_convert_bytes_arg (P := Try.prog) _ 82 5 Try.underlying82 Try.underlying5 gb a (20 - a) (20 - a) _ HLEN.out HCONV.out 9 Try.underlying9
   clear c HD
   go_wp2
   go_ret
   exact ⟨by rw [HR.out]; rfl, gQ HB1.out GE.out⟩
  have hc : ((u : Int) / 10 == 0) = false := beq_eq_false_iff_ne.mpr (by omega)
  have HD2 : Hid (rU a (u / 10) ((48 + (u : Int) % 10) :: acc) = rU 20 m []) := Lib.hid (by rw [← HD.out]; rw [rU]; rw [if_neg c])
  have HC := Lib.hid c
  clear c HD
  go_wp2
  go_roundw
  case rel =>
   have HU := HU.out
   have HC := HC.out
   have HL := HLEN.out
   have : 10 ^ (a - 1) ≤ 0 ∨ 0 < 10 ^ (a - 1) := by omega
   have ha2 : 2 ≤ a := by
    rcases Nat.lt_or_ge a 2 with h | h
    ·obtain rfl : a = 1 := by omega
     simp at HU; omega
    exact h
   refine ⟨_, a - 1, u / 10, ?_, ?_, Lib.hid ⟨by simp; omega, by omega, by omega, by omega⟩, BK2, ?_, ?_⟩
   ·rw [hw1]; congr 1; omega
   ·exact rfl
   ·rw [show a - 1 + 1 = a by omega]; exact HD2
   exact ae.mk (gQ HB1.out GE.out)
  case measure => rw [hw1]; simp only []; omega
end Go.Proofs.Ytlenihbmafkegaa
end
section
set_option linter.unusedVariables false
set_option linter.unusedSimpArgs false
namespace Go.Proofs.Ytlenihbmafkegaa.Q
open Go Go.RowKit Go.Proofs.YtlenihbmafkegaaW.PrintWords Go.Proofs.YtlenihbmafkegaaW.PrintLast Go.Proofs.YtlenihbmafkegaaW.PrintMore
/-- A number in digits. -/
def JM (n : Int) : ByteArray := strOfNums (rU 20 n.natAbs [])
def BM (n : Int) (out : List S56) : Option (List S56) := if 0 ≤ n ∧ n ≤ 9223372036854775807 ∧ out.length + 1 ≤ 3000000000000 then some (out ++ [⟨2, JM n, n, 0⟩]) else none
set_option maxHeartbeats 8000000 in
set_option maxRecDepth 100000 in
theorem LX (g : Nat) (l : List S40) (out r : List S56) (n : Int) (w0 w : World) (hI : Wr w0 w g l out) (hB : Below w0.heap.size w0 w) (h : BM n out = some r) :
 Calls Try.prog 65 #[.pointer (some ⟨g, 0, none⟩), .int .i64 n] w (kC w0 w g l r) := by
 unfold BM at h
 by_cases c : 0 ≤ n ∧ n ≤ 9223372036854775807 ∧ out.length + 1 ≤ 3000000000000
 ·rw [if_pos c] at h
  cases h
  have HS := Ws.new hI hB
  obtain ⟨A0, c0, v, HV⟩ := hI
  have hc1 := HV.g1
  have hf1 := HV.f 1
  have HV0 := ae.mk HV
  have HC := ae.mk c
  have HD := fun w => ae.mk (CJ n w c.1 c.2.1)
  clear c HV hB
  obtain ⟨t, ht⟩ : ∃ t, t = JM n := ⟨_, rfl⟩
  have HD2 : ae (∀ w, Calls Try.prog 80 #[.int .i64 n] w fun e w' => e = .returned (.string t) ∧ Below w.heap.size w w') := ⟨fun w => by rw [ht]; exact (HD w).out⟩
  rw [← ht]
  clear HD ht
  go_enter Try.func65, Try.ntmps65
  go_region_law (first | ((with_reducible refine DL (N := 10) rfl ?_); go_simp; refine (HD2.out _).mono ?_; rintro _ w1 ⟨rfl, hb⟩; have HV1 := ae.mk (Wv.below (wvT HV0) hb); have HS1 := Ws.jT (wsT HS) hb; clear hc1 hf1 HV0 HS hb; have hc1 := HV1.out.g1; have hf1 := HV1.out.f 1; have HV0 := HV1; have HS := HS1; clear HV1 HS1; have hca : ∀ o, (w1.alloc o).cell? ⟨g, 1, none⟩ = some v := fun o => (HV0.out.alloc o).g1) | ((with_reducible refine DL (N := 14) rfl ?_); refine Oj (N := 14) (t := ⟨2, t, n, 0⟩) (.tmp 8) (.tmp 13) rfl rfl Try.underlying33 yN HS HV0.out HC.out.2.2 (by rfl) rfl rfl ?_; clear hc1 hf1 HV0 HS hca; intro A' n' c' w' hc1 hf1 HS))
  all_goals (go_end0; exact (wsT HS).back)
 rw [if_neg c] at h
 cases h
end Go.Proofs.Ytlenihbmafkegaa.Q
end
section
set_option linter.unusedVariables false
set_option linter.unusedSimpArgs false
namespace Go.Proofs.Ytlenihbmafkegaa.Q
open Go Go.RowKit Go.Proofs.YtlenihbmafkegaaW.PrintWords Go.Proofs.YtlenihbmafkegaaW.PrintLast Go.Proofs.YtlenihbmafkegaaW.PrintMore
/-- What node writes: of these nodes, at this place, behind these tokens. -/
abbrev kz := List S40 → Int → List S56 → Option (List S56)
def jP (F : kz) : Prop := ∀ g l out i r w0 w, Wr w0 w g l out → Below w0.heap.size w0 w → F l i out = some r → Calls Try.prog 22 #[.pointer (some ⟨g, 0, none⟩), .int .i64 i] w (kC w0 w g l r)
def I9 (F F' : kz) : Prop := ∀ l i out, LeO (F l i out) (F' l i out)
def ig (F : kz) (k : Nat) (l : List S40) (i : Int) (ws : List ByteArray) (out : List S56) : Option (List S56) :=
 (fD k ws out).bind fun a => (F l i a).bind fun b => (fD k [⟨#[59]⟩] b).bind some
def mD (F : kz) (k : Nat) (l : List S40) (i j : Int) (out : List S56) : Option (List S56) :=
 (F l i out).bind fun a => (fD k [⟨#[91]⟩] a).bind fun b => (F l j b).bind fun c => (fD k [⟨#[93]⟩] c).bind some
/-- Trees behind one another; c: with commas between; f: there is none yet. -/
def jW (F : kz) (k : Nat) (l : List S40) (c : Bool) : Bool → List Int → List S56 → Option (List S56)
 | _, [], out => some out
 | f, x :: xs, out => ((if c = true ∧ f = false then fD k [⟨#[44]⟩] out else some out).bind fun a => (F l x a).bind fun b => jW F k l c false xs b)
def rJ (F : kz) (k : Nat) (l : List S40) (xs : List Int) (out : List S56) : Option (List S56) :=
 (fD k [⟨#[40]⟩] out).bind fun a => (jW F k l true true xs a).bind fun b => (fD k [⟨#[41]⟩] b).bind some
def iQ (F : kz) (k : Nat) (l : List S40) (xs : List Int) (out : List S56) : Option (List S56) :=
 if 0 < xs.length then (rJ F k l (xs.take (xs.length - 1)) out).bind fun a => (F l (xs.getD (xs.length - 1) 0) a).bind some else none
theorem RI.OI {W : World} {A : Option Addr} {xs : List Int} {c : Nat} (h : RI (Kd.int .i64) 3 W A xs) (hl : 0 < xs.length) (hc : xs.length ≤ c) : ∃ A2, (∀ W, (Instr.slice 45 (.slice A xs.length c) (some (.int .i64 1)) none none).run Try.prog W = .ok (.slice A2 (xs.drop 1).length (c - 1)) W) ∧ RI (Kd.int .i64) 3 W A2 (xs.drop 1) := by
 obtain ⟨i0, hi0, _, hsz, _⟩ := info_parts info3
 have hlen : (xs.drop 1).length = xs.length - 1 := List.length_drop
 refine ⟨if c = 1 then A else A.map (·.add 1), fun W => ?_, ?_, fun hn => ?_⟩
 ·have hu : Try.prog.underlying 45 = some (.slice (Try.prog.elem 45)) := by
   have hel : Try.prog.elem 45 = 3 := by simp [Program.elem, Try.underlying45]
   rw [hel]; exact Try.underlying45
  have hel : Try.prog.elem 45 = 3 := by simp [Program.elem, Try.underlying45]
  rw [run_slice_l W 45 A xs.length c hu .i64 1 (by decide) (by omega), hel, hlen]
  simp [sizeOf, typeInfo, hi0, hsz, sliced, Result.andThen]
 ·have := (Kd.jA (d := (0 : Int)) h.1).KJ (c := c) 1 hl hc
  rw [hlen]
  exact Kd.lN (h1 := fun _ => rfl) this
 obtain ⟨ad, cells, rfl, hb⟩ := h.2 hl
 refine ⟨if c = 1 then ad else ad.add 1, cells, by split <;> simp, ?_⟩
 split
 ·exact hb
 rw [show (ad.add 1).block = ad.block by unfold Addr.add; split <;> rfl]; exact hb
theorem RI.OH {W : World} {A : Option Addr} {xs : List Int} {c : Nat} (h : RI (Kd.int .i64) 3 W A xs) (hl : 0 < xs.length) (hc : xs.length ≤ c) : (∀ W, (Instr.slice 45 (.slice A xs.length c) none (some (.int .i64 ((xs.length : Int) - 1))) none).run Try.prog W = .ok (.slice A (xs.take (xs.length - 1)).length c) W) ∧ RI (Kd.int .i64) 3 W A (xs.take (xs.length - 1)) := by
 obtain ⟨i0, hi0, _, hsz, _⟩ := info_parts info3
 obtain ⟨h1, h2, _⟩ := qY (P := Try.prog) (Value.int .i64) 0 45 3 .i64 Try.underlying45 hi0 hsz A c xs ((xs.length : Int) - 1) (by omega) (by omega) hc
 rw [show ((xs.length : Int) - 1).toNat = xs.length - 1 by omega] at h1 h2
 exact ⟨h1, Kd.lN (h1 := fun _ => rfl) (h2 _ (Kd.jA h.1)), fun hn => h.2 hl⟩
theorem RI.k0 {W : World} {ad : Addr} {xs : List Int} (h : RI (Kd.int .i64) 3 W (some ad) xs) (hj : 0 < xs.length) : W.cell? ad = some (.int .i64 (xs.getD 0 0)) := by
 obtain ⟨ad', h1, h2⟩ := h.kid 0 hj
 cases h1
 rwa [Addr.add_zero'] at h2
theorem RI.k (j : Nat) {W : World} {ad : Addr} {xs : List Int} (h : RI (Kd.int .i64) 3 W (some ad) xs) (hj : j + 1 < xs.length) : W.cell? ⟨ad.block, ad.off + (j + 1), none⟩ = some (.int .i64 (xs.getD (j + 1) 0)) := by
 obtain ⟨ad', h1, h2⟩ := h.kid (j + 1) hj
 cases h1
 simpa [Addr.add] using h2
theorem RI.ad {W : World} {A : Option Addr} {xs : List Int} (h : RI (Kd.int .i64) 3 W A xs) (hj : 0 < xs.length) : ∃ ad, A = some ad := by
 obtain ⟨ad, _, h1, _⟩ := h.2 hj
 exact ⟨ad, h1⟩
theorem Ws.cb {w0 w W : World} {g : Nat} {l : List S40} {out : List S56} {bs : List (Nat × Array Value × TypeId)} {is ss} (h : Ws w0 w W g l out bs is ss) {b : Nat} {cs : Array Value} {t : TypeId} (hm : (b, cs, t) ∈ bs) (i : Nat) : W.cell? ⟨b, i, none⟩ = cs[i]? := ah (h.b _ hm).1 i
theorem Ws.renew {w0 w W : World} {g : Nat} {l : List S40} {out : List S56} {bs : List (Nat × Array Value × TypeId)} {is ss} (h : Ws w0 w W g l out bs is ss) : Ws w0 W W g l out bs is ss := ⟨h.below.size, h.wr, h.below, KT.refl _ _, h.b, h.i, h.s⟩
section
variable {P : Program} {ops : Array Oper} {Q : Exit → Act → World → Prop} {w0 w W : World} {g : Nat} {l : List S40} {out : List S56} {bs : List (Nat × Array Value × TypeId)} {is : List (Option Addr × List Int)} {ss : List (Option Addr × List ByteArray)}
 {rest : List Oper} {oi : Oper} {a : Act} {fn : Func} {ar : Array Operand} {ts : Array TypeId} {args : Array Value} {ρ β : Type} {R : β}
theorem fP {f : FuncId} {o : Obj} {post : Ending → World → Prop} (h : Calls P f args (W.alloc o) post) : Calls P f args (W.alloc o) post := h
theorem fO {f : FuncId} {post : Ending → World → Prop} (h : Calls P f args W.drew post) : Calls P f args W.drew post := h
/-- The same, where the call alone is asked, and the words are made just there. -/
theorem jf {post : Ending → World → Prop} {k n : Nat} {c : Array Value} {ws : List ByteArray} {K : List S56 → Option β} (HS : Ws w0 w W g l out bs is ss) (H : ae ((fD k ws out).bind K = some R)) (hc : c = (ws.map Value.string).toArray) (hn : n = ws.length) (hm : n ≤ 1000) {bk : Nat} (hbk : bk = W.heap.size)
 (h : ∀ q w', Ws w0 w w' g l q bs is ss → ae (K q = some R) → post (.returned (.tuple #[])) w') :
 Calls Try.prog 64 #[.pointer (some ⟨g, 0, none⟩), .slice (some ⟨bk, 0, none⟩) n n] (W.alloc (.cells c 9)) post := by
 subst hn hbk
 have HS1 := HS.lit ws hc (by omega)
 exact wCc HS1 H (fun q HS => Ji k g l out q _ ws.length ws w0 _ HS.wr HS.below (HS.s _ (.head _))) (fun q w' HS H => h q w' ⟨HS.z, HS.wr, HS.below, HS.kt, HS.b, HS.i, fun p hp => HS.s p (.tail _ hp)⟩ H)
theorem jw {post : Ending → World → Prop} {k n : Nat} {c : Array Value} {ws : List ByteArray} {K : List S56 → Option β} (HS : Ws w0 w W g l out bs is ss) (H : ae ((fD k ws out).bind K = some R)) (hc : c = (ws.map Value.string).toArray) (hn : n = ws.length) (hm : n ≤ 1000) {bk : Nat} (hbk : bk = W.heap.size)
 (h : ∀ q w', Ws w0 w w' g l q bs is ss → ae (K q = some R) → post (.returned (.tuple #[])) w') :
 Calls Try.prog 64 #[.pointer (some ⟨g, 0, none⟩), .slice (some ⟨bk, 0, none⟩) n n] (W.alloc (.cells c 9)).drew post := by
 subst hn hbk
 have HS1 := (HS.lit ws hc (by omega)).drew
 exact wCc HS1 H (fun q HS => Ji k g l out q _ ws.length ws w0 _ HS.wr HS.below (HS.s _ (.head _))) (fun q w' HS H => h q w' ⟨HS.z, HS.wr, HS.below, HS.kt, HS.b, HS.i, fun p hp => HS.s p (.tail _ hp)⟩ H)
end
set_option maxHeartbeats 8000000 in
set_option maxRecDepth 100000 in
theorem zf (F : kz) (HF : jP F) (k g : Nat) (l : List S40) (out r : List S56) (i : Int) (A : Option Addr) (c : Nat) (ss : List ByteArray) (w0 w : World) (hI : Wr w0 w g l out) (hB : Below w0.heap.size w0 w) (hs : RI Kd.string 9 w A ss) (h : ig F k l i ss out = some r) :
 Calls Try.prog 62 #[.pointer (some ⟨g, 0, none⟩), .int .i64 i, .slice A ss.length c] w (kC w0 w g l r) := by
 unfold ig at h
 have HS := (Ws.new hI hB).strs hs
 have H := ae.mk h
 clear h hI hB hs
 go_enter Try.func62, Try.ntmps62
 go_wp2_with (first | (go_at_call 64; refine jf (wsT HS) H rfl rfl (by decide) rfl ?_; clear HS H; intro q w' HS H; (try dsimp only at H)) | (go_at_call 64; refine wCc (wsT HS) H (fun q HS => Ji k g l _ q A c ss w0 _ HS.wr HS.below (HS.s _ (.head _))) ?_; clear HS H; intro q w' HS H; (try dsimp only at H)) | (go_at_call 22; refine wCc (wsT HS) H (fun q HS => HF g l _ i q w0 _ HS.wr HS.below) ?_; clear HS H; intro q w' HS H; (try dsimp only at H)) | ((with_reducible refine gC 22 rfl ?_); refine wC 22 rfl Try.func22 (wsT HS) H (fun q HS => HF g l _ i q w0 _ HS.wr HS.below) ?_; clear HS H; intro q w' HS H; (try dsimp only at H)) | ((with_reducible refine gC 64 rfl ?_); refine wC (N := 8) 64 rfl Try.func64 (wsT HS) H (fun q HS => Ji k g l _ q A c ss w0 _ HS.wr HS.below (HS.s _ (.head _))) ?_; clear HS H; intro q w' HS H; (try dsimp only at H)))
 have h_ := H.out; cases h_
 go_end0
 exact (wsT HS).back
section
variable {P : Program} {ops : Array Oper} {Q : Exit → Act → World → Prop} {w0 w W : World} {g : Nat} {l : List S40} {out : List S56} {bs : List (Nat × Array Value × TypeId)} {is : List (Option Addr × List Int)} {ss : List (Option Addr × List ByteArray)}
 {rest : List Oper} {oi : Oper} {a : Act} {β : Type} {R : β}
/-- A call of closed, the words being made just there. -/
theorem nG {post : Ending → World → Prop} (F : kz) (HF : jP F) {k n : Nat} {i : Int} {c : Array Value} {ws : List ByteArray} {K : List S56 → Option β} (HS : Ws w0 w W g l out bs is ss) (H : ae ((ig F k l i ws out).bind K = some R)) (hc : c = (ws.map Value.string).toArray) (hn : n = ws.length) (hm : n ≤ 1000) {bk : Nat} (hbk : bk = W.heap.size)
 (h : ∀ q w', Ws w0 w w' g l q bs is ss → ae (K q = some R) → post (.returned (.tuple #[])) w') :
 Calls Try.prog 62 #[.pointer (some ⟨g, 0, none⟩), .int .i64 i, .slice (some ⟨bk, 0, none⟩) n n] (W.alloc (.cells c 9)) post := by
 subst hn hbk
 have HS1 := HS.lit ws hc (by omega)
 exact wCc HS1 H (fun q HS => zf F HF k g l out q i _ ws.length ws w0 _ HS.wr HS.below (HS.s _ (.head _))) (fun q w' HS H => h q w' ⟨HS.z, HS.wr, HS.below, HS.kt, HS.b, HS.i, fun p hp => HS.s p (.tail _ hp)⟩ H)
theorem nD {post : Ending → World → Prop} (F : kz) (HF : jP F) {k n : Nat} {i : Int} {c : Array Value} {ws : List ByteArray} {K : List S56 → Option β} (HS : Ws w0 w W g l out bs is ss) (H : ae ((ig F k l i ws out).bind K = some R)) (hc : c = (ws.map Value.string).toArray) (hn : n = ws.length) (hm : n ≤ 1000) {bk : Nat} (hbk : bk = W.heap.size)
 (h : ∀ q w', Ws w0 w w' g l q bs is ss → ae (K q = some R) → post (.returned (.tuple #[])) w') :
 Calls Try.prog 62 #[.pointer (some ⟨g, 0, none⟩), .int .i64 i, .slice (some ⟨bk, 0, none⟩) n n] (W.alloc (.cells c 9)).drew post := by
 subst hn hbk
 have HS1 := (HS.lit ws hc (by omega)).drew
 exact wCc HS1 H (fun q HS => zf F HF k g l out q i _ ws.length ws w0 _ HS.wr HS.below (HS.s _ (.head _))) (fun q w' HS H => h q w' ⟨HS.z, HS.wr, HS.below, HS.kt, HS.b, HS.i, fun p hp => HS.s p (.tail _ hp)⟩ H)
theorem nC {post : Ending → World → Prop} (F : kz) (HF : jP F) {k : Nat} {i : Int} {K : List S56 → Option β} (HS : Ws w0 w W g l out bs is ss) (H : ae ((ig F k l i [] out).bind K = some R))
 (h : ∀ q w', Ws w0 w w' g l q bs is ss → ae (K q = some R) → post (.returned (.tuple #[])) w') :
 Calls Try.prog 62 #[.pointer (some ⟨g, 0, none⟩), .int .i64 i, .slice none 0 0] W post :=
 wCc HS H (fun q HS => zf F HF k g l out q i none 0 [] w0 _ HS.wr HS.below ⟨Kd.uh _ _, fun h => absurd h (by decide)⟩) h
/-- A value is boxed. -/
theorem Fv {N : Tmp} {cs : Array Value} {t : TypeId} (HS : Ws w0 w W g l out bs is ss) (hrun : (execOp a.eval oi).run P W = .ok (.value (.pointer (some ⟨W.heap.size, 0, none⟩))) (W.alloc (.cells cs t (0, 0))))
 (h : ∀ gb w', Ws w0 w w' g l out ((gb, cs, t) :: bs) is ss → wpList P ops Q rest (a.put (some N) (.pointer (some ⟨gb, 0, none⟩))) w')
 (h1 : t ≠ 56 := by decide) (h2 : t ≠ 52 := by decide) (hd : oi.dst = some N := by rfl) (hg : oi.guard = none := by rfl) : wpList P ops Q (oi :: rest) a W := by
 refine dW hg hd hrun ?_
 intro gb hgb w1 hc hb
 rw [hd]
 exact h gb w1 ((HS.jT hb).box hc h1 h2)
end
end Go.Proofs.Ytlenihbmafkegaa.Q
end
section
set_option linter.unusedVariables false
set_option linter.unusedSimpArgs false
namespace Go.Proofs.Ytlenihbmafkegaa.Q
open Go Go.RowKit Go.Proofs.YtlenihbmafkegaaW.PrintWords Go.Proofs.YtlenihbmafkegaaW.PrintLast Go.Proofs.YtlenihbmafkegaaW.PrintMore
set_option maxHeartbeats 8000000 in
set_option maxRecDepth 100000 in
theorem Hf (F : kz) (HF : jP F) (k g : Nat) (l : List S40) (out r : List S56) (i j : Int) (w0 w : World) (hI : Wr w0 w g l out) (hB : Below w0.heap.size w0 w) (h : mD F k l i j out = some r) :
 Calls Try.prog 63 #[.pointer (some ⟨g, 0, none⟩), .int .i64 i, .int .i64 j] w (kC w0 w g l r) := by
 unfold mD at h
 have HS := Ws.new hI hB
 have H := ae.mk h
 clear h hI hB
 go_enter Try.func63, Try.ntmps63
 go_wp2_with (first | (go_at_call 64; (first | ((with_reducible refine fO ?_); refine jw (wsT HS) H rfl rfl (Nat.le_of_ble_eq_true rfl) rfl ?_) | ((with_reducible refine fP ?_); refine jf (wsT HS) H rfl rfl (Nat.le_of_ble_eq_true rfl) rfl ?_)); clear HS H; intro q w' HS H; (try dsimp only at H)) | (go_at_call 22; refine wCc (wsT HS) H (fun q HS => HF g l _ _ q w0 _ HS.wr HS.below) ?_; clear HS H; intro q w' HS H; (try dsimp only at H)) | ((with_reducible refine gC 22 rfl ?_); refine wC 22 rfl Try.func22 (wsT HS) H (fun q HS => HF g l _ _ q w0 _ HS.wr HS.below) ?_; clear HS H; intro q w' HS H; (try dsimp only at H)))
 have h_ := H.out; cases h_; go_end0; exact (wsT HS).back
theorem E8 {F : kz} {k : Nat} {l : List S40} {c : Bool} {xs : List Int} {i : Nat} {out r : List S56} (hi : i < xs.length) (h : jW F k l c (decide (i = 0)) (xs.drop i) out = some r) :
 ((if c = true ∧ decide (i = 0) = false then fD k [⟨#[44]⟩] out else some out).bind fun a => (F l (xs.getD i 0) a).bind fun b => jW F k l c (decide (i + 1 = 0)) (xs.drop (i + 1)) b) = some r := by
 rw [List.drop_eq_getElem_cons hi, jW] at h
 have e : xs.getD i 0 = xs[i] := by simp [hi]
 rw [e]
 simpa using h
set_option maxHeartbeats 8000000 in
set_option maxRecDepth 100000 in
theorem LG (F : kz) (HF : jP F) (k g : Nat) (l : List S40) (out r : List S56) (A : Option Addr) (c : Nat) (xs : List Int) (w0 w : World) (hI : Wr w0 w g l out) (hB : Below w0.heap.size w0 w) (hs : RI (Kd.int .i64) 3 w A xs) (h : rJ F k l xs out = some r) :
 Calls Try.prog 67 #[.pointer (some ⟨g, 0, none⟩), .slice A xs.length c] w (kC w0 w g l r) := by
 unfold rJ at h
 have HS := (Ws.new hI hB).int hs
 have H := ae.mk h
 clear h hI hB hs
 go_enter Try.func67, Try.ntmps67
 go_wp2_with (first | (go_at_call 64; (first | ((with_reducible refine fO ?_); refine jw (wsT HS) H rfl rfl (Nat.le_of_ble_eq_true rfl) rfl ?_) | ((with_reducible refine fP ?_); refine jf (wsT HS) H rfl rfl (Nat.le_of_ble_eq_true rfl) rfl ?_)); clear HS H; intro q w' HS H; (try dsimp only at H)))
 go_loopw [11] (fun v11 w' => ∃ (i : Nat) (q : List S56), v11 = .int .i64 (i : Int) ∧ ae (i ≤ xs.length) ∧ ae (((jW F k l true (decide (i = 0)) (xs.drop i) q).bind fun b => (fD k [⟨#[41]⟩] b).bind some) = some r) ∧ Ws w0 w w' g l q [] [(A, xs)] []) (fun v11 _ => match v11 with | .int _ x => xs.length - x.toNat | _ => 0)
 case atStart => exact ⟨0, q, rfl, ⟨Nat.zero_le _⟩, H, wsT HS⟩
 case round =>
  clear HS H
  obtain ⟨i, q, rfl, HL, H, HS⟩ := hrel
  have h2 : xs.length ≤ 9223372036854775807 := (HS.i _ (.head _)).1.2.1
  by_cases hi : i < xs.length
  ·obtain ⟨b, hb1, hb2⟩ := Option.bind_eq_some_iff.mp H.out
   replace H := ae.mk (E8 hi hb1)
   have HB2 := ae.mk hb2
   clear hb1 hb2
   have hd : decide ((i : Int) < (xs.length : Int)) = true := decide_eq_true (by omega)
   have hw1 : IntKind.i64.wrap ((i : Int) + 1) = (i : Int) + 1 := by rw [gB]; unfold wrap64; omega
   obtain ⟨ad, rfl, hx⟩ := (HS.i _ (.head _)).kid i hi
   obtain ⟨x, ex⟩ : ∃ x, x = xs.getD i 0 := ⟨_, rfl⟩
   rw [← ex] at hx H
   clear ex
   have p3 := eq_true (show (0 : Int) ≤ (i : Int) by omega)
   have q3 := eq_true (show (i : Int) < (xs.length : Int) by omega)
   have q4 := eq_true hi
   have HI := ae.mk hi
   clear hi h2
   rcases Nat.eq_zero_or_pos i with h0 | h0
   ·subst h0
    simp only [decide_true, Bool.true_eq_false, and_false, if_false, Option.bind_some] at H
    have hx' := hx
    rw [Addr.add_zero'] at hx'
    go_wp2_with (first | (go_at_call 22; refine wCc (wsT HS) H (fun q HS => HF g l _ _ q w0 _ HS.wr HS.below) ?_; clear HS H; intro q w' HS H; (try dsimp only at H)) | ((with_reducible refine gC 22 rfl ?_); refine wC 22 rfl Try.func22 (wsT HS) H (fun q HS => HF g l _ _ q w0 _ HS.wr HS.below) ?_; clear HS H; intro q w' HS H; (try dsimp only at H)))
    go_roundw
    case rel => exact ⟨1, _, by simp, ⟨by have := HI.out; omega⟩, ⟨by rw [H.out]; exact HB2.out⟩, wsT HS⟩
    case measure => have := HI.out; simp; omega
   have p5 : decide ((0 : Int) < (i : Int)) = true := decide_eq_true (by omega)
   have p6 := eq_true h0
   have p7 : decide (i = 0) = false := decide_eq_false (by omega)
   simp only [p7, and_self, if_true] at H
   clear p7 h0
   go_wp2_with (first | (go_at_call 64; (first | ((with_reducible refine fO ?_); refine jw (wsT HS) H rfl rfl (Nat.le_of_ble_eq_true rfl) rfl ?_) | ((with_reducible refine fP ?_); refine jf (wsT HS) H rfl rfl (Nat.le_of_ble_eq_true rfl) rfl ?_)); clear HS H; intro q w' HS H; (try dsimp only at H)) | (go_at_call 22; refine wCc (wsT HS) H (fun q HS => HF g l _ _ q w0 _ HS.wr HS.below) ?_; clear HS H; intro q w' HS H; (try dsimp only at H)) | ((with_reducible refine gC 22 rfl ?_); refine wC 22 rfl Try.func22 (wsT HS) H (fun q HS => HF g l _ _ q w0 _ HS.wr HS.below) ?_; clear HS H; intro q w' HS H; (try dsimp only at H)))
   go_roundw
   case rel => exact ⟨i + 1, _, by simp, ⟨by have := HI.out; omega⟩, ⟨by rw [H.out]; exact HB2.out⟩, wsT HS⟩
   case measure => have := HI.out; show xs.length - ((i : Int) + 1).toNat < xs.length - ((i : Int)).toNat; omega
  have hd : decide ((i : Int) < (xs.length : Int)) = false := decide_eq_false (by omega)
  have H2 := H.out
  rw [List.drop_eq_nil_of_le (by omega), jW] at H2
  replace H := ae.mk (show (fD k [⟨#[41]⟩] q).bind some = some r from H2)
  have q4 := eq_false hi
  clear hi H2 h2
  go_wp2_with (first | (go_at_call 64; (first | ((with_reducible refine fO ?_); refine jw (wsT HS) H rfl rfl (Nat.le_of_ble_eq_true rfl) rfl ?_) | ((with_reducible refine fP ?_); refine jf (wsT HS) H rfl rfl (Nat.le_of_ble_eq_true rfl) rfl ?_)); clear HS H; intro q w' HS H; (try dsimp only at H)))
  have h_ := H.out
  cases h_
  go_end0
  exact (wsT HS).back
set_option maxHeartbeats 8000000 in
set_option maxRecDepth 100000 in
theorem xP (F : kz) (HF : jP F) (k g : Nat) (l : List S40) (out r : List S56) (A : Option Addr) (c : Nat) (xs : List Int) (w0 w : World) (hI : Wr w0 w g l out) (hB : Below w0.heap.size w0 w) (hs : RI (Kd.int .i64) 3 w A xs) (hc : xs.length ≤ c) (h : iQ F k l xs out = some r) :
 Calls Try.prog 66 #[.pointer (some ⟨g, 0, none⟩), .slice A xs.length c] w (kC w0 w g l r) := by
 unfold iQ at h
 by_cases hl : 0 < xs.length
 ·rw [if_pos hl] at h
  obtain ⟨hcut, hs2⟩ := hs.OH hl hc
  unfold rJ at h
  obtain ⟨ys, ey⟩ : ∃ ys, ys = xs.take (xs.length - 1) := ⟨_, rfl⟩
  rw [← ey] at hcut hs2 h
  clear ey
  change ((rJ F k l ys out).bind _) = _ at h
  obtain ⟨ad, rfl, hx⟩ := hs.kid (xs.length - 1) (by omega)
  have h2 : xs.length ≤ 9223372036854775807 := hs.1.2.1
  have HS := ((Ws.new hI hB).int hs).int hs2
  have H := ae.mk h
  obtain ⟨x, ex⟩ : ∃ x, x = xs.getD (xs.length - 1) 0 := ⟨_, rfl⟩
  rw [← ex] at hx H
  have HEX := ae.mk ex
  have hw1 : IntKind.i64.wrap ((xs.length : Int) - 1) = (xs.length : Int) - 1 := by rw [gB]; unfold wrap64; omega
  have p3 := eq_true (show (0 : Int) ≤ (xs.length : Int) - 1 by omega)
  have p4 := eq_true (show (1 : Int) ≤ (xs.length : Int) by omega)
  have p5 := eq_true (show 1 ≤ xs.length by omega)
  have q3 := eq_true (show (xs.length : Int) - 1 < (xs.length : Int) by omega)
  have hx2 := hx
  rw [show xs.length - 1 = ((xs.length : Int) - 1).toNat by omega] at hx2
  clear hl h hI hB hs hs2 h2 ex
  go_enter Try.func66, Try.ntmps66
  go_wp2_with (first | (go_at_call 67; refine wCc (wsT HS) H (fun q HS => LG F HF k g l _ q _ _ _ w0 _ HS.wr HS.below (HS.i _ (.head _))) ?_; clear hx hx2; clear HS H; intro q w' HS H; (try dsimp only at H); have hx_ := (HS.i _ (.tail _ (.head _))).kid (xs.length - 1) (show xs.length - 1 < xs.length by have := of_eq_true p5; omega); obtain ⟨ad_, e_, hx⟩ := hx_; cases e_; rw [← HEX.out] at hx; have hx2 := hx; rw [show xs.length - 1 = ((xs.length : Int) - 1).toNat by omega] at hx2) | (go_at_call 22; refine wCc (wsT HS) H (fun q HS => HF g l _ _ q w0 _ HS.wr HS.below) ?_; clear HS H; intro q w' HS H; (try dsimp only at H)) | ((with_reducible refine gC 22 rfl ?_); refine wC 22 rfl Try.func22 (wsT HS) H (fun q HS => HF g l _ _ q w0 _ HS.wr HS.below) ?_; clear HS H; intro q w' HS H; (try dsimp only at H)))
  have h_ := H.out
  cases h_
  go_end0
  exact (wsT HS).back
 rw [if_neg hl] at h
 cases h
end Go.Proofs.Ytlenihbmafkegaa.Q
end
