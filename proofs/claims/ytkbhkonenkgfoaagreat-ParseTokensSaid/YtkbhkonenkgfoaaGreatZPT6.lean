/- Walks over functions of the program, words for them, and what the functions come to; of each text only what this claim uses; no condition. -/
import Derived.Test.YtkbhkonenkgfoaaGreatZPT0
import Derived.Test.YtkbhkonenkgfoaaGreatZPT1
import Derived.Test.YtkbhkonenkgfoaaGreatZPT3
import Derived.Test.YtkbhkonenkgfoaaGreatZPT4
import Derived.Test.YtkbhkonenkgfoaaGreatZPT5
section
set_option linter.unusedVariables false
set_option linter.unusedSimpArgs false
namespace Go.Proofs.YtkbhkonenkgfoaaGreat.Q
open Go Go.RowKit Go.Proofs.YtkbhkonenkgfoaaGreatW.PrintWords Go.Proofs.YtkbhkonenkgfoaaGreatW.PrintLast Go.Proofs.YtkbhkonenkgfoaaGreatW.PrintMore
/-- The state (type T) at block g: a list that came in by w0, a place in it, and whether the token there can't stand. -/
def Rd (T : Nat) (w0 W : World) (g : Nat) (f0 : List S37) (f1 : Int) (f2 : Bool) : Prop := ∃ A0 c0, W.heap[g]? = some (.cells #[.slice A0 f0.length c0, .int .i64 f1, .bool f2] T (0, 0)) ∧ w0.heap.size ≤ g ∧ Kd.C k37 w0 A0 f0.length f0
/-- Rows of trees that were made since w; what a row leads to is none of the rows ahead of it. -/
def KL (W w : World) (g : Nat) : List (Value × List (List S29)) → Prop
 | [] => True
 | (v, xs) :: r => (∃ ok : Nat → Prop, Kd.N (Kd.slice 29 k29) 23 W w.heap.size ok v xs ∧ (∀ k, ok k → k ≠ g ∧ w.heap.size ≤ k) ∧ ∀ p ∈ r, ∀ k, ok k → some k ≠ p.1.ownBlock) ∧ KL W w g r
theorem KL.own {W w : World} {g : Nat} : ∀ {ks}, KL W w g ks → ∀ p ∈ ks, ∀ k, p.1.ownBlock = some k → k < W.heap.size ∧ ∃ cells, W.heap[k]? = some (.cells cells 23 (0, 0))
 | (v, xs) :: r, ⟨⟨ok, h, _⟩, _⟩, _, .head _, k, hk => ⟨Kd.JU h k hk, Kd.GX h k hk⟩
 | _ :: r, ⟨_, h⟩, p, .tail _ hp, k, hk => KL.own h p hp k hk
theorem KL.keep {W W' w : World} {g : Nat} (hk : bY W W' g none) : ∀ {ks}, KL W w g ks → KL W' w g ks
 | [], _ => trivial
 | (v, xs) :: r, ⟨⟨ok, h, h1, h2⟩, h3⟩ => ⟨⟨ok, Kd.Jb h hk (fun k h => (h1 k h).1), h1, h2⟩, KL.keep hk h3⟩
/-- What stays as it is besides: blocks that are known whole, rows of texts. -/
structure Ext where
 bs : List (Nat × Obj)
 ss : List (Value × List ByteArray)
/-- With what was made since w: trees, and rows of trees. -/
structure St (T : Nat) (w0 w W : World) (g : Nat) (f0 : List S37) (f1 : Int) (f2 : Bool) (os : List (Value × List S29)) (ks : List (Value × List (List S29))) (Z : Ext) : Prop where
 t : T ≠ 29 ∧ T ≠ 23 ∧ T ≠ 9
 z : w0.heap.size ≤ w.heap.size
 rd : Rd T w0 W g f0 f1 f2
 below : Below w0.heap.size w0 W
 keep : bY w W g none
 o : ∀ p ∈ os, Kd.R k29 29 W w.heap.size (fun _ => True) p.1 p.2
 s : KL W w g ks
 b : ∀ p ∈ Z.bs, W.heap[p.1]? = some p.2 ∧ p.1 ≠ g
 ss : ∀ p ∈ Z.ss, Kd.R Kd.string 9 W w.heap.size (fun _ => True) p.1 p.2
section
variable {T : Nat} {w0 w W W' : World} {g : Nat} {f0 : List S37} {f1 q : Int} {f2 b : Bool} {os : List (Value × List S29)} {ks : List (Value × List (List S29))} {Z : Ext}
theorem Rd.types (h : Rd T w0 W g f0 f1 f2) (ht : T ≠ 29 ∧ T ≠ 23 ∧ T ≠ 9) {base : Nat} {v : Value} {xs : List S29} (ho : Kd.R k29 29 W base (fun _ => True) v xs) : Kd.R k29 29 W base (fun k => k ≠ g) v xs := by
 obtain ⟨A0, c0, hb, hg, hr⟩ := h
 refine Kd.jb (Kd.qI ho hb (fun q hq => ?_)) (fun _ hk => hk.2)
 have : q = 29 := by simpa [show k29.E = [] from rfl] using hq
 subst this
 exact fun e => ht.1 e.symm
theorem Rd.Ib (h : Rd T w0 W g f0 f1 f2) (ht : T ≠ 29 ∧ T ≠ 23 ∧ T ≠ 9) {base : Nat} {v : Value} {xs : List ByteArray} (ho : Kd.R Kd.string 9 W base (fun _ => True) v xs) : Kd.R Kd.string 9 W base (fun k => k ≠ g) v xs := by
 obtain ⟨A0, c0, hb, hg, hr⟩ := h
 refine Kd.jb (Kd.qI ho hb (fun q hq => ?_)) (fun _ hk => hk.2)
 have : q = 9 := by simpa [show Kd.string.E = [] from rfl] using hq
 subst this
 exact fun e => ht.2.2 e.symm
theorem Rd.lt (h : Rd T w0 W g f0 f1 f2) : g < W.heap.size := by
 obtain ⟨A0, c0, hb, hg, hr⟩ := h
 exact kH hb
theorem Rd.ge (h : Rd T w0 W g f0 f1 f2) : w0.heap.size ≤ g := by
 obtain ⟨A0, c0, hb, hg, hr⟩ := h
 exact hg
theorem Rd.below (h : Rd T w0 W g f0 f1 f2) (hw : Below W.heap.size W W') : Rd T w0 W' g f0 f1 f2 := by
 obtain ⟨A0, c0, hb, hg, hr⟩ := h
 exact ⟨A0, c0, dL hb hw, hg, hr⟩
theorem Rd.cell1 (h : Rd T w0 W g f0 f1 f2) : W.cell? ⟨g, 1, none⟩ = some (.int .i64 f1) := by
 obtain ⟨A0, c0, hb, hg, hr⟩ := h
 exact (ag hb 1).trans rfl
theorem Rd.cell2 (h : Rd T w0 W g f0 f1 f2) : W.cell? ⟨g, 2, none⟩ = some (.bool f2) := by
 obtain ⟨A0, c0, hb, hg, hr⟩ := h
 exact (ag hb 2).trans rfl
theorem Rd.fro (h : Rd T w0 W g f0 f1 f2) (i : Nat) : W.frozen? ⟨g, i, none⟩ = false := by
 obtain ⟨A0, c0, hb, hg, hr⟩ := h
 exact ae hb i
theorem St.new (ht : T ≠ 29 ∧ T ≠ 23 ∧ T ≠ 9) (hI : Rd T w0 w g f0 f1 f2) (hB : Below w0.heap.size w0 w) : St T w0 w w g f0 f1 f2 [] [] ⟨[], []⟩ := ⟨ht, hB.size, hI, hB, bY.refl w g none, fun _ h => (nomatch h), trivial, fun _ h => (nomatch h), fun _ h => (nomatch h)⟩
/-- The world went on: nothing but the state was written. -/
theorem St.step (h : St T w0 w W g f0 f1 f2 os ks Z) (hk : bY W W' g none) (hI : Rd T w0 W' g f0 q b) (hB : Below w0.heap.size w0 W') : St T w0 w W' g f0 q b os ks Z :=
 ⟨h.t, h.z, hI, hB, h.keep.trans hk (.inl rfl), fun p hp => Kd.jb (Kd.AC (h.rd.types h.t (h.o p hp)) hk (fun _ h => h)) (fun _ _ => trivial), KL.keep hk h.s, fun p hp => ⟨(hk.2 p.1 (kH (h.b p hp).1) (h.b p hp).2 (by simp)).trans (h.b p hp).1, (h.b p hp).2⟩, fun p hp => Kd.jb (Kd.AC (h.rd.Ib h.t (h.ss p hp)) hk (fun _ h => h)) (fun _ _ => trivial)⟩
theorem St.nY (h : St T w0 w W g f0 f1 f2 os ks Z) (hb : Below W.heap.size W W') : St T w0 w W' g f0 f1 f2 os ks Z :=
 h.step (bY.of_below hb g none) (h.rd.below hb) (aA h.below hb)
theorem St.drewN (h : St T w0 w W g f0 f1 f2 os ks Z) (n : Nat) : St T w0 w (W.drewN n) g f0 f1 f2 os ks Z := h.nY (gI (Below.refl _ _) n)
theorem St.drew (h : St T w0 w W g f0 f1 f2 os ks Z) : St T w0 w W.drew g f0 f1 f2 os ks Z := h.nY (Below.refl _ _).drew
theorem St.alloc (h : St T w0 w W g f0 f1 f2 os ks Z) (o : Obj) : St T w0 w (W.alloc o) g f0 f1 f2 os ks Z := h.nY (iE (Below.refl _ _) o)
theorem St.set1 (h : St T w0 w W g f0 f1 f2 os ks Z) (x : Int) : St T w0 w (W.setCell ⟨g, 1, none⟩ (.int .i64 x)) g f0 x f2 os ks Z := by
 refine h.step ((bY.refl W g none).zQ 1 _) ?_ (jc h.below h.rd.ge)
 obtain ⟨A0, c0, hb, hg, hr0⟩ := h.rd
 exact ⟨A0, c0, by simpa using o7 hb 1 (.int .i64 x), hg, hr0⟩
theorem St.set2 (h : St T w0 w W g f0 f1 f2 os ks Z) (x : Bool) : St T w0 w (W.setCell ⟨g, 2, none⟩ (.bool x)) g f0 f1 x os ks Z := by
 refine h.step ((bY.refl W g none).zQ 2 _) ?_ (jc h.below h.rd.ge)
 obtain ⟨A0, c0, hb, hg, hr0⟩ := h.rd
 exact ⟨A0, c0, by simpa using o7 hb 2 (.bool x), hg, hr0⟩
theorem St.push (h : St T w0 w W g f0 f1 f2 os ks Z) {v : Value} {xs : List S29} {base : Nat} (hb : w.heap.size ≤ base) (ho : Kd.R k29 29 W base (fun _ => True) v xs) : St T w0 w W g f0 f1 f2 ((v, xs) :: os) ks Z :=
 ⟨h.t, h.z, h.rd, h.below, h.keep, fun p hp => (by
  rcases List.mem_cons.1 hp with rfl | hp
  ·exact Kd.iw ho hb
  exact h.o p hp), h.s, h.b, h.ss⟩
theorem St.Be (h : St T w0 w W g f0 f1 f2 os ks Z) {v : Value} {xs : List (List S29)} {ok : Nat → Prop} (ho : Kd.N (Kd.slice 29 k29) 23 W w.heap.size ok v xs) (h1 : ∀ k, ok k → k ≠ g ∧ w.heap.size ≤ k) (h2 : ∀ p ∈ ks, ∀ k, ok k → some k ≠ p.1.ownBlock) : St T w0 w W g f0 f1 f2 os ((v, xs) :: ks) Z :=
 ⟨h.t, h.z, h.rd, h.below, h.keep, h.o, ⟨⟨ok, ho, h1, h2⟩, h.s⟩, h.b, h.ss⟩
theorem St.pop {p : Value × List (List S29)} (h : St T w0 w W g f0 f1 f2 os (p :: ks) Z) : St T w0 w W g f0 f1 f2 os ks Z := ⟨h.t, h.z, h.rd, h.below, h.keep, h.o, h.s.2, h.b, h.ss⟩
theorem St.clear (h : St T w0 w W g f0 f1 f2 os ks Z) : St T w0 w W g f0 f1 f2 [] [] Z := ⟨h.t, h.z, h.rd, h.below, h.keep, fun _ h => (nomatch h), trivial, h.b, h.ss⟩
theorem St.zk {o : Value × List S29} (h : St T w0 w W g f0 f1 f2 (o :: os) ks Z) : St T w0 w W g f0 f1 f2 [o] [] ⟨[], []⟩ :=
 ⟨h.t, h.z, h.rd, h.below, h.keep, fun p hp => (by
  rcases List.mem_cons.1 hp with rfl | hp
  ·exact h.o _ (.head _)
  cases hp), trivial, fun _ h => (nomatch h), fun _ h => (nomatch h)⟩
theorem St.sZ (h : St T w0 w W g f0 f1 f2 os ks Z) : St T w0 w W g f0 f1 f2 os ((.slice none 0 0, []) :: ks) Z := h.Be (ok := fun _ => False) (Kd.H6 _ _ _ _ _) (fun _ h => h.elim) (fun _ _ _ h => h.elim)
/-- A store into a struct of the call's own, while nothing else is held. -/
theorem St.setB {gb : Nat} {cs : Array Value} {t : TypeId} (h : St T w0 w W g f0 f1 f2 [] [] ⟨[(gb, .cells cs t (0, 0))], []⟩) (hge : w.heap.size ≤ gb) (i : Nat) (u : Value) : St T w0 w (W.setCell ⟨gb, i, none⟩ u) g f0 f1 f2 [] [] ⟨[(gb, .cells (cs.setIfInBounds i u) t (0, 0))], []⟩ := by
 obtain ⟨hc, hne⟩ := h.b _ (.head _)
 obtain ⟨A0, c0, hb, hg, hr⟩ := h.rd
 refine ⟨h.t, h.z, ⟨A0, c0, fZ hb (p := ⟨gb, i, none⟩) (Ne.symm hne) u, hg, hr⟩, jc h.below (Nat.le_trans h.z hge), qg h.keep hge u, fun _ h => (nomatch h), trivial, fun p hp => ?_, fun _ h => (nomatch h)⟩
 rcases List.mem_cons.1 hp with rfl | hp
 ·exact ⟨o7 hc i u, hne⟩
 cases hp
theorem stB {W0 : World} {p : Int} {c : Bool} {gb : Nat} {cs cs' : Array Value} {t : TypeId} (hge : w.heap.size ≤ gb) (H : St T w0 w W0 g f0 p c [] [] ⟨[(gb, .cells cs t (0, 0))], []⟩) (f : St T w0 w W0 g f0 p c [] [] ⟨[(gb, .cells cs t (0, 0))], []⟩ → St T w0 w W g f0 f1 f2 [] [] ⟨[(gb, .cells cs' t (0, 0))], []⟩ := by (intro h_; repeat (first | (with_reducible exact h_) | apply St.drewN | apply St.drew | apply St.setB (hge := hge)))) : St T w0 w W g f0 f1 f2 [] [] ⟨[(gb, .cells cs' t (0, 0))], []⟩ := f H
theorem stT {W0 : World} {p : Int} {c : Bool} (H : St T w0 w W0 g f0 p c os ks Z) (f : St T w0 w W0 g f0 p c os ks Z → St T w0 w W g f0 f1 f2 os ks Z := by (intro h_; repeat (first | (with_reducible exact h_) | apply St.drewN | apply St.drew | apply St.set1 | apply St.set2 | apply St.alloc))) : St T w0 w W g f0 f1 f2 os ks Z := f H
end
section
variable {P : Program} {ops : Array Oper} {Q : Exit → Act → World → Prop} {T : Nat} {w0 w W : World} {g : Nat} {f0 : List S37} {f1 : Int} {f2 : Bool} {os : List (Value × List S29)} {ks : List (Value × List (List S29))} {Z : Ext}
 {rest : List Oper} {oi : Oper} {a : Act} {fn : Func} {ar : Array Operand} {ts : Array TypeId} {args : Array Value} {ρ β : Type} {R : β}
/-- What a call with the state gives back: E of the result and the world. -/
def Back (T : Nat) (w0 W : World) (g : Nat) (f0 : List S37) (q : Int) (b : Bool) (E : Ending → World → Prop) (e : Ending) (w' : World) : Prop := E e w' ∧ Rd T w0 w' g f0 q b ∧ Below w0.heap.size w0 w' ∧ bY W w' g none
theorem sB (f : FuncId) {N : Tmp} (hop : oi.op = .call { callee := .value (.func f), args := ar, argTypes := ts }) (hf : P.funcs[f]? = some fn) {F : Option (Bool × Int × Bool)} {K : Bool × Int × Bool → Option β}
 (HS : St T w0 w W g f0 f1 f2 os ks Z) (H : af (F.bind K = some R))
 (hC : ∀ t q b, Rd T w0 W g f0 f1 f2 → Below w0.heap.size w0 W → F = some (t, q, b) → Calls P f args W (Back T w0 W g f0 q b fun e _ => e = .returned (.bool t)))
 (h : ∀ t q b w', St T w0 w w' g f0 q b os ks Z → af (K (t, q, b) = some R) → wpList P ops Q rest (a.put (some N) (.bool t)) w')
 (hd : oi.dst = some N := by rfl) (hg : oi.guard = none := by rfl) (hname : (fn.name == "runtime.NumGoroutine") = false := by kernel_rfl) (hb : fn.body.isSome = true := by rfl)
 (hargs : ar.map a.eval = args := by ((try simp only [List.map_toArray, List.map_cons, List.map_nil]); first | done | rfl)) : wpList P ops Q (oi :: rest) a W := by
 obtain ⟨⟨t, q, b⟩, h1, h2⟩ := Option.bind_eq_some_iff.mp H.out
 refine kQ (some N) hd hg hf hname hb args hop hargs ((hC t q b HS.rd HS.below h1).mono ?_)
 rintro _ w' ⟨rfl, hi, hb, hk⟩
 exact ⟨_, rfl, h t q b w' (HS.step hk hi hb) ⟨h2⟩⟩
theorem sU (f : FuncId) {N : Tmp} (hop : oi.op = .call { callee := .value (.func f), args := ar, argTypes := ts }) (hf : P.funcs[f]? = some fn) {F : Option (Int × Bool)} {K : Int × Bool → Option β}
 (HS : St T w0 w W g f0 f1 f2 os ks Z) (H : af (F.bind K = some R))
 (hC : ∀ q b, Rd T w0 W g f0 f1 f2 → Below w0.heap.size w0 W → F = some (q, b) → Calls P f args W (Back T w0 W g f0 q b fun e _ => e = .returned (.tuple #[])))
 (h : ∀ q b w', St T w0 w w' g f0 q b os ks Z → af (K (q, b) = some R) → wpList P ops Q rest (a.put (some N) (.tuple #[])) w')
 (hd : oi.dst = some N := by rfl) (hg : oi.guard = none := by rfl) (hname : (fn.name == "runtime.NumGoroutine") = false := by kernel_rfl) (hb : fn.body.isSome = true := by rfl)
 (hargs : ar.map a.eval = args := by ((try simp only [List.map_toArray, List.map_cons, List.map_nil]); first | done | rfl)) : wpList P ops Q (oi :: rest) a W := by
 obtain ⟨⟨q, b⟩, h1, h2⟩ := Option.bind_eq_some_iff.mp H.out
 refine kQ (some N) hd hg hf hname hb args hop hargs ((hC q b HS.rd HS.below h1).mono ?_)
 rintro _ w' ⟨rfl, hi, hb, hk⟩
 exact ⟨_, rfl, h q b w' (HS.step hk hi hb) ⟨h2⟩⟩
/-- A token is given back. -/
theorem sN (f : FuncId) {N : Tmp} (hop : oi.op = .call { callee := .value (.func f), args := ar, argTypes := ts }) (hf : P.funcs[f]? = some fn) {F : Option (Int × ByteArray × Int × Int × Int × Bool)} {K : Int × ByteArray × Int × Int × Int × Bool → Option β}
 (HS : St T w0 w W g f0 f1 f2 os ks Z) (H : af (F.bind K = some R))
 (hC : ∀ t1 t2 t3 t4 q b, Rd T w0 W g f0 f1 f2 → Below w0.heap.size w0 W → F = some (t1, t2, t3, t4, q, b) → Calls P f args W (Back T w0 W g f0 q b fun e _ => e = .returned (.agg #[.int .i64 t1, .string t2, .int .i64 t3, .int .i64 t4])))
 (h : ∀ t1 t2 t3 t4 q b w', St T w0 w w' g f0 q b os ks Z → af (K (t1, t2, t3, t4, q, b) = some R) → wpList P ops Q rest (a.put (some N) (.agg #[.int .i64 t1, .string t2, .int .i64 t3, .int .i64 t4])) w')
 (hd : oi.dst = some N := by rfl) (hg : oi.guard = none := by rfl) (hname : (fn.name == "runtime.NumGoroutine") = false := by kernel_rfl) (hb : fn.body.isSome = true := by rfl)
 (hargs : ar.map a.eval = args := by ((try simp only [List.map_toArray, List.map_cons, List.map_nil]); first | done | rfl)) : wpList P ops Q (oi :: rest) a W := by
 obtain ⟨⟨t1, t2, t3, t4, q, b⟩, h1, h2⟩ := Option.bind_eq_some_iff.mp H.out
 refine kQ (some N) hd hg hf hname hb args hop hargs ((hC t1 t2 t3 t4 q b HS.rd HS.below h1).mono ?_)
 rintro _ w' ⟨rfl, hi, hb, hk⟩
 exact ⟨_, rfl, h t1 t2 t3 t4 q b w' (HS.step hk hi hb) ⟨h2⟩⟩
/-- A text is given back. -/
theorem sS (f : FuncId) {N : Tmp} (hop : oi.op = .call { callee := .value (.func f), args := ar, argTypes := ts }) (hf : P.funcs[f]? = some fn) {F : Option (ByteArray × Int × Bool)} {K : ByteArray × Int × Bool → Option β}
 (HS : St T w0 w W g f0 f1 f2 os ks Z) (H : af (F.bind K = some R))
 (hC : ∀ t q b, Rd T w0 W g f0 f1 f2 → Below w0.heap.size w0 W → F = some (t, q, b) → Calls P f args W (Back T w0 W g f0 q b fun e _ => e = .returned (.string t)))
 (h : ∀ t q b w', St T w0 w w' g f0 q b os ks Z → af (K (t, q, b) = some R) → wpList P ops Q rest (a.put (some N) (.string t)) w')
 (hd : oi.dst = some N := by rfl) (hg : oi.guard = none := by rfl) (hname : (fn.name == "runtime.NumGoroutine") = false := by kernel_rfl) (hb : fn.body.isSome = true := by rfl)
 (hargs : ar.map a.eval = args := by ((try simp only [List.map_toArray, List.map_cons, List.map_nil]); first | done | rfl)) : wpList P ops Q (oi :: rest) a W := by
 obtain ⟨⟨t, q, b⟩, h1, h2⟩ := Option.bind_eq_some_iff.mp H.out
 refine kQ (some N) hd hg hf hname hb args hop hargs ((hC t q b HS.rd HS.below h1).mono ?_)
 rintro _ w' ⟨rfl, hi, hb, hk⟩
 exact ⟨_, rfl, h t q b w' (HS.step hk hi hb) ⟨h2⟩⟩
/-- A tree is given back; a row of trees is. -/
def IsL (w : World) (r : List S29) (e : Ending) (w' : World) : Prop := ∃ v, e = .returned v ∧ Kd.R k29 29 w' w.heap.size (fun _ => True) v r
def IsK (w : World) (g : Nat) (r : List (List S29)) (e : Ending) (w' : World) : Prop := ∃ v, e = .returned v ∧ Kd.N (Kd.slice 29 k29) 23 w' w.heap.size (fun k => k ≠ g ∧ w.heap.size ≤ k) v r
theorem sL (f : FuncId) {N : Tmp} (hop : oi.op = .call { callee := .value (.func f), args := ar, argTypes := ts }) (hf : P.funcs[f]? = some fn) {F : Option (List S29 × Int × Bool)} {K : List S29 × Int × Bool → Option β}
 (HS : St T w0 w W g f0 f1 f2 os ks Z) (H : af (F.bind K = some R))
 (hC : ∀ t q b, Rd T w0 W g f0 f1 f2 → Below w0.heap.size w0 W → F = some (t, q, b) → Calls P f args W (Back T w0 W g f0 q b (IsL W t)))
 (h : ∀ t q b w' A c, St T w0 w w' g f0 q b ((.slice A t.length c, t) :: os) ks Z → af (K (t, q, b) = some R) → wpList P ops Q rest (a.put (some N) (.slice A t.length c)) w')
 (hd : oi.dst = some N := by rfl) (hg : oi.guard = none := by rfl) (hname : (fn.name == "runtime.NumGoroutine") = false := by kernel_rfl) (hb : fn.body.isSome = true := by rfl)
 (hargs : ar.map a.eval = args := by ((try simp only [List.map_toArray, List.map_cons, List.map_nil]); first | done | rfl)) : wpList P ops Q (oi :: rest) a W := by
 obtain ⟨⟨t, q, b⟩, h1, h2⟩ := Option.bind_eq_some_iff.mp H.out
 refine kQ (some N) hd hg hf hname hb args hop hargs ((hC t q b HS.rd HS.below h1).mono ?_)
 rintro _ w' ⟨⟨v, rfl, ho⟩, hi, hb, hk⟩
 obtain ⟨A, c, rfl⟩ := Kd.fG ho
 exact ⟨_, rfl, h t q b w' A c ((HS.step hk hi hb).push (eY HS.keep) ho) ⟨h2⟩⟩
theorem sK (f : FuncId) {N : Tmp} (hop : oi.op = .call { callee := .value (.func f), args := ar, argTypes := ts }) (hf : P.funcs[f]? = some fn) {F : Option (List (List S29) × Int × Bool)} {K : List (List S29) × Int × Bool → Option β}
 (HS : St T w0 w W g f0 f1 f2 os ks Z) (H : af (F.bind K = some R))
 (hC : ∀ t q b, Rd T w0 W g f0 f1 f2 → Below w0.heap.size w0 W → F = some (t, q, b) → Calls P f args W (Back T w0 W g f0 q b (IsK W g t)))
 (h : ∀ t q b w' A c, St T w0 w w' g f0 q b os ((.slice A t.length c, t) :: ks) Z → af (K (t, q, b) = some R) → wpList P ops Q rest (a.put (some N) (.slice A t.length c)) w')
 (hd : oi.dst = some N := by rfl) (hg : oi.guard = none := by rfl) (hname : (fn.name == "runtime.NumGoroutine") = false := by kernel_rfl) (hb : fn.body.isSome = true := by rfl)
 (hargs : ar.map a.eval = args := by ((try simp only [List.map_toArray, List.map_cons, List.map_nil]); first | done | rfl)) : wpList P ops Q (oi :: rest) a W := by
 obtain ⟨⟨t, q, b⟩, h1, h2⟩ := Option.bind_eq_some_iff.mp H.out
 refine kQ (some N) hd hg hf hname hb args hop hargs ((hC t q b HS.rd HS.below h1).mono ?_)
 rintro _ w' ⟨⟨v, rfl, ho⟩, hi, hb, hk⟩
 obtain ⟨A, c, rfl⟩ := Kd.xZ ho
 exact ⟨_, rfl, h t q b w' A c ((HS.step hk hi hb).Be (Kd.yc ho (eY HS.keep)) (fun k h => ⟨h.1, Nat.le_trans (eY HS.keep) h.2⟩) (fun p hp k h e => by have := (KL.own HS.s p hp k e.symm).1; omega)) ⟨h2⟩⟩
/-- A tree is made of the row that was made last. -/
theorem sJ (f : FuncId) {N : Tmp} (hop : oi.op = .call { callee := .value (.func f), args := ar, argTypes := ts }) (hf : P.funcs[f]? = some fn) {F : Option (List S29)} {K : List S29 → Option β} {A : Option Addr} {c : Nat} {l : List (List S29)}
 (HS : St T w0 w W g f0 f1 f2 os ((.slice A l.length c, l) :: ks) Z) (H : af (F.bind K = some R))
 (hC : ∀ t, Kd.C (Kd.slice 29 k29) W A l.length l → l.length ≤ c → F = some t → Calls P f args W (fun e w' => ∃ v, e = .returned v ∧ Kd.R k29 29 w' W.heap.size (fun _ => True) v t ∧ Below W.heap.size W w'))
 (h : ∀ t w' A c, St T w0 w w' g f0 f1 f2 ((.slice A t.length c, t) :: os) ks Z → af (K t = some R) → wpList P ops Q rest (a.put (some N) (.slice A t.length c)) w')
 (hd : oi.dst = some N := by rfl) (hg : oi.guard = none := by rfl) (hname : (fn.name == "runtime.NumGoroutine") = false := by kernel_rfl) (hb : fn.body.isSome = true := by rfl)
 (hargs : ar.map a.eval = args := by ((try simp only [List.map_toArray, List.map_cons, List.map_nil]); first | done | rfl)) : wpList P ops Q (oi :: rest) a W := by
 obtain ⟨t, h1, h2⟩ := Option.bind_eq_some_iff.mp H.out
 obtain ⟨⟨ok, hn, _⟩, _⟩ := HS.s
 obtain ⟨_, hc, hr⟩ := Kd.sF hn
 refine kQ (some N) hd hg hf hname hb args hop hargs ((hC t hr hc h1).mono ?_)
 rintro _ w' ⟨v, rfl, ho, hb⟩
 obtain ⟨A, c, rfl⟩ := Kd.fG ho
 exact ⟨_, rfl, h t w' A c ((HS.pop.nY hb).push (eY HS.keep) ho) ⟨h2⟩⟩
/-- The end. -/
theorem St.back {q : Int} {b : Bool} {E : Ending → World → Prop} {e : Ending} (h : St T w0 w W g f0 q b os ks Z) (he : E e W) : Back T w0 w g f0 q b E e W := ⟨he, h.rd, h.below, h.keep⟩
theorem St.jk {q : Int} {b : Bool} {v : Value} {t : List S29} (h : St T w0 w W g f0 q b os ks Z) (ho : (v, t) ∈ os) : Back T w0 w g f0 q b (IsL w t) (.returned v) W := ⟨⟨v, rfl, h.o _ ho⟩, h.rd, h.below, h.keep⟩
theorem St.zy {q : Int} {b : Bool} (h : St T w0 w W g f0 q b os ks Z) : Back T w0 w g f0 q b (IsL w []) (.returned (.slice none 0 0)) W := ⟨⟨_, rfl, Kd.nR _ _ _ _ _⟩, h.rd, h.below, h.keep⟩
theorem St.zA {q : Int} {b : Bool} {v : Value} {t : List (List S29)} (h : St T w0 w W g f0 q b os ((v, t) :: ks) Z) : Back T w0 w g f0 q b (IsK w g t) (.returned v) W := by
 obtain ⟨⟨ok, hn, h1, _⟩, _⟩ := h.s
 exact ⟨⟨v, rfl, Kd.Fe hn h1⟩, h.rd, h.below, h.keep⟩
theorem hB {x : ρ} {K : ρ → Option β} (H : af ((some x).bind K = some R)) : af (K x = some R) := H
theorem hI {c : Prop} [Decidable c] {X Y : Option β} (hc : c) (H : af ((if c then X else Y) = some R)) : af (X = some R) := ⟨by have := H.out; rwa [if_pos hc] at this⟩
theorem hE {c : Prop} [Decidable c] {X Y : Option β} (hc : ¬c) (H : af ((if c then X else Y) = some R)) : af (Y = some R) := ⟨by have := H.out; rwa [if_neg hc] at this⟩
/-- A slice of one node, of rows. -/
theorem vG {N : Tmp} {a0 a1 a3 : Int} {a2 a4 : ByteArray} (HS : St T w0 w W g f0 f1 f2 os ks Z)
 (hrun : (execOp a.eval oi).run P W = .ok (.value (.slice (some ⟨W.heap.size, 0, none⟩) 1 1)) (W.alloc (.cells #[.int .i64 a0, .int .i64 a1, .string a2, .int .i64 a3, .string a4] 29)))
 (h : ∀ A c w', St T w0 w w' g f0 f1 f2 ((.slice A 1 c, [⟨a0, a1, a2, a3, a4⟩]) :: os) ks Z → wpList P ops Q rest (a.put (some N) (.slice A 1 c)) w')
 (hd : oi.dst = some N := by rfl) (hg : oi.guard = none := by rfl) : wpList P ops Q (oi :: rest) a W := by
 refine Kd.pO k29 W.heap.size 29 hg hd (xs := [⟨a0, a1, a2, a3, a4⟩]) (inner := [.int .i64 a0, .int .i64 a1, .string a2, .int .i64 a3, .string a4]) (ok := fun _ => True) (okp := fun _ => True) hrun ?_ (fun _ hk => hk) trivial (Below.refl _ _) (Nat.le_refl _) (by simp) ?_
 ·exact eG.c5 (show Kd.M k29 _ _ _ (⟨a0, a1, a2, a3, a4⟩ : S29) [.int .i64 a0, .int .i64 a1, .string a2, .int .i64 a3, .string a4] from xJ _ _ _ _) (eG.none _ _)
 intro v1 w1 ho hb _ _
 obtain ⟨A, c, rfl⟩ := Kd.fG ho
 rw [hd]
 exact h A c w1 ((HS.nY hb).push (eY HS.keep) ho)
theorem St.fk (HS : St T w0 w W g f0 f1 f2 os ks Z) {A : Option Addr} {n c : Nat} {r : List S29} (hm : (.slice A n c, r) ∈ os) : Kd.FK (Kd.slice 29 k29) W (fun k => w.heap.size ≤ k ∧ ∃ cells, W.heap[k]? = some (.cells cells 29 (0, 0))) r [.slice A n c] := by
 have h := Kd.jb (ok' := fun k => w.heap.size ≤ k ∧ ∃ cells, W.heap[k]? = some (.cells cells 29 (0, 0))) (Kd.ni (HS.o _ hm)) (fun k ⟨_, h1, _, q, hq, cells, h2⟩ => ⟨h1, cells, by
  have : q = 29 := by simpa [show k29.E = [] from rfl] using hq
  rw [← this]; exact h2⟩)
 have hn : n = r.length := (Kd.dU h).1
 subst hn
 exact Kd.zG (Kd.dU h).2.1 fun W' hW => (Kd.dU (Kd.vX h hW)).2.2
theorem Jm {N : Tmp} {n : Nat} (xs : List (List S29)) (inner : List Value) (HS : St T w0 w W g f0 f1 f2 os ks Z)
 (hrun : (execOp a.eval oi).run P W = .ok (.value (.slice (some ⟨W.heap.size, 0, none⟩) n n)) (W.alloc (.cells inner.toArray 23)))
 (hn : xs.length = n) (h3 : n ≤ 3) (hrep : eG (Kd.FK (Kd.slice 29 k29) W fun k => w.heap.size ≤ k ∧ ∃ cells, W.heap[k]? = some (.cells cells 29 (0, 0))) 1 xs inner)
 (h : ∀ A c w', St T w0 w w' g f0 f1 f2 os ((.slice A n c, xs) :: ks) Z → wpList P ops Q rest (a.put (some N) (.slice A n c)) w')
 (hd : oi.dst = some N := by rfl) (hg : oi.guard = none := by rfl) : wpList P ops Q (oi :: rest) a W := by
 subst hn
 refine Kd.J9 (Kd.slice 29 k29) W.heap.size 23 hg hd (xs := xs) (inner := inner) (ok := fun k => w.heap.size ≤ k ∧ ((∃ cells, W.heap[k]? = some (.cells cells 29 (0, 0))) ∨ W.heap.size ≤ k)) hrun hrep (fun _ hk => ⟨hk.1, .inl hk.2⟩) ⟨eY HS.keep, .inr (Nat.le_refl _)⟩ (Below.refl _ _) (Nat.le_refl _) (by omega) ?_
 intro v1 w1 ho hb _ _
 obtain ⟨A, c, rfl⟩ := Kd.xZ ho
 rw [hd]
 refine h A c w1 ((HS.nY hb).Be (Kd.yc ho (eY HS.keep)) (fun k hk => ⟨?_, hk.1⟩) (fun p hp k hk e => ?_))
 ·rintro rfl
  rcases hk.2 with ⟨cells, hc⟩ | hk
  ·obtain ⟨A0, c0, hb, _⟩ := HS.rd
   rw [hb] at hc
   injection hc with hc
   injection hc with _ hc
   exact HS.t.1 hc
  exact absurd HS.rd.lt (by omega)
 obtain ⟨h1, c1, h2⟩ := KL.own HS.s p hp k e.symm
 rcases hk.2 with ⟨cells, hc⟩ | hk
 ·rw [h2] at hc
  injection hc with hc
  injection hc with _ hc
  exact absurd hc (by decide)
 omega
theorem kR {N : Tmp} {A : Option Addr} {c n1 : Nat} {r : List S29} (HS : St T w0 w W g f0 f1 f2 os ks Z)
 (hrun : (execOp a.eval oi).run P W = .ok (.value (.slice (some ⟨W.heap.size, 0, none⟩) 1 1)) (W.alloc (.cells #[.slice A n1 c] 23)))
 (h : ∀ A' c' w', St T w0 w w' g f0 f1 f2 os ((.slice A' ([r] : List (List S29)).length c', [r]) :: ks) Z → wpList P ops Q rest (a.put (some N) (.slice A' 1 c')) w')
 (hm : (Value.slice A n1 c, r) ∈ os := by repeat (first | exact .head _ | apply List.Mem.tail)) (hd : oi.dst = some N := by rfl) (hg : oi.guard = none := by rfl) : wpList P ops Q (oi :: rest) a W :=
 Jm [r] [.slice A n1 c] HS hrun rfl (by omega) (eG.one (HS.fk hm) (eG.none _ _)) h hd hg
theorem vF {N : Tmp} {A B : Option Addr} {c d n1 n2 : Nat} {r s : List S29} (HS : St T w0 w W g f0 f1 f2 os ks Z)
 (hrun : (execOp a.eval oi).run P W = .ok (.value (.slice (some ⟨W.heap.size, 0, none⟩) 2 2)) (W.alloc (.cells #[.slice A n1 c, .slice B n2 d] 23)))
 (h : ∀ A' c' w', St T w0 w w' g f0 f1 f2 os ((.slice A' ([r, s] : List (List S29)).length c', [r, s]) :: ks) Z → wpList P ops Q rest (a.put (some N) (.slice A' 2 c')) w')
 (hm : (Value.slice A n1 c, r) ∈ os := by repeat (first | exact .head _ | apply List.Mem.tail)) (hm2 : (Value.slice B n2 d, s) ∈ os := by repeat (first | exact .head _ | apply List.Mem.tail)) (hd : oi.dst = some N := by rfl) (hg : oi.guard = none := by rfl) : wpList P ops Q (oi :: rest) a W :=
 Jm [r, s] [.slice A n1 c, .slice B n2 d] HS hrun rfl (by omega) (eG.one (HS.fk hm) (eG.one (HS.fk hm2) (eG.none _ _))) h hd hg
/-- A row that was made, and behind it the row that was made last: what an append asks, and what it gives back. -/
theorem St.grew {B : Option Addr} {m d : Nat} {v : Value} {r s : List (List S29)} (HS : St T w0 w W g f0 f1 f2 os ((.slice B m d, s) :: (v, r) :: ks) Z) : ∃ ok okp : Nat → Prop, Kd.N (Kd.slice 29 k29) 23 W w.heap.size ok v r ∧ Kd.F (Kd.slice 29 k29) W okp B m s ∧ (∀ k, okp k → ok k ∧ some k ≠ v.ownBlock) ∧ (∀ k, W.heap.size ≤ k → ok k) ∧ m = s.length ∧ w.heap.size ≤ W.heap.size ∧
 ∀ v1 w1 l, Kd.N (Kd.slice 29 k29) 23 w1 w.heap.size ok v1 l → Below w.heap.size W w1 → W.grownBy w1 v.ownBlock → (∀ p ∈ Z.bs, ∃ cs t, p.2 = .cells cs t (0, 0) ∧ t ≠ 23) → ∃ A c, v1 = .slice A l.length c ∧ St T w0 w w1 g f0 f1 f2 [] [(.slice A l.length c, l)] ⟨Z.bs, []⟩ := by
 obtain ⟨⟨ok, hu, u1, u2⟩, ⟨ok', hv, v1, _⟩, _⟩ := HS.s
 refine ⟨fun k => ok k ∨ ok' k ∨ W.heap.size ≤ k, ok, Kd.Fe hv fun k h => .inr (.inl h), Kd.N_F hu, fun k h => ⟨.inl h, u2 _ (.head _) k h⟩, fun k h => .inr (.inr h), (Kd.sF hu).1, eY HS.keep, ?_⟩
 intro v1' w1 l ho hb hgr hz
 obtain ⟨A, c, rfl⟩ := Kd.xZ ho
 obtain ⟨A0, c0, hb0, hg0, hr0⟩ := HS.rd
 have hne : some g ≠ v.ownBlock := Kd.J8 hv hb0 (fun e => HS.t.2.1 e.symm)
 refine ⟨A, c, rfl, HS.t, HS.z, ⟨A0, c0, kN hb0 hgr hne, hg0, hr0⟩, xR HS.below HS.z hb, HS.keep.trans (bY.vk hgr g) (Kd.GY hv), fun _ h => (nomatch h), ⟨⟨_, ho, fun k hk => ?_, fun _ h => (nomatch h)⟩, trivial⟩, fun p hp => ?_, fun _ h => (nomatch h)⟩
 ·rcases hk with hk | hk | hk
  ·exact u1 k hk
  ·exact v1 k hk
  exact ⟨by have := HS.rd.lt; omega, Nat.le_trans (eY HS.keep) hk⟩
 obtain ⟨h1, h2⟩ := HS.b p hp
 obtain ⟨cs, t, e, ht⟩ := hz p hp
 refine ⟨?_, h2⟩
 rw [e] at h1 ⊢
 exact kN h1 hgr (Kd.J8 hv h1 (fun e => ht e.symm))
theorem xW {N : Tmp} (x y : Operand) {B : Option Addr} {m d : Nat} {v : Value} {r s : List (List S29)} {X : Option β} {cn : Prop} [Decidable cn] (ho : oi.op = .call { callee := .builtin .append, args := #[x, y], argTypes := #[55, 55] })
 (ht : P.underlying 55 = some (.slice 23)) (hinfo : (P.info? 23).map (fun i => (i.zero, i.size, i.bytes)) = some (some (.slice none 0 0), 1, 24))
 (HS : St T w0 w W g f0 f1 f2 os ((.slice B m d, s) :: (v, r) :: ks) Z) (hx : a.eval x = v) (hy : a.eval y = .slice B m d)
 (H : af ((if cn then X else none) = some R))
 (h : ∀ A' c' w', St T w0 w w' g f0 f1 f2 [] [(.slice A' (r ++ s).length c', r ++ s)] ⟨Z.bs, []⟩ → af (X = some R) → wpList P ops Q rest (a.put (some N) (.slice A' (r ++ s).length c')) w')
 (hcn : cn → r.length + s.length ≤ 5864062014805 := by (intro h_; simp only [List.length_cons, List.length_nil]; omega)) (hz : ∀ p ∈ Z.bs, ∃ cs t, p.2 = .cells cs t (0, 0) ∧ t ≠ 23 := by (intro p hp; first | (rcases List.mem_cons.1 hp with rfl | hp; exact ⟨_, _, rfl, by decide⟩; cases hp) | cases hp)) (hd : oi.dst = some N := by rfl) (hg : oi.guard = none := by rfl) : wpList P ops Q (oi :: rest) a W := by
 by_cases hl : cn
 ·have hle := hcn hl
  obtain ⟨ok, okp, h1, h2, h3, h4, h5, h6, h7⟩ := HS.grew
  refine Kd.wH (Kd.slice 29 k29) w.heap.size hg x y 55 23 (.slice none 0 0) 24 ho ht hinfo rfl (by decide) (by omega) v r s B m d ok okp hx hy h1 h2 h3 h4 (Below.refl _ _) h6 (by omega) ?_
  intro v1' w1 ho hb hgr _
  obtain ⟨A, c, rfl, hs⟩ := h7 v1' w1 _ ho hb hgr hz
  rw [hd]
  exact h A c w1 hs (hI hl H)
 exact absurd (hE hl H).out (by simp)
/-- The same in a region whose operations go in any order. -/
theorem JS {Kc : Act → World → Prop} {N : Tmp} (x y : Operand) {B : Option Addr} {m d : Nat} {v : Value} {r s : List (List S29)} {X : Option β} {cn : Prop} [Decidable cn] (ho : oi.op = .call { callee := .builtin .append, args := #[x, y], argTypes := #[55, 55] })
 (ht : P.underlying 55 = some (.slice 23)) (hinfo : (P.info? 23).map (fun i => (i.zero, i.size, i.bytes)) = some (some (.slice none 0 0), 1, 24))
 (HS : St T w0 w W g f0 f1 f2 os ((.slice B m d, s) :: (v, r) :: ks) Z) (hw : Region.wanted oi (yielded ops a.tmps) = true) (hx : a.eval x = v) (hy : a.eval y = .slice B m d)
 (H : af ((if cn then X else none) = some R))
 (h : ∀ A' c' w' n, af (n = (r ++ s).length) → St T w0 w w' g f0 f1 f2 [] [(.slice A' n c', r ++ s)] ⟨Z.bs, []⟩ → af (X = some R) → Kc (a.put (some N) (.slice A' n c')) w')
 (hcn : cn → r.length + s.length ≤ 5864062014805 := by (intro h_; simp only [List.length_cons, List.length_nil]; omega)) (hz : ∀ p ∈ Z.bs, ∃ cs t, p.2 = .cells cs t (0, 0) ∧ t ≠ 23 := by (intro p hp; first | (rcases List.mem_cons.1 hp with rfl | hp; exact ⟨_, _, rfl, by decide⟩; cases hp) | cases hp)) (hd : oi.dst = some N := by rfl) : if Region.wanted oi (yielded ops a.tmps) = true then Oper.wp P oi a W Kc Q else Kc (a.put oi.dst undef) W := by
 by_cases hl : cn
 ·have hle := hcn hl
  obtain ⟨ok, okp, h1, h2, h3, h4, h5, h6, h7⟩ := HS.grew
  refine Kd.rq (Kd.slice 29 k29) w.heap.size hw x y 55 23 (.slice none 0 0) 24 ho ht hinfo rfl (by decide) (by omega) v r s B m d ok okp hx hy h1 h2 h3 h4 (Below.refl _ _) h6 (by omega) ?_
  intro v1' w1 ho hb hgr _
  obtain ⟨A, c, rfl, hs⟩ := h7 v1' w1 _ ho hb hgr hz
  rw [hd]
  exact h A c w1 _ ⟨rfl⟩ hs (hI hl H)
 exact absurd (hE hl H).out (by simp)
theorem app {N : Tmp} (x y : Operand) {B : Option Addr} {m d : Nat} {v : Value} {r s : List (List S29)} {X : Option β} {cn : Prop} [Decidable cn] (ho : oi.op = .call { callee := .builtin .append, args := #[x, y], argTypes := #[55, 55] })
 (ht : P.underlying 55 = some (.slice 23)) (hinfo : (P.info? 23).map (fun i => (i.zero, i.size, i.bytes)) = some (some (.slice none 0 0), 1, 24))
 (HS : St T w0 w W g f0 f1 f2 os ((.slice B m d, s) :: (v, r) :: ks) Z) (hx : a.eval x = v) (hy : a.eval y = .slice B m d)
 (H : af ((if cn then X else none) = some R))
 (h : ∀ A' c' w', St T w0 w w' g f0 f1 f2 [] [(.slice A' (r ++ s).length c', r ++ s)] ⟨[], []⟩ → af (X = some R) → wpList P ops Q rest (a.put (some N) (.slice A' (r ++ s).length c')) w')
 (hcn : cn → r.length + s.length ≤ 5864062014805 := by (intro h_; simp only [List.length_cons, List.length_nil]; omega)) (hd : oi.dst = some N := by rfl) (hg : oi.guard = none := by rfl) : wpList P ops Q (oi :: rest) a W :=
 xW x y ho ht hinfo (Z := ⟨[], []⟩) ⟨HS.t, HS.z, HS.rd, HS.below, HS.keep, HS.o, HS.s, fun _ h => (nomatch h), fun _ h => (nomatch h)⟩ hx hy H h hcn (fun _ h => (nomatch h)) hd hg
theorem cB {f : FuncId} {post : Ending → World → Prop} {F : Option (Bool × Int × Bool)} {K : Bool × Int × Bool → Option β} (HS : St T w0 w W g f0 f1 f2 os ks Z) (H : af (F.bind K = some R))
 (hC : ∀ t q b, Rd T w0 W g f0 f1 f2 → Below w0.heap.size w0 W → F = some (t, q, b) → Calls P f args W (Back T w0 W g f0 q b fun e _ => e = .returned (.bool t)))
 (h : ∀ t q b w', St T w0 w w' g f0 q b os ks Z → af (K (t, q, b) = some R) → post (.returned (.bool t)) w') : Calls P f args W post := by
 obtain ⟨⟨t, q, b⟩, h1, h2⟩ := Option.bind_eq_some_iff.mp H.out
 refine (hC t q b HS.rd HS.below h1).mono ?_
 rintro _ w' ⟨rfl, hi, hb, hk⟩
 exact h t q b w' (HS.step hk hi hb) ⟨h2⟩
theorem JI {α : Type} (d : Kd α) {W : World} {base e : Nat} {xs : List α} {inner : List Value} {ok okp : Nat → Prop} (hrep : eG (d.M W base okp) d.sz xs inner) (hok : ∀ k, okp k → ok k) (hfresh : ok W.heap.size) (hbase : base ≤ W.heap.size) (hm : xs.length ≤ 9223372036854775807) :
 Kd.R d e (W.alloc (.cells inner.toArray e)) base ok (.slice (some ⟨W.heap.size, 0, none⟩) xs.length xs.length) xs := by
 refine ⟨fun k hk => ?_, inner, ?_, ?_⟩
 ·have : W.heap.size = k := by simpa [Value.ownBlock] using hk
  subst this
  exact hfresh
 ·have h2 := World.ownsRow_lit (base := base) (e := e) (size := d.sz) W inner.toArray xs.length hbase (by simpa [maxLen] using hm) (by simpa using hrep.1)
  simpa using h2
 refine hrep.pg (fun p c hp => d.M_mono (fun k hk => ⟨hok k hk.1, fun he => ?_⟩) (Kd.BO (d.M_bound hp) (iE (Below.refl _ _) _)))
 have h3 : k = W.heap.size := by simpa [Value.ownBlock] using he
 have := hk.2.2.1
 omega
theorem JJ {α : Type} (d : Kd α) {W : World} {base e : Nat} {xs : List α} {inner : List Value} {ok okp : Nat → Prop} (hrep : eG (Kd.FK d W okp) d.sz xs inner) (hok : ∀ k, okp k → ok k) (hfresh : ok W.heap.size) (hbase : base ≤ W.heap.size) (hm : xs.length ≤ 9223372036854775807) :
 Kd.N d e (W.alloc (.cells inner.toArray e)) base ok (.slice (some ⟨W.heap.size, 0, none⟩) xs.length xs.length) xs := by
 have hr := JI (Kd.raw d.sz) (W := W) (base := base) (e := e) (xs := Kd.chunks d.sz xs.length inner) (inner := inner) (ok := fun k => k = W.heap.size) (okp := fun _ => False) (Kd.uS hrep (fun y c hk => ⟨d.K_len (Kd.pM hk), d.K_one (Kd.pM hk)⟩)) (fun _ hk => hk.elim) rfl hbase (by rw [Kd.gV]; exact hm)
 rw [Kd.gV] at hr
 exact Kd.Ff hr (World.grownBy_alloc W _ none) ⟨_, rfl, Nat.le_refl _⟩ (Kd.gV _ _ _) (fun j y c hy hc => by rw [Kd.mr hc]; exact hrep.2 j y hy) hok hfresh
/-- A row of trees that is made just now. -/
theorem St.lits {n : Nat} {xs : List (List S29)} {inner : List Value} (HS : St T w0 w W g f0 f1 f2 os ks Z) (hn : xs.length = n) (h3 : n ≤ 3) (hrep : eG (Kd.FK (Kd.slice 29 k29) W fun k => w.heap.size ≤ k ∧ ∃ cells, W.heap[k]? = some (.cells cells 29 (0, 0))) 1 xs inner) :
 St T w0 w (W.alloc (.cells inner.toArray 23)) g f0 f1 f2 os ((.slice (some ⟨W.heap.size, 0, none⟩) n n, xs) :: ks) Z := by
 subst hn
 have ho := JJ (Kd.slice 29 k29) (W := W) (base := W.heap.size) (e := 23) (xs := xs) (inner := inner) (ok := fun k => w.heap.size ≤ k ∧ ((∃ cells, W.heap[k]? = some (.cells cells 29 (0, 0))) ∨ W.heap.size ≤ k)) hrep (fun _ hk => ⟨hk.1, .inl hk.2⟩) ⟨eY HS.keep, .inr (Nat.le_refl _)⟩ (Nat.le_refl _) (by omega)
 refine (HS.alloc _).Be (Kd.yc ho (eY HS.keep)) (fun k hk => ⟨?_, hk.1⟩) (fun p hp k hk e => ?_)
 ·rintro rfl
  rcases hk.2 with ⟨cells, hc⟩ | hk
  ·obtain ⟨A0, c0, hb, _⟩ := HS.rd
   rw [hb] at hc
   injection hc with hc
   injection hc with _ hc
   exact HS.t.1 hc
  exact absurd HS.rd.lt (by omega)
 obtain ⟨h1, c1, h2⟩ := KL.own HS.s p hp k e.symm
 rcases hk.2 with ⟨cells, hc⟩ | hk
 ·rw [h2] at hc
  injection hc with hc
  injection hc with _ hc
  exact absurd hc (by decide)
 omega
theorem St.Ht {A : Option Addr} {c n1 : Nat} {r : List S29} (HS : St T w0 w W g f0 f1 f2 os ks Z) (hm : (Value.slice A n1 c, r) ∈ os := by repeat (first | exact .head _ | apply List.Mem.tail)) :
 St T w0 w (W.alloc (.cells #[.slice A n1 c] 23)) g f0 f1 f2 os ((.slice (some ⟨W.heap.size, 0, none⟩) ([r] : List (List S29)).length 1, [r]) :: ks) Z := HS.lits (inner := [.slice A n1 c]) rfl (by simp) (eG.one (HS.fk hm) (eG.none _ _))
theorem St.Hr {A B C : Option Addr} {c d e n1 n2 n3 : Nat} {r s t : List S29} (HS : St T w0 w W g f0 f1 f2 os ks Z) (hm : (Value.slice A n1 c, r) ∈ os := by repeat (first | exact .head _ | apply List.Mem.tail)) (hm2 : (Value.slice B n2 d, s) ∈ os := by repeat (first | exact .head _ | apply List.Mem.tail)) (hm3 : (Value.slice C n3 e, t) ∈ os := by repeat (first | exact .head _ | apply List.Mem.tail)) :
 St T w0 w (W.alloc (.cells #[.slice A n1 c, .slice B n2 d, .slice C n3 e] 23)) g f0 f1 f2 os ((.slice (some ⟨W.heap.size, 0, none⟩) ([r, s, t] : List (List S29)).length 3, [r, s, t]) :: ks) Z := HS.lits (inner := [.slice A n1 c, .slice B n2 d, .slice C n3 e]) rfl (by simp) (eG.one (HS.fk hm) (eG.one (HS.fk hm2) (eG.one (HS.fk hm3) (eG.none _ _))))
theorem cL {f : FuncId} {post : Ending → World → Prop} {F : Option (List S29 × Int × Bool)} {K : List S29 × Int × Bool → Option β} (HS : St T w0 w W g f0 f1 f2 os ks Z) (H : af (F.bind K = some R))
 (hC : ∀ t q b, Rd T w0 W g f0 f1 f2 → Below w0.heap.size w0 W → F = some (t, q, b) → Calls P f args W (Back T w0 W g f0 q b (IsL W t)))
 (h : ∀ t q b w' A c, St T w0 w w' g f0 q b ((.slice A t.length c, t) :: os) ks Z → af (K (t, q, b) = some R) → post (.returned (.slice A t.length c)) w') : Calls P f args W post := by
 obtain ⟨⟨t, q, b⟩, h1, h2⟩ := Option.bind_eq_some_iff.mp H.out
 refine (hC t q b HS.rd HS.below h1).mono ?_
 rintro _ w' ⟨⟨v, rfl, ho⟩, hi, hb, hk⟩
 obtain ⟨A, c, rfl⟩ := Kd.fG ho
 exact h t q b w' A c ((HS.step hk hi hb).push (eY HS.keep) ho) ⟨h2⟩
theorem ut {W : World} {o : Obj} {p : Addr} {v : Value} (h : W.cell? p = some v) : (W.alloc o).cell? p = some v := (World.cell?_alloc_lt W o p (World.block_lt_of_cell? _ _ h)).trans h
theorem cJ {f : FuncId} {post : Ending → World → Prop} {F : Option (List S29)} {K : List S29 → Option β} {A : Option Addr} {c : Nat} {l : List (List S29)}
 (HS : St T w0 w W g f0 f1 f2 os ((.slice A l.length c, l) :: ks) Z) (H : af (F.bind K = some R))
 (hC : ∀ t, Kd.C (Kd.slice 29 k29) W A l.length l → l.length ≤ c → F = some t → Calls P f args W (fun e w' => ∃ v, e = .returned v ∧ Kd.R k29 29 w' W.heap.size (fun _ => True) v t ∧ Below W.heap.size W w'))
 (h : ∀ t w' A c, St T w0 w w' g f0 f1 f2 ((.slice A t.length c, t) :: os) ks Z → Below W.heap.size W w' → af (K t = some R) → post (.returned (.slice A t.length c)) w') : Calls P f args W post := by
 obtain ⟨t, h1, h2⟩ := Option.bind_eq_some_iff.mp H.out
 obtain ⟨⟨ok, hn, _⟩, _⟩ := HS.s
 obtain ⟨_, hc, hr⟩ := Kd.sF hn
 refine (hC t hr hc h1).mono ?_
 rintro _ w' ⟨v, rfl, ho, hb⟩
 obtain ⟨A, c, rfl⟩ := Kd.fG ho
 exact h t w' A c ((HS.pop.nY hb).push (eY HS.keep) ho) hb ⟨h2⟩
/-- A tree is made of one that was made. -/
theorem cS {f : FuncId} {post : Ending → World → Prop} {F : Option (List S29)} {K : List S29 → Option β} {A : Option Addr} {n c : Nat} {l : List S29}
 (HS : St T w0 w W g f0 f1 f2 os ks Z) (H : af (F.bind K = some R)) (hm : (Value.slice A n c, l) ∈ os)
 (hC : ∀ t, n = l.length → Kd.C k29 W A l.length l → l.length ≤ c → F = some t → Calls P f args W (fun e w' => ∃ v, e = .returned v ∧ Kd.R k29 29 w' W.heap.size (fun _ => True) v t ∧ Below W.heap.size W w'))
 (h : ∀ t w' A c, St T w0 w w' g f0 f1 f2 ((.slice A t.length c, t) :: os) ks Z → Below W.heap.size W w' → af (K t = some R) → post (.returned (.slice A t.length c)) w') : Calls P f args W post := by
 obtain ⟨t, h1, h2⟩ := Option.bind_eq_some_iff.mp H.out
 obtain ⟨hn, hc, hr⟩ := Kd.dU (HS.o _ hm)
 refine (hC t hn hr (by rw [← hn]; exact hc) h1).mono ?_
 rintro _ w' ⟨v, rfl, ho, hb⟩
 obtain ⟨A, c, rfl⟩ := Kd.fG ho
 exact h t w' A c ((HS.nY hb).push (eY HS.keep) ho) hb ⟨h2⟩
/-- The first node of a tree that was made. -/
theorem St.node {A : Option Addr} {n c : Nat} {t : List S29} (HS : St T w0 w W g f0 f1 f2 os ks Z) (hm : (Value.slice A n c, t) ∈ os) (h : 0 < (t.length : Int)) : ∃ ad, A = some ad ∧ W.cell? ad = some (.int .i64 (ax t 0).f0) ∧ W.cell? ⟨ad.block, ad.off + 2, none⟩ = some (.string (ax t 0).f2) := by
 obtain ⟨ad, e, h0, h1, h2, h3, h4⟩ := iO (Kd.dU (HS.o _ hm)).2.2 0 (by omega) h
 refine ⟨ad, e, ?_, ?_⟩
 ·rwa [show (0 : Int).toNat * 5 = 0 from rfl, Addr.add_zero'] at h0
 rwa [show (0 : Int).toNat * 5 = 0 from rfl, Addr.add_zero'] at h2
theorem St.Hq {ad : Addr} {n c : Nat} {t : List S29} (HS : St T w0 w W g f0 f1 f2 os ks Z) (hm : (Value.slice (some ad) n c, t) ∈ os) (h : (0 < (t.length : Int)) = True) : W.cell? ad = some (.int .i64 (ax t 0).f0) ∧ W.cell? ⟨ad.block, ad.off + 2, none⟩ = some (.string (ax t 0).f2) := by
 obtain ⟨ad', e, h1⟩ := HS.node hm (of_eq_true h)
 cases e
 exact h1
/-- Numbers are made of a tree that was made. -/
theorem sI (f : FuncId) {N : Tmp} (hop : oi.op = .call { callee := .value (.func f), args := ar, argTypes := ts }) (hf : P.funcs[f]? = some fn) {F : Option (List Int)} {K : List Int → Option β} {A : Option Addr} {n c : Nat} {l : List S29}
 (HS : St T w0 w W g f0 f1 f2 os ks Z) (H : af (F.bind K = some R)) (hm : (Value.slice A n c, l) ∈ os)
 (hC : ∀ t, n = l.length → Kd.C k29 W A l.length l → l.length ≤ c → F = some t → Calls P f args W (fun e w' => ∃ v, e = .returned v ∧ Kd.R (Kd.int .i64) 3 w' W.heap.size (fun _ => True) v t ∧ Below W.heap.size W w'))
 (h : ∀ t w' A c, St T w0 w w' g f0 f1 f2 os ks Z → Kd.C (Kd.int .i64) w' A t.length t → af (K t = some R) → wpList P ops Q rest (a.put (some N) (.slice A t.length c)) w')
 (hd : oi.dst = some N := by rfl) (hg : oi.guard = none := by rfl) (hname : (fn.name == "runtime.NumGoroutine") = false := by kernel_rfl) (hb : fn.body.isSome = true := by rfl)
 (hargs : ar.map a.eval = args := by ((try simp only [List.map_toArray, List.map_cons, List.map_nil]); first | done | rfl)) : wpList P ops Q (oi :: rest) a W := by
 obtain ⟨t, h1, h2⟩ := Option.bind_eq_some_iff.mp H.out
 obtain ⟨hn, hc, hr⟩ := Kd.dU (HS.o _ hm)
 refine kQ (some N) hd hg hf hname hb args hop hargs ((hC t hn hr (by rw [← hn]; exact hc) h1).mono ?_)
 rintro _ w' ⟨v, rfl, ho, hb⟩
 obtain ⟨A, c, rfl⟩ := Kd.fG ho
 exact ⟨_, rfl, h t w' A c (HS.nY hb) (Kd.dU ho).2.2 ⟨h2⟩⟩
structure BL (p : Prop) : Prop where
 h : p
/-- A struct that is boxed. -/
theorem boxS {N : Tmp} {cs : Array Value} {t : TypeId} (HS : St T w0 w W g f0 f1 f2 os ks Z) (hrun : (execOp a.eval oi).run P W = .ok (.value (.pointer (some ⟨W.heap.size, 0, none⟩))) (W.alloc (.cells cs t (0, 0))))
 (h : ∀ gb w', St T w0 w w' g f0 f1 f2 os ks ⟨(gb, .cells cs t (0, 0)) :: Z.bs, Z.ss⟩ → gb ≠ g → w.heap.size ≤ gb → wpList P ops Q rest (a.put (some N) (.pointer (some ⟨gb, 0, none⟩))) w')
 (hd : oi.dst = some N := by rfl) (hg : oi.guard = none := by rfl) : wpList P ops Q (oi :: rest) a W := by
 refine fA hg hd hrun ?_
 intro gb hgb w1 hc hb
 have hne : gb ≠ g := by rw [hgb]; exact Nat.ne_of_gt HS.rd.lt
 have h1 := HS.nY hb
 rw [hd]
 exact h gb w1 ⟨h1.t, h1.z, h1.rd, h1.below, h1.keep, h1.o, h1.s, fun p hp => (by
  rcases List.mem_cons.1 hp with rfl | hp
  ·exact ⟨hc, hne⟩
  exact h1.b p hp), h1.ss⟩ hne (by rw [hgb]; exact eY HS.keep)
theorem St.boxed (HS : St T w0 w W g f0 f1 f2 os ks Z) (cs : Array Value) (t : TypeId) : ∃ gb w', W.heap.size = gb ∧ (W.alloc (.cells cs t)).drew = w' ∧ St T w0 w w' g f0 f1 f2 os ks ⟨(gb, .cells cs t (0, 0)) :: Z.bs, Z.ss⟩ ∧ gb ≠ g := by
 have h1 := (HS.alloc (.cells cs t)).drew
 have hne : W.heap.size ≠ g := Nat.ne_of_gt HS.rd.lt
 exact ⟨_, _, rfl, rfl, ⟨h1.t, h1.z, h1.rd, h1.below, h1.keep, h1.o, h1.s, fun p hp => (by
  rcases List.mem_cons.1 hp with rfl | hp
  ·exact ⟨ja (BI W _), hne⟩
  exact h1.b p hp), h1.ss⟩, hne⟩
/-- Texts are made. -/
theorem sG (f : FuncId) {N : Tmp} (hop : oi.op = .call { callee := .value (.func f), args := ar, argTypes := ts }) (hf : P.funcs[f]? = some fn) {F : Option (List ByteArray)} {K : List ByteArray → Option β}
 (HS : St T w0 w W g f0 f1 f2 os ks Z) (H : af (F.bind K = some R))
 (hC : ∀ t, F = some t → Calls P f args W (fun e w' => ∃ v, e = .returned v ∧ Kd.R Kd.string 9 w' W.heap.size (fun _ => True) v t ∧ Below W.heap.size W w'))
 (h : ∀ t w' A c, St T w0 w w' g f0 f1 f2 os ks ⟨Z.bs, (.slice A t.length c, t) :: Z.ss⟩ → af (K t = some R) → wpList P ops Q rest (a.put (some N) (.slice A t.length c)) w')
 (hd : oi.dst = some N := by rfl) (hg : oi.guard = none := by rfl) (hname : (fn.name == "runtime.NumGoroutine") = false := by kernel_rfl) (hb : fn.body.isSome = true := by rfl)
 (hargs : ar.map a.eval = args := by ((try simp only [List.map_toArray, List.map_cons, List.map_nil]); first | done | rfl)) : wpList P ops Q (oi :: rest) a W := by
 obtain ⟨t, h1, h2⟩ := Option.bind_eq_some_iff.mp H.out
 refine kQ (some N) hd hg hf hname hb args hop hargs ((hC t h1).mono ?_)
 rintro _ w' ⟨v, rfl, ho, hb⟩
 obtain ⟨A, c, rfl⟩ := Kd.fG ho
 have h3 := HS.nY hb
 exact ⟨_, rfl, h t w' A c ⟨h3.t, h3.z, h3.rd, h3.below, h3.keep, h3.o, h3.s, h3.b, fun p hp => (by
  rcases List.mem_cons.1 hp with rfl | hp
  ·exact Kd.iw ho (eY HS.keep)
  exact h3.ss p hp)⟩ ⟨h2⟩⟩
theorem JK {N : Tmp} {x y z : ByteArray} (HS : St T w0 w W g f0 f1 f2 os ks Z)
 (hrun : (execOp a.eval oi).run P W = .ok (.value (.slice (some ⟨W.heap.size, 0, none⟩) 3 3)) (W.alloc (.cells #[.string x, .string y, .string z] 9)))
 (h : ∀ A c w', St T w0 w w' g f0 f1 f2 os ks ⟨Z.bs, (.slice A ([x, y, z] : List ByteArray).length c, [x, y, z]) :: Z.ss⟩ → wpList P ops Q rest (a.put (some N) (.slice A 3 c)) w')
 (hd : oi.dst = some N := by rfl) (hg : oi.guard = none := by rfl) : wpList P ops Q (oi :: rest) a W := by
 refine Kd.pO Kd.string W.heap.size 9 hg hd (xs := [x, y, z]) (inner := [.string x, .string y, .string z]) (ok := fun _ => True) (okp := fun _ => True) hrun ?_ (fun _ hk => hk) trivial (Below.refl _ _) (Nat.le_refl _) (by simp) ?_
 ·exact eG.one rfl (eG.one rfl (eG.one rfl (eG.none _ _)))
 intro v1 w1 ho hb _ _
 obtain ⟨A, c, rfl⟩ := Kd.fG ho
 have h3 := HS.nY hb
 rw [hd]
 exact h A c w1 ⟨h3.t, h3.z, h3.rd, h3.below, h3.keep, h3.o, h3.s, h3.b, fun p hp => (by
  rcases List.mem_cons.1 hp with rfl | hp
  ·exact Kd.iw ho (eY HS.keep)
  exact h3.ss p hp)⟩
theorem St.str {A : Option Addr} {n c : Nat} {xs : List ByteArray} {bs : List (Nat × Obj)} {l : List (Value × List ByteArray)} (HS : St T w0 w W g f0 f1 f2 os ks ⟨bs, (.slice A n c, xs) :: l⟩) (i : Int) (h0 : 0 ≤ i) (h1 : i < (xs.length : Int)) : ∃ ad, A = some ad ∧ W.cell? (ad.add i.toNat) = some (.string (nX ByteArray.empty xs i)) :=
 Kd.oP (Kd.dU (HS.ss _ (.head _))).2.2 i h0 (by simpa using h1)
theorem St.D7 {ad : Addr} {n c : Nat} {xs : List ByteArray} {bs : List (Nat × Obj)} {l : List (Value × List ByteArray)} (HS : St T w0 w W g f0 f1 f2 os ks ⟨bs, (.slice (some ad) n c, xs) :: l⟩) {i : Int} (h0 : 0 ≤ i) (h1 : i < (xs.length : Int)) : W.cell? (ad.add i.toNat) = some (.string (nX ByteArray.empty xs i)) := by
 obtain ⟨ad', e, h⟩ := HS.str i h0 h1
 cases e
 exact h
theorem St.box (HS : St T w0 w W g f0 f1 f2 os ks Z) {gb : Nat} {cs : Array Value} {t : TypeId} {l : List (Nat × Obj)} {ss : List (Value × List ByteArray)} (hZ : Z = ⟨(gb, .cells cs t (0, 0)) :: l, ss⟩) : W.heap[gb]? = some (.cells cs t (0, 0)) := by
 subst hZ
 exact (HS.b _ (.head _)).1
end
theorem l7 (a : Int) (b : ByteArray) (c d : Int) (w : World) : (Instr.field 37 (.agg #[.int .i64 a, .string b, .int .i64 c, .int .i64 d]) 0).run Tryz.prog w = .ok (.int .i64 a) w := by kernel_rfl
theorem lu (a : Int) (b : ByteArray) (c d : Int) (w : World) : (Instr.field 37 (.agg #[.int .i64 a, .string b, .int .i64 c, .int .i64 d]) 1).run Tryz.prog w = .ok (.string b) w := by kernel_rfl
theorem lq (a : Int) (b : ByteArray) (c d : Int) (w : World) : (Instr.field 37 (.agg #[.int .i64 a, .string b, .int .i64 c, .int .i64 d]) 2).run Tryz.prog w = .ok (.int .i64 c) w := by kernel_rfl
theorem lm (a : Int) (b : ByteArray) (c d : Int) (w : World) : (Instr.field 37 (.agg #[.int .i64 a, .string b, .int .i64 c, .int .i64 d]) 3).run Tryz.prog w = .ok (.int .i64 d) w := by kernel_rfl
end Go.Proofs.YtkbhkonenkgfoaaGreat.Q
end
section
set_option linter.unusedVariables false
namespace Go.Proofs.YtkbhkonenkgfoaaGreat.Q
open Go Go.RowKit Go.Proofs.YtkbhkonenkgfoaaGreatW.PrintWords Go.Proofs.YtkbhkonenkgfoaaGreatW.PrintLast Go.Proofs.YtkbhkonenkgfoaaGreatW.PrintMore
theorem toL {P : Program} {f : FuncId} {args : Array Value} {w0 w : World} {g : Nat} {s0 : List S37} {q : Int} {b : Bool} {r : List S29}
 (h : Calls P f args w fun e w' => ∃ v0_ : Value, e = .returned (v0_) ∧ Kd.R k29 29 w' w.heap.size (fun _ => True) v0_ r ∧ dn w0 w' g s0 q b ∧ Below w0.heap.size w0 w' ∧ bY w w' g none) : Calls P f args w (Back 40 w0 w g s0 q b (IsL w r)) :=
 h.mono fun e w' ⟨v, h1, h2, h3, h4, h5⟩ => ⟨⟨v, h1, h2⟩, h3, h4, h5⟩
theorem ofL {P : Program} {f : FuncId} {args : Array Value} {w0 w : World} {g : Nat} {s0 : List S37} {q : Int} {b : Bool} {r : List S29}
 (h : Calls P f args w (Back 40 w0 w g s0 q b (IsL w r))) : Calls P f args w fun e w' => ∃ v0_ : Value, e = .returned (v0_) ∧ Kd.R k29 29 w' w.heap.size (fun _ => True) v0_ r ∧ dn w0 w' g s0 q b ∧ Below w0.heap.size w0 w' ∧ bY w w' g none :=
 h.mono fun e w' ⟨⟨v, h1, h2⟩, h3, h4, h5⟩ => ⟨v, h1, h2, h3, h4, h5⟩
section
variable {P : Program} {ops : Array Oper} {Q : Exit → Act → World → Prop} {T : Nat} {w0 w W : World} {g : Nat} {f0 : List S37} {f1 : Int} {f2 : Bool} {os : List (Value × List S29)} {ks : List (Value × List (List S29))} {Z : Ext}
 {rest : List Oper} {oi : Oper} {a : Act} {fn : Func} {ar : Array Operand} {ts : Array TypeId} {args : Array Value} {ρ β : Type} {R : β}
/-- A text is what it is asked for, or isn't. -/
theorem tS (t : ByteArray) (K : List UInt8) : (t.toList = K ∧ (t.toList == K) = true ∧ (t.toList != K) = false) ∨ (t.toList ≠ K ∧ (t.toList == K) = false ∧ (t.toList != K) = true) := by
 by_cases h : t.toList = K
 ·exact .inl ⟨h, beq_iff_eq.mpr h, bne_eq_false_iff_eq.mpr h⟩
 exact .inr ⟨h, beq_eq_false_iff_ne.mpr h, bne_iff_ne.mpr h⟩
theorem nS (x y : Int) : (x = y ∧ (x == y) = true ∧ (x != y) = false) ∨ (x ≠ y ∧ (x == y) = false ∧ (x != y) = true) := by
 by_cases h : x = y
 ·exact .inl ⟨h, beq_iff_eq.mpr h, bne_eq_false_iff_eq.mpr h⟩
 exact .inr ⟨h, beq_eq_false_iff_ne.mpr h, bne_iff_ne.mpr h⟩
/-- The state goes on over stores into it or into a struct of the call's own, draws, blocks that are made. -/
theorem stX {W0 : World} {p : Int} {c : Bool} {os' : List (Value × List S29)} {ks' : List (Value × List (List S29))} {Z' : Ext} (H : St T w0 w W0 g f0 p c os ks Z) (f : St T w0 w W0 g f0 p c os ks Z → St T w0 w W g f0 f1 f2 os' ks' Z' := by (intro h_; repeat (first | (with_reducible exact h_) | apply St.drewN | apply St.drew | apply St.set1 | apply St.set2 | apply St.alloc | apply St.setB (hge := by assumption)))) : St T w0 w W g f0 f1 f2 os' ks' Z' := f H
theorem St.cB {gb : Nat} {cs : Array Value} {t : TypeId} (h : St T w0 w W g f0 f1 f2 os ks Z) (hm : (gb, .cells cs t (0, 0)) ∈ Z.bs) (i : Nat) : W.cell? ⟨gb, i, none⟩ = cs[i]? ∧ W.frozen? ⟨gb, i, none⟩ = false :=
 ⟨ag (h.b _ hm).1 i, ae (h.b _ hm).1 i⟩
theorem cX {f : FuncId} {post : Ending → World → Prop} {F : Option (ByteArray × Int × Bool)} {K : ByteArray × Int × Bool → Option β} (HS : St T w0 w W g f0 f1 f2 os ks Z) (H : af (F.bind K = some R))
 (hC : ∀ t q b, Rd T w0 W g f0 f1 f2 → Below w0.heap.size w0 W → F = some (t, q, b) → Calls P f args W (Back T w0 W g f0 q b fun e _ => e = .returned (.string t)))
 (h : ∀ t q b w', St T w0 w w' g f0 q b os ks Z → af (K (t, q, b) = some R) → post (.returned (.string t)) w') : Calls P f args W post := by
 obtain ⟨⟨t, q, b⟩, h1, h2⟩ := Option.bind_eq_some_iff.mp H.out
 refine (hC t q b HS.rd HS.below h1).mono ?_
 rintro _ w' ⟨rfl, hi, hb, hk⟩
 exact h t q b w' (HS.step hk hi hb) ⟨h2⟩
/-- A token, and whether there is one. -/
theorem sX (f : FuncId) {N : Tmp} (hop : oi.op = .call { callee := .value (.func f), args := ar, argTypes := ts }) (hf : P.funcs[f]? = some fn) {F : Option (Int × ByteArray × Int × Int × Bool × Int × Bool)} {K : Int × ByteArray × Int × Int × Bool × Int × Bool → Option β}
 (HS : St T w0 w W g f0 f1 f2 os ks Z) (H : af (F.bind K = some R))
 (hC : ∀ t1 t2 t3 t4 o q b, Rd T w0 W g f0 f1 f2 → Below w0.heap.size w0 W → F = some (t1, t2, t3, t4, o, q, b) → Calls P f args W (Back T w0 W g f0 q b fun e _ => e = .returned (.tuple #[.agg #[.int .i64 t1, .string t2, .int .i64 t3, .int .i64 t4], .bool o])))
 (h : ∀ t1 t2 t3 t4 o q b w', St T w0 w w' g f0 q b os ks Z → af (K (t1, t2, t3, t4, o, q, b) = some R) → wpList P ops Q rest (a.put (some N) (.tuple #[.agg #[.int .i64 t1, .string t2, .int .i64 t3, .int .i64 t4], .bool o])) w')
 (hd : oi.dst = some N := by rfl) (hg : oi.guard = none := by rfl) (hname : (fn.name == "runtime.NumGoroutine") = false := by kernel_rfl) (hb : fn.body.isSome = true := by rfl)
 (hargs : ar.map a.eval = args := by ((try simp only [List.map_toArray, List.map_cons, List.map_nil]); first | done | rfl)) : wpList P ops Q (oi :: rest) a W := by
 obtain ⟨⟨t1, t2, t3, t4, o, q, b⟩, h1, h2⟩ := Option.bind_eq_some_iff.mp H.out
 refine kQ (some N) hd hg hf hname hb args hop hargs ((hC t1 t2 t3 t4 o q b HS.rd HS.below h1).mono ?_)
 rintro _ w' ⟨rfl, hi, hb, hk⟩
 exact ⟨_, rfl, h t1 t2 t3 t4 o q b w' (HS.step hk hi hb) ⟨h2⟩⟩
/-- A number that hangs on no world. -/
theorem sV (f : FuncId) {N : Tmp} (hop : oi.op = .call { callee := .value (.func f), args := ar, argTypes := ts }) (hf : P.funcs[f]? = some fn) {F : Option Int} {K : Int → Option β}
 (HS : St T w0 w W g f0 f1 f2 os ks Z) (H : af (F.bind K = some R))
 (hC : ∀ t, F = some t → Calls P f args W (fun e w' => e = .returned (.int .i64 t) ∧ dZ W w'))
 (h : ∀ t w', St T w0 w w' g f0 f1 f2 os ks Z → af (K t = some R) → wpList P ops Q rest (a.put (some N) (.int .i64 t)) w')
 (hd : oi.dst = some N := by rfl) (hg : oi.guard = none := by rfl) (hname : (fn.name == "runtime.NumGoroutine") = false := by kernel_rfl) (hb : fn.body.isSome = true := by rfl)
 (hargs : ar.map a.eval = args := by ((try simp only [List.map_toArray, List.map_cons, List.map_nil]); first | done | rfl)) : wpList P ops Q (oi :: rest) a W := by
 obtain ⟨t, h1, h2⟩ := Option.bind_eq_some_iff.mp H.out
 refine kQ (some N) hd hg hf hname hb args hop hargs ((hC t h1).mono ?_)
 rintro _ w' ⟨rfl, hk⟩
 exact ⟨_, rfl, h t w' (HS.nY hk.below) ⟨h2⟩⟩
/-- Numbers are made of a tree that was made; what they lead to stays. -/
theorem sI2 (f : FuncId) {N : Tmp} (hop : oi.op = .call { callee := .value (.func f), args := ar, argTypes := ts }) (hf : P.funcs[f]? = some fn) {F : Option (List Int)} {K : List Int → Option β} {A : Option Addr} {n c : Nat} {l : List S29}
 (HS : St T w0 w W g f0 f1 f2 os ks Z) (H : af (F.bind K = some R)) (hm : (Value.slice A n c, l) ∈ os)
 (hC : ∀ t, n = l.length → Kd.C k29 W A l.length l → l.length ≤ c → F = some t → Calls P f args W (fun e w' => ∃ v, e = .returned v ∧ Kd.R (Kd.int .i64) 3 w' W.heap.size (fun _ => True) v t ∧ Below W.heap.size W w'))
 (h : ∀ t w' A c, St T w0 w w' g f0 f1 f2 os ks Z → Kd.R (Kd.int .i64) 3 w' W.heap.size (fun _ => True) (.slice A t.length c) t → af (K t = some R) → wpList P ops Q rest (a.put (some N) (.slice A t.length c)) w')
 (hd : oi.dst = some N := by rfl) (hg : oi.guard = none := by rfl) (hname : (fn.name == "runtime.NumGoroutine") = false := by kernel_rfl) (hb : fn.body.isSome = true := by rfl)
 (hargs : ar.map a.eval = args := by ((try simp only [List.map_toArray, List.map_cons, List.map_nil]); first | done | rfl)) : wpList P ops Q (oi :: rest) a W := by
 obtain ⟨t, h1, h2⟩ := Option.bind_eq_some_iff.mp H.out
 obtain ⟨hn, hc, hr⟩ := Kd.dU (HS.o _ hm)
 refine kQ (some N) hd hg hf hname hb args hop hargs ((hC t hn hr (by rw [← hn]; exact hc) h1).mono ?_)
 rintro _ w' ⟨v, rfl, ho, hb⟩
 obtain ⟨A, c, rfl⟩ := Kd.fG ho
 exact ⟨_, rfl, h t w' A c (HS.nY hb) ho ⟨h2⟩⟩
theorem St.ints {W' : World} {base : Nat} {v : Value} {xs : List Int} (h : St T w0 w W g f0 f1 f2 os ks Z) (ht : T ≠ 3) (ho : Kd.R (Kd.int .i64) 3 W base (fun _ => True) v xs) (hk : bY W W' g none) : Kd.R (Kd.int .i64) 3 W' base (fun k => k ≠ g) v xs := by
 obtain ⟨A0, c0, hb, hg, hr⟩ := h.rd
 refine Kd.AC (Kd.jb (Kd.qI ho hb (fun q hq => ?_)) (fun _ hk => hk.2)) hk (fun _ h => h)
 have : q = 3 := by simpa [show (Kd.int .i64).E = [] from rfl] using hq
 subst this
 exact fun e => ht e.symm
end
end Go.Proofs.YtkbhkonenkgfoaaGreat.Q
end
section
set_option linter.unusedVariables false
set_option linter.unusedSimpArgs false
namespace Go.Proofs.YtkbhkonenkgfoaaGreat.Q
open Go Go.RowKit Go.Proofs.YtkbhkonenkgfoaaGreatW.PrintWords Go.Proofs.YtkbhkonenkgfoaaGreatW.PrintLast Go.Proofs.YtkbhkonenkgfoaaGreatW.PrintMore
attribute [local go_sem] l7 lu lq lm
set_option maxHeartbeats 8000000 in
set_option maxRecDepth 100000 in
theorem wM (F : Fam) (HF : l9 F) (k : Nat) (g : Nat) (s0 : List S37) (s1 : Int) (s2 : Bool) (a0 : Int) (a1 : Int) (a2 : ByteArray) (a3 : Int) (a4 : ByteArray) (r : List S29) (e1 : Int) (e2 : Bool) (w0 w : World) (hI : Rd 40 w0 w g s0 s1 s2) (hB : Below w0.heap.size w0 w) (h : dO.f F k s0 s1 s2 a0 a1 a2 a3 a4 = some (r, e1, e2)) :
 Calls Tryz.prog 95 #[.pointer (some ⟨g, 0, none⟩), .agg #[.int .i64 a0, .int .i64 a1, .string a2, .int .i64 a3, .string a4]] w (Back 40 w0 w g s0 e1 e2 (IsL w r)) := by
 unfold dO.f at h
 have HS := St.new (T := 40) (by decide) hI hB
 have H := af.mk h
 clear h hI hB
 go_enter Tryz.func95, Tryz.ntmps95
 go_wp2_with (first | ((with_reducible refine bH (N := 3) rfl ?_); refine boxS (N := 3) (stT HS) (by first | (go_simp; done) | (go_simp; rfl)) ?_; clear HS; intro gb w' HS hne hge; (try (have hb_ := HS.box rfl; have hx0 := (ag hb_ 0).trans rfl; have hf0 := ae hb_ 0; have hx1 := (ag hb_ 1).trans rfl; have hf1 := ae hb_ 1; have hx2 := (ag hb_ 2).trans rfl; have hf2 := ae hb_ 2; have hx3 := (ag hb_ 3).trans rfl; have hf3 := ae hb_ 3; have hx4 := (ag hb_ 4).trans rfl; have hf4 := ae hb_ 4; clear hb_))) | ((with_reducible refine gC 96 rfl ?_); refine sL 96 rfl Tryz.func96 (stX HS) H (fun t q b hI hB h => toL (HF.expr g _ _ _ t q b w0 _ hI hB h)) ?_; (try clear hx0 hx1 hx2 hx3 hx4 hf0 hf1 hf2 hf3 hf4); clear HS H; intro t q b w' A c HS H; (try dsimp only at H)) | ((with_reducible refine gC 23 rfl ?_); refine sU 23 rfl Tryz.func23 (stX HS) H (fun q b hI hB => aY.calls g _ _ _ _ q b w0 _ hI hB) ?_; (try clear hx0 hx1 hx2 hx3 hx4 hf0 hf1 hf2 hf3 hf4); clear HS H; intro q b w' HS H; (try dsimp only at H); (try (have hb_ := HS.box rfl; have hx0 := (ag hb_ 0).trans rfl; have hf0 := ae hb_ 0; have hx1 := (ag hb_ 1).trans rfl; have hf1 := ae hb_ 1; have hx2 := (ag hb_ 2).trans rfl; have hf2 := ae hb_ 2; have hx3 := (ag hb_ 3).trans rfl; have hf3 := ae hb_ 3; have hx4 := (ag hb_ 4).trans rfl; have hf4 := ae hb_ 4; clear hb_))) | ((with_reducible refine bH (N := 12) rfl ?_); refine kR (N := 12) (stX HS) (by first | (go_simp; done) | (go_simp; rfl)) ?_; clear HS; intro A c w' HS) | ((with_reducible refine gC 28 rfl ?_); refine sJ 28 rfl Tryz.func28 (stX HS) H (fun t hr hc => aW.calls _ _ _ _ _ _ _ _ _ t _ hr hc) ?_; (try clear hx0 hx1 hx2 hx3 hx4 hf0 hf1 hf2 hf3 hf4); clear HS H; intro t w' A c HS H; (try dsimp only at H)))
 all_goals
  have h_ := H.out; simp only [Option.some.injEq, Prod.mk.injEq] at h_; obtain ⟨rfl, rfl, rfl⟩ := h_
  go_ret
  exact (stT HS).jk (.head _)
set_option maxHeartbeats 8000000 in
set_option maxRecDepth 100000 in
theorem FW (k : Nat) (g : Nat) (s0 : List S37) (s1 : Int) (s2 : Bool) (a : Int) (r : List S29) (e1 : Int) (e2 : Bool) (w0 w : World) (hI : Rd 40 w0 w g s0 s1 s2) (hB : Below w0.heap.size w0 w) (h : fK.f k s0 s1 s2 a = some (r, e1, e2)) :
 Calls Tryz.prog 97 #[.pointer (some ⟨g, 0, none⟩), .int .i64 a] w (Back 40 w0 w g s0 e1 e2 (IsL w r)) := by
 unfold fK.f at h
 have HS := St.new (T := 40) (by decide) hI hB
 have H := af.mk h
 clear h hI hB
 go_enter Tryz.func97, Tryz.ntmps97
 go_wp2_with (first | ((with_reducible refine gC 23 rfl ?_); refine sU 23 rfl Tryz.func23 (stT HS) H (fun q b hI hB => aY.calls g _ _ _ _ q b w0 _ hI hB) ?_; clear HS H; intro q b w' HS H; (try dsimp only at H)) | ((with_reducible refine gC 28 rfl ?_); refine sJ 28 rfl Tryz.func28 (stT HS).sZ H (fun t hr hc => aW.calls _ _ _ _ _ _ _ _ _ t _ hr hc) ?_; clear HS H; intro t w' A c HS H; (try dsimp only at H)))
 all_goals
  have h_ := H.out; simp only [Option.some.injEq, Prod.mk.injEq] at h_; obtain ⟨rfl, rfl, rfl⟩ := h_
  go_ret
  exact (stT HS).jk (.head _)
set_option maxHeartbeats 8000000 in
set_option maxRecDepth 100000 in
theorem Ip (k : Nat) (g : Nat) (s0 : List S37) (s1 : Int) (s2 : Bool) (r : List S29) (e1 : Int) (e2 : Bool) (w0 w : World) (hI : Rd 40 w0 w g s0 s1 s2) (hB : Below w0.heap.size w0 w) (h : gu.f k s0 s1 s2 = some (r, e1, e2)) :
 Calls Tryz.prog 26 #[.pointer (some ⟨g, 0, none⟩)] w (Back 40 w0 w g s0 e1 e2 (IsL w r)) := by
 unfold gu.f at h
 have HS := St.new (T := 40) (by decide) hI hB
 have H := af.mk h
 clear h hI hB
 go_enter Tryz.func26, Tryz.ntmps26
 go_wp2_with (first | ((with_reducible refine bH (N := 3) rfl ?_); refine boxS (N := 3) (stT HS) (by first | (go_simp; done) | (go_simp; rfl)) ?_; clear HS; intro gb w' HS hne hge; (try (have hb_ := HS.box rfl; have hx0 := (ag hb_ 0).trans rfl; have hf0 := ae hb_ 0; have hx1 := (ag hb_ 1).trans rfl; have hf1 := ae hb_ 1; have hx2 := (ag hb_ 2).trans rfl; have hf2 := ae hb_ 2; have hx3 := (ag hb_ 3).trans rfl; have hf3 := ae hb_ 3; have hx4 := (ag hb_ 4).trans rfl; have hf4 := ae hb_ 4; clear hb_))) | ((with_reducible refine gC 24 rfl ?_); refine sN 24 rfl Tryz.func24 (stX HS) H (fun t1 t2 t3 t4 q b hI hB => dF.calls g _ _ _ _ t1 t2 t3 t4 q b w0 _ hI hB) ?_; (try clear hx0 hx1 hx2 hx3 hx4 hf0 hf1 hf2 hf3 hf4); clear HS H; intro t1 t2 t3 t4 q b w' HS H; (try dsimp only at H); (try (have hb_ := HS.box rfl; have hx0 := (ag hb_ 0).trans rfl; have hf0 := ae hb_ 0; have hx1 := (ag hb_ 1).trans rfl; have hf1 := ae hb_ 1; have hx2 := (ag hb_ 2).trans rfl; have hf2 := ae hb_ 2; have hx3 := (ag hb_ 3).trans rfl; have hf3 := ae hb_ 3; have hx4 := (ag hb_ 4).trans rfl; have hf4 := ae hb_ 4; clear hb_))) | ((with_reducible refine gC 23 rfl ?_); refine sU 23 rfl Tryz.func23 (stX HS) H (fun q b hI hB => aY.calls g _ _ _ _ q b w0 _ hI hB) ?_; (try clear hx0 hx1 hx2 hx3 hx4 hf0 hf1 hf2 hf3 hf4); clear HS H; intro q b w' HS H; (try dsimp only at H); (try (have hb_ := HS.box rfl; have hx0 := (ag hb_ 0).trans rfl; have hf0 := ae hb_ 0; have hx1 := (ag hb_ 1).trans rfl; have hf1 := ae hb_ 1; have hx2 := (ag hb_ 2).trans rfl; have hf2 := ae hb_ 2; have hx3 := (ag hb_ 3).trans rfl; have hf3 := ae hb_ 3; have hx4 := (ag hb_ 4).trans rfl; have hf4 := ae hb_ 4; clear hb_))) | ((with_reducible refine gC 28 rfl ?_); refine sJ 28 rfl Tryz.func28 (stX HS).sZ H (fun t hr hc => aW.calls _ _ _ _ _ _ _ _ _ t _ hr hc) ?_; (try clear hx0 hx1 hx2 hx3 hx4 hf0 hf1 hf2 hf3 hf4); clear HS H; intro t w' A c HS H; (try dsimp only at H)))
 all_goals
  have h_ := H.out; simp only [Option.some.injEq, Prod.mk.injEq] at h_; obtain ⟨rfl, rfl, rfl⟩ := h_
  go_ret
  exact (stT HS).jk (.head _)
set_option maxHeartbeats 8000000 in
set_option maxRecDepth 100000 in
theorem DJ (k : Nat) (g : Nat) (s0 : List S37) (s1 : Int) (s2 : Bool) (r : List S29) (e1 : Int) (e2 : Bool) (w0 w : World) (hI : Rd 40 w0 w g s0 s1 s2) (hB : Below w0.heap.size w0 w) (h : fB.f k s0 s1 s2 = some (r, e1, e2)) :
 Calls Tryz.prog 66 #[.pointer (some ⟨g, 0, none⟩)] w (Back 40 w0 w g s0 e1 e2 (IsL w r)) := by
 unfold fB.f at h
 have HS := St.new (T := 40) (by decide) hI hB
 have H := af.mk h
 clear h hI hB
 go_enter Tryz.func66, Tryz.ntmps66
 go_wp2_with (first | ((with_reducible refine gC 24 rfl ?_); refine sN 24 rfl Tryz.func24 (stT HS) H (fun t1 t2 t3 t4 q b hI hB => dF.calls g _ _ _ _ t1 t2 t3 t4 q b w0 _ hI hB) ?_; clear HS H; intro t1 t2 t3 t4 q b w' HS H; (try dsimp only at H)) | ((with_reducible refine gC 28 rfl ?_); refine sJ 28 rfl Tryz.func28 (stT HS).sZ H (fun t hr hc => aW.calls _ _ _ _ _ _ _ _ _ t _ hr hc) ?_; clear HS H; intro t w' A c HS H; (try dsimp only at H)))
 all_goals
  have h_ := H.out; simp only [Option.some.injEq, Prod.mk.injEq] at h_; obtain ⟨rfl, rfl, rfl⟩ := h_
  go_ret
  exact (stT HS).jk (.head _)
end Go.Proofs.YtkbhkonenkgfoaaGreat.Q
end
section
namespace Go.Proofs.YtkbhkonenkgfoaaGreat.Q
open Go.RowKit Go.Proofs.YtkbhkonenkgfoaaGreatW.PrintWords Go.Proofs.YtkbhkonenkgfoaaGreatW.PrintLast Go.Proofs.YtkbhkonenkgfoaaGreatW.PrintMore
attribute [local go_sem] iM iL iK iJ dJ dH dS dR cZ cO dI dG
set_option linter.unusedVariables false
set_option linter.unusedSimpArgs false
/-! ### iD: function 119 -/
mutual
def iD.l0 (F : Fam) : Nat → List (List (S29)) → List (S37) → Int → Bool → Option ((List (List (S29))) × Int × Bool)
 | 0, _, _, _, _ => none
 | k + 1, x5, x1000, x1001, x1002 => if x1002 = true then (iD.j1 F k x5 false x1000 x1001 x1002) else ((dE.f x1000 x1001 x1002).bind fun bt580 => (iD.j1 F k x5 (bt580.1.toList != ([41] : List UInt8)) x1000 bt580.2.1 bt580.2.2))
def iD.j1 (F : Fam) : Nat → List (List (S29)) → Bool → List (S37) → Int → Bool → Option ((List (List (S29))) × Int × Bool)
 | 0, _, _, _, _, _ => none
 | k + 1, x5, x17, x1000, x1001, x1002 => if x17 = true then (if (x5.length : Int) > 0 then ((aY.f x1000 x1001 x1002 (⟨#[44]⟩ : ByteArray)).bind fun bt585 => ((jM.f F k x1000 bt585.1 bt585.2).bind fun bt587 => (if x5.length < 5864062014805 then (iD.l0 F k (x5 ++ [bt587.1]) x1000 bt587.2.1 bt587.2.2) else (none)))) else ((jM.f F k x1000 x1001 x1002).bind fun bt595 => (if x5.length < 5864062014805 then (iD.l0 F k (x5 ++ [bt595.1]) x1000 bt595.2.1 bt595.2.2) else (none)))) else ((aY.f x1000 x1001 x1002 (⟨#[41]⟩ : ByteArray)).bind fun bt583 => (some (x5, bt583.1, bt583.2)))
end
def iD.f (F : Fam) (k : Nat) (s0_0 : List (S37)) (s0_1 : Int) (s0_2 : Bool) : Option ((List (List (S29))) × Int × Bool) := (aY.f s0_0 s0_1 s0_2 (⟨#[40]⟩ : ByteArray)).bind fun bt578 => (iD.l0 F k ([] : List (List (S29))) s0_0 bt578.1 bt578.2)
theorem iD.bZ {F F' : Fam} (HLE : kS F F') : ∀ k, (∀ y0 y1 y2 y3, LeO (iD.l0 F k y0 y1 y2 y3) (iD.l0 F' (k + 1) y0 y1 y2 y3)) ∧ (∀ y0 y1 y2 y3 y4, LeO (iD.j1 F k y0 y1 y2 y3 y4) (iD.j1 F' (k + 1) y0 y1 y2 y3 y4))
 | 0 => ⟨fun _ _ _ _ r h => by simp [iD.l0] at h, fun _ _ _ _ _ r h => by simp [iD.j1] at h⟩
 | k + 1 => by
  obtain ⟨ih0, ih1⟩ := iD.bZ HLE k
  refine ⟨?_, ?_⟩
  ·intro y0 y1 y2 y3
   unfold iD.l0
   have m0 := (jM.mono HLE)
   exact yL
  intro y0 y1 y2 y3 y4
  unfold iD.j1
  have m0 := (jM.mono HLE)
  exact yL
theorem iD.mono {F F' : Fam} (HLE : kS F F') : ∀ a0 a1 a2 k, LeO (iD.f F k a0 a1 a2) (iD.f F' (k + 1) a0 a1 a2) := by
 intro a0 a1 a2 k
 obtain ⟨ih0, ih1⟩ := iD.bZ HLE k
 unfold iD.f
 have m0 := (jM.mono HLE)
 exact yL
end Go.Proofs.YtkbhkonenkgfoaaGreat.Q
end
section
set_option linter.unusedVariables false
set_option linter.unusedSimpArgs false
namespace Go.Proofs.YtkbhkonenkgfoaaGreat.Q
open Go Go.RowKit Go.Proofs.YtkbhkonenkgfoaaGreatW.PrintWords Go.Proofs.YtkbhkonenkgfoaaGreatW.PrintLast Go.Proofs.YtkbhkonenkgfoaaGreatW.PrintMore
attribute [local go_sem] l7 lu lq lm
set_option maxHeartbeats 8000000 in
set_option maxRecDepth 100000 in
theorem yJ (F : Fam) (HF : l9 F) (k : Nat) (g : Nat) (s0 : List S37) (s1 : Int) (s2 : Bool) (r : List (List S29)) (e1 : Int) (e2 : Bool) (w0 w : World) (hI : Rd 40 w0 w g s0 s1 s2) (hB : Below w0.heap.size w0 w) (h : iD.f F k s0 s1 s2 = some (r, e1, e2)) :
 Calls Tryz.prog 65 #[.pointer (some ⟨g, 0, none⟩), .func (.func 96) #[.pointer (some ⟨g, 0, none⟩)] #[]] w (Back 40 w0 w g s0 e1 e2 (IsK w g r)) := by
 unfold iD.f at h
 have HS := St.new (T := 40) (by decide) hI hB
 have H := af.mk h
 clear h hI hB
 go_enter Tryz.func65, Tryz.ntmps65
 go_wp2_with (first | ((with_reducible refine gC 23 rfl ?_); refine sU 23 rfl Tryz.func23 (stT HS) H (fun q b hI hB => aY.calls g _ _ _ _ q b w0 _ hI hB) ?_; clear HS H; intro q b w' HS H; (try dsimp only at H)))
 (try simp only [Act.put, List.setIfInBounds_toArray, List.set_cons_zero, List.set_cons_succ])
 go_loopg [5] k (fun kq v3 w' => ∃ (x3 : List (List S29)) (p : Int) (d : Bool) (A : Option Addr) (c : Nat), v3 = .slice A x3.length c ∧ af (iD.l0 F kq x3 s0 p d = some (r, e1, e2)) ∧ af (kq ≤ k) ∧ St 40 w0 w w' g s0 p d [] [(.slice A x3.length c, x3)] ⟨[], []⟩)
 case atStart => exact ⟨[], _, _, none, 0, rfl, H, ⟨Nat.le_refl _⟩, (stT HS).clear.sZ⟩
 case round =>
  clear HS H
  obtain ⟨x3, p, d, A, c, rfl, H, HK1, HS⟩ := hrel
  cases gk with
  | zero => exact absurd H.out (by simp [iD.l0])
  | succ k1 =>
   simp only [iD.l0] at H
   cases k1 with
   | zero => exact absurd H.out (by cases d <;> simp [iD.j1])
   | succ k2 =>
   simp only [iD.j1] at H
   have hc2 := HS.rd.cell2
   by_cases hx : (x3.length : Int) > 0
   all_goals
    simp only [hx, if_true, if_false] at H
    first | (have hxb : decide (0 < (x3.length : Int)) = true := decide_eq_true hx; have hxc : decide (0 < x3.length) = true := decide_eq_true (by omega)) | (have hxb : decide (0 < (x3.length : Int)) = false := decide_eq_false hx; have hxc : decide (0 < x3.length) = false := decide_eq_false (by omega))
    clear hx
   all_goals
    cases d <;> (try simp only [if_true, if_false, eq_self, Bool.false_eq_true, Bool.not_true, Bool.not_false] at H)
   all_goals go_wp2_with (first | (go_at_call 64; refine cX (stT HS) H (fun t q b hI hB => dE.calls g _ _ _ t q b w0 _ hI hB) ?_; clear HS H; intro t q b w' HS H; (try dsimp only at H); rcases tS t ([41] : List UInt8) with ⟨c, cb1, cn1⟩ | ⟨c, cb1, cn1⟩ <;> (simp only [cn1, if_true, if_false, eq_self, Bool.false_eq_true] at H; clear c)) | ((with_reducible refine gC 23 rfl ?_); refine sU 23 rfl Tryz.func23 (stT HS) H (fun q b hI hB => aY.calls g _ _ _ _ q b w0 _ hI hB) ?_; clear HS H; intro q b w' HS H; (try dsimp only at H)) | (go_at_call 96; refine cL (stT HS) H (fun t q b hI hB h => toL (HF.expr g _ _ _ t q b w0 _ hI hB h)) ?_; clear HS H; intro t q b w' A c HS H; (try dsimp only at H)) | ((with_reducible refine bH (N := 26) rfl ?_); refine kR (N := 26) (stT HS) (by first | (go_simp; done) | (go_simp; rfl)) ?_; clear HS; intro A c w' HS) | ((with_reducible refine ed (b := .append) (xs := #[.tmp 23, .tmp 26]) rfl ?_); at_builtin; refine xW (N := 27) (.tmp 23) (.tmp 26) rfl Tryz.underlying55 info23 (stT HS) rfl rfl H ?_; clear HS H; intro A c w' HS H; (try replace H := hB H); (try dsimp only at H)))
   all_goals first
    | (go_roundg k2; (case measure => have := HK1.out; omega); (case rel => exact ⟨_, _, _, _, _, by first | rfl | simp, H, ⟨by have := HK1.out; omega⟩, stT HS⟩))
    | (have h_ := H.out; simp only [Option.some.injEq, Prod.mk.injEq] at h_; obtain ⟨rfl, rfl, rfl⟩ := h_; go_ret; exact (stT HS).zA)
end Go.Proofs.YtkbhkonenkgfoaaGreat.Q
end
section
namespace Go.Proofs.YtkbhkonenkgfoaaGreat.Q
open Go.RowKit Go.Proofs.YtkbhkonenkgfoaaGreatW.PrintWords Go.Proofs.YtkbhkonenkgfoaaGreatW.PrintLast Go.Proofs.YtkbhkonenkgfoaaGreatW.PrintMore
attribute [local go_sem] iM iL iK iJ dJ dH dS dR cZ cO dI dG
set_option linter.unusedVariables false
set_option linter.unusedSimpArgs false
/-! ### fU: function 113 -/
def fU.f (F : Fam) (k : Nat) (s0_0 : List (S37)) (s0_1 : Int) (s0_2 : Bool) : Option ((List (S29)) × Int × Bool) := (kF.f s0_0 s0_1 s0_2).bind fun bt603 => (if bt603.2.2.2.2.1 = true then (if bt603.1 = 2 then ((aW.f k 19 0 (⟨#[]⟩ : ByteArray) bt603.2.2.1 (⟨#[]⟩ : ByteArray) ([] : List (List (S29)))).bind fun t611 => (some (t611, wrap64 (bt603.2.2.2.2.2.1 + 1), bt603.2.2.2.2.2.2))) else (if bt603.1 = 3 then ((aW.f k 20 0 (⟨#[]⟩ : ByteArray) 0 bt603.2.1 ([] : List (List (S29)))).bind fun t614 => (some (t614, wrap64 (bt603.2.2.2.2.2.1 + 1), bt603.2.2.2.2.2.2))) else ((dF.f s0_0 bt603.2.2.2.2.2.1 bt603.2.2.2.2.2.2 1).bind fun bt617 => ((bn.f s0_0 bt617.2.2.2.2.1 bt617.2.2.2.2.2 (⟨#[46]⟩ : ByteArray)).bind fun bt623 => (if bt623.1 = true then ((dF.f s0_0 bt623.2.1 bt623.2.2 1).bind fun bt626 => ((iD.f F k s0_0 bt626.2.2.2.2.1 bt626.2.2.2.2.2).bind fun bt632 => ((aW.f k 23 0 bt617.2.1 0 bt626.2.1 bt632.1).bind fun t637 => (some (t637, bt632.2.1, bt632.2.2))))) else ((aW.f k 21 0 bt617.2.1 0 (⟨#[]⟩ : ByteArray) ([] : List (List (S29)))).bind fun t640 => (some (t640, bt623.2.1, bt623.2.2)))))))) else (some (([] : List (S29)), bt603.2.2.2.2.2.1, true)))
theorem fU.mono {F F' : Fam} (HLE : kS F F') : ∀ a0 a1 a2 k, LeO (fU.f F k a0 a1 a2) (fU.f F' (k + 1) a0 a1 a2) := by
 intro a0 a1 a2 k
 unfold fU.f
 have m0 := aW.mono
 have m1 := (iD.mono HLE)
 exact yL
end Go.Proofs.YtkbhkonenkgfoaaGreat.Q
end
section
set_option linter.unusedVariables false
set_option linter.unusedSimpArgs false
namespace Go.Proofs.YtkbhkonenkgfoaaGreat.Q
open Go Go.RowKit Go.Proofs.YtkbhkonenkgfoaaGreatW.PrintWords Go.Proofs.YtkbhkonenkgfoaaGreatW.PrintLast Go.Proofs.YtkbhkonenkgfoaaGreatW.PrintMore
attribute [local go_sem] l7 lu lq lm
set_option maxHeartbeats 8000000 in
set_option maxRecDepth 100000 in
theorem FU (F : Fam) (HF : l9 F) (k : Nat) (g : Nat) (s0 : List S37) (s1 : Int) (s2 : Bool) (r : List S29) (e1 : Int) (e2 : Bool) (w0 w : World) (hI : Rd 40 w0 w g s0 s1 s2) (hB : Below w0.heap.size w0 w) (h : fU.f F k s0 s1 s2 = some (r, e1, e2)) :
 Calls Tryz.prog 113 #[.pointer (some ⟨g, 0, none⟩)] w (Back 40 w0 w g s0 e1 e2 (IsL w r)) := by
 unfold fU.f at h
 have HS := St.new (T := 40) (by decide) hI hB
 have H := af.mk h
 clear h hI hB
 go_enter Tryz.func113, Tryz.ntmps113
 go_wp2_with (first | ((with_reducible refine gC 63 rfl ?_); refine sX 63 rfl Tryz.func63 (stT HS) H (fun t1 t2 t3 t4 o q b hI hB => kF.calls g _ _ _ t1 t2 t3 t4 o q b w0 _ hI hB) ?_; clear HS H; intro t1 t2 t3 t4 o q b w' HS H; (try dsimp only at H); cases o <;> (try simp only [if_true, if_false, eq_self, Bool.false_eq_true] at H); rotate_left; rcases nS t1 2 with ⟨c, cb1, cn1⟩ | ⟨c, cb1, cn1⟩; replace H := hI c H; clear c; rotate_left; replace H := hE c H; clear c; rcases nS t1 3 with ⟨c, cb2, cn2⟩ | ⟨c, cb2, cn2⟩; replace H := hI c H; clear c; rotate_left; replace H := hE c H; clear c) | ((with_reducible refine bH (N := 3) rfl ?_); refine boxS (N := 3) (cs := #[.int .i64 0, .string (⟨#[]⟩ : ByteArray), .int .i64 0, .int .i64 0]) (t := 37) (stT HS) (by first | (go_simp; done) | (go_simp; rfl)) ?_; clear HS; intro gb w' HS hne hge; have hnc := Ne.symm hne; (try (have hb_ := HS.box rfl; have hx0 := (ag hb_ 0).trans rfl; have hf0 := ae hb_ 0; have hx1 := (ag hb_ 1).trans rfl; have hf1 := ae hb_ 1; have hx2 := (ag hb_ 2).trans rfl; have hf2 := ae hb_ 2; have hx3 := (ag hb_ 3).trans rfl; have hf3 := ae hb_ 3; clear hb_)); have hc1 := HS.rd.cell1; have hf1 := HS.rd.fro 1; have hc2 := HS.rd.cell2; have hf2 := HS.rd.fro 2) | ((with_reducible refine gC 24 rfl ?_); refine sN 24 rfl Tryz.func24 (stX HS) H (fun t1 t2 t3 t4 q b hI hB => dF.calls g _ _ _ _ t1 t2 t3 t4 q b w0 _ hI hB) ?_; (try clear hx0 hx1 hx2 hx3 hx4 hf0 hf1 hf2 hf3 hf4); (try clear hc1 hf1 hc2 hf2); clear HS H; intro t1 t2 t3 t4 q b w' HS H; (try dsimp only at H)) | ((with_reducible refine gC 25 rfl ?_); refine sB 25 rfl Tryz.func25 (stX HS) H (fun t q b hI hB => bn.calls g _ _ _ _ t q b w0 _ hI hB) ?_; (try clear hx0 hx1 hx2 hx3 hx4 hf0 hf1 hf2 hf3 hf4); (try clear hc1 hf1 hc2 hf2); clear HS H; intro t q b w' HS H; (try dsimp only at H); cases t <;> (try simp only [if_true, if_false, eq_self, Bool.false_eq_true, Bool.not_true, Bool.not_false] at H)) | ((with_reducible refine gC 65 rfl ?_); refine sK 65 rfl Tryz.func65 (stX HS) H (fun t q b hI hB h => yJ F HF _ g _ _ _ t q b w0 _ hI hB h) ?_; (try clear hx0 hx1 hx2 hx3 hx4 hf0 hf1 hf2 hf3 hf4); (try clear hc1 hf1 hc2 hf2); clear HS H; intro t q b w' A c HS H; (try dsimp only at H)) | ((with_reducible refine gC 28 rfl ?_); refine sJ 28 rfl Tryz.func28 (stX HS) H (fun t hr hc => aW.calls _ _ _ _ _ _ _ _ _ t _ hr hc) ?_; (try clear hx0 hx1 hx2 hx3 hx4 hf0 hf1 hf2 hf3 hf4); (try clear hc1 hf1 hc2 hf2); clear HS H; intro t w' A c HS H; (try dsimp only at H)) | ((with_reducible refine gC 28 rfl ?_); refine sJ 28 rfl Tryz.func28 (stX HS).sZ H (fun t hr hc => aW.calls _ _ _ _ _ _ _ _ _ t _ hr hc) ?_; (try clear hx0 hx1 hx2 hx3 hx4 hf0 hf1 hf2 hf3 hf4); (try clear hc1 hf1 hc2 hf2); clear HS H; intro t w' A c HS H; (try dsimp only at H)))
 all_goals first
  | (have h_ := H.out; simp only [Option.some.injEq, Prod.mk.injEq] at h_; obtain ⟨rfl, rfl, rfl⟩ := h_; go_ret; exact (stT HS).jk (.head _))
  | (have h_ := H.out; simp only [Option.some.injEq, Prod.mk.injEq] at h_; obtain ⟨rfl, rfl, rfl⟩ := h_; go_ret; exact St.zy (stX HS))
end Go.Proofs.YtkbhkonenkgfoaaGreat.Q
end
section
set_option linter.unusedVariables false
set_option linter.unusedSimpArgs false
namespace Go.Proofs.YtkbhkonenkgfoaaGreat.Q
open Go Go.RowKit Go.Proofs.YtkbhkonenkgfoaaGreatW.PrintWords Go.Proofs.YtkbhkonenkgfoaaGreatW.PrintLast Go.Proofs.YtkbhkonenkgfoaaGreatW.PrintMore
attribute [local go_sem] l7 lu lq lm
set_option maxHeartbeats 8000000 in
set_option maxRecDepth 100000 in
theorem DI (F : Fam) (HF : l9 F) (k : Nat) (g : Nat) (s0 : List S37) (s1 : Int) (s2 : Bool) (r : List S29) (e1 : Int) (e2 : Bool) (w0 w : World) (hI : Rd 40 w0 w g s0 s1 s2) (hB : Below w0.heap.size w0 w) (h : df.f F k s0 s1 s2 = some (r, e1, e2)) :
 Calls Tryz.prog 98 #[.pointer (some ⟨g, 0, none⟩)] w (Back 40 w0 w g s0 e1 e2 (IsL w r)) := by
 unfold df.f at h
 have HS := St.new (T := 40) (by decide) hI hB
 have H := af.mk h
 clear h hI hB
 go_enter Tryz.func98, Tryz.ntmps98
 go_wp2_with (first | ((with_reducible refine bH (N := 7) rfl ?_); (with_reducible refine gC 96 rfl ?_); refine sL 96 rfl Tryz.func96 (stT HS) H (fun t q b hI hB h => toL (HF.expr g _ _ _ t q b w0 _ hI hB h)) ?_; clear HS H; intro te q b w' Ae ce HS H; (try dsimp only at H); have hc2 := HS.rd.cell2; cases b <;> (try simp only [if_true, if_false, eq_self, Bool.false_eq_true, Bool.not_true, Bool.not_false] at H); rotate_left; (cases k; exact absurd H.out (by simp [df.j0]); simp only [df.j0, if_true, if_false, eq_self, Bool.false_eq_true, Bool.not_true, Bool.not_false] at H); rotate_left) | (go_at_call 64; refine cX (stT HS) H (fun t q b hI hB => dE.calls g _ _ _ t q b w0 _ hI hB) ?_; clear HS H; intro t1 q b w' HS H; (try dsimp only at H); (cases k; exact absurd H.out (by simp [df.j0]); simp only [df.j0] at H); rcases tS t1 ([61] : List UInt8) with ⟨c, cb1, cn1⟩ | ⟨c, cb1, cn1⟩ <;> (simp only [cn1, if_true, if_false, eq_self, Bool.false_eq_true] at H; clear c); refine BL.h ?_; rotate_left) | ((with_reducible refine gC 23 rfl ?_); refine sU 23 rfl Tryz.func23 (stT HS) H (fun q b hI hB => aY.calls g _ _ _ _ q b w0 _ hI hB) ?_; clear HS H; intro q b w' HS H; (try dsimp only at H)) | ((with_reducible refine bH (N := 22) rfl ?_); refine kR (N := 22) (stT HS) (by first | (go_simp; done) | (go_simp; rfl)) ?_; clear HS; intro A c w' HS) | ((with_reducible refine gC 28 rfl ?_); refine sJ 28 rfl Tryz.func28 (stT HS) H (fun t hr hc => aW.calls _ _ _ _ _ _ _ _ _ t _ hr hc) ?_; clear HS H; intro t w' A c HS H; (try dsimp only at H)))
 all_goals first
  | (have h_ := H.out; simp only [Option.some.injEq, Prod.mk.injEq] at h_; obtain ⟨rfl, rfl, rfl⟩ := h_; go_ret; exact (stT HS).jk (.head _))
  | skip
 refine ⟨?_⟩
 by_cases c1 : 0 < (te.length : Int)
 rotate_left
 ·exact absurd (hE c1 H).out (by simp)
 replace H := hI c1 H
 obtain ⟨ad, rfl, hx0, hx2⟩ := HS.node (.head _) c1
 have q3 := eq_true c1
 have qi := eq_true (show 0 < te.length by omega)
 clear c1
 rcases nS (ax te 0).f0 21 with ⟨c2, c2b, c2n⟩ | ⟨c2, c2b, c2n⟩
 ·replace H := hI c2 H
  clear c2
  go_wp2_with (first | ((with_reducible refine gC 23 rfl ?_); refine sU 23 rfl Tryz.func23 (stT HS) H (fun q b hI hB => aY.calls g _ _ _ _ q b w0 _ hI hB) ?_; clear HS H; intro q b w' HS H; (try dsimp only at H); obtain ⟨hx0, hx2⟩ := HS.Hq (.head _) q3) | ((with_reducible refine gC 95 rfl ?_); refine sL 95 rfl Tryz.func95 (stT HS) H (fun t q b hI hB h => wM F HF _ g _ _ _ _ _ _ _ _ t q b w0 _ hI hB h) ?_; clear HS H; intro t q b w' A c HS H; (try dsimp only at H)))
  have h_ := H.out; simp only [Option.some.injEq, Prod.mk.injEq] at h_; obtain ⟨rfl, rfl, rfl⟩ := h_
  go_ret
  exact (stT HS).jk (.head _)
 replace H := hE c2 H
 clear c2
 rcases nS (ax te 0).f0 26 with ⟨c3, c3b, c3n⟩ | ⟨c3, c3b, c3n⟩
 rotate_left
 ·replace H := hE c3 H
  clear c3
  have hc2 := HS.rd.cell2
  have hf2 := HS.rd.fro 2
  go_wp2
  have h_ := H.out; simp only [Option.some.injEq, Prod.mk.injEq] at h_; obtain ⟨rfl, rfl, rfl⟩ := h_
  go_ret
  exact (stT HS).zy
 replace H := hI c3 H
 clear c3
 go_wp2_with (first | ((with_reducible refine bH (N := 52) rfl ?_); (with_reducible refine gC 23 rfl ?_); refine sU 23 rfl Tryz.func23 (stT HS) H (fun q b hI hB => aY.calls g _ _ _ _ q b w0 _ hI hB) ?_; clear HS H; intro q b w' HS H; (try dsimp only at H); skip) | ((with_reducible refine gC 23 rfl ?_); refine sU 23 rfl Tryz.func23 (stT HS) H (fun q b hI hB => aY.calls g _ _ _ _ q b w0 _ hI hB) ?_; clear HS H; intro q b w' HS H; (try dsimp only at H)) | ((with_reducible refine gC 96 rfl ?_); refine sL 96 rfl Tryz.func96 (stT HS) H (fun t q b hI hB h => toL (HF.expr g _ _ _ t q b w0 _ hI hB h)) ?_; clear HS H; intro t q b w' A c HS H; (try dsimp only at H)) | ((with_reducible refine gC 31 rfl ?_); refine sI2 31 rfl Tryz.func31 (stT HS) H (l := te) Z40 (fun t hn hr hc => eX.calls _ _ _ _ _ t _ hr hc) ?_; clear HS H; intro ti w' Ai ci HS HC H; (try dsimp only at H); have HS0 := HS; clear HS; have HS := St.new HS0.t HS0.rd HS0.below))
 (try simp only [Act.put, List.setIfInBounds_toArray, List.set_cons_zero, List.set_cons_succ])
 have hk := HS.keep
 replace HC := (Kd.dU (HS0.ints (by decide) HC hk)).2.2
 replace HS := (HS0.step hk HS.rd HS.below).push (eY HS0.keep) (HS.o _ (.head _))
 clear hk HS0
 by_cases c5 : 1 < (ti.length : Int)
 rotate_left
 ·exact absurd H.out (by simp [c5])
 replace H := hI (show 0 < (ti.length : Int) by omega) H
 have q5 := eq_true c5
 have q6 := eq_true (show 0 < (ti.length : Int) by omega)
 have q7 := eq_true (show 1 < ti.length by omega)
 have q8 := eq_true (show 0 < ti.length by omega)
 obtain ⟨ai, rfl, hy0⟩ := Kd.fO HC 0 (by omega) (by omega)
 obtain ⟨ai', e2, hy1⟩ := Kd.fO HC 1 (by omega) (by omega)
 obtain rfl : ai = ai' := by injection e2
 (try rw [show (0 : Int).toNat = 0 from rfl, Addr.add_zero'] at hy0)
 (try simp only [show (1 : Int).toNat = 1 from rfl, Nat.reduceMul, Nat.reduceEqDiff, Go.Addr.add, ↓reduceIte] at hy1)
 clear c5 HC e2
 go_region_held3 (fun w' => w'.cell? ai = some (.int .i64 (rd ti 0)) ∧ w'.cell? ⟨ai.block, ai.off + 1, none⟩ = some (.int .i64 (rd ti 1))) (first | exact ⟨hy0, hy1⟩ | go_keep) (first | (go_at_call 103; refine cS (stT HS) H (l := te) Z40 (fun t hn hr hc => jg.calls _ _ _ _ _ t _ hr hc) ?_; clear HS H; intro t w' A c HS hb H; (try dsimp only at H); (try replace H := hI (of_eq_true q5) H); have y0 := (hb.cell (World.block_lt_of_cell? _ _ hy0)).trans hy0; have y1 := (hb.cell (World.block_lt_of_cell? _ _ hy1)).trans hy1; clear hy0 hy1 hb; have hy0 := y0; have hy1 := y1; clear y0 y1) | (go_at_call 28; refine cJ (stT HS).Hr H (fun t hr hc => aW.calls _ _ _ _ _ _ _ _ _ t _ hr hc) ?_; clear HS H; intro t w' A c HS hb H; (try dsimp only at H); have y0 := (hb.cell (World.block_lt_of_cell? _ _ (ut hy0))).trans (ut hy0); have y1 := (hb.cell (World.block_lt_of_cell? _ _ (ut hy1))).trans (ut hy1); clear hy0 hy1 hb; have hy0 := y0; have hy1 := y1; clear y0 y1))
 go_wp2
 have h_ := H.out; simp only [Option.some.injEq, Prod.mk.injEq] at h_; obtain ⟨rfl, rfl, rfl⟩ := h_
 go_ret
 exact (stT HS).jk (.head _)
end Go.Proofs.YtkbhkonenkgfoaaGreat.Q
end
section
set_option linter.unusedVariables false
set_option linter.unusedSimpArgs false
namespace Go.Proofs.YtkbhkonenkgfoaaGreat.Q
open Go Go.RowKit Go.Proofs.YtkbhkonenkgfoaaGreatW.PrintWords Go.Proofs.YtkbhkonenkgfoaaGreatW.PrintLast Go.Proofs.YtkbhkonenkgfoaaGreatW.PrintMore
attribute [local go_sem] l7 lu lq lm
set_option maxHeartbeats 8000000 in
set_option maxRecDepth 100000 in
theorem FQ (F : Fam) (HF : l9 F) (k : Nat) (g : Nat) (s0 : List S37) (s1 : Int) (s2 : Bool) (r : List S29) (e1 : Int) (e2 : Bool) (w0 w : World) (hI : Rd 40 w0 w g s0 s1 s2) (hB : Below w0.heap.size w0 w) (h : aV.f F k s0 s1 s2 = some (r, e1, e2)) :
 Calls Tryz.prog 91 #[.pointer (some ⟨g, 0, none⟩)] w (Back 40 w0 w g s0 e1 e2 (IsL w r)) := by
 unfold aV.f at h
 have HS := St.new (T := 40) (by decide) hI hB
 have H := af.mk h
 clear h hI hB
 go_enter Tryz.func91, Tryz.ntmps91
 go_wp2_with (first | ((with_reducible refine gC 64 rfl ?_); refine sS 64 rfl Tryz.func64 (stT HS) H (fun t q b hI hB => dE.calls g _ _ _ t q b w0 _ hI hB) ?_; clear HS H; intro t q b w' HS H; (try dsimp only at H); rcases tS t ([108, 101, 116] : List UInt8) with ⟨c, cb1, cn1⟩ | ⟨c, cb1, cn1⟩; replace H := hI c H; clear c; rotate_left; replace H := hE c H; clear c; rcases tS t ([105, 102] : List UInt8) with ⟨c, cb2, cn2⟩ | ⟨c, cb2, cn2⟩; replace H := hI c H; clear c; rotate_left; replace H := hE c H; clear c; rcases tS t ([119, 104, 105, 108, 101] : List UInt8) with ⟨c, cb3, cn3⟩ | ⟨c, cb3, cn3⟩; replace H := hI c H; clear c; rotate_left; replace H := hE c H; clear c; rcases tS t ([98, 114, 101, 97, 107] : List UInt8) with ⟨c, cb4, cn4⟩ | ⟨c, cb4, cn4⟩; replace H := hI c H; clear c; (try replace H := hE (by decide) H); cases k; exact absurd H.out (by simp [aV.j0]); simp only [aV.j0] at H; (try replace H := hE (by decide) H); rotate_left; replace H := hE c H; clear c; rcases tS t ([99, 111, 110, 116, 105, 110, 117, 101] : List UInt8) with ⟨c, cb5, cn5⟩ | ⟨c, cb5, cn5⟩; replace H := hI c H; clear c; (try replace H := hI rfl H); cases k; exact absurd H.out (by simp [aV.j0]); simp only [aV.j0] at H; (try replace H := hE (by decide) H); rotate_left; replace H := hE c H; clear c; rcases tS t ([121, 105, 101, 108, 100] : List UInt8) with ⟨c, cb6, cn6⟩ | ⟨c, cb6, cn6⟩; replace H := hI c H; clear c; cases k; exact absurd H.out (by simp [aV.j0]); simp only [aV.j0] at H; (try replace H := hI rfl H); rotate_left; replace H := hE c H; clear c; rcases tS t ([114, 101, 116, 117, 114, 110] : List UInt8) with ⟨c, cb7, cn7⟩ | ⟨c, cb7, cn7⟩; replace H := hI c H; clear c; cases k; exact absurd H.out (by simp [aV.j1]); simp only [aV.j1] at H; (try replace H := hE (by decide) H); rotate_left; replace H := hE c H; clear c; rcases tS t ([112, 117, 116] : List UInt8) with ⟨c, cb8, cn8⟩ | ⟨c, cb8, cn8⟩; replace H := hI c H; clear c; cases k; exact absurd H.out (by simp [aV.j1]); simp only [aV.j1] at H; (try replace H := hE (by decide) H); rotate_left; replace H := hE c H; clear c; rcases tS t ([101, 109, 105, 116] : List UInt8) with ⟨c, cb9, cn9⟩ | ⟨c, cb9, cn9⟩; replace H := hI c H; clear c; cases k; exact absurd H.out (by simp [aV.j1]); simp only [aV.j1] at H; (try replace H := hE (by decide) H); rotate_left; replace H := hE c H; clear c; cases k; exact absurd H.out (by simp [aV.j1]); simp only [aV.j1] at H; (try replace H := hI rfl H)) | ((with_reducible refine bH (N := 53) rfl ?_); (with_reducible refine gC 25 rfl ?_); refine sB 25 rfl Tryz.func25 (stT HS) H (fun t q b hI hB => bn.calls g _ _ _ _ t q b w0 _ hI hB) ?_; clear HS H; intro t q b w' HS H; (try dsimp only at H); cases t <;> (try simp only [if_true, if_false, eq_self, Bool.false_eq_true, Bool.not_true, Bool.not_false] at H)) | ((with_reducible refine gC 25 rfl ?_); refine sB 25 rfl Tryz.func25 (stT HS) H (fun t q b hI hB => bn.calls g _ _ _ _ t q b w0 _ hI hB) ?_; clear HS H; intro t q b w' HS H; (try dsimp only at H)) | ((with_reducible refine gC 24 rfl ?_); refine sN 24 rfl Tryz.func24 (stT HS) H (fun t1 t2 t3 t4 q b hI hB => dF.calls g _ _ _ _ t1 t2 t3 t4 q b w0 _ hI hB) ?_; clear HS H; intro t1 t2 t3 t4 q b w' HS H; (try dsimp only at H)) | ((with_reducible refine gC 23 rfl ?_); refine sU 23 rfl Tryz.func23 (stT HS) H (fun q b hI hB => aY.calls g _ _ _ _ q b w0 _ hI hB) ?_; clear HS H; intro q b w' HS H; (try dsimp only at H)) | ((with_reducible refine gC 96 rfl ?_); refine sL 96 rfl Tryz.func96 (stT HS) H (fun t q b hI hB h => toL (HF.expr g _ _ _ t q b w0 _ hI hB h)) ?_; clear HS H; intro t q b w' A c HS H; (try dsimp only at H)) | ((with_reducible refine gC 67 rfl ?_); refine sL 67 rfl Tryz.func67 (stT HS) H (fun t q b hI hB h => toL (HF.block g _ _ _ t q b w0 _ hI hB h)) ?_; clear HS H; intro t q b w' A c HS H; (try dsimp only at H)) | ((with_reducible refine gC 95 rfl ?_); refine sL 95 rfl Tryz.func95 (stT HS) H (fun t q b hI hB h => wM F HF _ g _ _ _ _ _ _ _ _ t q b w0 _ hI hB h) ?_; clear HS H; intro t q b w' A c HS H; (try dsimp only at H)) | ((with_reducible refine gC 97 rfl ?_); refine sL 97 rfl Tryz.func97 (stT HS) H (fun t q b hI hB h => FW _ g _ _ _ _ t q b w0 _ hI hB h) ?_; clear HS H; intro t q b w' A c HS H; (try dsimp only at H)) | ((with_reducible refine gC 98 rfl ?_); refine sL 98 rfl Tryz.func98 (stT HS) H (fun t q b hI hB h => DI F HF _ g _ _ _ t q b w0 _ hI hB h) ?_; clear HS H; intro t q b w' A c HS H; (try dsimp only at H)) | ((with_reducible refine bH (N := 46) rfl ?_); refine kR (N := 46) (stT HS) (by first | (go_simp; done) | (go_simp; rfl)) ?_; clear HS; intro A c w' HS; replace H := hB H; (try dsimp only at H)) | ((with_reducible refine bH (N := 50) rfl ?_); refine kR (N := 50) (stT HS) (by first | (go_simp; done) | (go_simp; rfl)) ?_; clear HS; intro A c w' HS) | ((with_reducible refine ed (b := .append) (xs := #[.tmp 47, .tmp 50]) rfl ?_); at_builtin; refine xW (N := 51) (.tmp 47) (.tmp 50) rfl Tryz.underlying55 info23 (stT HS) rfl rfl H ?_; clear HS H; intro A c w' HS H; (try replace H := hB H); (try dsimp only at H)) | ((with_reducible refine bH (N := 57) rfl ?_); refine kR (N := 57) (stT HS) (by first | (go_simp; done) | (go_simp; rfl)) ?_; clear HS; intro A c w' HS) | ((with_reducible refine ed (b := .append) (xs := #[.tmp 54, .tmp 57]) rfl ?_); at_builtin; refine xW (N := 58) (.tmp 54) (.tmp 57) rfl Tryz.underlying55 info23 (stT HS) rfl rfl H ?_; clear HS H; intro A c w' HS H; (try replace H := hB H); (try dsimp only at H)) | ((with_reducible refine bH (N := 71) rfl ?_); refine vF (N := 71) (stT HS) (by first | (go_simp; done) | (go_simp; rfl)) ?_; clear HS; intro A c w' HS) | ((with_reducible refine gC 28 rfl ?_); refine sJ 28 rfl Tryz.func28 (stT HS) H (fun t hr hc => aW.calls _ _ _ _ _ _ _ _ _ t _ hr hc) ?_; clear HS H; intro t w' A c HS H; (try dsimp only at H)))
 all_goals
  have h_ := H.out; simp only [Option.some.injEq, Prod.mk.injEq] at h_; obtain ⟨rfl, rfl, rfl⟩ := h_
  go_ret
  exact (stT HS).jk (.head _)
end Go.Proofs.YtkbhkonenkgfoaaGreat.Q
end
section
set_option linter.unusedVariables false
set_option linter.unusedSimpArgs false
namespace Go.Proofs.YtkbhkonenkgfoaaGreat.Q
open Go Go.RowKit Go.Proofs.YtkbhkonenkgfoaaGreatW.PrintWords Go.Proofs.YtkbhkonenkgfoaaGreatW.PrintLast Go.Proofs.YtkbhkonenkgfoaaGreatW.PrintMore
attribute [local go_sem] l7 lu lq lm
set_option maxHeartbeats 8000000 in
set_option maxRecDepth 100000 in
theorem yM (F : Fam) (HF : l9 F) (k : Nat) (g : Nat) (s0 : List S37) (s1 : Int) (s2 : Bool) (r : List S29) (e1 : Int) (e2 : Bool) (w0 w : World) (hI : Rd 40 w0 w g s0 s1 s2) (hB : Below w0.heap.size w0 w) (h : bU.f F k s0 s1 s2 = some (r, e1, e2)) :
 Calls Tryz.prog 67 #[.pointer (some ⟨g, 0, none⟩)] w (Back 40 w0 w g s0 e1 e2 (IsL w r)) := by
 unfold bU.f at h
 have HS := St.new (T := 40) (by decide) hI hB
 have H := af.mk h
 clear h hI hB
 go_enter Tryz.func67, Tryz.ntmps67
 go_wp2_with (first | ((with_reducible refine gC 23 rfl ?_); refine sU 23 rfl Tryz.func23 (stT HS) H (fun q b hI hB => aY.calls g _ _ _ _ q b w0 _ hI hB) ?_; clear HS H; intro q b w' HS H; (try dsimp only at H)))
 (try simp only [Act.put, List.setIfInBounds_toArray, List.set_cons_zero, List.set_cons_succ])
 go_loopg [3] k (fun kq v3 w' => ∃ (x3 : List (List S29)) (p : Int) (d : Bool) (A : Option Addr) (c : Nat), v3 = .slice A x3.length c ∧ af (bU.l0 F kq x3 s0 p d = some (r, e1, e2)) ∧ af (kq ≤ k) ∧ St 40 w0 w w' g s0 p d [] [(.slice A x3.length c, x3)] ⟨[], []⟩)
 case atStart => exact ⟨[], _, _, none, 0, rfl, H, ⟨Nat.le_refl _⟩, (stT HS).clear.sZ⟩
 case round =>
  clear HS H
  obtain ⟨x3, p, d, A, c, rfl, H, HK1, HS⟩ := hrel
  cases gk with
  | zero => exact absurd H.out (by simp [bU.l0])
  | succ k1 =>
   simp only [bU.l0] at H
   have hc2 := HS.rd.cell2
   all_goals
    cases d <;> (try simp only [if_true, if_false, eq_self, Bool.false_eq_true, Bool.not_true, Bool.not_false] at H)
   all_goals go_wp2_with (first | (go_at_call 64; refine cX (stT HS) H (fun t q b hI hB => dE.calls g _ _ _ t q b w0 _ hI hB) ?_; clear HS H; intro t q b w' HS H; (try dsimp only at H); rcases tS t ([125] : List UInt8) with ⟨c, cb1, cn1⟩ | ⟨c, cb1, cn1⟩; replace H := hI c H; clear c; rotate_left; replace H := hE c H; clear c) | ((with_reducible refine gC 23 rfl ?_); refine sU 23 rfl Tryz.func23 (stT HS) H (fun q b hI hB => aY.calls g _ _ _ _ q b w0 _ hI hB) ?_; clear HS H; intro q b w' HS H; (try dsimp only at H)) | ((with_reducible refine gC 91 rfl ?_); refine sL 91 rfl Tryz.func91 (stT HS) H (fun t q b hI hB h => FQ F HF _ g _ _ _ t q b w0 _ hI hB h) ?_; clear HS H; intro t q b w' A c HS H; (try dsimp only at H)) | ((with_reducible refine bH (N := 19) rfl ?_); refine kR (N := 19) (stT HS) (by first | (go_simp; done) | (go_simp; rfl)) ?_; clear HS; intro A c w' HS) | ((with_reducible refine ed (b := .append) (xs := #[.tmp 16, .tmp 19]) rfl ?_); at_builtin; refine xW (N := 20) (.tmp 16) (.tmp 19) rfl Tryz.underlying55 info23 (stT HS) rfl rfl H ?_; clear HS H; intro A c w' HS H; (try replace H := hB H); (try dsimp only at H)) | ((with_reducible refine gC 28 rfl ?_); refine sJ 28 rfl Tryz.func28 (stT HS) H (fun t hr hc => aW.calls _ _ _ _ _ _ _ _ _ t _ hr hc) ?_; clear HS H; intro t w' A c HS H; (try dsimp only at H)))
   all_goals first
    | (go_roundg k1; (case measure => have := HK1.out; omega); (case rel => exact ⟨_, _, _, _, _, by first | rfl | simp, H, ⟨by have := HK1.out; omega⟩, stT HS⟩))
    | (have h_ := H.out; simp only [Option.some.injEq, Prod.mk.injEq] at h_; obtain ⟨rfl, rfl, rfl⟩ := h_; go_ret; exact (stT HS).jk (.head _))
theorem bU.calls (F : Fam) (HF : l9 F) (k : Nat) (g : Nat) (s0 : List S37) (s1 : Int) (s2 : Bool) (r1 : List S29) (r2 : Int) (r3 : Bool) (w0 w : World) (hI : dn w0 w g s0 s1 s2) (hB : Below w0.heap.size w0 w) (h : bU.f F k s0 s1 s2 = some (r1, r2, r3)) : Reads 67 #[] g s0 r1 r2 r3 w0 w :=
 ofL (yM F HF k g s0 s1 s2 r1 r2 r3 w0 w hI hB h)
end Go.Proofs.YtkbhkonenkgfoaaGreat.Q
end
section
set_option linter.unusedVariables false
set_option linter.unusedSimpArgs false
namespace Go.Proofs.YtkbhkonenkgfoaaGreat.Q
open Go Go.RowKit Go.Proofs.YtkbhkonenkgfoaaGreatW.PrintWords Go.Proofs.YtkbhkonenkgfoaaGreatW.PrintLast Go.Proofs.YtkbhkonenkgfoaaGreatW.PrintMore
attribute [local go_sem] l7 lu lq lm
set_option maxHeartbeats 8000000 in
set_option maxRecDepth 100000 in
theorem DK (k : Nat) (g : Nat) (s0 : List S37) (s1 : Int) (s2 : Bool) (r : List (List S29)) (e1 : Int) (e2 : Bool) (w0 w : World) (hI : Rd 40 w0 w g s0 s1 s2) (hB : Below w0.heap.size w0 w) (h : gz.f k s0 s1 s2 = some (r, e1, e2)) :
 Calls Tryz.prog 65 #[.pointer (some ⟨g, 0, none⟩), .func (.func 66) #[.pointer (some ⟨g, 0, none⟩)] #[]] w (Back 40 w0 w g s0 e1 e2 (IsK w g r)) := by
 unfold gz.f at h
 have HS := St.new (T := 40) (by decide) hI hB
 have H := af.mk h
 clear h hI hB
 go_enter Tryz.func65, Tryz.ntmps65
 go_wp2_with (first | ((with_reducible refine gC 23 rfl ?_); refine sU 23 rfl Tryz.func23 (stT HS) H (fun q b hI hB => aY.calls g _ _ _ _ q b w0 _ hI hB) ?_; clear HS H; intro q b w' HS H; (try dsimp only at H)))
 (try simp only [Act.put, List.setIfInBounds_toArray, List.set_cons_zero, List.set_cons_succ])
 go_loopg [5] k (fun kq v3 w' => ∃ (x3 : List (List S29)) (p : Int) (d : Bool) (A : Option Addr) (c : Nat), v3 = .slice A x3.length c ∧ af (gz.l0 kq x3 s0 p d = some (r, e1, e2)) ∧ af (kq ≤ k) ∧ St 40 w0 w w' g s0 p d [] [(.slice A x3.length c, x3)] ⟨[], []⟩)
 case atStart => exact ⟨[], _, _, none, 0, rfl, H, ⟨Nat.le_refl _⟩, (stT HS).clear.sZ⟩
 case round =>
  clear HS H
  obtain ⟨x3, p, d, A, c, rfl, H, HK1, HS⟩ := hrel
  cases gk with
  | zero => exact absurd H.out (by simp [gz.l0])
  | succ k1 =>
   simp only [gz.l0] at H
   cases k1 with
   | zero => exact absurd H.out (by cases d <;> simp [gz.j1])
   | succ k2 =>
   simp only [gz.j1] at H
   have hc2 := HS.rd.cell2
   by_cases hx : (x3.length : Int) > 0
   all_goals
    simp only [hx, if_true, if_false] at H
    first | (have hxb : decide (0 < (x3.length : Int)) = true := decide_eq_true hx; have hxc : decide (0 < x3.length) = true := decide_eq_true (by omega)) | (have hxb : decide (0 < (x3.length : Int)) = false := decide_eq_false hx; have hxc : decide (0 < x3.length) = false := decide_eq_false (by omega))
    clear hx
   all_goals
    cases d <;> (try simp only [if_true, if_false, eq_self, Bool.false_eq_true, Bool.not_true, Bool.not_false] at H)
   all_goals go_wp2_with (first | (go_at_call 64; refine cX (stT HS) H (fun t q b hI hB => dE.calls g _ _ _ t q b w0 _ hI hB) ?_; clear HS H; intro t q b w' HS H; (try dsimp only at H); rcases tS t ([41] : List UInt8) with ⟨c, cb1, cn1⟩ | ⟨c, cb1, cn1⟩ <;> (simp only [cn1, if_true, if_false, eq_self, Bool.false_eq_true] at H; clear c)) | ((with_reducible refine gC 23 rfl ?_); refine sU 23 rfl Tryz.func23 (stT HS) H (fun q b hI hB => aY.calls g _ _ _ _ q b w0 _ hI hB) ?_; clear HS H; intro q b w' HS H; (try dsimp only at H)) | (go_at_call 66; refine cL (stT HS) H (fun t q b hI hB h => DJ _ g _ _ _ t q b w0 _ hI hB h) ?_; clear HS H; intro t q b w' A c HS H; (try dsimp only at H)) | ((with_reducible refine bH (N := 26) rfl ?_); refine kR (N := 26) (stT HS) (by first | (go_simp; done) | (go_simp; rfl)) ?_; clear HS; intro A c w' HS) | ((with_reducible refine ed (b := .append) (xs := #[.tmp 23, .tmp 26]) rfl ?_); at_builtin; refine xW (N := 27) (.tmp 23) (.tmp 26) rfl Tryz.underlying55 info23 (stT HS) rfl rfl H ?_; clear HS H; intro A c w' HS H; (try replace H := hB H); (try dsimp only at H)))
   all_goals first
    | (go_roundg k2; (case measure => have := HK1.out; omega); (case rel => exact ⟨_, _, _, _, _, by first | rfl | simp, H, ⟨by have := HK1.out; omega⟩, stT HS⟩))
    | (have h_ := H.out; simp only [Option.some.injEq, Prod.mk.injEq] at h_; obtain ⟨rfl, rfl, rfl⟩ := h_; go_ret; exact (stT HS).zA)
end Go.Proofs.YtkbhkonenkgfoaaGreat.Q
end
